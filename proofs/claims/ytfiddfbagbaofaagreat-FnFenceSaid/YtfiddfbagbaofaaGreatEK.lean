/- Drawn scripts. Conditions: those in each statement. Printed by wip/T/genekp.py. -/
import Derived.Test.YtfiddfbagbaofaaGreatEJ
import Derived.KernelRfl
namespace Go.Proofs.YtfiddfbagbaofaaGreat.V
open Go
abbrev Rw:=Option Addr × Nat × Nat
structure Sk where
 ys:By
 i:Int
 h:Int
 u:Bool
 w:Bool
 a6:Int
 a7:Int
 a8:Int
 a9:Int
 a10:Int
 a11:Int
 a12:Int
 a14:Int
 a15:Int
 a16:Int
 a18:Int
 a19:Int
 a20:Int
 a23:Int
 a24:Int
 a25:Int
 a26:Int
 a27:Int
 a29:Int
 hs:By
 cd:By
 rs:List Rw
 F:Fz
def skV(z:Sk)(k:Nat):Av :=
 if k=21 then .sl 3 1 0 z.rs.length else if k=22 then .sl 4 1 0 z.hs.length else if k=28 then .sl 4 1 0 z.cd.length
 else if k=6 then .v (.int .i64 z.a6)
 else if k=7 then .v (.int .i64 z.a7)
 else if k=8 then .v (.int .i64 z.a8)
 else if k=9 then .v (.int .i64 z.a9)
 else if k=10 then .v (.int .i64 z.a10)
 else if k=11 then .v (.int .i64 z.a11)
 else if k=12 then .v (.int .u64 z.a12)
 else if k=14 then .v (.int .u64 z.a14)
 else if k=15 then .v (.int .u64 z.a15)
 else if k=16 then .v (.int .u64 z.a16)
 else if k=18 then .v (.int .u64 z.a18)
 else if k=19 then .v (.int .u64 z.a19)
 else if k=20 then .v (.int .i64 z.a20)
 else if k=23 then .v (.int .u64 z.a23)
 else if k=24 then .v (.int .i64 z.a24)
 else if k=25 then .v (.int .i64 z.a25)
 else if k=26 then .v (.int .u64 z.a26)
 else if k=27 then .v (.int .i64 z.a27)
 else if k=29 then .v (.int .i64 z.a29)
 else .any
def yl5(z:Sk)(l:List Nat):List Av:=slots 334 ([(0,.ptr 0 0),(3,.v (.bool z.u)),(4,.v (.bool z.w)),(5,.sl 2 1 0 z.ys.length)]++l.map fun k=>(k,skV z k))
def skH(m:By)(z:Sk)(l:List Nat):Heap:=zff m z.i z.h++[.arr [.i .u8] z.ys true]++(cond (l.contains 21) [.arr [.sv] z.rs true] [])++(cond (l.contains 22) [.arr [.i .u8] z.hs true] [])++(cond (l.contains 28) [.arr [.i .u8] z.cd true] [])
def skAt(m:By)(l:List Nat):CutW:={ β:=Sk,sl:=fun z=>yl5 z l,H:=fun z=>skH m z l,F:=fun z=>z.F }
def ScA(m:By)(L N:Nat)(z:Sk):Prop:=zbe m z.i∧InB z.ys∧z.ys.length=L∧(0≤z.a11∧z.a11≤20002)∧(U64 z.a12∧U64 z.a14∧U64 z.a15∧U64 z.a16∧U64 z.a18∧U64 z.a19∧U64 z.a23∧U64 z.a26)∧(InB z.hs∧z.hs.length≤8)∧(InB z.cd∧112≤z.cd.length)∧z.rs.length=N∧∀y ∈ z.rs,∃xs,z.F y xs∧InB xs∧xs.length≤300
def yr3:List (Nat × List Nat):=[(9,[6,7]),(13,[8]),(16,[8,9]),(18,[8,9]),(23,[11]),(25,[11]),(29,[11,12]),(35,[11,14]),(42,[11,14,15,16,18]),(55,[11,21,22]),(59,[11,21,23]),(77,[11,21,23,24,25,26]),(80,[11,21,23,24,25,26,27]),(82,[11,21,23,24,25,26,27])]
def ywk:List (Nat × List Nat):=[(20,[8,9,10]),(26,[11]),(30,[11,12]),(31,[11]),(36,[11,14]),(44,[11,14,15,16,18,19]),(45,[11,14,16,18,19]),(46,[11,14,18,19]),(47,[11,14,19]),(48,[11,14,19]),(49,[11,19]),(51,[11,20]),(52,[11]),(56,[11,21,22]),(60,[11,21,23]),(61,[11,21,23]),(62,[11,21,23]),(63,[11,21,23]),(64,[11,21,23]),(65,[11,21,23]),(66,[11,21,23]),(67,[11,21,23]),(68,[11,21,23]),(83,[11,21,23,24,25,26,27]),(84,[11,21]),(85,[11,21,28]),(86,[11,21])]
def skGh:List (Nat × Nat × Nat):=[(56,3,184),(60,4,193),(61,3,198),(62,7,207),(63,3,212),(64,4,218),(65,6,226),(66,4,232),(67,8,242),(68,6,250),(83,9,296),(85,4,305)]
def ywm(r:Nat):Option (Nat→Gh) :=
 if r=79 then none else if r=81 then none
 else if r=90 then some (fun i=>if i=4 then .thaw 324 else .std)
 else match skGh.lookup r with
  | some g=>some (fun i=>if i=g.1 then .freeze g.2 else .std)
  | none=>some (fun _ => .std)
def skL0(m:By):LoopW where
 α:=Sk
 I z:=ScA m z.a6.toNat 0 z∧0≤z.a6∧z.a6≤3
 sl z:=yl5 z [6]
 H z:=skH m z [6]
 F z:=z.F
 fams:=[{ β:=Sk,out:=fun _ z=>ScA m 3 0 z,ex := .ext 0,sl:=fun z=>yl5 z [],H:=fun z=>skH m z [],F:=fun z=>z.F }]
def skL1(m:By):LoopW where
 α:=Sk
 I z:=ScA m 87 (10+8*(z.a24-5)).toNat z∧5≤z.a24∧z.a24≤8
 sl z:=yl5 z [11,21,23,24]
 H z:=skH m z [11,21,23,24]
 F z:=z.F
 fams:=[{ β:=Sk,out:=fun _ z=>ScA m 87 34 z,ex := .ext 2,sl:=fun z=>yl5 z [11,21],H:=fun z=>skH m z [11,21],F:=fun z=>z.F }]
def skL2(m:By):LoopW where
 α:=Sk
 I z:=ScA m 87 (10+8*(z.a24-5)+z.a25).toNat z∧(5≤z.a24∧z.a24≤7)∧0≤z.a25∧z.a25≤8
 sl z:=yl5 z [11,21,23,24,25]
 H z:=skH m z [11,21,23,24,25]
 F z:=z.F
 fams:=[{ β:=Sk,out:=fun x z=>ScA m 87 (10+8*(x.a24-5)+8).toNat z∧z.a24=x.a24,ex := .ext 4,sl:=fun z=>yl5 z [11,21,23,24],H:=fun z=>skH m z [11,21,23,24],F:=fun z=>z.F }]
def skL3(m:By):LoopW where
 α:=Sk
 I z:=ScA m z.ys.length 35 z∧0≤z.a29∧z.a29≤35∧((z.ys.length:Int)≤100+300*z.a29∧88≤z.ys.length)
 sl z:=yl5 z [11,21,29]
 H z:=skH m z [11,21,29]
 F z:=z.F
 fams:=[{ β:=Sk,out:=fun _ z=>ScA m z.ys.length z.rs.length z∧(z.ys.length≤11000∧88≤z.ys.length),ex := .ext 6,sl:=fun z=>yl5 z [11],H:=fun z=>skH m z [11],F:=fun z=>z.F }]
def ywl(m:By)(k:Nat):Option LoopW:=if k=5 then some (skL0 m) else if k=70 then some (skL1 m) else if k=73 then some (skL2 m) else if k=88 then some (skL3 m) else none
def skX(m:By):SpecW:={ plan:=ywm,loop:=ywl m,cond:=fun k=>match yr3.lookup k with|some l=>some (skAt m l)|none=>none,cut:=fun k=>match ywk.lookup k with|some l=>some (skAt m l)|none=>none }
abbrev script1:RelS:=zvo [] [byP] ([]:By) (fun _=>True) (fun _ (y:By)=>InB y∧80≤y.length∧y.length≤20000)
def kRun:Known:=[(211,zag [i64,bsP] [byP] (fun t=>some (SzR t.2.length)) (fun t=>zjx t.1 t.2))]
def FEK:Dict:=mkD (kRun++(kEC0++yvr++kEB2++kB3++kA4)) [] []
def yrr:List (FuncId × RelS):=(214,prog1)::zu1
def zzu(m:By)(z:Sk):Prop:=zd5 Tryz.prog FEK (Rels.of yrr) (skX m) 2 (zai Tryz.f167 0) (skL0 m) (fun z:Sk=>(3-z.a6).toNat) z
def zzv(m:By)(z:Sk):Prop:=zd5 Tryz.prog FEK (Rels.of yrr) (skX m) 2 (zai Tryz.f167 1) (skL1 m) (fun z:Sk=>(8-z.a24).toNat) z
def zzw(m:By)(z:Sk):Prop:=zd5 Tryz.prog FEK (Rels.of yrr) (skX m) 2 (zai Tryz.f167 2) (skL2 m) (fun z:Sk=>(8-z.a25).toNat) z
def zzx(m:By)(z:Sk):Prop:=zd5 Tryz.prog FEK (Rels.of yrr) (skX m) 2 (zai Tryz.f167 3) (skL3 m) (fun z:Sk=>(35-z.a29).toNat) z
def ypg(m:By)(i h:Int):Prop:=vcR Tryz.prog FEK (Rels.of yrr) (skX m) Tryz.f167 script1 [.ptr 0 0] (zff m i h)
set_option linter.unusedVariables false
set_option maxRecDepth 10000
theorem zuv :
 let A0(a:Sk):=List.length a.1;
 let A1(a:Int):=IntKind.i64.wrap a;
 let A2(a:Nat):=a=0;
 let A3(a b c:Prop):=a∧b∧c;
 let A4(a:Sk):=a.27.length;
 let A5:=A2 0;
 let A6(a:By)(b:Nat):=List.length a=b;
 let A7(a b c d e:Prop):=A3 a b (A3 c d e);
 let A8(a b:By):=A6 a (List.length b);
 let A9(a:Int):=IntKind.u64.wrap a;
 let Aa(a:Int):=a/256;
 let Ab(a:Prop)(b c:Int)(d e f:Prop):=A7 a (b=c) d e f;
 let Ac:=Int.ofNat 0;
 let Ad(a:By)(b:Int × Int):=zbe a b.fst;
 let Ae(a:Int):=zc6 a (8:Int).toNat;
 let Af(a:By):=List.take (List.length a) (List.drop 0 a);
 let Ah(a:Sk)(b:Fz):=zj1 a.28 b;
 let Ai(a:Nat):=(0:Nat)+a;
 let Aj(a:Int)(b:By):=List.length (zjx a b);
 let Ak(a:Sk)(b:Nat):=A0 a=b;
 let Al(a:List (El [Ty.sv])):=List.take 1 (List.drop 0 a);
 let Am(a b:Sk):=Ak a (A0 b);
 let An(a b c d:Prop):=a∧A3 b c d;
 let Ao(a b:Int):=A1 (a+b);
 let Ap(a:Prop)(b c:Sk)(d:Prop):=A3 a (Ah b c.28) d;
 let Aq(a:PmT [byP] × Int × Int):=List.length a.fst;
 let Ar(a b:Int):=Ao a (A1 ((8:Int)*b));
 let Au(a:Sk)(b:List (El [Ty.i IntKind.u8])):=A0 a+b.length;
 let Aw(a b:Int):=Ar (A1 ((64:Int)*a)) b;
 let Ax(a b:Prop)(c:Nat):=A3 a b (c≤1073741824);
 let Ay(a b:Nat):=Ai a≤b;
 let Az(a:Option Addr × Nat × Nat):=(a.fst,a.snd.fst,a.snd.snd)::[];
 let AB(a:By)(b:PmT [i64] × Int × Int):=Ad a b.snd;
 let AC(a:By)(b:Prop)(c:Int):=An (A8 a a) b ((1:Int)≤c) (c≤100000);
 let AD(a:Int):=Aa (Aa a);
 let AE(a:Int)(b:List (El [Ty.i IntKind.u8])):=IntKind.u8.wrap a::b;
 let AF(a:Nat)(b:List (El [Ty.i IntKind.u8])):=List.take a (List.drop 0 b);
 let AG(a b:Sk):=a.4=b.4;
 let AH(a:By)(b:Sk):=zbe a b.2;
 let AI(a:PmT [u64] × Int × Int):=zc6 a.fst 8;
 let AJ(a b:Sk):=a.5=b.5;
 let AK(a b:Sk):=a.11=b.11;
 let AL:=(0:Int).toNat;
 let AM(a:Prop)(b c:Int)(d:Prop)(e:By)(f:Sk)(g h:Int)(i:Prop):=Ab a b c d A5 (Ab (A8 e e) f.2 g (f.3=h) (e=e) i);
 let AN(a b:Sk)(c d e:Prop):=A3 (AG a b) (AJ a b) (A7 A5 c (AK a b) d e);
 let AO(a b:Sk):=A4 a=A4 b;
 let AP(a:By)(b:PmT [bl] × Int × Int):=Ad a b.snd;
 let AQ(a b:Sk)(c:Prop):=AN a b (Am a b) A5 c;
 let AR(a:Prop)(b c:Int)(d:By)(e:Sk)(f g:Int)(h:Sk)(i:Prop):=Ab a b c A5 (A8 d d) (Ab (e.2=f) e.3 g (d=d) (e.1=h.1) i);
 let AS(a:Sk)(b:Option Addr × Nat × Nat):=A4 a+(Al (Az b)).length;
 let AT(a b:Sk)(c:Prop)(d e:Int)(f:Prop)(g:By)(h i:Int)(j:Prop)(k:Sk→Prop):=Ap (An (AG a b) (AJ a b) A5 (AM c d e f g a h i j)) a b (k a);
 let AU(a b:Sk)(c:Prop)(d e f g:Int)(h:By)(i j:Int)(k:Prop)(l:Sk→Prop):=AT a b c d e (f=g) h i j k l;
 let AV(a b:Sk)(c:Option Addr × Nat × Nat)(d:Int)(e:By)(f g:Int)(h:Option Addr × Nat × Nat→List Int→Prop)(i:Sk→Prop):=A3 (AQ a b (AR (A4 a=AS b c) a.19 d e a f g b (a.27=List.take (A4 b) b.27++Al (Az c))))
  (zj1 a.28 h) (i a);
 let AW(a:Int)(b c:Prop):=A3 (U64 a) b c;
 let AX(a b c:Prop):=a→b∧c;
 let AY:=(8:Int)≤(8:PmT [i64]);
 let AZ(a:Int):=(0:Int)≤a;
 let B0(a:By)(b:Sk)(c:Int):=AC a (AH a b) c;
 let B1(a b c d e f g h i:Prop):=A7 a b c d (A7 e f g h i);
 let B2(a:Sk)(b:List (El [Ty.i IntKind.u8])):=List.take (A0 a) a.1++b;
 let B3:=(112:Int).toNat;
 let B4(a:Sk):=(↑(A4 a):Int);
 let B5(a:By)(b:PmT [i64] × Int × Int)(c:Int):=A3 (AB a b) ((0:Int)≤b.fst) (b.fst<c);
 let B6(a:Sk):=A0 a≤A0 a;
 let B7:=(0:PmT [i64])≤8;
 let B8(a:Int):=zc6 (A9 a) 8;
 let B9(a:PmT [bl] × Int × Int):=a.snd.snd;
 let Ba(a b:Nat)(c:Sk)(d:Nat):=Ax (Ay a b) (B6 c) d;
 let Bb(a:Prop)(b c:Int)(d e:Prop)(f g h i:Int)(j:By)(k:Sk)(l m:Int)(n:Sk)(o:Prop):=Ab a b c d e (AR (f=g) h i j k l m n o);
 let Bc(a b:Sk)(c:Option Addr × Nat × Nat)(d:By)(e:PmT [u64] × Int × Int)(f:Option Addr × Nat × Nat→List Int→Prop)(g:Sk→Prop):=AV a b c b.19 d e.snd.fst e.snd.snd f g;
 let Bd(a b:Sk)(c d e f:Int)(g:By)(h i:Int)(j:Sk→Prop):=AU a b (Am a b) c d e f g h i (a.1=b.1) j;
 let Be(a:PmT [bl] × Int × Int):=a.snd.fst;
 let Bf(a b:Sk)(c:List (El [Ty.i IntKind.u8])):=a.1=B2 b c;
 let Bg(a:Prop)(b:By)(c:Prop)(d:Int)(e:Prop):=AX a (AC b c d) e;
 let Bh(a:PmT [i64] × Int × Int):=a.snd.snd;
 let Bi(a:Int):=(4:Int)*a;
 let Bj(a:Sk):=(88:Nat)≤A0 a;
 let Bk(a:PmT [i64] × Int × Int):=a.snd.fst;
 let Bl(a b c d:Prop):=a→A3 b c d;
 let Bm(a:By)(b:Int)(c:Sk):=ScA a 87 b.toNat c;
 let Bn(a:PmT [i64] × Int × Int):=A1 ((1:Int)+a.fst);
 let Bo(a b:Sk)(c:Int):=Ak a (Au b (Af (Ae c)));
 let Bp(a b:Sk)(c:Int):=Bf a b (Af (Ae c));
 let Bq(a:Int):=AF 1 (AE a []);
 let Br(a:By)(b c d e:Int)(f:Prop):=Ab (A8 a a) b c (d=e) (a=a) f;
 let Bs(a:PmT [i64] × Int × Int):=zng (Bn a) 2;
 let Bt(a:Int)(b:By):=zjx (Aw a 1) b;
 let Bu(a:Prop)(b:By)(c:Sk)(d:Int)(e:Prop):=AX a (B0 b c d) e;
 let Bv(a:Prop)(b c:Int)(d:Prop)(e:By)(f:Sk)(g h:Int)(i:Sk)(j:Int):=AM a b c d e f g h (Bp f i j);
 let Bw(a:Prop)(b:By)(c d:Prop):=AX a (A3 (A8 b b) c True) d;
 let Bx(a b:Sk):=a.27=b.27;
 let Bz(a:Sk):=zc6 (A9 a.11) (2:Int).toNat;
 let BA(a:Prop)(b c:Sk)(d:Sk→Prop):=Ap a b c (d b);
 let BB(a b:Sk)(c:Int)(d:By)(e f:Int)(g:Sk→Prop):=Ap (AQ a b (Bb (AO a b) a.19 b.19 (a.20=b.20) (a.21=b.21) a.22 b.22 a.23 c d a e f b (Bx a b))) a b (g a);
 let BC(a:Int)(b:Sk):=Ba (List.length (Ae a)) (List.length (Ae a)) b (Au b (Af (Ae a)));
 let BD(a:Int)(b:PmT [u64] × Int × Int):=Aj (Aw a 0) (AI b);
 let BE(a:Int)(b:By):=Aj (Aw a 1) b;
 let BF(a b:Int):=(a-b).toNat;
 let BG(a:PmT [bl] × Int × Int):=a.fst=true;
 let BH(a:Int):=a+8;
 let BI(a:Int)(b:PmT [u64] × Int × Int):=zjx (Aw a 0) (AI b);
 let BJ(a b:Sk)(c d:Prop)(e:By)(f g h i:Int)(j:Prop)(k:Sk→Prop):=BA (A3 (AG a b) (AJ a b) (A7 A5 c d A5 (Br e f g h i j))) a b k;
 let BK(a:Int)(b:List (El [Ty.i IntKind.u8])):=a % 256::Aa a % 256::b;
 let BL(a:Int)(b:List (El [Ty.i IntKind.u8])):=AF 2 (AE a b);
 let BM:=Int.ofNat 12;
 let BN(a:By)(b:PmT [u64] × Int × Int):=Ad a b.snd∧U64 b.fst;
 let BO(a:Sk):=(10:Int)+8*(a.20-5);
 let BP(a:Sk):=zc6 a.19 8;
 let BQ(a b:Int):=Ao a (A1 b);
 let BR(a:Option Addr × Nat × Nat)(b:Sk)(c:Prop):=Ax (Ay 1 (Az a).length) (A4 b≤A4 b) (AS b a)∧c;
 let BS(a b:Sk)(c:List (El [Ty.i IntKind.u8])):=Ak a (Au b c);
 let BT(a b:Sk):=a.1=b.1;
 let BU:=Int.ofNat 1;
 let BV(a:By)(b:Sk):=ScA a 87 34 b;
 let BW(a b c d:Prop):=(a∧(b→c))∧d;
 let BX(a:By):=Ay (List.length a) (List.length a);
 let BY(a:Prop)(b:PmT [bl] × Int × Int)(c d:Prop):=BW a (b.fst=false) c d;
 let BZ(a:Int):=Ao a 1;
 let C0:=Aw 3 2;
 let C1(a:Int):=A9 (A9 a*1024);
 let C2(a:By)(b:PmT [bl] × Int × Int)(c:Prop):=AP a b∧True→c;
 let C3(a:By)(b:Sk):=ScA a 3 0 b;
 let C4(a b:Int):=decide (a<b)=false;
 let C5(a b:Sk)(c:Int)(d:By):=An (AG a b) (AJ a b) A5 (Bb (Am a b) a.11 b.11 A5 (AO a b) a.19 b.19 a.20 c d a b.2 b.3 b (Bx a b));
 let C6(a b:Sk)(c:PmT [i64] × Int × Int)(d:Prop)(e:By)(f g:Int)(h:Sk→Prop):=BA (AN a b (Bo a b b.13) (a.13=b.13) (Bv (a.14=A9 (Ao (A1 ((64:Int)*A1 ((2:Int)+c.fst))) 16)) a.15 4416 d e
  a f g b b.13)) a b h;
 let C7(a b:Sk)(c:Prop)(d:By)(e f:Int)(g:Sk→Prop):=BJ a b (BS a b (BL b.8 (AE (BQ b.9 (Bi b.10)) []))) c d a.2 e a.3 f (Bf a b (BL b.8 (AE (BQ b.9 (Bi b.10)) []))) g;
 let C8(a:By)(b:PmT [i64] × Int × Int):=B5 a b 2;
 let C9(a b:Sk)(c:Int)(d:By)(e f:Int)(g:Sk→Prop):=BA (A7 (AG a b) (AJ a b) A5 (Bo a b c) (Bv (AK a b) a.13 b.13 (a.17=b.17) d a e f b c)) a b g;
 let Ca(a:Prop)(b:By)(c:Sk)(d:Prop):=Bw a b (AH b c) d;
 let Cb(a:PmT [u64] × Int × Int):=(16384:Int)+a.fst;
 let Cc(a b:Sk)(c:List (El [Ty.i IntKind.u8]))(d:Int)(e:By):=AN a b (BS a b c) A5 (Ab (AO a b) a.24 d A5 (A8 e e) (Ab (a.2=b.2) a.3 b.3 (e=e) (Bf a b c) (Bx a b)));
 let Cd(a:Prop)(b:By)(c d:Prop):=Bg a b c 3 d;
 let Ce(a:Sk):=zjx 0 (Af a.25);
 let Cf(a:PmT [u64] × Int × Int):=(24576:Int)+a.fst;
 let Cg(a b:Int):=decide (a<b)=true;
 let Ch(a:PmT [u64] × Int × Int):=a.snd.snd;
 let Ci(a:PmT [u64] × Int × Int):=a.snd.fst;
 let Cj(a:Sk):=Af (Bz a);
 let Ck(a b:Int)(c:List (El [Ty.i IntKind.u8])):=AE a (AE b c);
 let Cl(a:PmT [byP] × Int × Int):=(↑(Aq a):Int);
 let Cm(a b:Sk)(c:Prop):=AG a b∧c;
 let Cn(a b:Sk)(c:Prop)(d:By)(e f:Int)(g:Prop)(h:Sk→Prop):=BA (B1 (AG a b) (AJ a b) A5 (Am a b) (AK a b) A5 (AO a b) A5 (B1 c A5 (A8 d d) (a.2=e) (a.3=f) (d=d) (BT a b) (Bx a b) g)) a b h;
 let Co(a b:Sk)(c:Nat)(d:By)(e:PmT [bl] × Int × Int)(f:Prop)(g:Sk→Prop):=BA (B1 (AG a b) (AJ a b) A5 (Am a b) (AK a b) A5 (A2 (A4 a)) A5 (B1 (A6 a.25 c) A5 (A8 d d) (a.2=Be e) (a.3=B9 e) (d=d) (BT a
  b) (a.27=[]) f)) a b g;
 let Cp(a:Int)(b:Nat)(c:Prop):=AW a (Ay b b) c;
 let Cq(a:Int):=bits BinOp.and IntKind.i64 a 255;
 let Cr(a:By)(b:PmT [i64] × Int × Int):=B5 a b 16;
 let Cs(a:Sk):=List.take (B3-AL) (List.drop (Ai AL) a.26);
 let Ct(a:Sk):=A0 a≤11000;
 let Cu:=(4:Nat)+4;
 let Cv(a:Sk)(b:Option Addr × Nat × Nat)(c:List Int)(d:Option Addr × Nat × Nat)(e:By):=a.28 b c∨b=d∧c=Af e;
 let Cw(a:By)(b:PmT [u64] × Int × Int)(c:Nat)(d:Prop):=Bl (BN a b) (U64 b.fst) (Ay c c) d;
 let Cx(a b:Int):=bif a==0 then decide (b>1) else false;
 let Cy(a:PmT [byP] × Int × Int)(b:Nat)(c:By)(d e:Int)(f:Prop):=A7 (An A5 (Aq a=b) A5 (Br c a.snd.fst d a.snd.snd e f)) (Ad c a.snd) (InB a.fst) ((80:Nat)≤Aq a) (Aq a≤20000);
 let Cz(a b c d e f:Prop)(g:By)(h:Sk)(i j:Int)(k:Sk)(l:Prop):=B1 a b c d e f A5 (A8 g g) (Ab (h.2=i) h.3 j (g=g) (BT h k) l);
 let CA(a b:Sk)(c:By):=Cm a b (B1 (AJ a b) A5 (Am a b) (AK a b) A5 (AO a b) A5 (A8 c c) (Ab (a.2=b.2) a.3 b.3 (c=c) (BT a b) (Bx a b)));
 let CB(a:By)(b c:Sk):=Bm a (BH (BO b)) c;
 let CC(a:Int)(b:Sk)(c:By)(d:Int)(e f g:Prop):=BW (Bg (Cx a b.21=true) c (zbe c (iN (List.length c) b.2)) d e) (Cx a b.21=false) f g;
 let CD(a:Sk):=(5:Int)≤a.20;
 let CE(a:Sk):=Ai a.24.toNat;
 let CF(a:By)(b:Sk):=ScA a (A0 b) (A4 b) b;
 let CG(a b:Sk):=Ak a (A0 b+8);
 let CH(a:Sk):=C1 a.23+a.22;
 let CI(a:Int)(b:List Int):=IntKind.u8.wrap a::b;
 let CJ(a:Prop)(b:By)(c:Sk)(d:Prop):=Bu a b c 2 d;
 let CK(a:By)(b:PmT [u64] × Int × Int)(c:Prop):=BN a b→c;
 let CL(a:Sk→Prop)(b:Sk)(c d:Int)(e:Prop)(f:By)(g:Int)(h:Prop):=a b→An (AW c ((0:PmT [i64])≤d) (d≤(8:PmT [i64]))) e (B0 f b g) h;
 let CM(a:Sk):=BF 35 a.24;
 let CN(a:By)(b:Sk):=A7 (ScA a (A0 b) 35 b) (AZ b.24) (b.24≤35) ((↑(A0 b):Int)≤(100:Int)+300*b.24) (Bj b);
 let CO(a b:Sk):=a.20=b.20;
 let CP(a:Sk)(b c d:Prop):=BW (a.4=true→b) (a.4=false) c d;
 let CQ(a b:Int)(c:List (El [Ty.i IntKind.u8])):=Ck a (Ar Ac Ac) (Ck Ac (Cq b) c);
 let CR(a:By)(b:Sk):=ScA a b.6.toNat 0 b;
 let CS(a:By)(b:Sk):=An (Bm a (BO b+b.21) b) (CD b∧b.20≤7) (AZ b.21) (b.21≤8);
 let CT(a:Sk):=List.length (zjx 512 (Cs a));
 let CU(a:Sk)(b:Option Addr × Nat × Nat→List Int→Prop):=zj1 a.28 b;
 let CV(a:Int)(b:PmT [i64] × Int × Int):=a=b.fst;
 let CW(a:Sk):=(a.27.getD (CE a) (El.zero (Ty.sv::[]))).snd;
 let CX(a:PmT [byP] × Int × Int):=List.take (Aq a) (List.drop 0 a.fst);
 let CY(a b:Sk)(c:Option Addr × Nat × Nat):=A4 a=AS b c;
 let CZ(a:Prop)(b c:Sk)(d e:Prop):=An a (Ah b c.28) d e;
 let D0(a:By)(b:PmT [i64] × Int × Int)(c:Prop):=B5 a b 3→c;
 let D1:=BK Ac (BK (AD Ac) (BK (AD (AD Ac)) (BK (AD (AD (AD Ac))) [])));
 let D2(a:Sk→Prop)(b:Sk)(c:Int)(d:Prop):=AX (a b) (Ax (Ay 1 (AE c []).length) (B6 b) (Au b (Bq c))) d;
 let D3(a:Sk→Prop)(b:Sk)(c:By)(d:Int)(e:Prop):=AX (a b) (An (A8 c c) (AH c b) ((1:Int)≤d) (d≤256)) e;
 let D4(a b:Sk):=a.19=b.19;
 let D5(a b:Sk)(c:Option Addr × Nat × Nat):=a.27=List.take (A4 b) b.27++Al (Az c);
 let D6(a:Sk→Prop)(b:Sk)(c:Int)(d:Prop):=Bl (a b) (AW c B7 AY) (BC c b) d;
 (∀(m:By)(z:Sk),zzu m z=(Bu (Cg z.6 3) m z 16 (∀(x0:PmT [i64] × Int × Int),Cd (Cr m x0) m (AB m x0) (∀(x1:PmT [bl] × Int × Int),C2 m x1 (∃(x2:Sk→Prop),BY (AX (BG x1) ((2:Int)
  ≠ 0) (∃(x3:Sk),Bd x3 z x3.6 z.6 x3.7 (Int.tmod x0.fst 2) m (Be x1) (B9 x1) x2)) x1 (∃(x4:Sk),AT x4 z (Am x4 z) x4.6 z.6 (CV x4.7 x0) m (Be x1) (B9 x1) (BT x4 z) x2) (∀(x5:Sk),
  D2 x2 x5 x5.7 (∃(x6:Sk),A7 (A3 (AG x6 x5) (AJ x6 x5) (A7 A5 (BS x6 x5 (Bq x5.7)) (x6.6=BZ x5.6) A5 (Br m x6.2 x5.2 x6.3 x5.3 (Bf x6 x5 (Bq x5.7))))) (Ah x6 x5.28) (A3 (CR m x6) (AZ x6.6) (x6.6
  ≤ 3)) (BF 3 x6.6<BF 3 z.6) (∀(x7:Sk),C3 m x7→C3 m x7))))))∧(C4 z.6 3→∃(x8:Sk),Ap (Cm x8 z (A7 (AJ x8 z) A5 (Am x8 z) A5 (Br m x8.2 z.2 x8.3 z.3 (BT x8 z)))) x8 z
  (C3 m x8))))∧(∀(m:By)(z:Sk),zzv m z=((Cg z.20 8→∃(x0:Sk),CZ (B1 (AG x0 z) (AJ x0 z) A5 (Am x0 z) (AK x0 z) A5 (AO x0 z) (x0.19=z.19) (AR (x0.20=z.20) x0.21 0 m x0 z.2 z.3 z (Bx
  x0 z))) x0 z (CS m x0) (∀(x1:Sk),CB m x0 x1∧CO x1 x0→∃(x2:Sk),A7 (C5 x2 x1 (BZ x1.20) m) (Ah x2 x1.28) (A3 (Bm m (BO x2) x2) (CD x2) (x2.20≤8)) (BF 8 x2.20<BF 8
  z.20) (∀(x3:Sk),BV m x3→BV m x3)))∧(C4 z.20 8→∃(x4:Sk),Ap (CA x4 z m) x4 z (BV m x4))))∧(∀(m:By)(z:Sk),zzw m z=(Ca (Cg z.21 8) m z (∀(x0:PmT [u64] × Int × Int),CK m
  x0 (∃(x1:Sk→Prop),BW (Cg z.21 2→∃(x2:Sk),BA (Cm x2 z (B1 (AJ x2 z) A5 (Am x2 z) (AK x2 z) A5 (AO x2 z) (D4 x2 z) (x2.20=z.20) (AR (x2.21=z.21) x2.22 (A9 (BH z.19)) m x2 (Ci x0) (Ch
  x0) z (Bx x2 z)))) x2 z x1) (C4 z.21 2) (∃(x3:Sk),BA (Cm x3 z (A7 (AJ x3 z) A5 (Am x3 z) (AK x3 z) (Cz A5 (AO x3 z) (D4 x3 z) (CO x3 z) (x3.21=z.21) (x3.22=x0.fst) m x3 (Ci x0) (Ch x0) z
  (Bx x3 z)))) x3 z x1) (∀(x4:Sk),D3 x1 x4 m 4 (∃(x5:Sk→Prop),CC (byM m x4.2 x4.3 % 4) x4 m 8 (∀(x6:PmT [i64] × Int × Int),B5 m x6 8→∃(x7:Sk),BB x7 x4 (A1 ((8:Int)
  + x6.fst)) m (Bk x6) (Bh x6) x5) (∃(x8:Sk),BB x8 x4 (Ao 8 x4.21) m (iN (List.length m) x4.2) (hN x4.3) x5) (∀(x9:Sk),D3 x5 x9 m 14 (∃(x10:Sk→Prop),CC (byM m x9.2 x9.3 % 14)
  x9 m 9 (∀(x11:PmT [i64] × Int × Int),B5 m x11 9→∃(x12:Sk),BB x12 x9 (A1 ((60:Int)+x11.fst)) m (Bk x11) (Bh x11) x10) (∃(x13:Sk),BB x13 x9 x9.23 m (iN (List.length m) x9.2) (hN
  x9.3) x10) (∀(x14:Sk),x10 x14→∃(x15:Sk→Prop),(∃(x16:Sk),BB x16 x14 x14.23 m x14.2 x14.3 x15)∧∀(x17:Sk),x15 x17→Cp (A9 (CH x17)) (Aj (Aw x17.20 x17.21) (B8 (CH x17))) (∀(x18:Option
  Addr × Nat × Nat),BR x18 x17 (∃(x19:Sk),A7 (B1 (AG x19 x17) (AJ x19 x17) A5 (Am x19 x17) (AK x19 x17) A5 (CY x19 x17 x18) (D4 x19 x17) (AR (CO x19 x17) x19.21 (BZ x17.21) m x19 x17.2 x17.3 x17 (D5
  x19 x17 x18))) (CU x19 (fun  (x20:Option Addr × Nat × Nat)=>fun  (x21:List Int)=>Cv x17 x20 x21 x18 (zjx (Aw x17.20 x17.21) (B8 (CH x17))))) (CS m x19) (BF 8 x19.21<BF 8 z.21) (∀(x22 :
  Sk),AX (CB m x19 x22∧CO x22 x19) (CB m z x22) (CO x22 z)))))))))))∧(C4 z.21 8→∃(x23:Sk),CZ (C5 x23 z z.20 m) x23 z (CB m z x23) (CO x23 z))))∧(∀(m:By)(z:Sk),zzx m z=(Bl (Cg
  z.24 (B4 z)) (AZ z.24∧z.24<B4 z) (CE z<A4 z) (∃(x0:List (El [Ty.i IntKind.u8])),A3 (z.28 ((z.27.getD (CE z) (El.zero (Ty.sv::[]))).fst,(CW z).fst,(CW z).snd) x0) (Ba x0.length x0.length z (Au z (AF x0.length
  x0))) (∃(x1:Sk),A7 (Cc x1 z (AF x0.length x0) (BZ z.24) m) (Ah x1 z.28) (CN m x1) (CM x1<CM z) (∀(x2:Sk),Bl (A3 (CF m x2) (Ct x2) (Bj x2)) (CF m x2) (Ct x2) (Bj x2))))∧(C4 z.24 (B4 z) →
  ∃(x3:Sk),A7 (AQ x3 z (Br m x3.2 z.2 x3.3 z.3 (BT x3 z))) (Ah x3 z.28) (CF m x3) (Ct x3) (Bj x3))))∧(∀(m:By)(i h:Int),ypg m i h=(AC m (zbe m i) 4∧∀(x0:PmT [bl] × Int × Int),Cd (AP m x0
  ∧ True) m (AP m x0) (∀(x1:PmT [i64] × Int × Int),D0 m x1 (∃(x2:Sk),An (A3 (x2.4=x0.fst) (x2.5=decide (x1.fst>0)) (A7 A5 (A2 (A0 x2)) (x2.6=0) A5 (Br m x2.2 (Bk x1) x2.3 (Bh x1) (x2.1 =
  [])))) (Ah x2 Fz.none) (A3 (CR m x2) (AZ x2.6) (x2.6≤3)) (∀(x3:Sk),Bu (C3 m x3) m x3 8 (∀(x4:PmT [bl] × Int × Int),C2 m x4 (∃(x5:Sk→Prop),BY (Bg (BG x4) m (AP m x4) 40 (∀
  (x6:PmT [i64] × Int × Int),B5 m x6 40→∃(x7:Sk),BJ x7 x3 (Am x7 x3) (x7.8=A1 ((14:Int)+x6.fst)) m x7.2 (Bk x6) x7.3 (Bh x6) (BT x7 x3) x5)) x4 (∃(x8:Sk),BJ x8 x3 (Am x8 x3) (x8.8
  = 63) m x8.2 (Be x4) x8.3 (B9 x4) (BT x8 x3) x5) (∀(x9:Sk),x5 x9→∃(x10:Sk→Prop),CP x9 (∃(x11:Sk),Bd x11 x9 x11.8 x9.8 x11.9 0 m x9.2 x9.3 x10) (∃(x12:Sk),Bd x12 x9
  x12.8 x9.8 x12.9 1 m x9.2 x9.3 x10) (∀(x13:Sk),Bu (x10 x13) m x13 25 (∀(x14:PmT [bl] × Int × Int),C2 m x14 (∃(x15:Sk→Prop),BY (BG x14→∃(x16:Sk),Bd x16 x13 x16.8 x13.8 x16.9
  2 m (Be x14) (B9 x14) x15) x14 (∃(x17:Sk),Bd x17 x13 x17.8 x13.8 x17.9 x13.9 m (Be x14) (B9 x14) x15) (∀(x18:Sk),Bu (x15 x18) m x18 4 (∀(x19:PmT [i64] × Int × Int),B5 m x19 (4 :
  Int)→∃(x20:Sk→Prop),(∃(x21:Sk),BA (A7 (AG x21 x18) (AJ x21 x18) A5 (Am x21 x18) (AM (x21.8=x18.8) x21.9 x18.9 (CV x21.10 x19) m x21 (Bk x19) (Bh x19) (BT x21 x18))) x21 x18 x20)∧∀(x22:Sk),
  Bl (x20 x22) (Ba 2 (Ck x22.8 (BQ x22.9 (Bi x22.10)) []).length x22 (Au x22 (BL x22.8 (AE (BQ x22.9 (Bi x22.10)) [])))) (B0 m x22 70) (∀(x23:PmT [i64] × Int × Int),Bg (B5 m x23 (70 :
  Int)) m (AB m x23) 12 (∀(x24:PmT [bl] × Int × Int),C2 m x24 (∃(x25:Sk→Prop),BY (Cd (BG x24) m (AP m x24) (∀(x26:PmT [i64] × Int × Int),D0 m x26 (∃(x27:Sk),C7 x27 x22 (CV x27.11 x26) m
  (Bk x26) (Bh x26) x25))) x24 (∃(x28:Sk),C7 x28 x22 (x28.11=A1 ((15:Int)+x23.fst)) m (Be x24) (B9 x24) x25) (∀(x29:Sk),Bu (x25 x29) m x29 60 (∀(x30:PmT [bl] × Int × Int),C2 m x30 (∃
  (x31:Sk→Prop),BY (Cd (BG x30) m (AP m x30) (∀(x32:PmT [i64] × Int × Int),D0 m x32 (∃(x33:Sk),BJ x33 x29 (Am x33 x29) (x33.11=A1 ((19999:Int)+x32.fst)) m x33.2 (Bk x32) x33.3 (Bh x32) (BT
  x33 x29) x31))) x30 (∃(x34:Sk),BA (AQ x34 x29 (Br m x34.2 (Be x30) x34.3 (B9 x30) (BT x34 x29))) x34 x29 x31) (∀(x35:Sk),x31 x35→∃(x36:Sk→Prop),(∃(x37:Sk),BA (AQ x37 x35 (Br m x37.2
  x35.2 x37.3 x35.3 (BT x37 x35))) x37 x35 x36)∧∀(x38:Sk),CL x36 x38 (A9 x38.11) 2 (Ba (List.length (Bz x38)) (List.length (Bz x38)) x38 (Au x38 (Cj x38))) m 20 (∀(x39:PmT [bl] × Int ×
  Int),C2 m x39 (∃(x40:Sk→Prop),BY (Bw (BG x39) m (AP m x39) (∀(x41:PmT [u64] × Int × Int),CK m x41 (∃(x42:Sk),AT x42 x38 (BS x42 x38 (Cj x38)) x42.11 x38.11 (x42.12=x41.fst) m (Ci x41) (Ch
  x41) (Bf x42 x38 (Cj x38)) x40))) x39 (∃(x43:Sk),AU x43 x38 (BS x43 x38 (Cj x38)) x43.11 x38.11 x43.12 0 m (Be x39) (B9 x39) (Bf x43 x38 (Cj x38)) x40) (∀(x44:Sk),x40 x44→∃(x45 :
  Sk→Prop),(∃(x46:Sk),Bd x46 x44 x46.11 x44.11 x46.12 x44.12 m x44.2 x44.3 x45)∧∀(x47:Sk),D6 x45 x47 x47.12 (∃(x48:Sk→Prop),(∃(x49:Sk),BA (AN x49 x47 (Bo x49 x47 x47.12) A5 (Br m x49.2
  x47.2 x49.3 x47.3 (Bp x49 x47 x47.12))) x49 x47 x48)∧∀(x50:Sk),CL x48 x50 Ac (Int.ofNat 8) (Ax ((Ai 8).le 8) (B6 x50) (A0 x50+8)) m 2 (∀(x51:PmT [i64] × Int × Int),
  Bg (C8 m x51) m (AB m x51) 30 (∀(x52:PmT [bl] × Int × Int),C2 m x52 (∃(x53:Sk→Prop),BY (Bg (BG x52) m (AP m x52) 16 (∀(x54:PmT [i64] × Int × Int),AX (Cr m x54) ((60:Int)≤(64:PmT
  [i64])) (∃(x55:Sk),AU x55 x50 (CG x55 x50) x55.11 x50.11 x55.13 (A9 (IntKind.u64.wrap x54.fst*pw 60)) m (Bk x54) (Bh x54) (Bf x55 x50 D1) x53))) x52 (∃(x56:Sk),AU x56 x50 (CG x56 x50)
  x56.11 x50.11 x56.13 (zng (Bn x51) 1) m (Be x52) (B9 x52) (Bf x56 x50 D1) x53) (∀(x57:Sk),x53 x57→∃(x58:Sk→Prop),(∃(x59:Sk),Bd x59 x57 x59.11 x57.11 x59.13 x57.13 m x57.2 x57.3
  x58)∧∀(x60:Sk),x58 x60→An (AW x60.13 B7 AY) (BC x60.13 x60) (B0 m x60 4) (∀(x61:PmT [i64] × Int × Int),Bg (B5 m x61 4) m (AB m x61) 8 (∀(x62:PmT [i64] × Int × Int),Bw (B5 m
  x62 8) m (AB m x62) (∀(x63:PmT [u64] × Int × Int),Bg (BN m x63) m (Ad m x63.snd) 8 (∀(x64:PmT [bl] × Int × Int),C2 m x64 (∃(x65:Sk→Prop),BY (Bw (BG x64) m (AP m x64) (∀(x66:PmT [u64] ×
  Int × Int),CK m x66 (∃(x67:Sk),C6 x67 x60 x61 (x67.16=x66.fst) m (Ci x66) (Ch x66) x65))) x64 (∃(x68:Sk),C6 x68 x60 x61 (x68.16=A9 (C1 (A1 ((8:Int)+x62.fst))+x63.fst)) m (Be x64) (B9
  x64) x65) (∀(x69:Sk),Bu (x65 x69) m x69 16 (∀(x70:PmT [i64] × Int × Int),Cr m x70→∃(x71:Sk→Prop),(∃(x72:Sk),BA (An (AG x72 x69) (AJ x72 x69) A5 (Ab (Am x72 x69) x72.11 x69.11 (x72.13 =
  x69.13) (x72.14=x69.14) (AM (x72.15=x69.15) x72.16 x69.16 (x72.17=A9 (Ao (BQ 512 ((64:Int)*x70.fst)) 8)) m x72 (Bk x70) (Bh x70) (BT x72 x69)))) x72 x69 x71)∧∀(x73:Sk),D6 x71 x73
  x73.14 (∃(x74:Sk→Prop),(∃(x75:Sk),BA (AN x75 x73 (Bo x75 x73 x73.14) (x75.13=x73.13) (Bv (x75.15=x73.15) x75.16 x73.16 (x75.17=x73.17) m x75 x73.2 x73.3 x73 x73.14)) x75 x73 x74)∧∀(x76 :
  Sk),D6 x74 x76 x76.15 (∃(x77:Sk→Prop),(∃(x78:Sk),BA (Cm x78 x76 (A7 (AJ x78 x76) A5 (Bo x78 x76 x76.15) (AK x78 x76) (Bv (x78.13=x76.13) x78.16 x76.16 (x78.17=x76.17) m x78 x76.2 x76.3 x76
  x76.15))) x78 x76 x77)∧∀(x79:Sk),D6 x77 x79 x79.16 (∃(x80:Sk→Prop),(∃(x81:Sk),C9 x81 x79 x79.16 m x79.2 x79.3 x80)∧∀(x82:Sk),CJ (x80 x82) m x82 (∀(x83:PmT [i64] × Int × Int),Bl (C8 m
  x83) (AW (Bs x83) B7 AY) (BC (Bs x83) x82) (∃(x84:Sk→Prop),(∃(x85:Sk),C9 x85 x82 (Bs x83) m (Bk x83) (Bh x83) x84)∧∀(x86:Sk),D6 x84 x86 x86.13 (∃(x87:Sk→Prop),(∃(x88:Sk),AU x88
  x86 (Bo x88 x86 x86.13) x88.11 x86.11 x88.17 x86.17 m x86.2 x86.3 (Bp x88 x86 x86.13) x87)∧∀(x89:Sk),x87 x89→An (AW x89.17 B7 AY) (BC x89.17 x89) (B0 m x89 3) (∀(x90:PmT [i64] × Int × Int),
  D0 m x90 (∃(x91:Sk→Prop),(∃(x92:Sk),AT x92 x89 (Bo x92 x89 x89.17) x92.11 x89.11 (CV x92.18 x90) m (Bk x90) (Bh x90) (Bp x92 x89 x89.17) x91)∧∀(x93:Sk),D6 x91 x93 (A9 x93.18) (∃(x94:Sk
  → Prop),(∃(x95:Sk),BA (AN x95 x93 (Bo x95 x93 (A9 x93.18)) A5 (Br m x95.2 x93.2 x95.3 x93.3 (Bp x95 x93 (A9 x93.18)))) x95 x93 x94)∧∀(x96:Sk),Bu (x94 x96) m x96 6 (∀(x97:PmT [bl] × Int ×
  Int),C2 m x97 (∃(x98:Sk→Prop),BY (AX (BG x97) (Ax ((Ai 4).le 4) ((4:Nat)≤4) Cu) (∃(x99:Sk),Co x99 x96 Cu m x97 (x99.25=CQ (Int.ofNat 11) Ac (CQ BM BU [])) x98))
  x97 (∃(x100:Sk),Co x100 x96 4 m x97 (x100.25=CI BM (CI (Ar Ac Ac) (CI Ac (CI (Cq BU) [])))) x98) (∀(x101:Sk),x98 x101→∃(x102:Sk→Prop),(∃(x103:Sk),Cn x103 x101 (A8 x103.25
  x101.25) m x101.2 x101.3 (x103.25=x101.25) x102)∧∀(x104:Sk),Bl (x102 x104) (BX x104.25∧SzR (Af x104.25).length) (BX (Ce x104)) (∀(x105:Option Addr × Nat × Nat),BR x105 x104 (∃(x106:Sk→Prop),CP
  x104 (∃(x107:Sk),AV x107 x104 x105 (A9 ((199:Int)+16)) m x104.2 x104.3 (fun  (x108:Option Addr × Nat × Nat)=>fun  (x109:List Int)=>Cv x104 x108 x109 x105 (Ce x104)) x106) (∃(x110:Sk),AV x110
  x104 x105 199 m x104.2 x104.3 (fun  (x108:Option Addr × Nat × Nat)=>fun  (x109:List Int)=>Cv x104 x108 x109 x105 (Ce x104)) x106) (∀(x111:Sk),x106 x111→∃(x112:Sk→Prop),(∃(x113:Sk),BA (AQ
  x113 x111 (AR (AO x113 x111) x113.19 x111.19 m x113 x111.2 x111.3 x111 (Bx x113 x111))) x113 x111 x112)∧∀(x114:Sk),Ca (x112 x114) m x114 (∀(x115:PmT [u64] × Int × Int),Cw m x115 (BD 1 x115) (∀
  (x116:Option Addr × Nat × Nat),BR x116 x114 (∃(x117:Sk→Prop),(∃(x118:Sk),Bc x118 x114 x116 m x115 (fun  (x119:Option Addr × Nat × Nat)=>fun  (x120:List Int)=>Cv x114 x119 x120 x116 (BI 1
  x115)) x117)∧∀(x121:Sk),x117 x121→Cp x121.19 (BE 1 (BP x121)) (∀(x122:Option Addr × Nat × Nat),BR x122 x121 (∃(x123:Sk→Prop),(∃(x124:Sk),AV x124 x121 x122 x121.19 m x121.2 x121.3 (fun
  (x125:Option Addr × Nat × Nat)=>fun  (x126:List Int)=>Cv x121 x125 x126 x122 (Bt 1 (BP x121))) x123)∧∀(x127:Sk),CJ (x123 x127) m x127 (∀(x128:PmT [i64] × Int × Int),Bw (C8 m x128) m (AB m
  x128) (∀(x129:PmT [u64] × Int × Int),Cw m x129 (BD 2 x129) (∀(x130:Option Addr × Nat × Nat),BR x130 x127 (∃(x131:Sk→Prop),(∃(x132:Sk),Bc x132 x127 x130 m x129 (fun (x133:Option Addr × Nat ×
  Nat)=>fun  (x134:List Int)=>Cv x127 x133 x134 x130 (BI 2 x129)) x131)∧∀(x135:Sk),x131 x135→Cp x135.19 (BE 2 (BP x135)) (∀(x136:Option Addr × Nat × Nat),BR x136 x135 (∃(x137:Sk
  → Prop),(∃(x138:Sk),AV x138 x135 x136 x135.19 m x135.2 x135.3 (fun  (x139:Option Addr × Nat × Nat)=>fun  (x140:List Int)=>Cv x135 x139 x140 x136 (Bt 2 (BP x135))) x137)∧∀(x141:Sk),Ca (x137
  x141) m x141 (∀(x142:PmT [u64] × Int × Int),Cw m x142 (BD 3 x142) (∀(x143:Option Addr × Nat × Nat),BR x143 x141 (∃(x144:Sk→Prop),(∃(x145:Sk),Bc x145 x141 x143 m x142 (fun (x146:Option Addr
  × Nat × Nat)=>fun  (x147:List Int)=>Cv x141 x146 x147 x143 (BI 3 x142)) x144)∧∀(x148:Sk),Ca (x144 x148) m x148 (∀(x149:PmT [u64] × Int × Int),CK m x149 (Cp (A9 (Cb x149)) (BE 3
  (B8 (Cb x149))) (∀(x150:Option Addr × Nat × Nat),BR x150 x148 (∃(x151:Sk→Prop),(∃(x152:Sk),Bc x152 x148 x150 m x149 (fun  (x153:Option Addr × Nat × Nat)=>fun  (x154:List Int)=>Cv x148 x153 x154
  x150 (Bt 3 (B8 (Cb x149)))) x151)∧∀(x155:Sk),Ca (x151 x155) m x155 (∀(x156:PmT [u64] × Int × Int),Cw m x156 (Aj C0 (AI x156)) (∀(x157:Option Addr × Nat × Nat),BR x157 x155 (∃(x158:Sk →
  Prop),(∃(x159:Sk),Bc x159 x155 x157 m x156 (fun  (x160:Option Addr × Nat × Nat)=>fun  (x161:List Int)=>Cv x155 x160 x161 x157 (zjx C0 (AI x156))) x158)∧∀(x162:Sk),CJ (x158 x162) m x162 (∀(x163 :
  PmT [i64] × Int × Int),Bw (C8 m x163) m (AB m x163) (∀(x164:PmT [u64] × Int × Int),Cw m x164 (BD 4 x164) (∀(x165:Option Addr × Nat × Nat),BR x165 x162 (∃(x166:Sk→Prop),(∃(x167:Sk),Bc x167
  x162 x165 m x164 (fun  (x168:Option Addr × Nat × Nat)=>fun  (x169:List Int)=>Cv x162 x168 x169 x165 (BI 4 x164)) x166)∧∀(x170:Sk),Ca (x166 x170) m x170 (∀(x171:PmT [u64] × Int × Int),CK m
  x171 (Cp (A9 (Cf x171)) (BE 4 (B8 (Cf x171))) (∀(x172:Option Addr × Nat × Nat),BR x172 x170 (∃(x173:Sk),An (An (AG x173 x170) (AJ x173 x170) A5 (Bb (Am x173 x170) x173.11 x170.11 A5 (CY x173
  x170 x172) x173.19 x170.19 x173.20 5 m x173 (Ci x171) (Ch x171) x170 (D5 x173 x170 x172))) (CU x173 (fun  (x174:Option Addr × Nat × Nat)=>fun  (x175:List Int)=>Cv x170 x174 x175 x172 (Bt (4 :
  Int) (B8 (Cf x171))))) (A3 (Bm m (BO x173) x173) (CD x173) (x173.20≤8)) (∀(x176:Sk),BV m x176→∃(x177:Sk→Prop),(∃(x178:Sk),BA (CA x178 x176 m) x178 x176 x177)∧∀(x179:Sk),AX
  (x177 x179) (An (A8 m m) (AH m x179) (AZ 28) ((28:Int)≤100)) (∀(x180:PmT [byP] × Int × Int),An (Ad m x180.snd) (InB x180.fst) (Bi 28≤Cl x180) (Cl x180≤BH (Bi 28))→∃(x181:Sk
  → Prop),(∃(x182:Sk),Cn x182 x179 (A6 x182.26 (Aq x180)) m x180.snd.fst x180.snd.snd (x182.26=x180.fst) x181)∧∀(x183:Sk),x181 x183→An (A3 (AZ 0) (AZ 112) ((112:Int)≤(↑(List.length x183.26) :
  Int))) (Ai AL+(B3-AL)≤List.length x183.26∧SzR (Cs x183).length) (Ay (CT x183) (CT x183)) (∀(x184:Option Addr × Nat × Nat),BR x184 x183 (∃(x185:Sk→Prop),(∃(x186:Sk),A3 (Cm x186 x183 (Cz (AJ
  x186 x183) A5 (Am x186 x183) (AK x186 x183) A5 (CY x186 x183 x184) m x186 x183.2 x183.3 x183 (D5 x186 x183 x184))) (CU x186 (fun  (x187:Option Addr × Nat × Nat)=>fun  (x188:List Int)=>Cv x183 x187 x188
  x184 (zjx 512 (Cs x183)))) (x185 x186))∧∀(x189:Sk),D2 x185 x189 (B4 x189) (∃(x190:Sk),CZ (Cc x190 x189 (Bq (B4 x189)) 0 m) x190 x189 (CN m x190) (∀(x191:Sk),AX (A3 (CF m
  x191) (Ct x191) (Bj x191)) (AX (Cg x191.11 200) (An (A8 m m) (AH m x191) (AZ x191.11) (x191.11≤1000)) (∀(x192:PmT [byP] × Int × Int),AX (A3 (Ad m x192.snd) (InB x192.fst) (Cl x192=x191.11)) (Ba
  (Aq x192) (Aq x192) x191 (Au x191 (CX x192))) (∃(x193:PmT [byP] × Int × Int),Cy x193 (Au x191 (CX x192)) m x192.snd.fst x192.snd.snd (x193.fst=B2 x191 (CX x192))))) (C4 x191.11 200→∃(x194:PmT
  [byP] × Int × Int),Cy x194 (A0 x191) m x191.2 x191.3 (x194.fst=x191.1))))))))))))))))))))))))))))))))))))))))))))))))))))))))))))))))))))))))))))))))))))))):=by
  intros
  refine⟨?_, ?_, ?_, ?_, ?_⟩<;>(intros;kernel_rfl)
set_option linter.unusedSimpArgs false
set_option maxRecDepth 10000
set_option maxHeartbeats 2000000
set_option linter.unusedVariables false
theorem ex28{p:Sk→Prop}{x1:By}{x2:Int}{x3:Int}{x4:Bool}{x5:Bool}{x6:Int}{x7:Int}{x8:Int}{x9:Int}{x10:Int}{x11:Int}{x12:Int}{x13:Int}{x14:Int}{x15:Int}{x16:Int}{x17:Int}{x18:Int}{x19:Int}{x20:Int}{x21:Int}{x22:Int}{x23:Int}{x24:Int}{x25:By}{x26:By}{x27:List Rw}{x28:Fz}(h:p ⟨x1,x2,x3,x4,x5,x6,x7,x8,x9,x10,x11,x12,x13,x14,x15,x16,x17,x18,x19,x20,x21,x22,x23,x24,x25,x26,x27,x28⟩):∃z,p z:=⟨_,h⟩
def Rows(F:Fz)(rs:List Rw):Prop:=∀y ∈ rs,∃xs,F y xs∧InB xs∧xs.length≤300
theorem ScA.mk'{m:By}{L N:Nat}{x1:By}{x2:Int}{x3:Int}{x4:Bool}{x5:Bool}{x6:Int}{x7:Int}{x8:Int}{x9:Int}{x10:Int}{x11:Int}{x12:Int}{x13:Int}{x14:Int}{x15:Int}{x16:Int}{x17:Int}{x18:Int}{x19:Int}{x20:Int}{x21:Int}{x22:Int}{x23:Int}{x24:Int}{x25:By}{x26:By}{x27:List Rw}{x28:Fz}(h1:zbe m x2)(h2:InB x1)(h3:x1.length=L)(h4:0≤x11∧x11≤20002)(ua12:U64 x12)(ua14:U64 x13)(ua15:U64 x14)(ua16:U64 x15)(ua18:U64 x16)(ua19:U64 x17)(ua23:U64 x19)(ua26:U64 x22)(h6:InB x25∧x25.length≤8)(h7:InB x26∧112≤x26.length)(h8:x27.length=N)(h9:Rows x28 x27):ScA m L N ⟨x1,x2,x3,x4,x5,x6,x7,x8,x9,x10,x11,x12,x13,x14,x15,x16,x17,x18,x19,x20,x21,x22,x23,x24,x25,x26,x27,x28⟩ :=
 ⟨h1,h2,h3,h4,⟨ua12,ua14,ua15,ua16,ua18,ua19,ua23,ua26⟩,h6,h7,h8,h9⟩
theorem ScA.parts{m:By}{L N:Nat}{z:Sk}(h:ScA m L N z):zbe m z.i∧InB z.ys∧z.ys.length=L∧(0≤z.a11∧z.a11≤20002)∧(U64 z.a12∧U64 z.a14∧U64 z.a15∧U64 z.a16∧U64 z.a18∧U64 z.a19∧U64 z.a23∧U64 z.a26)∧(InB z.hs∧z.hs.length≤8)∧(InB z.cd∧112≤z.cd.length)∧z.rs.length=N∧Rows z.F z.rs:=h
theorem za8{F:Fz}:zj1 F F:=fun _ _ h=>h
theorem zbq(a r:Int):U64 (zng a r):=zct _
theorem zas(p:Int){m:By}(h:InB m):InB (zjx p m):=yrv p h
theorem zf8(p:Int)(m:By):(zjx p m).take (3+m.length)=zjx p m:=by
 rw[← zab p m,List.take_length]
theorem zf9(p v:Int):(zjx p (zc6 v 8)).take (3+8)=zjx p (zc6 v 8):=by
 have:=zf8 p (zc6 v 8)
 rw[zac] at this
 exact this
theorem zg0(v:Int)(n:Nat):(zc6 v n).take n=zc6 v n:=by
 have:=List.take_length (l:=zc6 v n)
 rw[zac] at this
 exact this
theorem zle{x:Int}(h:0≤x)(g:x<3):0≤x∧x≤20002:=⟨h,by omega⟩
theorem zlf{x:Int}(h:0≤x)(g:x<70):0≤IntKind.i64.wrap (15+x)∧IntKind.i64.wrap (15+x)≤20002:=by rw[zaa (by omega) (by omega)];omega
theorem zlg{x:Int}(h:0≤x)(g:x<3):0≤IntKind.i64.wrap (19999+x)∧IntKind.i64.wrap (19999+x)≤20002:=by rw[zaa (by omega) (by omega)];omega
theorem Rows.nil{F:Fz}:Rows F []:=fun y h=>by cases h
theorem zaq{F:Fz}{rs:List Rw}{y:Rw}{X:By}(h:Rows F rs)(hX:InB X∧X.length≤300):Rows (fun y' xs'=>F y' xs'∨y'=y∧xs'=X) (rs++[y]):=fun y' hy=>by
 rcases List.mem_append.1 hy with q|q
 · obtain⟨xs,a,b⟩:=h y' q
   exact⟨xs,.inl a,b⟩
 · exact⟨X,.inr ⟨List.mem_singleton.1 q,rfl⟩,hX⟩
theorem yau:Sound Tryz.prog 211 (zag [i64,bsP] [byP] (fun t=>some (SzR t.2.length)) (fun t=>zjx t.1 t.2)):=by
 refine zad mixed Tryz.func211 (by kernel_rfl) (by kernel_rfl) zu5 (fun t h => ?_)
 obtain⟨p,m⟩:Int × By:=t
 have k:SzR m.length:=h
 unfold SzR at k
 have e:zal Tryz.prog yts .none Tryz.f211 [i64,bsP] [byP] (p,m) (zjx p m)=zal Tryz.prog yts .none Tryz.f211 [i64,byP] [byP] (p,m) (zjx p m):=by unfold zal;rfl
 rw[e]
 refine zah (zkf p m) ?_
 conv=>zeta
 exact (by simp[k];omega)
theorem zq7:DictOk Tryz.prog FEK:=za1 ((zay.cons (by kernel_rfl) yau .nil).append ((((zv7.append (.cons (by kernel_rfl) zmv .nil)).append zv6).append zdn).append zce)) .nil .nil
theorem zmp:zb7 Tryz.prog (Rels.of yrr):=Rels.ok (fun p hp=>by
 simp only[yrr,zu1,yto,ylu,ylt,List.cons_append,List.nil_append,List.mem_cons,List.not_mem_nil,or_false] at hp
 rcases hp with rfl|rfl|rfl|rfl|rfl|rfl|rfl|rfl|rfl
 · exact⟨by kernel_rfl,ylq⟩
 · exact⟨by kernel_rfl,yds⟩
 · exact⟨by kernel_rfl,yhn⟩
 · exact⟨by kernel_rfl,zlw⟩
 · exact⟨by kernel_rfl,zwk⟩
 · exact⟨by kernel_rfl,zk4⟩
 · exact⟨by kernel_rfl,zk8⟩
 · exact⟨by kernel_rfl,zpq⟩
 · exact⟨by kernel_rfl,zf0⟩)
theorem scr_0{m:By}{z:Sk}(hz:ScA m z.a6.toNat 0 z)(h0:0≤z.a6)(h3:z.a6≤3):zzu m z:=by
 obtain⟨zc,zy,zl,zn,⟨z12,z14,z15,z16,z18,z19,z23,z26⟩,zh,zd,zr,zw⟩:=hz.parts
 clear hz
 have e0:=zuv
 conv at e0=>zeta
 dsimp -proj -iota -eta only at e0
 replace e0:=e0.1
 refine zah (e0 m z) ?_
 simp only[and_imp,zf8,zf9,zg0,zae,zac,zab,List.take_length,List.drop_zero,List.length_cons,List.length_nil,Nat.zero_add,decide_eq_true_eq,decide_eq_false_iff_not,List.length_append,true_and,and_true,false_imp_iff,implies_true,List.take_succ_cons,List.take_zero,Int.reduceToNat,gt_iff_lt]
 refine⟨fun hlt=>⟨⟨zc,by omega,by omega⟩,fun y y1 _ _=>⟨⟨y1,by omega,by omega⟩,fun o o1=>⟨fun q=>ScA m z.a6.toNat 0 q∧q.a6=z.a6,⟨fun _=>⟨by decide, ?_⟩,fun _ => ?_⟩, ?_⟩⟩⟩,fun hge => ?_⟩
 rotate_left 2
 rintro q ⟨hq,h6⟩
 obtain⟨zc,zy,zl,zn,⟨z12,z14,z15,z16,z18,z19,z23,z26⟩,zh,zd,zr,zw⟩:=hq.parts
 clear hq
 have hw:IntKind.i64.wrap (q.a6+1)=q.a6+1:=zaa (by omega) (by omega)
 refine⟨⟨by omega,by omega,by omega⟩, ?_⟩
 rw[hw]
 rotate_left
 have e6:z.a6.toNat=3:=by omega
 rw[e6] at zl
 all_goals
  repeat' first
   | exact rfl
   | assumption
   | exact za8
   | exact zct _
   | exact zbq _ _
   | exact zbm (by assumption)
   | apply ScA.mk'
   | (apply ex28;dsimp only)
   | ((first|show (_:Int)≤_|show (_:Int)<_|show (_:Nat)≤_|show (_:Nat)<_|show (_:Int)=_|show (_:Nat)=_);omega)
   | (show U64 _;unfold U64;omega)
   | exact fun _ h=>h
   | (show Rows _ _;exact zaq (by assumption) ⟨zas _ (zbv _ _),by simp only[zab,zac];omega⟩)
   | (show Rows _ _;exact zaq (by assumption) ⟨zas _ zh.1,by rw[zab];omega⟩)
   | (show Rows _ _;exact zaq (by assumption) ⟨zas _ (InB.take zd.1 _),by rw[zab,List.length_take];omega⟩)
   | exact List.eq_nil_of_length_eq_zero (by assumption)
   | (show Rows _ _;exact zaq (by assumption) ⟨zas _ (by assumption),by simp only[zab];omega⟩)
   | (show (0:Int)≤_∧_≤(20002:Int);first|exact zlf (by assumption) (by assumption)|exact zlg (by assumption) (by assumption)|exact zle (by assumption) (by assumption))
   | apply And.intro
   | (show InB _;first|assumption|exact InB.app (by assumption) (by assumption)|exact InB.app (by assumption) (zbv _ _)|exact InB.app (by assumption) (InB.cons InB.nil)|exact InB.app (by assumption) (InB.cons (InB.cons InB.nil))|exact (InB.cons (InB.cons (InB.cons (InB.cons InB.nil))))|exact (InB.cons (InB.cons (InB.cons (InB.cons (InB.cons (InB.cons (InB.cons (InB.cons InB.nil))))))))|exact InB.app (by assumption) (fun x hx=>by revert x;decide))
   | (show List.length _=_;simp only[List.length_append,zae,List.length_cons,List.length_nil,zac,zab];done)
   | (show List.length _=_;simp only[List.length_append,zae,List.length_cons,List.length_nil,zac,zab];omega)
   | (show List.length _≤_;simp only[List.length_append,zae,List.length_cons,List.length_nil,zac,zab];omega)
  all_goals first
   | exact (0:Int)
   | (simp only[List.length_append,zae,List.length_cons,List.length_nil,zac,zab];done)
   | (simp only[List.length_append,zae,List.length_cons,List.length_nil,zac,zab];omega)
theorem scr_1{m:By}{z:Sk}(hz:ScA m 87 (10+8*(z.a24-5)).toNat z)(h0:5≤z.a24)(h3:z.a24≤8):zzv m z:=by
 obtain⟨zc,zy,zl,zn,⟨z12,z14,z15,z16,z18,z19,z23,z26⟩,zh,zd,zr,zw⟩:=hz.parts
 clear hz
 have e0:=zuv
 conv at e0=>zeta
 dsimp -proj -iota -eta only at e0
 replace e0:=e0.2.1
 refine zah (e0 m z) ?_
 simp only[and_imp,zf8,zf9,zg0,zae,zac,zab,List.take_length,List.drop_zero,List.length_cons,List.length_nil,Nat.zero_add,decide_eq_true_eq,decide_eq_false_iff_not,List.length_append,true_and,and_true,false_imp_iff,implies_true,List.take_succ_cons,List.take_zero,Int.reduceToNat,gt_iff_lt]
 refine⟨fun hlt => ?_,fun hge => ?_⟩
 rotate_left
 have e1:(10+8*(z.a24-5)).toNat=34:=by omega
 rw[e1] at zr
 all_goals
  repeat' first
   | exact rfl
   | assumption
   | exact za8
   | exact zct _
   | exact zbq _ _
   | exact zbm (by assumption)
   | apply ScA.mk'
   | (apply ex28;dsimp only)
   | ((first|show (_:Int)≤_|show (_:Int)<_|show (_:Nat)≤_|show (_:Nat)<_|show (_:Int)=_|show (_:Nat)=_);omega)
   | (show U64 _;unfold U64;omega)
   | exact fun _ h=>h
   | (show Rows _ _;exact zaq (by assumption) ⟨zas _ (zbv _ _),by simp only[zab,zac];omega⟩)
   | (show Rows _ _;exact zaq (by assumption) ⟨zas _ zh.1,by rw[zab];omega⟩)
   | (show Rows _ _;exact zaq (by assumption) ⟨zas _ (InB.take zd.1 _),by rw[zab,List.length_take];omega⟩)
   | exact List.eq_nil_of_length_eq_zero (by assumption)
   | (show Rows _ _;exact zaq (by assumption) ⟨zas _ (by assumption),by simp only[zab];omega⟩)
   | (show (0:Int)≤_∧_≤(20002:Int);first|exact zlf (by assumption) (by assumption)|exact zlg (by assumption) (by assumption)|exact zle (by assumption) (by assumption))
   | apply And.intro
   | (show InB _;first|assumption|exact InB.app (by assumption) (by assumption)|exact InB.app (by assumption) (zbv _ _)|exact InB.app (by assumption) (InB.cons InB.nil)|exact InB.app (by assumption) (InB.cons (InB.cons InB.nil))|exact (InB.cons (InB.cons (InB.cons (InB.cons InB.nil))))|exact (InB.cons (InB.cons (InB.cons (InB.cons (InB.cons (InB.cons (InB.cons (InB.cons InB.nil))))))))|exact InB.app (by assumption) (fun x hx=>by revert x;decide))
   | (show List.length _=_;simp only[List.length_append,zae,List.length_cons,List.length_nil,zac,zab];done)
   | (show List.length _=_;simp only[List.length_append,zae,List.length_cons,List.length_nil,zac,zab];omega)
   | (show List.length _≤_;simp only[List.length_append,zae,List.length_cons,List.length_nil,zac,zab];omega)
   | (rintro q hq hqe;clear zc zy zl zn z12 z14 z15 z16 z18 z19 z23 z26 zh zd zr zw;obtain⟨zc,zy,zl,zn,⟨z12,z14,z15,z16,z18,z19,z23,z26⟩,zh,zd,zr,zw⟩:=hq.parts;clear hq;rw[zaa (n:=q.a24+1) (by omega) (by omega)])
  all_goals first
   | exact (0:Int)
   | (simp only[List.length_append,zae,List.length_cons,List.length_nil,zac,zab];done)
   | (simp only[List.length_append,zae,List.length_cons,List.length_nil,zac,zab];omega)
theorem scr_2{m:By}{z:Sk}(hz:ScA m 87 (10+8*(z.a24-5)+z.a25).toNat z)(h0:5≤z.a24)(h3:z.a24≤7)(g0:0≤z.a25)(g3:z.a25≤8):zzw m z:=by
 obtain⟨zc,zy,zl,zn,⟨z12,z14,z15,z16,z18,z19,z23,z26⟩,zh,zd,zr,zw⟩:=hz.parts
 clear hz
 have e0:=zuv
 conv at e0=>zeta
 dsimp -proj -iota -eta only at e0
 replace e0:=e0.2.2.1
 refine zah (e0 m z) ?_
 simp only[and_imp,zf8,zf9,zg0,zae,zac,zab,List.take_length,List.drop_zero,List.length_cons,List.length_nil,Nat.zero_add,decide_eq_true_eq,decide_eq_false_iff_not,List.length_append,true_and,and_true,false_imp_iff,implies_true,List.take_succ_cons,List.take_zero,Int.reduceToNat,gt_iff_lt]
 refine⟨fun hlt => ?_,fun hge => ?_⟩
 · skip
   repeat' first
    | exact rfl
    | assumption
    | exact zct _
    | exact zbq _ _
    | exact zbm (by assumption)
    | ((first|show (_:Int)≤_|show (_:Int)<_|show (_:Nat)≤_|show (_:Nat)<_|show (_:Int)=_|show (_:Nat)=_);omega)
    | (show U64 _;unfold U64;omega)
    | exact Nat.le_refl _
    | (show (_:Int)≤_;decide)
    | (show (_:Int)<_;decide)
    | intro _
    | (show SzR _;unfold SzR;rw[List.length_take];omega)
    | (show SzR _;unfold SzR;omega)
    | apply And.intro
   iterate 3
    refine⟨fun q=>ScA m 87 (10+8*(z.a24-5)+z.a25).toNat q∧q.a24=z.a24∧q.a25=z.a25, ?_, ?_⟩
    · skip
      repeat' first
       | exact rfl
       | assumption
       | exact za8
       | exact zct _
       | exact zbq _ _
       | exact zbm (by assumption)
       | apply ScA.mk'
       | (apply ex28;dsimp only)
       | ((first|show (_:Int)≤_|show (_:Int)<_|show (_:Nat)≤_|show (_:Nat)<_|show (_:Int)=_|show (_:Nat)=_);omega)
       | (show U64 _;unfold U64;omega)
       | exact fun _ h=>h
       | (show Rows _ _;exact zaq (by assumption) ⟨zas _ (zbv _ _),by simp only[zab,zac];omega⟩)
       | (show Rows _ _;exact zaq (by assumption) ⟨zas _ zh.1,by rw[zab];omega⟩)
       | (show Rows _ _;exact zaq (by assumption) ⟨zas _ (InB.take zd.1 _),by rw[zab,List.length_take];omega⟩)
       | exact List.eq_nil_of_length_eq_zero (by assumption)
       | (show Rows _ _;exact zaq (by assumption) ⟨zas _ (by assumption),by simp only[zab];omega⟩)
       | (show (0:Int)≤_∧_≤(20002:Int);first|exact zlf (by assumption) (by assumption)|exact zlg (by assumption) (by assumption)|exact zle (by assumption) (by assumption))
       | apply And.intro
       | (show InB _;first|assumption|exact InB.app (by assumption) (by assumption)|exact InB.app (by assumption) (zbv _ _)|exact InB.app (by assumption) (InB.cons InB.nil)|exact InB.app (by assumption) (InB.cons (InB.cons InB.nil))|exact (InB.cons (InB.cons (InB.cons (InB.cons InB.nil))))|exact (InB.cons (InB.cons (InB.cons (InB.cons (InB.cons (InB.cons (InB.cons (InB.cons InB.nil))))))))|exact InB.app (by assumption) (fun x hx=>by revert x;decide))
       | (show List.length _=_;simp only[List.length_append,zae,List.length_cons,List.length_nil,zac,zab];done)
       | (show List.length _=_;simp only[List.length_append,zae,List.length_cons,List.length_nil,zac,zab];omega)
       | (show List.length _≤_;simp only[List.length_append,zae,List.length_cons,List.length_nil,zac,zab];omega)
       | intro _
      all_goals first
       | exact (0:Int)
       | (simp only[List.length_append,zae,List.length_cons,List.length_nil,zac,zab];done)
       | (simp only[List.length_append,zae,List.length_cons,List.length_nil,zac,zab];omega)
    rintro q ⟨hq,e4,e5⟩
    clear zc zy zl zn z12 z14 z15 z16 z18 z19 z23 z26 zh zd zr zw
    obtain⟨zc,zy,zl,zn,⟨z12,z14,z15,z16,z18,z19,z23,z26⟩,zh,zd,zr,zw⟩:=hq.parts
    clear hq
    repeat' first
     | exact rfl
     | assumption
     | exact zct _
     | exact zbq _ _
     | exact zbm (by assumption)
     | ((first|show (_:Int)≤_|show (_:Int)<_|show (_:Nat)≤_|show (_:Nat)<_|show (_:Int)=_|show (_:Nat)=_);omega)
     | (show U64 _;unfold U64;omega)
     | exact Nat.le_refl _
     | (show (_:Int)≤_;decide)
     | (show (_:Int)<_;decide)
     | intro _
     | (show SzR _;unfold SzR;rw[List.length_take];omega)
     | (show SzR _;unfold SzR;omega)
     | apply And.intro
   refine⟨fun q=>ScA m 87 (10+8*(z.a24-5)+z.a25).toNat q∧q.a24=z.a24∧q.a25=z.a25, ?_, ?_⟩
   · skip
     repeat' first
      | exact rfl
      | assumption
      | exact za8
      | exact zct _
      | exact zbq _ _
      | exact zbm (by assumption)
      | apply ScA.mk'
      | (apply ex28;dsimp only)
      | ((first|show (_:Int)≤_|show (_:Int)<_|show (_:Nat)≤_|show (_:Nat)<_|show (_:Int)=_|show (_:Nat)=_);omega)
      | (show U64 _;unfold U64;omega)
      | exact fun _ h=>h
      | (show Rows _ _;exact zaq (by assumption) ⟨zas _ (zbv _ _),by simp only[zab,zac];omega⟩)
      | (show Rows _ _;exact zaq (by assumption) ⟨zas _ zh.1,by rw[zab];omega⟩)
      | (show Rows _ _;exact zaq (by assumption) ⟨zas _ (InB.take zd.1 _),by rw[zab,List.length_take];omega⟩)
      | exact List.eq_nil_of_length_eq_zero (by assumption)
      | (show Rows _ _;exact zaq (by assumption) ⟨zas _ (by assumption),by simp only[zab];omega⟩)
      | (show (0:Int)≤_∧_≤(20002:Int);first|exact zlf (by assumption) (by assumption)|exact zlg (by assumption) (by assumption)|exact zle (by assumption) (by assumption))
      | apply And.intro
      | (show InB _;first|assumption|exact InB.app (by assumption) (by assumption)|exact InB.app (by assumption) (zbv _ _)|exact InB.app (by assumption) (InB.cons InB.nil)|exact InB.app (by assumption) (InB.cons (InB.cons InB.nil))|exact (InB.cons (InB.cons (InB.cons (InB.cons InB.nil))))|exact (InB.cons (InB.cons (InB.cons (InB.cons (InB.cons (InB.cons (InB.cons (InB.cons InB.nil))))))))|exact InB.app (by assumption) (fun x hx=>by revert x;decide))
      | (show List.length _=_;simp only[List.length_append,zae,List.length_cons,List.length_nil,zac,zab];done)
      | (show List.length _=_;simp only[List.length_append,zae,List.length_cons,List.length_nil,zac,zab];omega)
      | (show List.length _≤_;simp only[List.length_append,zae,List.length_cons,List.length_nil,zac,zab];omega)
      | intro _
     all_goals first
      | exact (0:Int)
      | (simp only[List.length_append,zae,List.length_cons,List.length_nil,zac,zab];done)
      | (simp only[List.length_append,zae,List.length_cons,List.length_nil,zac,zab];omega)
   rintro q ⟨hq,e4,e5⟩
   clear zc zy zl zn z12 z14 z15 z16 z18 z19 z23 z26 zh zd zr zw
   obtain⟨zc,zy,zl,zn,⟨z12,z14,z15,z16,z18,z19,z23,z26⟩,zh,zd,zr,zw⟩:=hq.parts
   clear hq
   rw[zaa (n:=q.a25+1) (by omega) (by omega)]
   repeat' first
    | exact rfl
    | assumption
    | exact za8
    | exact zct _
    | exact zbq _ _
    | exact zbm (by assumption)
    | apply ScA.mk'
    | (apply ex28;dsimp only)
    | ((first|show (_:Int)≤_|show (_:Int)<_|show (_:Nat)≤_|show (_:Nat)<_|show (_:Int)=_|show (_:Nat)=_);omega)
    | (show U64 _;unfold U64;omega)
    | exact fun _ h=>h
    | (show Rows _ _;exact zaq (by assumption) ⟨zas _ (zbv _ _),by simp only[zab,zac];omega⟩)
    | (show Rows _ _;exact zaq (by assumption) ⟨zas _ zh.1,by rw[zab];omega⟩)
    | (show Rows _ _;exact zaq (by assumption) ⟨zas _ (InB.take zd.1 _),by rw[zab,List.length_take];omega⟩)
    | exact List.eq_nil_of_length_eq_zero (by assumption)
    | (show Rows _ _;exact zaq (by assumption) ⟨zas _ (by assumption),by simp only[zab];omega⟩)
    | (show (0:Int)≤_∧_≤(20002:Int);first|exact zlf (by assumption) (by assumption)|exact zlg (by assumption) (by assumption)|exact zle (by assumption) (by assumption))
    | apply And.intro
    | (show InB _;first|assumption|exact InB.app (by assumption) (by assumption)|exact InB.app (by assumption) (zbv _ _)|exact InB.app (by assumption) (InB.cons InB.nil)|exact InB.app (by assumption) (InB.cons (InB.cons InB.nil))|exact (InB.cons (InB.cons (InB.cons (InB.cons InB.nil))))|exact (InB.cons (InB.cons (InB.cons (InB.cons (InB.cons (InB.cons (InB.cons (InB.cons InB.nil))))))))|exact InB.app (by assumption) (fun x hx=>by revert x;decide))
    | (show List.length _=_;simp only[List.length_append,zae,List.length_cons,List.length_nil,zac,zab];done)
    | (show List.length _=_;simp only[List.length_append,zae,List.length_cons,List.length_nil,zac,zab];omega)
    | (show List.length _≤_;simp only[List.length_append,zae,List.length_cons,List.length_nil,zac,zab];omega)
    | (intro y hy hye;rw[e4] at hy;exact⟨hy,hye.trans e4⟩)
    | intro _
   all_goals first
    | exact (0:Int)
    | (simp only[List.length_append,zae,List.length_cons,List.length_nil,zac,zab];done)
    | (simp only[List.length_append,zae,List.length_cons,List.length_nil,zac,zab];omega)
 · have e1:z.a25=8:=by omega
   rw[e1] at zr
   repeat' first
    | exact rfl
    | assumption
    | exact za8
    | exact zct _
    | exact zbq _ _
    | exact zbm (by assumption)
    | apply ScA.mk'
    | (apply ex28;dsimp only)
    | ((first|show (_:Int)≤_|show (_:Int)<_|show (_:Nat)≤_|show (_:Nat)<_|show (_:Int)=_|show (_:Nat)=_);omega)
    | (show U64 _;unfold U64;omega)
    | exact fun _ h=>h
    | (show Rows _ _;exact zaq (by assumption) ⟨zas _ (zbv _ _),by simp only[zab,zac];omega⟩)
    | (show Rows _ _;exact zaq (by assumption) ⟨zas _ zh.1,by rw[zab];omega⟩)
    | (show Rows _ _;exact zaq (by assumption) ⟨zas _ (InB.take zd.1 _),by rw[zab,List.length_take];omega⟩)
    | exact List.eq_nil_of_length_eq_zero (by assumption)
    | (show Rows _ _;exact zaq (by assumption) ⟨zas _ (by assumption),by simp only[zab];omega⟩)
    | (show (0:Int)≤_∧_≤(20002:Int);first|exact zlf (by assumption) (by assumption)|exact zlg (by assumption) (by assumption)|exact zle (by assumption) (by assumption))
    | apply And.intro
    | (show InB _;first|assumption|exact InB.app (by assumption) (by assumption)|exact InB.app (by assumption) (zbv _ _)|exact InB.app (by assumption) (InB.cons InB.nil)|exact InB.app (by assumption) (InB.cons (InB.cons InB.nil))|exact (InB.cons (InB.cons (InB.cons (InB.cons InB.nil))))|exact (InB.cons (InB.cons (InB.cons (InB.cons (InB.cons (InB.cons (InB.cons (InB.cons InB.nil))))))))|exact InB.app (by assumption) (fun x hx=>by revert x;decide))
    | (show List.length _=_;simp only[List.length_append,zae,List.length_cons,List.length_nil,zac,zab];done)
    | (show List.length _=_;simp only[List.length_append,zae,List.length_cons,List.length_nil,zac,zab];omega)
    | (show List.length _≤_;simp only[List.length_append,zae,List.length_cons,List.length_nil,zac,zab];omega)
   all_goals first
    | exact (0:Int)
    | (simp only[List.length_append,zae,List.length_cons,List.length_nil,zac,zab];done)
    | (simp only[List.length_append,zae,List.length_cons,List.length_nil,zac,zab];omega)
theorem scr_3{m:By}{z:Sk}(hz:ScA m z.ys.length 35 z)(h0:0≤z.a29)(h3:z.a29≤35)(g0:(z.ys.length:Int)≤100+300*z.a29)(g3:88≤z.ys.length):zzx m z:=by
 obtain⟨zc,zy,zl,zn,⟨z12,z14,z15,z16,z18,z19,z23,z26⟩,zh,zd,zr,zw⟩:=hz.parts
 clear hz zl
 have hlt:z.a29<35→z.rs.getD (0+z.a29.toNat) (El.zero [Ty.sv]) ∈ z.rs:=fun h=>by
  rw[List.getD_eq_getElem?_getD,List.getElem?_eq_getElem (by omega)]
  exact List.getElem_mem _
 have e0:=zuv
 conv at e0=>zeta
 dsimp -proj -iota -eta only at e0
 replace e0:=e0.2.2.2.1
 refine zah (e0 m z) ?_
 simp only[Nat.zero_add] at hlt
 simp only[and_imp,zf8,zf9,zg0,zae,zac,zab,List.take_length,List.drop_zero,List.length_cons,List.length_nil,Nat.zero_add,decide_eq_true_eq,decide_eq_false_iff_not,List.length_append,true_and,and_true,false_imp_iff,implies_true,List.take_succ_cons,List.take_zero,Int.reduceToNat,gt_iff_lt]
 refine⟨fun hl => ?_,fun hge => ?_⟩
 obtain⟨xs,f1,f2,f3⟩:=zw _ (hlt (by omega))
 refine⟨⟨h0,by omega⟩,by omega,xs,f1,⟨by omega,by omega,by omega⟩, ?_⟩
 rw[zaa (n:=z.a29+1) (by omega) (by omega)]
 all_goals
  repeat' first
   | exact rfl
   | assumption
   | exact za8
   | exact zct _
   | exact zbq _ _
   | exact zbm (by assumption)
   | apply ScA.mk'
   | (apply ex28;dsimp only)
   | ((first|show (_:Int)≤_|show (_:Int)<_|show (_:Nat)≤_|show (_:Nat)<_|show (_:Int)=_|show (_:Nat)=_);omega)
   | (show U64 _;unfold U64;omega)
   | exact fun _ h=>h
   | (show Rows _ _;exact zaq (by assumption) ⟨zas _ (zbv _ _),by simp only[zab,zac];omega⟩)
   | (show Rows _ _;exact zaq (by assumption) ⟨zas _ zh.1,by rw[zab];omega⟩)
   | (show Rows _ _;exact zaq (by assumption) ⟨zas _ (InB.take zd.1 _),by rw[zab,List.length_take];omega⟩)
   | exact List.eq_nil_of_length_eq_zero (by assumption)
   | (show Rows _ _;exact zaq (by assumption) ⟨zas _ (by assumption),by simp only[zab];omega⟩)
   | (show (0:Int)≤_∧_≤(20002:Int);first|exact zlf (by assumption) (by assumption)|exact zlg (by assumption) (by assumption)|exact zle (by assumption) (by assumption))
   | apply And.intro
   | (show InB _;first|assumption|exact InB.app (by assumption) (by assumption)|exact InB.app (by assumption) (zbv _ _)|exact InB.app (by assumption) (InB.cons InB.nil)|exact InB.app (by assumption) (InB.cons (InB.cons InB.nil))|exact (InB.cons (InB.cons (InB.cons (InB.cons InB.nil))))|exact (InB.cons (InB.cons (InB.cons (InB.cons (InB.cons (InB.cons (InB.cons (InB.cons InB.nil))))))))|exact InB.app (by assumption) (fun x hx=>by revert x;decide))
   | (show List.length _=_;simp only[List.length_append,zae,List.length_cons,List.length_nil,zac,zab];done)
   | (show List.length _=_;simp only[List.length_append,zae,List.length_cons,List.length_nil,zac,zab];omega)
   | (show List.length _≤_;simp only[List.length_append,zae,List.length_cons,List.length_nil,zac,zab];omega)
   | intro _
  all_goals first
   | exact (0:Int)
   | (simp only[List.length_append,zae,List.length_cons,List.length_nil,zac,zab];done)
   | (simp only[List.length_append,zae,List.length_cons,List.length_nil,zac,zab];omega)
theorem fin_1{a b:By}(h:88≤a.length):80≤(a++b).length:=by rw[List.length_append];omega
theorem fin_2{a b:By}(h:a.length≤11000)(g:b.length≤1000):(a++b).length≤20000:=by rw[List.length_append];omega
def Sq(_:List (Nat × Nat)):Prop:=True
theorem yot{m:By}{a b:Nat}{l:List (Nat × Nat)}{B:(Sk→Prop)→Prop}{R:Sk→Prop}(ht:Sq ((a,b)::l))(h1:B (fun q=>ScA m a b q))(h2:Sq l→∀q,ScA m a b q→R q):∃J,B J∧∀q,J q→R q:=⟨fun q=>ScA m a b q,h1,h2 trivial⟩
theorem yl3{m:By}{i h:Int}(hc:zbe m i):ypg m i h:=by
 have e0:=zuv
 conv at e0=>zeta
 dsimp -proj -iota -eta only at e0
 replace e0:=e0.2.2.2.2
 refine zah (e0 m i h) ?_
 simp (maxSteps:=5000000) only[and_imp,zf8,zf9,zg0,zae,zac,zab,List.take_length,List.drop_zero,List.length_cons,List.length_nil,Nat.zero_add,decide_eq_true_eq,decide_eq_false_iff_not,List.length_append,true_and,and_true,false_imp_iff,implies_true,List.take_succ_cons,List.take_zero,Int.reduceToNat,gt_iff_lt]
 repeat' first
  | exact rfl
  | assumption
  | exact zct _
  | exact zbq _ _
  | exact zbm (by assumption)
  | ((first|show (_:Int)≤_|show (_:Int)<_|show (_:Nat)≤_|show (_:Nat)<_|show (_:Int)=_|show (_:Nat)=_);omega)
  | (show U64 _;unfold U64;omega)
  | exact Nat.le_refl _
  | (show (_:Int)≤_;decide)
  | (show (_:Int)<_;decide)
  | intro _
  | (show SzR _;unfold SzR;rw[List.length_take];omega)
  | (show SzR _;unfold SzR;omega)
  | apply And.intro
 refine⟨⟨[],_,_,_,_,0,0,0,0,0,0,0,0,0,0,0,0,0,0,0,0,0,0,0,[],List.replicate 112 0,[],Fz.none⟩,⟨rfl,rfl,rfl,rfl,rfl,rfl,rfl⟩,za8,⟨ScA.mk' (by assumption) InB.nil rfl ⟨by decide,by decide⟩ ⟨by decide,by decide⟩ ⟨by decide,by decide⟩ ⟨by decide,by decide⟩ ⟨by decide,by decide⟩ ⟨by decide,by decide⟩ ⟨by decide,by decide⟩ ⟨by decide,by decide⟩ ⟨by decide,by decide⟩ ⟨InB.nil,by decide⟩ ⟨by unfold InB;decide,by decide⟩ rfl Rows.nil,Int.le_refl 0,(by decide:(0:Int)≤3)⟩,fun z hz => ?_⟩
 obtain⟨zc,zy,zl,zn,⟨z12,z14,z15,z16,z18,z19,z23,z26⟩,zh,zd,zr,zw⟩:=hz.parts
 clear hz
 repeat' first
  | exact rfl
  | assumption
  | exact zct _
  | exact zbq _ _
  | exact zbm (by assumption)
  | ((first|show (_:Int)≤_|show (_:Int)<_|show (_:Nat)≤_|show (_:Nat)<_|show (_:Int)=_|show (_:Nat)=_);omega)
  | (show U64 _;unfold U64;omega)
  | exact Nat.le_refl _
  | (show (_:Int)≤_;decide)
  | (show (_:Int)<_;decide)
  | intro _
  | (show SzR _;unfold SzR;rw[List.length_take];omega)
  | (show SzR _;unfold SzR;omega)
  | apply And.intro
 have ht:Sq [(3,0),(3,0),(3,0),(3,0),(5,0),(5,0),(5,0),(7,0),(7,0),(15,0),(23,0),(23,0),(31,0),(31,0),(39,0),(47,0),(55,0),(63,0),(71,0),(79,0),(87,0),(87,0),(87,0),(87,1),(87,1),(87,2),(87,3),(87,4),(87,5),(87,6),(87,7),(87,8),(87,9)]:=trivial
 iterate 33
  refine yot (m:=m) ht ?_ ?_
  · skip
    repeat' first
     | exact rfl
     | assumption
     | exact za8
     | exact zct _
     | exact zbq _ _
     | exact zbm (by assumption)
     | apply ScA.mk'
     | (apply ex28;dsimp only)
     | ((first|show (_:Int)≤_|show (_:Int)<_|show (_:Nat)≤_|show (_:Nat)<_|show (_:Int)=_|show (_:Nat)=_);omega)
     | (show U64 _;unfold U64;omega)
     | exact fun _ h=>h
     | (show Rows _ _;exact zaq (by assumption) ⟨zas _ (zbv _ _),by simp only[zab,zac];omega⟩)
     | (show Rows _ _;exact zaq (by assumption) ⟨zas _ zh.1,by rw[zab];omega⟩)
     | (show Rows _ _;exact zaq (by assumption) ⟨zas _ (InB.take zd.1 _),by rw[zab,List.length_take];omega⟩)
     | exact List.eq_nil_of_length_eq_zero (by assumption)
     | (show Rows _ _;exact zaq (by assumption) ⟨zas _ (by assumption),by simp only[zab];omega⟩)
     | (show (0:Int)≤_∧_≤(20002:Int);first|exact zlf (by assumption) (by assumption)|exact zlg (by assumption) (by assumption)|exact zle (by assumption) (by assumption))
     | apply And.intro
     | (show InB _;first|assumption|exact InB.app (by assumption) (by assumption)|exact InB.app (by assumption) (zbv _ _)|exact InB.app (by assumption) (InB.cons InB.nil)|exact InB.app (by assumption) (InB.cons (InB.cons InB.nil))|exact (InB.cons (InB.cons (InB.cons (InB.cons InB.nil))))|exact (InB.cons (InB.cons (InB.cons (InB.cons (InB.cons (InB.cons (InB.cons (InB.cons InB.nil))))))))|exact InB.app (by assumption) (fun x hx=>by revert x;decide))
     | (show List.length _=_;simp only[List.length_append,zae,List.length_cons,List.length_nil,zac,zab];done)
     | (show List.length _=_;simp only[List.length_append,zae,List.length_cons,List.length_nil,zac,zab];omega)
     | (show List.length _≤_;simp only[List.length_append,zae,List.length_cons,List.length_nil,zac,zab];omega)
     | intro _
    all_goals first
     | exact (0:Int)
     | (simp only[List.length_append,zae,List.length_cons,List.length_nil,zac,zab];done)
     | (simp only[List.length_append,zae,List.length_cons,List.length_nil,zac,zab];omega)
  clear ht
  rintro ht z hz
  skip
  clear zc zy zl zn z12 z14 z15 z16 z18 z19 z23 z26 zh zd zr zw
  obtain⟨zc,zy,zl,zn,⟨z12,z14,z15,z16,z18,z19,z23,z26⟩,zh,zd,zr,zw⟩:=hz.parts
  clear hz
  repeat' first
   | exact rfl
   | assumption
   | exact zct _
   | exact zbq _ _
   | exact zbm (by assumption)
   | ((first|show (_:Int)≤_|show (_:Int)<_|show (_:Nat)≤_|show (_:Nat)<_|show (_:Int)=_|show (_:Nat)=_);omega)
   | (show U64 _;unfold U64;omega)
   | exact Nat.le_refl _
   | (show (_:Int)≤_;decide)
   | (show (_:Int)<_;decide)
   | intro _
   | (show SzR _;unfold SzR;rw[List.length_take];omega)
   | (show SzR _;unfold SzR;omega)
   | apply And.intro
 skip
 repeat' first
  | exact rfl
  | assumption
  | exact za8
  | exact zct _
  | exact zbq _ _
  | exact zbm (by assumption)
  | apply ScA.mk'
  | (apply ex28;dsimp only)
  | ((first|show (_:Int)≤_|show (_:Int)<_|show (_:Nat)≤_|show (_:Nat)<_|show (_:Int)=_|show (_:Nat)=_);omega)
  | (show U64 _;unfold U64;omega)
  | exact fun _ h=>h
  | (show Rows _ _;exact zaq (by assumption) ⟨zas _ (zbv _ _),by simp only[zab,zac];omega⟩)
  | (show Rows _ _;exact zaq (by assumption) ⟨zas _ zh.1,by rw[zab];omega⟩)
  | (show Rows _ _;exact zaq (by assumption) ⟨zas _ (InB.take zd.1 _),by rw[zab,List.length_take];omega⟩)
  | exact List.eq_nil_of_length_eq_zero (by assumption)
  | (show Rows _ _;exact zaq (by assumption) ⟨zas _ (by assumption),by simp only[zab];omega⟩)
  | (show (0:Int)≤_∧_≤(20002:Int);first|exact zlf (by assumption) (by assumption)|exact zlg (by assumption) (by assumption)|exact zle (by assumption) (by assumption))
  | apply And.intro
  | (show InB _;first|assumption|exact InB.app (by assumption) (by assumption)|exact InB.app (by assumption) (zbv _ _)|exact InB.app (by assumption) (InB.cons InB.nil)|exact InB.app (by assumption) (InB.cons (InB.cons InB.nil))|exact (InB.cons (InB.cons (InB.cons (InB.cons InB.nil))))|exact (InB.cons (InB.cons (InB.cons (InB.cons (InB.cons (InB.cons (InB.cons (InB.cons InB.nil))))))))|exact InB.app (by assumption) (fun x hx=>by revert x;decide))
  | (show List.length _=_;simp only[List.length_append,zae,List.length_cons,List.length_nil,zac,zab];done)
  | (show List.length _=_;simp only[List.length_append,zae,List.length_cons,List.length_nil,zac,zab];omega)
  | (show List.length _≤_;simp only[List.length_append,zae,List.length_cons,List.length_nil,zac,zab];omega)
  | (intro z hz;clear zc zy zl zn z12 z14 z15 z16 z18 z19 z23 z26 zh zd zr zw;obtain⟨zc,zy,zl,zn,⟨z12,z14,z15,z16,z18,z19,z23,z26⟩,zh,zd,zr,zw⟩:=hz.parts;clear hz)
 all_goals first|exact (0:Int)|(show List.length _=_;simp only[List.length_append,zae,List.length_cons,List.length_nil,zac,zab];done)|skip
 have ht:Sq [(87,34),(87,34),(87,35)]:=trivial
 iterate 3
  refine yot (m:=m) ht ?_ ?_
  · skip
    repeat' first
     | exact rfl
     | assumption
     | exact za8
     | exact zct _
     | exact zbq _ _
     | exact zbm (by assumption)
     | apply ScA.mk'
     | (apply ex28;dsimp only)
     | ((first|show (_:Int)≤_|show (_:Int)<_|show (_:Nat)≤_|show (_:Nat)<_|show (_:Int)=_|show (_:Nat)=_);omega)
     | (show U64 _;unfold U64;omega)
     | exact fun _ h=>h
     | (show Rows _ _;exact zaq (by assumption) ⟨zas _ (zbv _ _),by simp only[zab,zac];omega⟩)
     | (show Rows _ _;exact zaq (by assumption) ⟨zas _ zh.1,by rw[zab];omega⟩)
     | (show Rows _ _;exact zaq (by assumption) ⟨zas _ (InB.take zd.1 _),by rw[zab,List.length_take];omega⟩)
     | exact List.eq_nil_of_length_eq_zero (by assumption)
     | (show Rows _ _;exact zaq (by assumption) ⟨zas _ (by assumption),by simp only[zab];omega⟩)
     | (show (0:Int)≤_∧_≤(20002:Int);first|exact zlf (by assumption) (by assumption)|exact zlg (by assumption) (by assumption)|exact zle (by assumption) (by assumption))
     | apply And.intro
     | (show InB _;first|assumption|exact InB.app (by assumption) (by assumption)|exact InB.app (by assumption) (zbv _ _)|exact InB.app (by assumption) (InB.cons InB.nil)|exact InB.app (by assumption) (InB.cons (InB.cons InB.nil))|exact (InB.cons (InB.cons (InB.cons (InB.cons InB.nil))))|exact (InB.cons (InB.cons (InB.cons (InB.cons (InB.cons (InB.cons (InB.cons (InB.cons InB.nil))))))))|exact InB.app (by assumption) (fun x hx=>by revert x;decide))
     | (show List.length _=_;simp only[List.length_append,zae,List.length_cons,List.length_nil,zac,zab];done)
     | (show List.length _=_;simp only[List.length_append,zae,List.length_cons,List.length_nil,zac,zab];omega)
     | (show List.length _≤_;simp only[List.length_append,zae,List.length_cons,List.length_nil,zac,zab];omega)
     | intro _
    all_goals first
     | exact (0:Int)
     | (simp only[List.length_append,zae,List.length_cons,List.length_nil,zac,zab];done)
     | (simp only[List.length_append,zae,List.length_cons,List.length_nil,zac,zab];omega)
  clear ht
  rintro ht z hz
  skip
  clear zc zy zl zn z12 z14 z15 z16 z18 z19 z23 z26 zh zd zr zw
  obtain⟨zc,zy,zl,zn,⟨z12,z14,z15,z16,z18,z19,z23,z26⟩,zh,zd,zr,zw⟩:=hz.parts
  clear hz
  repeat' first
   | exact rfl
   | assumption
   | exact zct _
   | exact zbq _ _
   | exact zbm (by assumption)
   | ((first|show (_:Int)≤_|show (_:Int)<_|show (_:Nat)≤_|show (_:Nat)<_|show (_:Int)=_|show (_:Nat)=_);omega)
   | (show U64 _;unfold U64;omega)
   | exact Nat.le_refl _
   | (show (_:Int)≤_;decide)
   | (show (_:Int)<_;decide)
   | intro _
   | (show SzR _;unfold SzR;rw[List.length_take];omega)
   | (show SzR _;unfold SzR;omega)
   | apply And.intro
 skip
 repeat' first
  | exact rfl
  | assumption
  | exact za8
  | exact zct _
  | exact zbq _ _
  | exact zbm (by assumption)
  | apply ScA.mk'
  | (apply ex28;dsimp only)
  | ((first|show (_:Int)≤_|show (_:Int)<_|show (_:Nat)≤_|show (_:Nat)<_|show (_:Int)=_|show (_:Nat)=_);omega)
  | (show U64 _;unfold U64;omega)
  | exact fun _ h=>h
  | (show Rows _ _;exact zaq (by assumption) ⟨zas _ (zbv _ _),by simp only[zab,zac];omega⟩)
  | (show Rows _ _;exact zaq (by assumption) ⟨zas _ zh.1,by rw[zab];omega⟩)
  | (show Rows _ _;exact zaq (by assumption) ⟨zas _ (InB.take zd.1 _),by rw[zab,List.length_take];omega⟩)
  | exact List.eq_nil_of_length_eq_zero (by assumption)
  | (show Rows _ _;exact zaq (by assumption) ⟨zas _ (by assumption),by simp only[zab];omega⟩)
  | (show (0:Int)≤_∧_≤(20002:Int);first|exact zlf (by assumption) (by assumption)|exact zlg (by assumption) (by assumption)|exact zle (by assumption) (by assumption))
  | apply And.intro
  | (show InB _;first|assumption|exact InB.app (by assumption) (by assumption)|exact InB.app (by assumption) (zbv _ _)|exact InB.app (by assumption) (InB.cons InB.nil)|exact InB.app (by assumption) (InB.cons (InB.cons InB.nil))|exact (InB.cons (InB.cons (InB.cons (InB.cons InB.nil))))|exact (InB.cons (InB.cons (InB.cons (InB.cons (InB.cons (InB.cons (InB.cons (InB.cons InB.nil))))))))|exact InB.app (by assumption) (fun x hx=>by revert x;decide))
  | (show List.length _=_;simp only[List.length_append,zae,List.length_cons,List.length_nil,zac,zab];done)
  | (show List.length _=_;simp only[List.length_append,zae,List.length_cons,List.length_nil,zac,zab];omega)
  | (show List.length _≤_;simp only[List.length_append,zae,List.length_cons,List.length_nil,zac,zab];omega)
  | (intro z hz hl1 hl2;clear zc zy zl zn z12 z14 z15 z16 z18 z19 z23 z26 zh zd zr zw;obtain⟨zc,zy,zl,zn,⟨z12,z14,z15,z16,z18,z19,z23,z26⟩,zh,zd,zr,zw⟩:=hz.parts;clear hz)
 all_goals first
  | exact (0:Int)
  | (simp only[List.length_append,List.length_cons,List.length_nil];done)
  | (simp only[List.length_append,List.length_cons,List.length_nil];omega)
  | exact fun hlt=>⟨⟨zc,zn.1,by omega⟩,fun q q1 q2 q3=>⟨⟨Nat.le_refl _,Nat.le_refl _,by omega⟩,⟨(z.ys++q.fst,q.snd.fst,q.snd.snd),⟨List.length_append,rfl,rfl,rfl⟩,q1,InB.app zy q2,fin_1 hl2,fin_2 hl1 (by omega)⟩⟩⟩
  | exact fun _=>⟨(_,_,_),⟨rfl,rfl,rfl,rfl⟩,zc,zy,(by show 80≤z.ys.length;omega),(by show z.ys.length≤20000;omega)⟩
theorem zg7{P:Program}{Ξ:SpecW}{n:Nat}{b:Code}{k:Nat}{L:LoopW}(hk:zbh b=some k)(hL:Ξ.loop k=some L)(h:zb3 P n b L):∀k' L',zbh b=some k'→Ξ.loop k'=some L'→zb3 P n b L':=fun k' L' h1 h2=>by
 rw[hk] at h1
 simp only[Option.some.injEq] at h1
 subst h1
 rw[hL] at h2
 simp only[Option.some.injEq] at h2
 subst h2
 exact h
theorem yr4{m:By}:zb3 Tryz.prog 2 (zai Tryz.f167 0) (skL0 m) :=
 zdd mixed zq7 zmp _ (fun z hz=>⟨skX m,(by
  rw[show zak (zai Tryz.f167 0)=[] by kernel_rfl]
  exact fun b hb=>by cases hb),scr_0 hz.1 hz.2.1 hz.2.2⟩)
theorem yg9{m:By}:zb3 Tryz.prog 2 (zai Tryz.f167 2) (skL2 m) :=
 zdd mixed zq7 zmp _ (fun z hz=>⟨skX m,(by
  rw[show zak (zai Tryz.f167 2)=[] by kernel_rfl]
  exact fun b hb=>by cases hb),scr_2 hz.1 hz.2.1.1 hz.2.1.2 hz.2.2.1 hz.2.2.2⟩)
theorem yr5{m:By}:zb3 Tryz.prog 2 (zai Tryz.f167 1) (skL1 m) :=
 zdd mixed zq7 zmp _ (fun z hz=>⟨skX m,(by
  rw[show zak (zai Tryz.f167 1)=[zai Tryz.f167 2] by kernel_rfl]
  intro b hb
  rcases List.mem_singleton.1 hb with rfl
  exact zg7 (k:=73) (by kernel_rfl) rfl yg9),scr_1 hz.1 hz.2.1 hz.2.2⟩)
theorem yr6{m:By}:zb3 Tryz.prog 2 (zai Tryz.f167 3) (skL3 m) :=
 zdd mixed zq7 zmp _ (fun z hz=>⟨skX m,(by
  rw[show zak (zai Tryz.f167 3)=[] by kernel_rfl]
  exact fun b hb=>by cases hb),scr_3 hz.1 hz.2.1 hz.2.2.1 hz.2.2.2.1 hz.2.2.2.2⟩)
theorem ybb:zcm Tryz.prog 167 script1:=by
 refine zgf Tryz.func167 (by kernel_rfl) zq7 zmp (fun m i hh (x:Unit) hc _=>⟨skX m, ?_,yl3 hc⟩)
 rw[show zak (zat Tryz.f167)=[zai Tryz.f167 0,zai Tryz.f167 1,zai Tryz.f167 2,zai Tryz.f167 3] by kernel_rfl]
 intro b hb
 simp only[List.mem_cons,List.not_mem_nil,or_false] at hb
 rcases hb with rfl|rfl|rfl|rfl
 · exact zg7 (k:=5) (by kernel_rfl) rfl yr4
 · exact zg7 (k:=70) (by kernel_rfl) rfl yr5
 · exact zg7 (k:=73) (by kernel_rfl) rfl yg9
 · exact zg7 (k:=88) (by kernel_rfl) rfl yr6
end Go.Proofs.YtfiddfbagbaofaaGreat.V
