/- Drawn programs. Conditions: those in each statement. -/
import Derived.Test.YtfiddfbagbaofaaGreatEI
import Derived.KernelRfl
namespace Go.Proofs.YtfiddfbagbaofaaGreat.V
open Go
abbrev prog1:RelS:=zvo [i64,bl] [byP] ([]:By) (fun x:Int × Bool=>0≤x.1∧x.1≤100) (fun  (x:Int × Bool)(y:By)=>InB y∧4*x.1≤(y.length:Int)∧(y.length:Int)≤4*x.1+8)
def yvr:Known:=[(113,zag [i64,i64] [u64] (fun _=>none) (fun t=>zng t.1 t.2))]
def FEJ:Dict:=mkD (kEC0++yvr++kEB2++kB3++kA4) [] []
def zu1:List (FuncId × RelS):=(209,num1)::yto
def prL(m:By)(n:Int)(w:Bool):LoopW where
 α:=By × Int × Int
 I x:=zbe m x.2.1∧InB x.1∧(x.1.length:Int)≤4*n+8
 sl x:=slots 191 [(0,.ptr 0 0),(1,.v (.int .i64 n)),(2,.v (.bool w)),(7,.sl 2 1 0 x.1.length)]
 H x:=zff m x.2.1 x.2.2++[.arr [.i .u8] x.1 true]
 fams:=[{ β:=By × Int × Int,out:=fun _ z=>zbe m z.2.1∧InB z.1∧4*n≤(z.1.length:Int)∧(z.1.length:Int)≤4*n+8,ex := .ext 0,sl:=fun z=>slots 191 [(7,.sl 2 1 0 z.1.length)],H:=fun z=>zff m z.2.1 z.2.2++[.arr [.i .u8] z.1 true] }]
def yv7(n:Int)(m:By)(w:Bool)(xs:By)(k:Nat):Option CutW :=
 if k=7 then some { β:=Int × Int × Int × Int × Int,sl:=fun z=>slots 191 [(0,.ptr 0 0),(1,.v (.int .i64 n)),(2,.v (.bool w)),(7,.sl 2 1 0 xs.length),(8,.v (.int .i64 z.1)),(9,.v (.int .i64 z.2.1)),(10,.v (.int .i64 z.2.2.1))],H:=fun z=>zff m z.2.2.2.1 z.2.2.2.2++[.arr [.i .u8] xs true] } else none
def prX(m:By)(n:Int)(w:Bool)(xs:By):SpecW:={ plan:=fun _=>some (fun _ => .std),loop:=fun k=>if k=2 then some (prL m n w) else none,cond:=yv7 n m w xs }
def zuc(m:By)(n:Int)(w:Bool)(xs:By)(i h:Int):Prop:=zd5 Tryz.prog FEJ (Rels.of zu1) (prX m n w xs) 2 (zai Tryz.f214 0) (prL m n w) (fun x:By × Int × Int=>(4*n+100-(x.1.length:Int)).toNat) (xs,i,h)
def ys1(m:By)(i h n:Int)(w:Bool):Prop:=vcR Tryz.prog FEJ (Rels.of zu1) (prX m n w []) Tryz.f214 prog1 [.ptr 0 0,.v (.int .i64 n),.v (.bool w)] (zff m i h)
set_option linter.unusedVariables false
theorem zud(m:By)(n:Int)(w:Bool)(xs:By)(i h:Int):zuc m n w xs i h=(
 let A0(a:Int):=IntKind.i64.wrap a;
 let A1(a:By):=(↑(List.length a):Int);
 let A2:=(4:Int)*n;
 let A3(a:Int × Int × Int × Int × Int):=a.snd.fst;
 let A4:=List.length xs;
 let A5(a b c:Int):=zu0 a 3 2 b c;
 let A6(a:Int):=A0 ((8:Int)*a);
 let A7(a b c d:Int):=zu0 a b c 0 d;
 let A8(a:Int × Int):=zbe m a.fst;
 let A9(a b c:Prop):=a∧b∧c;
 let Aa(a:By):=List.take (List.length a) (List.drop 0 a);
 let Ab(a:Int):=A5 6 3 a;
 let Ac(a:Int × Int × Int × Int × Int):=A6 (A3 a);
 let Ad(a:Int × Int × Int × Int × Int):=a.snd.snd.fst;
 let Ae(a b c d e:Prop):=A9 a b (A9 c d e);
 let Af:=Int.ofNat 0;
 let Ah(a:By × Int × Int):=A1 a.fst≤A2+8;
 let Ai(a:Nat)(b:By):=a+(Aa b).length;
 let Aj:=(0:Nat)=0;
 let Ak(a:Int):=(A2+100-a).toNat;
 let Al(a:Int × Int × Int × Int × Int):=Ab (A0 (Ac a-128));
 let Am(a:Int × Int × Int × Int × Int):=Ab (Ac a);
 let An(a:By):=Ai A4 a;
 let Ao(a b:Int):=A7 a 7 0 b;
 let Ap(a:Int × Int × Int × Int × Int):=a.snd.snd.snd;
 let Aq(a b:Int):=A7 a b 0 0;
 let Ar(a:Int):=(2:Int) ^ (min a.toNat 64);
 let Au(a b:Prop)(c:Nat):=A9 a b (c≤1073741824);
 let Aw(a:Int)(b:List (El [Ty.i IntKind.u8])):=IntKind.u8.wrap a::b;
 let Ax(a:Int × Int × Int × Int × Int):=A5 7 0 (Ac a);
 let Ay(a:By):=List.take A4 xs++Aa a;
 let Az(a b:Int):=bits BinOp.and IntKind.i64 a b;
 let AB(a:Int × Int × Int × Int × Int)(b c:Int):=A7 11 (A0 (Ad a*b)) (A0 ((7:Int)*c)) 0;
 let AC(a b c:Prop):=a→b∧c;
 let AD(a:By)(b:Prop)(c:Nat):=Au ((0:Nat)+List.length a≤List.length a) b c;
 let AE(a b:Bool)(c d:Prop):=AC (a=b) c d;
 let AF:=False→False;
 let AG:=List.length m=List.length m;
 let AH(a:By × Int × Int)(b:Nat)(c:Int × Int)(d:List (El [Ty.i IntKind.u8]))(e:Prop):=Ae (n=n∧Ae (w=w) Aj (List.length a.fst=b) Aj (Ae AG (a.snd.fst=c.fst) (a.snd.snd=c.snd) (m=m) (a.fst=d))) (∀(x5:Option
  Addr × Nat × Nat),∀(x6:List Int),AF) (A9 (A8 a.snd) (InB a.fst) (Ah a)) (Ak (A1 a.fst)<Ak (A1 xs)) e;
 let AI(a:Int × Int × Int × Int × Int):=Ao 1 ((A3 a).tmod 4);
 let AJ(a:PmT [i64] × Int × Int):=A0 ((57:Int)+a.fst);
 let AK(a:Int × Int × Int × Int × Int)(b:PmT [i64] × Int × Int)(c:Int):=zu0 5 7 (Ad a) b.fst c;
 let AL(a:By × Int × Int):=A8 a.snd∧A9 (InB a.fst) (A2≤A1 a.fst) (Ah a);
 let AM(a b:Int)(c:List (El [Ty.i IntKind.u8])):=Aw a (Aw b c);
 let AN(a b:Int)(c:Bool)(d e:Prop):=AE (decide (a<b)) c d e;
 let AO(a:PmT [i64] × Int × Int)(b:Int × Int × Int × Int × Int)(c:PmT [i64] × Int × Int)(d:Int):=zu0 6 a.fst (Ad b) c.fst d;
 let AP(a:Int × Int)(b:Int):=AG∧A9 (A8 a) ((1:Int)≤b) (b≤100000);
 let AQ(a:By × Int × Int)(b:By)(c:Int × Int)(d:Prop):=AH a (An b) c (Ay b) d;
 let AR(a:Prop)(b:Int × Int)(c:Int)(d:Prop):=AC a (AP b c) d;
 let AS(a:Int × Int × Int × Int × Int)(b:PmT [i64] × Int × Int):=AB a (bits BinOp.and IntKind.i64 b.fst 1) (b.fst/Ar 1);
 let AT:=(0:Nat)+4;
 let AU(a:PmT [bl] × Int × Int):=a.fst=false;
 let AV(a:PmT [i64] × Int × Int)(b:Int):=A9 (A8 a.snd) ((0:Int)≤a.fst) (a.fst<b);
 let AW(a:By × Int × Int)(b:Nat)(c:Int × Int)(d:By)(e:List (El [Ty.i IntKind.u8]))(f:Prop):=AH a b c (List.take (An d) (Ay d)++e) f;
 let AX(a:By × Int × Int)(b:By)(c:Int × Int × Int × Int × Int)(d:Prop):=AQ a b (Ap c) d;
 let AY(a:Int × Int × Int × Int × Int)(b:PmT [i64] × Int × Int):=AK a b (A0 (Ac a-16));
 let AZ(a:By):=AD a (A4≤A4) (An a);
 let B0(a:Int × Int × Int × Int × Int):=Aq 9 (A0 ((4:Int)+(A3 a).tmod 2));
 let B1(a:Int × Int × Int × Int × Int):=Aq 10 (A3 a);
 let B2(a:Int × Int × Int × Int × Int):=zu0 7 7 (Ad a) 7 (Ac a);
 let B3(a:By × Int × Int):=AL a→AL a;
 let B4(a:Prop)(b:Int × Int)(c:Prop):=AR a b 3 c;
 let B5(a:PmT [bl] × Int × Int):=a.fst=true;
 let B6(a:Int × Int × Int × Int × Int):=A7 3 (Ad a) (Ad a) (A0 (Ac a-24));
 let B7(a:Prop)(b:Int × Int)(c:Prop):=AR a b 8 c;
 let B8(a:PmT [i64] × Int × Int)(b:Int × Int × Int × Int × Int):=zu0 a.fst (A3 b) (Ad b) (A3 b) (A0 ((4:Int)-A3 b));
 let B9(a:By × Int × Int)(b:By)(c:Int × Int)(d:Prop):=AW a (An b+4) c b (AM (Int.ofNat 11) (A0 (Af+A6 Af)) (AM Af (Az Af 255) [])) d;
 let Ba(a:PmT [i64] × Int × Int):=AV a 8;
 let Bb(a:By × Int × Int)(b:By)(c:PmT [i64] × Int × Int)(d:Prop):=AQ a b c.snd d;
 let Bc(a:PmT [i64] × Int × Int):=Ao 8 (A0 ((-1)-a.fst));
 let Bd(a:Int × Int × Int × Int × Int):=AB a (Az (A3 a) 1) (A3 a/Ar 2);
 let Be(a:By × Int × Int)(b:By)(c:Int × Int × Int × Int × Int)(d:PmT [i64] × Int × Int)(e:Prop):=AW a (Ai (An b) (AS c d)) d.snd b (Aa (AS c d)) e;
 let Bf(a:Prop)(b:By)(c:Prop):=AC a (AZ b) c;
 let Bg(a b c d:Prop):=a→A9 b c d;
 let Bh(a:PmT [bl] × Int × Int)(b c:Prop):=AC (A8 a.snd∧True) b c;
 let Bi(a:Int × Int × Int × Int × Int)(b c:Int)(d e f:Prop):=AE (a.fst==b) false (AE (a.fst==c) true d e) f;
 let Bj:=(4:Int)≠0;
 let Bk(a:By):=Au (AT.le 4) (An a≤(Ay a).length) (An a+4);
 let Bl:=A4+4;
 let Bm(a:PmT [i64] × Int × Int)(b:Int × Int × Int × Int × Int)(c:By)(d:Prop):=Bg (AV a 3) ((0:Int)≤1) (AD (AS b a) (An c≤(Ay c).length) (Ai (An c) (AS b a))) d;
 let Bn(a:Prop)(b:By)(c d:Prop):=Bg a (AZ b) (AE w true (Bk b) c) d;
 let Bo(a:Int × Int × Int × Int × Int):=AP (Ap a) 4;
 let Bp(a:Int × Int × Int × Int × Int)(b c:PmT [i64] × Int × Int)(d:Int)(e:PmT [bl] × Int × Int)(f:Int × Int × Int × Int × Int→Prop):=A9 (Ae (n=n) (w=w) Aj (A4=A4) (Ae (a.fst=b.fst) (A3 a=c.fst) (Ad a=d) Aj
  (Ae AG ((Ap a).fst=e.snd.fst) ((Ap a).snd=e.snd.snd) (m=m) (xs=xs)))) (∀(x5:Option Addr × Nat × Nat),∀(x6:List Int),AF) (f a);
 let Bq(a:Int × Int × Int × Int × Int)(b:Int)(c:Prop)(d:By)(e:Prop):=Bg ((a.fst==b)=true) c (AZ d) e;
 let Br(a:By × Int × Int)(b:By)(c:PmT [bl] × Int × Int)(d:Prop):=AQ a b c.snd d;
 let Bs:=List.take A4 xs++AM (Int.ofNat 14) (A0 (Af+A6 Af)) (AM Af (Az Af 255) []);
 let Bt(a:PmT [bl] × Int × Int)(b:Prop):=AE w false (AP a.snd 4) b;
 let Bu(a:PmT [bl] × Int × Int)(b c:Prop):=Bh a (B4 (B5 a) a.snd b) (AU a→c);
 let Bv(a:PmT [bl] × Int × Int)(b c d:Prop):=Bh a (AC (B5 a) b c) (B4 (AU a) a.snd d);
 let Bw(a:PmT [bl] × Int × Int)(b c:Prop):=Bh a (AR (B5 a) a.snd 7 b) c;
 let Bx(a:PmT [i64] × Int × Int)(b:Prop):=B7 (AV a 4) a.snd b;
 AN (A1 xs) (A0 A2) true (AG∧A9 (zbe m i) ((1:Int)≤20) ((20:Int)≤100000)) (∀(x0:PmT [i64] × Int × Int),B7 (AV x0 20) x0.snd (∀(x1:PmT [i64] × Int × Int),B4 (Ba x1) x1.snd (∀(x2:PmT
  [bl] × Int × Int),A8 x2.snd∧True→∃(x3:Int × Int × Int × Int × Int→Prop),((B5 x2→∃(x4:Int × Int × Int × Int × Int),Bp x4 x0 x1 6 x2 x3)∧(AU x2→∃(x7:Int × Int × Int × Int × Int),Bp x7 x0 x1
  1 x2 x3))∧∀(x8:Int × Int × Int × Int × Int),AC (x3 x8) (AN x8.fst 5 true (Bo x8) (∀(x9:PmT [i64] × Int × Int),Bx x9 (∀(x10:PmT [bl] × Int × Int),Bw x10 (∀(x11:PmT [i64] × Int × Int),Bf
  (AV x11 7) (AK x8 x9 (AJ x11)) (∃(x12:By × Int × Int),Bb x12 (AK x8 x9 (AJ x11)) x11 (∀(x13:By × Int × Int),B3 x13))) (Bf (AU x10) (AY x8 x9) (∃(x14:By × Int × Int),Br x14 (AY x8 x9) x10 (∀
  (x13:By × Int × Int),B3 x13)))))) (AN x8.fst 5 false (AN x8.fst 7 true (Bo x8) (∀(x15:PmT [i64] × Int × Int),Bx x15 (∀(x16:PmT [bl] × Int × Int),Bw x16 (∀(x17:PmT [i64] × Int × Int),B7 (AV
  x17 7) x17.snd (∀(x18:PmT [i64] × Int × Int),Bf (Ba x18) (AO x18 x8 x15 (AJ x17)) (∃(x19:By × Int × Int),Bb x19 (AO x18 x8 x15 (AJ x17)) x18 (∀(x13:By × Int × Int),B3 x13)))) (B7 (AU x16)
  x16.snd (∀(x20:PmT [i64] × Int × Int),Bf (Ba x20) (AO x20 x8 x15 (Ac x8)) (∃(x21:By × Int × Int),Bb x21 (AO x20 x8 x15 (Ac x8)) x20 (∀(x13:By × Int × Int),B3 x13))))))) (AN x8.fst 7 false (AN
  x8.fst 11 true (Bo x8) (∀(x22:PmT [bl] × Int × Int),Bh x22 (Bn (B5 x22) (Al x8) (∃(x23:By × Int × Int),B9 x23 (Al x8) x22.snd (∀(x13:By × Int × Int),B3 x13)) (Bt x22 (∀(x24:PmT [bl] × Int ×
  Int),Bv x24 (Bk (Al x8)) (∃(x25:By × Int × Int),B9 x25 (Al x8) x24.snd (∀(x13:By × Int × Int),B3 x13)) (∀(x26:PmT [bl] × Int × Int),Bu x26 (∀(x27:PmT [i64] × Int × Int),Bm x27 x8 (Al x8) (∃(x28 :
  By × Int × Int),Be x28 (Al x8) x8 x27 (∀(x13:By × Int × Int),B3 x13))) (∃(x29:By × Int × Int),Br x29 (Al x8) x26 (∀(x13:By × Int × Int),B3 x13)))))) (Bg (AU x22) (AZ (Am x8)) (AE w true (Bk (Am x8))
  (∃(x30:By × Int × Int),B9 x30 (Am x8) x22.snd (∀(x13:By × Int × Int),B3 x13))) (Bt x22 (∀(x31:PmT [bl] × Int × Int),Bv x31 (Bk (Am x8)) (∃(x32:By × Int × Int),B9 x32 (Am x8) x31.snd (∀(x13:By ×
  Int × Int),B3 x13)) (∀(x33:PmT [bl] × Int × Int),Bu x33 (∀(x34:PmT [i64] × Int × Int),Bm x34 x8 (Am x8) (∃(x35:By × Int × Int),Be x35 (Am x8) x8 x34 (∀(x13:By × Int × Int),B3 x13))) (∃(x36:By ×
  Int × Int),Br x36 (Am x8) x33 (∀(x13:By × Int × Int),B3 x13)))))))) (AN x8.fst 11 false (Bq x8 11 ((2:Int)≠0) (B0 x8) (∃(x37:By × Int × Int),AX x37 (B0 x8) x8 (∀(x13:By × Int ×
  Int),B3 x13))) (Bi x8 11 12 (AP (Ap x8) 8) (∀(x38:PmT [i64] × Int × Int),Bf (Ba x38) (Bc x38) (∃(x39:By × Int × Int),Bb x39 (Bc x38) x38 (∀(x13:By × Int × Int),B3 x13))) (Bi
  x8 12 13 (AZ (B6 x8)) (∃(x40:By × Int × Int),AX x40 (B6 x8) x8 (∀(x13:By × Int × Int),B3 x13)) (Bi x8 13 14 (AZ (B2 x8)) (∃(x41:By × Int × Int),AX x41 (B2 x8) x8 (∀(x13
  : By × Int × Int),B3 x13)) (AE (x8.fst==14) false (Bq x8 15 ((0:Int)≤2) (Bd x8) (∃(x42:By × Int × Int),AX x42 (Bd x8) x8 (∀(x13:By × Int × Int),B3 x13))) (Bi x8 15 (16 :
  Int) (AZ (B1 x8)) (∃(x43:By × Int × Int),AX x43 (B1 x8) x8 (∀(x13:By × Int × Int),B3 x13)) (Bi x8 16 17 (AE (A3 x8==7) true (Au (AT.le 4) (A4≤A4) Bl) (A9 Bj (AD (AI x8) (Bl
  ≤ Bs.length) (Ai Bl (AI x8))) (∃(x44:By × Int × Int),AH x44 (Ai Bl (AI x8)) (Ap x8) (List.take Bl Bs++Aa (AI x8)) (∀(x13:By × Int × Int),B3 x13)))) (Bg ((A3 x8==7)=false) Bj (AZ (AI x8)) (∃
  (x45:By × Int × Int),AX x45 (AI x8) x8 (∀(x13:By × Int × Int),B3 x13))) (Bi x8 17 18 (AP (Ap x8) 17) (∀(x46:PmT [i64] × Int × Int),Bf (AV x46 17) (B8 x46 x8) (∃(x47:By × Int
  × Int),Bb x47 (B8 x46 x8) x46 (∀(x13:By × Int × Int),B3 x13))) (Bn ((x8.fst==18)=false) (Ax x8) (∃(x48:By × Int × Int),B9 x48 (Ax x8) (Ap x8) (∀(x13:By × Int × Int),B3 x13)) (w=false→∃
  (x49:By × Int × Int),AX x49 (Ax x8) x8 (∀(x13:By × Int × Int),B3 x13))))))))))))))))∧(decide ((A1 xs)<(A0 A2))=false→∃(x50:By × Int × Int),(Aj∧A9 (List.length x50.fst=A4) Aj (Ae AG (x50.snd.fst=i)
  (x50.snd.snd=h) (m=m) (x50.fst=xs)))∧Ae (∀(x5:Option Addr × Nat × Nat),∀(x6:List Int),AF) (A8 x50.snd) (InB x50.fst) (A2≤A1 x50.fst) (Ah x50))):=by kernel_rfl
theorem yb4(m:By)(i h n:Int)(w:Bool):ys1 m i h n w=(
 ∃(x:By × Int × Int),(n=n∧w=w∧(0:Nat)=0∧List.length x.fst=0∧(0:Nat)=0∧List.length m=List.length m∧x.snd.fst=i∧x.snd.snd=h∧m=m∧x.fst=[])∧(∀(y:Option Addr × Nat × Nat)
 (xs:List Int),False→False)∧(zbe m x.snd.fst∧InB x.fst∧(↑(List.length x.fst):Int)≤4*n+8)∧∀(z:By × Int × Int),zbe m z.snd.fst∧InB z.fst∧4*n≤(↑(List.length z.fst):Int) ∧
 (↑(List.length z.fst):Int)≤4*n+8→∃(z_1:PmT [byP] × Int × Int),((0:Nat)=0∧List.length z_1.fst=List.length z.fst∧(0:Nat)=0∧List.length m=List.length m∧z_1.snd.fst=z.snd.fst ∧
 z_1.snd.snd=z.snd.snd∧m=m∧z_1.fst=z.fst)∧zbe m z_1.snd.fst∧InB z_1.fst∧4*n≤(↑(List.length z_1.fst):Int)∧(↑(List.length z_1.fst):Int)≤4*n+8):=by kernel_rfl
set_option linter.unusedSimpArgs false
set_option linter.unusedVariables false
theorem InB.nil:InB []:=fun x h=>by cases h
theorem InB.app{a b:By}(h:InB a)(g:InB b):InB (a++b):=fun x hx=>by
 rcases List.mem_append.1 hx with q|q
 · exact h x q
 · exact g x q
theorem InB.take{a:By}(h:InB a)(n:Nat):InB (a.take n):=fun x hx=>h x (List.mem_of_mem_take hx)
theorem InB.drop{a:By}(h:InB a)(n:Nat):InB (a.drop n):=fun x hx=>h x (List.mem_of_mem_drop hx)
theorem InB.cons{a:Int}{l:By}(h:InB l):InB (IntKind.u8.wrap a::l):=fun x hx=>by
 rcases List.mem_cons.1 hx with rfl|q
 · exact yhm _
 · exact h x q
theorem ykz(op a b c s:Int):InB (zu0 op a b c s):=yqq op a b c s
theorem zae(op a b c s:Int):(zu0 op a b c s).length=4:=rfl
theorem ye0(op a b c s:Int):(zu0 op a b c s).take 4=zu0 op a b c s:=rfl
theorem ynt:DictOk Tryz.prog FEJ:=za1 ((((zv7.append (.cons (by kernel_rfl) zmv .nil)).append zv6).append zdn).append zce) .nil .nil
theorem ze3:zb7 Tryz.prog (Rels.of zu1):=Rels.ok (fun p hp=>by
 simp only[zu1,yto,ylu,ylt,List.cons_append,List.nil_append,List.mem_cons,List.not_mem_nil,or_false] at hp
 rcases hp with rfl|rfl|rfl|rfl|rfl|rfl|rfl|rfl
 · exact⟨by kernel_rfl,yds⟩
 · exact⟨by kernel_rfl,yhn⟩
 · exact⟨by kernel_rfl,zlw⟩
 · exact⟨by kernel_rfl,zwk⟩
 · exact⟨by kernel_rfl,zk4⟩
 · exact⟨by kernel_rfl,zk8⟩
 · exact⟨by kernel_rfl,zpq⟩
 · exact⟨by kernel_rfl,zf0⟩)
theorem ya2{m:By}{n:Int}{w:Bool}{xs:By}{i h:Int}(hn:0≤n∧n≤100)(hc:zbe m i)(hx:InB xs)(hl:(xs.length:Int)≤4*n+8):zuc m n w xs i h:=by
 have hw:IntKind.i64.wrap (4*n)=4*n:=zaa (by omega) (by omega)
 have L1:∀a b c d e:Int,xs.length+(zu0 a b c d e).length≤1073741824:=fun a b c d e=>by rw[zae];omega
 refine zah (zud m n w xs i h) ?_
 conv=>zeta
 simp only[and_imp,zae,ye0,List.take_length,List.drop_zero,hw,Nat.zero_add,decide_eq_true_eq,decide_eq_false_iff_not,List.length_append,true_and,and_true,false_imp_iff,implies_true]
 refine⟨fun hlt=>⟨⟨hc,by omega,by omega⟩,fun z z1 z2 z3=>⟨⟨z1,by omega,by omega⟩,fun y y1 y2 y3=>⟨⟨y1,by omega,by omega⟩,fun o o1 =>
  ⟨fun q=>0≤q.1∧q.1<20∧0≤q.2.1∧q.2.1<8∧zbe m q.2.2.2.1,⟨fun _ => ?_,fun _ => ?_⟩, ?_⟩⟩⟩⟩, ?_⟩
 · exact⟨(_,_,_,_,_),⟨rfl,rfl,rfl,rfl,rfl⟩,z2,z3,y2,y3,o1⟩
 · exact⟨(_,_,_,_,_),⟨rfl,rfl,rfl,rfl,rfl⟩,z2,z3,y2,y3,o1⟩
 · rintro⟨k,at_,b,i',h'⟩ ⟨k1,k2,a1,a2,c1⟩
   clear hc z1 y1 o1
   simp only[] at k1 k2 a1 a2 c1
   repeat' first
    | assumption
    | exact rfl
    | (show InB _;repeat' first|exact hx|exact ykz _ _ _ _ _|exact InB.nil|refine InB.app ?_ ?_|refine InB.take ?_ _|refine InB.drop ?_ _|refine InB.cons ?_)
    | intro _
    | refine⟨(_,_,_),⟨?_,rfl,rfl,rfl⟩,⟨?_, ?_, ?_⟩, ?_, ?_⟩
    | apply And.intro
   all_goals first
    | omega
    | exact Nat.le_refl 4
    | (simp only[List.length_append,zae,List.length_cons,List.length_nil,List.length_take];done)
    | (simp only[List.length_append,zae,List.length_cons,List.length_nil,List.length_take];omega)
 · exact fun hge=>⟨(_,_,_),⟨rfl,rfl,rfl,rfl⟩,hc,hx,(by show 4*n≤(xs.length:Int);omega),hl⟩
theorem yv8{m:By}{n:Int}{w:Bool}(hn:0≤n∧n≤100):zb3 Tryz.prog 2 (zai Tryz.f214 0) (prL m n w) :=
 zdd mixed ynt ze3 _ (fun x hx=>⟨prX m n w x.1,(by
  have:zak (zai Tryz.f214 0)=[]:=by kernel_rfl
  rw[this]
  exact fun b hb=>by cases hb),by
   obtain⟨xs,i,h⟩:=x
   obtain⟨h1,h2,h3⟩:=hx
   exact ya2 hn h1 h2 h3⟩)
theorem ylq:zcm Tryz.prog 214 prog1:=by
 refine zgf Tryz.func214 (by kernel_rfl) ynt ze3 (fun m i hh (x:Int × Bool) hc hx=>⟨prX m x.1 x.2 [], ?_, ?_⟩)
 · have:zak (zat Tryz.f214)=[zai Tryz.f214 0]:=by kernel_rfl
   rw[this]
   intro b hb k L hk hL
   rcases List.mem_singleton.1 hb with rfl
   have hk':zbh (zai Tryz.f214 0)=some 2:=by kernel_rfl
   rw[hk'] at hk
   simp only[Option.some.injEq] at hk
   subst hk
   simp only[prX,if_true,Option.some.injEq] at hL
   subst hL
   exact yv8 hx
 · obtain⟨n,w⟩:=x
   obtain⟨n1,n2⟩:0≤n∧n≤100:=hx
   refine zah (yb4 m i hh n w) ?_
   exact⟨([],i,hh),⟨rfl,rfl,rfl,rfl,rfl,rfl,rfl,rfl,rfl,rfl⟩,fun _ _ h=>h,⟨hc,InB.nil,by show (0:Int)≤4*n+8;omega⟩,fun z ⟨q1,q2,q3,q4⟩ =>
    ⟨(_,_,_),⟨rfl,rfl,rfl,rfl,rfl,rfl,rfl,rfl⟩,q1,q2,q3,q4⟩⟩
end Go.Proofs.YtfiddfbagbaofaaGreat.V
