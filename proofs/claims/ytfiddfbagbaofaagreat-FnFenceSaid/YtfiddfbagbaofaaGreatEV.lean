/- The laws on translations: with empty caches, what is found after one, behind a fence (seat G). Conditions: those in each statement. -/
import Derived.Test.YtfiddfbagbaofaaGreatET
import Derived.Test.YtfiddfbagbaofaaGreatEU
import Derived.KernelRfl
namespace Go.Proofs.YtfiddfbagbaofaaGreat.V
open Go
def yxq(m:Es)(va:Int):Prop:=SzR m.length∧U64 va∧∀e ∈ m,e.1=true→LvR e.2.1
def FEV0:Dict:=mkD kA4 [] []
def yiq(s:Int):Prop:=zal Tryz.prog FEV0 .none Tryz.f42 [u64] [u64] s (zav s)
def yxy(x l:Int):Prop:=zal Tryz.prog FEV0 .none Tryz.f142 [u64,i64] [u64] (x,l) (zkk x l)
def kEV1:Known:=[
 (42,zag [u64] [u64] (fun s=>some (U64 s)) zav),
 (142,zag [u64,i64] [u64] (fun t=>some (U64 t.1∧LvR t.2)) (fun t=>zkk t.1 t.2))]
def FEV1:Dict:=mkD (kEV1++kA4) [] []
def yxk(s w:Int)(m:Es)(va:Int):LoopS where
 α:=Nat
 I i:=i≤m.length∧yxq m va∧∀j,j<i→((m.getD j zE).1&&(m.getD j zE).2.2.2.2.1&&((m.getD j zE).2.2.1==zkk va (m.getD j zE).2.1))=false
 sl i:=slots 34 [(1,.v (.int .u64 va)),(2,.ptr 1 0),(5,.v (.int .i64 (i:Int)))]
 H _:=[.arr shE m false,.fix (tlA s w 0 m.length) true (some 37)]
 fams:=[{ β:=Unit,out:=fun _ _=>zn5 va m=false,ex := .ext 0,sl:=fun _=>slots 34 [],H:=fun _=>[.arr shE m false] },
  { β:=Unit,out:=fun _ _=>zn5 va m=true,ex := .ret,sl:=fun _=>slots 34 [(4,.v (.bool true))],H:=fun _=>[.arr shE m false] }]
def yxo(s w:Int)(m:Es)(va:Int)(i:Nat):Prop:=zax Tryz.prog FEV1 (.one 2 (yxk s w m va)) 1 (zai Tryz.f47 0) (yxk s w m va) (fun i:Nat=>m.length-i) i
def yx9(s w:Int)(m:Es)(va:Int):Prop:=zal Tryz.prog FEV1 (.one 2 (yxk s w m va)) Tryz.f47 [tlP,u64] [bl] ((s,w,m),va) (zn5 va m)
def kEV2:Known:=(47,zag [tlP,u64] [bl] (fun t=>some (yxq t.1.2.2 t.2)) (fun t=>zn5 t.2 t.1.2.2))::kEV1
def kEV3:Known:=[
 (46,zag [byP,zds,i64,u64] [trP] (fun t=>some (zan t.1∧U64 t.2.1.2.2.2∧U64 t.2.2.2)) (fun t=>zbt t.1 t.2.1 t.2.2.1 t.2.2.2)),
 (45,zag [byP,zds,i64,u64] [trP] (fun t=>some (zan t.1∧U64 t.2.1.2.2.2∧U64 t.2.2.2)) (fun t=>zbt t.1 t.2.1 t.2.2.1 t.2.2.2)),
 (22,zag [byP] [scP] (fun b=>some (zan b)) yjr)]
def FEV2:Dict:=mkD (kEV3++kEV2++kZ1++kJ3++kH++kA4) [] []
def lwX:SpecW:={ plan:=fun k=>if k=3 then some (fun _ => .std) else none }
def fnX(m b:By):SpecW:={ lwX with cut:=fun r=>if r=13 then some { β:=Tq × Fc,sl:=fun z=>slots 134 [(5,.sl 2 1 0 z.1.1.length),(6,.ptr 3 0),(7,.ptr 4 0),(8,.v (.int .i64 z.1.2.2.2.1)),(9,.v (.int .u64 z.1.2.2.2.2.1)),(10,.v (.int .i64 z.1.2.2.2.2.2)),(13,.ptr 8 0)],H:=fun z=>[.arr [.i .u8] m false,.arr [.i .u8] b false,.arr [.i .u8] z.1.1 true,.fix (ctA z.1.2.1) true (some 65),.fix (cfA z.1.2.2.1 5) true (some 39)]++cfH z.1.2.2.1++[.fix (fcA z.2) true (some 58)] } else none }
def ymf(m b:By):Prop:=vcP Tryz.prog FEV2 (Rels.of [(37,dtrR)]) (fnX m b) Tryz.f10 [byP,byP] [bl] (m,b) (fun z:Bool=>z=true)
set_option linter.unusedVariables false
set_option maxRecDepth 10000
theorem zt8(s:Int):yiq s=(
 (0:Int)≤(44:Int)∧zav s=bits BinOp.and IntKind.u64 (s/(2:Int) ^ min (Int.toNat (44:Int)) (64:Nat)) (65535:Int)):=by kernel_rfl
theorem ymg(x l:Int):yxy x l=(
 0≤IntKind.u64.wrap (IntKind.i64.wrap ((6:Int)+IntKind.i64.wrap ((3:Int)*l)))∧zkk x l=bits BinOp.and IntKind.u64 x (32767:Int)/2 ^ min (IntKind.u64.wrap (IntKind.i64.wrap ((6:Int)+IntKind.i64.wrap ((3 :
 Int)*l)))).toNat 64):=by kernel_rfl
theorem yd0(s w:Int)(m:Es)(va:Int)(i:Nat):yxo s w m va i=(
 let A0:=List.length m;
 let A1:=(0:Nat)+(↑i:Int).toNat;
 let A2:=List.getD m A1 (El.zero shE);
 let A3:=(↑i:Int);
 let A4:=A2.snd.snd;
 let A5(a b c:Prop):=a∧b∧c;
 let A6:=decide (A3<(↑A0:Int));
 let A7(a:Nat):=(List.getD m a zE).snd.snd;
 let A8(a:Bool)(b:Prop):=(bif bif A2.fst then A4.snd.snd.fst else false then A4.fst==zkk va A2.snd.fst else false)=a→b;
 let A9:=zn5 va m=true;
 let Aa:=zn5 va m=false;
 (A6=true→A5 ((0:Int)≤A3∧A3<(↑A0:Int)) (A1<A0) (A5 ((bif A2.fst then A4.snd.snd.fst else false)=true→U64 va∧LvR A2.snd.fst) (A8 true (∃(x0:Unit),(true=true∧m=m)∧A9)) (A8 false (∃(x1:Nat),A5 (A5 (va =
  va) ((↑x1:Int)=IntKind.i64.wrap (A3+1)) (A5 (m=m) (s=s) (A5 (w=w) ((0:Nat)=0) (A0=A0)))) (A5 (x1≤A0) (yxq m va) (∀(x2:Nat),x2<x1→((List.getD m x2 zE).fst&&(A7 x2).snd.snd.fst&&(A7
  x2).fst==zkk va (List.getD m x2 zE).snd.fst)=false)) (A5 (A0-x1<A0-i) (∀(x3:Unit),Aa→Aa) (∀(x4:Unit),A9→A9))))))∧(A6=false→∃(x5:Unit),m=m∧Aa)):=by kernel_rfl
theorem yvw(s w:Int)(m:Es)(va:Int):yx9 s w m va=(
 ∃(x:Nat),(va=va∧(↑x:Int)=0∧m=m∧s=s∧w=w∧(0:Nat)=0∧List.length m=List.length m)∧(x≤List.length m∧yxq m va∧∀(j:Nat),j<x→((List.getD m j zE).fst&&(List.getD m j
 zE).snd.snd.snd.snd.fst&&(List.getD m j zE).snd.snd.fst==zkk va (List.getD m j zE).snd.fst)=false)∧(∀(z:Unit),zn5 va m=false→zn5 va m=false∧m=m)∧∀(z:Unit),zn5 va m=true→zn5 va m=true∧m=m):=by kernel_rfl
theorem znm(m b:By):ymf m b=(
 let A0(a:Tq × Fc):=a.fst.snd.snd.fst;
 let A1(a:Tq × Fc):=(A0 a).snd.snd;
 let A2(a:Tq × Fc):=a.snd.snd.snd;
 let A3(a:Tq × Fc):=(A1 a).snd.snd.snd.snd;
 let A4(a:Tq × Fc):=(A2 a).fst;
 let A5(a:Tq × Fc):=a.snd.snd.fst;
 let A6(a:Tq × Fc):=a.snd.fst;
 let A7(a:Tq × Fc):=a.fst.snd.snd.snd;
 let A8(a:Tq × Fc):=(A1 a).fst;
 let A9(a:Tq × Fc):=(A1 a).snd.snd.snd.fst;
 let Aa(a:Tq × Fc):=(A7 a).snd.fst;
 let Ab(a:Tq × Fc):=(A3 a).snd.snd;
 let Ac(a b:Int)(c:Es)(d:Tq × Fc):=zdl (a,b,c) (A6 d,A5 d,A4 d,(A2 d).snd);
 let Ad(a b:Int)(c:Es)(d:Tq × Fc):=(Ac a b c d).snd;
 let Ae(a:PmT tqP × Unit):=a.fst.snd.snd.fst.snd;
 let Af(a:Es)(b:Nat):=List.length a=b;
 let Ah(a:Tq × Fc):=(A3 a).snd.fst;
 let Ai(a:Tq × Fc):=(A3 a).fst;
 let Aj(a:Tq × Fc):=(A1 a).snd.snd.fst;
 let Ak(a:Tq × Fc):=(A0 a).fst;
 let Al(a:Tq × Fc):=a.fst.snd.fst.snd.snd;
 let Am(a:Tq × Fc):=a.fst.fst;
 let An(a b c:Prop):=a∧b∧c;
 let Ao(a:Tq × Fc):=(A0 a).snd.fst;
 let Ap(a:Tq × Fc):=(A1 a).snd.fst;
 let Aq(a b:Bool):=bif a then b else false;
 let Ar(a b c d e:Prop):=An a b (An c d e);
 let Au(a b:Int)(c:Es)(d:Tq × Fc):=(Ac a b c d).fst;
 let Aw(a b:Int)(c:Es)(d:Tq × Fc):=(Ad a b c d).fst;
 let Ax(a:PmT tqP × Unit):=(Ae a).snd.snd.snd.snd;
 let Ay(a:By):=(↑(List.length a):Int);
 let Az(a b:Int)(c:Es)(d:Tq × Fc):=(Ad a b c d).snd;
 let AB(a:Tq × Fc):=a.fst.snd.fst.snd.fst;
 let AC(a:PmT tqP × Unit):=a.fst.snd.fst.snd.snd;
 let AD(a:By)(b:Int):=decide ((Ay a)>b);
 let AE:=(0:Nat)=0;
 let AF(a:PmT tqP × Unit):=(Ax a).snd.snd;
 let AG(a:PmT tqP × Unit):=a.fst.snd.snd.snd.snd;
 let AH(a:Bool)(b:Tq × Fc)(c:Es):=bif a then true else zn5 (Aa b) c;
 let AI(a:PmT tqP × Unit):=(AC a).snd;
 let AJ(a:PmT tqP × Unit):=(Ax a).fst;
 let AK(a:PmT tqP × Unit):=(Ae a).snd.fst;
 let AL(a:PmT tqP × Unit):=a.fst.fst;
 let AM(a:Tq × Fc):=(a.fst.snd.fst.fst,AB a,(Al a).fst,(Al a).snd);
 let AN(a:Bool)(b:Prop):=a=true→b;
 let AO(a:PmT tqP × Unit):=List.length (AL a);
 let AP(a:Int):=(0:Nat)+a.toNat;
 let AQ(a:Tq × Fc):=AH (zn5 (Aa a) (A8 a)) a (A9 a);
 let AR(a:Es)(b c:Int)(d:Tq × Fc):=An (Af a (List.length a)) (TlR (b,c,a)) (U64 (A5 d));
 let AS(a:PmT tqP × Unit):=(AG a).fst;
 let AT(a b c d e f g h i:Prop):=Ar a b c d (Ar e f g h i);
 let AU(a:Bool)(b c:Prop):=AN a (b∧c);
 let AV(a b:(Cs.i IntKind.i64).T)(c:(Cs.sl shE).T × CsT [Cs.i IntKind.i64,Cs.i IntKind.i64,Cs.sl shE,Cs.i IntKind.i64,Cs.i IntKind.i64,Cs.sl shE]):=(a,b,c);
 let AW(a b:(Cs.i IntKind.i64).T)(c:(Cs.sl shE).T × CsT [Cs.i IntKind.i64,Cs.i IntKind.i64,Cs.sl shE]):=(a,b,c);
 let AX(a b:(Cs.i IntKind.i64).T)(c:CsT [Cs.sl shE]):=(a,b,c);
 let AY(a:By):=AD a 1048576;
 let AZ(a:Bool)(b:Es)(c:Tq × Fc):=AU a (Af b (List.length b)) (yxq b (Aa c));
 let B0(a:Tq × Fc)(b:(Cs.sl shE).T × CsT [Cs.i IntKind.i64,Cs.i IntKind.i64,Cs.sl shE]):=AV (Au (Ak a) (Ao a) (A8 a) a) (Aw (Ak a) (Ao a) (A8 a) a) (Az (Ak a) (Ao a) (A8 a) a,AW (Au (Ap a) (Aj a) (A9 a) a) (Aw (Ap a) (Aj a) (A9
  a) a) b);
 let B1(a:Tq × Fc):=(Az (Ap a) (Aj a) (A9 a) a,AX (Au (Ai a) (Ah a) (Ab a) a) (Aw (Ai a) (Ah a) (Ab a) a) (Az (Ai a) (Ah a) (Ab a) a));
 let B2(a:Tq × Fc):=List.length (Am a)=List.length (Am a);
 let B3(a:Tq × Fc)(c:(Cs.i IntKind.i64).T × CsT [Cs.b,Cs.b,Cs.i IntKind.u64])(d:(Cs.sl shE).T × CsT [Cs.i IntKind.i64,Cs.i IntKind.i64,Cs.sl shE]):=zq4 (Am a) c (B0 a d) (Aa a);
 let B4(a:PmT tqP × Unit):=(AF a).fst;
 let B5(a:PmT tqP × Unit):=(Ax a).snd.fst;
 let B6(a:PmT tqP × Unit):=(Ae a).snd.snd.snd.fst;
 let B7(a:PmT tqP × Unit):=a.fst.snd.snd.fst.fst;
 let B8(a:PmT tqP × Unit):=a.fst.snd.fst.snd.fst;
 let B9(a:PmT tqP × Unit):=a.fst.snd.fst.fst;
 let Ba(a b:Int)(c:Es)(d:Tq × Fc):=List.length (Ad a b c d).snd=List.length (Ad a b c d).snd;
 let Bb(a:PmT tqP × Unit):=(Ae a).snd.snd.fst;
 let Bc(a:Tq × Fc):=zbt (Am a) (AM a) (A7 a).fst (Aa a);
 let Bd(a:PmT tqP × Unit):=(AF a).snd;
 let Be(a:Bool)(b c:Prop):=a=false→b∧c;
 let Bf(a:PmT tqP × Unit):=a.fst.snd.snd.snd.fst;
 let Bg(a:u64.T)(b:Int):=bits BinOp.xor IntKind.u64 a b;
 let Bh(a:Int):=bits BinOp.and IntKind.u8 0 a;
 let Bi(a:PmT tqP × Unit):=List.length (AF a).snd;
 let Bj(a:Nat):=List.getD b a (El.zero (Ty.i IntKind.u8::[]));
 let Bk(a:Int):=bits BinOp.and IntKind.u8 (Bj (AP 0)) a;
 let Bl(a:Tq × Fc)(b:(Cs.i IntKind.i64).T × CsT [Cs.i IntKind.i64,Cs.sl shE,Cs.i IntKind.i64,Cs.i IntKind.i64,Cs.sl shE,Cs.i IntKind.i64,Cs.i IntKind.i64,Cs.sl shE]):=zgc (Am a) (AM a) b (A7 a).fst (Aa a) (A7 a).snd.snd;
 let Bm(a:Prop)(b:Tq × Fc)(c d e f g:Prop):=Ar a (AR (Ab b) (Ai b) (Ah b) b) (Ar c d (Ba (Ap b) (Aj b) (A9 b) b) (Ba (Ai b) (Ah b) (Ab b) b) e) f g;
 let Bn(a:Tq × Fc):=Aq (A6 a) (!zef (Aa a));
 let Bo(a:Tq × Fc)(c:PmT tqP × Unit)(d e f g h i j k l n o p q r s t u v:Prop)(w x:Int)(y:Prop):=An (An AE (List.length (Am a)=AO c) (Ar d e f (m=m) (AT (b=b) g h i j k l n (AT AE (Af (A8 a) (List.length (AK c))) o p
  AE (Af (A9 a) (List.length (AJ c))) q r (AT AE (Af (Ab a) (Bi c)) s t u v (A5 a=w) (A4 a=(x==2)) ((A2 a).snd=zav (AI c))))))) (zj1 Fz.none Fz.none) y;
 let Bp(a:Tq × Fc)(b:PmT tqP × Unit)(c d e f g h i j k l m:Prop)(n:Int)(o:Prop):=Bo a b c d e f g h i j k l m (Aj a=B6 b) (Ai a=B5 b) (Ah a=B4 b) (A8 a=AK b) (A9 a=AJ b) (Ab a=Bd b) (A6 a=(Bh (1 :
  Int)==1)) n (Bh 2) o;
 let Bq(a:PmT tqP × Unit):=Bg (AS a) 0;
 let Br(a:Tq × Fc)(b:Bool)(c:Es):=AZ (match (A4 a),(!b) with|true,y=>y|false,x=>false) c a;
 let Bs(a:PmT [Pm.one Cs.b]):=An (a=true) (m=m) (b=b)∧a=true;
 let Bt(a:Tq × Fc):=Ba (Ak a) (Ao a) (A8 a) a;
 let Bu(a:Tq × Fc)(b c d:Prop):=Bn a=false→Ar (AZ (A4 a) (A8 a) a) (Br a (zn5 (Aa a) (A8 a)) (A9 a)) (Br a (AQ a) (Ab a)) (AN (Aq (A4 a) (AH (AQ a) a (Ab a))) b) (Be (Aq (A4 a) (AH (AQ a) a (Ab a))) c d);
 let Bv(a:Tq × Fc):=AR (A9 a) (Ap a) (Aj a) a;
 let Bw(a:PmT [Pm.one Cs.b])(c:Tq × Fc)(d:(Cs.i IntKind.i64).T × CsT [Cs.i IntKind.i64,Cs.sl shE,Cs.i IntKind.i64,Cs.i IntKind.i64,Cs.sl shE,Cs.i IntKind.i64,Cs.i IntKind.i64,Cs.sl shE]):=An (a=Aq ((Bl c d).fst ==
  (Bc c).fst) ((Bl c d).snd.fst==(Bc c).snd)) (m=m) (b=b)∧a=true;
 let Bx(a:Tq × Fc)(b:PmT tqP × Unit):=Aa a=AS b;
 let Bz(a:Tq × Fc)(b:PmT tqP × Unit):=(A7 a).snd.snd=(AG b).snd;
 let BA(a:Tq × Fc)(b:PmT tqP × Unit):=Am a=AL b;
 let BB(a:Tq × Fc)(b:PmT tqP × Unit):=Ap a=Bb b;
 let BC(a:Tq × Fc)(b:PmT tqP × Unit):=AB a=B8 b;
 let BD(a:Tq × Fc)(b:PmT tqP × Unit):=(Al a).snd=AI b;
 let BE(a:Tq × Fc):=AR (A8 a) (Ak a) (Ao a) a;
 let BF(a:PmT tqP × Unit):=(zgc (AL a) (B9 a,B8 a,(AC a).fst,AI a) (AV (B7 a) (Ae a).fst (AK a,AW (Bb a) (B6 a) (AJ a,AX (B5 a) (B4 a) (Bd a)))) (Bf a) (AS a) (AG a).snd).fst==63;
 let BG(a:Tq × Fc)(b:PmT tqP × Unit):=(A7 a).fst=Bf b;
 let BH(a:Tq × Fc)(b:PmT tqP × Unit):=a.fst.snd.fst.fst=B9 b;
 let BI(a:Tq × Fc)(b:PmT tqP × Unit):=(Al a).fst=(AC b).fst;
 let BJ(a:Tq × Fc):=B2 a∧An (zan (Am a)) (U64 (Al a).snd) (U64 (Aa a));
 let BK(a:Tq × Fc)(b:PmT tqP × Unit)(c d e f g h i j k l m:Prop)(n:Int)(o:Prop):=Bo a b c d e f g h i j k l m (Aj a=B6 b) (Ai a=B5 b) (Ah a=B4 b) (A8 a=AK b) (A9 a=AJ b) (Ab a=Bd b) (A6 a=(Bk (1 :
  Int)==1)) n (Bk 2) o;
 let BL(a:Tq × Fc)(b:PmT tqP × Unit):=Ak a=B7 b;
 let BM(a:Tq × Fc)(b:PmT tqP × Unit):=Ao a=(Ae b).fst;
 let BN(a:PmT tqP × Unit):=Bg (AS a) (bits BinOp.and IntKind.u64 (IntKind.u64.wrap (Bj (AP 1))) 63);
 let BO:=bif AY m then true else AY b;
 let BP(a:PmT tqP × Unit)(c:Prop):=AU (AD b 1) ((0:Int)≤1∧1<Ay b) (An (AP 1<List.length b) (U64 (AI a)) c);
 let BQ(a:PmT tqP × Unit)(c:Prop):=Be (AD b 1) (U64 (AI a)) c;
 let BR(a:Prop)(b:Tq × Fc)(c d:Prop):=a→An (AN (A6 b) (U64 (Aa b))) (AN (Bn b) c) d;
 AN BO (∃(x0:PmT [Pm.one Cs.b]),Bs x0)∧Be BO (List.length m=List.length m∧zan m) (∀(x1:PmT tqP × Unit),TqK x1.fst→An (Ar (AO x1=AO x1) (List.length (AK x1)=List.length (AK x1)) (List.length (AJ x1) =
  List.length (AJ x1)) (Bi x1=Bi x1) (zq4 (AL x1) (B9 x1,B8 x1,(AC x1).fst,AI x1) (AV (B7 x1) (Ae x1).fst (AK x1,AW (Bb x1) (B6 x1) (AJ x1,AX (B5 x1) (B4 x1) (Bd x1)))) (AS x1))) (AN (BF x1) (∃
  (x0:PmT [Pm.one Cs.b]),Bs x0)) (Be (BF x1) (AU (AD b 0) ((0:Int)≤0∧0<Ay b) (An (AP 0<List.length b) (BP x1 (∃(x2:Tq × Fc→Prop),(∃(x3:Tq × Fc),BK x3 x1 (BG x3 x1)
  (Bx x3 x1) (Bz x3 x1) (BA x3 x1) (BH x3 x1) (BC x3 x1) (BI x3 x1) (BD x3 x1) (BL x3 x1) (BM x3 x1) (BB x3 x1) (BN x1) (x2 x3))∧∀(x4:Tq × Fc),BR (x2 x4) x4 (∃(x0:PmT [Pm.one
  Cs.b]),Bs x0) (Bu x4 (∃(x0:PmT [Pm.one Cs.b]),Bs x0) (BE x4) (Bm (Bv x4) x4 (B2 x4) (Bt x4) (B3 x4 (AM x4) (B1 x4)) (BJ x4) (∃(x5:PmT [Pm.one Cs.b]),Bw x5 x4 (B0 x4 (B1 x4))))))) (BQ
  x1 (∃(x6:Tq × Fc→Prop),(∃(x7:Tq × Fc),BK x7 x1 (BG x7 x1) (Bx x7 x1) (Bz x7 x1) (BA x7 x1) (BH x7 x1) (BC x7 x1) (BI x7 x1) (BD x7 x1) (BL x7 x1) (BM x7 x1) (BB x7 x1) (Bq x1)
  (x6 x7))∧∀(x8:Tq × Fc),BR (x6 x8) x8 (∃(x0:PmT [Pm.one Cs.b]),Bs x0) (Bu x8 (∃(x0:PmT [Pm.one Cs.b]),Bs x0) (BE x8) (Bm (Bv x8) x8 (B2 x8) (Bt x8) (B3 x8 (AM x8) (B1 x8)) (BJ x8) (∃
  (x9:PmT [Pm.one Cs.b]),Bw x9 x8 (B0 x8 (B1 x8))))))))) (Be (AD b 0) (BP x1 (∃(x10:Tq × Fc→Prop),(∃(x11:Tq × Fc),Bp x11 x1 (BG x11 x1) (Bx x11 x1) (Bz x11 x1) (BA x11 x1) (BH x11
  x1) (BC x11 x1) (BI x11 x1) (BD x11 x1) (BL x11 x1) (BM x11 x1) (BB x11 x1) (BN x1) (x10 x11))∧∀(x12:Tq × Fc),BR (x10 x12) x12 (∃(x0:PmT [Pm.one Cs.b]),Bs x0) (Bu x12 (∃(x0:PmT
  [Pm.one Cs.b]),Bs x0) (BE x12) (Bm (Bv x12) x12 (B2 x12) (Bt x12) (B3 x12 (AM x12) (B1 x12)) (BJ x12) (∃(x13:PmT [Pm.one Cs.b]),Bw x13 x12 (B0 x12 (B1 x12))))))) (BQ x1 (∃(x14:Tq × Fc →
  Prop),(∃(x15:Tq × Fc),Bp x15 x1 (BG x15 x1) (Bx x15 x1) (Bz x15 x1) (BA x15 x1) (BH x15 x1) (BC x15 x1) (BI x15 x1) (BD x15 x1) (BL x15 x1) (BM x15 x1) (BB x15 x1) (Bq x1) (x14
  x15))∧∀(x16:Tq × Fc),BR (x14 x16) x16 (∃(x0:PmT [Pm.one Cs.b]),Bs x0) (Bu x16 (∃(x0:PmT [Pm.one Cs.b]),Bs x0) (BE x16) (Bm (Bv x16) x16 (B2 x16) (Bt x16) (B3 x16 (AM x16) (B1 x16)) (BJ
  x16) (∃(x17:PmT [Pm.one Cs.b]),Bw x17 x16 (B0 x16 (B1 x16))))))))))):=by kernel_rfl
set_option linter.unusedSimpArgs false
set_option linter.unusedVariables false
set_option maxRecDepth 10000
theorem yc3:DictOk Tryz.prog FEV0:=za1 zce .nil .nil
theorem yf0:Sound Tryz.prog 42 (zag [u64] [u64] (fun s=>some (U64 s)) zav):=by
 refine zad mixed Tryz.func42 (by kernel_rfl) (by kernel_rfl) yc3 (fun s h => ?_)
 have h:U64 s:=h
 refine zah (zt8 s) ⟨by decide, ?_⟩
 have e:(2:Int) ^ min (Int.toNat 44) 64=2 ^ 44:=by decide
 have e2:(2:Int) ^ 44=17592186044416:=by decide
 rw[e,zfq 16 65535 65536 (by decide) (by decide) (by decide) (zex 44 h).1 (zex 44 h).2,e2]
 rfl
theorem yxu:Sound Tryz.prog 142 (zag [u64,i64] [u64] (fun t=>some (U64 t.1∧LvR t.2)) (fun t=>zkk t.1 t.2)):=by
 refine zad mixed Tryz.func142 (by kernel_rfl) (by kernel_rfl) yc3 (fun t h => ?_)
 obtain⟨x,l⟩:=t
 obtain⟨h1,h2⟩:U64 x∧LvR l:=h
 refine zah (ymg x l) ?_
 have e:bits .and .u64 x 32767=x % 32768:=zfq 15 32767 32768 (by decide) (by decide) (by decide) h1.1 h1.2
 rw[e]
 rcases zcp h2 with rfl|rfl|rfl<;>exact⟨by decide,rfl⟩
theorem yqy:zay Tryz.prog kEV1 := .cons (by kernel_rfl) yf0 <| .cons (by kernel_rfl) yxu .nil
theorem yx2:DictOk Tryz.prog FEV1:=za1 (yqy.append zce) .nil .nil
theorem yv5{va:Int}{m:Es}(hb:∀j,j<m.length→((m.getD j zE).1&&(m.getD j zE).2.2.2.2.1&&((m.getD j zE).2.2.1==zkk va (m.getD j zE).2.1))=false):zn5 va m=false:=by
 unfold zn5
 rw[List.any_eq_false]
 intro e he
 obtain⟨j,hj,rfl⟩:=List.getElem_of_mem he
 have:=hb j hj
 rw[List.getD_eq_getElem?_getD,List.getElem?_eq_getElem hj] at this
 simpa using this
theorem yx5:Sound Tryz.prog 47 (zag [tlP,u64] [bl] (fun t=>some (yxq t.1.2.2 t.2)) (fun t=>zn5 t.2 t.1.2.2)):=by
 refine zcr mixed Tryz.func47 (by kernel_rfl) (b:=zai Tryz.f47 0) (k:=2) (by kernel_rfl) (by kernel_rfl) (by kernel_rfl) yx2 (fun t h => ?_)
 obtain⟨⟨s,w,m⟩,va⟩:Tl × Int:=t
 have h:yxq m va:=h
 have h1:SzR m.length:=h.1
 have hs:m.length≤2097152:=h1
 refine⟨.one 2 (yxk s w m va),yxk s w m va,fun i:Nat=>m.length-i,zby _ _,fun  (i:Nat) hi=>zah (yd0 s w m va i) ?_,zah (yvw s w m va) ?_⟩
 all_goals (try conv=>zeta)
 · obtain⟨hi,_,hb⟩:i≤m.length∧yxq m va∧∀j,j<i→((m.getD j zE).1&&(m.getD j zE).2.2.2.2.1&&((m.getD j zE).2.2.1==zkk va (m.getD j zE).2.1))=false:=hi
   refine⟨fun g => ?_,fun g => ?_⟩
   · have g:(i:Int)<m.length:=of_decide_eq_true g
     have hlt:i<m.length:=by omega
     have hlv:=h.2.2 _ (zlx hlt zE)
     rw[zfk h1 hlt,show 0+(i:Int).toNat=i by omega,show El.zero shE=zE from rfl]
     refine⟨⟨by omega,by omega⟩,by omega,fun q=>⟨h.2.1,hlv (by revert q;cases (m.getD i zE).1<;>simp)⟩,fun q=>⟨(),by simp, ?_⟩,fun q=>⟨i+1,by simp,⟨by omega,h,fun j hj => ?_⟩,by omega,fun _ z=>z,fun _ z=>z⟩⟩
     · unfold zn5
       refine List.any_eq_true.2 ⟨_,zlx hlt zE, ?_⟩
       revert q
       cases (m.getD i zE).1<;>cases (m.getD i zE).2.2.2.2.1<;>simp
     · rcases Nat.lt_or_ge j i with c|c
       · exact hb j c
       · have:j=i:=by omega
         subst this
         revert q
         cases (m.getD j zE).1<;>cases (m.getD j zE).2.2.2.2.1<;>simp
   · have g:¬ (i:Int)<m.length:=of_decide_eq_false g
     have:i=m.length:=by omega
     subst this
     exact⟨(),by simp,yv5 hb⟩
 · exact⟨0,by simp,⟨by omega,h,fun j hj=>absurd hj (Nat.not_lt_zero _)⟩,fun _ z=>⟨z,rfl⟩,fun _ z=>⟨z,rfl⟩⟩
theorem yqz:zay Tryz.prog kEV2 := .cons (by kernel_rfl) yx5 yqy
theorem yq0:zay Tryz.prog kEV3 := .cons (by kernel_rfl) zsa <| .cons (by kernel_rfl) zs3 <| .cons (by kernel_rfl) yg2 .nil
theorem ypu:DictOk Tryz.prog FEV2:=za1 (((((yq0.append yqz).append yfd).append yvo).append yvl).append zce) .nil .nil
theorem ywb:zb7 Tryz.prog (Rels.of [(37,dtrR)]):=zdq (by kernel_rfl) yux Rels.nil
theorem yp9{m:By}(hm:yud [byP] m)(hl:decide ((m.length:Int)>1048576)=false):zan m:=by
 have hl:¬ (m.length:Int)>1048576:=of_decide_eq_false hl
 exact⟨by show m.length≤2097152;omega,ynq hm⟩
theorem yp7{x:Cf}(h:ChK x):ChR (toC x):=⟨h.1.1,h.2.1.1,h.2.2.1⟩
theorem tq_R{z:Tq}(h:TqK z):zq4 z.1 z.2.1 z.2.2.1 z.2.2.2.2.1:=⟨h.1,h.2.1,yp7 h.2.2.1,h.2.2.2⟩
def FnJ(q:Tq × Fc):Prop:=TqK q.1∧okT q.1.2.1 (toC q.1.2.2.1) q.1.2.2.2.1 q.1.2.2.2.2.2=true∧U64 q.2.2.1∧q.2.2.1/64=q.1.2.2.2.2.1/64∧q.2.2.2.2=zav q.1.2.1.2.2.2
theorem yxj{p:Bool}{t:Tl}{va:Int}(hv:zaj p t=true)(hR:TlR t)(hva:U64 va):yxq t.2.2 va:=by
 refine⟨hR.2.2.1,hva,fun e he h1 => ?_⟩
 obtain⟨j,hj,rfl⟩:=List.getElem_of_mem he
 have ej:t.2.2.getD j zE=t.2.2[j]:=by rw[List.getD_eq_getElem?_getD,List.getElem?_eq_getElem hj];rfl
 have:=ymj hv hj (by rw[ej];exact h1)
 rwa [ej] at this
theorem yon{m b:By}:∃z:PmT [bl],(z=true∧m=m∧b=b)∧z=true:=⟨true,⟨rfl,rfl,rfl⟩,rfl⟩
theorem end_2{m b:By}{a c d e:Int}(h1:a=c)(h2:d=e):∃z:PmT [bl],((z=bif a==c then d==e else false)∧m=m∧b=b)∧z=true:=⟨true,⟨by subst h1 h2;simp,rfl,rfl⟩,rfl⟩
theorem yx4{a b:Bool}(h:(bif a then !b else false)=false)(ha:a=true):b=true:=by subst ha;simpa using h
theorem zxi{a b c d:Bool}(h:(bif a then bif bif b then true else c then true else d else false)=false)(ha:a=true):b=false∧c=false∧d=false:=by subst ha;cases b<;>cases c<;>cases d<;>simp_all
theorem xor_0{va:Int}(h:U64 va):bits .xor .u64 va 0/64=va/64:=yoo h (by decide) (by decide)
theorem yx1(x:Int):0≤bits .and .u64 (IntKind.u64.wrap x) 63∧bits .and .u64 (IntKind.u64.wrap x) 63<64:=by
 rw[zfq 6 63 64 (by decide) (by decide) (by decide) (zct x).1 (zct x).2]
 exact⟨Int.emod_nonneg _ (by decide),Int.emod_lt_of_pos _ (by decide)⟩
theorem yxg{a b:Bool}(h:(bif a then true else b)=false):a=false∧b=false:=by cases a<;>cases b<;>simp_all
theorem exF{z:Tq}{p:Tq × Fc→Prop}{a:Bool}{b:Int}{d:Bool}{c:Int}(h:p (z,a,b,d,c)):∃w,p w:=⟨_,h⟩
set_option maxHeartbeats 4000000 in
theorem lawFence_ok:Canon Tryz.prog 10 [byP,byP] [bl] (yud [byP,byP]) (fun _=>true):=by
 refine ydz mixed Tryz.func10 (by kernel_rfl) ypu ywb (fun  (x:By × By) hm=>⟨fnX x.1 x.2,zbw (by kernel_rfl), ?_⟩)
 obtain⟨m,b⟩:=x
 refine zah (znm m b) ?_
 conv=>zeta
 refine⟨fun _=>yon,fun hl => ?_⟩
 obtain⟨hl1,hl2⟩:=yxg hl
 refine⟨⟨rfl,yp9 hm.1 hl1⟩,fun z hz=>⟨⟨rfl,rfl,rfl,rfl,tq_R hz⟩,fun _=>yon,fun hb => ?_⟩⟩
 have hok:okT z.1.2.1 (toC z.1.2.2.1) z.1.2.2.2.1 z.1.2.2.2.2.2=true:=ysc (m:=z.1.1) (va:=z.1.2.2.2.2.1) (by simpa using hb)
 have hU:U64 z.1.2.1.2.2.2:=hz.2.1
 have hva:U64 z.1.2.2.2.2.1:=hz.2.2.2
 refine⟨fun g0=>⟨?o1, ?o2,fun g1=>⟨?o3, ?o4,hU,FnJ, ?x1,fun q hq => ?t1⟩,fun g1=>⟨hU,FnJ, ?x2,fun q hq => ?t2⟩⟩,
  fun g0=>⟨fun g1=>⟨?o5, ?o6,hU,FnJ, ?x3,fun q hq => ?t3⟩,fun g1=>⟨hU,FnJ, ?x4,fun q hq => ?t4⟩⟩⟩
 case x1|x2|x3|x4 =>
  apply exF (z:=z.1)
  dsimp only
  refine⟨?_,za8, ?_⟩
  · repeat' apply And.intro
    all_goals exact rfl
  · first|exact⟨hz,hok,zct _,yoo hva (yx1 _).1 (yx1 _).2,rfl⟩|exact⟨hz,hok,zct _,xor_0 hva,rfl⟩
 case o1|o2 =>
  have g0:(b.length:Int)>0:=of_decide_eq_true g0
  first|exact⟨by omega,by omega⟩|(show 0+0<_;omega)
 case o3|o4|o5|o6 =>
  have g1:(b.length:Int)>1:=of_decide_eq_true g1
  first|exact⟨by omega,by omega⟩|(show 0+1<_;omega)
 all_goals
  obtain⟨⟨mm,⟨c0,c1,c2,c3⟩,⟨s1,w1,m1,s2,w2,m2,s3,w3,m3⟩,kind,va,pick⟩,⟨f1,f2,f3,f4⟩⟩:=q
  obtain⟨⟨h1,h2,h3,h4⟩,hk,hf,hd,ha⟩:(zan mm∧U64 c3∧ChK (s1,w1,m1,s2,w2,m2,s3,w3,m3)∧U64 va)∧okT (c0,c1,c2,c3) (toC (s1,w1,m1,s2,w2,m2,s3,w3,m3)) kind pick=true∧U64 f2∧f2/64=va/64∧f4=zav c3:=hq
  obtain⟨v1,v2,v3⟩:=zc1.1 (zjt hk).1
  obtain⟨r1,r2,r3⟩:=yp7 h3
  refine⟨fun _=>h4,fun _=>yon,fun hc=>⟨fun _=>⟨rfl,yxj v1 r1 h4⟩,fun _=>⟨rfl,yxj v2 r2 h4⟩,fun _=>⟨rfl,yxj v3 r3 h4⟩,fun _=>yon,fun hg=>⟨⟨rfl,r1,hf⟩,⟨rfl,r2,hf⟩,⟨rfl,r3,hf⟩,⟨rfl,rfl,rfl,rfl,h1,h2,⟨zpk r1 _,zpk r2 _,zpk r3 _⟩,h4⟩,⟨rfl,h1,h2,h4⟩, ?_⟩⟩⟩
  have hG:yak (f1,f2,f3,f4)=true:=by
   unfold yak
   cases f1 with
   | false=>rfl
   | true=>show (!true||zef f2)=true;rw[yxr hd,yx4 hc rfl];rfl
  have hT:f1=true→∀l,LvR l→zkk f2 l=zkk va l:=fun _ l hl=>yxv hd hl
  obtain⟨e1,e2⟩:=ysx (m:=mm) (va:=va) (y:=ofC (zdl (s1,w1,m1) (f1,f2,f3,f4),zdl (s2,w2,m2) (f1,f2,f3,f4),zdl (s3,w3,m3) (f1,f2,f3,f4))) hk (ykk (zjt hk).1)
   (zlu v1 hG hT (fun q=>⟨ha,(zxi hg q).1⟩)) (zlu v2 hG hT (fun q=>⟨ha,(zxi hg q).2.1⟩)) (zlu v3 hG hT (fun q=>⟨ha,(zxi hg q).2.2⟩))
  exact end_2 e1 e2
end Go.Proofs.YtfiddfbagbaofaaGreat.V
