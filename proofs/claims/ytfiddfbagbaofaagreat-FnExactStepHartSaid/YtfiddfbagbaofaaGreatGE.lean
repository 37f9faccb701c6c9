/- The laws' helpers on entries and caches, and small things on rows, answer as their models. Conditions: those in each statement. -/
import Derived.Test.YtfiddfbagbaofaaGreatGC
import Derived.KernelRfl
namespace Go.Proofs.YtfiddfbagbaofaaGreat.V
open Go
abbrev shE:List Ty:=[.b,.i .i64,.i .u64,.i .u64,.b,.i .u64]
abbrev En:=Bool × Int × Int × Int × Bool × Int
abbrev Es:=List En
abbrev enP:Pm := .st [.b,.i .i64,.i .u64,.i .u64,.b,.i .u64]
abbrev esP:Pm := .one (.sl shE)
abbrev tlP:Pm := .st [.i .i64,.i .i64,.sl shE]
abbrev Tl:=Int × Int × Es
abbrev yxw:Pm := .st [.b,.i .i64,.i .i64,.i .u64]
abbrev wsP:Pm := .one (.sl [.i .i64])
def szM(n:Nat)(k:Int):Int:=if (n:Int)≤k then k-n else -1
def zE:En:=(false,0,0,0,false,0)
def yhu(k:Int):En:=(k.tmod 3==0,k+1,k+2,k+3,(k+4).tmod 3==0,k+5)
def zan(k:Int)(n:Nat):Es:=(List.range n).map fun i:Nat=>yhu (k+6*(i:Int))
def idxOf(v:Int)(xs:List Int):Option Nat:=xs.findIdx? (· == v)
def yma(xs:List Int)(v:Int):Bool:=xs.contains v
def yd7(a:Bool)(b c d:Int)(e:Bool)(f:Int):Prop:=zag Tryz.prog F0 .none Tryz.f243 [enP] [enP] (a,b,c,d,e,f) (a,b,c,d,e,f)
def yc7(a:Bool)(b c d:Int)(e:Bool)(f:Int):Prop:=zag Tryz.prog F0 .none Tryz.f244 [enP,enP] [bl] ((a,b,c,d,e,f),(a,b,c,d,e,f)) true
def yxe(m:Es)(k:Int):Prop:=zag Tryz.prog F0 .none Tryz.f227 [esP,i64] [i64] (m,k) (szM m.length k)
def yc3(m:Es):Prop:=zag Tryz.prog F0 .none Tryz.f182 [esP] [esP] m m
def yam(m:Es)(k:Int):LoopS where
 α:=Nat
 I i:=i≤m.length
 sl i:=slots 62 [(0,.sl 0 6 0 m.length),(1,.v (.int .i64 (k+6*(i:Int)))),(5,.v (.int .i64 i))]
 H i:=[.arr shE (zan k i++m.drop i) true]
 fams:=[{ β:=Unit,out:=fun _ _=>True,ex := .ext 0,sl:=fun _=>slots 62 [(1,.v (.int .i64 (k+6*m.length)))],H:=fun _=>[.arr shE (zan k m.length) true] }]
def yhv(m:Es)(k:Int):Specs:={ Specs.one 2 (yam m k) with cut:=fun r=>if r=6∨r=8∨r=10∨r=12∨r=14∨r=3 then some (CutS.mk (Int × Int × Es) (fun z=>slots 62 [(0,.sl 0 6 0 m.length),(1,.v (.int .i64 z.2.1)),(5,.v (.int .i64 z.1))]) (fun z=>[.arr shE z.2.2 true])) else none }
def zyr(m:Es)(k:Int)(i:Nat):Prop:=zao Tryz.prog F0 (yhv m k) 1 (zak Tryz.f230 0) (yam m k) (fun i:Nat=>m.length-i) i
def yku(m:Es)(k:Int):Prop:=zkc Tryz.prog F0 (yhv m k) Tryz.f230 [esP,i64] [i64] (m,k) ((zan k m.length,k),k+6*m.length)
def zsw(m:Es)(k:Int):LoopS where
 α:=Nat
 I i:=i≤m.length
 sl i:=slots 74 [(0,.sl 0 6 0 m.length),(1,.v (.int .i64 (k+6*(i:Int)))),(5,.v (.int .i64 i))]
 H _:=[.arr shE m false]
 fams:=[{ β:=Unit,out:=fun _ _=>True,ex := .ext 0,sl:=fun _=>slots 74 [(1,.v (.int .i64 (k+6*m.length)))],H:=fun _=>[.arr shE m false] }]
def zya(m:Es)(k:Int)(i:Nat):Prop:=zao Tryz.prog F0 (.one 2 (zsw m k)) 1 (zak Tryz.f245 0) (zsw m k) (fun i:Nat=>m.length-i) i
def ykc(m:Es)(k:Int):Prop:=zag Tryz.prog F0 (.one 2 (zsw m k)) Tryz.f245 [esP,i64] [i64] (m,k) (k+6*m.length)
def yzb(m:List Int)(v:Int):LoopS where
 α:=Nat
 I i:=i≤m.length∧∀j,j<i→m.getD j 0≠v
 sl i:=slots 19 [(0,.sl 0 1 0 m.length),(1,.v (.int .i64 v)),(7,.v (.int .i64 m.length)),(8,.v (.int .i64 i))]
 H _:=[.arr [.i .i64] m false]
 fams:=[{ β:=Unit,out:=fun _ _=>idxOf v m=none,ex := .ext 0,sl:=fun _=>slots 19 [],H:=fun _=>[.arr [.i .i64] m false] },
  { β:=Nat,out:=fun _ j=>idxOf v m=some j,ex := .ret,sl:=fun j=>slots 19 [(4,.v (.int .i64 j))],H:=fun _=>[.arr [.i .i64] m false] }]
def zmg(o:Option Nat):Int:=match o with|some i=>i|none => -1
def ypo(m:List Int)(v:Int)(i:Nat):Prop:=zao Tryz.prog F0 (.one 2 (yzb m v)) 1 (zak Tryz.f241 0) (yzb m v) (fun i:Nat=>m.length-i) i
def ya11(m:List Int)(v:Int):Prop:=zag Tryz.prog F0 (.one 2 (yzb m v)) Tryz.f241 [wsP,i64] [i64] (m,v) (zmg (idxOf v m))
def kE1:Known:=[
 (243,zad [enP] [enP] (fun _=>none) (fun e=>e)),
 (244,zad [enP,enP] [bl] (fun t=>some (t.1=t.2)) (fun _=>true)),
 (227,zad [esP,i64] [i64] (fun t=>some (t.1.length≤maxLen∧0≤t.2∧t.2≤1048576)) (fun t=>szM t.1.length t.2)),
 (182,zad [esP] [esP] (fun m=>some (SzR m.length)) (fun m=>m)),
 (230,zo8 [esP,i64] [i64] (fun t=>some (zb8 t.1.length t.2)) (fun t=>((zan t.2 t.1.length,t.2),t.2+6*t.1.length))),
 (245,zad [esP,i64] [i64] (fun t=>some (zb8 t.1.length t.2∧t.1=zan t.2 t.1.length)) (fun t=>t.2+6*t.1.length)),
 (241,zad [wsP,i64] [i64] (fun t=>some (SzR t.1.length)) (fun t=>zmg (idxOf t.2 t.1)))]
def FE1:Dict:=mkD kE1 [] []
def yjg(m:Es):LoopS where
 α:=Nat
 I i:=i≤m.length
 sl i:=slots 23 [(0,.sl 0 6 0 m.length),(3,.sl 1 6 0 m.length),(4,.v (.int .i64 i))]
 H i:=[.arr shE m false,.arr shE (m.take i++List.replicate (m.length-i) zE) true]
 fams:=[{ β:=Unit,out:=fun _ _=>True,ex := .ext 0,sl:=fun _=>slots 23 [(3,.sl 1 6 0 m.length)],H:=fun _=>[.arr shE m false,.arr shE m true] }]
def ylr(m:Es)(i:Nat):Prop:=zao Tryz.prog FE1 (.one 3 (yjg m)) 1 (zak Tryz.f228 0) (yjg m) (fun i:Nat=>m.length-i) i
def yxi(m:Es):Prop:=zag Tryz.prog FE1 (.one 3 (yjg m)) Tryz.f228 [esP] [esP] m m
def yf0(m n:Es):LoopS where
 α:=Nat
 I i:=i≤m.length
 sl i:=slots 27 [(0,.sl 0 6 0 m.length),(1,.sl 1 6 0 n.length),(5,.v (.int .i64 i))]
 H _:=[.arr shE m false,.arr shE n false]
 fams:=[{ β:=Unit,out:=fun _ _=>True,ex := .ext 0,sl:=fun _=>slots 27 [],H:=fun _=>[.arr shE m false,.arr shE n false] }]
def yjz(m n:Es)(i:Nat):Prop:=zao Tryz.prog FE1 (.one 4 (yf0 m n)) 2 (zak Tryz.f229 0) (yf0 m n) (fun i:Nat=>m.length-i) i
def ywy(m n:Es):Prop:=zag Tryz.prog FE1 (.one 4 (yf0 m n)) Tryz.f229 [esP,esP] [bl] (m,n) true
def yqg(a b:Int)(m:Es)(k:Int):Prop:=zag Tryz.prog FE1 .none Tryz.f199 [tlP,i64] [i64] ((a,b,m),k) (szM m.length k)
def ydr(a b:Int)(m:Es)(k:Int):Prop:=zkc Tryz.prog FE1 .none Tryz.f204 [tlP,i64] [i64] ((a,b,m),k) (((a,b,zan k m.length),k),k+6*m.length)
def ydf(a b:Int)(m:Es)(k:Int):Prop:=zag Tryz.prog FE1 .none Tryz.f231 [tlP,i64] [i64] ((a,b,m),k) (k+6*m.length)
def zx0(m:List Int)(v:Int):Prop:=zag Tryz.prog FE1 .none Tryz.f225 [wsP,i64] [bl] (m,v) (yma m v)
def yki(a b:Int)(m:Es):Prop:=zag Tryz.prog FE1 .none Tryz.f93 [tlP] [tlP] (a,b,m) (a,b,m)
def yp6(a b:Int)(m:Es):Prop:=zag Tryz.prog FE1 .none Tryz.f91 [tlP] [tlP] (a,b,m) (a,b,m)
def kE2:Known:=[
 (228,zad [esP] [esP] (fun m=>some (SzR m.length)) (fun m=>m)),
 (229,zad [esP,esP] [bl] (fun t=>some (t.1=t.2∧SzR t.1.length)) (fun _=>true)),
 (199,zad [tlP,i64] [i64] (fun t=>some (t.1.2.2.length≤maxLen∧0≤t.2∧t.2≤1048576)) (fun t=>szM t.1.2.2.length t.2)),
 (204,zo8 [tlP,i64] [i64] (fun t=>some (zb8 t.1.2.2.length t.2)) (fun t=>(((t.1.1,t.1.2.1,zan t.2 t.1.2.2.length),t.2),t.2+6*t.1.2.2.length))),
 (231,zad [tlP,i64] [i64] (fun t=>some (zb8 t.1.2.2.length t.2∧t.1.2.2=zan t.2 t.1.2.2.length)) (fun t=>t.2+6*t.1.2.2.length)),
 (225,zad [wsP,i64] [bl] (fun t=>some (SzR t.1.length)) (fun t=>yma t.1 t.2)),
 (93,zad [tlP] [tlP] (fun t=>some (SzR t.2.2.length)) (fun t=>t)),
 (91,zad [tlP] [tlP] (fun t=>some (SzR t.2.2.length)) (fun t=>t))]++kE1
def FE2:Dict:=mkD kE2 [] []
def yqj(a b:Int)(m:Es):Prop:=zag Tryz.prog FE2 .none Tryz.f200 [tlP] [tlP] (a,b,m) (a,b,m)
def ypg(a b:Int)(m:Es):Prop:=zag Tryz.prog FE2 .none Tryz.f203 [tlP,tlP] [bl] ((a,b,m),(a,b,m)) true
def kE3:Known:=[
 (200,zad [tlP] [tlP] (fun t=>some (SzR t.2.2.length)) (fun t=>t)),
 (203,zad [tlP,tlP] [bl] (fun t=>some (t.1=t.2∧SzR t.1.2.2.length)) (fun _=>true))]++kE2
set_option linter.unusedVariables false
theorem zru(a:Bool)(b c d:Int)(e:Bool)(f:Int):yd7 a b c d e f=(
 a=a∧b=b∧c=c∧d=d∧e=e∧f=f):=by kernel_rfl
theorem zrd(a:Bool)(b c d:Int)(e:Bool)(f:Int):yc7 a b c d e f=(
 ((!a==a)=true→true=false) ∧
   ((!a==a)=false →
     ((b != b)=true→true=false) ∧
       ((b != b)=false →
         ((c != c)=true→true=false) ∧
           ((c != c)=false →
             ((d != d)=true→true=false)∧((d != d)=false→((!e==e)=true→true=false)∧((!e==e)=false→((f != f)=true→true=false)∧((f != f)=false→true=true))))))):=by kernel_rfl
theorem yd2(m:Es)(k:Int):yxe m k=(
 (decide (IntKind.i64.wrap (k-(↑(List.length m):Int))<0)=true→szM (List.length m) k=(-1:Int)∧m=m) ∧
   (decide (IntKind.i64.wrap (k-(↑(List.length m):Int))<0)=false→szM (List.length m) k=IntKind.i64.wrap (k-(↑(List.length m):Int))∧m=m)):=by kernel_rfl
theorem zrb(m:Es):yc3 m=(
 (List.length m=0→(0:Nat)=0∧List.length m=0∧m=m∧m=[]) ∧
   ((0:Nat)+List.length m≤List.length m∧(0:Nat)≤0∧0+(List.take (List.length m) (List.drop 0 m)).length≤1073741824) ∧
     (0:Nat)=0∧List.length m=0+(List.take (List.length m) (List.drop 0 m)).length∧m=m∧m=[]++List.take (List.length m) (List.drop 0 m)):=by kernel_rfl
theorem zog(m:Es)(k:Int)(i:Nat):zyr m k i=(
 let A0(a:Int):=(0:Nat)+a.toNat;
 let A1:=List.length m;
 let A2(a:Int × Int × Es):=a.snd.snd;
 let A3:=(↑i:Int);
 let A4(a:Int × Int × Es):=a.snd.fst;
 let A5(a:Int × Int × Es):=List.getD (A2 a) (A0 a.fst) (El.zero shE);
 let A6(a:El shE):=a.snd.snd.snd;
 let A7:=(↑A1:Int);
 let A8(a:Nat):=zan k a++List.drop a m;
 let A9:=(0:Nat)=0;
 let Aa(a b c d e:Prop):=a∧b∧c∧d∧e;
 let Ab(a:Int):=IntKind.i64.wrap (a+1);
 let Ac:=List.getD (A8 i) (A0 A3) (El.zero shE);
 let Ad(a:Int × Int × Es):=(A6 (A5 a)).snd.snd;
 let Ae:=(3:Int)≠0;
 let Af(a:Int × Int × Es):=A0 a.fst<List.length (A2 a);
 let Ah(a:Int × Int × Es):=(A6 (A5 a)).snd.fst;
 let Ai(a b c d:Prop):=a∧b∧c∧d;
 let Aj(a:Int):=a.tmod (3:Int)==0;
 let Ak(a:Int × Int × Es)(c:(Ty.i IntKind.u64).T × El [Ty.b,Ty.i IntKind.u64]):=((A5 a).snd.snd.fst,c);
 let Al:=A1=A1;
 let Am(a c:Int × Int × Es)(d:(Ty.i IntKind.i64).T × El [Ty.i IntKind.u64,Ty.i IntKind.u64,Ty.b,Ty.i IntKind.u64]):=Aa A9 Al (A4 a=Ab (A4 c)) (a.fst=c.fst) (A2 a=List.set (A2 c) (A0 c.fst) ((A5 c).fst,d));
 let An(a:Int × Int × Es):=((A6 (A5 a)).fst,Ah a,Ad a);
 let Ao(a:Int × Int × Es):=(0:Int)≤a.fst∧a.fst<A7;
 let Ap(a:Int × Int × Es):=IntKind.u64.wrap (A4 a);
 let Aq(a c:Int × Int × Es)(d:Ty.b.T × El [Ty.i IntKind.u64]):=Am a c ((A5 c).snd.fst,Ak c ((A6 (A5 c)).fst,d));
 let Ar(a c:Int × Int × Es)(d:(Ty.i IntKind.u64).T × El [Ty.i IntKind.u64,Ty.b,Ty.i IntKind.u64]):=Am a c ((A5 c).snd.fst,d);
 let Au(a:Prop)(b:Int × Int × Es)(c:Prop):=Ai a (Ao b) (Af b) c;
 let Aw(a:Bool)(b:Prop):=decide (A3<A7)=a→b;
 let Ax(a b:Int):=k+6*a=b;
 let Ay:=k+6*A3;
 Aw true (Ai Ae ((0:Int)≤A3∧A3<A7) (A0 A3<List.length (A8 i)) (∃(x0:Int × Int × Es),Au (Aa A9 Al (A4 x0=Ab Ay) (x0.fst=A3) (A2 x0=List.set (A8 i) (A0 A3) (Aj Ay,Ac.snd.fst,Ac.snd.snd.fst,(A6 Ac).fst,(A6
  Ac).snd.fst,(A6 Ac).snd.snd))) x0 (∃(x1:Int × Int × Es),Au (Am x1 x0 (A4 x0,Ak x0 (An x0))) x1 (∃(x2:Int × Int × Es),Au (Ar x2 x1 (Ap x1,An x1)) x2 (∃(x3:Int × Int × Es),Aa (Ar x3 x2 (Ak x2 (Ap x2,Ah x2,
  Ad x2))) Ae (Ao x3) (Af x3) (∃(x4:Int × Int × Es),Au (Aq x4 x3 (Aj (A4 x3),Ad x3)) x4 (∃(x5:Int × Int × Es),Aq x5 x4 (Ah x4,Ap x4)∧∃(x6:Nat),Ai (Aa A9 Al (Ax (↑x6:Int) (A4 x5)) ((↑x6:Int)=Ab x5.fst)
  (A8 x6=A2 x5)) (x6≤A1) (A1-x6<A1-i) (∀(x7:Unit),True→True))))))))∧Aw false (∃(x8:Unit),(Ax A7 Ay∧zan k A1=A8 i)∧True)):=by kernel_rfl
theorem zuz(m:Es)(k:Int):yku m k=(
 ∃(x:Nat),
   ((0:Nat)=0∧List.length m=List.length m∧k+6*(↑x:Int)=k∧(↑x:Int)=0∧zan k x++List.drop x m=m) ∧
     x≤List.length m∧∀(z:Unit),True→k+(6:PmT [i64])*(↑(List.length m):PmT [i64])=k+6*(↑(List.length m):Int)∧zan k (List.length m)=zan k (List.length m)):=by kernel_rfl
theorem zoa(m:Es)(k:Int)(i:Nat):zya m k i=(
 let A0:=(↑i:Int);
 let A1(a:Int):=IntKind.i64.wrap (a+1);
 let A2:=List.length m;
 let A3:=(↑A2:Int);
 let A4:=(0:Nat)+A0.toNat;
 let A5:=(List.getD m A4 (El.zero shE)).snd;
 let A6:=k+6*A0;
 let A7:=A1 (A1 A6);
 let A8:=A1 (A1 A7);
 let A9:=(0:Int)≤A0;
 let Aa(a:Int):=a.tmod (3:Int)==0;
 let Ab(a:Int):=IntKind.u64.wrap (A1 a);
 let Ac:=A5.snd.snd;
 let Ad(a b c:Prop):=a∧b∧c;
 let Ae(a b:Prop)(c:Bool)(d:Prop):=Ad a b ((c=true→False)∧(c=false→d));
 let Af(a:Bool)(b:Prop):=decide (A0<A3)=a→b;
 let Ah:=A0<A3;
 let Ai(a:Bool)(b:Prop):=Ae (A9∧Ah) (A4<A2) a b;
 let Aj(a b:Bool)(c:Prop):=(A9∧Ah)∧Ae (A4<A2) ((3:Int)≠0) a (Ae (A9∧Ah) (A4<A2) b c);
 let Ak(a b:Int):=k+6*a=b;
 Af true (Aj (!(List.getD m A4 (El.zero shE)).fst==Aa A6) (A5.fst != A1 A6) (Ai (A5.snd.fst != IntKind.u64.wrap A7) (Ai (Ac.fst != Ab A7) (Aj (!Ac.snd.fst==Aa A8) (Ac.snd.snd != Ab A8) (∃(x0:Nat),Ad ((0:Nat)=0) (A2=A2)
  (Ad (Ak (↑x0:Int) (A1 (A1 A8))) ((↑x0:Int)=A1 A0) (m=m))∧Ad (x0≤A2) (A2-x0<A2-i) (∀(x1:Unit),True→True))))))∧Af false (∃(x2:Unit),(Ak A3 A6∧m=m)∧True)):=by kernel_rfl
theorem zug(m:Es)(k:Int):ykc m k=(
 ∃(x:Nat),
   ((0:Nat)=0∧List.length m=List.length m∧k+6*(↑x:Int)=k∧(↑x:Int)=0∧m=m) ∧
     x≤List.length m∧∀(z:Unit),True→k+(6:PmT [i64])*(↑(List.length m):PmT [i64])=k+6*(↑(List.length m):Int)∧m=m):=by kernel_rfl
theorem zye(m:List Int)(v:Int)(i:Nat):ypo m v i=(
 let A0:=(↑i:Int);
 let A1:=m.length;
 let A2:=(↑A1:Int);
 let A3(a:Nat):=idxOf v m=some a;
 let A4:=idxOf v m=none;
 let A5(a:Bool)(b c:Prop):=(a=true→b)∧(a=false→c);
 let A6(a:Nat)(b:Int):=(↑a:Int)=b∧m=m;
 A5 (decide (A0<(↑A1:Int))) (((0:Int)≤A0∧A0<A2)∧0+A0.toNat<A1∧A5 (v==m.getD ((0:Nat)+A0.toNat) (El.zero (Ty.i IntKind.i64::[]))) (∃(x0:Nat),A6 x0 A0∧A3 x0) (∃(x1:Nat),((0:Nat)=0 ∧
  A1=A1∧v=v∧A2=A2∧A6 x1 (IntKind.i64.wrap (A0+1)))∧(x1≤A1∧∀(x2:Nat),x2<x1→m.getD x2 0≠v)∧A1-x1<A1-i∧(∀(x3:Unit),A4→A4)∧∀(x4:Nat),A3 x4→A3 x4)) (∃(x5:Unit),m
  = m∧A4)):=by kernel_rfl
theorem ykj(m:List Int)(v:Int):ya11 m v=(
 ∃(x:Nat),
   ((0:Nat)=0∧m.length=m.length∧v=v∧(↑m.length:Int)=(↑m.length:Int)∧(↑x:Int)=0∧m=m) ∧
     (x≤m.length∧∀(j:Nat),j<x→m.getD j 0≠v) ∧
       (∀(z:Unit),idxOf v m=none→zmg (idxOf v m)=(-1:Int)∧m=m)∧∀(z:Nat),idxOf v m=some z→zmg (idxOf v m)=(↑z:Int)∧m=m):=by kernel_rfl
theorem zvl(m:Es)(i:Nat):ylr m i=(
 let A0:=List.length m;
 let A1:=(↑i:Int);
 let A2:=(0:Nat)+A1.toNat;
 let A3:=(List.getD m A2 (El.zero shE)).snd;
 let A4:=(0:Nat)=0;
 let A5(a b c:Prop):=a∧b∧c;
 let A6(a:Bool)(b:Prop):=decide (A1<(↑A0:Int))=a→b;
 let A7:=A3.snd.snd.snd;
 let A8:=(0:Int)≤A1∧A1<(↑A0:Int);
 let A9(a:Nat):=List.take a m++List.replicate (A0-a) zE;
 A6 true (A5 A8 (A2<A0) (A5 A8 (A2<(A9 i).length) (∃(x0:Nat),A5 A4 (A0=A0) (A5 A4 (A0=A0) (A5 ((↑x0:Int)=IntKind.i64.wrap (A1+1)) (m=m) (A9 x0=(A9 i).set A2 ((List.getD m A2 (El.zero shE)).fst,A3.fst,
  A3.snd.fst,A3.snd.snd.fst,A7.fst,A7.snd))))∧A5 (x0≤A0) (A0-x0<A0-i) (∀(x1:Unit),True→True))))∧A6 false (∃(x2:Unit),(A4∧A5 (A0=A0) (m=m) (m=A9 i))∧True)):=by kernel_rfl
theorem yd8(m:Es):yxi m=(
 ((0:Int)≤(↑(List.length m):Int)∧(↑(List.length m):Int)≤(↑(List.length m):Int)∧(↑(List.length m):Int)≤4294967296) ∧
   ∃(x:Nat),
     ((0:Nat)=0 ∧
         List.length m=List.length m ∧
           (0:Nat)=0 ∧
             List.length m=(↑(List.length m):Int).toNat ∧
               (↑x:Int)=0 ∧
                 m=m ∧
                   List.take x m++List.replicate (List.length m-x) zE =
                     List.replicate (↑(List.length m):Int).toNat (El.zero [Ty.b,Ty.i IntKind.i64,Ty.i IntKind.u64,Ty.i IntKind.u64,Ty.b,Ty.i IntKind.u64])) ∧
       x≤List.length m∧∀(z:Unit),True→(0:Nat)=0∧List.length m=List.length m∧m=m∧m=m):=by kernel_rfl
theorem zt9(m n:Es)(i:Nat):yjz m n i=(
 let A0:=List.length m;
 let A1:=(0:Nat)+(↑i:Int).toNat;
 let A2(a:Es):=(List.getD a A1 (El.zero shE)).snd;
 let A3:=(↑i:Int);
 let A4:=List.length n;
 let A5(a:Es):=(A2 a).snd.snd;
 let A6(a:Nat):=(0:Int)≤A3∧A3<(↑a:Int);
 let A7(a:Bool)(b c:Prop):=(a=true→b)∧(a=false→c);
 let A8(a:Nat)(b:Prop):=(0:Nat)=0∧a=a∧b;
 let A9(a:Es):=((List.getD a A1 (El.zero shE)).fst,(A2 a).fst,(A2 a).snd.fst,(A5 a).fst,(A5 a).snd.fst,(A5 a).snd.snd);
 let Aa:=m=m∧n=n;
 A7 (decide (A3<(↑A0:Int))) (A6 A0∧A1<A0∧A6 A4∧A1<A4∧A9 m=A9 n∧A7 (!true) False (∃(x0:Nat),A8 A0 (A8 A4 ((↑x0:Int)=IntKind.i64.wrap (A3+1)∧Aa))∧x0≤A0∧A0-x0<A0-i∧∀(x1:Unit),True →
  True)) (∃(x2:Unit),Aa∧True)):=by kernel_rfl
theorem yc8(m n:Es):ywy m n=(
 (((↑(List.length m):Int) != (↑(List.length n):Int))=true→true=false∧m=m∧n=n) ∧
   (((↑(List.length m):Int) != (↑(List.length n):Int))=false →
     ∃(x:Nat),
       ((0:Nat)=0∧List.length m=List.length m∧(0:Nat)=0∧List.length n=List.length n∧(↑x:Int)=0∧m=m∧n=n) ∧
         x≤List.length m∧∀(z:Unit),True→true=true∧m=m∧n=n)):=by kernel_rfl
theorem zzi(a b:Int)(m:Es)(k:Int):yqg a b m k=(
 (List.length m=List.length m∧List.length m≤9223372036854775807∧(0:PmT [i64])≤k∧k≤(1048576:PmT [i64])) ∧
   (decide (szM (List.length m) k<0)=true→szM (List.length m) k=(-1:Int)∧m=m) ∧
     (decide (szM (List.length m) k<0)=false→szM (List.length m) k=szM (List.length m) k∧m=m)):=by kernel_rfl
theorem zro(a b:Int)(m:Es)(k:Int):ydr a b m k=(
 (List.length m=List.length m∧zb8 (List.length m) k) ∧
   k+(6:PmT [i64])*(↑(List.length m):PmT [i64])=k+(6:PmT [i64])*(↑(List.length m):PmT [i64])∧zan k (List.length m)=zan k (List.length m)):=by kernel_rfl
theorem zrg(a b:Int)(m:Es)(k:Int):ydf a b m k=(
 (List.length m=List.length m∧zb8 (List.length m) k∧m=zan k (List.length m)) ∧
   (decide (k+(6:PmT [i64])*(↑(List.length m):PmT [i64])<0)=true→k+(6:PmT [i64])*(↑(List.length m):PmT [i64])=(-1:Int)∧m=m) ∧
     (decide (k+(6:PmT [i64])*(↑(List.length m):PmT [i64])<0)=false →
       k+(6:PmT [i64])*(↑(List.length m):PmT [i64])=k+(6:PmT [i64])*(↑(List.length m):PmT [i64])∧m=m)):=by kernel_rfl
theorem zn8(m:List Int)(v:Int):zx0 m v=(
 (m.length=m.length∧SzR m.length)∧yma m v=decide (zmg (idxOf v m)≥(0:Int))∧m=m):=by kernel_rfl
theorem zul(a b:Int)(m:Es):yki a b m=(
 (List.length m=List.length m∧SzR (List.length m))∧a=a∧b=b∧(0:Nat)=(0:Nat)∧List.length m=List.length m∧m=m∧m=m):=by kernel_rfl
theorem zy4(a b:Int)(m:Es):yp6 a b m=(
 ((0:Nat)+List.length m≤List.length m∧(0:Nat)≤0∧0+(List.take (List.length m) (List.drop 0 m)).length≤1073741824) ∧
   a=a∧b=b∧(0:Nat)=0∧List.length m=0+(List.take (List.length m) (List.drop 0 m)).length∧m=m∧m=[]++List.take (List.length m) (List.drop 0 m)):=by kernel_rfl
theorem zzl(a b:Int)(m:Es):yqj a b m=(
 (List.length m=List.length m∧SzR (List.length m))∧a=a∧b=b∧(0:Nat)=(0:Nat)∧List.length m=List.length m∧m=m∧m=m):=by kernel_rfl
theorem zx2(a b:Int)(m:Es):ypg a b m=(
 ((a != a)=true→true=false∧m=m∧m=m) ∧
   ((a != a)=false →
     ((b != b)=true→true=false∧m=m∧m=m) ∧
       ((b != b)=false →
         (List.length m=List.length m∧List.length m=List.length m∧m=m∧SzR (List.length m)) ∧
           ((!true)=true→true=false∧m=m∧m=m)∧((!true)=false→true=true∧m=m∧m=m)))):=by kernel_rfl
set_option linter.unusedSimpArgs false
theorem zg4{α:Type}(a b:List α)(x y:α){i:Nat}(h:a.length=i):(a++x::b).set i y=a++y::b:=by
 rw[List.set_append_right _ _ (by omega),h,Nat.sub_self]
 rfl
theorem zh9{α:Type}(a b:List α)(x d:α){i:Nat}(h:a.length=i):(a++x::b).getD i d=x:=by
 rw[List.getD_eq_getElem?_getD,List.getElem?_append_right (by omega),h,Nat.sub_self]
 rfl
theorem ycs:Sound Tryz.prog 243 (zad [enP] [enP] (fun _=>none) (fun e=>e)):=by
 refine zab mixed Tryz.func243 (by kernel_rfl) (by kernel_rfl) zcg (fun t _ => ?_)
 obtain⟨a,b,c,d,e,f⟩:En:=t
 exact zae (zru a b c d e f) ⟨rfl,rfl,rfl,rfl,rfl,rfl⟩
theorem ybu:Sound Tryz.prog 244 (zad [enP,enP] [bl] (fun t=>some (t.1=t.2)) (fun _=>true)):=by
 refine zab mixed Tryz.func244 (by kernel_rfl) (by kernel_rfl) zcg (fun t h => ?_)
 obtain⟨x,y⟩:En × En:=t
 have h:x=y:=h
 subst h
 obtain⟨a,b,c,d,e,f⟩:=x
 refine zae (zrd a b c d e f) ?_
 simp
theorem zxx{n:Nat}{k:Int}(h:szM n k<0):szM n k = -1:=by
 unfold szM at h ⊢
 split<;>simp_all<;>omega
theorem yv8:Sound Tryz.prog 227 (zad [esP,i64] [i64] (fun t=>some (t.1.length≤maxLen∧0≤t.2∧t.2≤1048576)) (fun t=>szM t.1.length t.2)):=by
 refine zab mixed Tryz.func227 (by kernel_rfl) (by kernel_rfl) zcg (fun t h => ?_)
 obtain⟨m,k⟩:Es × Int:=t
 obtain⟨h1,h2,h3⟩:m.length≤9223372036854775807∧0≤k∧k≤1048576:=h
 refine zae (yd2 m k) ?_
 rw[zac (by omega) (by omega)]
 refine⟨fun g=>⟨?_,rfl⟩,fun g=>⟨?_,rfl⟩⟩
 · have g:k-(m.length:Int)<0:=of_decide_eq_true g
   unfold szM
   rw[if_neg (by omega)]
 · have g:¬ k-(m.length:Int)<0:=of_decide_eq_false g
   unfold szM
   rw[if_pos (by omega)]
theorem ybn:Sound Tryz.prog 182 (zad [esP] [esP] (fun m=>some (SzR m.length)) (fun m=>m)):=by
 refine zab mixed Tryz.func182 (by kernel_rfl) (by kernel_rfl) zcg (fun  (m:Es) h => ?_)
 have h:SzR m.length:=h
 unfold SzR at h
 exact zae (zrb m) ⟨fun g=>⟨rfl,g,rfl,List.length_eq_zero_iff.1 g⟩,⟨by omega,by omega,by simp;omega⟩,rfl,by simp,rfl,by simp⟩
theorem zdg(k:Int)(n:Nat):(zan k n).length=n:=by simp[zan]
theorem zxa(k:Int)(n:Nat):zan k (n+1)=zan k n++[yhu (k+6*n)]:=by simp[zan,List.range_succ]
theorem yb9(k:Int){n i:Nat}(h:i<n)(d:En):(zan k n).getD i d=yhu (k+6*i):=by
 unfold zan
 rw[List.getD_eq_getElem?_getD,List.getElem?_map,List.getElem?_range h]
 rfl
theorem wrapc{c:Int}(h0:0≤c)(h1:c≤2199023255552):IntKind.i64.wrap (c+1)=c+1∧IntKind.i64.wrap (c+1+1)=c+2∧IntKind.i64.wrap (c+2+1)=c+3∧IntKind.i64.wrap (c+3+1)=c+4∧IntKind.i64.wrap (c+4+1)=c+5∧IntKind.i64.wrap (c+5+1)=c+6 ∧
 IntKind.u64.wrap (c+2)=c+2∧IntKind.u64.wrap (c+3)=c+3∧IntKind.u64.wrap (c+5)=c+5:=by
 refine⟨?_, ?_, ?_, ?_, ?_, ?_, ?_, ?_, ?_⟩
 · rw[zac (by omega) (by omega)]
 · rw[zac (by omega) (by omega)];omega
 · rw[zac (by omega) (by omega)];omega
 · rw[zac (by omega) (by omega)];omega
 · rw[zac (by omega) (by omega)];omega
 · rw[zac (by omega) (by omega)];omega
 · rw[zah (by omega) (by omega)]
 · rw[zah (by omega) (by omega)]
 · rw[zah (by omega) (by omega)]
theorem yhw:Sound Tryz.prog 230 (zo8 [esP,i64] [i64] (fun t=>some (zb8 t.1.length t.2)) (fun t=>((zan t.2 t.1.length,t.2),t.2+6*t.1.length))):=by
 refine zla mixed Tryz.func230 (by kernel_rfl) (b:=zak Tryz.f230 0) (k:=2) (by kernel_rfl) (by kernel_rfl) (by kernel_rfl) zcg (fun t h => ?_)
 obtain⟨m,k⟩:Es × Int:=t
 obtain⟨h,h1,h2⟩:zb8 m.length k:=h
 have hs:m.length≤2097152:=h
 refine⟨yhv m k,yam m k,fun i:Nat=>m.length-i,za1 2 (yam m k),fun  (i:Nat) hi=>zae (zog m k i) ?_,zae (zuz m k) ?_⟩
 all_goals (try conv=>zeta)
 · have hi:i≤m.length:=hi
   refine⟨fun g => ?_,fun g => ?_⟩
   · have g:(i:Int)<m.length:=of_decide_eq_true g
     have hlt:i<m.length:=by omega
     have hn:=zbn h hlt
     have e0:0+(i:Int).toNat=i:=by omega
     have hc0:0≤k+6*(i:Int):=by omega
     have hc1:k+6*(i:Int)≤2199023255552:=by omega
     have hsucc:=zxa k i
     have hk:k+6*((i+1:Nat):Int)=k+6*i+6:=by omega
     have hln:=zdg k i
     have hd:=List.drop_eq_getElem_cons hlt
     generalize m[i]=e at hd
     rw[hd]
     generalize k+6*(i:Int)=c at *
     generalize zan k i=a at *
     obtain⟨w1,w2,w3,w4,w5,w6,u2,u3,u5⟩:=wrapc hc0 hc1
     have hb:(List.drop (i+1) m).length=m.length-(i+1):=by simp
     have hlen:∀x:En,i<(a++x::List.drop (i+1) m).length:=fun x=>by simp;omega
     rw[e0,zg4 _ _ _ _ hln,zh9 _ _ _ _ hln,w1]
     refine⟨by decide,⟨by omega,by omega⟩,hlen _,((i:Int),c+1,_),⟨rfl,rfl,rfl,rfl,rfl⟩,⟨by simp only;omega,by simp only;omega⟩,by simp only[e0];exact hlen _, ?_⟩
     simp only[e0,zg4 _ _ _ _ hln,zh9 _ _ _ _ hln]
     refine⟨((i:Int),c+2,_),⟨trivial,trivial,w2.symm,rfl,rfl⟩,⟨by simp only;omega,by simp only;omega⟩,by simp only[e0];exact hlen _, ?_⟩
     simp only[e0,zg4 _ _ _ _ hln,zh9 _ _ _ _ hln]
     refine⟨((i:Int),c+3,_),⟨trivial,trivial,w3.symm,rfl,rfl⟩,⟨by simp only;omega,by simp only;omega⟩,by simp only[e0];exact hlen _, ?_⟩
     simp only[e0,zg4 _ _ _ _ hln,zh9 _ _ _ _ hln]
     refine⟨((i:Int),c+4,_),⟨trivial,trivial,w4.symm,rfl,rfl⟩,by decide,⟨by simp only;omega,by simp only;omega⟩,by simp only[e0];exact hlen _, ?_⟩
     simp only[e0,zg4 _ _ _ _ hln,zh9 _ _ _ _ hln]
     refine⟨((i:Int),c+5,_),⟨trivial,trivial,w5.symm,rfl,rfl⟩,⟨by simp only;omega,by simp only;omega⟩,by simp only[e0];exact hlen _, ?_⟩
     simp only[e0,zg4 _ _ _ _ hln,zh9 _ _ _ _ hln]
     refine⟨((i:Int),c+6,_),⟨trivial,trivial,w6.symm,rfl,rfl⟩, ?_⟩
     refine⟨i+1,⟨trivial,trivial,hk,hn.symm, ?_⟩,by omega,by omega,fun _ _=>trivial⟩
     rw[hsucc]
     simp only[u2,u3,u5,List.append_assoc]
     rfl
   · have g:¬ (i:Int)<m.length:=of_decide_eq_false g
     have:i=m.length:=by omega
     subst this
     exact⟨(),⟨rfl,by simp⟩,trivial⟩
 · exact⟨0,⟨rfl,rfl,by simp,rfl,rfl⟩,by omega,fun _ _=>⟨rfl,rfl⟩⟩
theorem ygp:Sound Tryz.prog 245 (zad [esP,i64] [i64] (fun t=>some (zb8 t.1.length t.2∧t.1=zan t.2 t.1.length)) (fun t=>t.2+6*t.1.length)):=by
 refine zbf mixed Tryz.func245 (by kernel_rfl) (b:=zak Tryz.f245 0) (k:=2) (by kernel_rfl) (by kernel_rfl) (by kernel_rfl) zcg (fun t h => ?_)
 obtain⟨m,k⟩:Es × Int:=t
 obtain⟨⟨h,h1,h2⟩,h3⟩:zb8 m.length k∧m=zan k m.length:=h
 have hs:m.length≤2097152:=h
 refine⟨.one 2 (zsw m k),zsw m k,fun i:Nat=>m.length-i,za1 _ _,fun  (i:Nat) hi=>zae (zoa m k i) ?_,zae (zug m k) ?_⟩
 all_goals (try conv=>zeta)
 · have hi:i≤m.length:=hi
   refine⟨fun g => ?_,fun g => ?_⟩
   · have g:(i:Int)<m.length:=of_decide_eq_true g
     have hlt:i<m.length:=by omega
     have hn:=zbn h hlt
     have e0:0+(i:Int).toNat=i:=by omega
     have hc0:0≤k+6*(i:Int):=by omega
     have hc1:k+6*(i:Int)≤2199023255552:=by omega
     have hk:k+6*((i+1:Nat):Int)=k+6*i+6:=by omega
     have e:List.getD m i (El.zero shE)=yhu (k+6*i):=by rw[h3];exact yb9 k hlt _
     rw[e0,e,hn]
     obtain⟨w1,w2,w3,w4,w5,w6,u2,u3,u5⟩:=wrapc hc0 hc1
     have hx:∃(y:Nat),(0=0∧List.length m=List.length m∧k+6*(y:Int)=k+6*(i:Int)+6∧(y:Int)=((i+1:Nat):Int)∧m=m)∧y≤List.length m∧List.length m-y<List.length m-i∧∀(_:Unit),True→True :=
      ⟨i+1,⟨rfl,rfl,hk,rfl,rfl⟩,by omega,by omega,fun _ _=>trivial⟩
     generalize k+6*(i:Int)=c at *
     simp only[w1,w2,w3,w4,w5,w6,yhu,u2,u3,u5]
     simp[hlt]
     simpa using hx
   · have g:¬ (i:Int)<m.length:=of_decide_eq_false g
     have:i=m.length:=by omega
     subst this
     exact⟨(),⟨rfl,rfl⟩,trivial⟩
 · exact⟨0,⟨rfl,rfl,by simp,rfl,rfl⟩,by omega,fun _ _=>⟨rfl,rfl⟩⟩
theorem yzc:Sound Tryz.prog 241 (zad [wsP,i64] [i64] (fun t=>some (SzR t.1.length)) (fun t=>zmg (idxOf t.2 t.1))):=by
 refine zbf mixed Tryz.func241 (by kernel_rfl) (b:=zak Tryz.f241 0) (k:=2) (by kernel_rfl) (by kernel_rfl) (by kernel_rfl) zcg (fun t h => ?_)
 obtain⟨m,v⟩:List Int × Int:=t
 have h:SzR m.length:=h
 have hs:m.length≤2097152:=h
 refine⟨.one 2 (yzb m v),yzb m v,fun i:Nat=>m.length-i,za1 _ _,fun  (i:Nat) hi=>zae (zye m v i) ?_,zae (ykj m v) ?_⟩
 all_goals (try conv=>zeta)
 · obtain⟨hi,hb⟩:i≤m.length∧∀j,j<i→m.getD j 0≠v:=hi
   refine⟨fun g => ?_,fun g => ?_⟩
   · have g:(i:Int)<m.length:=of_decide_eq_true g
     have hlt:i<m.length:=by omega
     have e0:0+(i:Int).toNat=i:=by omega
     have ev:m.getD i (El.zero [Ty.i IntKind.i64])=m[i]:=by rw[List.getD_eq_getElem?_getD,List.getElem?_eq_getElem hlt];rfl
     rw[e0,zbn h hlt,ev]
     refine⟨⟨by omega,by omega⟩,by omega,fun q=>⟨i,⟨rfl,rfl⟩, ?_⟩,fun q=>⟨i+1,⟨rfl,rfl,rfl,rfl,rfl,rfl⟩,⟨by omega,fun j hj => ?_⟩,by omega,fun _ h=>h,fun _ h=>h⟩⟩
     · unfold idxOf
       rw[List.findIdx?_eq_some_iff_getElem]
       refine⟨hlt, ?_,fun j hj => ?_⟩
       · have q:v=m[i]:=by simpa using q
         simp[q]
       · have:=hb j hj
         rw[List.getD_eq_getElem?_getD,List.getElem?_eq_getElem (by omega)] at this
         simpa using this
     · rcases Nat.lt_or_ge j i with z|z
       · exact hb j z
       · have:j=i:=by omega
         subst this
         rw[List.getD_eq_getElem?_getD,List.getElem?_eq_getElem hlt]
         have q:v≠m[j]:=by simpa using q
         exact fun e=>q e.symm
   · have g:¬ (i:Int)<m.length:=of_decide_eq_false g
     have:i=m.length:=by omega
     subst this
     refine⟨(),rfl, ?_⟩
     unfold idxOf
     rw[List.findIdx?_eq_none_iff]
     intro x hx
     obtain⟨j,hj,rfl⟩:=List.mem_iff_getElem.1 hx
     have:=hb j hj
     rw[List.getD_eq_getElem?_getD,List.getElem?_eq_getElem hj] at this
     simpa using this
 · exact⟨0,⟨rfl,rfl,rfl,rfl,rfl,rfl⟩,⟨by omega,fun j hj=>absurd hj (Nat.not_lt_zero _)⟩,fun _ e=>⟨by rw[e];rfl,rfl⟩,fun _ e=>⟨by rw[e];rfl,rfl⟩⟩
theorem yrq:zar Tryz.prog kE1 :=
 .cons (by kernel_rfl) ycs <| .cons (by kernel_rfl) ybu <| .cons (by kernel_rfl) yv8 <| .cons (by kernel_rfl) ybn <| .cons (by kernel_rfl) yhw <|
 .cons (by kernel_rfl) ygp <| .cons (by kernel_rfl) yzc .nil
theorem zkf:DictOk Tryz.prog FE1:=zaw yrq .nil .nil
theorem ywi:Sound Tryz.prog 228 (zad [esP] [esP] (fun m=>some (SzR m.length)) (fun m=>m)):=by
 refine zbf mixed Tryz.func228 (by kernel_rfl) (b:=zak Tryz.f228 0) (k:=3) (by kernel_rfl) (by kernel_rfl) (by kernel_rfl) zkf (fun  (m:Es) h => ?_)
 have h:SzR m.length:=h
 have hs:m.length≤2097152:=h
 refine⟨.one 3 (yjg m),yjg m,fun i:Nat=>m.length-i,za1 _ _,fun  (i:Nat) hi=>zae (zvl m i) ?_,zae (yd8 m) ?_⟩
 all_goals (try conv=>zeta)
 · have hi:i≤m.length:=hi
   refine⟨fun g => ?_,fun g => ?_⟩
   · have g:(i:Int)<m.length:=of_decide_eq_true g
     rw[zbn h (by omega),show 0+(i:Int).toNat=i by omega]
     refine⟨⟨by omega,by omega⟩,by omega,⟨by omega,by omega⟩,by simp;omega,i+1,⟨rfl,rfl,rfl,rfl,rfl,rfl, ?_⟩,by omega,by omega,fun _ _=>trivial⟩
     exact (zqc m zE (El.zero shE) (by omega)).symm
   · have g:¬ (i:Int)<m.length:=of_decide_eq_false g
     have:i=m.length:=by omega
     subst this
     exact⟨(),⟨rfl,rfl,rfl,by simp⟩,trivial⟩
 · exact⟨⟨by omega,by omega,by omega⟩,0,⟨rfl,rfl,rfl,by omega,rfl,rfl,by simp[El.zero,Ty.zero,zE]⟩,by omega,fun _ _=>⟨rfl,rfl,rfl,rfl⟩⟩
theorem yud:Sound Tryz.prog 229 (zad [esP,esP] [bl] (fun t=>some (t.1=t.2∧SzR t.1.length)) (fun _=>true)):=by
 refine zbf mixed Tryz.func229 (by kernel_rfl) (b:=zak Tryz.f229 0) (k:=4) (by kernel_rfl) (by kernel_rfl) (by kernel_rfl) zkf (fun t h => ?_)
 obtain⟨m,n⟩:Es × Es:=t
 obtain⟨h0,h⟩:m=n∧SzR m.length:=h
 subst h0
 have hs:m.length≤2097152:=h
 refine⟨.one 4 (yf0 m m),yf0 m m,fun i:Nat=>m.length-i,za1 _ _,fun  (i:Nat) hi=>zae (zt9 m m i) ?_,zae (yc8 m m) ?_⟩
 all_goals (try conv=>zeta)
 · have hi:i≤m.length:=hi
   refine⟨fun g => ?_,fun g=>⟨(),⟨rfl,rfl⟩,trivial⟩⟩
   have g:(i:Int)<m.length:=of_decide_eq_true g
   rw[zbn h (by omega)]
   exact⟨⟨by omega,by omega⟩,by omega,⟨by omega,by omega⟩,by omega,rfl,fun e=>by simp at e,fun _=>⟨i+1,⟨rfl,rfl,rfl,rfl,rfl,rfl,rfl⟩,by omega,by omega,fun _ _=>trivial⟩⟩
 · exact⟨fun e=>by simp at e,fun _=>⟨0,⟨rfl,rfl,rfl,rfl,rfl,rfl,rfl⟩,by omega,fun _ _=>⟨rfl,rfl,rfl⟩⟩⟩
theorem yo4:Sound Tryz.prog 199 (zad [tlP,i64] [i64] (fun t=>some (t.1.2.2.length≤maxLen∧0≤t.2∧t.2≤1048576)) (fun t=>szM t.1.2.2.length t.2)):=by
 refine zab mixed Tryz.func199 (by kernel_rfl) (by kernel_rfl) zkf (fun t h => ?_)
 obtain⟨⟨a,b,m⟩,k⟩:Tl × Int:=t
 obtain⟨h1,h2,h3⟩:m.length≤9223372036854775807∧0≤k∧k≤1048576:=h
 refine zae (zzi a b m k) ⟨⟨rfl,h1,h2,h3⟩,fun g=>⟨zxx (of_decide_eq_true g),rfl⟩,fun g=>⟨rfl,rfl⟩⟩
theorem ycc:Sound Tryz.prog 204 (zo8 [tlP,i64] [i64] (fun t=>some (zb8 t.1.2.2.length t.2)) (fun t=>(((t.1.1,t.1.2.1,zan t.2 t.1.2.2.length),t.2),t.2+6*t.1.2.2.length))):=by
 refine zi4 mixed Tryz.func204 (by kernel_rfl) (by kernel_rfl) zkf (fun t h => ?_)
 obtain⟨⟨a,b,m⟩,k⟩:Tl × Int:=t
 have h:zb8 m.length k:=h
 exact⟨.none,zae (zro a b m k) ⟨⟨rfl,h⟩,rfl,rfl⟩⟩
theorem ybz:Sound Tryz.prog 231 (zad [tlP,i64] [i64] (fun t=>some (zb8 t.1.2.2.length t.2∧t.1.2.2=zan t.2 t.1.2.2.length)) (fun t=>t.2+6*t.1.2.2.length)):=by
 refine zab mixed Tryz.func231 (by kernel_rfl) (by kernel_rfl) zkf (fun t h => ?_)
 obtain⟨⟨a,b,m⟩,k⟩:Tl × Int:=t
 obtain⟨h1,h2⟩:zb8 m.length k∧m=zan k m.length:=h
 refine zae (zrg a b m k) ⟨⟨rfl,h1,h2⟩,fun g => ?_,fun _=>⟨rfl,rfl⟩⟩
 have g:k+6*(m.length:Int)<0:=of_decide_eq_true g
 have:=h1.2.1
 omega
theorem zwn:Sound Tryz.prog 225 (zad [wsP,i64] [bl] (fun t=>some (SzR t.1.length)) (fun t=>yma t.1 t.2)):=by
 refine zab mixed Tryz.func225 (by kernel_rfl) (by kernel_rfl) zkf (fun t h => ?_)
 obtain⟨m,v⟩:List Int × Int:=t
 have h:SzR m.length:=h
 refine zae (zn8 m v) ⟨⟨rfl,h⟩, ?_,rfl⟩
 unfold yma idxOf
 cases e:m.findIdx? (· == v) with
 | none =>
  rw[List.findIdx?_eq_none_iff] at e
  have:m.contains v=false:=by
   rw[List.contains_eq_any_beq,List.any_eq_false]
   intro x hx
   have:=e x hx
   simp only[beq_eq_false_iff_ne] at this
   simp
   exact fun z=>this z.symm
  rw[this]
  rfl
 | some i =>
  rw[List.findIdx?_eq_some_iff_getElem] at e
  obtain⟨hi,h1,_⟩:=e
  have:m.contains v=true:=by
   rw[List.contains_iff_mem]
   have:m[i]=v:=by simpa using h1
   rw[← this]
   exact List.getElem_mem hi
  rw[this]
  simp[zmg]
theorem ygz:Sound Tryz.prog 93 (zad [tlP] [tlP] (fun t=>some (SzR t.2.2.length)) (fun t=>t)):=by
 refine zab mixed Tryz.func93 (by kernel_rfl) (by kernel_rfl) zkf (fun t h => ?_)
 obtain⟨a,b,m⟩:Tl:=t
 have h:SzR m.length:=h
 exact zae (zul a b m) ⟨⟨rfl,h⟩,rfl,rfl,rfl,rfl,rfl,rfl⟩
theorem yoo:Sound Tryz.prog 91 (zad [tlP] [tlP] (fun t=>some (SzR t.2.2.length)) (fun t=>t)):=by
 refine zab mixed Tryz.func91 (by kernel_rfl) (by kernel_rfl) zkf (fun t h => ?_)
 obtain⟨a,b,m⟩:Tl:=t
 have h:m.length≤2097152:=h
 exact zae (zy4 a b m) ⟨⟨by omega,by omega,by simp;omega⟩,rfl,rfl,rfl,by simp,rfl,by simp⟩
theorem yrr:zar Tryz.prog kE2 :=
 .cons (by kernel_rfl) ywi <| .cons (by kernel_rfl) yud <| .cons (by kernel_rfl) yo4 <| .cons (by kernel_rfl) ycc <| .cons (by kernel_rfl) ybz <| .cons (by kernel_rfl) zwn <|
 .cons (by kernel_rfl) ygz <| .cons (by kernel_rfl) yoo yrq
theorem yqv:DictOk Tryz.prog FE2:=zaw yrr .nil .nil
theorem yo5:Sound Tryz.prog 200 (zad [tlP] [tlP] (fun t=>some (SzR t.2.2.length)) (fun t=>t)):=by
 refine zab mixed Tryz.func200 (by kernel_rfl) (by kernel_rfl) yqv (fun t h => ?_)
 obtain⟨a,b,m⟩:Tl:=t
 have h:SzR m.length:=h
 exact zae (zzl a b m) ⟨⟨rfl,h⟩,rfl,rfl,rfl,rfl,rfl,rfl⟩
theorem ym4:Sound Tryz.prog 203 (zad [tlP,tlP] [bl] (fun t=>some (t.1=t.2∧SzR t.1.2.2.length)) (fun _=>true)):=by
 refine zab mixed Tryz.func203 (by kernel_rfl) (by kernel_rfl) yqv (fun t h => ?_)
 obtain⟨x,y⟩:Tl × Tl:=t
 obtain⟨h0,h⟩:x=y∧SzR x.2.2.length:=h
 subst h0
 obtain⟨a,b,m⟩:=x
 have h:SzR m.length:=h
 refine zae (zx2 a b m) ?_
 simp[h]
theorem zkk:zar Tryz.prog kE3 := .cons (by kernel_rfl) yo5 <| .cons (by kernel_rfl) ym4 yrr
end Go.Proofs.YtfiddfbagbaofaaGreat.V
