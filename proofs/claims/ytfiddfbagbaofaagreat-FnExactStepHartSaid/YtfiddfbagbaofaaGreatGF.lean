/- Valid caches, and finding in them, answer as their models. Conditions: those in each statement. -/
import Derived.Test.YtfiddfbagbaofaaGreatGE
import Derived.KernelRfl
namespace Go.Proofs.YtfiddfbagbaofaaGreat.V
open Go
def EnR(e:En):Prop:=I64 e.2.1∧U64 e.2.2.1∧U64 e.2.2.2.1∧U64 e.2.2.2.2.2
def TlR(t:Tl):Prop:=I64 t.1∧I64 t.2.1∧SzR t.2.2.length∧∀e ∈ t.2.2,EnR e
def zvt(ptr:Bool):Int:=if ptr=true then 1 else 2
def zb2(ptr:Bool)(e:En):Bool:=e.1&&lvM e.2.1&&decide (e.2.2.1<2 ^ (9-3*e.2.1).toNat)&&decide (e.2.2.2.1≤65535)&&(e.2.2.2.2.1==zax e.2.2.2.2.2 5)&&(za2 e.2.2.2.2.2 e.2.1==zvt ptr)
def zlb(ptr:Bool)(s w:Int)(i:Nat)(e:En):Bool:=e==zE||(zb2 ptr e&&(IntKind.i64.wrap e.2.2.1).tmod s==((i:Int).tdiv w))
def zig(ptr:Bool)(s w:Int)(m:Es):Bool:=(List.range m.length).all fun i=>zlb ptr s w i (m.getD i zE)
def zcb(s w:Int)(m:Es):Bool:=(s==1||s==2||s==4||s==8)&&decide (1≤w)&&decide (w≤4)&&(m.length:Int)==s*w
def zaj(ptr:Bool)(t:Tl):Bool:=zcb t.1 t.2.1 t.2.2&&zig ptr t.1 t.2.1 t.2.2
def za8(t:Tl):Bool:=zaj true t||zaj false t
def zdm(e:En)(va asid:Int):Bool:=e.1&&(e.2.2.1==zjo va e.2.1)&&(e.2.2.2.2.1||e.2.2.2.1==asid)
abbrev stP:Pm := .st []
def FE3:Dict:=mkD (kE3++kA4) [] []
def ykm(k:Int):Prop:=zag Tryz.prog F0 .none Tryz.f264 [stP,i64] [bl] ((),k) (k==1)
def ykl(k:Int):Prop:=zag Tryz.prog F0 .none Tryz.f263 [stP,i64] [bl] ((),k) (k==2)
def ykp(a:Bool)(b c d:Int)(e:Bool)(f:Int)(p:Bool):Prop:=zag Tryz.prog FE3 .none Tryz.f92 [enP,bl] [bl] ((a,b,c,d,e,f),p) (zb2 p (a,b,c,d,e,f))
def yko(a:Bool)(b c d:Int)(e:Bool)(f:Int)(va asid:Int):Prop:=zag Tryz.prog FE3 .none Tryz.f90 [enP,u64,u64] [bl] ((a,b,c,d,e,f),va,asid) (zdm (a,b,c,d,e,f) va asid)
def kF1:Known:=[
 (264,zad [stP,i64] [bl] (fun _=>none) (fun t=>t.2==1)),
 (263,zad [stP,i64] [bl] (fun _=>none) (fun t=>t.2==2)),
 (92,zad [enP,bl] [bl] (fun t=>some (EnR t.1)) (fun t=>zb2 t.2 t.1)),
 (90,zad [enP,u64,u64] [bl] (fun t=>some (EnR t.1∧(t.1.1=true→LvR t.1.2.1)∧U64 t.2.1)) (fun t=>zdm t.1 t.2.1 t.2.2))]
def FF1:Dict:=mkD (kF1++kE3++kA4) [] []
def ypk(s w:Int)(m:Es)(a:Bool)(b c d:Int)(e:Bool)(f:Int):Prop:=zag Tryz.prog FF1 .none Tryz.f186 [tlP,enP] [bl] ((s,w,m),(a,b,c,d,e,f)) (zb2 true (a,b,c,d,e,f))
def ypj(s w:Int)(m:Es)(a:Bool)(b c d:Int)(e:Bool)(f:Int):Prop:=zag Tryz.prog FF1 .none Tryz.f184 [tlP,enP] [bl] ((s,w,m),(a,b,c,d,e,f)) (zb2 false (a,b,c,d,e,f))
def kF2:Known:=[
 (186,zad [tlP,enP] [bl] (fun t=>some (EnR t.2)) (fun t=>zb2 true t.2)),
 (184,zad [tlP,enP] [bl] (fun t=>some (EnR t.2)) (fun t=>zb2 false t.2))]++kF1
def FF2:Dict:=mkD (kF2++kE3++kA4) [] []
def yme(ptr:Bool)(ty:TypeId)(s w:Int)(m:Es):LoopS where
 α:=Nat
 I i:=zcb s w m=true∧i≤m.length∧∀j,j<i→zlb ptr s w j (m.getD j zE)=true
 sl i:=slots 71 [(1,.ptr 1 0),(39,.sl 0 6 0 m.length),(40,.v (.int .i64 m.length)),(41,.v (.int .i64 i))]
 H _:=[.arr shE m false,.fix [.v (.int .i64 s),.v (.int .i64 w),.sl 0 6 0 m.length] true (some ty)]
 fams:=[{ β:=Unit,out:=fun _ _=>zig ptr s w m=true,ex := .ext 0,sl:=fun _=>slots 71 [],H:=fun _=>[.arr shE m false] },
  { β:=Unit,out:=fun _ _=>zig ptr s w m=false,ex := .ret,sl:=fun _=>slots 71 [(2,.v (.bool false))],H:=fun _=>[.arr shE m false] }]
def ylx(s w:Int)(m:Es)(i:Nat):Prop:=zao Tryz.prog FF2 (.one 4 (yme true 159 s w m)) 1 (zak Tryz.f185 0) (yme true 159 s w m) (fun i:Nat=>m.length-i) i
def yxl(s w:Int)(m:Es):Prop:=zag Tryz.prog FF2 (.one 4 (yme true 159 s w m)) Tryz.f185 [tlP] [bl] (s,w,m) (zaj true (s,w,m))
def ylw(s w:Int)(m:Es)(i:Nat):Prop:=zao Tryz.prog FF2 (.one 4 (yme false 155 s w m)) 1 (zak Tryz.f183 0) (yme false 155 s w m) (fun i:Nat=>m.length-i) i
def yxk(s w:Int)(m:Es):Prop:=zag Tryz.prog FF2 (.one 4 (yme false 155 s w m)) Tryz.f183 [tlP] [bl] (s,w,m) (zaj false (s,w,m))
def yi7(ptr:Bool)(s w:Int)(m:Es):LoopS where
 α:=Nat
 I i:=zcb s w m=true∧i≤m.length∧∀j,j<i→zlb ptr s w j (m.getD j zE)=true
 sl i:=slots 80 [(1,.v (.bool ptr)),(2,.ptr 1 0),(5,.v (.int .i64 i))]
 H _:=[.arr shE m false,.fix [.v (.int .i64 s),.v (.int .i64 w),.sl 0 6 0 m.length] true (some 37)]
 fams:=[{ β:=Unit,out:=fun _ _=>zig ptr s w m=true,ex := .ext 0,sl:=fun _=>slots 80 [],H:=fun _=>[.arr shE m false] },
  { β:=Unit,out:=fun _ _=>zig ptr s w m=false,ex := .ret,sl:=fun _=>slots 80 [(4,.v (.bool false))],H:=fun _=>[.arr shE m false] }]
def ylg(s w:Int)(m:Es)(p:Bool)(i:Nat):Prop:=zao Tryz.prog FF2 (.one 4 (yi7 p s w m)) 1 (zak Tryz.f40 0) (yi7 p s w m) (fun i:Nat=>m.length-i) i
def yxc(s w:Int)(m:Es)(p:Bool):Prop:=zag Tryz.prog FF2 (.one 4 (yi7 p s w m)) Tryz.f40 [tlP,bl] [bl] ((s,w,m),p) (zaj p (s,w,m))
abbrev Hi:=Bool × Int × Int × Int
def zc3(va asid:Int)(o:Hi)(i:Nat)(e:En):Hi:=if (zdm e va asid&&(!o.1||decide (e.2.1<o.2.2.1)))=true then (true,(i:Int),e.2.1,e.2.2.2.2.2) else o
def zd5(va asid:Int)(m:Es):Nat→Hi
 | 0=>(false,0,0,0)
 | i+1=>zc3 va asid (zd5 va asid m i) i (m.getD i zE)
def za0(va asid:Int)(m:Es):Hi:=zd5 va asid m m.length
def yad(o:Hi):List Av:=[.v (.bool o.1),.v (.int .i64 o.2.1),.v (.int .i64 o.2.2.1),.v (.int .u64 o.2.2.2)]
def yf5(va asid:Int)(m:Es):LoopS where
 α:=Nat
 I i:=i≤m.length
 sl i:=slots 59 [(1,.v (.int .u64 va)),(2,.v (.int .u64 asid)),(6,.ptr 1 0),(7,.ptr 2 0),(11,.sl 0 6 0 m.length),(12,.v (.int .i64 m.length)),(13,.v (.int .i64 i))]
 H i:=[.arr shE m false,.fix (yad (false,0,0,0)) true (some 52),.fix (yad (zd5 va asid m i)) true (some 52)]
 fams:=[{ β:=Unit,out:=fun _ _=>True,ex := .ext 0,sl:=fun _=>slots 59 [(6,.ptr 1 0),(7,.ptr 2 0)],H:=fun _=>[.arr shE m false,.fix (yad (false,0,0,0)) true (some 52),.fix (yad (za0 va asid m)) true (some 52)] }]
def yj8(va asid:Int)(m:Es)(i:Nat):Prop:=zao Tryz.prog FF2 (.one 3 (yf5 va asid m)) 1 (zak Tryz.f98 0) (yf5 va asid m) (fun i:Nat=>m.length-i) i
def yw1(s w:Int)(m:Es)(va asid:Int):Prop:=zag Tryz.prog FF2 (.one 3 (yf5 va asid m)) Tryz.f98 [tlP,u64,u64] [yxw] ((s,w,m),va,asid) (za0 va asid m)
def kF3:Known:=[
 (185,zad [tlP] [bl] (fun t=>some (TlR t)) (zaj true)),
 (183,zad [tlP] [bl] (fun t=>some (TlR t)) (zaj false)),
 (40,zad [tlP,bl] [bl] (fun t=>some (TlR t.1)) (fun t=>zaj t.2 t.1)),
 (98,zad [tlP,u64,u64] [yxw] (fun t=>some (za8 t.1=true∧TlR t.1∧U64 t.2.1)) (fun t=>za0 t.2.1 t.2.2 t.1.2.2))]++kF2
def FF3:Dict:=mkD (kF3++kE3++kA4) [] []
def yw4(s w:Int)(m:Es)(p:Bool):Prop:=zag Tryz.prog FF3 .none Tryz.f195 [tlP,bl] [bl] ((s,w,m),p) (zaj p (s,w,m))
def yjw(s w:Int)(m:Es):Prop:=zag Tryz.prog FF3 .none Tryz.f89 [tlP] [bl] (s,w,m) (za8 (s,w,m))
def kF4:Known:=[
 (195,zad [tlP,bl] [bl] (fun t=>some (TlR t.1)) (fun t=>zaj t.2 t.1)),
 (89,zad [tlP] [bl] (fun t=>some (TlR t)) za8),
 ]++kF3
def FF4:Dict:=mkD (kF4++kE3++kA4) [] []
set_option linter.unusedVariables false
theorem zuo(k:Int):ykm k=(
 (k==(1:Int))=(k==(1:Int))):=by kernel_rfl
theorem zun(k:Int):ykl k=(
 (k==(2:Int))=(k==(2:Int))):=by kernel_rfl
theorem zur(a:Bool)(b c d:Int)(e:Bool)(f:Int)(p:Bool):ykp a b c d e f p=(
 let A0(a b:Bool):=bif a then b else false;
 let A1(a:Int):=IntKind.i64.wrap a;
 let A2:=A0 (A0 a (decide (b≥0))) (decide (b≤2));
 let A3:=(9:Int)-A1 ((3:Int)*b);
 let A4:=A0 (A0 A2 (decide (c<(pw (A1 A3))))) (decide (d≤65535));
 let A5(a:Bool)(b c:Prop):=(a=true→b)∧c;
 let A6(g:Int):=A5 A2 (A1 A3≤(64:PmT [i64])) (A5 A4 (zhu (f,5)) (A5 (A0 A4 (e==zax f 5)) (U64 f) (zb2 p (a,b,c,d,e,f)=A0 (A0 A4 (e==zax f 5)) (za2 f b==g))));
 A5 p (A6 1) (p=false→A6 2)):=by kernel_rfl
theorem zuq(a:Bool)(b c d:Int)(e:Bool)(f:Int)(va asid:Int):yko a b c d e f va asid=(
 (a=true→U64 va∧LvR b)∧zdm (a,b,c,d,e,f) va asid=bif bif a then c==zjo va b else false then bif e then true else d==asid else false):=by kernel_rfl
theorem zx7(s w:Int)(m:Es)(a:Bool)(b c d:Int)(e:Bool)(f:Int):ypk s w m a b c d e f=(
 let A0(a b:Bool):=bif a then b else false;
 let A1:=decide (d≤65535);
 let A2(a b c:Bool):=A0 (A0 a b) c;
 let A3:=IntKind.i64.wrap ((9:Int)-IntKind.i64.wrap ((3:Int)*b));
 let A4:=decide (c<(IntKind.u64.wrap ((1:Int)*2 ^ (min A3.toNat 64))));
 let A5:=A2 (A2 a (lvM b) A4) A1 (e==zax f 5);
 (A0 a (lvM b)=true→0≤A3)∧(A0 (A2 a (lvM b) A4) A1=true→zhu (f,5))∧(A5=true→U64 f)∧zb2 true (a,b,c,d,e,f)=A0 A5 (za2 f b==(1:PmT [i64]))∧m=m):=by kernel_rfl
theorem zx6(s w:Int)(m:Es)(a:Bool)(b c d:Int)(e:Bool)(f:Int):ypj s w m a b c d e f=(
 let A0(a b:Bool):=bif a then b else false;
 let A1:=decide (d≤65535);
 let A2(a b c:Bool):=A0 (A0 a b) c;
 let A3:=IntKind.i64.wrap ((9:Int)-IntKind.i64.wrap ((3:Int)*b));
 let A4:=decide (c<(IntKind.u64.wrap ((1:Int)*2 ^ (min A3.toNat 64))));
 let A5:=A2 (A2 a (lvM b) A4) A1 (e==zax f 5);
 (A0 a (lvM b)=true→0≤A3)∧(A0 (A2 a (lvM b) A4) A1=true→zhu (f,5))∧(A5=true→U64 f)∧zb2 false (a,b,c,d,e,f)=A0 A5 (za2 f b==(2:PmT [i64]))∧m=m):=by kernel_rfl
theorem zvo(s w:Int)(m:Es)(i:Nat):ylx s w m i=(
 let A0:=(0:Nat)+(↑i:Int).toNat;
 let A1:=(List.getD m A0 (El.zero shE)).snd;
 let A2:=List.length m;
 let A3:=A1.snd.snd;
 let A4:=(↑i:Int);
 let A5:=A1.snd.fst;
 let A6:=zig true s w m;
 let A7:=(List.getD m A0 (El.zero shE)).fst;
 let A8:=(0:Nat)=0;
 let A9(a:Bool):=a=true;
 let Aa(a b c:Prop):=a∧b∧c;
 let Ab(a b c d e:Prop):=Aa a b (Aa c d e);
 let Ac:=(A7,A1.fst,A5,A3.fst,A3.snd.fst,A3.snd.snd);
 let Ad:=A7==false&&(A1.fst==0&&(A5==0&&(A3.fst==0&&(A3.snd.fst==false&&(A3.snd.snd==0&&true)))));
 let Ae:=decide (A4<(↑A2:Int));
 let Af:=A6=false;
 let Ah(a:Int):=(match (!Ad),(!!zb2 true Ac) with|true,y=>y|false,x=>false)=true→a≠0;
 let Ai:=bif !Ad then bif !zb2 true Ac then true else (IntKind.i64.wrap A5).tmod s != IntKind.i64.wrap (A4.tdiv w) else false;
 (A9 Ae→Aa ((0:Int)≤A4∧A4<(↑A2:Int)) (A0<A2) (Ab (A9 (!Ad)→A2=A2∧EnR Ac) (Ah s) (Ah w) (A9 Ai→∃(x0:Unit),(false=false∧m=m)∧Af) (Ai=false→∃(x1:Nat),Ab (Ab A8 (A2=A2) ((↑A2:Int)=(↑A2:Int))
  ((↑x1:Int)=IntKind.i64.wrap (A4+1)) (Ab (m=m) (s=s) (w=w) A8 (A2=A2))) (Aa (A9 (zcb s w m)) (x1≤A2) (∀(x2:Nat),x2<x1→A9 (zlb true s w x2 (List.getD m x2 zE)))) (A2-x1<A2-i) (∀(x3:Unit),
  A9 A6→A9 A6) (∀(x4:Unit),Af→Af))))∧(Ae=false→∃(x5:Unit),m=m∧A9 A6)):=by kernel_rfl
theorem yeb(s w:Int)(m:Es):yxl s w m=(
 let A0:=List.length m;
 let A1(a b:Bool):=bif a then true else b;
 let A2:=(↑A0:Int);
 let A3:=(0:Nat)=0;
 let A4:=(1:Int)::2::4::8::[];
 let A5(a:Bool):=a=true;
 let A6(a b c:Prop):=a∧b∧c;
 let A7:=zaj true (s,w,m)=false;
 let A8:=A1 (A1 (A1 (!yma A4 s) (decide (w<1))) (decide (w>4))) (A2 != IntKind.i64.wrap (s*w));
 let A9:=zig true s w m;
 A6 ((4:Nat)=4∧SzR A4.length) (A5 A8→A7∧m=m) (A8=false→∃(x0:Nat),A6 A3 (A0=A0) (A6 (A2=A2) ((↑x0:Int)=0) (A6 (m=m) (s=s) (A6 (w=w) A3 (A0=A0))))∧A6 (A6 (A5 (zcb s w m)) (x0≤A0) (∀
  (x1:Nat),x1<x0→A5 (zlb true s w x1 (List.getD m x1 zE)))) (∀(x2:Unit),A5 A9→A5 (zaj true (s,w,m))∧m=m) (∀(x3:Unit),A9=false→A7∧m=m))):=by kernel_rfl
theorem zvn(s w:Int)(m:Es)(i:Nat):ylw s w m i=(
 let A0:=(0:Nat)+(↑i:Int).toNat;
 let A1:=(List.getD m A0 (El.zero shE)).snd;
 let A2:=List.length m;
 let A3:=A1.snd.snd;
 let A4:=(↑i:Int);
 let A5:=A1.snd.fst;
 let A6:=zig false s w m;
 let A7(a:Bool):=a=true;
 let A8:=(List.getD m A0 (El.zero shE)).fst;
 let A9:=(0:Nat)=0;
 let Aa(a b c:Prop):=a∧b∧c;
 let Ab(a b c d e:Prop):=Aa a b (Aa c d e);
 let Ac:=(A8,A1.fst,A5,A3.fst,A3.snd.fst,A3.snd.snd);
 let Ad:=A8==false&&(A1.fst==0&&(A5==0&&(A3.fst==0&&(A3.snd.fst==false&&(A3.snd.snd==0&&true)))));
 let Ae:=decide (A4<(↑A2:Int));
 let Af:=A6=false;
 let Ah(a:Int):=(match (!Ad),(!!zb2 false Ac) with|true,y=>y|false,x=>false)=true→a≠0;
 let Ai:=bif !Ad then bif !zb2 false Ac then true else (IntKind.i64.wrap A5).tmod s != IntKind.i64.wrap (A4.tdiv w) else false;
 (A7 Ae→Aa ((0:Int)≤A4∧A4<(↑A2:Int)) (A0<A2) (Ab (A7 (!Ad)→A2=A2∧EnR Ac) (Ah s) (Ah w) (A7 Ai→∃(x0:Unit),(false=false∧m=m)∧Af) (Ai=false→∃(x1:Nat),Ab (Ab A9 (A2=A2) ((↑A2:Int)=(↑A2:Int))
  ((↑x1:Int)=IntKind.i64.wrap (A4+1)) (Ab (m=m) (s=s) (w=w) A9 (A2=A2))) (Aa (A7 (zcb s w m)) (x1≤A2) (∀(x2:Nat),x2<x1→A7 (zlb false s w x2 (List.getD m x2 zE)))) (A2-x1<A2-i) (∀(x3:Unit),
  A7 A6→A7 A6) (∀(x4:Unit),Af→Af))))∧(Ae=false→∃(x5:Unit),m=m∧A7 A6)):=by kernel_rfl
theorem yea(s w:Int)(m:Es):yxk s w m=(
 let A0:=List.length m;
 let A1(a b:Bool):=bif a then true else b;
 let A2:=(↑A0:Int);
 let A3:=(0:Nat)=0;
 let A4:=(1:Int)::2::4::8::[];
 let A5(a:Bool):=a=true;
 let A6(a b c:Prop):=a∧b∧c;
 let A7:=zig false s w m;
 let A8:=A1 (A1 (A1 (!yma A4 s) (decide (w<1))) (decide (w>4))) (A2 != IntKind.i64.wrap (s*w));
 let A9:=zaj false (s,w,m)=false;
 A6 ((4:Nat)=4∧SzR A4.length) (A5 A8→A9∧m=m) (A8=false→∃(x0:Nat),A6 A3 (A0=A0) (A6 (A2=A2) ((↑x0:Int)=0) (A6 (m=m) (s=s) (A6 (w=w) A3 (A0=A0))))∧A6 (A6 (A5 (zcb s w m)) (x0≤A0) (∀
  (x1:Nat),x1<x0→A5 (zlb false s w x1 (List.getD m x1 zE)))) (∀(x2:Unit),A5 A7→A5 (zaj false (s,w,m))∧m=m) (∀(x3:Unit),A7=false→A9∧m=m))):=by kernel_rfl
theorem zvf(s w:Int)(m:Es)(p:Bool)(i:Nat):ylg s w m p i=(
 let A0:=(0:Nat)+(↑i:Int).toNat;
 let A1:=(List.getD m A0 (El.zero shE)).snd;
 let A2:=A1.snd.snd;
 let A3:=List.length m;
 let A4:=(↑i:Int);
 let A5:=A1.snd.fst;
 let A6(a:Bool):=zig p s w m=a;
 let A7:=(List.getD m A0 (El.zero shE)).fst;
 let A8:=(A1.fst,A5,A2.fst,A2.snd.fst,A2.snd.snd);
 let A9(a b c:Prop):=a∧b∧c;
 let Aa:=A7==false&&(A1.fst==0&&(A5==0&&(A2.fst==0&&(A2.snd.fst==false&&(A2.snd.snd==0&&true)))));
 let Ab:=decide (A4<(↑A3:Int));
 let Ac(a:Bool)(b:Prop):=a=true→b;
 let Ad:=bif !Aa then bif !zb2 p (A7,A8) then true else (IntKind.i64.wrap A5).tmod s != IntKind.i64.wrap (A4.tdiv w) else false;
 let Ae(a:Int):=(match (!Aa),(!!zb2 p (A7,A8)) with|true,y=>y|false,x=>false)=true→a≠0;
 Ac Ab (A9 ((0:Int)≤A4∧A4<(↑A3:Int)) (A0<A3) (A9 (Ac (!Aa) (EnR (A7,A8))) (Ae s) (A9 (Ae w) (Ac Ad (∃(x0:Unit),(false=false∧m=m)∧A6 false)) (Ad=false→∃(x1:Nat),A9 (A9 (p=p) ((↑x1:Int) =
  IntKind.i64.wrap (A4+1)) (A9 (m=m) (s=s) (A9 (w=w) ((0:Nat)=0) (A3=A3)))) (A9 (zcb s w m=true) (x1≤A3) (∀(x2:Nat),x2<x1→zlb p s w x2 (List.getD m x2 zE)=true)) (A9 (A3-x1<A3-i) (∀
  (x3:Unit),A6 true→A6 true) (∀(x4:Unit),A6 false→A6 false))))))∧(Ab=false→∃(x5:Unit),m=m∧A6 true)):=by kernel_rfl
theorem yd0(s w:Int)(m:Es)(p:Bool):yxc s w m p=(
 let A0(a b c d e:Bool):=bif bif a then b else c then d else e;
 let A1:=List.length m;
 let A2:=zaj p (s,w,m)=false;
 let A3(a:Bool)(b:Prop):=zig p s w m=a→b∧m=m;
 let A4(a:Bool)(b:Prop):=A0 (A0 (A0 (s != 1) (s != 2) false (s != 4) false) (s != 8) false true (decide (w<1))) true (decide (w>4)) true ((↑(List.length m):Int) !=
  IntKind.i64.wrap (s*w))=a→b;
 A4 true (A2∧m=m)∧A4 false (∃(x0:Nat),(p=p∧(↑x0:Int)=0∧m=m∧s=s∧w=w∧(0:Nat)=0∧A1=A1)∧(zcb s w m=true∧x0≤A1∧∀(x1:Nat),x1<x0→zlb p s w x1 (List.getD m x1 zE) =
  true)∧(∀(x2:Unit),A3 true (zaj p (s,w,m)=true))∧∀(x3:Unit),A3 false A2)):=by kernel_rfl
theorem zub(va asid:Int)(m:Es)(i:Nat):yj8 va asid m i=(
 let A0:=Int.ofNat 0;
 let A1:=(0:Nat)+(↑i:Int).toNat;
 let A2:=List.getD m A1 (El.zero shE);
 let A3:=List.length m;
 let A4(a:Nat):=(zd5 va asid m a).snd;
 let A5:=(↑A3:Int);
 let A6:=(↑i:Int);
 let A7(a b c:Prop):=a∧b∧c;
 let A8(a b:Int)(c d:Prop):=A7 (a=b) c d;
 let A9:=A2.snd.fst;
 let Aa(a b c d:Int)(e:Prop):=A8 a b (c=d) e;
 let Ab(a:Nat):=(A4 a).snd.fst;
 let Ac(a:Nat):=(zd5 va asid m a).fst;
 let Ad:=A2.snd.snd.snd;
 let Ae(a:Bool)(b:Prop):=decide (A6<A5)=a→b;
 let Af(a:Nat)(b:Bool)(c:Prop):=Aa va va asid asid (A7 ((0:Nat)=0) (A3=A3) (Aa A5 A5 (↑a:Int) (IntKind.i64.wrap (A6+1)) (A7 (m=m) (false=false) (Aa A0 A0 A0 A0 (A8 A0 A0 (Ac a=b) c)))))∧A7 (a ≤
  A3) (A3-a<A3-i) (∀(x1:Unit),True→True);
 let Ah(a:Bool)(b:Prop):=(bif bif bif A2.fst then A2.snd.snd.fst==zjo va A9 else false then bif Ad.snd.fst then true else Ad.fst==asid else false then bif !Ac i then true else decide (A9<(Ab i)) else false)=a→b;
 let Ai(a b c:Int):=Aa a (A4 i).fst b (Ab i) (c=(A4 i).snd.snd);
 let Aj:=za0 va asid m;
 let Ak:=(za0 va asid m).snd.snd;
 Ae true (A7 ((0:Int)≤A6∧A6<A5) (A1<A3) (A7 (A2.fst=true→U64 va∧LvR A9) (Ah true (∃(x0:Nat),Af x0 true (A8 (A4 x0).fst A6 (Ab x0=A9) ((A4 x0).snd.snd=Ad.snd.snd)))) (Ah false (∃(x2:Nat),Af x2 (Ac i) (Ai (A4
  x2).fst (Ab x2) (A4 x2).snd.snd)))))∧Ae false (∃(x3:Unit),A7 (m=m) (false=false) (Aa A0 A0 A0 A0 (A8 A0 A0 (Aj.fst=Ac i) (Ai Aj.snd.fst Ak.fst Ak.snd)))∧True)):=by kernel_rfl
theorem ydb(s w:Int)(m:Es)(va asid:Int):yw1 s w m va asid=(
 let A0:=Int.ofNat 0;
 let A1:=za0 va asid m;
 let A2:=List.length m;
 let A3(a:Int)(b:Prop):=a=0∧b;
 let A4(a:Nat):=(zd5 va asid m a).snd.snd;
 let A5:=(↑(List.length m):Int);
 ∃(x0:Nat),(va=va∧asid=asid∧(0:Nat)=0∧A2=A2∧A5=A5∧A3 (↑x0:Int) (m=m∧false=false∧A3 A0 (A3 A0 (A3 A0 ((zd5 va asid m x0).fst=false∧A3 (zd5 va asid m x0).snd.fst (A3 (A4 x0).fst ((A4
  x0).snd=0)))))))∧x0≤A2∧∀(x1:Unit),True→A1.fst=A1.fst∧A1.snd.fst=A1.snd.fst∧A1.snd.snd.fst=A1.snd.snd.fst∧A1.snd.snd.snd=A1.snd.snd.snd∧m=m):=by kernel_rfl
theorem ydh(s w:Int)(m:Es)(p:Bool):yw4 s w m p=(
 (p=true→(List.length m=List.length m∧TlR (s,w,m))∧zaj p (s,w,m)=zaj true (s,w,m)∧m=m) ∧
   (p=false→(List.length m=List.length m∧TlR (s,w,m))∧zaj p (s,w,m)=zaj false (s,w,m)∧m=m)):=by kernel_rfl
theorem zt7(s w:Int)(m:Es):yjw s w m=(
 (List.length m=List.length m∧TlR (s,w,m)) ∧
   ((!zaj true (s,w,m))=true→List.length m=List.length m∧TlR (s,w,m))∧(za8 (s,w,m)=bif zaj true (s,w,m) then true else zaj false (s,w,m))∧m=m):=by kernel_rfl
set_option linter.unusedSimpArgs false
theorem zar.append{P:Program}:∀{l m:List (FuncId × Sum)},zar P l→zar P m→zar P (l++m):=by
 intro l m hl hm p hp
 rcases List.mem_append.1 hp with h|h
 · exact hl p h
 · exact hm p h
theorem yzh:zar Tryz.prog (kE3++kA4):=zkk.append zcy
theorem yem:DictOk Tryz.prog FE3:=zaw yzh .nil .nil
theorem yhe:Sound Tryz.prog 264 (zad [stP,i64] [bl] (fun _=>none) (fun t=>t.2==1)):=by
 refine zab mixed Tryz.func264 (by kernel_rfl) (by kernel_rfl) zcg (fun t _ => ?_)
 obtain⟨⟨⟩,k⟩:Unit × Int:=t
 exact zae (zuo k) rfl
theorem yhd:Sound Tryz.prog 263 (zad [stP,i64] [bl] (fun _=>none) (fun t=>t.2==2)):=by
 refine zab mixed Tryz.func263 (by kernel_rfl) (by kernel_rfl) zcg (fun t _ => ?_)
 obtain⟨⟨⟩,k⟩:Unit × Int:=t
 exact zae (zun k) rfl
theorem lv_ge(b:Int):(decide (b≥0)&&decide (b≤2))=lvM b:=rfl
theorem yog{b:Int}(h:LvR b):IntKind.i64.wrap (9-IntKind.i64.wrap (3*b))=9-3*b∧pw (9-3*b)=2 ^ (9-3*b).toNat∧(9-3*b).toNat≤9∧0≤9-3*b∧9-3*b≤64:=by
 rcases zcc h with rfl|rfl|rfl<;>decide
theorem yhi:Sound Tryz.prog 92 (zad [enP,bl] [bl] (fun t=>some (EnR t.1)) (fun t=>zb2 t.2 t.1)):=by
 refine zab mixed Tryz.func92 (by kernel_rfl) (by kernel_rfl) yem (fun t h => ?_)
 obtain⟨⟨a,b,c,d,e,f⟩,p⟩:En × Bool:=t
 obtain⟨h1,h2,h3,h4⟩:I64 b∧U64 c∧U64 d∧U64 f:=h
 refine zae (zur a b c d e f p) ?_
 conv=>zeta
 simp only[Bool.cond_false_right]
 have hb:(a&&decide (b≥0)&&decide (b≤2))=(a&&lvM b):=by rw[Bool.and_assoc,lv_ge]
 rw[hb]
 have main:∀k:Int,k=zvt p→((a&&lvM b)=true→IntKind.i64.wrap (9-IntKind.i64.wrap (3*b))≤(64:Int)) ∧
  ((a&&lvM b&&decide (c<pw (IntKind.i64.wrap (9-IntKind.i64.wrap (3*b))))&&decide (d≤65535))=true→zhu (f,5)) ∧
  ((a&&lvM b&&decide (c<pw (IntKind.i64.wrap (9-IntKind.i64.wrap (3*b))))&&decide (d≤65535)&&(e==zax f 5))=true→U64 f) ∧
  zb2 p (a,b,c,d,e,f)=(a&&lvM b&&decide (c<pw (IntKind.i64.wrap (9-IntKind.i64.wrap (3*b))))&&decide (d≤65535)&&(e==zax f 5)&&(za2 f b==k)):=by
  intro k hk
  refine⟨fun g => ?_,fun _=>zp0 h4 (by decide) (by decide),fun _=>h4, ?_⟩
  · have:LvR b:=zed.1 (by simp at g;exact g.2)
    obtain⟨w,_,_,_,_⟩:=yog this
    rw[w]
    unfold LvR at this
    omega
  · rw[hk]
    by_cases hl:lvM b=true
    · obtain⟨w,q,_⟩:=yog (zed.1 hl)
      rw[w,q]
      rfl
    · have hl:lvM b=false:=by simpa using hl
      simp[zb2,hl]
 refine⟨fun g=>main 1 (by simp[zvt,g]),fun g=>main 2 (by simp[zvt,g])⟩
theorem yhh:Sound Tryz.prog 90 (zad [enP,u64,u64] [bl] (fun t=>some (EnR t.1∧(t.1.1=true→LvR t.1.2.1)∧U64 t.2.1)) (fun t=>zdm t.1 t.2.1 t.2.2)):=by
 refine zab mixed Tryz.func90 (by kernel_rfl) (by kernel_rfl) yem (fun t h => ?_)
 obtain⟨⟨a,b,c,d,e,f⟩,va,asid⟩:En × Int × Int:=t
 obtain⟨h1,h2,h3⟩:EnR (a,b,c,d,e,f)∧(a=true→LvR b)∧U64 va:=h
 refine zae (zuq a b c d e f va asid) ⟨fun g=>⟨h3,h2 g⟩, ?_⟩
 simp only[Bool.cond_false_right,Bool.cond_true_left]
 rfl
theorem yrs:zar Tryz.prog kF1 := .cons (by kernel_rfl) yhe <| .cons (by kernel_rfl) yhd <| .cons (by kernel_rfl) yhi <| .cons (by kernel_rfl) yhh .nil
theorem yqw:DictOk Tryz.prog FF1:=zaw ((yrs.append zkk).append zcy) .nil .nil
theorem zo0{a:Bool}{b c d:Int}{e:Bool}{f:Int}{p:Bool}{k:Int}(hk:k=zvt p) :
 ((a&&lvM b)=true→0≤IntKind.i64.wrap (9-IntKind.i64.wrap (3*b))) ∧
 zb2 p (a,b,c,d,e,f)=(a&&lvM b&&decide (c<IntKind.u64.wrap (1*2 ^ min (IntKind.i64.wrap (9-IntKind.i64.wrap (3*b))).toNat 64))&&decide (d≤65535)&&(e==zax f 5)&&(za2 f b==k)):=by
 refine⟨fun g => ?_, ?_⟩
 · have:LvR b:=zed.1 (by simp at g;exact g.2)
   obtain⟨w,_,_,q,_⟩:=yog this
   rw[w]
   exact q
 · rw[hk]
   by_cases hl:lvM b=true
   · obtain⟨w,q,_⟩:=yog (zed.1 hl)
     have:IntKind.u64.wrap (1*2 ^ min (9-3*b).toNat 64)=2 ^ (9-3*b).toNat:=by
      rcases zcc (zed.1 hl) with rfl|rfl|rfl<;>decide
     rw[w,this]
     rfl
   · have hl:lvM b=false:=by simpa using hl
     simp[zb2,hl]
theorem ynf:Sound Tryz.prog 186 (zad [tlP,enP] [bl] (fun t=>some (EnR t.2)) (fun t=>zb2 true t.2)):=by
 refine zab mixed Tryz.func186 (by kernel_rfl) (by kernel_rfl) yqw (fun t h => ?_)
 obtain⟨⟨s,w,m⟩,a,b,c,d,e,f⟩:Tl × En:=t
 obtain⟨h1,h2,h3,h4⟩:I64 b∧U64 c∧U64 d∧U64 f:=h
 refine zae (zx7 s w m a b c d e f) ?_
 conv=>zeta
 simp only[Bool.cond_false_right]
 obtain⟨q1,q2⟩:=zo0 (a:=a) (b:=b) (c:=c) (d:=d) (e:=e) (p:=true) (k:=1) rfl
 exact⟨q1,fun _=>zp0 h4 (by decide) (by decide),fun _=>h4,q2,trivial⟩
theorem yne:Sound Tryz.prog 184 (zad [tlP,enP] [bl] (fun t=>some (EnR t.2)) (fun t=>zb2 false t.2)):=by
 refine zab mixed Tryz.func184 (by kernel_rfl) (by kernel_rfl) yqw (fun t h => ?_)
 obtain⟨⟨s,w,m⟩,a,b,c,d,e,f⟩:Tl × En:=t
 obtain⟨h1,h2,h3,h4⟩:I64 b∧U64 c∧U64 d∧U64 f:=h
 refine zae (zx6 s w m a b c d e f) ?_
 conv=>zeta
 simp only[Bool.cond_false_right]
 obtain⟨q1,q2⟩:=zo0 (a:=a) (b:=b) (c:=c) (d:=d) (e:=e) (p:=false) (k:=2) rfl
 exact⟨q1,fun _=>zp0 h4 (by decide) (by decide),fun _=>h4,q2,trivial⟩
theorem yrt:zar Tryz.prog kF2 := .cons (by kernel_rfl) ynf <| .cons (by kernel_rfl) yne yrs
theorem zzq:DictOk Tryz.prog FF2:=zaw ((yrt.append zkk).append zcy) .nil .nil
theorem yvi(e:En):(!(e.1==false&&(e.2.1==0&&(e.2.2.1==0&&(e.2.2.2.1==0&&(e.2.2.2.2.1==false&&(e.2.2.2.2.2==0&&true))))))) = !(e==zE):=by
 obtain⟨a,b,c,d,g,f⟩:=e
 rw[Bool.and_true]
 rfl
theorem zcf{p:Bool}{s w:Int}{m:Es}:zig p s w m=true↔∀i,i<m.length→zlb p s w i (m.getD i zE)=true:=by
 unfold zig
 rw[List.all_eq_true]
 exact⟨fun h i hi=>h i (List.mem_range.2 hi),fun h i hi=>h i (List.mem_range.1 hi)⟩
theorem zgz{s w:Int}{m:Es}(h:zcb s w m=true):(s=1∨s=2∨s=4∨s=8)∧1≤w∧w≤4∧(m.length:Int)=s*w:=by
 simp only[zcb,Bool.and_eq_true,Bool.or_eq_true,beq_iff_eq,decide_eq_true_eq] at h
 obtain⟨⟨⟨h1,h2⟩,h3⟩,h4⟩:=h
 exact⟨by omega,h2,h3,h4⟩
theorem ycf{i:Nat}{w:Int}(hw:1≤w)(hi:i≤2097152):IntKind.i64.wrap ((i:Int).tdiv w)=(i:Int).tdiv w:=by
 rw[zjh (by omega)]
 have h1:0≤(i:Int)/w:=Int.ediv_nonneg (by omega) (by omega)
 have h2:(i:Int)/w≤i:=Int.ediv_le_self _ (by omega)
 exact zac (by omega) (by omega)
theorem zm1{p:Bool}{s w:Int}{i:Nat}{e:En}(hw:1≤w)(hi:i≤2097152):(bif !(e==zE) then bif !zb2 p e then true else (IntKind.i64.wrap e.2.2.1).tmod s != IntKind.i64.wrap ((i:Int).tdiv w) else false) = !zlb p s w i e:=by
 rw[ycf hw hi]
 unfold zlb
 cases e==zE<;>cases zb2 p e<;>simp[bne]
theorem zma{m:Es}{i:Nat}(h:i<m.length)(d:En):m.getD i d ∈ m:=by
 rw[List.getD_eq_getElem?_getD,List.getElem?_eq_getElem h]
 exact List.getElem_mem h
theorem zm8{p:Bool}{s w:Int}{m:Es}{i:Nat}(h:∀j,j<i→zlb p s w j (m.getD j zE)=true)(ho:zlb p s w i (m.getD i zE)=true):∀j,j<i+1→zlb p s w j (m.getD j zE)=true:=by
 intro j hj
 rcases Nat.lt_or_ge j i with z|z
 · exact h j z
 · have:j=i:=by omega
   subst this
   exact ho
theorem zq0{p:Bool}{s w:Int}{m:Es}{i:Nat}(hi:i<m.length)(ho:zlb p s w i (m.getD i zE)=false):zig p s w m=false:=by
 cases e:zig p s w m with
 | false=>rfl
 | true=>rw[zcf.1 e i hi] at ho;cases ho
theorem yng(s:Int):yma [1,2,4,8] s=(s==1||s==2||s==4||s==8):=by
 have e:∀a b:Int,decide (a=b)=(a==b):=fun a b=>rfl
 unfold yma
 simp[Bool.or_assoc,e]
theorem yn2{s w:Int}(hs:s=1∨s=2∨s=4∨s=8)(h1:1≤w)(h2:w≤4):IntKind.i64.wrap (s*w)=s*w:=by
 rcases hs with rfl|rfl|rfl|rfl<;>exact zac (by omega) (by omega)
theorem zsv(s w:Int)(m:Es):(!(s==1||s==2||s==4||s==8)||decide (w<1)||decide (w>4)||(m.length:Int) != IntKind.i64.wrap (s*w)) = !zcb s w m:=by
 unfold zcb
 by_cases h0:(s==1||s==2||s==4||s==8)=true
 · by_cases h1:1≤w
   · by_cases h2:w≤4
     · rw[yn2 (by simp at h0;omega) h1 h2,h0]
       have e1:¬ w<1:=by omega
       have e2:¬ w>4:=by omega
       simp[h1,h2,e1,e2,bne]
     · have e2:w>4:=by omega
       simp[h2,e2]
   · have e1:w<1:=by omega
     simp[h1,e1]
 · have h0:(s==1||s==2||s==4||s==8)=false:=by simpa using h0
   simp[h0]
theorem yab(s w:Int)(m:Es):(bif bif bif !yma [1,2,4,8] s then true else decide (w<1) then true else decide (w>4) then true else (m.length:Int) != IntKind.i64.wrap (s*w)) = !zcb s w m:=by
 rw[yng, ← zsv]
 simp only[Bool.cond_true_left]
theorem ygn(s w:Int)(m:Es):(bif bif bif bif bif bif s != 1 then s != 2 else false then s != 4 else false then s != 8 else false then true else decide (w<1) then true else decide (w>4) then true else (m.length:Int) != IntKind.i64.wrap (s*w)) = !zcb s w m:=by
 have e:(s != 1&&s != 2&&s != 4&&s != 8) = !(s==1||s==2||s==4||s==8):=by simp only[Bool.not_or,bne]
 rw[← zsv, ← e]
 simp only[Bool.cond_true_left,Bool.cond_false_right]
theorem ywo:Sound Tryz.prog 185 (zad [tlP] [bl] (fun t=>some (TlR t)) (zaj true)):=by
 refine zbf mixed Tryz.func185 (by kernel_rfl) (b:=zak Tryz.f185 0) (k:=4) (by kernel_rfl) (by kernel_rfl) (by kernel_rfl) zzq (fun t h => ?_)
 obtain⟨s,w,m⟩:Tl:=t
 obtain⟨h1,h2,h,h4⟩:I64 s∧I64 w∧SzR m.length∧∀e ∈ m,EnR e:=h
 have hs:m.length≤2097152:=h
 refine⟨.one 4 (yme true 159 s w m),yme true 159 s w m,fun i:Nat=>m.length-i,za1 _ _,fun  (i:Nat) hi=>zae (zvo s w m i) ?_,zae (yeb s w m) ?_⟩
 all_goals (try conv=>zeta)
 · obtain⟨hd,hi,hb⟩:zcb s w m=true∧i≤m.length∧∀j,j<i→zlb true s w j (m.getD j zE)=true:=hi
   obtain⟨g1,g2,g3,g4⟩:=zgz hd
   refine⟨fun g => ?_,fun g => ?_⟩
   · have g:(i:Int)<m.length:=of_decide_eq_true g
     have hlt:i<m.length:=by omega
     have hm:=h4 _ (zma hlt zE)
     rw[zbn h hlt,show 0+(i:Int).toNat=i by omega,show El.zero shE=zE from rfl]
     have hno:=fun q=>zq0 (p:=true) (s:=s) (w:=w) hlt q
     have hyes:=fun q=>zm8 (p:=true) (s:=s) (w:=w) (m:=m) hb q
     generalize m.getD i zE=e at *
     obtain⟨a,b,c,d,k,f⟩:=e
     have hz:=yvi (a,b,c,d,k,f)
     have hc:=zm1 (p:=true) (s:=s) (w:=w) (i:=i) (e:=(a,b,c,d,k,f)) g2 (by omega)
     simp only at hz hc
     rw[hz,hc]
     have s0:s≠0:=by omega
     have w0:w≠0:=by omega
     exact⟨⟨by omega,by omega⟩,by omega,fun _=>⟨rfl,hm⟩,fun _=>s0,fun _=>w0,fun q=>⟨(),⟨rfl,rfl⟩,hno (by simpa using q)⟩,fun q=>⟨i+1,⟨rfl,rfl,rfl,rfl,rfl,rfl,rfl,rfl,rfl⟩,⟨hd,by omega,hyes (by simpa using q)⟩,by omega,fun _ z=>z,fun _ z=>z⟩⟩
   · have g:¬ (i:Int)<m.length:=of_decide_eq_false g
     have:i=m.length:=by omega
     subst this
     exact⟨(),rfl,zcf.2 hb⟩
 · rw[yab]
   exact⟨⟨rfl,by unfold SzR;decide⟩,fun q=>⟨by simp at q;simp[zaj,q],rfl⟩,fun q=>⟨0,⟨rfl,rfl,rfl,rfl,rfl,rfl,rfl,rfl,rfl⟩,⟨by simpa using q,by omega,fun j hj=>absurd hj (Nat.not_lt_zero _)⟩,fun _ z=>⟨by simp at q;simp[zaj,q,z],rfl⟩,fun _ z=>⟨by simp[zaj,z],rfl⟩⟩⟩
theorem ywn:Sound Tryz.prog 183 (zad [tlP] [bl] (fun t=>some (TlR t)) (zaj false)):=by
 refine zbf mixed Tryz.func183 (by kernel_rfl) (b:=zak Tryz.f183 0) (k:=4) (by kernel_rfl) (by kernel_rfl) (by kernel_rfl) zzq (fun t h => ?_)
 obtain⟨s,w,m⟩:Tl:=t
 obtain⟨h1,h2,h,h4⟩:I64 s∧I64 w∧SzR m.length∧∀e ∈ m,EnR e:=h
 have hs:m.length≤2097152:=h
 refine⟨.one 4 (yme false 155 s w m),yme false 155 s w m,fun i:Nat=>m.length-i,za1 _ _,fun  (i:Nat) hi=>zae (zvn s w m i) ?_,zae (yea s w m) ?_⟩
 all_goals (try conv=>zeta)
 · obtain⟨hd,hi,hb⟩:zcb s w m=true∧i≤m.length∧∀j,j<i→zlb false s w j (m.getD j zE)=true:=hi
   obtain⟨g1,g2,g3,g4⟩:=zgz hd
   refine⟨fun g => ?_,fun g => ?_⟩
   · have g:(i:Int)<m.length:=of_decide_eq_true g
     have hlt:i<m.length:=by omega
     have hm:=h4 _ (zma hlt zE)
     rw[zbn h hlt,show 0+(i:Int).toNat=i by omega,show El.zero shE=zE from rfl]
     have hno:=fun q=>zq0 (p:=false) (s:=s) (w:=w) hlt q
     have hyes:=fun q=>zm8 (p:=false) (s:=s) (w:=w) (m:=m) hb q
     generalize m.getD i zE=e at *
     obtain⟨a,b,c,d,k,f⟩:=e
     have hz:=yvi (a,b,c,d,k,f)
     have hc:=zm1 (p:=false) (s:=s) (w:=w) (i:=i) (e:=(a,b,c,d,k,f)) g2 (by omega)
     simp only at hz hc
     rw[hz,hc]
     have s0:s≠0:=by omega
     have w0:w≠0:=by omega
     exact⟨⟨by omega,by omega⟩,by omega,fun _=>⟨rfl,hm⟩,fun _=>s0,fun _=>w0,fun q=>⟨(),⟨rfl,rfl⟩,hno (by simpa using q)⟩,fun q=>⟨i+1,⟨rfl,rfl,rfl,rfl,rfl,rfl,rfl,rfl,rfl⟩,⟨hd,by omega,hyes (by simpa using q)⟩,by omega,fun _ z=>z,fun _ z=>z⟩⟩
   · have g:¬ (i:Int)<m.length:=of_decide_eq_false g
     have:i=m.length:=by omega
     subst this
     exact⟨(),rfl,zcf.2 hb⟩
 · rw[yab]
   exact⟨⟨rfl,by unfold SzR;decide⟩,fun q=>⟨by simp at q;simp[zaj,q],rfl⟩,fun q=>⟨0,⟨rfl,rfl,rfl,rfl,rfl,rfl,rfl,rfl,rfl⟩,⟨by simpa using q,by omega,fun j hj=>absurd hj (Nat.not_lt_zero _)⟩,fun _ z=>⟨by simp at q;simp[zaj,q,z],rfl⟩,fun _ z=>⟨by simp[zaj,z],rfl⟩⟩⟩
theorem yv5:Sound Tryz.prog 40 (zad [tlP,bl] [bl] (fun t=>some (TlR t.1)) (fun t=>zaj t.2 t.1)):=by
 refine zbf mixed Tryz.func40 (by kernel_rfl) (b:=zak Tryz.f40 0) (k:=4) (by kernel_rfl) (by kernel_rfl) (by kernel_rfl) zzq (fun t h => ?_)
 obtain⟨⟨s,w,m⟩,p⟩:Tl × Bool:=t
 obtain⟨h1,h2,h,h4⟩:I64 s∧I64 w∧SzR m.length∧∀e ∈ m,EnR e:=h
 have hs:m.length≤2097152:=h
 refine⟨.one 4 (yi7 p s w m),yi7 p s w m,fun i:Nat=>m.length-i,za1 _ _,fun  (i:Nat) hi=>zae (zvf s w m p i) ?_,zae (yd0 s w m p) ?_⟩
 all_goals (try conv=>zeta)
 · obtain⟨hd,hi,hb⟩:zcb s w m=true∧i≤m.length∧∀j,j<i→zlb p s w j (m.getD j zE)=true:=hi
   obtain⟨g1,g2,g3,g4⟩:=zgz hd
   refine⟨fun g => ?_,fun g => ?_⟩
   · have g:(i:Int)<m.length:=of_decide_eq_true g
     have hlt:i<m.length:=by omega
     have hm:=h4 _ (zma hlt zE)
     rw[zbn h hlt,show 0+(i:Int).toNat=i by omega,show El.zero shE=zE from rfl]
     have hno:=fun q=>zq0 (p:=p) (s:=s) (w:=w) hlt q
     have hyes:=fun q=>zm8 (p:=p) (s:=s) (w:=w) (m:=m) hb q
     generalize m.getD i zE=e at *
     obtain⟨a,b,c,d,k,f⟩:=e
     have hz:=yvi (a,b,c,d,k,f)
     have hc:=zm1 (p:=p) (s:=s) (w:=w) (i:=i) (e:=(a,b,c,d,k,f)) g2 (by omega)
     simp only at hz hc
     rw[hz,hc]
     have s0:s≠0:=by omega
     have w0:w≠0:=by omega
     exact⟨⟨by omega,by omega⟩,by omega,fun _=>hm,fun _=>s0,fun _=>w0,fun q=>⟨(),⟨rfl,rfl⟩,hno (by simpa using q)⟩,fun q=>⟨i+1,⟨rfl,rfl,rfl,rfl,rfl,rfl,rfl⟩,⟨hd,by omega,hyes (by simpa using q)⟩,by omega,fun _ z=>z,fun _ z=>z⟩⟩
   · have g:¬ (i:Int)<m.length:=of_decide_eq_false g
     have:i=m.length:=by omega
     subst this
     exact⟨(),rfl,zcf.2 hb⟩
 · rw[ygn]
   exact⟨fun q=>⟨by simp at q;simp[zaj,q],rfl⟩,fun q=>⟨0,⟨rfl,rfl,rfl,rfl,rfl,rfl,rfl⟩,⟨by simpa using q,by omega,fun j hj=>absurd hj (Nat.not_lt_zero _)⟩,fun _ z=>⟨by simp at q;simp[zaj,q,z],rfl⟩,fun _ z=>⟨by simp[zaj,z],rfl⟩⟩⟩
theorem yo9{p:Bool}{t:Tl}(h:zaj p t=true){i:Nat}(hi:i<t.2.2.length)(hv:(t.2.2.getD i zE).1=true):LvR (t.2.2.getD i zE).2.1:=by
 simp only[zaj,Bool.and_eq_true] at h
 have:=zcf.1 h.2 i hi
 simp only[zlb,Bool.or_eq_true,Bool.and_eq_true] at this
 rcases this with e|e
 · have e:t.2.2.getD i zE=zE:=by simpa using e
   rw[e] at hv
   cases hv
 · have:=e.1
   simp only[zb2,Bool.and_eq_true] at this
   exact zed.1 this.1.1.1.1.2
theorem zl2{t:Tl}(h:za8 t=true){i:Nat}(hi:i<t.2.2.length)(hv:(t.2.2.getD i zE).1=true):LvR (t.2.2.getD i zE).2.1:=by
 simp only[za8,Bool.or_eq_true] at h
 rcases h with h|h<;>exact yo9 h hi hv
theorem yuk:Sound Tryz.prog 98 (zad [tlP,u64,u64] [yxw] (fun t=>some (za8 t.1=true∧TlR t.1∧U64 t.2.1)) (fun t=>za0 t.2.1 t.2.2 t.1.2.2)):=by
 refine zbf mixed Tryz.func98 (by kernel_rfl) (b:=zak Tryz.f98 0) (k:=3) (by kernel_rfl) (by kernel_rfl) (by kernel_rfl) zzq (fun t h => ?_)
 obtain⟨⟨s,w,m⟩,va,asid⟩:Tl × Int × Int:=t
 obtain⟨h0,⟨h1,h2,h,h4⟩,h5⟩:za8 (s,w,m)=true∧(I64 s∧I64 w∧SzR m.length∧∀e ∈ m,EnR e)∧U64 va:=h
 have hs:m.length≤2097152:=h
 refine⟨.one 3 (yf5 va asid m),yf5 va asid m,fun i:Nat=>m.length-i,za1 _ _,fun  (i:Nat) hi=>zae (zub va asid m i) ?_,zae (ydb s w m va asid) ?_⟩
 all_goals (try conv=>zeta)
 · have hi:i≤m.length:=hi
   refine⟨fun g => ?_,fun g => ?_⟩
   · have g:(i:Int)<m.length:=of_decide_eq_true g
     have hlt:i<m.length:=by omega
     have hlv:=zl2 h0 hlt
     simp only at hlv
     have hnext:zd5 va asid m (i+1)=zc3 va asid (zd5 va asid m i) i (m.getD i zE):=rfl
     rw[zbn h hlt,show 0+(i:Int).toNat=i by omega,show El.zero shE=zE from rfl]
     generalize m.getD i zE=e at *
     obtain⟨a,b,c,d,k,f⟩:=e
     simp only[Bool.cond_true_left,Bool.cond_false_right]
     refine⟨⟨by omega,by omega⟩,by omega,fun q=>⟨h5,hlv q⟩,fun q=>⟨i+1,⟨trivial,trivial,trivial,trivial,trivial,rfl,trivial,trivial,trivial,trivial,trivial, ?_⟩,by omega,by omega,fun _ _=>trivial⟩,fun q=>⟨i+1,⟨trivial,trivial,trivial,trivial,trivial,rfl,trivial,trivial,trivial,trivial,trivial, ?_⟩,by omega,by omega,fun _ _=>trivial⟩⟩
     · rw[hnext]
       unfold zc3
       rw[if_pos (by unfold zdm;exact q)]
       exact⟨rfl,rfl,rfl,rfl⟩
     · rw[hnext]
       unfold zc3
       rw[if_neg (by unfold zdm;rw[q];decide)]
       exact⟨rfl,rfl,rfl,rfl⟩
   · have g:¬ (i:Int)<m.length:=of_decide_eq_false g
     have:i=m.length:=by omega
     subst this
     exact⟨(),⟨rfl,rfl,rfl,rfl,rfl,rfl,rfl,rfl,rfl⟩,trivial⟩
 · exact⟨0,⟨rfl,rfl,rfl,rfl,rfl,rfl,rfl,rfl,rfl,rfl,rfl,rfl,rfl,rfl,rfl⟩,by omega,fun _ _=>⟨rfl,rfl,rfl,rfl,rfl⟩⟩
theorem yru:zar Tryz.prog kF3 := .cons (by kernel_rfl) ywo <| .cons (by kernel_rfl) ywn <| .cons (by kernel_rfl) yv5 <| .cons (by kernel_rfl) yuk yrt
theorem yqx:DictOk Tryz.prog FF3:=zaw ((yru.append zkk).append zcy) .nil .nil
theorem yuu:Sound Tryz.prog 195 (zad [tlP,bl] [bl] (fun t=>some (TlR t.1)) (fun t=>zaj t.2 t.1)):=by
 refine zab mixed Tryz.func195 (by kernel_rfl) (by kernel_rfl) yqx (fun t h => ?_)
 obtain⟨⟨s,w,m⟩,p⟩:Tl × Bool:=t
 have h:TlR (s,w,m):=h
 refine zae (ydh s w m p) ⟨fun g => ?_,fun g => ?_⟩<;>subst g<;>exact⟨⟨rfl,h⟩,rfl,rfl⟩
theorem yfw:Sound Tryz.prog 89 (zad [tlP] [bl] (fun t=>some (TlR t)) za8):=by
 refine zab mixed Tryz.func89 (by kernel_rfl) (by kernel_rfl) yqx (fun t h => ?_)
 obtain⟨s,w,m⟩:Tl:=t
 have h:TlR (s,w,m):=h
 refine zae (zt7 s w m) ⟨⟨rfl,h⟩,fun _=>⟨rfl,h⟩, ?_,rfl⟩
 rw[Bool.cond_true_left]
 rfl
theorem zs0:zar Tryz.prog kF4 := .cons (by kernel_rfl) yuu <| .cons (by kernel_rfl) yfw <| yru
theorem zos:DictOk Tryz.prog FF4:=zaw ((zs0.append zkk).append zcy) .nil .nil
theorem yxp{e:En}(h:ymm shE e):EnR e:=by
 obtain⟨a,b,c,d,k,f⟩:=e
 obtain⟨_,h1,h2,h3,_,h4⟩:=h
 exact⟨zhd h1,zjl h2,zjl h3,zjl h4⟩
theorem yi8{n:Nat}{k:Int}(hk:k≤1048576)(h:¬ szM n k<0):SzR n:=by
 unfold szM at h
 unfold SzR
 split at h<;>omega
end Go.Proofs.YtfiddfbagbaofaaGreat.V
