/- Valid caches, and finding in them, answer as their models. Conditions: those in each statement. -/
import Derived.Test.YtfiddfbagbaofaaGreatGE
import Derived.KernelRfl
namespace Go.Proofs.YtfiddfbagbaofaaGreat.V
open Go
def EnR(e:En):Prop:=I64 e.2.1∧U64 e.2.2.1∧U64 e.2.2.2.1∧U64 e.2.2.2.2.2
def TlR(t:Tl):Prop:=I64 t.1∧I64 t.2.1∧SzR t.2.2.length∧∀e ∈ t.2.2,EnR e
def zuy(ptr:Bool):Int:=if ptr=true then 1 else 2
def zcd(ptr:Bool)(e:En):Bool:=e.1&&lvM e.2.1&&decide (e.2.2.1<2 ^ (9-3*e.2.1).toNat)&&decide (e.2.2.2.1≤65535)&&(e.2.2.2.2.1==za0 e.2.2.2.2.2 5)&&(za7 e.2.2.2.2.2 e.2.1==zuy ptr)
def zk3(ptr:Bool)(s w:Int)(i:Nat)(e:En):Bool:=e==zE||(zcd ptr e&&(IntKind.i64.wrap e.2.2.1).tmod s==((i:Int).tdiv w))
def zh7(ptr:Bool)(s w:Int)(m:Es):Bool:=(List.range m.length).all fun i=>zk3 ptr s w i (m.getD i zE)
def zcf(s w:Int)(m:Es):Bool:=(s==1||s==2||s==4||s==8)&&decide (1≤w)&&decide (w≤4)&&(m.length:Int)==s*w
def zaj(ptr:Bool)(t:Tl):Bool:=zcf t.1 t.2.1 t.2.2&&zh7 ptr t.1 t.2.1 t.2.2
def za4(t:Tl):Bool:=zaj true t||zaj false t
def zc0(e:En)(va asid:Int):Bool:=e.1&&(e.2.2.1==zkk va e.2.1)&&(e.2.2.2.2.1||e.2.2.2.1==asid)
abbrev stP:Pm := .st []
def FE3:Dict:=mkD (kE3++kA4) [] []
def yih(k:Int):Prop:=zal Tryz.prog F0 .none Tryz.f264 [stP,i64] [bl] ((),k) (k==1)
def yig(k:Int):Prop:=zal Tryz.prog F0 .none Tryz.f263 [stP,i64] [bl] ((),k) (k==2)
def yik(a:Bool)(b c d:Int)(e:Bool)(f:Int)(p:Bool):Prop:=zal Tryz.prog FE3 .none Tryz.f92 [enP,bl] [bl] ((a,b,c,d,e,f),p) (zcd p (a,b,c,d,e,f))
def yij(a:Bool)(b c d:Int)(e:Bool)(f:Int)(va asid:Int):Prop:=zal Tryz.prog FE3 .none Tryz.f90 [enP,u64,u64] [bl] ((a,b,c,d,e,f),va,asid) (zc0 (a,b,c,d,e,f) va asid)
def kF1:Known:=[
 (264,zag [stP,i64] [bl] (fun _=>none) (fun t=>t.2==1)),
 (263,zag [stP,i64] [bl] (fun _=>none) (fun t=>t.2==2)),
 (92,zag [enP,bl] [bl] (fun t=>some (EnR t.1)) (fun t=>zcd t.2 t.1)),
 (90,zag [enP,u64,u64] [bl] (fun t=>some (EnR t.1∧(t.1.1=true→LvR t.1.2.1)∧U64 t.2.1)) (fun t=>zc0 t.1 t.2.1 t.2.2))]
def FF1:Dict:=mkD (kF1++kE3++kA4) [] []
def ymp(s w:Int)(m:Es)(a:Bool)(b c d:Int)(e:Bool)(f:Int):Prop:=zal Tryz.prog FF1 .none Tryz.f186 [tlP,enP] [bl] ((s,w,m),(a,b,c,d,e,f)) (zcd true (a,b,c,d,e,f))
def ymo(s w:Int)(m:Es)(a:Bool)(b c d:Int)(e:Bool)(f:Int):Prop:=zal Tryz.prog FF1 .none Tryz.f184 [tlP,enP] [bl] ((s,w,m),(a,b,c,d,e,f)) (zcd false (a,b,c,d,e,f))
def kF2:Known:=[
 (186,zag [tlP,enP] [bl] (fun t=>some (EnR t.2)) (fun t=>zcd true t.2)),
 (184,zag [tlP,enP] [bl] (fun t=>some (EnR t.2)) (fun t=>zcd false t.2))]++kF1
def FF2:Dict:=mkD (kF2++kE3++kA4) [] []
def yjv(ptr:Bool)(ty:TypeId)(s w:Int)(m:Es):LoopS where
 α:=Nat
 I i:=zcf s w m=true∧i≤m.length∧∀j,j<i→zk3 ptr s w j (m.getD j zE)=true
 sl i:=slots 71 [(1,.ptr 1 0),(39,.sl 0 6 0 m.length),(40,.v (.int .i64 m.length)),(41,.v (.int .i64 i))]
 H _:=[.arr shE m false,.fix [.v (.int .i64 s),.v (.int .i64 w),.sl 0 6 0 m.length] true (some ty)]
 fams:=[{ β:=Unit,out:=fun _ _=>zh7 ptr s w m=true,ex := .ext 0,sl:=fun _=>slots 71 [],H:=fun _=>[.arr shE m false] },
  { β:=Unit,out:=fun _ _=>zh7 ptr s w m=false,ex := .ret,sl:=fun _=>slots 71 [(2,.v (.bool false))],H:=fun _=>[.arr shE m false] }]
def yja(s w:Int)(m:Es)(i:Nat):Prop:=zax Tryz.prog FF2 (.one 4 (yjv true 159 s w m)) 1 (zai Tryz.f185 0) (yjv true 159 s w m) (fun i:Nat=>m.length-i) i
def ytc(s w:Int)(m:Es):Prop:=zal Tryz.prog FF2 (.one 4 (yjv true 159 s w m)) Tryz.f185 [tlP] [bl] (s,w,m) (zaj true (s,w,m))
def yi9(s w:Int)(m:Es)(i:Nat):Prop:=zax Tryz.prog FF2 (.one 4 (yjv false 155 s w m)) 1 (zai Tryz.f183 0) (yjv false 155 s w m) (fun i:Nat=>m.length-i) i
def ytb(s w:Int)(m:Es):Prop:=zal Tryz.prog FF2 (.one 4 (yjv false 155 s w m)) Tryz.f183 [tlP] [bl] (s,w,m) (zaj false (s,w,m))
def yhg(ptr:Bool)(s w:Int)(m:Es):LoopS where
 α:=Nat
 I i:=zcf s w m=true∧i≤m.length∧∀j,j<i→zk3 ptr s w j (m.getD j zE)=true
 sl i:=slots 80 [(1,.v (.bool ptr)),(2,.ptr 1 0),(5,.v (.int .i64 i))]
 H _:=[.arr shE m false,.fix [.v (.int .i64 s),.v (.int .i64 w),.sl 0 6 0 m.length] true (some 37)]
 fams:=[{ β:=Unit,out:=fun _ _=>zh7 ptr s w m=true,ex := .ext 0,sl:=fun _=>slots 80 [],H:=fun _=>[.arr shE m false] },
  { β:=Unit,out:=fun _ _=>zh7 ptr s w m=false,ex := .ret,sl:=fun _=>slots 80 [(4,.v (.bool false))],H:=fun _=>[.arr shE m false] }]
def yi5(s w:Int)(m:Es)(p:Bool)(i:Nat):Prop:=zax Tryz.prog FF2 (.one 4 (yhg p s w m)) 1 (zai Tryz.f40 0) (yhg p s w m) (fun i:Nat=>m.length-i) i
def ys9(s w:Int)(m:Es)(p:Bool):Prop:=zal Tryz.prog FF2 (.one 4 (yhg p s w m)) Tryz.f40 [tlP,bl] [bl] ((s,w,m),p) (zaj p (s,w,m))
abbrev Hi:=Bool × Int × Int × Int
def zcv(va asid:Int)(o:Hi)(i:Nat)(e:En):Hi:=if (zc0 e va asid&&(!o.1||decide (e.2.1<o.2.2.1)))=true then (true,(i:Int),e.2.1,e.2.2.2.2.2) else o
def zdk(va asid:Int)(m:Es):Nat→Hi
 | 0=>(false,0,0,0)
 | i+1=>zcv va asid (zdk va asid m i) i (m.getD i zE)
def zau(va asid:Int)(m:Es):Hi:=zdk va asid m m.length
def zy2(o:Hi):List Av:=[.v (.bool o.1),.v (.int .i64 o.2.1),.v (.int .i64 o.2.2.1),.v (.int .u64 o.2.2.2)]
def yei(va asid:Int)(m:Es):LoopS where
 α:=Nat
 I i:=i≤m.length
 sl i:=slots 59 [(1,.v (.int .u64 va)),(2,.v (.int .u64 asid)),(6,.ptr 1 0),(7,.ptr 2 0),(11,.sl 0 6 0 m.length),(12,.v (.int .i64 m.length)),(13,.v (.int .i64 i))]
 H i:=[.arr shE m false,.fix (zy2 (false,0,0,0)) true (some 52),.fix (zy2 (zdk va asid m i)) true (some 52)]
 fams:=[{ β:=Unit,out:=fun _ _=>True,ex := .ext 0,sl:=fun _=>slots 59 [(6,.ptr 1 0),(7,.ptr 2 0)],H:=fun _=>[.arr shE m false,.fix (zy2 (false,0,0,0)) true (some 52),.fix (zy2 (zau va asid m)) true (some 52)] }]
def yh8(va asid:Int)(m:Es)(i:Nat):Prop:=zax Tryz.prog FF2 (.one 3 (yei va asid m)) 1 (zai Tryz.f98 0) (yei va asid m) (fun i:Nat=>m.length-i) i
def ysp(s w:Int)(m:Es)(va asid:Int):Prop:=zal Tryz.prog FF2 (.one 3 (yei va asid m)) Tryz.f98 [tlP,u64,u64] [yku] ((s,w,m),va,asid) (zau va asid m)
def kF3:Known:=[
 (185,zag [tlP] [bl] (fun t=>some (TlR t)) (zaj true)),
 (183,zag [tlP] [bl] (fun t=>some (TlR t)) (zaj false)),
 (40,zag [tlP,bl] [bl] (fun t=>some (TlR t.1)) (fun t=>zaj t.2 t.1)),
 (98,zag [tlP,u64,u64] [yku] (fun t=>some (za4 t.1=true∧TlR t.1∧U64 t.2.1)) (fun t=>zau t.2.1 t.2.2 t.1.2.2))]++kF2
def FF3:Dict:=mkD (kF3++kE3++kA4) [] []
def yst(s w:Int)(m:Es)(p:Bool):Prop:=zal Tryz.prog FF3 .none Tryz.f195 [tlP,bl] [bl] ((s,w,m),p) (zaj p (s,w,m))
def yta(s w:Int)(m:Es):Prop:=zal Tryz.prog FF3 .none Tryz.f97 [tlP] [bl] (s,w,m) (za4 (s,w,m))
def yh1(s w:Int)(m:Es):Prop:=zal Tryz.prog FF3 .none Tryz.f89 [tlP] [bl] (s,w,m) (za4 (s,w,m))
def kF4:Known:=[
 (195,zag [tlP,bl] [bl] (fun t=>some (TlR t.1)) (fun t=>zaj t.2 t.1)),
 (97,zag [tlP] [bl] (fun t=>some (TlR t)) za4),
 (89,zag [tlP] [bl] (fun t=>some (TlR t)) za4),
 ]++kF3
def FF4:Dict:=mkD (kF4++kE3++kA4) [] []
set_option linter.unusedVariables false
theorem ztx(k:Int):yih k=(
 (k==(1:Int))=(k==(1:Int))):=by kernel_rfl
theorem ztw(k:Int):yig k=(
 (k==(2:Int))=(k==(2:Int))):=by kernel_rfl
theorem zt0(a:Bool)(b c d:Int)(e:Bool)(f:Int)(p:Bool):yik a b c d e f p=(
 let A0(a b:Bool):=bif a then b else false;
 let A1(a:Int):=IntKind.i64.wrap a;
 let A2:=A0 (A0 a (decide (b≥0))) (decide (b≤2));
 let A3:=(9:Int)-A1 ((3:Int)*b);
 let A4:=A0 (A0 A2 (decide (c<(pw (A1 A3))))) (decide (d≤65535));
 let A5(a:Bool)(b c:Prop):=(a=true→b)∧c;
 let A6(g:Int):=A5 A2 (A1 A3≤(64:PmT [i64])) (A5 A4 (zhw (f,5)) (A5 (A0 A4 (e==za0 f 5)) (U64 f) (zcd p (a,b,c,d,e,f)=A0 (A0 A4 (e==za0 f 5)) (za7 f b==g))));
 A5 p (A6 1) (p=false→A6 2)):=by kernel_rfl
theorem ztz(a:Bool)(b c d:Int)(e:Bool)(f:Int)(va asid:Int):yij a b c d e f va asid=(
 (a=true→U64 va∧LvR b)∧zc0 (a,b,c,d,e,f) va asid=bif bif a then c==zkk va b else false then bif e then true else d==asid else false):=by kernel_rfl
theorem zw3(s w:Int)(m:Es)(a:Bool)(b c d:Int)(e:Bool)(f:Int):ymp s w m a b c d e f=(
 let A0(a b:Bool):=bif a then b else false;
 let A1:=decide (d≤65535);
 let A2(a b c:Bool):=A0 (A0 a b) c;
 let A3:=IntKind.i64.wrap ((9:Int)-IntKind.i64.wrap ((3:Int)*b));
 let A4:=decide (c<(IntKind.u64.wrap ((1:Int)*2 ^ (min A3.toNat 64))));
 let A5:=A2 (A2 a (lvM b) A4) A1 (e==za0 f 5);
 (A0 a (lvM b)=true→0≤A3)∧(A0 (A2 a (lvM b) A4) A1=true→zhw (f,5))∧(A5=true→U64 f)∧zcd true (a,b,c,d,e,f)=A0 A5 (za7 f b==(1:PmT [i64]))∧m=m):=by kernel_rfl
theorem zw2(s w:Int)(m:Es)(a:Bool)(b c d:Int)(e:Bool)(f:Int):ymo s w m a b c d e f=(
 let A0(a b:Bool):=bif a then b else false;
 let A1:=decide (d≤65535);
 let A2(a b c:Bool):=A0 (A0 a b) c;
 let A3:=IntKind.i64.wrap ((9:Int)-IntKind.i64.wrap ((3:Int)*b));
 let A4:=decide (c<(IntKind.u64.wrap ((1:Int)*2 ^ (min A3.toNat 64))));
 let A5:=A2 (A2 a (lvM b) A4) A1 (e==za0 f 5);
 (A0 a (lvM b)=true→0≤A3)∧(A0 (A2 a (lvM b) A4) A1=true→zhw (f,5))∧(A5=true→U64 f)∧zcd false (a,b,c,d,e,f)=A0 A5 (za7 f b==(2:PmT [i64]))∧m=m):=by kernel_rfl
theorem zuo(s w:Int)(m:Es)(i:Nat):yja s w m i=(
 let A0:=(0:Nat)+(↑i:Int).toNat;
 let A1:=(List.getD m A0 (El.zero shE)).snd;
 let A2:=List.length m;
 let A3:=A1.snd.snd;
 let A4:=(↑i:Int);
 let A5:=A1.snd.fst;
 let A6:=zh7 true s w m;
 let A7:=(List.getD m A0 (El.zero shE)).fst;
 let A8:=(0:Nat)=0;
 let A9(a:Bool):=a=true;
 let Aa(a b c:Prop):=a∧b∧c;
 let Ab(a b c d e:Prop):=Aa a b (Aa c d e);
 let Ac:=(A7,A1.fst,A5,A3.fst,A3.snd.fst,A3.snd.snd);
 let Ad:=A7==false&&(A1.fst==0&&(A5==0&&(A3.fst==0&&(A3.snd.fst==false&&(A3.snd.snd==0&&true)))));
 let Ae:=decide (A4<(↑A2:Int));
 let Af:=A6=false;
 let Ah(a:Int):=(match (!Ad),(!!zcd true Ac) with|true,y=>y|false,x=>false)=true→a≠0;
 let Ai:=bif !Ad then bif !zcd true Ac then true else (IntKind.i64.wrap A5).tmod s != IntKind.i64.wrap (A4.tdiv w) else false;
 (A9 Ae→Aa ((0:Int)≤A4∧A4<(↑A2:Int)) (A0<A2) (Ab (A9 (!Ad)→A2=A2∧EnR Ac) (Ah s) (Ah w) (A9 Ai→∃(x0:Unit),(false=false∧m=m)∧Af) (Ai=false→∃(x1:Nat),Ab (Ab A8 (A2=A2) ((↑A2:Int)=(↑A2:Int))
  ((↑x1:Int)=IntKind.i64.wrap (A4+1)) (Ab (m=m) (s=s) (w=w) A8 (A2=A2))) (Aa (A9 (zcf s w m)) (x1≤A2) (∀(x2:Nat),x2<x1→A9 (zk3 true s w x2 (List.getD m x2 zE)))) (A2-x1<A2-i) (∀(x3:Unit),
  A9 A6→A9 A6) (∀(x4:Unit),Af→Af))))∧(Ae=false→∃(x5:Unit),m=m∧A9 A6)):=by kernel_rfl
theorem ycl(s w:Int)(m:Es):ytc s w m=(
 let A0:=List.length m;
 let A1(a b:Bool):=bif a then true else b;
 let A2:=(↑A0:Int);
 let A3:=(0:Nat)=0;
 let A4:=(1:Int)::2::4::8::[];
 let A5(a:Bool):=a=true;
 let A6(a b c:Prop):=a∧b∧c;
 let A7:=zaj true (s,w,m)=false;
 let A8:=A1 (A1 (A1 (!yjs A4 s) (decide (w<1))) (decide (w>4))) (A2 != IntKind.i64.wrap (s*w));
 let A9:=zh7 true s w m;
 A6 ((4:Nat)=4∧SzR A4.length) (A5 A8→A7∧m=m) (A8=false→∃(x0:Nat),A6 A3 (A0=A0) (A6 (A2=A2) ((↑x0:Int)=0) (A6 (m=m) (s=s) (A6 (w=w) A3 (A0=A0))))∧A6 (A6 (A5 (zcf s w m)) (x0≤A0) (∀
  (x1:Nat),x1<x0→A5 (zk3 true s w x1 (List.getD m x1 zE)))) (∀(x2:Unit),A5 A9→A5 (zaj true (s,w,m))∧m=m) (∀(x3:Unit),A9=false→A7∧m=m))):=by kernel_rfl
theorem zun(s w:Int)(m:Es)(i:Nat):yi9 s w m i=(
 let A0:=(0:Nat)+(↑i:Int).toNat;
 let A1:=(List.getD m A0 (El.zero shE)).snd;
 let A2:=List.length m;
 let A3:=A1.snd.snd;
 let A4:=(↑i:Int);
 let A5:=A1.snd.fst;
 let A6:=zh7 false s w m;
 let A7(a:Bool):=a=true;
 let A8:=(List.getD m A0 (El.zero shE)).fst;
 let A9:=(0:Nat)=0;
 let Aa(a b c:Prop):=a∧b∧c;
 let Ab(a b c d e:Prop):=Aa a b (Aa c d e);
 let Ac:=(A8,A1.fst,A5,A3.fst,A3.snd.fst,A3.snd.snd);
 let Ad:=A8==false&&(A1.fst==0&&(A5==0&&(A3.fst==0&&(A3.snd.fst==false&&(A3.snd.snd==0&&true)))));
 let Ae:=decide (A4<(↑A2:Int));
 let Af:=A6=false;
 let Ah(a:Int):=(match (!Ad),(!!zcd false Ac) with|true,y=>y|false,x=>false)=true→a≠0;
 let Ai:=bif !Ad then bif !zcd false Ac then true else (IntKind.i64.wrap A5).tmod s != IntKind.i64.wrap (A4.tdiv w) else false;
 (A7 Ae→Aa ((0:Int)≤A4∧A4<(↑A2:Int)) (A0<A2) (Ab (A7 (!Ad)→A2=A2∧EnR Ac) (Ah s) (Ah w) (A7 Ai→∃(x0:Unit),(false=false∧m=m)∧Af) (Ai=false→∃(x1:Nat),Ab (Ab A9 (A2=A2) ((↑A2:Int)=(↑A2:Int))
  ((↑x1:Int)=IntKind.i64.wrap (A4+1)) (Ab (m=m) (s=s) (w=w) A9 (A2=A2))) (Aa (A7 (zcf s w m)) (x1≤A2) (∀(x2:Nat),x2<x1→A7 (zk3 false s w x2 (List.getD m x2 zE)))) (A2-x1<A2-i) (∀(x3:Unit),
  A7 A6→A7 A6) (∀(x4:Unit),Af→Af))))∧(Ae=false→∃(x5:Unit),m=m∧A7 A6)):=by kernel_rfl
theorem yck(s w:Int)(m:Es):ytb s w m=(
 let A0:=List.length m;
 let A1(a b:Bool):=bif a then true else b;
 let A2:=(↑A0:Int);
 let A3:=(0:Nat)=0;
 let A4:=(1:Int)::2::4::8::[];
 let A5(a:Bool):=a=true;
 let A6(a b c:Prop):=a∧b∧c;
 let A7:=zh7 false s w m;
 let A8:=A1 (A1 (A1 (!yjs A4 s) (decide (w<1))) (decide (w>4))) (A2 != IntKind.i64.wrap (s*w));
 let A9:=zaj false (s,w,m)=false;
 A6 ((4:Nat)=4∧SzR A4.length) (A5 A8→A9∧m=m) (A8=false→∃(x0:Nat),A6 A3 (A0=A0) (A6 (A2=A2) ((↑x0:Int)=0) (A6 (m=m) (s=s) (A6 (w=w) A3 (A0=A0))))∧A6 (A6 (A5 (zcf s w m)) (x0≤A0) (∀
  (x1:Nat),x1<x0→A5 (zk3 false s w x1 (List.getD m x1 zE)))) (∀(x2:Unit),A5 A7→A5 (zaj false (s,w,m))∧m=m) (∀(x3:Unit),A7=false→A9∧m=m))):=by kernel_rfl
theorem zum(s w:Int)(m:Es)(p:Bool)(i:Nat):yi5 s w m p i=(
 let A0:=(0:Nat)+(↑i:Int).toNat;
 let A1:=(List.getD m A0 (El.zero shE)).snd;
 let A2:=A1.snd.snd;
 let A3:=List.length m;
 let A4:=(↑i:Int);
 let A5:=A1.snd.fst;
 let A6(a:Bool):=zh7 p s w m=a;
 let A7:=(List.getD m A0 (El.zero shE)).fst;
 let A8:=(A1.fst,A5,A2.fst,A2.snd.fst,A2.snd.snd);
 let A9(a b c:Prop):=a∧b∧c;
 let Aa:=A7==false&&(A1.fst==0&&(A5==0&&(A2.fst==0&&(A2.snd.fst==false&&(A2.snd.snd==0&&true)))));
 let Ab:=decide (A4<(↑A3:Int));
 let Ac(a:Bool)(b:Prop):=a=true→b;
 let Ad:=bif !Aa then bif !zcd p (A7,A8) then true else (IntKind.i64.wrap A5).tmod s != IntKind.i64.wrap (A4.tdiv w) else false;
 let Ae(a:Int):=(match (!Aa),(!!zcd p (A7,A8)) with|true,y=>y|false,x=>false)=true→a≠0;
 Ac Ab (A9 ((0:Int)≤A4∧A4<(↑A3:Int)) (A0<A3) (A9 (Ac (!Aa) (EnR (A7,A8))) (Ae s) (A9 (Ae w) (Ac Ad (∃(x0:Unit),(false=false∧m=m)∧A6 false)) (Ad=false→∃(x1:Nat),A9 (A9 (p=p) ((↑x1:Int) =
  IntKind.i64.wrap (A4+1)) (A9 (m=m) (s=s) (A9 (w=w) ((0:Nat)=0) (A3=A3)))) (A9 (zcf s w m=true) (x1≤A3) (∀(x2:Nat),x2<x1→zk3 p s w x2 (List.getD m x2 zE)=true)) (A9 (A3-x1<A3-i) (∀
  (x3:Unit),A6 true→A6 true) (∀(x4:Unit),A6 false→A6 false))))))∧(Ab=false→∃(x5:Unit),m=m∧A6 true)):=by kernel_rfl
theorem yci(s w:Int)(m:Es)(p:Bool):ys9 s w m p=(
 let A0(a b c d e:Bool):=bif bif a then b else c then d else e;
 let A1:=List.length m;
 let A2:=zaj p (s,w,m)=false;
 let A3(a:Bool)(b:Prop):=zh7 p s w m=a→b∧m=m;
 let A4(a:Bool)(b:Prop):=A0 (A0 (A0 (s != 1) (s != 2) false (s != 4) false) (s != 8) false true (decide (w<1))) true (decide (w>4)) true ((↑(List.length m):Int) !=
  IntKind.i64.wrap (s*w))=a→b;
 A4 true (A2∧m=m)∧A4 false (∃(x0:Nat),(p=p∧(↑x0:Int)=0∧m=m∧s=s∧w=w∧(0:Nat)=0∧A1=A1)∧(zcf s w m=true∧x0≤A1∧∀(x1:Nat),x1<x0→zk3 p s w x1 (List.getD m x1 zE) =
  true)∧(∀(x2:Unit),A3 true (zaj p (s,w,m)=true))∧∀(x3:Unit),A3 false A2)):=by kernel_rfl
theorem ztp(va asid:Int)(m:Es)(i:Nat):yh8 va asid m i=(
 let A0:=Int.ofNat 0;
 let A1:=(0:Nat)+(↑i:Int).toNat;
 let A2:=List.getD m A1 (El.zero shE);
 let A3:=List.length m;
 let A4(a:Nat):=(zdk va asid m a).snd;
 let A5:=(↑A3:Int);
 let A6:=(↑i:Int);
 let A7(a b c:Prop):=a∧b∧c;
 let A8(a b:Int)(c d:Prop):=A7 (a=b) c d;
 let A9:=A2.snd.fst;
 let Aa(a b c d:Int)(e:Prop):=A8 a b (c=d) e;
 let Ab(a:Nat):=(A4 a).snd.fst;
 let Ac(a:Nat):=(zdk va asid m a).fst;
 let Ad:=A2.snd.snd.snd;
 let Ae(a:Bool)(b:Prop):=decide (A6<A5)=a→b;
 let Af(a:Nat)(b:Bool)(c:Prop):=Aa va va asid asid (A7 ((0:Nat)=0) (A3=A3) (Aa A5 A5 (↑a:Int) (IntKind.i64.wrap (A6+1)) (A7 (m=m) (false=false) (Aa A0 A0 A0 A0 (A8 A0 A0 (Ac a=b) c)))))∧A7 (a ≤
  A3) (A3-a<A3-i) (∀(x1:Unit),True→True);
 let Ah(a:Bool)(b:Prop):=(bif bif bif A2.fst then A2.snd.snd.fst==zkk va A9 else false then bif Ad.snd.fst then true else Ad.fst==asid else false then bif !Ac i then true else decide (A9<(Ab i)) else false)=a→b;
 let Ai(a b c:Int):=Aa a (A4 i).fst b (Ab i) (c=(A4 i).snd.snd);
 let Aj:=zau va asid m;
 let Ak:=(zau va asid m).snd.snd;
 Ae true (A7 ((0:Int)≤A6∧A6<A5) (A1<A3) (A7 (A2.fst=true→U64 va∧LvR A9) (Ah true (∃(x0:Nat),Af x0 true (A8 (A4 x0).fst A6 (Ab x0=A9) ((A4 x0).snd.snd=Ad.snd.snd)))) (Ah false (∃(x2:Nat),Af x2 (Ac i) (Ai (A4
  x2).fst (Ab x2) (A4 x2).snd.snd)))))∧Ae false (∃(x3:Unit),A7 (m=m) (false=false) (Aa A0 A0 A0 A0 (A8 A0 A0 (Aj.fst=Ac i) (Ai Aj.snd.fst Ak.fst Ak.snd)))∧True)):=by kernel_rfl
theorem ybl(s w:Int)(m:Es)(va asid:Int):ysp s w m va asid=(
 let A0:=Int.ofNat 0;
 let A1:=zau va asid m;
 let A2:=List.length m;
 let A3(a:Int)(b:Prop):=a=0∧b;
 let A4(a:Nat):=(zdk va asid m a).snd.snd;
 let A5:=(↑(List.length m):Int);
 ∃(x0:Nat),(va=va∧asid=asid∧(0:Nat)=0∧A2=A2∧A5=A5∧A3 (↑x0:Int) (m=m∧false=false∧A3 A0 (A3 A0 (A3 A0 ((zdk va asid m x0).fst=false∧A3 (zdk va asid m x0).snd.fst (A3 (A4 x0).fst ((A4
  x0).snd=0)))))))∧x0≤A2∧∀(x1:Unit),True→A1.fst=A1.fst∧A1.snd.fst=A1.snd.fst∧A1.snd.snd.fst=A1.snd.snd.fst∧A1.snd.snd.snd=A1.snd.snd.snd∧m=m):=by kernel_rfl
theorem ybp(s w:Int)(m:Es)(p:Bool):yst s w m p=(
 (p=true→(List.length m=List.length m∧TlR (s,w,m))∧zaj p (s,w,m)=zaj true (s,w,m)∧m=m) ∧
   (p=false→(List.length m=List.length m∧TlR (s,w,m))∧zaj p (s,w,m)=zaj false (s,w,m)∧m=m)):=by kernel_rfl
theorem ycj(s w:Int)(m:Es):yta s w m=(
 (List.length m=List.length m∧TlR (s,w,m)) ∧
   ((!zaj false (s,w,m))=true→List.length m=List.length m∧TlR (s,w,m))∧(za4 (s,w,m)=bif zaj false (s,w,m) then true else zaj true (s,w,m))∧m=m):=by kernel_rfl
theorem zto(s w:Int)(m:Es):yh1 s w m=(
 (List.length m=List.length m∧TlR (s,w,m)) ∧
   ((!zaj true (s,w,m))=true→List.length m=List.length m∧TlR (s,w,m))∧(za4 (s,w,m)=bif zaj true (s,w,m) then true else zaj false (s,w,m))∧m=m):=by kernel_rfl
set_option linter.unusedSimpArgs false
theorem zay.append{P:Program}:∀{l m:List (FuncId × Sum)},zay P l→zay P m→zay P (l++m):=by
 intro l m hl hm p hp
 rcases List.mem_append.1 hp with h|h
 · exact hl p h
 · exact hm p h
theorem yvi:zay Tryz.prog (kE3++kA4):=zj8.append zce
theorem ycz:DictOk Tryz.prog FE3:=za1 yvi .nil .nil
theorem yfg:Sound Tryz.prog 264 (zag [stP,i64] [bl] (fun _=>none) (fun t=>t.2==1)):=by
 refine zad mixed Tryz.func264 (by kernel_rfl) (by kernel_rfl) zee (fun t _ => ?_)
 obtain⟨⟨⟩,k⟩:Unit × Int:=t
 exact zah (ztx k) rfl
theorem yff:Sound Tryz.prog 263 (zag [stP,i64] [bl] (fun _=>none) (fun t=>t.2==2)):=by
 refine zad mixed Tryz.func263 (by kernel_rfl) (by kernel_rfl) zee (fun t _ => ?_)
 obtain⟨⟨⟩,k⟩:Unit × Int:=t
 exact zah (ztw k) rfl
theorem lv_ge(b:Int):(decide (b≥0)&&decide (b≤2))=lvM b:=rfl
theorem yls{b:Int}(h:LvR b):IntKind.i64.wrap (9-IntKind.i64.wrap (3*b))=9-3*b∧pw (9-3*b)=2 ^ (9-3*b).toNat∧(9-3*b).toNat≤9∧0≤9-3*b∧9-3*b≤64:=by
 rcases zcp h with rfl|rfl|rfl<;>decide
theorem yfk:Sound Tryz.prog 92 (zag [enP,bl] [bl] (fun t=>some (EnR t.1)) (fun t=>zcd t.2 t.1)):=by
 refine zad mixed Tryz.func92 (by kernel_rfl) (by kernel_rfl) ycz (fun t h => ?_)
 obtain⟨⟨a,b,c,d,e,f⟩,p⟩:En × Bool:=t
 obtain⟨h1,h2,h3,h4⟩:I64 b∧U64 c∧U64 d∧U64 f:=h
 refine zah (zt0 a b c d e f p) ?_
 conv=>zeta
 simp only[Bool.cond_false_right]
 have hb:(a&&decide (b≥0)&&decide (b≤2))=(a&&lvM b):=by rw[Bool.and_assoc,lv_ge]
 rw[hb]
 have main:∀k:Int,k=zuy p→((a&&lvM b)=true→IntKind.i64.wrap (9-IntKind.i64.wrap (3*b))≤(64:Int)) ∧
  ((a&&lvM b&&decide (c<pw (IntKind.i64.wrap (9-IntKind.i64.wrap (3*b))))&&decide (d≤65535))=true→zhw (f,5)) ∧
  ((a&&lvM b&&decide (c<pw (IntKind.i64.wrap (9-IntKind.i64.wrap (3*b))))&&decide (d≤65535)&&(e==za0 f 5))=true→U64 f) ∧
  zcd p (a,b,c,d,e,f)=(a&&lvM b&&decide (c<pw (IntKind.i64.wrap (9-IntKind.i64.wrap (3*b))))&&decide (d≤65535)&&(e==za0 f 5)&&(za7 f b==k)):=by
  intro k hk
  refine⟨fun g => ?_,fun _=>zo8 h4 (by decide) (by decide),fun _=>h4, ?_⟩
  · have:LvR b:=zeg.1 (by simp at g;exact g.2)
    obtain⟨w,_,_,_,_⟩:=yls this
    rw[w]
    unfold LvR at this
    omega
  · rw[hk]
    by_cases hl:lvM b=true
    · obtain⟨w,q,_⟩:=yls (zeg.1 hl)
      rw[w,q]
      rfl
    · have hl:lvM b=false:=by simpa using hl
      simp[zcd,hl]
 refine⟨fun g=>main 1 (by simp[zuy,g]),fun g=>main 2 (by simp[zuy,g])⟩
theorem yfj:Sound Tryz.prog 90 (zag [enP,u64,u64] [bl] (fun t=>some (EnR t.1∧(t.1.1=true→LvR t.1.2.1)∧U64 t.2.1)) (fun t=>zc0 t.1 t.2.1 t.2.2)):=by
 refine zad mixed Tryz.func90 (by kernel_rfl) (by kernel_rfl) ycz (fun t h => ?_)
 obtain⟨⟨a,b,c,d,e,f⟩,va,asid⟩:En × Int × Int:=t
 obtain⟨h1,h2,h3⟩:EnR (a,b,c,d,e,f)∧(a=true→LvR b)∧U64 va:=h
 refine zah (ztz a b c d e f va asid) ⟨fun g=>⟨h3,h2 g⟩, ?_⟩
 simp only[Bool.cond_false_right,Bool.cond_true_left]
 rfl
theorem yoh:zay Tryz.prog kF1 := .cons (by kernel_rfl) yfg <| .cons (by kernel_rfl) yff <| .cons (by kernel_rfl) yfk <| .cons (by kernel_rfl) yfj .nil
theorem ynx:DictOk Tryz.prog FF1:=za1 ((yoh.append zj8).append zce) .nil .nil
theorem zn7{a:Bool}{b c d:Int}{e:Bool}{f:Int}{p:Bool}{k:Int}(hk:k=zuy p) :
 ((a&&lvM b)=true→0≤IntKind.i64.wrap (9-IntKind.i64.wrap (3*b))) ∧
 zcd p (a,b,c,d,e,f)=(a&&lvM b&&decide (c<IntKind.u64.wrap (1*2 ^ min (IntKind.i64.wrap (9-IntKind.i64.wrap (3*b))).toNat 64))&&decide (d≤65535)&&(e==za0 f 5)&&(za7 f b==k)):=by
 refine⟨fun g => ?_, ?_⟩
 · have:LvR b:=zeg.1 (by simp at g;exact g.2)
   obtain⟨w,_,_,q,_⟩:=yls this
   rw[w]
   exact q
 · rw[hk]
   by_cases hl:lvM b=true
   · obtain⟨w,q,_⟩:=yls (zeg.1 hl)
     have:IntKind.u64.wrap (1*2 ^ min (9-3*b).toNat 64)=2 ^ (9-3*b).toNat:=by
      rcases zcp (zeg.1 hl) with rfl|rfl|rfl<;>decide
     rw[w,this]
     rfl
   · have hl:lvM b=false:=by simpa using hl
     simp[zcd,hl]
theorem ykr:Sound Tryz.prog 186 (zag [tlP,enP] [bl] (fun t=>some (EnR t.2)) (fun t=>zcd true t.2)):=by
 refine zad mixed Tryz.func186 (by kernel_rfl) (by kernel_rfl) ynx (fun t h => ?_)
 obtain⟨⟨s,w,m⟩,a,b,c,d,e,f⟩:Tl × En:=t
 obtain⟨h1,h2,h3,h4⟩:I64 b∧U64 c∧U64 d∧U64 f:=h
 refine zah (zw3 s w m a b c d e f) ?_
 conv=>zeta
 simp only[Bool.cond_false_right]
 obtain⟨q1,q2⟩:=zn7 (a:=a) (b:=b) (c:=c) (d:=d) (e:=e) (p:=true) (k:=1) rfl
 exact⟨q1,fun _=>zo8 h4 (by decide) (by decide),fun _=>h4,q2,trivial⟩
theorem ykq:Sound Tryz.prog 184 (zag [tlP,enP] [bl] (fun t=>some (EnR t.2)) (fun t=>zcd false t.2)):=by
 refine zad mixed Tryz.func184 (by kernel_rfl) (by kernel_rfl) ynx (fun t h => ?_)
 obtain⟨⟨s,w,m⟩,a,b,c,d,e,f⟩:Tl × En:=t
 obtain⟨h1,h2,h3,h4⟩:I64 b∧U64 c∧U64 d∧U64 f:=h
 refine zah (zw2 s w m a b c d e f) ?_
 conv=>zeta
 simp only[Bool.cond_false_right]
 obtain⟨q1,q2⟩:=zn7 (a:=a) (b:=b) (c:=c) (d:=d) (e:=e) (p:=false) (k:=2) rfl
 exact⟨q1,fun _=>zo8 h4 (by decide) (by decide),fun _=>h4,q2,trivial⟩
theorem yoi:zay Tryz.prog kF2 := .cons (by kernel_rfl) ykr <| .cons (by kernel_rfl) ykq yoh
theorem zyg:DictOk Tryz.prog FF2:=za1 ((yoi.append zj8).append zce) .nil .nil
theorem yre(e:En):(!(e.1==false&&(e.2.1==0&&(e.2.2.1==0&&(e.2.2.2.1==0&&(e.2.2.2.2.1==false&&(e.2.2.2.2.2==0&&true))))))) = !(e==zE):=by
 obtain⟨a,b,c,d,g,f⟩:=e
 rw[Bool.and_true]
 rfl
theorem zcl{p:Bool}{s w:Int}{m:Es}:zh7 p s w m=true↔∀i,i<m.length→zk3 p s w i (m.getD i zE)=true:=by
 unfold zh7
 rw[List.all_eq_true]
 exact⟨fun h i hi=>h i (List.mem_range.2 hi),fun h i hi=>h i (List.mem_range.1 hi)⟩
theorem zfr{s w:Int}{m:Es}(h:zcf s w m=true):(s=1∨s=2∨s=4∨s=8)∧1≤w∧w≤4∧(m.length:Int)=s*w:=by
 simp only[zcf,Bool.and_eq_true,Bool.or_eq_true,beq_iff_eq,decide_eq_true_eq] at h
 obtain⟨⟨⟨h1,h2⟩,h3⟩,h4⟩:=h
 exact⟨by omega,h2,h3,h4⟩
theorem ya0{i:Nat}{w:Int}(hw:1≤w)(hi:i≤2097152):IntKind.i64.wrap ((i:Int).tdiv w)=(i:Int).tdiv w:=by
 rw[zeo (by omega)]
 have h1:0≤(i:Int)/w:=Int.ediv_nonneg (by omega) (by omega)
 have h2:(i:Int)/w≤i:=Int.ediv_le_self _ (by omega)
 exact zaa (by omega) (by omega)
theorem zmj{p:Bool}{s w:Int}{i:Nat}{e:En}(hw:1≤w)(hi:i≤2097152):(bif !(e==zE) then bif !zcd p e then true else (IntKind.i64.wrap e.2.2.1).tmod s != IntKind.i64.wrap ((i:Int).tdiv w) else false) = !zk3 p s w i e:=by
 rw[ya0 hw hi]
 unfold zk3
 cases e==zE<;>cases zcd p e<;>simp[bne]
theorem zlx{m:Es}{i:Nat}(h:i<m.length)(d:En):m.getD i d ∈ m:=by
 rw[List.getD_eq_getElem?_getD,List.getElem?_eq_getElem h]
 exact List.getElem_mem h
theorem zms{p:Bool}{s w:Int}{m:Es}{i:Nat}(h:∀j,j<i→zk3 p s w j (m.getD j zE)=true)(ho:zk3 p s w i (m.getD i zE)=true):∀j,j<i+1→zk3 p s w j (m.getD j zE)=true:=by
 intro j hj
 rcases Nat.lt_or_ge j i with z|z
 · exact h j z
 · have:j=i:=by omega
   subst this
   exact ho
theorem zp4{p:Bool}{s w:Int}{m:Es}{i:Nat}(hi:i<m.length)(ho:zk3 p s w i (m.getD i zE)=false):zh7 p s w m=false:=by
 cases e:zh7 p s w m with
 | false=>rfl
 | true=>rw[zcl.1 e i hi] at ho;cases ho
theorem ykt(s:Int):yjs [1,2,4,8] s=(s==1||s==2||s==4||s==8):=by
 have e:∀a b:Int,decide (a=b)=(a==b):=fun a b=>rfl
 unfold yjs
 simp[Bool.or_assoc,e]
theorem yle{s w:Int}(hs:s=1∨s=2∨s=4∨s=8)(h1:1≤w)(h2:w≤4):IntKind.i64.wrap (s*w)=s*w:=by
 rcases hs with rfl|rfl|rfl|rfl<;>exact zaa (by omega) (by omega)
theorem zr9(s w:Int)(m:Es):(!(s==1||s==2||s==4||s==8)||decide (w<1)||decide (w>4)||(m.length:Int) != IntKind.i64.wrap (s*w)) = !zcf s w m:=by
 unfold zcf
 by_cases h0:(s==1||s==2||s==4||s==8)=true
 · by_cases h1:1≤w
   · by_cases h2:w≤4
     · rw[yle (by simp at h0;omega) h1 h2,h0]
       have e1:¬ w<1:=by omega
       have e2:¬ w>4:=by omega
       simp[h1,h2,e1,e2,bne]
     · have e2:w>4:=by omega
       simp[h2,e2]
   · have e1:w<1:=by omega
     simp[h1,e1]
 · have h0:(s==1||s==2||s==4||s==8)=false:=by simpa using h0
   simp[h0]
theorem zy1(s w:Int)(m:Es):(bif bif bif !yjs [1,2,4,8] s then true else decide (w<1) then true else decide (w>4) then true else (m.length:Int) != IntKind.i64.wrap (s*w)) = !zcf s w m:=by
 rw[ykt, ← zr9]
 simp only[Bool.cond_true_left]
theorem yeu(s w:Int)(m:Es):(bif bif bif bif bif bif s != 1 then s != 2 else false then s != 4 else false then s != 8 else false then true else decide (w<1) then true else decide (w>4) then true else (m.length:Int) != IntKind.i64.wrap (s*w)) = !zcf s w m:=by
 have e:(s != 1&&s != 2&&s != 4&&s != 8) = !(s==1||s==2||s==4||s==8):=by simp only[Bool.not_or,bne]
 rw[← zr9, ← e]
 simp only[Bool.cond_true_left,Bool.cond_false_right]
theorem ysj:Sound Tryz.prog 185 (zag [tlP] [bl] (fun t=>some (TlR t)) (zaj true)):=by
 refine zcr mixed Tryz.func185 (by kernel_rfl) (b:=zai Tryz.f185 0) (k:=4) (by kernel_rfl) (by kernel_rfl) (by kernel_rfl) zyg (fun t h => ?_)
 obtain⟨s,w,m⟩:Tl:=t
 obtain⟨h1,h2,h,h4⟩:I64 s∧I64 w∧SzR m.length∧∀e ∈ m,EnR e:=h
 have hs:m.length≤2097152:=h
 refine⟨.one 4 (yjv true 159 s w m),yjv true 159 s w m,fun i:Nat=>m.length-i,zby _ _,fun  (i:Nat) hi=>zah (zuo s w m i) ?_,zah (ycl s w m) ?_⟩
 all_goals (try conv=>zeta)
 · obtain⟨hd,hi,hb⟩:zcf s w m=true∧i≤m.length∧∀j,j<i→zk3 true s w j (m.getD j zE)=true:=hi
   obtain⟨g1,g2,g3,g4⟩:=zfr hd
   refine⟨fun g => ?_,fun g => ?_⟩
   · have g:(i:Int)<m.length:=of_decide_eq_true g
     have hlt:i<m.length:=by omega
     have hm:=h4 _ (zlx hlt zE)
     rw[zfk h hlt,show 0+(i:Int).toNat=i by omega,show El.zero shE=zE from rfl]
     have hno:=fun q=>zp4 (p:=true) (s:=s) (w:=w) hlt q
     have hyes:=fun q=>zms (p:=true) (s:=s) (w:=w) (m:=m) hb q
     generalize m.getD i zE=e at *
     obtain⟨a,b,c,d,k,f⟩:=e
     have hz:=yre (a,b,c,d,k,f)
     have hc:=zmj (p:=true) (s:=s) (w:=w) (i:=i) (e:=(a,b,c,d,k,f)) g2 (by omega)
     simp only at hz hc
     rw[hz,hc]
     have s0:s≠0:=by omega
     have w0:w≠0:=by omega
     exact⟨⟨by omega,by omega⟩,by omega,fun _=>⟨rfl,hm⟩,fun _=>s0,fun _=>w0,fun q=>⟨(),⟨rfl,rfl⟩,hno (by simpa using q)⟩,fun q=>⟨i+1,⟨rfl,rfl,rfl,rfl,rfl,rfl,rfl,rfl,rfl⟩,⟨hd,by omega,hyes (by simpa using q)⟩,by omega,fun _ z=>z,fun _ z=>z⟩⟩
   · have g:¬ (i:Int)<m.length:=of_decide_eq_false g
     have:i=m.length:=by omega
     subst this
     exact⟨(),rfl,zcl.2 hb⟩
 · rw[zy1]
   exact⟨⟨rfl,by unfold SzR;decide⟩,fun q=>⟨by simp at q;simp[zaj,q],rfl⟩,fun q=>⟨0,⟨rfl,rfl,rfl,rfl,rfl,rfl,rfl,rfl,rfl⟩,⟨by simpa using q,by omega,fun j hj=>absurd hj (Nat.not_lt_zero _)⟩,fun _ z=>⟨by simp at q;simp[zaj,q,z],rfl⟩,fun _ z=>⟨by simp[zaj,z],rfl⟩⟩⟩
theorem ysi:Sound Tryz.prog 183 (zag [tlP] [bl] (fun t=>some (TlR t)) (zaj false)):=by
 refine zcr mixed Tryz.func183 (by kernel_rfl) (b:=zai Tryz.f183 0) (k:=4) (by kernel_rfl) (by kernel_rfl) (by kernel_rfl) zyg (fun t h => ?_)
 obtain⟨s,w,m⟩:Tl:=t
 obtain⟨h1,h2,h,h4⟩:I64 s∧I64 w∧SzR m.length∧∀e ∈ m,EnR e:=h
 have hs:m.length≤2097152:=h
 refine⟨.one 4 (yjv false 155 s w m),yjv false 155 s w m,fun i:Nat=>m.length-i,zby _ _,fun  (i:Nat) hi=>zah (zun s w m i) ?_,zah (yck s w m) ?_⟩
 all_goals (try conv=>zeta)
 · obtain⟨hd,hi,hb⟩:zcf s w m=true∧i≤m.length∧∀j,j<i→zk3 false s w j (m.getD j zE)=true:=hi
   obtain⟨g1,g2,g3,g4⟩:=zfr hd
   refine⟨fun g => ?_,fun g => ?_⟩
   · have g:(i:Int)<m.length:=of_decide_eq_true g
     have hlt:i<m.length:=by omega
     have hm:=h4 _ (zlx hlt zE)
     rw[zfk h hlt,show 0+(i:Int).toNat=i by omega,show El.zero shE=zE from rfl]
     have hno:=fun q=>zp4 (p:=false) (s:=s) (w:=w) hlt q
     have hyes:=fun q=>zms (p:=false) (s:=s) (w:=w) (m:=m) hb q
     generalize m.getD i zE=e at *
     obtain⟨a,b,c,d,k,f⟩:=e
     have hz:=yre (a,b,c,d,k,f)
     have hc:=zmj (p:=false) (s:=s) (w:=w) (i:=i) (e:=(a,b,c,d,k,f)) g2 (by omega)
     simp only at hz hc
     rw[hz,hc]
     have s0:s≠0:=by omega
     have w0:w≠0:=by omega
     exact⟨⟨by omega,by omega⟩,by omega,fun _=>⟨rfl,hm⟩,fun _=>s0,fun _=>w0,fun q=>⟨(),⟨rfl,rfl⟩,hno (by simpa using q)⟩,fun q=>⟨i+1,⟨rfl,rfl,rfl,rfl,rfl,rfl,rfl,rfl,rfl⟩,⟨hd,by omega,hyes (by simpa using q)⟩,by omega,fun _ z=>z,fun _ z=>z⟩⟩
   · have g:¬ (i:Int)<m.length:=of_decide_eq_false g
     have:i=m.length:=by omega
     subst this
     exact⟨(),rfl,zcl.2 hb⟩
 · rw[zy1]
   exact⟨⟨rfl,by unfold SzR;decide⟩,fun q=>⟨by simp at q;simp[zaj,q],rfl⟩,fun q=>⟨0,⟨rfl,rfl,rfl,rfl,rfl,rfl,rfl,rfl,rfl⟩,⟨by simpa using q,by omega,fun j hj=>absurd hj (Nat.not_lt_zero _)⟩,fun _ z=>⟨by simp at q;simp[zaj,q,z],rfl⟩,fun _ z=>⟨by simp[zaj,z],rfl⟩⟩⟩
theorem ysb:Sound Tryz.prog 40 (zag [tlP,bl] [bl] (fun t=>some (TlR t.1)) (fun t=>zaj t.2 t.1)):=by
 refine zcr mixed Tryz.func40 (by kernel_rfl) (b:=zai Tryz.f40 0) (k:=4) (by kernel_rfl) (by kernel_rfl) (by kernel_rfl) zyg (fun t h => ?_)
 obtain⟨⟨s,w,m⟩,p⟩:Tl × Bool:=t
 obtain⟨h1,h2,h,h4⟩:I64 s∧I64 w∧SzR m.length∧∀e ∈ m,EnR e:=h
 have hs:m.length≤2097152:=h
 refine⟨.one 4 (yhg p s w m),yhg p s w m,fun i:Nat=>m.length-i,zby _ _,fun  (i:Nat) hi=>zah (zum s w m p i) ?_,zah (yci s w m p) ?_⟩
 all_goals (try conv=>zeta)
 · obtain⟨hd,hi,hb⟩:zcf s w m=true∧i≤m.length∧∀j,j<i→zk3 p s w j (m.getD j zE)=true:=hi
   obtain⟨g1,g2,g3,g4⟩:=zfr hd
   refine⟨fun g => ?_,fun g => ?_⟩
   · have g:(i:Int)<m.length:=of_decide_eq_true g
     have hlt:i<m.length:=by omega
     have hm:=h4 _ (zlx hlt zE)
     rw[zfk h hlt,show 0+(i:Int).toNat=i by omega,show El.zero shE=zE from rfl]
     have hno:=fun q=>zp4 (p:=p) (s:=s) (w:=w) hlt q
     have hyes:=fun q=>zms (p:=p) (s:=s) (w:=w) (m:=m) hb q
     generalize m.getD i zE=e at *
     obtain⟨a,b,c,d,k,f⟩:=e
     have hz:=yre (a,b,c,d,k,f)
     have hc:=zmj (p:=p) (s:=s) (w:=w) (i:=i) (e:=(a,b,c,d,k,f)) g2 (by omega)
     simp only at hz hc
     rw[hz,hc]
     have s0:s≠0:=by omega
     have w0:w≠0:=by omega
     exact⟨⟨by omega,by omega⟩,by omega,fun _=>hm,fun _=>s0,fun _=>w0,fun q=>⟨(),⟨rfl,rfl⟩,hno (by simpa using q)⟩,fun q=>⟨i+1,⟨rfl,rfl,rfl,rfl,rfl,rfl,rfl⟩,⟨hd,by omega,hyes (by simpa using q)⟩,by omega,fun _ z=>z,fun _ z=>z⟩⟩
   · have g:¬ (i:Int)<m.length:=of_decide_eq_false g
     have:i=m.length:=by omega
     subst this
     exact⟨(),rfl,zcl.2 hb⟩
 · rw[yeu]
   exact⟨fun q=>⟨by simp at q;simp[zaj,q],rfl⟩,fun q=>⟨0,⟨rfl,rfl,rfl,rfl,rfl,rfl,rfl⟩,⟨by simpa using q,by omega,fun j hj=>absurd hj (Nat.not_lt_zero _)⟩,fun _ z=>⟨by simp at q;simp[zaj,q,z],rfl⟩,fun _ z=>⟨by simp[zaj,z],rfl⟩⟩⟩
theorem ymj{p:Bool}{t:Tl}(h:zaj p t=true){i:Nat}(hi:i<t.2.2.length)(hv:(t.2.2.getD i zE).1=true):LvR (t.2.2.getD i zE).2.1:=by
 simp only[zaj,Bool.and_eq_true] at h
 have:=zcl.1 h.2 i hi
 simp only[zk3,Bool.or_eq_true,Bool.and_eq_true] at this
 rcases this with e|e
 · have e:t.2.2.getD i zE=zE:=by simpa using e
   rw[e] at hv
   cases hv
 · have:=e.1
   simp only[zcd,Bool.and_eq_true] at this
   exact zeg.1 this.1.1.1.1.2
theorem zlo{t:Tl}(h:za4 t=true){i:Nat}(hi:i<t.2.2.length)(hv:(t.2.2.getD i zE).1=true):LvR (t.2.2.getD i zE).2.1:=by
 simp only[za4,Bool.or_eq_true] at h
 rcases h with h|h<;>exact ymj h hi hv
theorem yql:Sound Tryz.prog 98 (zag [tlP,u64,u64] [yku] (fun t=>some (za4 t.1=true∧TlR t.1∧U64 t.2.1)) (fun t=>zau t.2.1 t.2.2 t.1.2.2)):=by
 refine zcr mixed Tryz.func98 (by kernel_rfl) (b:=zai Tryz.f98 0) (k:=3) (by kernel_rfl) (by kernel_rfl) (by kernel_rfl) zyg (fun t h => ?_)
 obtain⟨⟨s,w,m⟩,va,asid⟩:Tl × Int × Int:=t
 obtain⟨h0,⟨h1,h2,h,h4⟩,h5⟩:za4 (s,w,m)=true∧(I64 s∧I64 w∧SzR m.length∧∀e ∈ m,EnR e)∧U64 va:=h
 have hs:m.length≤2097152:=h
 refine⟨.one 3 (yei va asid m),yei va asid m,fun i:Nat=>m.length-i,zby _ _,fun  (i:Nat) hi=>zah (ztp va asid m i) ?_,zah (ybl s w m va asid) ?_⟩
 all_goals (try conv=>zeta)
 · have hi:i≤m.length:=hi
   refine⟨fun g => ?_,fun g => ?_⟩
   · have g:(i:Int)<m.length:=of_decide_eq_true g
     have hlt:i<m.length:=by omega
     have hlv:=zlo h0 hlt
     simp only at hlv
     have hnext:zdk va asid m (i+1)=zcv va asid (zdk va asid m i) i (m.getD i zE):=rfl
     rw[zfk h hlt,show 0+(i:Int).toNat=i by omega,show El.zero shE=zE from rfl]
     generalize m.getD i zE=e at *
     obtain⟨a,b,c,d,k,f⟩:=e
     simp only[Bool.cond_true_left,Bool.cond_false_right]
     refine⟨⟨by omega,by omega⟩,by omega,fun q=>⟨h5,hlv q⟩,fun q=>⟨i+1,⟨trivial,trivial,trivial,trivial,trivial,rfl,trivial,trivial,trivial,trivial,trivial, ?_⟩,by omega,by omega,fun _ _=>trivial⟩,fun q=>⟨i+1,⟨trivial,trivial,trivial,trivial,trivial,rfl,trivial,trivial,trivial,trivial,trivial, ?_⟩,by omega,by omega,fun _ _=>trivial⟩⟩
     · rw[hnext]
       unfold zcv
       rw[if_pos (by unfold zc0;exact q)]
       exact⟨rfl,rfl,rfl,rfl⟩
     · rw[hnext]
       unfold zcv
       rw[if_neg (by unfold zc0;rw[q];decide)]
       exact⟨rfl,rfl,rfl,rfl⟩
   · have g:¬ (i:Int)<m.length:=of_decide_eq_false g
     have:i=m.length:=by omega
     subst this
     exact⟨(),⟨rfl,rfl,rfl,rfl,rfl,rfl,rfl,rfl,rfl⟩,trivial⟩
 · exact⟨0,⟨rfl,rfl,rfl,rfl,rfl,rfl,rfl,rfl,rfl,rfl,rfl,rfl,rfl,rfl,rfl⟩,by omega,fun _ _=>⟨rfl,rfl,rfl,rfl,rfl⟩⟩
theorem yoj:zay Tryz.prog kF3 := .cons (by kernel_rfl) ysj <| .cons (by kernel_rfl) ysi <| .cons (by kernel_rfl) ysb <| .cons (by kernel_rfl) yql yoi
theorem yc4:DictOk Tryz.prog FF3:=za1 ((yoj.append zj8).append zce) .nil .nil
theorem yqt:Sound Tryz.prog 195 (zag [tlP,bl] [bl] (fun t=>some (TlR t.1)) (fun t=>zaj t.2 t.1)):=by
 refine zad mixed Tryz.func195 (by kernel_rfl) (by kernel_rfl) yc4 (fun t h => ?_)
 obtain⟨⟨s,w,m⟩,p⟩:Tl × Bool:=t
 have h:TlR (s,w,m):=h
 refine zah (ybp s w m p) ⟨fun g => ?_,fun g => ?_⟩<;>subst g<;>exact⟨⟨rfl,h⟩,rfl,rfl⟩
theorem ysg:Sound Tryz.prog 97 (zag [tlP] [bl] (fun t=>some (TlR t)) za4):=by
 refine zad mixed Tryz.func97 (by kernel_rfl) (by kernel_rfl) yc4 (fun t h => ?_)
 obtain⟨s,w,m⟩:Tl:=t
 have h:TlR (s,w,m):=h
 refine zah (ycj s w m) ⟨⟨rfl,h⟩,fun _=>⟨rfl,h⟩, ?_,rfl⟩
 rw[Bool.cond_true_left,Bool.or_comm]
 rfl
theorem yee:Sound Tryz.prog 89 (zag [tlP] [bl] (fun t=>some (TlR t)) za4):=by
 refine zad mixed Tryz.func89 (by kernel_rfl) (by kernel_rfl) yc4 (fun t h => ?_)
 obtain⟨s,w,m⟩:Tl:=t
 have h:TlR (s,w,m):=h
 refine zah (zto s w m) ⟨⟨rfl,h⟩,fun _=>⟨rfl,h⟩, ?_,rfl⟩
 rw[Bool.cond_true_left]
 rfl
theorem zsd:zay Tryz.prog kF4 := .cons (by kernel_rfl) yqt <| .cons (by kernel_rfl) ysg <| .cons (by kernel_rfl) yee <| yoj
theorem zyh:DictOk Tryz.prog FF4:=za1 ((zsd.append zj8).append zce) .nil .nil
end Go.Proofs.YtfiddfbagbaofaaGreat.V
