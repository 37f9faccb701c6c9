/- Valid caches, and finding in them, answer as their models. Conditions: those in each statement. -/
import Derived.Test.YtfiddfbagbaofaaGreatGE
import Derived.KernelRfl
namespace Go.Proofs.YtfiddfbagbaofaaGreat.V
open Go
def EnR(e:En):Prop:=I64 e.2.1∧U64 e.2.2.1∧U64 e.2.2.2.1∧U64 e.2.2.2.2.2
def TlR(t:Tl):Prop:=I64 t.1∧I64 t.2.1∧SzR t.2.2.length∧∀e ∈ t.2.2,EnR e
def zuu(ptr:Bool):Int:=if ptr=true then 1 else 2
def zcb(ptr:Bool)(e:En):Bool:=e.1&&lvM e.2.1&&decide (e.2.2.1<2 ^ (9-3*e.2.1).toNat)&&decide (e.2.2.2.1≤65535)&&(e.2.2.2.2.1==zay e.2.2.2.2.2 5)&&(za4 e.2.2.2.2.2 e.2.1==zuu ptr)
def zk0(ptr:Bool)(s w:Int)(i:Nat)(e:En):Bool:=e==zE||(zcb ptr e&&(IntKind.i64.wrap e.2.2.1).tmod s==((i:Int).tdiv w))
def zh7(ptr:Bool)(s w:Int)(m:Es):Bool:=(List.range m.length).all fun i=>zk0 ptr s w i (m.getD i zE)
def zcc(s w:Int)(m:Es):Bool:=(s==1||s==2||s==4||s==8)&&decide (1≤w)&&decide (w≤4)&&(m.length:Int)==s*w
def zan(ptr:Bool)(t:Tl):Bool:=zcc t.1 t.2.1 t.2.2&&zh7 ptr t.1 t.2.1 t.2.2
def zbc(t:Tl):Bool:=zan true t||zan false t
def zdg(e:En)(va asid:Int):Bool:=e.1&&(e.2.2.1==zkj va e.2.1)&&(e.2.2.2.2.1||e.2.2.2.1==asid)
abbrev stP:Pm := .st []
def FE3:Dict:=mkD (kE3++kA4) [] []
def yie(k:Int):Prop:=zam Tryz.prog F0 .none Tryz.f264 [stP,i64] [bl] ((),k) (k==1)
def yid(k:Int):Prop:=zam Tryz.prog F0 .none Tryz.f263 [stP,i64] [bl] ((),k) (k==2)
def yih(a:Bool)(b c d:Int)(e:Bool)(f:Int)(p:Bool):Prop:=zam Tryz.prog FE3 .none Tryz.f92 [enP,bl] [bl] ((a,b,c,d,e,f),p) (zcb p (a,b,c,d,e,f))
def yig(a:Bool)(b c d:Int)(e:Bool)(f:Int)(va asid:Int):Prop:=zam Tryz.prog FE3 .none Tryz.f90 [enP,u64,u64] [bl] ((a,b,c,d,e,f),va,asid) (zdg (a,b,c,d,e,f) va asid)
def kF1:Known:=[
 (264,zah [stP,i64] [bl] (fun _=>none) (fun t=>t.2==1)),
 (263,zah [stP,i64] [bl] (fun _=>none) (fun t=>t.2==2)),
 (92,zah [enP,bl] [bl] (fun t=>some (EnR t.1)) (fun t=>zcb t.2 t.1)),
 (90,zah [enP,u64,u64] [bl] (fun t=>some (EnR t.1∧(t.1.1=true→LvR t.1.2.1)∧U64 t.2.1)) (fun t=>zdg t.1 t.2.1 t.2.2))]
def FF1:Dict:=mkD (kF1++kE3++kA4) [] []
def ymb(s w:Int)(m:Es)(a:Bool)(b c d:Int)(e:Bool)(f:Int):Prop:=zam Tryz.prog FF1 .none Tryz.f186 [tlP,enP] [bl] ((s,w,m),(a,b,c,d,e,f)) (zcb true (a,b,c,d,e,f))
def yma(s w:Int)(m:Es)(a:Bool)(b c d:Int)(e:Bool)(f:Int):Prop:=zam Tryz.prog FF1 .none Tryz.f184 [tlP,enP] [bl] ((s,w,m),(a,b,c,d,e,f)) (zcb false (a,b,c,d,e,f))
def kF2:Known:=[
 (186,zah [tlP,enP] [bl] (fun t=>some (EnR t.2)) (fun t=>zcb true t.2)),
 (184,zah [tlP,enP] [bl] (fun t=>some (EnR t.2)) (fun t=>zcb false t.2))]++kF1
def FF2:Dict:=mkD (kF2++kE3++kA4) [] []
def yjp(ptr:Bool)(ty:TypeId)(s w:Int)(m:Es):LoopS where
 α:=Nat
 I i:=zcc s w m=true∧i≤m.length∧∀j,j<i→zk0 ptr s w j (m.getD j zE)=true
 sl i:=slots 71 [(1,.ptr 1 0),(39,.sl 0 6 0 m.length),(40,.v (.int .i64 m.length)),(41,.v (.int .i64 i))]
 H _:=[.arr shE m false,.fix [.v (.int .i64 s),.v (.int .i64 w),.sl 0 6 0 m.length] true (some ty)]
 fams:=[{ β:=Unit,out:=fun _ _=>zh7 ptr s w m=true,ex := .ext 0,sl:=fun _=>slots 71 [],H:=fun _=>[.arr shE m false] },
  { β:=Unit,out:=fun _ _=>zh7 ptr s w m=false,ex := .ret,sl:=fun _=>slots 71 [(2,.v (.bool false))],H:=fun _=>[.arr shE m false] }]
def yi6(s w:Int)(m:Es)(i:Nat):Prop:=zav Tryz.prog FF2 (.one 4 (yjp true 159 s w m)) 1 (zai Tryz.f185 0) (yjp true 159 s w m) (fun i:Nat=>m.length-i) i
def ysq(s w:Int)(m:Es):Prop:=zam Tryz.prog FF2 (.one 4 (yjp true 159 s w m)) Tryz.f185 [tlP] [bl] (s,w,m) (zan true (s,w,m))
def yi5(s w:Int)(m:Es)(i:Nat):Prop:=zav Tryz.prog FF2 (.one 4 (yjp false 155 s w m)) 1 (zai Tryz.f183 0) (yjp false 155 s w m) (fun i:Nat=>m.length-i) i
def ysp(s w:Int)(m:Es):Prop:=zam Tryz.prog FF2 (.one 4 (yjp false 155 s w m)) Tryz.f183 [tlP] [bl] (s,w,m) (zan false (s,w,m))
def yhc(ptr:Bool)(s w:Int)(m:Es):LoopS where
 α:=Nat
 I i:=zcc s w m=true∧i≤m.length∧∀j,j<i→zk0 ptr s w j (m.getD j zE)=true
 sl i:=slots 80 [(1,.v (.bool ptr)),(2,.ptr 1 0),(5,.v (.int .i64 i))]
 H _:=[.arr shE m false,.fix [.v (.int .i64 s),.v (.int .i64 w),.sl 0 6 0 m.length] true (some 37)]
 fams:=[{ β:=Unit,out:=fun _ _=>zh7 ptr s w m=true,ex := .ext 0,sl:=fun _=>slots 80 [],H:=fun _=>[.arr shE m false] },
  { β:=Unit,out:=fun _ _=>zh7 ptr s w m=false,ex := .ret,sl:=fun _=>slots 80 [(4,.v (.bool false))],H:=fun _=>[.arr shE m false] }]
def yi1(s w:Int)(m:Es)(p:Bool)(i:Nat):Prop:=zav Tryz.prog FF2 (.one 4 (yhc p s w m)) 1 (zai Tryz.f40 0) (yhc p s w m) (fun i:Nat=>m.length-i) i
def yso(s w:Int)(m:Es)(p:Bool):Prop:=zam Tryz.prog FF2 (.one 4 (yhc p s w m)) Tryz.f40 [tlP,bl] [bl] ((s,w,m),p) (zan p (s,w,m))
abbrev Hi:=Bool × Int × Int × Int
def zc5(va asid:Int)(o:Hi)(i:Nat)(e:En):Hi:=if (zdg e va asid&&(!o.1||decide (e.2.1<o.2.2.1)))=true then (true,(i:Int),e.2.1,e.2.2.2.2.2) else o
def zd4(va asid:Int)(m:Es):Nat→Hi
 | 0=>(false,0,0,0)
 | i+1=>zc5 va asid (zd4 va asid m i) i (m.getD i zE)
def za1(va asid:Int)(m:Es):Hi:=zd4 va asid m m.length
def zyw(o:Hi):List Av:=[.v (.bool o.1),.v (.int .i64 o.2.1),.v (.int .i64 o.2.2.1),.v (.int .u64 o.2.2.2)]
def yed(va asid:Int)(m:Es):LoopS where
 α:=Nat
 I i:=i≤m.length
 sl i:=slots 59 [(1,.v (.int .u64 va)),(2,.v (.int .u64 asid)),(6,.ptr 1 0),(7,.ptr 2 0),(11,.sl 0 6 0 m.length),(12,.v (.int .i64 m.length)),(13,.v (.int .i64 i))]
 H i:=[.arr shE m false,.fix (zyw (false,0,0,0)) true (some 52),.fix (zyw (zd4 va asid m i)) true (some 52)]
 fams:=[{ β:=Unit,out:=fun _ _=>True,ex := .ext 0,sl:=fun _=>slots 59 [(6,.ptr 1 0),(7,.ptr 2 0)],H:=fun _=>[.arr shE m false,.fix (zyw (false,0,0,0)) true (some 52),.fix (zyw (za1 va asid m)) true (some 52)] }]
def yh5(va asid:Int)(m:Es)(i:Nat):Prop:=zav Tryz.prog FF2 (.one 3 (yed va asid m)) 1 (zai Tryz.f98 0) (yed va asid m) (fun i:Nat=>m.length-i) i
def yr6(s w:Int)(m:Es)(va asid:Int):Prop:=zam Tryz.prog FF2 (.one 3 (yed va asid m)) Tryz.f98 [tlP,u64,u64] [ys0] ((s,w,m),va,asid) (za1 va asid m)
def kF3:Known:=[
 (185,zah [tlP] [bl] (fun t=>some (TlR t)) (zan true)),
 (183,zah [tlP] [bl] (fun t=>some (TlR t)) (zan false)),
 (40,zah [tlP,bl] [bl] (fun t=>some (TlR t.1)) (fun t=>zan t.2 t.1)),
 (98,zah [tlP,u64,u64] [ys0] (fun t=>some (zbc t.1=true∧TlR t.1∧U64 t.2.1)) (fun t=>za1 t.2.1 t.2.2 t.1.2.2))]++kF2
def FF3:Dict:=mkD (kF3++kE3++kA4) [] []
def ysa(s w:Int)(m:Es)(p:Bool):Prop:=zam Tryz.prog FF3 .none Tryz.f195 [tlP,bl] [bl] ((s,w,m),p) (zan p (s,w,m))
def yhy(s w:Int)(m:Es):Prop:=zam Tryz.prog FF3 .none Tryz.f89 [tlP] [bl] (s,w,m) (zbc (s,w,m))
def kF4:Known:=[
 (195,zah [tlP,bl] [bl] (fun t=>some (TlR t.1)) (fun t=>zan t.2 t.1)),
 (89,zah [tlP] [bl] (fun t=>some (TlR t)) zbc),
 ]++kF3
def FF4:Dict:=mkD (kF4++kE3++kA4) [] []
set_option linter.unusedVariables false
theorem ztv(k:Int):yie k=(
 (k==(1:Int))=(k==(1:Int))):=by kernel_rfl
theorem ztu(k:Int):yid k=(
 (k==(2:Int))=(k==(2:Int))):=by kernel_rfl
theorem zty(a:Bool)(b c d:Int)(e:Bool)(f:Int)(p:Bool):yih a b c d e f p=(
 let A0(a b:Bool):=bif a then b else false;
 let A1(a:Int):=IntKind.i64.wrap a;
 let A2:=A0 (A0 a (decide (b≥(0:Int)))) (decide (b≤(2:Int)));
 let A3:=(9:Int)-A1 ((3:Int)*b);
 let A4:=A0 (A0 A2 (decide (c<(pw (A1 A3))))) (decide (d≤(65535:Int)));
 let A5(a:Bool)(b c:Prop):=(a=true→b)∧c;
 let A6(g:Int):=A5 A2 (A1 A3≤(64:PmT [i64])) (A5 A4 (zhv (f,(5:Int))) (A5 (A0 A4 (e==zay f (5:Int))) (U64 f) (zcb p (a,b,c,d,e,f)=A0 (A0 A4 (e==zay f (5:Int))) (za4 f b==g))));
 A5 p (A6 (1:Int)) (p=false→A6 (2:Int))):=by kernel_rfl
theorem ztx(a:Bool)(b c d:Int)(e:Bool)(f:Int)(va asid:Int):yig a b c d e f va asid=(
 (a=true→U64 va∧LvR b)∧zdg (a,b,c,d,e,f) va asid=bif bif a then c==zkj va b else false then bif e then true else d==asid else false):=by kernel_rfl
theorem zwz(s w:Int)(m:Es)(a:Bool)(b c d:Int)(e:Bool)(f:Int):ymb s w m a b c d e f=(
 let A0(a b:Bool):=bif a then b else false;
 let A1:=decide (d≤(65535:Int));
 let A2(a b c:Bool):=A0 (A0 a b) c;
 let A3:=IntKind.i64.wrap ((9:Int)-IntKind.i64.wrap ((3:Int)*b));
 let A4:=decide (c<(IntKind.u64.wrap ((1:Int)*(2:Int) ^ (min A3.toNat (64:Nat)))));
 let A5:=A2 (A2 a (lvM b) A4) A1 (e==zay f (5:Int));
 (A0 a (lvM b)=true→(0:Int)≤A3)∧(A0 (A2 a (lvM b) A4) A1=true→zhv (f,(5:Int)))∧(A5=true→U64 f)∧zcb true (a,b,c,d,e,f)=A0 A5 (za4 f b==(1:PmT [i64]))∧m=m):=by kernel_rfl
theorem zwy(s w:Int)(m:Es)(a:Bool)(b c d:Int)(e:Bool)(f:Int):yma s w m a b c d e f=(
 let A0(a b:Bool):=bif a then b else false;
 let A1:=decide (d≤(65535:Int));
 let A2(a b c:Bool):=A0 (A0 a b) c;
 let A3:=IntKind.i64.wrap ((9:Int)-IntKind.i64.wrap ((3:Int)*b));
 let A4:=decide (c<(IntKind.u64.wrap ((1:Int)*(2:Int) ^ (min A3.toNat (64:Nat)))));
 let A5:=A2 (A2 a (lvM b) A4) A1 (e==zay f (5:Int));
 (A0 a (lvM b)=true→(0:Int)≤A3)∧(A0 (A2 a (lvM b) A4) A1=true→zhv (f,(5:Int)))∧(A5=true→U64 f)∧zcb false (a,b,c,d,e,f)=A0 A5 (za4 f b==(2:PmT [i64]))∧m=m):=by kernel_rfl
theorem zul(s w:Int)(m:Es)(i:Nat):yi6 s w m i=(
 let A0:=(0:Nat)+(↑i:Int).toNat;
 let A1:=(List.getD m A0 (El.zero shE)).snd;
 let A2:=List.length m;
 let A3:=A1.snd.snd;
 let A4:=(↑i:Int);
 let A5:=A1.snd.fst;
 let A6:=zh7 true s w m;
 let A7:=(List.getD m A0 (El.zero shE)).fst;
 let A8:=(0:Nat)=(0:Nat);
 let A9(a:Bool):=a=true;
 let Aa(a b c:Prop):=a∧b∧c;
 let Ab(a b c d e:Prop):=Aa a b (Aa c d e);
 let Ac:=(A7,A1.fst,A5,A3.fst,A3.snd.fst,A3.snd.snd);
 let Ad:=A7==false&&(A1.fst==(0:Int)&&(A5==(0:Int)&&(A3.fst==(0:Int)&&(A3.snd.fst==false&&(A3.snd.snd==(0:Int)&&true)))));
 let Ae:=decide (A4<(↑A2:Int));
 let Af:=A6=false;
 let Ah(a:Int):=(match (!Ad),(!!zcb true Ac) with|true,y=>y|false,x=>false)=true→a≠(0:Int);
 let Ai:=bif !Ad then bif !zcb true Ac then true else (IntKind.i64.wrap A5).tmod s != IntKind.i64.wrap (A4.tdiv w) else false;
 (A9 Ae→Aa ((0:Int)≤A4∧A4<(↑A2:Int)) (A0<A2) (Ab (A9 (!Ad)→A2=A2∧EnR Ac) (Ah s) (Ah w) (A9 Ai→∃(x0':Unit),(false=false∧m=m)∧Af) (Ai=false→∃(x1':Nat),Ab (Ab A8 (A2=A2) ((↑A2:Int)=(↑A2:Int))
  ((↑x1':Int)=IntKind.i64.wrap (A4+(1:Int))) (Ab (m=m) (s=s) (w=w) A8 (A2=A2))) (Aa (A9 (zcc s w m)) (x1'≤A2) (∀(x2':Nat),x2'<x1'→A9 (zk0 true s w x2' (List.getD m x2' zE)))) (A2-x1'<A2-i) (∀(x3':Unit),
  A9 A6→A9 A6) (∀(x4':Unit),Af→Af))))∧(Ae=false→∃(x5':Unit),m=m∧A9 A6)):=by kernel_rfl
theorem yce(s w:Int)(m:Es):ysq s w m=(
 let A0:=List.length m;
 let A1(a b:Bool):=bif a then true else b;
 let A2:=(↑A0:Int);
 let A3:=(0:Nat)=(0:Nat);
 let A4:=(1:Int)::(2:Int)::(4:Int)::(8:Int)::[];
 let A5(a:Bool):=a=true;
 let A6(a b c:Prop):=a∧b∧c;
 let A7:=zan true (s,w,m)=false;
 let A8:=A1 (A1 (A1 (!yjm A4 s) (decide (w<(1:Int)))) (decide (w>(4:Int)))) (A2 != IntKind.i64.wrap (s*w));
 let A9:=zh7 true s w m;
 A6 ((4:Nat)=(4:Nat)∧SzR A4.length) (A5 A8→A7∧m=m) (A8=false→∃(x0':Nat),A6 A3 (A0=A0) (A6 (A2=A2) ((↑x0':Int)=(0:Int)) (A6 (m=m) (s=s) (A6 (w=w) A3 (A0=A0))))∧A6 (A6 (A5 (zcc s w m)) (x0'≤A0) (∀
  (x1':Nat),x1'<x0'→A5 (zk0 true s w x1' (List.getD m x1' zE)))) (∀(x2':Unit),A5 A9→A5 (zan true (s,w,m))∧m=m) (∀(x3':Unit),A9=false→A7∧m=m))):=by kernel_rfl
theorem zuk(s w:Int)(m:Es)(i:Nat):yi5 s w m i=(
 let A0:=(0:Nat)+(↑i:Int).toNat;
 let A1:=(List.getD m A0 (El.zero shE)).snd;
 let A2:=List.length m;
 let A3:=A1.snd.snd;
 let A4:=(↑i:Int);
 let A5:=A1.snd.fst;
 let A6:=zh7 false s w m;
 let A7(a:Bool):=a=true;
 let A8:=(List.getD m A0 (El.zero shE)).fst;
 let A9:=(0:Nat)=(0:Nat);
 let Aa(a b c:Prop):=a∧b∧c;
 let Ab(a b c d e:Prop):=Aa a b (Aa c d e);
 let Ac:=(A8,A1.fst,A5,A3.fst,A3.snd.fst,A3.snd.snd);
 let Ad:=A8==false&&(A1.fst==(0:Int)&&(A5==(0:Int)&&(A3.fst==(0:Int)&&(A3.snd.fst==false&&(A3.snd.snd==(0:Int)&&true)))));
 let Ae:=decide (A4<(↑A2:Int));
 let Af:=A6=false;
 let Ah(a:Int):=(match (!Ad),(!!zcb false Ac) with|true,y=>y|false,x=>false)=true→a≠(0:Int);
 let Ai:=bif !Ad then bif !zcb false Ac then true else (IntKind.i64.wrap A5).tmod s != IntKind.i64.wrap (A4.tdiv w) else false;
 (A7 Ae→Aa ((0:Int)≤A4∧A4<(↑A2:Int)) (A0<A2) (Ab (A7 (!Ad)→A2=A2∧EnR Ac) (Ah s) (Ah w) (A7 Ai→∃(x0':Unit),(false=false∧m=m)∧Af) (Ai=false→∃(x1':Nat),Ab (Ab A9 (A2=A2) ((↑A2:Int)=(↑A2:Int))
  ((↑x1':Int)=IntKind.i64.wrap (A4+(1:Int))) (Ab (m=m) (s=s) (w=w) A9 (A2=A2))) (Aa (A7 (zcc s w m)) (x1'≤A2) (∀(x2':Nat),x2'<x1'→A7 (zk0 false s w x2' (List.getD m x2' zE)))) (A2-x1'<A2-i) (∀(x3':Unit),
  A7 A6→A7 A6) (∀(x4':Unit),Af→Af))))∧(Ae=false→∃(x5':Unit),m=m∧A7 A6)):=by kernel_rfl
theorem ycd(s w:Int)(m:Es):ysp s w m=(
 let A0:=List.length m;
 let A1(a b:Bool):=bif a then true else b;
 let A2:=(↑A0:Int);
 let A3:=(0:Nat)=(0:Nat);
 let A4:=(1:Int)::(2:Int)::(4:Int)::(8:Int)::[];
 let A5(a:Bool):=a=true;
 let A6(a b c:Prop):=a∧b∧c;
 let A7:=zh7 false s w m;
 let A8:=A1 (A1 (A1 (!yjm A4 s) (decide (w<(1:Int)))) (decide (w>(4:Int)))) (A2 != IntKind.i64.wrap (s*w));
 let A9:=zan false (s,w,m)=false;
 A6 ((4:Nat)=(4:Nat)∧SzR A4.length) (A5 A8→A9∧m=m) (A8=false→∃(x0':Nat),A6 A3 (A0=A0) (A6 (A2=A2) ((↑x0':Int)=(0:Int)) (A6 (m=m) (s=s) (A6 (w=w) A3 (A0=A0))))∧A6 (A6 (A5 (zcc s w m)) (x0'≤A0) (∀
  (x1':Nat),x1'<x0'→A5 (zk0 false s w x1' (List.getD m x1' zE)))) (∀(x2':Unit),A5 A7→A5 (zan false (s,w,m))∧m=m) (∀(x3':Unit),A7=false→A9∧m=m))):=by kernel_rfl
theorem zuj(s w:Int)(m:Es)(p:Bool)(i:Nat):yi1 s w m p i=(
 let A0:=(0:Nat)+(↑i:Int).toNat;
 let A1:=(List.getD m A0 (El.zero shE)).snd;
 let A2:=A1.snd.snd;
 let A3:=List.length m;
 let A4:=(↑i:Int);
 let A5:=A1.snd.fst;
 let A6(a:Bool):=zh7 p s w m=a;
 let A7:=(List.getD m A0 (El.zero shE)).fst;
 let A8:=(A1.fst,A5,A2.fst,A2.snd.fst,A2.snd.snd);
 let A9(a b c:Prop):=a∧b∧c;
 let Aa:=A7==false&&(A1.fst==(0:Int)&&(A5==(0:Int)&&(A2.fst==(0:Int)&&(A2.snd.fst==false&&(A2.snd.snd==(0:Int)&&true)))));
 let Ab:=decide (A4<(↑A3:Int));
 let Ac(a:Bool)(b:Prop):=a=true→b;
 let Ad:=bif !Aa then bif !zcb p (A7,A8) then true else (IntKind.i64.wrap A5).tmod s != IntKind.i64.wrap (A4.tdiv w) else false;
 let Ae(a:Int):=(match (!Aa),(!!zcb p (A7,A8)) with|true,y=>y|false,x=>false)=true→a≠(0:Int);
 Ac Ab (A9 ((0:Int)≤A4∧A4<(↑A3:Int)) (A0<A3) (A9 (Ac (!Aa) (EnR (A7,A8))) (Ae s) (A9 (Ae w) (Ac Ad (∃(x0':Unit),(false=false∧m=m)∧A6 false)) (Ad=false→∃(x1':Nat),A9 (A9 (p=p) ((↑x1':Int) =
  IntKind.i64.wrap (A4+(1:Int))) (A9 (m=m) (s=s) (A9 (w=w) ((0:Nat)=(0:Nat)) (A3=A3)))) (A9 (zcc s w m=true) (x1'≤A3) (∀(x2':Nat),x2'<x1'→zk0 p s w x2' (List.getD m x2' zE)=true)) (A9 (A3-x1'<A3-i) (∀
  (x3':Unit),A6 true→A6 true) (∀(x4':Unit),A6 false→A6 false))))))∧(Ab=false→∃(x5':Unit),m=m∧A6 true)):=by kernel_rfl
theorem ycc(s w:Int)(m:Es)(p:Bool):yso s w m p=(
 let A0(a b c d e:Bool):=bif bif a then b else c then d else e;
 let A1:=List.length m;
 let A2:=zan p (s,w,m)=false;
 let A3(a:Bool)(b:Prop):=zh7 p s w m=a→b∧m=m;
 let A4(a:Bool)(b:Prop):=A0 (A0 (A0 (s != (1:Int)) (s != (2:Int)) false (s != (4:Int)) false) (s != (8:Int)) false true (decide (w<(1:Int)))) true (decide (w>(4:Int))) true ((↑(List.length m):Int) !=
  IntKind.i64.wrap (s*w))=a→b;
 A4 true (A2∧m=m)∧A4 false (∃(x0':Nat),(p=p∧(↑x0':Int)=(0:Int)∧m=m∧s=s∧w=w∧(0:Nat)=(0:Nat)∧A1=A1)∧(zcc s w m=true∧x0'≤A1∧∀(x1':Nat),x1'<x0'→zk0 p s w x1' (List.getD m x1' zE) =
  true)∧(∀(x2':Unit),A3 true (zan p (s,w,m)=true))∧∀(x3':Unit),A3 false A2)):=by kernel_rfl
theorem ztn(va asid:Int)(m:Es)(i:Nat):yh5 va asid m i=(
 let A0:=Int.ofNat (0:Nat);
 let A1:=(0:Nat)+(↑i:Int).toNat;
 let A2:=List.getD m A1 (El.zero shE);
 let A3:=List.length m;
 let A4(a:Nat):=(zd4 va asid m a).snd;
 let A5:=(↑A3:Int);
 let A6:=(↑i:Int);
 let A7(a b c:Prop):=a∧b∧c;
 let A8(a b:Int)(c d:Prop):=A7 (a=b) c d;
 let A9:=A2.snd.fst;
 let Aa(a b c d:Int)(e:Prop):=A8 a b (c=d) e;
 let Ab(a:Nat):=(A4 a).snd.fst;
 let Ac(a:Nat):=(zd4 va asid m a).fst;
 let Ad:=A2.snd.snd.snd;
 let Ae(a:Bool)(b:Prop):=decide (A6<A5)=a→b;
 let Af(a:Nat)(b:Bool)(c:Prop):=Aa va va asid asid (A7 ((0:Nat)=(0:Nat)) (A3=A3) (Aa A5 A5 (↑a:Int) (IntKind.i64.wrap (A6+(1:Int))) (A7 (m=m) (false=false) (Aa A0 A0 A0 A0 (A8 A0 A0 (Ac a=b) c)))))∧A7 (a ≤
  A3) (A3-a<A3-i) (∀(x1':Unit),True→True);
 let Ah(a:Bool)(b:Prop):=(bif bif bif A2.fst then A2.snd.snd.fst==zkj va A9 else false then bif Ad.snd.fst then true else Ad.fst==asid else false then bif !Ac i then true else decide (A9<(Ab i)) else false)=a→b;
 let Ai(a b c:Int):=Aa a (A4 i).fst b (Ab i) (c=(A4 i).snd.snd);
 let Aj:=za1 va asid m;
 let Ak:=(za1 va asid m).snd.snd;
 Ae true (A7 ((0:Int)≤A6∧A6<A5) (A1<A3) (A7 (A2.fst=true→U64 va∧LvR A9) (Ah true (∃(x0':Nat),Af x0' true (A8 (A4 x0').fst A6 (Ab x0'=A9) ((A4 x0').snd.snd=Ad.snd.snd)))) (Ah false (∃(x2':Nat),Af x2' (Ac i) (Ai (A4
  x2').fst (Ab x2') (A4 x2').snd.snd)))))∧Ae false (∃(x3':Unit),A7 (m=m) (false=false) (Aa A0 A0 A0 A0 (A8 A0 A0 (Aj.fst=Ac i) (Ai Aj.snd.fst Ak.fst Ak.snd)))∧True)):=by kernel_rfl
theorem ybf(s w:Int)(m:Es)(va asid:Int):yr6 s w m va asid=(
 let A0:=Int.ofNat (0:Nat);
 let A1:=za1 va asid m;
 let A2:=List.length m;
 let A3(a:Int)(b:Prop):=a=(0:Int)∧b;
 let A4(a:Nat):=(zd4 va asid m a).snd.snd;
 let A5:=(↑(List.length m):Int);
 ∃(x0':Nat),(va=va∧asid=asid∧(0:Nat)=(0:Nat)∧A2=A2∧A5=A5∧A3 (↑x0':Int) (m=m∧false=false∧A3 A0 (A3 A0 (A3 A0 ((zd4 va asid m x0').fst=false∧A3 (zd4 va asid m x0').snd.fst (A3 (A4 x0').fst ((A4
  x0').snd=(0:Int))))))))∧x0'≤A2∧∀(x1':Unit),True→A1.fst=A1.fst∧A1.snd.fst=A1.snd.fst∧A1.snd.snd.fst=A1.snd.snd.fst∧A1.snd.snd.snd=A1.snd.snd.snd∧m=m):=by kernel_rfl
theorem ybj(s w:Int)(m:Es)(p:Bool):ysa s w m p=(
 (p=true→(List.length m=List.length m∧TlR (s,w,m))∧zan p (s,w,m)=zan true (s,w,m)∧m=m) ∧
   (p=false→(List.length m=List.length m∧TlR (s,w,m))∧zan p (s,w,m)=zan false (s,w,m)∧m=m)):=by kernel_rfl
theorem ztm(s w:Int)(m:Es):yhy s w m=(
 (List.length m=List.length m∧TlR (s,w,m)) ∧
   ((!zan true (s,w,m))=true→List.length m=List.length m∧TlR (s,w,m))∧(zbc (s,w,m)=bif zan true (s,w,m) then true else zan false (s,w,m))∧m=m):=by kernel_rfl
set_option linter.unusedSimpArgs false
theorem zaw.append{P:Program}:∀{l m:List (FuncId × Sum)},zaw P l→zaw P m→zaw P (l++m):=by
 intro l m hl hm p hp
 rcases List.mem_append.1 hp with h|h
 · exact hl p h
 · exact hm p h
theorem yuw:zaw Tryz.prog (kE3++kA4):=zj6.append zcg
theorem ycs:DictOk Tryz.prog FE3:=za0 yuw .nil .nil
theorem yfd:Sound Tryz.prog 264 (zah [stP,i64] [bl] (fun _=>none) (fun t=>t.2==1)):=by
 refine zad mixed Tryz.func264 (by kernel_rfl) (by kernel_rfl) zea (fun t _ => ?_)
 obtain⟨⟨⟩,k⟩:Unit × Int:=t
 exact zag (ztv k) rfl
theorem yfc:Sound Tryz.prog 263 (zah [stP,i64] [bl] (fun _=>none) (fun t=>t.2==2)):=by
 refine zad mixed Tryz.func263 (by kernel_rfl) (by kernel_rfl) zea (fun t _ => ?_)
 obtain⟨⟨⟩,k⟩:Unit × Int:=t
 exact zag (ztu k) rfl
theorem lv_ge(b:Int):(decide (b≥0)&&decide (b≤2))=lvM b:=rfl
theorem ylg{b:Int}(h:LvR b):IntKind.i64.wrap (9-IntKind.i64.wrap (3*b))=9-3*b∧pw (9-3*b)=2 ^ (9-3*b).toNat∧(9-3*b).toNat≤9∧0≤9-3*b∧9-3*b≤64:=by
 rcases zcm h with rfl|rfl|rfl<;>decide
theorem yfh:Sound Tryz.prog 92 (zah [enP,bl] [bl] (fun t=>some (EnR t.1)) (fun t=>zcb t.2 t.1)):=by
 refine zad mixed Tryz.func92 (by kernel_rfl) (by kernel_rfl) ycs (fun t h => ?_)
 obtain⟨⟨a,b,c,d,e,f⟩,p⟩:En × Bool:=t
 obtain⟨h1,h2,h3,h4⟩:I64 b∧U64 c∧U64 d∧U64 f:=h
 refine zag (zty a b c d e f p) ?_
 conv=>zeta
 simp only[Bool.cond_false_right]
 have hb:(a&&decide (b≥0)&&decide (b≤2))=(a&&lvM b):=by rw[Bool.and_assoc,lv_ge]
 rw[hb]
 have main:∀k:Int,k=zuu p→((a&&lvM b)=true→IntKind.i64.wrap (9-IntKind.i64.wrap (3*b))≤(64:Int)) ∧
  ((a&&lvM b&&decide (c<pw (IntKind.i64.wrap (9-IntKind.i64.wrap (3*b))))&&decide (d≤65535))=true→zhv (f,5)) ∧
  ((a&&lvM b&&decide (c<pw (IntKind.i64.wrap (9-IntKind.i64.wrap (3*b))))&&decide (d≤65535)&&(e==zay f 5))=true→U64 f) ∧
  zcb p (a,b,c,d,e,f)=(a&&lvM b&&decide (c<pw (IntKind.i64.wrap (9-IntKind.i64.wrap (3*b))))&&decide (d≤65535)&&(e==zay f 5)&&(za4 f b==k)):=by
  intro k hk
  refine⟨fun g => ?_,fun _=>zo5 h4 (by decide) (by decide),fun _=>h4, ?_⟩
  · have:LvR b:=zec.1 (by simp at g;exact g.2)
    obtain⟨w,_,_,_,_⟩:=ylg this
    rw[w]
    unfold LvR at this
    omega
  · rw[hk]
    by_cases hl:lvM b=true
    · obtain⟨w,q,_⟩:=ylg (zec.1 hl)
      rw[w,q]
      rfl
    · have hl:lvM b=false:=by simpa using hl
      simp[zcb,hl]
 refine⟨fun g=>main 1 (by simp[zuu,g]),fun g=>main 2 (by simp[zuu,g])⟩
theorem yfg:Sound Tryz.prog 90 (zah [enP,u64,u64] [bl] (fun t=>some (EnR t.1∧(t.1.1=true→LvR t.1.2.1)∧U64 t.2.1)) (fun t=>zdg t.1 t.2.1 t.2.2)):=by
 refine zad mixed Tryz.func90 (by kernel_rfl) (by kernel_rfl) ycs (fun t h => ?_)
 obtain⟨⟨a,b,c,d,e,f⟩,va,asid⟩:En × Int × Int:=t
 obtain⟨h1,h2,h3⟩:EnR (a,b,c,d,e,f)∧(a=true→LvR b)∧U64 va:=h
 refine zag (ztx a b c d e f va asid) ⟨fun g=>⟨h3,h2 g⟩, ?_⟩
 simp only[Bool.cond_false_right,Bool.cond_true_left]
 rfl
theorem yn2:zaw Tryz.prog kF1 := .cons (by kernel_rfl) yfd <| .cons (by kernel_rfl) yfc <| .cons (by kernel_rfl) yfh <| .cons (by kernel_rfl) yfg .nil
theorem yni:DictOk Tryz.prog FF1:=za0 ((yn2.append zj6).append zcg) .nil .nil
theorem zn3{a:Bool}{b c d:Int}{e:Bool}{f:Int}{p:Bool}{k:Int}(hk:k=zuu p) :
 ((a&&lvM b)=true→0≤IntKind.i64.wrap (9-IntKind.i64.wrap (3*b))) ∧
 zcb p (a,b,c,d,e,f)=(a&&lvM b&&decide (c<IntKind.u64.wrap (1*2 ^ min (IntKind.i64.wrap (9-IntKind.i64.wrap (3*b))).toNat 64))&&decide (d≤65535)&&(e==zay f 5)&&(za4 f b==k)):=by
 refine⟨fun g => ?_, ?_⟩
 · have:LvR b:=zec.1 (by simp at g;exact g.2)
   obtain⟨w,_,_,q,_⟩:=ylg this
   rw[w]
   exact q
 · rw[hk]
   by_cases hl:lvM b=true
   · obtain⟨w,q,_⟩:=ylg (zec.1 hl)
     have:IntKind.u64.wrap (1*2 ^ min (9-3*b).toNat 64)=2 ^ (9-3*b).toNat:=by
      rcases zcm (zec.1 hl) with rfl|rfl|rfl<;>decide
     rw[w,this]
     rfl
   · have hl:lvM b=false:=by simpa using hl
     simp[zcb,hl]
theorem yki:Sound Tryz.prog 186 (zah [tlP,enP] [bl] (fun t=>some (EnR t.2)) (fun t=>zcb true t.2)):=by
 refine zad mixed Tryz.func186 (by kernel_rfl) (by kernel_rfl) yni (fun t h => ?_)
 obtain⟨⟨s,w,m⟩,a,b,c,d,e,f⟩:Tl × En:=t
 obtain⟨h1,h2,h3,h4⟩:I64 b∧U64 c∧U64 d∧U64 f:=h
 refine zag (zwz s w m a b c d e f) ?_
 conv=>zeta
 simp only[Bool.cond_false_right]
 obtain⟨q1,q2⟩:=zn3 (a:=a) (b:=b) (c:=c) (d:=d) (e:=e) (p:=true) (k:=1) rfl
 exact⟨q1,fun _=>zo5 h4 (by decide) (by decide),fun _=>h4,q2,trivial⟩
theorem ykh:Sound Tryz.prog 184 (zah [tlP,enP] [bl] (fun t=>some (EnR t.2)) (fun t=>zcb false t.2)):=by
 refine zad mixed Tryz.func184 (by kernel_rfl) (by kernel_rfl) yni (fun t h => ?_)
 obtain⟨⟨s,w,m⟩,a,b,c,d,e,f⟩:Tl × En:=t
 obtain⟨h1,h2,h3,h4⟩:I64 b∧U64 c∧U64 d∧U64 f:=h
 refine zag (zwy s w m a b c d e f) ?_
 conv=>zeta
 simp only[Bool.cond_false_right]
 obtain⟨q1,q2⟩:=zn3 (a:=a) (b:=b) (c:=c) (d:=d) (e:=e) (p:=false) (k:=2) rfl
 exact⟨q1,fun _=>zo5 h4 (by decide) (by decide),fun _=>h4,q2,trivial⟩
theorem yn3:zaw Tryz.prog kF2 := .cons (by kernel_rfl) yki <| .cons (by kernel_rfl) ykh yn2
theorem zya:DictOk Tryz.prog FF2:=za0 ((yn3.append zj6).append zcg) .nil .nil
theorem yqw(e:En):(!(e.1==false&&(e.2.1==0&&(e.2.2.1==0&&(e.2.2.2.1==0&&(e.2.2.2.2.1==false&&(e.2.2.2.2.2==0&&true))))))) = !(e==zE):=by
 obtain⟨a,b,c,d,g,f⟩:=e
 rw[Bool.and_true]
 rfl
theorem zch{p:Bool}{s w:Int}{m:Es}:zh7 p s w m=true↔∀i,i<m.length→zk0 p s w i (m.getD i zE)=true:=by
 unfold zh7
 rw[List.all_eq_true]
 exact⟨fun h i hi=>h i (List.mem_range.2 hi),fun h i hi=>h i (List.mem_range.1 hi)⟩
theorem zge{s w:Int}{m:Es}(h:zcc s w m=true):(s=1∨s=2∨s=4∨s=8)∧1≤w∧w≤4∧(m.length:Int)=s*w:=by
 simp only[zcc,Bool.and_eq_true,Bool.or_eq_true,beq_iff_eq,decide_eq_true_eq] at h
 obtain⟨⟨⟨h1,h2⟩,h3⟩,h4⟩:=h
 exact⟨by omega,h2,h3,h4⟩
theorem yat{i:Nat}{w:Int}(hw:1≤w)(hi:i≤2097152):IntKind.i64.wrap ((i:Int).tdiv w)=(i:Int).tdiv w:=by
 rw[zem (by omega)]
 have h1:0≤(i:Int)/w:=Int.ediv_nonneg (by omega) (by omega)
 have h2:(i:Int)/w≤i:=Int.ediv_le_self _ (by omega)
 exact zaa (by omega) (by omega)
theorem zmh{p:Bool}{s w:Int}{i:Nat}{e:En}(hw:1≤w)(hi:i≤2097152):(bif !(e==zE) then bif !zcb p e then true else (IntKind.i64.wrap e.2.2.1).tmod s != IntKind.i64.wrap ((i:Int).tdiv w) else false) = !zk0 p s w i e:=by
 rw[yat hw hi]
 unfold zk0
 cases e==zE<;>cases zcb p e<;>simp[bne]
theorem zlu{m:Es}{i:Nat}(h:i<m.length)(d:En):m.getD i d ∈ m:=by
 rw[List.getD_eq_getElem?_getD,List.getElem?_eq_getElem h]
 exact List.getElem_mem h
theorem zmp{p:Bool}{s w:Int}{m:Es}{i:Nat}(h:∀j,j<i→zk0 p s w j (m.getD j zE)=true)(ho:zk0 p s w i (m.getD i zE)=true):∀j,j<i+1→zk0 p s w j (m.getD j zE)=true:=by
 intro j hj
 rcases Nat.lt_or_ge j i with z|z
 · exact h j z
 · have:j=i:=by omega
   subst this
   exact ho
theorem zp1{p:Bool}{s w:Int}{m:Es}{i:Nat}(hi:i<m.length)(ho:zk0 p s w i (m.getD i zE)=false):zh7 p s w m=false:=by
 cases e:zh7 p s w m with
 | false=>rfl
 | true=>rw[zch.1 e i hi] at ho;cases ho
theorem ykk(s:Int):yjm [1,2,4,8] s=(s==1||s==2||s==4||s==8):=by
 have e:∀a b:Int,decide (a=b)=(a==b):=fun a b=>rfl
 unfold yjm
 simp[Bool.or_assoc,e]
theorem yk3{s w:Int}(hs:s=1∨s=2∨s=4∨s=8)(h1:1≤w)(h2:w≤4):IntKind.i64.wrap (s*w)=s*w:=by
 rcases hs with rfl|rfl|rfl|rfl<;>exact zaa (by omega) (by omega)
theorem zr6(s w:Int)(m:Es):(!(s==1||s==2||s==4||s==8)||decide (w<1)||decide (w>4)||(m.length:Int) != IntKind.i64.wrap (s*w)) = !zcc s w m:=by
 unfold zcc
 by_cases h0:(s==1||s==2||s==4||s==8)=true
 · by_cases h1:1≤w
   · by_cases h2:w≤4
     · rw[yk3 (by simp at h0;omega) h1 h2,h0]
       have e1:¬ w<1:=by omega
       have e2:¬ w>4:=by omega
       simp[h1,h2,e1,e2,bne]
     · have e2:w>4:=by omega
       simp[h2,e2]
   · have e1:w<1:=by omega
     simp[h1,e1]
 · have h0:(s==1||s==2||s==4||s==8)=false:=by simpa using h0
   simp[h0]
theorem zyv(s w:Int)(m:Es):(bif bif bif !yjm [1,2,4,8] s then true else decide (w<1) then true else decide (w>4) then true else (m.length:Int) != IntKind.i64.wrap (s*w)) = !zcc s w m:=by
 rw[ykk, ← zr6]
 simp only[Bool.cond_true_left]
theorem yeq(s w:Int)(m:Es):(bif bif bif bif bif bif s != 1 then s != 2 else false then s != 4 else false then s != 8 else false then true else decide (w<1) then true else decide (w>4) then true else (m.length:Int) != IntKind.i64.wrap (s*w)) = !zcc s w m:=by
 have e:(s != 1&&s != 2&&s != 4&&s != 8) = !(s==1||s==2||s==4||s==8):=by simp only[Bool.not_or,bne]
 rw[← zr6, ← e]
 simp only[Bool.cond_true_left,Bool.cond_false_right]
theorem yr0:Sound Tryz.prog 185 (zah [tlP] [bl] (fun t=>some (TlR t)) (zan true)):=by
 refine zcp mixed Tryz.func185 (by kernel_rfl) (b:=zai Tryz.f185 0) (k:=4) (by kernel_rfl) (by kernel_rfl) (by kernel_rfl) zya (fun t h => ?_)
 obtain⟨s,w,m⟩:Tl:=t
 obtain⟨h1,h2,h,h4⟩:I64 s∧I64 w∧SzR m.length∧∀e ∈ m,EnR e:=h
 have hs:m.length≤2097152:=h
 refine⟨.one 4 (yjp true 159 s w m),yjp true 159 s w m,fun i:Nat=>m.length-i,zbx _ _,fun  (i:Nat) hi=>zag (zul s w m i) ?_,zag (yce s w m) ?_⟩
 all_goals (try conv=>zeta)
 · obtain⟨hd,hi,hb⟩:zcc s w m=true∧i≤m.length∧∀j,j<i→zk0 true s w j (m.getD j zE)=true:=hi
   obtain⟨g1,g2,g3,g4⟩:=zge hd
   refine⟨fun g => ?_,fun g => ?_⟩
   · have g:(i:Int)<m.length:=of_decide_eq_true g
     have hlt:i<m.length:=by omega
     have hm:=h4 _ (zlu hlt zE)
     rw[zfi h hlt,show 0+(i:Int).toNat=i by omega,show El.zero shE=zE from rfl]
     have hno:=fun q=>zp1 (p:=true) (s:=s) (w:=w) hlt q
     have hyes:=fun q=>zmp (p:=true) (s:=s) (w:=w) (m:=m) hb q
     generalize m.getD i zE=e at *
     obtain⟨a,b,c,d,k,f⟩:=e
     have hz:=yqw (a,b,c,d,k,f)
     have hc:=zmh (p:=true) (s:=s) (w:=w) (i:=i) (e:=(a,b,c,d,k,f)) g2 (by omega)
     simp only at hz hc
     rw[hz,hc]
     have s0:s≠0:=by omega
     have w0:w≠0:=by omega
     exact⟨⟨by omega,by omega⟩,by omega,fun _=>⟨rfl,hm⟩,fun _=>s0,fun _=>w0,fun q=>⟨(),⟨rfl,rfl⟩,hno (by simpa using q)⟩,fun q=>⟨i+1,⟨rfl,rfl,rfl,rfl,rfl,rfl,rfl,rfl,rfl⟩,⟨hd,by omega,hyes (by simpa using q)⟩,by omega,fun _ z=>z,fun _ z=>z⟩⟩
   · have g:¬ (i:Int)<m.length:=of_decide_eq_false g
     have:i=m.length:=by omega
     subst this
     exact⟨(),rfl,zch.2 hb⟩
 · rw[zyv]
   exact⟨⟨rfl,by unfold SzR;decide⟩,fun q=>⟨by simp at q;simp[zan,q],rfl⟩,fun q=>⟨0,⟨rfl,rfl,rfl,rfl,rfl,rfl,rfl,rfl,rfl⟩,⟨by simpa using q,by omega,fun j hj=>absurd hj (Nat.not_lt_zero _)⟩,fun _ z=>⟨by simp at q;simp[zan,q,z],rfl⟩,fun _ z=>⟨by simp[zan,z],rfl⟩⟩⟩
theorem yrz:Sound Tryz.prog 183 (zah [tlP] [bl] (fun t=>some (TlR t)) (zan false)):=by
 refine zcp mixed Tryz.func183 (by kernel_rfl) (b:=zai Tryz.f183 0) (k:=4) (by kernel_rfl) (by kernel_rfl) (by kernel_rfl) zya (fun t h => ?_)
 obtain⟨s,w,m⟩:Tl:=t
 obtain⟨h1,h2,h,h4⟩:I64 s∧I64 w∧SzR m.length∧∀e ∈ m,EnR e:=h
 have hs:m.length≤2097152:=h
 refine⟨.one 4 (yjp false 155 s w m),yjp false 155 s w m,fun i:Nat=>m.length-i,zbx _ _,fun  (i:Nat) hi=>zag (zuk s w m i) ?_,zag (ycd s w m) ?_⟩
 all_goals (try conv=>zeta)
 · obtain⟨hd,hi,hb⟩:zcc s w m=true∧i≤m.length∧∀j,j<i→zk0 false s w j (m.getD j zE)=true:=hi
   obtain⟨g1,g2,g3,g4⟩:=zge hd
   refine⟨fun g => ?_,fun g => ?_⟩
   · have g:(i:Int)<m.length:=of_decide_eq_true g
     have hlt:i<m.length:=by omega
     have hm:=h4 _ (zlu hlt zE)
     rw[zfi h hlt,show 0+(i:Int).toNat=i by omega,show El.zero shE=zE from rfl]
     have hno:=fun q=>zp1 (p:=false) (s:=s) (w:=w) hlt q
     have hyes:=fun q=>zmp (p:=false) (s:=s) (w:=w) (m:=m) hb q
     generalize m.getD i zE=e at *
     obtain⟨a,b,c,d,k,f⟩:=e
     have hz:=yqw (a,b,c,d,k,f)
     have hc:=zmh (p:=false) (s:=s) (w:=w) (i:=i) (e:=(a,b,c,d,k,f)) g2 (by omega)
     simp only at hz hc
     rw[hz,hc]
     have s0:s≠0:=by omega
     have w0:w≠0:=by omega
     exact⟨⟨by omega,by omega⟩,by omega,fun _=>⟨rfl,hm⟩,fun _=>s0,fun _=>w0,fun q=>⟨(),⟨rfl,rfl⟩,hno (by simpa using q)⟩,fun q=>⟨i+1,⟨rfl,rfl,rfl,rfl,rfl,rfl,rfl,rfl,rfl⟩,⟨hd,by omega,hyes (by simpa using q)⟩,by omega,fun _ z=>z,fun _ z=>z⟩⟩
   · have g:¬ (i:Int)<m.length:=of_decide_eq_false g
     have:i=m.length:=by omega
     subst this
     exact⟨(),rfl,zch.2 hb⟩
 · rw[zyv]
   exact⟨⟨rfl,by unfold SzR;decide⟩,fun q=>⟨by simp at q;simp[zan,q],rfl⟩,fun q=>⟨0,⟨rfl,rfl,rfl,rfl,rfl,rfl,rfl,rfl,rfl⟩,⟨by simpa using q,by omega,fun j hj=>absurd hj (Nat.not_lt_zero _)⟩,fun _ z=>⟨by simp at q;simp[zan,q,z],rfl⟩,fun _ z=>⟨by simp[zan,z],rfl⟩⟩⟩
theorem yrt:Sound Tryz.prog 40 (zah [tlP,bl] [bl] (fun t=>some (TlR t.1)) (fun t=>zan t.2 t.1)):=by
 refine zcp mixed Tryz.func40 (by kernel_rfl) (b:=zai Tryz.f40 0) (k:=4) (by kernel_rfl) (by kernel_rfl) (by kernel_rfl) zya (fun t h => ?_)
 obtain⟨⟨s,w,m⟩,p⟩:Tl × Bool:=t
 obtain⟨h1,h2,h,h4⟩:I64 s∧I64 w∧SzR m.length∧∀e ∈ m,EnR e:=h
 have hs:m.length≤2097152:=h
 refine⟨.one 4 (yhc p s w m),yhc p s w m,fun i:Nat=>m.length-i,zbx _ _,fun  (i:Nat) hi=>zag (zuj s w m p i) ?_,zag (ycc s w m p) ?_⟩
 all_goals (try conv=>zeta)
 · obtain⟨hd,hi,hb⟩:zcc s w m=true∧i≤m.length∧∀j,j<i→zk0 p s w j (m.getD j zE)=true:=hi
   obtain⟨g1,g2,g3,g4⟩:=zge hd
   refine⟨fun g => ?_,fun g => ?_⟩
   · have g:(i:Int)<m.length:=of_decide_eq_true g
     have hlt:i<m.length:=by omega
     have hm:=h4 _ (zlu hlt zE)
     rw[zfi h hlt,show 0+(i:Int).toNat=i by omega,show El.zero shE=zE from rfl]
     have hno:=fun q=>zp1 (p:=p) (s:=s) (w:=w) hlt q
     have hyes:=fun q=>zmp (p:=p) (s:=s) (w:=w) (m:=m) hb q
     generalize m.getD i zE=e at *
     obtain⟨a,b,c,d,k,f⟩:=e
     have hz:=yqw (a,b,c,d,k,f)
     have hc:=zmh (p:=p) (s:=s) (w:=w) (i:=i) (e:=(a,b,c,d,k,f)) g2 (by omega)
     simp only at hz hc
     rw[hz,hc]
     have s0:s≠0:=by omega
     have w0:w≠0:=by omega
     exact⟨⟨by omega,by omega⟩,by omega,fun _=>hm,fun _=>s0,fun _=>w0,fun q=>⟨(),⟨rfl,rfl⟩,hno (by simpa using q)⟩,fun q=>⟨i+1,⟨rfl,rfl,rfl,rfl,rfl,rfl,rfl⟩,⟨hd,by omega,hyes (by simpa using q)⟩,by omega,fun _ z=>z,fun _ z=>z⟩⟩
   · have g:¬ (i:Int)<m.length:=of_decide_eq_false g
     have:i=m.length:=by omega
     subst this
     exact⟨(),rfl,zch.2 hb⟩
 · rw[yeq]
   exact⟨fun q=>⟨by simp at q;simp[zan,q],rfl⟩,fun q=>⟨0,⟨rfl,rfl,rfl,rfl,rfl,rfl,rfl⟩,⟨by simpa using q,by omega,fun j hj=>absurd hj (Nat.not_lt_zero _)⟩,fun _ z=>⟨by simp at q;simp[zan,q,z],rfl⟩,fun _ z=>⟨by simp[zan,z],rfl⟩⟩⟩
theorem yl5{p:Bool}{t:Tl}(h:zan p t=true){i:Nat}(hi:i<t.2.2.length)(hv:(t.2.2.getD i zE).1=true):LvR (t.2.2.getD i zE).2.1:=by
 simp only[zan,Bool.and_eq_true] at h
 have:=zch.1 h.2 i hi
 simp only[zk0,Bool.or_eq_true,Bool.and_eq_true] at this
 rcases this with e|e
 · have e:t.2.2.getD i zE=zE:=by simpa using e
   rw[e] at hv
   cases hv
 · have:=e.1
   simp only[zcb,Bool.and_eq_true] at this
   exact zec.1 this.1.1.1.1.2
theorem zll{t:Tl}(h:zbc t=true){i:Nat}(hi:i<t.2.2.length)(hv:(t.2.2.getD i zE).1=true):LvR (t.2.2.getD i zE).2.1:=by
 simp only[zbc,Bool.or_eq_true] at h
 rcases h with h|h<;>exact yl5 h hi hv
theorem yp4:Sound Tryz.prog 98 (zah [tlP,u64,u64] [ys0] (fun t=>some (zbc t.1=true∧TlR t.1∧U64 t.2.1)) (fun t=>za1 t.2.1 t.2.2 t.1.2.2)):=by
 refine zcp mixed Tryz.func98 (by kernel_rfl) (b:=zai Tryz.f98 0) (k:=3) (by kernel_rfl) (by kernel_rfl) (by kernel_rfl) zya (fun t h => ?_)
 obtain⟨⟨s,w,m⟩,va,asid⟩:Tl × Int × Int:=t
 obtain⟨h0,⟨h1,h2,h,h4⟩,h5⟩:zbc (s,w,m)=true∧(I64 s∧I64 w∧SzR m.length∧∀e ∈ m,EnR e)∧U64 va:=h
 have hs:m.length≤2097152:=h
 refine⟨.one 3 (yed va asid m),yed va asid m,fun i:Nat=>m.length-i,zbx _ _,fun  (i:Nat) hi=>zag (ztn va asid m i) ?_,zag (ybf s w m va asid) ?_⟩
 all_goals (try conv=>zeta)
 · have hi:i≤m.length:=hi
   refine⟨fun g => ?_,fun g => ?_⟩
   · have g:(i:Int)<m.length:=of_decide_eq_true g
     have hlt:i<m.length:=by omega
     have hlv:=zll h0 hlt
     simp only at hlv
     have hnext:zd4 va asid m (i+1)=zc5 va asid (zd4 va asid m i) i (m.getD i zE):=rfl
     rw[zfi h hlt,show 0+(i:Int).toNat=i by omega,show El.zero shE=zE from rfl]
     generalize m.getD i zE=e at *
     obtain⟨a,b,c,d,k,f⟩:=e
     simp only[Bool.cond_true_left,Bool.cond_false_right]
     refine⟨⟨by omega,by omega⟩,by omega,fun q=>⟨h5,hlv q⟩,fun q=>⟨i+1,⟨trivial,trivial,trivial,trivial,trivial,rfl,trivial,trivial,trivial,trivial,trivial, ?_⟩,by omega,by omega,fun _ _=>trivial⟩,fun q=>⟨i+1,⟨trivial,trivial,trivial,trivial,trivial,rfl,trivial,trivial,trivial,trivial,trivial, ?_⟩,by omega,by omega,fun _ _=>trivial⟩⟩
     · rw[hnext]
       unfold zc5
       rw[if_pos (by unfold zdg;exact q)]
       exact⟨rfl,rfl,rfl,rfl⟩
     · rw[hnext]
       unfold zc5
       rw[if_neg (by unfold zdg;rw[q];decide)]
       exact⟨rfl,rfl,rfl,rfl⟩
   · have g:¬ (i:Int)<m.length:=of_decide_eq_false g
     have:i=m.length:=by omega
     subst this
     exact⟨(),⟨rfl,rfl,rfl,rfl,rfl,rfl,rfl,rfl,rfl⟩,trivial⟩
 · exact⟨0,⟨rfl,rfl,rfl,rfl,rfl,rfl,rfl,rfl,rfl,rfl,rfl,rfl,rfl,rfl,rfl⟩,by omega,fun _ _=>⟨rfl,rfl,rfl,rfl,rfl⟩⟩
theorem yn4:zaw Tryz.prog kF3 := .cons (by kernel_rfl) yr0 <| .cons (by kernel_rfl) yrz <| .cons (by kernel_rfl) yrt <| .cons (by kernel_rfl) yp4 yn3
theorem ynj:DictOk Tryz.prog FF3:=za0 ((yn4.append zj6).append zcg) .nil .nil
theorem yqc:Sound Tryz.prog 195 (zah [tlP,bl] [bl] (fun t=>some (TlR t.1)) (fun t=>zan t.2 t.1)):=by
 refine zad mixed Tryz.func195 (by kernel_rfl) (by kernel_rfl) ynj (fun t h => ?_)
 obtain⟨⟨s,w,m⟩,p⟩:Tl × Bool:=t
 have h:TlR (s,w,m):=h
 refine zag (ybj s w m p) ⟨fun g => ?_,fun g => ?_⟩<;>subst g<;>exact⟨⟨rfl,h⟩,rfl,rfl⟩
theorem yd8:Sound Tryz.prog 89 (zah [tlP] [bl] (fun t=>some (TlR t)) zbc):=by
 refine zad mixed Tryz.func89 (by kernel_rfl) (by kernel_rfl) ynj (fun t h => ?_)
 obtain⟨s,w,m⟩:Tl:=t
 have h:TlR (s,w,m):=h
 refine zag (ztm s w m) ⟨⟨rfl,h⟩,fun _=>⟨rfl,h⟩, ?_,rfl⟩
 rw[Bool.cond_true_left]
 rfl
theorem zsa:zaw Tryz.prog kF4 := .cons (by kernel_rfl) yqc <| .cons (by kernel_rfl) yd8 <| yn4
theorem ycw:DictOk Tryz.prog FF4:=za0 ((zsa.append zj6).append zcg) .nil .nil
end Go.Proofs.YtfiddfbagbaofaaGreat.V
