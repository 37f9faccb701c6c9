/- Valid caches, and finding in them, answer as their models. Conditions: those in each statement. -/
import Derived.Test.YtfiddfbagbaofaaGreatGE
import Derived.KernelRfl
namespace Go.Proofs.YtfiddfbagbaofaaGreat.V
open Go
def EnR(e:En):Prop:=I64 e.2.1∧U64 e.2.2.1∧U64 e.2.2.2.1∧U64 e.2.2.2.2.2
def TlR(t:Tl):Prop:=I64 t.1∧I64 t.2.1∧SzR t.2.2.length∧∀e ∈ t.2.2,EnR e
def zzp(ptr:Bool):Int:=if ptr=true then 1 else 2
def zdz(ptr:Bool)(e:En):Bool:=e.1&&lvM e.2.1&&decide (e.2.2.1<2 ^ (9-3*e.2.1).toNat)&&decide (e.2.2.2.1≤65535)&&(e.2.2.2.2.1==za0 e.2.2.2.2.2 5)&&(za7 e.2.2.2.2.2 e.2.1==zzp ptr)
def ztz(ptr:Bool)(s w:Int)(i:Nat)(e:En):Bool:=e==zE||(zdz ptr e&&(IntKind.i64.wrap e.2.2.1).tmod s==((i:Int).tdiv w))
def zrm(ptr:Bool)(s w:Int)(m:Es):Bool:=(List.range m.length).all fun i=>ztz ptr s w i (m.getD i zE)
def zcw(s w:Int)(m:Es):Bool:=(s==1||s==2||s==4||s==8)&&decide (1≤w)&&decide (w≤4)&&(m.length:Int)==s*w
def zat(ptr:Bool)(t:Tl):Bool:=zcw t.1 t.2.1 t.2.2&&zrm ptr t.1 t.2.1 t.2.2
def zbb(t:Tl):Bool:=zat true t||zat false t
def zdy(e:En)(va asid:Int):Bool:=e.1&&(e.2.2.1==zj4 va e.2.1)&&(e.2.2.2.2.1||e.2.2.2.1==asid)
def FE3:Dict:=mkD (kE3++kA4) [] []
def ykq(a:Bool)(b c d:Int)(e:Bool)(f:Int)(p:Bool):Prop:=zal Tryz.prog FE3 .none Tryz.f92 [enP,bl] [bl] ((a,b,c,d,e,f),p) (zdz p (a,b,c,d,e,f))
def ykp(a:Bool)(b c d:Int)(e:Bool)(f:Int)(va asid:Int):Prop:=zal Tryz.prog FE3 .none Tryz.f90 [enP,u64,u64] [bl] ((a,b,c,d,e,f),va,asid) (zdy (a,b,c,d,e,f) va asid)
def kF1:Known:=[
 (92,zai [enP,bl] [bl] (fun t=>some (EnR t.1)) (fun t=>zdz t.2 t.1)),
 (90,zai [enP,u64,u64] [bl] (fun t=>some (EnR t.1∧(t.1.1=true→LvR t.1.2.1)∧U64 t.2.1)) (fun t=>zdy t.1 t.2.1 t.2.2))]
def kF2:Known:=[
 ]++kF1
def FF2:Dict:=mkD (kF2++kE3++kA4) [] []
def yjg(ptr:Bool)(s w:Int)(m:Es):LoopS where
 α:=Nat
 I i:=zcw s w m=true∧i≤m.length∧∀j,j<i→ztz ptr s w j (m.getD j zE)=true
 sl i:=slots 80 [(1,.v (.bool ptr)),(2,.ptr 1 0),(5,.v (.int .i64 i))]
 H _:=[.arr shE m false,.fix [.v (.int .i64 s),.v (.int .i64 w),.sl 0 6 0 m.length] true (some 37)]
 fams:=[{ β:=Unit,out:=fun _ _=>zrm ptr s w m=true,ex := .ext 0,sl:=fun _=>slots 80 [],H:=fun _=>[.arr shE m false] },
  { β:=Unit,out:=fun _ _=>zrm ptr s w m=false,ex := .ret,sl:=fun _=>slots 80 [(4,.v (.bool false))],H:=fun _=>[.arr shE m false] }]
def ylg(s w:Int)(m:Es)(p:Bool)(i:Nat):Prop:=zam Tryz.prog FF2 (.one 4 (yjg p s w m)) 1 (zag Tryz.f40 0) (yjg p s w m) (fun i:Nat=>m.length-i) i
def yws(s w:Int)(m:Es)(p:Bool):Prop:=zal Tryz.prog FF2 (.one 4 (yjg p s w m)) Tryz.f40 [tlP,bl] [bl] ((s,w,m),p) (zat p (s,w,m))
abbrev Hi:=Bool × Int × Int × Int
def zc9(va asid:Int)(o:Hi)(i:Nat)(e:En):Hi:=if (zdy e va asid&&(!o.1||decide (e.2.1<o.2.2.1)))=true then (true,(i:Int),e.2.1,e.2.2.2.2.2) else o
def zeh(va asid:Int)(m:Es):Nat→Hi
 | 0=>(false,0,0,0)
 | i+1=>zc9 va asid (zeh va asid m i) i (m.getD i zE)
def za2(va asid:Int)(m:Es):Hi:=zeh va asid m m.length
def yae(o:Hi):List Av:=[.v (.bool o.1),.v (.int .i64 o.2.1),.v (.int .i64 o.2.2.1),.v (.int .u64 o.2.2.2)]
def yf4(va asid:Int)(m:Es):LoopS where
 α:=Nat
 I i:=i≤m.length
 sl i:=slots 59 [(1,.v (.int .u64 va)),(2,.v (.int .u64 asid)),(6,.ptr 1 0),(7,.ptr 2 0),(11,.sl 0 6 0 m.length),(12,.v (.int .i64 m.length)),(13,.v (.int .i64 i))]
 H i:=[.arr shE m false,.fix (yae (false,0,0,0)) true (some 52),.fix (yae (zeh va asid m i)) true (some 52)]
 fams:=[{ β:=Unit,out:=fun _ _=>True,ex := .ext 0,sl:=fun _=>slots 59 [(6,.ptr 1 0),(7,.ptr 2 0)],H:=fun _=>[.arr shE m false,.fix (yae (false,0,0,0)) true (some 52),.fix (yae (za2 va asid m)) true (some 52)] }]
def ykf(va asid:Int)(m:Es)(i:Nat):Prop:=zam Tryz.prog FF2 (.one 3 (yf4 va asid m)) 1 (zag Tryz.f98 0) (yf4 va asid m) (fun i:Nat=>m.length-i) i
def ywe(s w:Int)(m:Es)(va asid:Int):Prop:=zal Tryz.prog FF2 (.one 3 (yf4 va asid m)) Tryz.f98 [tlP,u64,u64] [yw6] ((s,w,m),va,asid) (za2 va asid m)
def kF3:Known:=[
 (40,zai [tlP,bl] [bl] (fun t=>some (TlR t.1)) (fun t=>zat t.2 t.1)),
 (98,zai [tlP,u64,u64] [yw6] (fun t=>some (zbb t.1=true∧TlR t.1∧U64 t.2.1)) (fun t=>za2 t.2.1 t.2.2 t.1.2.2))]++kF2
def FF3:Dict:=mkD (kF3++kE3++kA4) [] []
def yj5(s w:Int)(m:Es):Prop:=zal Tryz.prog FF3 .none Tryz.f89 [tlP] [bl] (s,w,m) (zbb (s,w,m))
def kF4:Known:=[
 (89,zai [tlP] [bl] (fun t=>some (TlR t)) zbb),
 ]++kF3
def FF4:Dict:=mkD (kF4++kE3++kA4) [] []
set_option linter.unusedVariables false
theorem zva(a:Bool)(b c d:Int)(e:Bool)(f:Int)(p:Bool):ykq a b c d e f p=(
 let A0(a b:Bool):=bif a then b else false;
 let A1(a:Int):=IntKind.i64.wrap a;
 let A2:=A0 (A0 a (decide (b≥0))) (decide (b≤2));
 let A3:=(9:Int)-A1 ((3:Int)*b);
 let A4:=A0 (A0 A2 (decide (c<(pw (A1 A3))))) (decide (d≤65535));
 let A5(a:Bool)(b c:Prop):=(a=true→b)∧c;
 let A6(g:Int):=A5 A2 (A1 A3≤(64:PmT [i64])) (A5 A4 (zi3 (f,5)) (A5 (A0 A4 (e==za0 f 5)) (U64 f) (zdz p (a,b,c,d,e,f)=A0 (A0 A4 (e==za0 f 5)) (za7 f b==g))));
 A5 p (A6 1) (p=false→A6 2)):=by kernel_rfl
theorem zu9(a:Bool)(b c d:Int)(e:Bool)(f:Int)(va asid:Int):ykp a b c d e f va asid=(
 (a=true→U64 va∧LvR b)∧zdy (a,b,c,d,e,f) va asid=bif bif a then c==zj4 va b else false then bif e then true else d==asid else false):=by kernel_rfl
theorem zv1(s w:Int)(m:Es)(p:Bool)(i:Nat):ylg s w m p i=(
 let A0:=(0:Nat)+(↑i:Int).toNat;
 let A1:=(List.getD m A0 (El.zero shE)).2;
 let A2:=A1.2.2;
 let A3:=List.length m;
 let A4:=(↑i:Int);
 let A5:=A1.2.1;
 let A6(a:Bool):=zrm p s w m=a;
 let A7:=(List.getD m A0 (El.zero shE)).1;
 let A8:=(A1.1,A5,A2.1,A2.2.1,A2.2.2);
 let A9(a b c:Prop):=a∧b∧c;
 let Aa:=A7==false&&(A1.1==0&&(A5==0&&(A2.1==0&&(A2.2.1==false&&(A2.2.2==0&&true)))));
 let Ab:=decide (A4<(↑A3:Int));
 let Ac(a:Bool)(b:Prop):=a=true→b;
 let Ad:=bif !Aa then bif !zdz p (A7,A8) then true else (IntKind.i64.wrap A5).tmod s != IntKind.i64.wrap (A4.tdiv w) else false;
 let Ae(a:Int):=(match (!Aa),(!!zdz p (A7,A8)) with|true,y=>y|false,x=>false)=true→a≠0;
 Ac Ab (A9 ((0:Int)≤A4∧A4<(↑A3:Int)) (A0<A3) (A9 (Ac (!Aa) (EnR (A7,A8))) (Ae s) (A9 (Ae w) (Ac Ad (∃(x0:Unit),(false=false∧m=m)∧A6 false)) (Ad=false→∃(x1:Nat),A9 (A9 (p=p) ((↑x1:Int) =
  IntKind.i64.wrap (A4+1)) (A9 (m=m) (s=s) (A9 (w=w) ((0:Nat)=0) (A3=A3)))) (A9 (zcw s w m=true) (x1≤A3) (∀(x2:Nat),x2<x1→ztz p s w x2 (List.getD m x2 zE)=true)) (A9 (A3-x1<A3-i) (∀
  (x3:Unit),A6 true→A6 true) (∀(x4:Unit),A6 false→A6 false))))))∧(Ab=false→∃(x5:Unit),m=m∧A6 true)):=by kernel_rfl
theorem yd3(s w:Int)(m:Es)(p:Bool):yws s w m p=(
 let A0(a b c d e:Bool):=bif bif a then b else c then d else e;
 let A1:=List.length m;
 let A2:=zat p (s,w,m)=false;
 let A3(a:Bool)(b:Prop):=zrm p s w m=a→b∧m=m;
 let A4(a:Bool)(b:Prop):=A0 (A0 (A0 (s != 1) (s != 2) false (s != 4) false) (s != 8) false true (decide (w<1))) true (decide (w>4)) true ((↑(List.length m):Int) !=
  IntKind.i64.wrap (s*w))=a→b;
 A4 true (A2∧m=m)∧A4 false (∃(x0:Nat),(p=p∧(↑x0:Int)=0∧m=m∧s=s∧w=w∧(0:Nat)=0∧A1=A1)∧(zcw s w m=true∧x0≤A1∧∀(x1:Nat),x1<x0→ztz p s w x1 (List.getD m x1 zE) =
  true)∧(∀(x2:Unit),A3 true (zat p (s,w,m)=true))∧∀(x3:Unit),A3 false A2)):=by kernel_rfl
theorem zuy(va asid:Int)(m:Es)(i:Nat):ykf va asid m i=(
 let A0:=Int.ofNat 0;
 let A1:=(0:Nat)+(↑i:Int).toNat;
 let A2:=List.getD m A1 (El.zero shE);
 let A3:=List.length m;
 let A4(a:Nat):=(zeh va asid m a).2;
 let A5:=(↑A3:Int);
 let A6:=(↑i:Int);
 let A7(a b c:Prop):=a∧b∧c;
 let A8(a b:Int)(c d:Prop):=A7 (a=b) c d;
 let A9:=A2.2.1;
 let Aa(a b c d:Int)(e:Prop):=A8 a b (c=d) e;
 let Ab(a:Nat):=(A4 a).2.1;
 let Ac(a:Nat):=(zeh va asid m a).1;
 let Ad:=A2.2.2.2;
 let Ae(a:Bool)(b:Prop):=decide (A6<A5)=a→b;
 let Af(a:Nat)(b:Bool)(c:Prop):=Aa va va asid asid (A7 ((0:Nat)=0) (A3=A3) (Aa A5 A5 (↑a:Int) (IntKind.i64.wrap (A6+1)) (A7 (m=m) (false=false) (Aa A0 A0 A0 A0 (A8 A0 A0 (Ac a=b) c)))))∧A7 (a ≤
  A3) (A3-a<A3-i) (∀(x1:Unit),True→True);
 let Ah(a:Bool)(b:Prop):=(bif bif bif A2.1 then A2.2.2.1==zj4 va A9 else false then bif Ad.2.1 then true else Ad.1==asid else false then bif !Ac i then true else decide (A9<(Ab i)) else false)=a→b;
 let Ai(a b c:Int):=Aa a (A4 i).1 b (Ab i) (c=(A4 i).2.2);
 let Aj:=za2 va asid m;
 let Ak:=(za2 va asid m).2.2;
 Ae true (A7 ((0:Int)≤A6∧A6<A5) (A1<A3) (A7 (A2.1=true→U64 va∧LvR A9) (Ah true (∃(x0:Nat),Af x0 true (A8 (A4 x0).1 A6 (Ab x0=A9) ((A4 x0).2.2=Ad.2.2)))) (Ah false (∃(x2:Nat),Af x2 (Ac i) (Ai (A4
  x2).1 (Ab x2) (A4 x2).2.2)))))∧Ae false (∃(x3:Unit),A7 (m=m) (false=false) (Aa A0 A0 A0 A0 (A8 A0 A0 (Aj.1=Ac i) (Ai Aj.2.1 Ak.1 Ak.2)))∧True)):=by kernel_rfl
theorem yc7(s w:Int)(m:Es)(va asid:Int):ywe s w m va asid=(
 let A0:=Int.ofNat 0;
 let A1:=za2 va asid m;
 let A2:=List.length m;
 let A3(a:Int)(b:Prop):=a=0∧b;
 let A4(a:Nat):=(zeh va asid m a).2.2;
 let A5:=(↑(List.length m):Int);
 ∃(x0:Nat),(va=va∧asid=asid∧(0:Nat)=0∧A2=A2∧A5=A5∧A3 (↑x0:Int) (m=m∧false=false∧A3 A0 (A3 A0 (A3 A0 ((zeh va asid m x0).1=false∧A3 (zeh va asid m x0).2.1 (A3 (A4 x0).1 ((A4
  x0).2=0)))))))∧x0≤A2∧∀(x1:Unit),True→A1.1=A1.1∧A1.2.1=A1.2.1∧A1.2.2.1=A1.2.2.1∧A1.2.2.2=A1.2.2.2∧m=m):=by kernel_rfl
theorem zuu(s w:Int)(m:Es):yj5 s w m=(
 (List.length m=List.length m∧TlR (s,w,m)) ∧
   ((!zat true (s,w,m))=true→List.length m=List.length m∧TlR (s,w,m))∧(zbb (s,w,m)=bif zat true (s,w,m) then true else zat false (s,w,m))∧m=m):=by kernel_rfl
set_option linter.unusedSimpArgs false
theorem zar.append{P:Program}:∀{l m:List (FuncId × Sum)},zar P l→zar P m→zar P (l++m):=by
 intro l m hl hm p hp
 rcases List.mem_append.1 hp with h|h
 · exact hl p h
 · exact hm p h
theorem yy2:zar Tryz.prog (kE3++kA4):=zmy.append zc4
theorem yeh:DictOk Tryz.prog FE3:=zay yy2 .nil .nil
theorem lv_ge(b:Int):(decide (b≥0)&&decide (b≤2))=lvM b:=rfl
theorem yzq{b:Int}(h:LvR b):IntKind.i64.wrap (9-IntKind.i64.wrap (3*b))=9-3*b∧pw (9-3*b)=2 ^ (9-3*b).toNat∧(9-3*b).toNat≤9∧0≤9-3*b∧9-3*b≤64:=by
 rcases zcn h with rfl|rfl|rfl<;>decide
theorem yhg:Sound Tryz.prog 92 (zai [enP,bl] [bl] (fun t=>some (EnR t.1)) (fun t=>zdz t.2 t.1)):=by
 refine zad mixed Tryz.func92 (by kernel_rfl) (by kernel_rfl) yeh (fun t h => ?_)
 obtain⟨⟨a,b,c,d,e,f⟩,p⟩:En × Bool:=t
 obtain⟨h1,h2,h3,h4⟩:I64 b∧U64 c∧U64 d∧U64 f:=h
 refine zab (zva a b c d e f p) ?_
 conv=>zeta
 simp only[Bool.cond_false_right]
 have hb:(a&&decide (b≥0)&&decide (b≤2))=(a&&lvM b):=by rw[Bool.and_assoc,lv_ge]
 rw[hb]
 have main:∀k:Int,k=zzp p→((a&&lvM b)=true→IntKind.i64.wrap (9-IntKind.i64.wrap (3*b))≤(64:Int)) ∧
  ((a&&lvM b&&decide (c<pw (IntKind.i64.wrap (9-IntKind.i64.wrap (3*b))))&&decide (d≤65535))=true→zi3 (f,5)) ∧
  ((a&&lvM b&&decide (c<pw (IntKind.i64.wrap (9-IntKind.i64.wrap (3*b))))&&decide (d≤65535)&&(e==za0 f 5))=true→U64 f) ∧
  zdz p (a,b,c,d,e,f)=(a&&lvM b&&decide (c<pw (IntKind.i64.wrap (9-IntKind.i64.wrap (3*b))))&&decide (d≤65535)&&(e==za0 f 5)&&(za7 f b==k)):=by
  intro k hk
  refine⟨fun g => ?_,fun _=>yfh h4 (by decide) (by decide),fun _=>h4, ?_⟩
  · have:LvR b:=zgq.1 (by simp at g;exact g.2)
    obtain⟨w,_,_,_,_⟩:=yzq this
    rw[w]
    unfold LvR at this
    omega
  · rw[hk]
    by_cases hl:lvM b=true
    · obtain⟨w,q,_⟩:=yzq (zgq.1 hl)
      rw[w,q]
      rfl
    · have hl:lvM b=false:=by simpa using hl
      simp[zdz,hl]
 refine⟨fun g=>main 1 (by simp[zzp,g]),fun g=>main 2 (by simp[zzp,g])⟩
theorem yhf:Sound Tryz.prog 90 (zai [enP,u64,u64] [bl] (fun t=>some (EnR t.1∧(t.1.1=true→LvR t.1.2.1)∧U64 t.2.1)) (fun t=>zdy t.1 t.2.1 t.2.2)):=by
 refine zad mixed Tryz.func90 (by kernel_rfl) (by kernel_rfl) yeh (fun t h => ?_)
 obtain⟨⟨a,b,c,d,e,f⟩,va,asid⟩:En × Int × Int:=t
 obtain⟨h1,h2,h3⟩:EnR (a,b,c,d,e,f)∧(a=true→LvR b)∧U64 va:=h
 refine zab (zu9 a b c d e f va asid) ⟨fun g=>⟨h3,h2 g⟩, ?_⟩
 simp only[Bool.cond_false_right,Bool.cond_true_left]
 rfl
theorem yy3:zar Tryz.prog kF1 := .cons (by kernel_rfl) yhg <| .cons (by kernel_rfl) yhf .nil
theorem yqw:zar Tryz.prog kF2:=yy3
theorem yp2:DictOk Tryz.prog FF2:=zay ((yqw.append zmy).append zc4) .nil .nil
theorem nz_eq(e:En):(!(e.1==false&&(e.2.1==0&&(e.2.2.1==0&&(e.2.2.2.1==0&&(e.2.2.2.2.1==false&&(e.2.2.2.2.2==0&&true))))))) = !(e==zE):=by
 obtain⟨a,b,c,d,g,f⟩:=e
 rw[Bool.and_true]
 rfl
theorem zct{p:Bool}{s w:Int}{m:Es}:zrm p s w m=true↔∀i,i<m.length→ztz p s w i (m.getD i zE)=true:=by
 unfold zrm
 rw[List.all_eq_true]
 exact⟨fun h i hi=>h i (List.mem_range.2 hi),fun h i hi=>h i (List.mem_range.1 hi)⟩
theorem zio{s w:Int}{m:Es}(h:zcw s w m=true):(s=1∨s=2∨s=4∨s=8)∧1≤w∧w≤4∧(m.length:Int)=s*w:=by
 simp only[zcw,Bool.and_eq_true,Bool.or_eq_true,beq_iff_eq,decide_eq_true_eq] at h
 obtain⟨⟨⟨h1,h2⟩,h3⟩,h4⟩:=h
 exact⟨by omega,h2,h3,h4⟩
theorem ycg{i:Nat}{w:Int}(hw:1≤w)(hi:i≤2097152):IntKind.i64.wrap ((i:Int).tdiv w)=(i:Int).tdiv w:=by
 rw[zev (by omega)]
 have h1:0≤(i:Int)/w:=Int.ediv_nonneg (by omega) (by omega)
 have h2:(i:Int)/w≤i:=Int.ediv_le_self _ (by omega)
 exact zaa (by omega) (by omega)
theorem yia{p:Bool}{s w:Int}{i:Nat}{e:En}(hw:1≤w)(hi:i≤2097152):(bif !(e==zE) then bif !zdz p e then true else (IntKind.i64.wrap e.2.2.1).tmod s != IntKind.i64.wrap ((i:Int).tdiv w) else false) = !ztz p s w i e:=by
 rw[ycg hw hi]
 unfold ztz
 cases e==zE<;>cases zdz p e<;>simp[bne]
theorem zxd{m:Es}{i:Nat}(h:i<m.length)(d:En):m.getD i d ∈ m:=by
 rw[List.getD_eq_getElem?_getD,List.getElem?_eq_getElem h]
 exact List.getElem_mem h
theorem yit{p:Bool}{s w:Int}{m:Es}{i:Nat}(h:∀j,j<i→ztz p s w j (m.getD j zE)=true)(ho:ztz p s w i (m.getD i zE)=true):∀j,j<i+1→ztz p s w j (m.getD j zE)=true:=by
 intro j hj
 rcases Nat.lt_or_ge j i with z|z
 · exact h j z
 · have:j=i:=by omega
   subst this
   exact ho
theorem yn2{p:Bool}{s w:Int}{m:Es}{i:Nat}(hi:i<m.length)(ho:ztz p s w i (m.getD i zE)=false):zrm p s w m=false:=by
 cases e:zrm p s w m with
 | false=>rfl
 | true=>rw[zct.1 e i hi] at ho;cases ho
theorem ynn{s w:Int}(hs:s=1∨s=2∨s=4∨s=8)(h1:1≤w)(h2:w≤4):IntKind.i64.wrap (s*w)=s*w:=by
 rcases hs with rfl|rfl|rfl|rfl<;>exact zaa (by omega) (by omega)
theorem ygo(s w:Int)(m:Es):(!(s==1||s==2||s==4||s==8)||decide (w<1)||decide (w>4)||(m.length:Int) != IntKind.i64.wrap (s*w)) = !zcw s w m:=by
 unfold zcw
 by_cases h0:(s==1||s==2||s==4||s==8)=true
 · by_cases h1:1≤w
   · by_cases h2:w≤4
     · rw[ynn (by simp at h0;omega) h1 h2,h0]
       have e1:¬ w<1:=by omega
       have e2:¬ w>4:=by omega
       simp[h1,h2,e1,e2,bne]
     · have e2:w>4:=by omega
       simp[h2,e2]
   · have e1:w<1:=by omega
     simp[h1,e1]
 · have h0:(s==1||s==2||s==4||s==8)=false:=by simpa using h0
   simp[h0]
theorem ygn(s w:Int)(m:Es):(bif bif bif bif bif bif s != 1 then s != 2 else false then s != 4 else false then s != 8 else false then true else decide (w<1) then true else decide (w>4) then true else (m.length:Int) != IntKind.i64.wrap (s*w)) = !zcw s w m:=by
 have e:(s != 1&&s != 2&&s != 4&&s != 8) = !(s==1||s==2||s==4||s==8):=by simp only[Bool.not_or,bne]
 rw[← ygo, ← e]
 simp only[Bool.cond_true_left,Bool.cond_false_right]
theorem yvq:Sound Tryz.prog 40 (zai [tlP,bl] [bl] (fun t=>some (TlR t.1)) (fun t=>zat t.2 t.1)):=by
 refine zbl mixed Tryz.func40 (by kernel_rfl) (b:=zag Tryz.f40 0) (k:=4) (by kernel_rfl) (by kernel_rfl) (by kernel_rfl) yp2 (fun t h => ?_)
 obtain⟨⟨s,w,m⟩,p⟩:Tl × Bool:=t
 obtain⟨h1,h2,h,h4⟩:I64 s∧I64 w∧SzR m.length∧∀e ∈ m,EnR e:=h
 have hs:m.length≤2097152:=h
 refine⟨.one 4 (yjg p s w m),yjg p s w m,fun i:Nat=>m.length-i,za3 _ _,fun  (i:Nat) hi=>zab (zv1 s w m p i) ?_,zab (yd3 s w m p) ?_⟩
 all_goals (try conv=>zeta)
 · obtain⟨hd,hi,hb⟩:zcw s w m=true∧i≤m.length∧∀j,j<i→ztz p s w j (m.getD j zE)=true:=hi
   obtain⟨g1,g2,g3,g4⟩:=zio hd
   refine⟨fun g => ?_,fun g => ?_⟩
   · have g:(i:Int)<m.length:=of_decide_eq_true g
     have hlt:i<m.length:=by omega
     have hm:=h4 _ (zxd hlt zE)
     rw[zcj h hlt,show 0+(i:Int).toNat=i by omega,show El.zero shE=zE from rfl]
     have hno:=fun q=>yn2 (p:=p) (s:=s) (w:=w) hlt q
     have hyes:=fun q=>yit (p:=p) (s:=s) (w:=w) (m:=m) hb q
     generalize m.getD i zE=e at *
     obtain⟨a,b,c,d,k,f⟩:=e
     have hz:=nz_eq (a,b,c,d,k,f)
     have hc:=yia (p:=p) (s:=s) (w:=w) (i:=i) (e:=(a,b,c,d,k,f)) g2 (by omega)
     simp only at hz hc
     rw[hz,hc]
     have s0:s≠0:=by omega
     have w0:w≠0:=by omega
     exact⟨⟨by omega,by omega⟩,by omega,fun _=>hm,fun _=>s0,fun _=>w0,fun q=>⟨(),⟨rfl,rfl⟩,hno (by simpa using q)⟩,fun q=>⟨i+1,⟨rfl,rfl,rfl,rfl,rfl,rfl,rfl⟩,⟨hd,by omega,hyes (by simpa using q)⟩,by omega,fun _ z=>z,fun _ z=>z⟩⟩
   · have g:¬ (i:Int)<m.length:=of_decide_eq_false g
     have:i=m.length:=by omega
     subst this
     exact⟨(),rfl,zct.2 hb⟩
 · rw[ygn]
   exact⟨fun q=>⟨by simp at q;simp[zat,q],rfl⟩,fun q=>⟨0,⟨rfl,rfl,rfl,rfl,rfl,rfl,rfl⟩,⟨by simpa using q,by omega,fun j hj=>absurd hj (Nat.not_lt_zero _)⟩,fun _ z=>⟨by simp at q;simp[zat,q,z],rfl⟩,fun _ z=>⟨by simp[zat,z],rfl⟩⟩⟩
theorem yos{p:Bool}{t:Tl}(h:zat p t=true){i:Nat}(hi:i<t.2.2.length)(hv:(t.2.2.getD i zE).1=true):LvR (t.2.2.getD i zE).2.1:=by
 simp only[zat,Bool.and_eq_true] at h
 have:=zct.1 h.2 i hi
 simp only[ztz,Bool.or_eq_true,Bool.and_eq_true] at this
 rcases this with e|e
 · have e:t.2.2.getD i zE=zE:=by simpa using e
   rw[e] at hv
   cases hv
 · have:=e.1
   simp only[zdz,Bool.and_eq_true] at this
   exact zgq.1 this.1.1.1.1.2
theorem zmi{t:Tl}(h:zbb t=true){i:Nat}(hi:i<t.2.2.length)(hv:(t.2.2.getD i zE).1=true):LvR (t.2.2.getD i zE).2.1:=by
 simp only[zbb,Bool.or_eq_true] at h
 rcases h with h|h<;>exact yos h hi hv
theorem ytq:Sound Tryz.prog 98 (zai [tlP,u64,u64] [yw6] (fun t=>some (zbb t.1=true∧TlR t.1∧U64 t.2.1)) (fun t=>za2 t.2.1 t.2.2 t.1.2.2)):=by
 refine zbl mixed Tryz.func98 (by kernel_rfl) (b:=zag Tryz.f98 0) (k:=3) (by kernel_rfl) (by kernel_rfl) (by kernel_rfl) yp2 (fun t h => ?_)
 obtain⟨⟨s,w,m⟩,va,asid⟩:Tl × Int × Int:=t
 obtain⟨h0,⟨h1,h2,h,h4⟩,h5⟩:zbb (s,w,m)=true∧(I64 s∧I64 w∧SzR m.length∧∀e ∈ m,EnR e)∧U64 va:=h
 have hs:m.length≤2097152:=h
 refine⟨.one 3 (yf4 va asid m),yf4 va asid m,fun i:Nat=>m.length-i,za3 _ _,fun  (i:Nat) hi=>zab (zuy va asid m i) ?_,zab (yc7 s w m va asid) ?_⟩
 all_goals (try conv=>zeta)
 · have hi:i≤m.length:=hi
   refine⟨fun g => ?_,fun g => ?_⟩
   · have g:(i:Int)<m.length:=of_decide_eq_true g
     have hlt:i<m.length:=by omega
     have hlv:=zmi h0 hlt
     simp only at hlv
     have hnext:zeh va asid m (i+1)=zc9 va asid (zeh va asid m i) i (m.getD i zE):=rfl
     rw[zcj h hlt,show 0+(i:Int).toNat=i by omega,show El.zero shE=zE from rfl]
     generalize m.getD i zE=e at *
     obtain⟨a,b,c,d,k,f⟩:=e
     simp only[Bool.cond_true_left,Bool.cond_false_right]
     refine⟨⟨by omega,by omega⟩,by omega,fun q=>⟨h5,hlv q⟩,fun q=>⟨i+1,⟨trivial,trivial,trivial,trivial,trivial,rfl,trivial,trivial,trivial,trivial,trivial, ?_⟩,by omega,by omega,fun _ _=>trivial⟩,fun q=>⟨i+1,⟨trivial,trivial,trivial,trivial,trivial,rfl,trivial,trivial,trivial,trivial,trivial, ?_⟩,by omega,by omega,fun _ _=>trivial⟩⟩
     · rw[hnext]
       unfold zc9
       rw[if_pos (by unfold zdy;exact q)]
       exact⟨rfl,rfl,rfl,rfl⟩
     · rw[hnext]
       unfold zc9
       rw[if_neg (by unfold zdy;rw[q];decide)]
       exact⟨rfl,rfl,rfl,rfl⟩
   · have g:¬ (i:Int)<m.length:=of_decide_eq_false g
     have:i=m.length:=by omega
     subst this
     exact⟨(),⟨rfl,rfl,rfl,rfl,rfl,rfl,rfl,rfl,rfl⟩,trivial⟩
 · exact⟨0,⟨rfl,rfl,rfl,rfl,rfl,rfl,rfl,rfl,rfl,rfl,rfl,rfl,rfl,rfl,rfl⟩,by omega,fun _ _=>⟨rfl,rfl,rfl,rfl,rfl⟩⟩
theorem yqx:zar Tryz.prog kF3 := .cons (by kernel_rfl) yvq <| .cons (by kernel_rfl) ytq yqw
theorem yxf:DictOk Tryz.prog FF3:=zay ((yqx.append zmy).append zc4) .nil .nil
theorem yfw:Sound Tryz.prog 89 (zai [tlP] [bl] (fun t=>some (TlR t)) zbb):=by
 refine zad mixed Tryz.func89 (by kernel_rfl) (by kernel_rfl) yxf (fun t h => ?_)
 obtain⟨s,w,m⟩:Tl:=t
 have h:TlR (s,w,m):=h
 refine zab (zuu s w m) ⟨⟨rfl,h⟩,fun _=>⟨rfl,h⟩, ?_,rfl⟩
 rw[Bool.cond_true_left]
 rfl
theorem ztn:zar Tryz.prog kF4 := .cons (by kernel_rfl) yfw <| yqx
theorem zo8:DictOk Tryz.prog FF4:=zay ((ztn.append zmy).append zc4) .nil .nil
end Go.Proofs.YtfiddfbagbaofaaGreat.V
