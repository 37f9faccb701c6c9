/- Flushing a cache answers as the model; the law on it returns true. Conditions: those in each statement. -/
import Derived.Test.YtfiddfbagbaofaaGreatGI
import Derived.KernelRfl
namespace Go.Proofs.YtfiddfbagbaofaaGreat.V
open Go
abbrev fnP:Pm := .st [.b,.i .u64,.b,.i .u64]
abbrev Fc:=Bool × Int × Bool × Int
def zf0(f:Fc)(l t a:Int)(g:Bool):Bool:=(!f.1||t==zj4 f.2.1 l)&&(!f.2.2.1||(!g&&a==f.2.2.2))
def zcx(f:Fc)(l t a:Int)(g:Bool):Bool := !(f.1&&(!zen f.2.1||t != zj4 f.2.1 l))&&(!f.2.2.1||(!g&&a==f.2.2.2))
def zje(f:Fc):Bool := !f.1||zen f.2.1
def zok(f:Fc)(e:En):En:=if (e.1&&zf0 f e.2.1 e.2.2.1 e.2.2.2.1 e.2.2.2.2.1)=true then zE else e
def zjw(f:Fc)(e:En):En:=if (e.1&&zcx f e.2.1 e.2.2.1 e.2.2.2.1 e.2.2.2.2.1)=true then zE else e
def zdg(t:Tl)(f:Fc):Tl:=(t.1,t.2.1,if (zbb t&&zje f)=true then t.2.2.map (zok f) else t.2.2)
def FlR(m:Es)(f:Fc):Prop:=SzR m.length∧U64 f.2.1∧∀i,i<m.length→(m.getD i zE).1=true→LvR (m.getD i zE).2.1
def fcA(f:Fc):List Av:=[.v (.bool f.1),.v (.int .u64 f.2.1),.v (.bool f.2.2.1),.v (.int .u64 f.2.2.2)]
def yoy(a:Bool)(b:Int)(c:Bool)(d:Int):Prop:=zal Tryz.prog FF4 .none Tryz.f100 [fnP] [bl] (a,b,c,d) (zje (a,b,c,d))
def ydr(a:Bool)(b:Int)(c:Bool)(d l t s:Int)(g:Bool):Prop:=zal Tryz.prog FF4 .none Tryz.f165 [fnP,i64,u64,u64,bl] [bl] ((a,b,c,d),l,t,s,g) (zcx (a,b,c,d) l t s g)
def ypq(a:Bool)(b:Int)(c:Bool)(d l t s:Int)(g:Bool):Prop:=zi1 Tryz.prog FF4 .none Tryz.f187 [.v (.int .i64 l),.v (.int .u64 t),.v (.int .u64 s),.v (.bool g),.ptr 0 0] [.fix (fcA (a,b,c,d)) true (some 58)] (.v (.bool (zf0 (a,b,c,d) l t s g))) [.fix (fcA (a,b,c,d)) true (some 58)]
def ypp(a:Bool)(b:Int)(c:Bool)(d l t s:Int)(g:Bool):Prop:=zi1 Tryz.prog FF4 .none Tryz.f187 [.v (.int .i64 l),.v (.int .u64 t),.v (.int .u64 s),.v (.bool g),.ptr 0 0] [.fix (fcA (a,b,c,d)) false (some 58)] (.v (.bool (zf0 (a,b,c,d) l t s g))) [.fix (fcA (a,b,c,d)) false (some 58)]
def yvs:Sum:=fun args H=>match args,H with
 | [.v (.int .i64 l),.v (.int .u64 t),.v (.int .u64 s),.v (.bool g),.ptr 0 0],[.fix [.v (.bool a),.v (.int .u64 b),.v (.bool c),.v (.int .u64 d)] o (some 58)] =>
  some (some (U64 b∧LvR l),.v (.bool (zf0 (a,b,c,d) l t s g)),[.fix (fcA (a,b,c,d)) o (some 58)])
 | _,_=>none
def yj0(a:Bool)(b:Int)(c:Bool)(d:Int):Prop:=zi1 Tryz.prog FF4 .none Tryz.f102 [.agg (fcA (a,b,c,d))] [] (.fn 187 [.ptr 0 0]) [.fix (fcA (a,b,c,d)) true (some 58)]
def zw1:Sum:=fun args H=>match args,H with
 | [.agg [.v (.bool a),.v (.int .u64 b),.v (.bool c),.v (.int .u64 d)]],[]=>some (none,.fn 187 [.ptr 0 0],[.fix (fcA (a,b,c,d)) true (some 58)])
 | _,_=>none
def kJ1:Known:=[
 (100,zai [fnP] [bl] (fun f=>some (U64 f.2.1)) zje),
 (165,zai [fnP,i64,u64,u64,bl] [bl] (fun t=>some (U64 t.1.2.1∧LvR t.2.1)) (fun t=>zcx t.1 t.2.1 t.2.2.1 t.2.2.2.1 t.2.2.2.2)),
 (187,yvs),(102,zw1)]
def FJ1:Dict:=mkD (kJ1++kF4++kE3++kA4) [] []
def flL(s w:Int)(m:Es)(f:Fc):LoopS where
 α:=Nat
 I i:=i≤m.length
 sl i:=slots 38 [(0,.ptr 0 0),(1,.fn 187 [.ptr 2 0]),(9,.sl 1 6 0 m.length),(10,.v (.int .i64 m.length)),(11,.v (.int .i64 (i:Int)))]
 H i:=[.fix (tlA s w 1 m.length) true none,.arr shE ((m.map (zok f)).take i++m.drop i) true,.fix (fcA f) true (some 58)]
 fams:=[{ β:=Unit,out:=fun _ _=>True,ex := .ext 0,sl:=fun _=>slots 38 [],H:=fun _=>[.fix (tlA s w 1 m.length) true none,.arr shE (m.map (zok f)) true,.fix (fcA f) true (some 58)] }]
def yc8(s w:Int)(m:Es)(a:Bool)(b:Int)(c:Bool)(d:Int)(i:Nat):Prop:=zam Tryz.prog FJ1 (.one 1 (flL s w m (a,b,c,d))) 3 (zag Tryz.f101 0) (flL s w m (a,b,c,d)) (fun i:Nat=>m.length-i) i
def yox(s w:Int)(m:Es)(a:Bool)(b:Int)(c:Bool)(d:Int):Prop:=zi1 Tryz.prog FJ1 (.one 1 (flL s w m (a,b,c,d))) Tryz.f101 [.ptr 0 0,.fn 187 [.ptr 2 0]] [.fix (tlA s w 1 m.length) true none,.arr shE m true,.fix (fcA (a,b,c,d)) true (some 58)] (.tup []) [.fix (tlA s w 1 m.length) true none,.arr shE (m.map (zok (a,b,c,d))) true,.fix (fcA (a,b,c,d)) true (some 58)]
def zz9:Sum:=fun args H=>match args,H with
 | [.ptr 0 0,.fn 187 [.ptr 2 0]],[.fix [.v (.int .i64 s),.v (.int .i64 w),.sl 1 6 0 n] true none,.arr sh m true,.fix [.v (.bool a),.v (.int .u64 b),.v (.bool c),.v (.int .u64 d)] true (some 58)] =>
  if h:sh=shE then some (some (n=m.length∧FlR (h ▸ m:List (El shE)) (a,b,c,d)),.tup [],[.fix (tlA s w 1 n) true none,.arr shE ((h ▸ m:List (El shE)).map (zok (a,b,c,d))) true,.fix (fcA (a,b,c,d)) true (some 58)]) else none
 | _,_=>none
def yz2(s w:Int)(m:Es)(f:Fc):LoopS where
 α:=Nat
 I i:=i≤m.length∧FlR m f
 sl i:=slots 46 [(2,.ptr 1 0),(3,.ptr 2 0),(4,.ptr 3 0),(5,.ptr 4 0),(6,.v (.int .i64 (i:Int)))]
 H i:=[.arr shE m false,.fix (tlA s w 0 m.length) true (some 37),.fix (fcA f) true (some 58),.fix [.v (.int .i64 0),.v (.int .i64 0),.v (.slice none 0 0)] true (some 37),.fix (tlA s w 5 m.length) true (some 37),.arr shE ((m.map (zjw f)).take i++m.drop i) true]
 fams:=[{ β:=Unit,out:=fun _ _=>True,ex := .ext 0,sl:=fun _=>slots 46 [(4,.ptr 1 0),(5,.ptr 2 0)],H:=fun _=>[.arr shE m false,.fix [.v (.int .i64 0),.v (.int .i64 0),.v (.slice none 0 0)] true (some 37),.fix (tlA s w 3 m.length) true (some 37),.arr shE (m.map (zjw f)) true] }]
def zy1(s w:Int)(m:Es)(a:Bool)(b:Int)(c:Bool)(d:Int)(i:Nat):Prop:=zam Tryz.prog FJ1 (.one 5 (yz2 s w m (a,b,c,d))) 1 (zag Tryz.f236 0) (yz2 s w m (a,b,c,d)) (fun i:Nat=>m.length-i) i
def yk6(s w:Int)(m:Es)(a:Bool)(b:Int)(c:Bool)(d:Int):Prop:=zal Tryz.prog FJ1 (.one 5 (yz2 s w m (a,b,c,d))) Tryz.f236 [tlP,fnP] [tlP] ((s,w,m),(a,b,c,d)) (zdg (s,w,m) (a,b,c,d))
def kJ2:Known:=[(101,zn9 3 zz9),(236,zai [tlP,fnP] [tlP] (fun t=>some (TlR t.1∧U64 t.2.2.1)) (fun t=>zdg t.1 t.2))]++kJ1
set_option linter.unusedVariables false
set_option maxRecDepth 10000
theorem zyd(a:Bool)(b:Int)(c:Bool)(d:Int):yoy a b c d=(
 ((!!a)=true→U64 b)∧zje (a,b,c,d)=bif !a then true else zen b):=by kernel_rfl
theorem zsc(a:Bool)(b:Int)(c:Bool)(d l t s:Int)(g:Bool):ydr a b c d l t s g=(
 (a=true→U64 b)∧((match a, !!zen b with|true,y=>y|false,x=>false)=true→U64 b∧LvR l)∧((bif a then bif !zen b then true else t != zj4 b l else false)=true→zcx (a,b,c,d) l t s g=false)∧((bif a then bif
 !zen b then true else t != zj4 b l else false)=false→zcx (a,b,c,d) l t s g=bif !c then true else bif !g then s==d else false)):=by kernel_rfl
theorem zzl(a:Bool)(b:Int)(c:Bool)(d l t s:Int)(g:Bool):ypq a b c d l t s g=(
 ((!!a)=true→U64 b∧LvR l)∧(zf0 (a,b,c,d) l t s g=bif bif !a then true else t==zj4 b l then bif !c then true else bif !g then s==d else false else false)∧a=a∧b=b∧c=c∧d=d):=by kernel_rfl
theorem zzk(a:Bool)(b:Int)(c:Bool)(d l t s:Int)(g:Bool):ypp a b c d l t s g=(
 ((!!a)=true→U64 b∧LvR l)∧(zf0 (a,b,c,d) l t s g=bif bif !a then true else t==zj4 b l then bif !c then true else bif !g then s==d else false else false)∧a=a∧b=b∧c=c∧d=d):=by kernel_rfl
theorem zup(a:Bool)(b:Int)(c:Bool)(d:Int):yj0 a b c d=(
 a=a∧b=b∧c=c∧d=d):=by kernel_rfl
theorem zrx(s w:Int)(m:Es)(a:Bool)(b:Int)(c:Bool)(d:Int)(i:Nat):yc8 s w m a b c d i=(
 let A0:=List.length m;
 let A1:=(0:Nat)+(↑i:Int).toNat;
 let A2:=(↑A0:Int);
 let A3:=(a,b,c,d);
 let A4(a:Nat):=List.take a (List.map (zok A3) m)++List.drop a m;
 let A5:=(A4 i).getD A1 (El.zero shE);
 let A6:=(↑i:Int);
 let A7(a b c:Prop):=a∧b∧c;
 let A8(a b c d e:Prop):=A7 a b (A7 c d e);
 let A9:=(0:Nat)=0;
 let Aa:=A5.2;
 let Ab(a:Bool)(b:Prop):=decide (A6<A2)=a→b;
 let Ac:=(0:Int)≤A6∧A6<A2;
 let Ad(e:Nat)(f:Prop):=A8 A9 (A0=A0) (A2=A2) ((↑e:Int)=IntKind.i64.wrap (A6+1)) (A8 (s=s) (w=w) A9 (A0=A0) (A8 f (a=a) (b=b) (c=c) (d=d)))∧A7 (e≤A0) (A0-e<A0-i) (∀(x1:Unit),True →
  True);
 let Ae(a:Bool)(b:Prop):=(bif A5.1 then zf0 A3 Aa.1 Aa.2.1 Aa.2.2.1 Aa.2.2.2.1 else false)=a→b;
 let Af:=A1<(A4 i).length;
 Ab true (A8 Ac Af (A5.1=true→U64 b∧LvR Aa.1) (Ae true (A7 Ac Af (∃(x0:Nat),Ad x0 (A4 x0=(A4 i).set A1 (false,0,0,0,false,0))))) (Ae false (∃(x2:Nat),Ad x2 (A4 x2=A4 i))))∧Ab
  false (∃(x3:Unit),A8 (s=s) (w=w) A9 (A0=A0) (A8 (List.map (zok A3) m=A4 i) (a=a) (b=b) (c=c) (d=d))∧True)):=by kernel_rfl
theorem zyc(s w:Int)(m:Es)(a:Bool)(b:Int)(c:Bool)(d:Int):yox s w m a b c d=(
 ∃(x:Nat),((0:Nat)=0∧List.length m=List.length m∧(↑(List.length m):Int)=(↑(List.length m):Int)∧(↑x:Int)=0∧s=s∧w=w∧(0:Nat)=0∧List.length m=List.length m∧List.take x
 (List.map (zok (a,b,c,d)) m)++List.drop x m=m∧a=a∧b=b∧c=c∧d=d)∧x≤List.length m∧∀(z:Unit),True→s=s∧w=w∧(0:Nat)=0∧List.length m=List.length m∧List.map (zok (a,b,c,d)) m =
 List.map (zok (a,b,c,d)) m∧a=a∧b=b∧c=c∧d=d):=by kernel_rfl
theorem zo3(s w:Int)(m:Es)(a:Bool)(b:Int)(c:Bool)(d:Int)(i:Nat):zy1 s w m a b c d i=(
 let A0:=List.length m;
 let A1:=(0:Nat)+(↑i:Int).toNat;
 let A2:=List.getD m A1 (El.zero shE);
 let A3:=(↑i:Int);
 let A4(a b c:Prop):=a∧b∧c;
 let A5(a b c d e:Prop):=A4 a b (A4 c d e);
 let A6:=(0:Int)=0;
 let A7:=A2.2;
 let A8:=(b,c,d);
 let A9:=Value.slice none 0 0;
 let Aa:=(0:Nat)=0;
 let Ab(b:Nat):=List.take b (List.map (zjw (a,A8)) m)++List.drop b m;
 let Ac(a b c d e f g h i:Prop):=A5 a b c d (A5 e f g h i);
 let Ad:=(0:Int)≤A3∧A3<(↑A0:Int);
 let Ae(a:Bool)(b:Prop):=decide (A3<(↑A0:Int))=a→b;
 let Af(e:Nat)(f:Prop):=((↑e:Int)=IntKind.i64.wrap (A3+1)∧Ac (m=m) (s=s) (w=w) Aa (A0=A0) (a=a) (b=b) (c=c) (Ac (d=d) A6 A6 (A9=A9) (s=s) (w=w) Aa (A0=A0) f))∧A4 (e≤A0∧FlR m (a,A8)) (A0
  - e<A0-i) (∀(x1:Unit),True→True);
 let Ah(e:Bool)(f:Prop):=(bif A2.1 then zcx (a,b,c,d) A7.1 A7.2.1 A7.2.2.1 A7.2.2.2.1 else false)=e→f;
 Ae true (A5 Ad (A1<A0) (A2.1=true→U64 b∧LvR A7.1) (Ah true (A4 Ad (A1<(Ab i).length) (∃(x0:Nat),Af x0 (Ab x0=(Ab i).set A1 (false,0,0,0,false,0))))) (Ah false (∃(x2:Nat),Af
  x2 (Ab x2=Ab i))))∧Ae false (∃(x3:Unit),Ac (m=m) A6 A6 (A9=A9) (s=s) (w=w) Aa (A0=A0) (List.map (zjw (a,A8)) m=Ab i)∧True)):=by kernel_rfl
theorem zvo(s w:Int)(m:Es)(a:Bool)(b:Int)(c:Bool)(d:Int):yk6 s w m a b c d=(
 let A0:=List.length m;
 let A1:=(b,c,d);
 let A2(a b c d e:Prop):=a∧b∧c∧d∧e;
 let A3:=(zdg (s,w,m) (a,A1)).2;
 let A4:=(0:Nat)=0;
 let A5:=(0:Int)=0;
 let A6:=Value.slice none 0 0;
 let A7(a:Bool):=(!zbb (s,w,m))=a;
 let A8(b c:Prop):=b→(zdg (s,w,m) (a,A1)).1=s∧A2 (A3.1=w) A4 (List.length A3.2=A0) (m=m) c;
 let A9:=A0=A0;
 (A9∧SzR A0)∧(A9∧TlR (s,w,m))∧A8 (A7 true) (A3.2=m)∧(A7 false→∃(x0:Nat),((↑x0:Int)=0∧A2 (m=m) (s=s) (w=w) A4 (A2 A9 (a=a) (b=b) (c=c) (A2 (d=d) A5 A5 (A6=A6) (A2 (s=s) (w=w) A4 A9
  (List.take x0 (List.map (zjw (a,A1)) m)++List.drop x0 m=m)))))∧(x0≤A0∧FlR m (a,A1))∧∀(x1:Unit),A8 True (A3.2=List.map (zjw (a,A1)) m))):=by kernel_rfl
set_option linter.unusedSimpArgs false
theorem half{α:Type}(f:α→α)(m:List α){i:Nat}(h:i<m.length):∃a b:List α,∃x:α,(∀d,m.getD i d=x)∧a.length=i∧(m.map f).take i++m.drop i=a++x::b∧(m.map f).take (i+1)++m.drop (i+1)=a++f x::b:=by
 refine⟨(m.map f).take i,m.drop (i+1),m[i],fun d=>by rw[List.getD_eq_getElem?_getD,List.getElem?_eq_getElem h];rfl,by simp;omega,by rw[← List.drop_eq_getElem_cons h], ?_⟩
 have h':i<(m.map f).length:=by simpa using h
 rw[List.take_succ_eq_append_getElem h',List.append_assoc]
 simp
theorem yac{α:Type}(f:α→α)(m:List α):m.map f=(m.map f).take m.length++m.drop m.length:=by
 rw[List.drop_length,List.append_nil,List.take_of_length_le (by simp)]
theorem ym4:Sound Tryz.prog 100 (zai [fnP] [bl] (fun f=>some (U64 f.2.1)) zje):=by
 refine zad mixed Tryz.func100 (by kernel_rfl) (by kernel_rfl) zo8 (fun t h => ?_)
 obtain⟨a,b,c,d⟩:Fc:=t
 have h:U64 b:=h
 refine zab (zyd a b c d) ⟨fun _=>h, ?_⟩
 rw[Bool.cond_true_left]
 rfl
theorem ycr:Sound Tryz.prog 165 (zai [fnP,i64,u64,u64,bl] [bl] (fun t=>some (U64 t.1.2.1∧LvR t.2.1)) (fun t=>zcx t.1 t.2.1 t.2.2.1 t.2.2.2.1 t.2.2.2.2)):=by
 refine zad mixed Tryz.func165 (by kernel_rfl) (by kernel_rfl) zo8 (fun t h => ?_)
 obtain⟨⟨a,b,c,d⟩,l,t,s,g⟩:Fc × Int × Int × Int × Bool:=t
 obtain⟨h1,h2⟩:U64 b∧LvR l:=h
 refine zab (zsc a b c d l t s g) ⟨fun _=>h1,fun _=>⟨h1,h2⟩,fun q => ?_,fun q => ?_⟩
 · rw[Bool.cond_false_right,Bool.cond_true_left] at q
   unfold zcx
   simp only
   rw[q]
   rfl
 · rw[Bool.cond_false_right,Bool.cond_true_left] at q
   unfold zcx
   simp only
   rw[q,Bool.cond_true_left,Bool.cond_false_right]
   rfl
theorem yjl{a:Bool}{b:Int}{c:Bool}{d l t s:Int}{g:Bool}:zf0 (a,b,c,d) l t s g=bif bif !a then true else t==zj4 b l then bif !c then true else bif !g then s==d else false else false:=by
 simp only[Bool.cond_true_left,Bool.cond_false_right]
 rfl
theorem yvt:Sound Tryz.prog 187 yvs:=by
 refine zbi mixed Tryz.func187 (by kernel_rfl) (by kernel_rfl) zo8 (fun args H p v H' h hp => ?_)
 unfold yvs at h
 split at h
 case h_2=>cases h
 rename_i l t s g a b c d o
 simp only[Option.some.injEq,Prod.mk.injEq] at h
 obtain⟨rfl,rfl,rfl⟩:=h
 have hp:U64 b∧LvR l:=hp
 cases o with
 | true=>exact⟨.none,zab (zzl a b c d l t s g) ⟨fun _=>hp,yjl,rfl,rfl,rfl,rfl⟩⟩
 | false=>exact⟨.none,zab (zzk a b c d l t s g) ⟨fun _=>hp,yjl,rfl,rfl,rfl,rfl⟩⟩
theorem yfp:Sound Tryz.prog 102 zw1:=by
 refine zbi mixed Tryz.func102 (by kernel_rfl) (by kernel_rfl) zo8 (fun args H p v H' h hp => ?_)
 unfold zw1 at h
 split at h
 case h_2=>cases h
 rename_i a b c d
 simp only[Option.some.injEq,Prod.mk.injEq] at h
 obtain⟨rfl,rfl,rfl⟩:=h
 exact⟨.none,zab (zup a b c d) ⟨rfl,rfl,rfl,rfl⟩⟩
theorem yaf:zar Tryz.prog kJ1 := .cons (by kernel_rfl) ym4 <| .cons (by kernel_rfl) ycr <| .cons (by kernel_rfl) yvt <| .cons (by kernel_rfl) yfp .nil
theorem yp3:DictOk Tryz.prog FJ1:=zay (((yaf.append ztn).append zmy).append zc4) .nil .nil
theorem yaa:Sound Tryz.prog 101 zz9:=by
 refine zdk mixed Tryz.func101 (by kernel_rfl) (b:=zag Tryz.f101 0) (k:=1) (by kernel_rfl) (by kernel_rfl) (by kernel_rfl) yp3 (fun args H p v H' h hp => ?_)
 unfold zz9 at h
 split at h
 case h_2=>cases h
 rename_i s w n sh m a b c d
 split at h
 case isFalse=>cases h
 rename_i hsh
 subst hsh
 simp only[Option.some.injEq,Prod.mk.injEq] at h
 obtain⟨rfl,rfl,rfl⟩:=h
 obtain⟨rfl,hz,hb,hlv⟩:n=m.length∧FlR m (a,b,c,d):=hp
 have hs:m.length≤2097152:=hz
 refine⟨.one 1 (flL s w m (a,b,c,d)),flL s w m (a,b,c,d),fun i:Nat=>m.length-i,za3 _ _,fun  (i:Nat) hi=>zab (zrx s w m a b c d i) ?_,zab (zyc s w m a b c d) ?_⟩
 all_goals (try conv=>zeta)
 · have hi:i≤m.length:=hi
   refine⟨fun q => ?_,fun q => ?_⟩
   · have q:(i:Int)<m.length:=of_decide_eq_true q
     have hlt:i<m.length:=by omega
     obtain⟨x,y,e,h1,h2,h3,h4⟩:=half (zok (a,b,c,d)) m hlt
     have hv:=hlv i hlt
     rw[h1] at hv
     have hlen:i<(x++e::y).length:=by simp;omega
     rw[zcj hz hlt,show 0+(i:Int).toNat=i by omega,h3,znc _ _ _ _ h2,zkm _ _ _ _ h2]
     refine⟨⟨by omega,by omega⟩,hlen,fun z=>⟨hb,hv z⟩,fun z=>⟨⟨by omega,by omega⟩,hlen,i+1,⟨rfl,rfl,rfl,rfl,rfl,rfl,rfl,rfl, ?_,rfl,rfl,rfl,rfl⟩,by omega,by omega,fun _ _=>trivial⟩,fun z=>⟨i+1,⟨rfl,rfl,rfl,rfl,rfl,rfl,rfl,rfl, ?_,rfl,rfl,rfl,rfl⟩,by omega,by omega,fun _ _=>trivial⟩⟩
     · rw[Bool.cond_false_right] at z
       rw[h4]
       unfold zok
       rw[if_pos z]
       rfl
     · rw[Bool.cond_false_right] at z
       rw[h4]
       unfold zok
       rw[if_neg (by rw[z];decide)]
   · have q:¬ (i:Int)<m.length:=of_decide_eq_false q
     have:i=m.length:=by omega
     subst this
     exact⟨(),⟨rfl,rfl,rfl,rfl,yac _ m,rfl,rfl,rfl,rfl⟩,trivial⟩
 · exact⟨0,⟨rfl,rfl,rfl,rfl,rfl,rfl,rfl,rfl,rfl,rfl,rfl,rfl,rfl⟩,by omega,fun _ _=>⟨rfl,rfl,rfl,rfl,rfl,rfl,rfl,rfl,rfl⟩⟩
theorem yi8{f:Fc}(h:zje f=true)(e:En):zjw f e=zok f e:=by
 obtain⟨a,b,c,d⟩:=f
 have:zcx (a,b,c,d) e.2.1 e.2.2.1 e.2.2.2.1 e.2.2.2.2.1=zf0 (a,b,c,d) e.2.1 e.2.2.1 e.2.2.2.1 e.2.2.2.2.1:=by
  unfold zje at h
  unfold zcx zf0
  simp only at h ⊢
  cases a with
  | false=>rfl
  | true =>
   have h:zen b=true:=by simpa using h
   rw[h]
   simp[bne]
 unfold zjw zok
 rw[this]
theorem yog{f:Fc}(h:zje f=false)(e:En):zjw f e=e:=by
 obtain⟨a,b,c,d⟩:=f
 have:zcx (a,b,c,d) e.2.1 e.2.2.1 e.2.2.2.1 e.2.2.2.2.1=false:=by
  unfold zje at h
  unfold zcx
  simp only[Bool.or_eq_false_iff,Bool.not_eq_false'] at h
  simp only at h ⊢
  rw[h.1,h.2]
  rfl
 unfold zjw
 rw[this,if_neg (by simp)]
theorem zxa{t:Tl}{f:Fc}(h:zbb t=true):(zdg t f).2.2=t.2.2.map (zjw f):=by
 unfold zdg
 simp only
 cases g:zje f with
 | true =>
  rw[h,if_pos (by rfl)]
  exact List.map_congr_left (fun e _=>(yi8 g e).symm)
 | false =>
  rw[h,if_neg (by simp)]
  rw[List.map_congr_left (fun e _=>yog g e)]
  simp
theorem zq0(t:Tl)(f:Fc):(zdg t f).2.2.length=t.2.2.length:=by
 unfold zdg
 simp only
 split<;>simp
theorem ym1{s w:Int}{m:Es}{f:Fc}(ht:TlR (s,w,m))(hb:U64 f.2.1)(he:zbb (s,w,m)=true):FlR m f:=⟨ht.2.2.1,hb,fun _ hi hv=>zmi (t:=(s,w,m)) he hi hv⟩
theorem yiv:Sound Tryz.prog 236 (zai [tlP,fnP] [tlP] (fun t=>some (TlR t.1∧U64 t.2.2.1)) (fun t=>zdg t.1 t.2)):=by
 refine zbl mixed Tryz.func236 (by kernel_rfl) (b:=zag Tryz.f236 0) (k:=5) (by kernel_rfl) (by kernel_rfl) (by kernel_rfl) yp3 (fun t h => ?_)
 obtain⟨⟨s,w,m⟩,a,b,c,d⟩:Tl × Fc:=t
 obtain⟨ht,hb⟩:TlR (s,w,m)∧U64 b:=h
 have hz:SzR m.length:=ht.2.2.1
 have hs:m.length≤2097152:=hz
 refine⟨.one 5 (yz2 s w m (a,b,c,d)),yz2 s w m (a,b,c,d),fun i:Nat=>m.length-i,za3 _ _,fun  (i:Nat) hi=>zab (zo3 s w m a b c d i) ?_,zab (zvo s w m a b c d) ?_⟩
 all_goals (try conv=>zeta)
 · obtain⟨hi,hF⟩:i≤m.length∧FlR m (a,b,c,d):=hi
   refine⟨fun q => ?_,fun q => ?_⟩
   · have q:(i:Int)<m.length:=of_decide_eq_true q
     have hlt:i<m.length:=by omega
     obtain⟨x,y,e,h1,h2,h3,h4⟩:=half (zjw (a,b,c,d)) m hlt
     have hv:=hF.2.2 i hlt
     rw[h1] at hv
     have hlen:i<(x++e::y).length:=by simp;omega
     rw[zcj hz hlt,show 0+(i:Int).toNat=i by omega,h3,h1,zkm _ _ _ _ h2]
     refine⟨⟨by omega,by omega⟩,hlt,fun z=>⟨hb,hv z⟩,fun z=>⟨⟨by omega,by omega⟩,hlen,i+1,⟨rfl,rfl,rfl,rfl,rfl,rfl,rfl,rfl,rfl,rfl,rfl,rfl,rfl,rfl,rfl,rfl,rfl, ?_⟩,⟨by omega,hF⟩,by omega,fun _ _=>trivial⟩,fun z=>⟨i+1,⟨rfl,rfl,rfl,rfl,rfl,rfl,rfl,rfl,rfl,rfl,rfl,rfl,rfl,rfl,rfl,rfl,rfl, ?_⟩,⟨by omega,hF⟩,by omega,fun _ _=>trivial⟩⟩
     · rw[Bool.cond_false_right] at z
       rw[h4]
       unfold zjw
       rw[if_pos z]
       rfl
     · rw[Bool.cond_false_right] at z
       rw[h4]
       unfold zjw
       rw[if_neg (by rw[z];decide)]
   · have q:¬ (i:Int)<m.length:=of_decide_eq_false q
     have:i=m.length:=by omega
     subst this
     exact⟨(),⟨rfl,rfl,rfl,rfl,rfl,rfl,rfl,rfl,yac _ m⟩,trivial⟩
 · refine⟨⟨rfl,hz⟩,⟨rfl,ht⟩,fun q => ?_,fun q => ?_⟩
   · have he:zbb (s,w,m)=false:=by simpa using q
     have e:zdg (s,w,m) (a,b,c,d)=(s,w,m):=by simp[zdg,he]
     rw[e]
     exact⟨rfl,rfl,rfl,rfl,rfl,rfl⟩
   · have he:zbb (s,w,m)=true:=by simpa using q
     refine⟨0,⟨rfl,rfl,rfl,rfl,rfl,rfl,rfl,rfl,rfl,rfl,rfl,rfl,rfl,rfl,rfl,rfl,rfl,rfl⟩,⟨by omega,ym1 ht hb he⟩,fun _ _=>⟨rfl,rfl,rfl,zq0 _ _,rfl,zxa he⟩⟩
theorem yy6:zar Tryz.prog kJ2 := .cons (by kernel_rfl) (zew yaa) <| .cons (by kernel_rfl) yiv yaf
end Go.Proofs.YtfiddfbagbaofaaGreat.V
