/- The plain translation answers as the model. Conditions: those in each statement. -/
import Derived.Test.YtfiddfbagbaofaaGreatGM
import Derived.KernelRfl
namespace Go.Proofs.YtfiddfbagbaofaaGreat.V
open Go
abbrev Ct:=Int × Bool × Bool × Int
abbrev trP:Pm := .st [.i .i64,.i .u64]
def zcc(pte l:Int)(c:Ct)(k va:Int):Int × Int:=if za5 pte k c.1 c.2.1 c.2.2.1=true then (0,zck pte l va) else (pfM k,0)
def zak(W:Wr)(c:Ct)(k va:Int):Int × Int:=if W.1=2 then (pfM k,0) else if W.1=3 then (afM k,0) else zcc W.2.2.1 W.2.1 c k va
def zaw(m:By)(c:Ct)(k va:Int):Int × Int:=if zl8 c k=true then (if onM c=true then zak (zcf m c.2.2.2 va) c k va else (0,va)) else (63,0)
def FN0:Dict:=mkD (kM++kB3++kA4) [] []
def ywj(p l:Int)(a:Int)(b c:Bool)(d k va:Int):Prop:=zal Tryz.prog FN0 .none Tryz.f123 [u64,i64,zg4,i64,u64] [trP] (p,l,(a,b,c,d),k,va) (zcc p l (a,b,c,d) k va)
def yjx(k:Int):Prop:=zi1 Tryz.prog FN0 .none Tryz.f133 [.v .nilIface,.v (.int .i64 k)] [] (.v (.int .i64 0)) []
def yjy(l k:Int):Prop:=zi1 Tryz.prog FN0 .none Tryz.f133 [.ifc 256 (.agg [.v (.int .i64 l)]),.v (.int .i64 k)] [] (.v (.int .i64 (afM k))) []
def yjz(l k:Int):Prop:=zi1 Tryz.prog FN0 .none Tryz.f133 [.ifc 200 (.agg [.v (.int .i64 l)]),.v (.int .i64 k)] [] (.v (.int .i64 (pfM k))) []
def ywo(a b c:Int):Prop:=zi1 Tryz.prog F0 .none Tryz.f139 [.agg (rcA (a,b,c))] [] (.tup []) []
def yve:Sum:=fun args H=>match args,H with
 | [.agg [.v (.int .i64 _),.v (.int .u64 _),.v (.int .u64 _)]],[]=>some (none,.tup [],[])
 | _,_=>none
def kN1:Known:=(139,yve)::kK2
def FN1:Dict:=mkD (kN1++kB3++kA4) [] []
def StP(m:By)(va:Int)(W:Wr)(l p:Int):Prop := -1≤l∧l≤2∧0≤p∧p<17592186044416∧W.1=(za6 m va (l+1).toNat p).1∧W.2.1=(za6 m va (l+1).toNat p).2.1∧W.2.2.1=(za6 m va (l+1).toNat p).2.2.1
def zj1(m:By)(va:Int)(W:Wr):LoopS where
 α:=Int × Int
 I x:=StP m va W x.1 x.2
 sl x:=slots 66 [(0,.ifc 196 (.sl 0 1 0 m.length)),(1,.v (.int .u64 x.2)),(2,.v (.int .i64 x.1)),(3,.v (.int .u64 va)),(4,.fn 139 [])]
 H _:=[.arr [.i .u8] m false]
 fams:=[{ β:=Unit,out:=fun _ _=>W.1=2∧W.2.1=0∧W.2.2.1=0,ex := .ext 0,sl:=fun _=>slots 66 [],H:=fun _=>[.arr [.i .u8] m false] },
  { β:=Unit,out:=fun _ _=>W.1=3∧W.2.2.1=0,ex := .ret,sl:=fun _=>slots 66 [(10,.v (.int .u64 0)),(11,.v (.int .i64 W.2.1)),(12,.ifc 256 (.agg [.v (.int .i64 W.2.1)]))],H:=fun _=>[.arr [.i .u8] m false] },
  { β:=Unit,out:=fun _ _=>W.1=2∧W.2.2.1=0,ex := .ret,sl:=fun _=>slots 66 [(10,.v (.int .u64 0)),(11,.v (.int .i64 W.2.1)),(12,.ifc 200 (.agg [.v (.int .i64 W.2.1)]))],H:=fun _=>[.arr [.i .u8] m false] },
  { β:=Unit,out:=fun _ _=>W.1=1,ex := .ret,sl:=fun _=>slots 66 [(10,.v (.int .u64 W.2.2.1)),(11,.v (.int .i64 W.2.1)),(12,.v .nilIface)],H:=fun _=>[.arr [.i .u8] m false] }]
def yd6(m:By)(va:Int)(a b c:Int)(rs:Rs)(l p:Int):Prop:=zam Tryz.prog FN1 (.one 1 (zj1 m va (a,b,c,rs))) 1 (zag Tryz.f137 0) (zj1 m va (a,b,c,rs)) (fun x:Int × Int=>(x.1+1).toNat) (l,p)
def zoa(n:Nat)(p va:Int):List Av:=[.ifc 196 (.sl 0 1 0 n),.v (.int .u64 p),.v (.int .i64 2),.v (.int .u64 va),.fn 139 []]
def ylw(k:Nat):Sum:=fun args H=>match args,H with
 | [.ifc 196 (.sl 0 1 0 n),.v (.int .u64 p),.v (.int .i64 l),.v (.int .u64 va),.fn 139 []],[.arr sh m false] =>
  if h:sh=[.i .u8] then some (some (n=(h ▸ m:List (El [.i .u8])).length∧l=2∧zfy (h ▸ m:List (El [.i .u8])) p 2 va∧zwz k (za6 (h ▸ m:List (El [.i .u8])) va 3 p)),yrm k (za6 (h ▸ m:List (El [.i .u8])) va 3 p),[.arr [.i .u8] (h ▸ m:List (El [.i .u8])) false]) else none
 | _,_=>none
def ylq(m:By)(p va a b c:Int)(rs:Rs):Prop:=zi1 Tryz.prog FN1 (.one 1 (zj1 m va (a,b,c,rs))) Tryz.f137 (zoa m.length p va) [.arr [.i .u8] m false] (yrm 0 (a,b,c,rs)) [.arr [.i .u8] m false]
def ylr(m:By)(p va a b c:Int)(rs:Rs):Prop:=zi1 Tryz.prog FN1 (.one 1 (zj1 m va (a,b,c,rs))) Tryz.f137 (zoa m.length p va) [.arr [.i .u8] m false] (yrm 1 (a,b,c,rs)) [.arr [.i .u8] m false]
def yls(m:By)(p va a b c:Int)(rs:Rs):Prop:=zi1 Tryz.prog FN1 (.one 1 (zj1 m va (a,b,c,rs))) Tryz.f137 (zoa m.length p va) [.arr [.i .u8] m false] (yrm 2 (a,b,c,rs)) [.arr [.i .u8] m false]
def yfm:Sum:=fun args H=>match args,H with
 | [.v .nilIface,.v (.int .i64 k)],[]=>some (some (0≤k∧k≤2),.v (.int .i64 0),[])
 | [.ifc 256 (.agg [.v (.int .i64 _)]),.v (.int .i64 k)],[]=>some (some (0≤k∧k≤2),.v (.int .i64 (afM k)),[])
 | [.ifc 200 (.agg [.v (.int .i64 _)]),.v (.int .i64 k)],[]=>some (some (0≤k∧k≤2),.v (.int .i64 (pfM k)),[])
 | _,_=>none
def kN2:Known:=[
 (123,zai [u64,i64,zg4,i64,u64] [trP] (fun t=>some (U64 t.1∧U64 t.2.2.2.2)) (fun t=>zcc t.1 t.2.1 t.2.2.1 t.2.2.2.1 t.2.2.2.2)),
 (133,yfm)]
def FN2:Dict:=mkD (kN2++kM++kB3++kA4) [(137,(3,ylw))] []
def yjv(w1 w2 w3:Int)(rs:Rs)(a:Int)(b c:Bool)(d k va:Int):Prop:=zal Tryz.prog FN2 .none Tryz.f128 [wrP,zg4,i64,u64] [trP] ((w1,w2,w3,rs),(a,b,c,d),k,va) (zak (w1,w2,w3,rs) (a,b,c,d) k va)
def ykl(m:By)(a:Int)(b c:Bool)(d k va:Int):Prop:=zal Tryz.prog FN2 .none Tryz.f46 [byP,zg4,i64,u64] [trP] (m,(a,b,c,d),k,va) (zaw m (a,b,c,d) k va)
set_option linter.unusedVariables false
theorem ydm(p l:Int)(a:Int)(b c:Bool)(d k va:Int):ywj p l a b c d k va=(
 U64 p∧(za5 p k a b c=true→(U64 p∧U64 va)∧(zcc p l (a,b,c,d) k va).1=0∧(zcc p l (a,b,c,d) k va).2=zck p l va)∧(za5 p k a b c=false→(zcc p l (a,b,c,d) k va).1=pfM k∧(zcc p l (a,
 b,c,d) k va).2=0)):=by kernel_rfl
theorem zum(k:Int):yjx k=(
 (true=true→(0:Int)=(0:Int))∧(true=false→((0:Int)≤k∧k<(↑(3:Nat):Int))∧(0:Int)=[(12:Int),(13:Int),(15:Int)].getD k.toNat (0:Int))):=by kernel_rfl
theorem zun(l k:Int):yjy l k=(
 ((0:Int)≤k∧k<(↑(3:Nat):Int))∧afM k=[(1:Int),(5:Int),(7:Int)].getD k.toNat (0:Int)):=by kernel_rfl
theorem zuo(l k:Int):yjz l k=(
 ((0:Int)≤k∧k<(↑(3:Nat):Int))∧pfM k=[(12:Int),(13:Int),(15:Int)].getD k.toNat (0:Int)):=by kernel_rfl
theorem ydy(a b c:Int):ywo a b c=(
 True):=by kernel_rfl
theorem zsl(m:By)(va:Int)(a b c:Int)(rs:Rs)(l p:Int):yd6 m va a b c rs l p=(
 let A0(a:Int):=IntKind.u64.wrap a;
 let A1(a:Int):=IntKind.i64.wrap a;
 let A2(a:Int):=(2:Int) ^ (min a.toNat 64);
 let A3(a:Int):=a=0;
 let A4:=(6:Int)+A1 ((3:Int)*l);
 let A5:=a=2;
 let A6:=A0 (p*A2 6)+A0 (bits BinOp.and IntKind.u64 (va/A2 (A1 A4)) 7*A2 3);
 let A7:=zbc m (A0 A6) 8;
 let A8(a b:Prop):=a∧b∧A3 c;
 let A9:=A7.2;
 let Aa:=a=3;
 let Ab(a b c:Prop):=a∧b∧c;
 let Ac(a:Int):=(a+1).toNat;
 let Ad(a:Int):=(0:Int)≤a;
 let Ae(a b c d:Prop):=a∧Ab b c d;
 let Af(a:Bool)(b:Prop):=a=false→b;
 let Ah:=A8 A5 (A3 b);
 let Ai:=False∧a=1;
 let Aj:=List.length m=List.length m;
 let Ak:=za7 A9 l==2;
 let Al:=za7 A9 l==0;
 let Am(a:Prop):=A8 (Ae (A3 0) (b=l) (b=l) (m=m)) a;
 let An:=decide (l≥0);
 let Ao(a:Bool)(b c d:Prop):=a=true→b∨c∨d;
 let Ap:=a=1;
 (An=true→Ae (Ad 6) (Ad (A1 A4)) (Ad 3) (Ab (Ab Aj (zaj m) (U64 (A0 A6))) (Ao (!A7.1) (∃(x0:Unit),Am Aa) (∃(x1:Unit),A8 False A5) (∃(x2:Unit),Ai)) (Af (!A7.1) (Ab (U64 A9) (Ao Al (∃(x3:Unit),A8
  False Aa) (∃(x4:Unit),Am A5) (∃(x2:Unit),Ai)) (Af Al (Ao Ak (∃(x3:Unit),A8 False Aa) (∃(x1:Unit),A8 False A5) (∃(x5:Unit),Ae (c=A9) (b=l) (Value.nilIface=Value.nilIface) (m=m)∧Ap)∧Af Ak (U64 A9∧∃(x6
  : Int × Int),Ab (Ae ((0:Nat)=0) Aj (x6.2=zcl A9) (Ab (x6.1=A1 (l-1)) (va=va) (m=m))) (StP m va (a,b,c,rs) x6.1 x6.2) (Ab (Ac x6.1<Ac l) (∀(x7:Unit),Ah→Ah) (Ab (∀(x8:Unit),Aa ∧
  A3 c→Aa∧A3 c) (∀(x9:Unit),A5∧A3 c→A5∧A3 c) (∀(x10:Unit),Ap→Ap))))))))))∧Af An (∃(x11:Unit),m=m∧Ah)):=by kernel_rfl
theorem zv3(m:By)(p va a b c:Int)(rs:Rs):ylq m p va a b c rs=(
 ∃(x:Int × Int),((0:Nat)=0∧List.length m=List.length m∧x.2=p∧x.1=2∧va=va∧m=m)∧StP m va (a,b,c,rs) x.1 x.2∧(∀(z:Unit),a=2∧b=0∧c=0→False)∧(∀
 (z:Unit),a=3∧c=0→False)∧(∀(z:Unit),a=2∧c=0→False)∧∀(z:Unit),a=1→c=c∧b=b∧Value.nilIface=Value.nilIface∧m=m):=by kernel_rfl
theorem zv4(m:By)(p va a b c:Int)(rs:Rs):ylr m p va a b c rs=(
 ∃(x:Int × Int),((0:Nat)=0∧List.length m=List.length m∧x.2=p∧x.1=2∧va=va∧m=m)∧StP m va (a,b,c,rs) x.1 x.2∧(∀(z:Unit),a=2∧b=0∧c=0→False)∧(∀
 (z:Unit),a=3∧c=0→c=0∧b=b∧b=b∧m=m)∧(∀(z:Unit),a=2∧c=0→False)∧∀(z:Unit),a=1→False):=by kernel_rfl
theorem zv5(m:By)(p va a b c:Int)(rs:Rs):yls m p va a b c rs=(
 ∃(x:Int × Int),((0:Nat)=0∧List.length m=List.length m∧x.2=p∧x.1=2∧va=va∧m=m)∧StP m va (a,b,c,rs) x.1 x.2∧(∀(z:Unit),a=2∧b=0∧c=0→c=(0 :
 Int)∧b=0∧b=0∧m=m)∧(∀(z:Unit),a=3∧c=0→False)∧(∀(z:Unit),a=2∧c=0→c=0∧b=b∧b=b∧m=m)∧∀(z:Unit),a=1→False):=by kernel_rfl
theorem zul(w1 w2 w3:Int)(rs:Rs)(a:Int)(b c:Bool)(d k va:Int):yjv w1 w2 w3 rs a b c d k va=(
 ((w1==2)=true→(zak (w1,w2,w3,rs) (a,b,c,d) k va).1=pfM k∧(zak (w1,w2,w3,rs) (a,b,c,d) k va).2=0∧rs=rs)∧((w1==2)=false→((w1==3)=true→(zak (w1,w2,w3,
 rs) (a,b,c,d) k va).1=afM k∧(zak (w1,w2,w3,rs) (a,b,c,d) k va).2=0∧rs=rs)∧((w1==3)=false→(U64 w3∧U64 va)∧(zak (w1,w2,w3,rs) (a,b,c,d) k va).1=(zcc w3 w2 (a,b,c,d) k
 va).1∧(zak (w1,w2,w3,rs) (a,b,c,d) k va).2=(zcc w3 w2 (a,b,c,d) k va).2∧rs=rs))):=by kernel_rfl
theorem zu5(m:By)(a:Int)(b c:Bool)(d k va:Int):ykl m a b c d k va=(
 let A0:=za6 m va 3 (zfe d);
 let A1(a:Nat):=zwz a A0;
 let A2(a b c:Prop):=a∧b∧c;
 let A3:=(zaw m (a,b,c,d) k va).2;
 let A4(e:Int):=(zaw m (a,b,c,d) k va).1=e;
 let A5:=(0:Nat)+1;
 let A6(a:Prop):=List.length m=List.length m∧A2 ((2:Int)=2) (zfy m (zfe d) 2 va) a;
 let A7:=A0.2.2.1;
 let A8(a:Bool)(b:Prop):=a=true→b;
 let A9(a:Int):=((0:Int)≤k∧k≤2)∧A2 (A4 a) (A3=0) (m=m);
 let Aa(a:Bool)(b:Prop):=a=false→b;
 let Ab:=A6 (A1 0);
 let Ac:=za5 A7 k a b c;
 let Ad:=onM (a,b,c,d);
 let Ae(a:Bool)(b:Int)(c:Prop):=A8 (!a) (A2 (A4 b) c (m=m));
 let Af:=zl8 (a,b,c,d) k;
 let Ah:=A6 (A1 (A5+1));
 Ae Af 63 (A3=0)∧Aa (!Af) (A2 (U64 d) (Ae Ad 0 (A3=va)) (Aa (!Ad) (A2 (U64 va) (A8 (zen va) (A2 (U64 d) (Ab∨A6 (A1 A5)∨Ah) (A2 (Ab→A2 (A8 true (U64 A7)) (A8 (!Ac) (A9 (pfM k))) (Aa (!Ac) (A8 (!true) (A9
  0)∧Aa (!true) (A2 (U64 A7) (LvR A0.2.1) (U64 va)∧A2 (A4 0) (A3=zck A7 A0.2.1 va) (m=m))))) (A6 (A1 A5)→A9 (afM k)) (Ah→A9 (pfM k))))) (Aa (zen va) (A9 (pfM k))))))):=by kernel_rfl
set_option linter.unusedSimpArgs false
theorem yvf:Sound Tryz.prog 139 yve:=by
 refine zbi mixed Tryz.func139 (by kernel_rfl) (by kernel_rfl) zdc (fun args H p v H' h hp => ?_)
 unfold yve at h
 split at h
 case h_2=>cases h
 rename_i a b c
 simp only[Option.some.injEq,Prod.mk.injEq] at h
 obtain⟨rfl,rfl,rfl⟩:=h
 exact⟨.none,zab (ydy a b c) trivial⟩
theorem yy7:zar Tryz.prog kN1 := .cons (by kernel_rfl) yvf zto
theorem yxk:DictOk Tryz.prog FN1:=zay ((yy7.append zei).append zc4) .nil .nil
theorem zzo{m:By}{va a b c:Int}{rs:Rs}(hm:zaj m)(hv:U64 va){l p:Int}(h:StP m va (a,b,c,rs) l p):zam Tryz.prog FN1 (.one 1 (zj1 m va (a,b,c,rs))) 1 (zag Tryz.f137 0) (zj1 m va (a,b,c,rs)) (fun x:Int × Int=>(x.1+1).toNat) (l,p):=by
 obtain⟨l0,l1,p0,p1,ha,hb,hc⟩:=h
 simp only at ha hb hc
 refine zab (zsl m va a b c rs l p) ?_
 conv=>zeta
 refine⟨fun g => ?_,fun g => ?_⟩
 · have g:l≥0:=of_decide_eq_true g
   have hl:LvR l:=⟨g,l1⟩
   obtain⟨hA,hS⟩:=zsx hl hv p0 p1
   have hrd:=zt8 (a:=64*p+8*zeq va l) hm
   obtain⟨i0,i1⟩:=ztl va l
   have hAu:U64 (64*p+8*zeq va l):=⟨by omega,by omega⟩
   rw[show (l+1).toNat=l.toNat+1 by omega,zob g] at ha hb hc
   rw[hA]
   generalize 64*p+8*zeq va l=A at *
   generalize zbc m A 8=r at *
   refine⟨by decide,hS,by decide,⟨rfl,hm,hAu⟩,fun q => ?_,fun q=>⟨hrd,fun q2 => ?_,fun q2=>⟨fun q3 => ?_,fun q3=>⟨hrd, ?_⟩⟩⟩⟩
   · have q:r.1=false:=by simpa using q
     rw[if_pos q] at ha hb hc
     exact .inl ⟨(),⟨rfl,hb,hb,rfl⟩,ha,hc⟩
   · have q:r.1≠false:=by simpa using q
     have q2:za7 r.2 l=0:=by simpa using q2
     rw[if_neg q,if_pos q2] at ha hb hc
     exact .inr (.inl ⟨(),⟨rfl,hb,hb,rfl⟩,ha,hc⟩)
   · have q:r.1≠false:=by simpa using q
     have q2:za7 r.2 l≠0:=by simpa using q2
     have q3:za7 r.2 l=2:=by simpa using q3
     rw[if_neg q,if_neg q2,if_pos q3] at ha hb hc
     exact .inr (.inr ⟨(),⟨hc,hb,rfl,rfl⟩,ha⟩)
   · have q:r.1≠false:=by simpa using q
     have q2:za7 r.2 l≠0:=by simpa using q2
     have q3:za7 r.2 l≠2:=by simpa using q3
     obtain⟨g0,g1⟩:=zk7 hrd
     rw[if_neg q,if_neg q2,if_neg q3] at ha hb hc
     have e1:IntKind.i64.wrap (l-1)=l-1:=zaa (by omega) (by omega)
     have e2:(l-1+1).toNat=l.toNat:=by omega
     refine⟨(l-1,zcl r.2),⟨rfl,rfl,rfl,e1.symm,rfl,rfl⟩,⟨by simp only;omega,by simp only;omega,g0,g1, ?_, ?_, ?_⟩,by simp only;omega,fun _ z=>z,fun _ z=>z,fun _ z=>z,fun _ z=>z⟩
     · simp only[e2];exact ha
     · simp only[e2];exact hb
     · simp only[e2];exact hc
 · have g:¬ l≥0:=of_decide_eq_false g
   have e:(l+1).toNat=0:=by omega
   rw[e] at ha hb hc
   have ha:a=2:=ha
   have hb:b=0:=hb
   have hc:c=0:=hc
   exact⟨(),rfl,ha,hb,hc⟩
theorem ypu(k:Nat):Sound Tryz.prog 137 (ylw k):=by
 refine zdk mixed Tryz.func137 (by kernel_rfl) (b:=zag Tryz.f137 0) (k:=1) (by kernel_rfl) (by kernel_rfl) (by kernel_rfl) yxk (fun args H p v H' h hp => ?_)
 unfold ylw at h
 split at h
 case h_2=>cases h
 rename_i n p l va sh m
 split at h
 case isFalse=>cases h
 rename_i hsh
 subst hsh
 simp only[Option.some.injEq,Prod.mk.injEq] at h
 obtain⟨rfl,rfl,rfl⟩:=h
 obtain⟨rfl,rfl,⟨hm,p0,p1,hl,hv⟩,hk⟩:n=m.length∧l=2∧zfy m p 2 va∧zwz k (za6 m va 3 p):=hp
 generalize hW:za6 m va 3 p=W at *
 obtain⟨a,b,c,rs⟩:=W
 have h0:StP m va (a,b,c,rs) 2 p:=by
  refine⟨by decide,by decide,p0,p1, ?_, ?_, ?_⟩<;>(rw[show ((2:Int)+1).toNat=3 by decide,hW];try rfl)
 refine⟨.one 1 (zj1 m va (a,b,c,rs)),zj1 m va (a,b,c,rs),fun x:Int × Int=>(x.1+1).toNat,za3 _ _,fun y hy => ?_, ?_⟩
 · obtain⟨l,q⟩:Int × Int:=y
   exact zzo hm hv hy
 · match k,hk with
   | 0,hk =>
    have hk:a=1:=hk
    subst hk
    exact zab (zv3 m p va 1 b c rs) ⟨(2,p),⟨rfl,rfl,rfl,rfl,rfl,rfl⟩,h0,fun _ z=>absurd z.1 (by decide),fun _ z=>absurd z.1 (by decide),fun _ z=>absurd z.1 (by decide),fun _ _=>⟨rfl,rfl,rfl,rfl⟩⟩
   | 1,hk =>
    have hk:a=3:=hk
    subst hk
    exact zab (zv4 m p va 3 b c rs) ⟨(2,p),⟨rfl,rfl,rfl,rfl,rfl,rfl⟩,h0,fun _ z=>absurd z.1 (by decide),fun _ z=>⟨z.2,rfl,rfl,rfl⟩,fun _ z=>absurd z.1 (by decide),fun _ z=>absurd z (by decide)⟩
   | k+2,hk =>
    have hk:a=2:=hk
    subst hk
    exact zab (zv5 m p va 2 b c rs) ⟨(2,p),⟨rfl,rfl,rfl,rfl,rfl,rfl⟩,h0,fun _ z=>⟨z.2.2,z.2.1,z.2.1,rfl⟩,fun _ z=>absurd z.1 (by decide),fun _ z=>⟨z.2,rfl,rfl,rfl⟩,fun _ z=>absurd z (by decide)⟩
theorem yp4:DictOk Tryz.prog FN0:=zay ((yna.append zei).append zc4) .nil .nil
theorem yul:Sound Tryz.prog 123 (zai [u64,i64,zg4,i64,u64] [trP] (fun t=>some (U64 t.1∧U64 t.2.2.2.2)) (fun t=>zcc t.1 t.2.1 t.2.2.1 t.2.2.2.1 t.2.2.2.2)):=by
 refine zad mixed Tryz.func123 (by kernel_rfl) (by kernel_rfl) yp4 (fun t h => ?_)
 obtain⟨p,l,⟨a,b,c,d⟩,k,va⟩:Int × Int × Ct × Int × Int:=t
 obtain⟨h1,h2⟩:U64 p∧U64 va:=h
 refine zab (ydm p l a b c d k va) ⟨h1,fun q=>⟨⟨h1,h2⟩, ?_⟩,fun q => ?_⟩
 · simp[zcc,q]
 · simp[zcc,q]
theorem ymn:Sound Tryz.prog 133 yfm:=by
 refine zbi mixed Tryz.func133 (by kernel_rfl) (by kernel_rfl) yp4 (fun args H p v H' h hp => ?_)
 unfold yfm at h
 have kc:∀{k:Int},0≤k∧k≤2→k=0∨k=1∨k=2:=fun h=>by omega
 split at h
 · simp only[Option.some.injEq,Prod.mk.injEq] at h
   obtain⟨rfl,rfl,rfl⟩:=h
   exact⟨.none,zab (zum _) ⟨fun _=>rfl,fun e=>by cases e⟩⟩
 · rename_i l k
   simp only[Option.some.injEq,Prod.mk.injEq] at h
   obtain⟨rfl,rfl,rfl⟩:=h
   have hp:0≤k∧k≤2:=hp
   refine⟨.none,zab (zun l k) ?_⟩
   rcases kc hp with rfl|rfl|rfl<;>exact⟨⟨by decide,by decide⟩,rfl⟩
 · rename_i l k
   simp only[Option.some.injEq,Prod.mk.injEq] at h
   obtain⟨rfl,rfl,rfl⟩:=h
   have hp:0≤k∧k≤2:=hp
   refine⟨.none,zab (zuo l k) ?_⟩
   rcases kc hp with rfl|rfl|rfl<;>exact⟨⟨by decide,by decide⟩,rfl⟩
 · cases h
theorem zmz:zar Tryz.prog kN2 := .cons (by kernel_rfl) yul <| .cons (by kernel_rfl) ymn .nil
theorem yp5:DictOk Tryz.prog FN2:=zay (((zmz.append yna).append zei).append zc4) (.cons (by kernel_rfl) ypu .nil) .nil
theorem yfe:Sound Tryz.prog 128 (zai [wrP,zg4,i64,u64] [trP] (fun t=>some ((t.1.1≠2→t.1.1≠3→U64 t.1.2.2.1)∧U64 t.2.2.2)) (fun t=>zak t.1 t.2.1 t.2.2.1 t.2.2.2)):=by
 refine zad mixed Tryz.func128 (by kernel_rfl) (by kernel_rfl) yp5 (fun t h => ?_)
 obtain⟨⟨w1,w2,w3,rs⟩,⟨a,b,c,d⟩,k,va⟩:Wr × Ct × Int × Int:=t
 obtain⟨h1,h2⟩:(w1≠2→w1≠3→U64 w3)∧U64 va:=h
 refine zab (zul w1 w2 w3 rs a b c d k va) ⟨fun q => ?_,fun q=>⟨fun q2 => ?_,fun q2 => ?_⟩⟩
 · have q:w1=2:=by simpa using q
   simp[zak,q]
 · have q2:w1=3:=by simpa using q2
   simp[zak,q2]
 · have q:w1≠2:=by simpa using q
   have q2:w1≠3:=by simpa using q2
   exact⟨⟨h1 q q2,h2⟩,by simp[zak,q,q2],by simp[zak,q,q2],rfl⟩
theorem zbz{m:By}{va:Int}(hm:zaj m):∀(n:Nat)(p:Int),(za6 m va n p).1=1→U64 (za6 m va n p).2.2.1∧0≤(za6 m va n p).2.1∧(za6 m va n p).2.1<n
 | 0,_,h=>by cases h
 | n+1,p,h=>by
  have hr:=zt8 (a:=64*p+8*zeq va n) hm
  unfold za6 at h ⊢
  split at h
  · cases h
  · rename_i c1
    rw[if_neg c1]
    split at h
    · cases h
    · rename_i c2
      rw[if_neg c2]
      split at h
      · rename_i c3
        rw[if_pos c3]
        exact⟨hr,by simp only;omega,by simp only;omega⟩
      · rename_i c3
        rw[if_neg c3]
        obtain⟨g1,g2,g3⟩:=zbz hm n _ h
        exact⟨g1,g2,by simp only;omega⟩
theorem ztk:Sound Tryz.prog 46 (zai [byP,zg4,i64,u64] [trP] (fun t=>some (zaj t.1∧U64 t.2.1.2.2.2∧U64 t.2.2.2)) (fun t=>zaw t.1 t.2.1 t.2.2.1 t.2.2.2)):=by
 refine zad mixed Tryz.func46 (by kernel_rfl) (by kernel_rfl) yp5 (fun t h => ?_)
 obtain⟨m,⟨a,b,c,d⟩,k,va⟩:By × Ct × Int × Int:=t
 obtain⟨h1,h2,h3⟩:zaj m∧U64 d∧U64 va:=h
 refine zab (zu5 m a b c d k va) ?_
 conv=>zeta
 refine⟨fun q => ?_,fun q=>⟨h2,fun q2 => ?_,fun q2=>⟨h3,fun q3=>⟨h2, ?_⟩,fun q3 => ?_⟩⟩⟩
 · have q:zl8 (a,b,c,d) k=false:=by simpa using q
   simp[zaw,q]
 · have q:zl8 (a,b,c,d) k=true:=by simpa using q
   have q2:onM (a,b,c,d)=false:=by simpa using q2
   simp[zaw,q,q2]
 · have q:zl8 (a,b,c,d) k=true:=by simpa using q
   have q2:onM (a,b,c,d)=true:=by simpa using q2
   have hk:0≤k∧k≤2:=by simp only[zl8,Bool.and_eq_true,decide_eq_true_eq] at q;exact q.1.1
   have hF:zfy m (zfe d) 2 va:=⟨h1,Int.emod_nonneg _ (by decide),Int.emod_lt_of_pos _ (by decide),⟨by decide,by decide⟩,h3⟩
   have hc:=zb5 m va 3 (zfe d)
   have hl:=zbz (va:=va) h1 3 (zfe d)
   have e:zaw m (a,b,c,d) k va=zak (za6 m va 3 (zfe d)) (a,b,c,d) k va:=by
    unfold zaw
    rw[if_pos q,if_pos q2]
    simp[zcf,q3,zfe]
   rw[e]
   generalize za6 m va 3 (zfe d)=W at *
   refine⟨?_,fun z => ?_,fun z => ?_,fun z => ?_⟩
   · rcases hc with z|z|z
     · exact .inl ⟨rfl,rfl,hF,z⟩
     · exact .inr (.inl ⟨rfl,rfl,hF,z⟩)
     · exact .inr (.inr ⟨rfl,rfl,hF,z⟩)
   · have z1:W.1=1:=z.2.2.2
     obtain⟨g1,g2,g3⟩:=hl z1
     have ea:zak W (a,b,c,d) k va=zcc W.2.2.1 W.2.1 (a,b,c,d) k va:=by simp[zak,z1]
     rw[ea]
     refine⟨fun _=>g1,fun y=>⟨hk, ?_⟩,fun y=>⟨fun z=>(by cases z),fun _=>⟨⟨g1,⟨g2,by omega⟩,h3⟩, ?_⟩⟩⟩
     · have y:za5 W.2.2.1 k a b c=false:=by simpa using y
       simp[zcc,y]
     · have y:za5 W.2.2.1 k a b c=true:=by simpa using y
       simp[zcc,y]
   · have z1:W.1=3:=z.2.2.2
     simp[zak,z1,hk]
   · have z1:W.1=2:=z.2.2.2
     simp[zak,z1,hk]
 · have q:zl8 (a,b,c,d) k=true:=by simpa using q
   have q2:onM (a,b,c,d)=true:=by simpa using q2
   have hk:0≤k∧k≤2:=by simp only[zl8,Bool.and_eq_true,decide_eq_true_eq] at q;exact q.1.1
   simp[zaw,q,q2,hk,zcf,q3,zak]
end Go.Proofs.YtfiddfbagbaofaaGreat.V
