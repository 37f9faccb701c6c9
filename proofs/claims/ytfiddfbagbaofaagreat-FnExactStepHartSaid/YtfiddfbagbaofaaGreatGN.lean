/- The plain translation answers as the model. Conditions: those in each statement. -/
import Derived.Test.YtfiddfbagbaofaaGreatGM
import Derived.KernelRfl
namespace Go.Proofs.YtfiddfbagbaofaaGreat.V
open Go
abbrev Ct:=Int × Bool × Bool × Int
abbrev trP:Pm := .st [.i .i64,.i .u64]
def zb4(pte l:Int)(c:Ct)(k va:Int):Int × Int:=if za3 pte k c.1 c.2.1 c.2.2.1=true then (0,zce pte l va) else (pfM k,0)
def zai(W:Wr)(c:Ct)(k va:Int):Int × Int:=if W.1=2 then (pfM k,0) else if W.1=3 then (afM k,0) else zb4 W.2.2.1 W.2.1 c k va
def zav(m:By)(c:Ct)(k va:Int):Int × Int:=if zlt c k=true then (if onM c=true then zai (zb7 m c.2.2.2 va) c k va else (0,va)) else (63,0)
def FN0:Dict:=mkD (kM++kB3++kA4) [] []
def yw6(p l:Int)(a:Int)(b c:Bool)(d k va:Int):Prop:=zag Tryz.prog FN0 .none Tryz.f123 [u64,i64,zgo,i64,u64] [trP] (p,l,(a,b,c,d),k,va) (zb4 p l (a,b,c,d) k va)
def yjq(k:Int):Prop:=zjp Tryz.prog FN0 .none Tryz.f133 [.v .nilIface,.v (.int .i64 k)] [] (.v (.int .i64 0)) []
def yjr(l k:Int):Prop:=zjp Tryz.prog FN0 .none Tryz.f133 [.ifc 256 (.agg [.v (.int .i64 l)]),.v (.int .i64 k)] [] (.v (.int .i64 (afM k))) []
def yjs(l k:Int):Prop:=zjp Tryz.prog FN0 .none Tryz.f133 [.ifc 200 (.agg [.v (.int .i64 l)]),.v (.int .i64 k)] [] (.v (.int .i64 (pfM k))) []
def yxa(a b c:Int):Prop:=zjp Tryz.prog F0 .none Tryz.f139 [.agg (rcA (a,b,c))] [] (.tup []) []
def yvy:Sum:=fun args H=>match args,H with
 | [.agg [.v (.int .i64 _),.v (.int .u64 _),.v (.int .u64 _)]],[]=>some (none,.tup [],[])
 | _,_=>none
def kN1:Known:=(139,yvy)::kK2
def FN1:Dict:=mkD (kN1++kB3++kA4) [] []
def StP(m:By)(va:Int)(W:Wr)(l p:Int):Prop := -1≤l∧l≤2∧0≤p∧p<17592186044416∧W.1=(za4 m va (l+1).toNat p).1∧W.2.1=(za4 m va (l+1).toNat p).2.1∧W.2.2.1=(za4 m va (l+1).toNat p).2.2.1
def zjk(m:By)(va:Int)(W:Wr):LoopS where
 α:=Int × Int
 I x:=StP m va W x.1 x.2
 sl x:=slots 66 [(0,.ifc 196 (.sl 0 1 0 m.length)),(1,.v (.int .u64 x.2)),(2,.v (.int .i64 x.1)),(3,.v (.int .u64 va)),(4,.fn 139 [])]
 H _:=[.arr [.i .u8] m false]
 fams:=[{ β:=Unit,out:=fun _ _=>W.1=2∧W.2.1=0∧W.2.2.1=0,ex := .ext 0,sl:=fun _=>slots 66 [],H:=fun _=>[.arr [.i .u8] m false] },
  { β:=Unit,out:=fun _ _=>W.1=3∧W.2.2.1=0,ex := .ret,sl:=fun _=>slots 66 [(10,.v (.int .u64 0)),(11,.v (.int .i64 W.2.1)),(12,.ifc 256 (.agg [.v (.int .i64 W.2.1)]))],H:=fun _=>[.arr [.i .u8] m false] },
  { β:=Unit,out:=fun _ _=>W.1=2∧W.2.2.1=0,ex := .ret,sl:=fun _=>slots 66 [(10,.v (.int .u64 0)),(11,.v (.int .i64 W.2.1)),(12,.ifc 200 (.agg [.v (.int .i64 W.2.1)]))],H:=fun _=>[.arr [.i .u8] m false] },
  { β:=Unit,out:=fun _ _=>W.1=1,ex := .ret,sl:=fun _=>slots 66 [(10,.v (.int .u64 W.2.2.1)),(11,.v (.int .i64 W.2.1)),(12,.v .nilIface)],H:=fun _=>[.arr [.i .u8] m false] }]
def yed(m:By)(va:Int)(a b c:Int)(rs:Rs)(l p:Int):Prop:=zao Tryz.prog FN1 (.one 1 (zjk m va (a,b,c,rs))) 1 (zak Tryz.f137 0) (zjk m va (a,b,c,rs)) (fun x:Int × Int=>(x.1+1).toNat) (l,p)
def znu(n:Nat)(p va:Int):List Av:=[.ifc 196 (.sl 0 1 0 n),.v (.int .u64 p),.v (.int .i64 2),.v (.int .u64 va),.fn 139 []]
def yl4(k:Nat):Sum:=fun args H=>match args,H with
 | [.ifc 196 (.sl 0 1 0 n),.v (.int .u64 p),.v (.int .i64 l),.v (.int .u64 va),.fn 139 []],[.arr sh m false] =>
  if h:sh=[.i .u8] then some (some (n=(h ▸ m:List (El [.i .u8])).length∧l=2∧zfi (h ▸ m:List (El [.i .u8])) p 2 va∧zwl k (za4 (h ▸ m:List (El [.i .u8])) va 3 p)),ysj k (za4 (h ▸ m:List (El [.i .u8])) va 3 p),[.arr [.i .u8] (h ▸ m:List (El [.i .u8])) false]) else none
 | _,_=>none
def yly(m:By)(p va a b c:Int)(rs:Rs):Prop:=zjp Tryz.prog FN1 (.one 1 (zjk m va (a,b,c,rs))) Tryz.f137 (znu m.length p va) [.arr [.i .u8] m false] (ysj 0 (a,b,c,rs)) [.arr [.i .u8] m false]
def ylz(m:By)(p va a b c:Int)(rs:Rs):Prop:=zjp Tryz.prog FN1 (.one 1 (zjk m va (a,b,c,rs))) Tryz.f137 (znu m.length p va) [.arr [.i .u8] m false] (ysj 1 (a,b,c,rs)) [.arr [.i .u8] m false]
def yl0(m:By)(p va a b c:Int)(rs:Rs):Prop:=zjp Tryz.prog FN1 (.one 1 (zjk m va (a,b,c,rs))) Tryz.f137 (znu m.length p va) [.arr [.i .u8] m false] (ysj 2 (a,b,c,rs)) [.arr [.i .u8] m false]
def yfo:Sum:=fun args H=>match args,H with
 | [.v .nilIface,.v (.int .i64 k)],[]=>some (some (0≤k∧k≤2),.v (.int .i64 0),[])
 | [.ifc 256 (.agg [.v (.int .i64 _)]),.v (.int .i64 k)],[]=>some (some (0≤k∧k≤2),.v (.int .i64 (afM k)),[])
 | [.ifc 200 (.agg [.v (.int .i64 _)]),.v (.int .i64 k)],[]=>some (some (0≤k∧k≤2),.v (.int .i64 (pfM k)),[])
 | _,_=>none
def kN2:Known:=[
 (123,zad [u64,i64,zgo,i64,u64] [trP] (fun t=>some (U64 t.1∧U64 t.2.2.2.2)) (fun t=>zb4 t.1 t.2.1 t.2.2.1 t.2.2.2.1 t.2.2.2.2)),
 (133,yfo)]
def FN2:Dict:=mkD (kN2++kM++kB3++kA4) [(137,(3,yl4))] []
def yjo(w1 w2 w3:Int)(rs:Rs)(a:Int)(b c:Bool)(d k va:Int):Prop:=zag Tryz.prog FN2 .none Tryz.f128 [wrP,zgo,i64,u64] [trP] ((w1,w2,w3,rs),(a,b,c,d),k,va) (zai (w1,w2,w3,rs) (a,b,c,d) k va)
def ykf(m:By)(a:Int)(b c:Bool)(d k va:Int):Prop:=zag Tryz.prog FN2 .none Tryz.f46 [byP,zgo,i64,u64] [trP] (m,(a,b,c,d),k,va) (zav m (a,b,c,d) k va)
set_option linter.unusedVariables false
theorem ydp(p l:Int)(a:Int)(b c:Bool)(d k va:Int):yw6 p l a b c d k va=(
 U64 p∧(za3 p k a b c=true→(U64 p∧U64 va)∧(zb4 p l (a,b,c,d) k va).fst=0∧(zb4 p l (a,b,c,d) k va).snd=zce p l va)∧(za3 p k a b c=false→(zb4 p l (a,b,c,d) k va).fst=pfM k∧(zb4 p l (a,
 b,c,d) k va).snd=0)):=by kernel_rfl
theorem zt1(k:Int):yjq k=(
 (true=true→(0:Int)=(0:Int))∧(true=false→((0:Int)≤k∧k<(↑(3:Nat):Int))∧(0:Int)=[(12:Int),(13:Int),(15:Int)].getD k.toNat (0:Int))):=by kernel_rfl
theorem zt2(l k:Int):yjr l k=(
 ((0:Int)≤k∧k<(↑(3:Nat):Int))∧afM k=[(1:Int),(5:Int),(7:Int)].getD k.toNat (0:Int)):=by kernel_rfl
theorem zt3(l k:Int):yjs l k=(
 ((0:Int)≤k∧k<(↑(3:Nat):Int))∧pfM k=[(12:Int),(13:Int),(15:Int)].getD k.toNat (0:Int)):=by kernel_rfl
theorem ydx(a b c:Int):yxa a b c=(
 True):=by kernel_rfl
theorem zrw(m:By)(va:Int)(a b c:Int)(rs:Rs)(l p:Int):yed m va a b c rs l p=(
 let A0(a:Int):=IntKind.u64.wrap a;
 let A1(a:Int):=IntKind.i64.wrap a;
 let A2(a:Int):=(2:Int) ^ (min a.toNat 64);
 let A3(a:Int):=a=0;
 let A4:=(6:Int)+A1 ((3:Int)*l);
 let A5:=a=2;
 let A6:=A0 (p*A2 6)+A0 (bits BinOp.and IntKind.u64 (va/A2 (A1 A4)) 7*A2 3);
 let A7:=za9 m (A0 A6) 8;
 let A8(a b:Prop):=a∧b∧A3 c;
 let A9:=A7.snd;
 let Aa:=a=3;
 let Ab(a b c:Prop):=a∧b∧c;
 let Ac(a:Int):=(a+1).toNat;
 let Ad(a:Int):=(0:Int)≤a;
 let Ae(a b c d:Prop):=a∧Ab b c d;
 let Af(a:Bool)(b:Prop):=a=false→b;
 let Ah:=A8 A5 (A3 b);
 let Ai:=False∧a=1;
 let Aj:=List.length m=List.length m;
 let Ak:=za2 A9 l==2;
 let Al:=za2 A9 l==0;
 let Am(a:Prop):=A8 (Ae (A3 0) (b=l) (b=l) (m=m)) a;
 let An:=decide (l≥0);
 let Ao(a:Bool)(b c d:Prop):=a=true→b∨c∨d;
 let Ap:=a=1;
 (An=true→Ae (Ad 6) (Ad (A1 A4)) (Ad 3) (Ab (Ab Aj (zaz m) (U64 (A0 A6))) (Ao (!A7.fst) (∃(x0:Unit),Am Aa) (∃(x1:Unit),A8 False A5) (∃(x2:Unit),Ai)) (Af (!A7.fst) (Ab (U64 A9) (Ao Al (∃(x3:Unit),A8
  False Aa) (∃(x4:Unit),Am A5) (∃(x2:Unit),Ai)) (Af Al (Ao Ak (∃(x3:Unit),A8 False Aa) (∃(x1:Unit),A8 False A5) (∃(x5:Unit),Ae (c=A9) (b=l) (Value.nilIface=Value.nilIface) (m=m)∧Ap)∧Af Ak (U64 A9∧∃(x6
  : Int × Int),Ab (Ae ((0:Nat)=0) Aj (x6.snd=zch A9) (Ab (x6.fst=A1 (l-1)) (va=va) (m=m))) (StP m va (a,b,c,rs) x6.fst x6.snd) (Ab (Ac x6.fst<Ac l) (∀(x7:Unit),Ah→Ah) (Ab (∀(x8:Unit),Aa ∧
  A3 c→Aa∧A3 c) (∀(x9:Unit),A5∧A3 c→A5∧A3 c) (∀(x10:Unit),Ap→Ap))))))))))∧Af An (∃(x11:Unit),m=m∧Ah)):=by kernel_rfl
theorem zvp(m:By)(p va a b c:Int)(rs:Rs):yly m p va a b c rs=(
 ∃(x:Int × Int),((0:Nat)=0∧List.length m=List.length m∧x.snd=p∧x.fst=2∧va=va∧m=m)∧StP m va (a,b,c,rs) x.fst x.snd∧(∀(z:Unit),a=2∧b=0∧c=0→False)∧(∀
 (z:Unit),a=3∧c=0→False)∧(∀(z:Unit),a=2∧c=0→False)∧∀(z:Unit),a=1→c=c∧b=b∧Value.nilIface=Value.nilIface∧m=m):=by kernel_rfl
theorem zvq(m:By)(p va a b c:Int)(rs:Rs):ylz m p va a b c rs=(
 ∃(x:Int × Int),((0:Nat)=0∧List.length m=List.length m∧x.snd=p∧x.fst=2∧va=va∧m=m)∧StP m va (a,b,c,rs) x.fst x.snd∧(∀(z:Unit),a=2∧b=0∧c=0→False)∧(∀
 (z:Unit),a=3∧c=0→c=0∧b=b∧b=b∧m=m)∧(∀(z:Unit),a=2∧c=0→False)∧∀(z:Unit),a=1→False):=by kernel_rfl
theorem zvr(m:By)(p va a b c:Int)(rs:Rs):yl0 m p va a b c rs=(
 ∃(x:Int × Int),((0:Nat)=0∧List.length m=List.length m∧x.snd=p∧x.fst=2∧va=va∧m=m)∧StP m va (a,b,c,rs) x.fst x.snd∧(∀(z:Unit),a=2∧b=0∧c=0→c=(0 :
 Int)∧b=0∧b=0∧m=m)∧(∀(z:Unit),a=3∧c=0→False)∧(∀(z:Unit),a=2∧c=0→c=0∧b=b∧b=b∧m=m)∧∀(z:Unit),a=1→False):=by kernel_rfl
theorem zt0(w1 w2 w3:Int)(rs:Rs)(a:Int)(b c:Bool)(d k va:Int):yjo w1 w2 w3 rs a b c d k va=(
 ((w1==2)=true→(zai (w1,w2,w3,rs) (a,b,c,d) k va).fst=pfM k∧(zai (w1,w2,w3,rs) (a,b,c,d) k va).snd=0∧rs=rs)∧((w1==2)=false→((w1==3)=true→(zai (w1,w2,w3,
 rs) (a,b,c,d) k va).fst=afM k∧(zai (w1,w2,w3,rs) (a,b,c,d) k va).snd=0∧rs=rs)∧((w1==3)=false→(U64 w3∧U64 va)∧(zai (w1,w2,w3,rs) (a,b,c,d) k va).fst=(zb4 w3 w2 (a,b,c,d) k
 va).fst∧(zai (w1,w2,w3,rs) (a,b,c,d) k va).snd=(zb4 w3 w2 (a,b,c,d) k va).snd∧rs=rs))):=by kernel_rfl
theorem zuj(m:By)(a:Int)(b c:Bool)(d k va:Int):ykf m a b c d k va=(
 let A0:=za4 m va 3 (ze1 d);
 let A1(a:Nat):=zwl a A0;
 let A2(a b c:Prop):=a∧b∧c;
 let A3:=(zav m (a,b,c,d) k va).snd;
 let A4(e:Int):=(zav m (a,b,c,d) k va).fst=e;
 let A5:=(0:Nat)+1;
 let A6(a:Prop):=List.length m=List.length m∧A2 ((2:Int)=2) (zfi m (ze1 d) 2 va) a;
 let A7:=A0.snd.snd.fst;
 let A8(a:Bool)(b:Prop):=a=true→b;
 let A9(a:Int):=((0:Int)≤k∧k≤2)∧A2 (A4 a) (A3=0) (m=m);
 let Aa(a:Bool)(b:Prop):=a=false→b;
 let Ab:=A6 (A1 0);
 let Ac:=za3 A7 k a b c;
 let Ad:=onM (a,b,c,d);
 let Ae(a:Bool)(b:Int)(c:Prop):=A8 (!a) (A2 (A4 b) c (m=m));
 let Af:=zlt (a,b,c,d) k;
 let Ah:=A6 (A1 (A5+1));
 Ae Af 63 (A3=0)∧Aa (!Af) (A2 (U64 d) (Ae Ad 0 (A3=va)) (Aa (!Ad) (A2 (U64 va) (A8 (zee va) (A2 (U64 d) (Ab∨A6 (A1 A5)∨Ah) (A2 (Ab→A2 (A8 true (U64 A7)) (A8 (!Ac) (A9 (pfM k))) (Aa (!Ac) (A8 (!true) (A9
  0)∧Aa (!true) (A2 (U64 A7) (LvR A0.snd.fst) (U64 va)∧A2 (A4 0) (A3=zce A7 A0.snd.fst va) (m=m))))) (A6 (A1 A5)→A9 (afM k)) (Ah→A9 (pfM k))))) (Aa (zee va) (A9 (pfM k))))))):=by kernel_rfl
set_option linter.unusedSimpArgs false
theorem yvz:Sound Tryz.prog 139 yvy:=by
 refine zbo mixed Tryz.func139 (by kernel_rfl) (by kernel_rfl) zcg (fun args H p v H' h hp => ?_)
 unfold yvy at h
 split at h
 case h_2=>cases h
 rename_i a b c
 simp only[Option.some.injEq,Prod.mk.injEq] at h
 obtain⟨rfl,rfl,rfl⟩:=h
 exact⟨.none,zae (ydx a b c) trivial⟩
theorem yzl:zar Tryz.prog kN1 := .cons (by kernel_rfl) yvz zs1
theorem yx6:DictOk Tryz.prog FN1:=zaw ((yzl.append zd6).append zcy) .nil .nil
theorem zzo{m:By}{va a b c:Int}{rs:Rs}(hm:zaz m)(hv:U64 va){l p:Int}(h:StP m va (a,b,c,rs) l p):zao Tryz.prog FN1 (.one 1 (zjk m va (a,b,c,rs))) 1 (zak Tryz.f137 0) (zjk m va (a,b,c,rs)) (fun x:Int × Int=>(x.1+1).toNat) (l,p):=by
 obtain⟨l0,l1,p0,p1,ha,hb,hc⟩:=h
 simp only at ha hb hc
 refine zae (zrw m va a b c rs l p) ?_
 conv=>zeta
 refine⟨fun g => ?_,fun g => ?_⟩
 · have g:l≥0:=of_decide_eq_true g
   have hl:LvR l:=⟨g,l1⟩
   obtain⟨hA,hS⟩:=zr8 hl hv p0 p1
   have hrd:=ztm (a:=64*p+8*zeh va l) hm
   obtain⟨i0,i1⟩:=zsy va l
   have hAu:U64 (64*p+8*zeh va l):=⟨by omega,by omega⟩
   rw[show (l+1).toNat=l.toNat+1 by omega,znv g] at ha hb hc
   rw[hA]
   generalize 64*p+8*zeh va l=A at *
   generalize za9 m A 8=r at *
   refine⟨by decide,hS,by decide,⟨rfl,hm,hAu⟩,fun q => ?_,fun q=>⟨hrd,fun q2 => ?_,fun q2=>⟨fun q3 => ?_,fun q3=>⟨hrd, ?_⟩⟩⟩⟩
   · have q:r.1=false:=by simpa using q
     rw[if_pos q] at ha hb hc
     exact .inl ⟨(),⟨rfl,hb,hb,rfl⟩,ha,hc⟩
   · have q:r.1≠false:=by simpa using q
     have q2:za2 r.2 l=0:=by simpa using q2
     rw[if_neg q,if_pos q2] at ha hb hc
     exact .inr (.inl ⟨(),⟨rfl,hb,hb,rfl⟩,ha,hc⟩)
   · have q:r.1≠false:=by simpa using q
     have q2:za2 r.2 l≠0:=by simpa using q2
     have q3:za2 r.2 l=2:=by simpa using q3
     rw[if_neg q,if_neg q2,if_pos q3] at ha hb hc
     exact .inr (.inr ⟨(),⟨hc,hb,rfl,rfl⟩,ha⟩)
   · have q:r.1≠false:=by simpa using q
     have q2:za2 r.2 l≠0:=by simpa using q2
     have q3:za2 r.2 l≠2:=by simpa using q3
     obtain⟨g0,g1⟩:=zkp hrd
     rw[if_neg q,if_neg q2,if_neg q3] at ha hb hc
     have e1:IntKind.i64.wrap (l-1)=l-1:=zac (by omega) (by omega)
     have e2:(l-1+1).toNat=l.toNat:=by omega
     refine⟨(l-1,zch r.2),⟨rfl,rfl,rfl,e1.symm,rfl,rfl⟩,⟨by simp only;omega,by simp only;omega,g0,g1, ?_, ?_, ?_⟩,by simp only;omega,fun _ z=>z,fun _ z=>z,fun _ z=>z,fun _ z=>z⟩
     · simp only[e2];exact ha
     · simp only[e2];exact hb
     · simp only[e2];exact hc
 · have g:¬ l≥0:=of_decide_eq_false g
   have e:(l+1).toNat=0:=by omega
   rw[e] at ha hb hc
   have ha:a=2:=ha
   have hb:b=0:=hb
   have hc:c=0:=hc
   exact⟨(),rfl,ha,hb,hc⟩
theorem yqn(k:Nat):Sound Tryz.prog 137 (yl4 k):=by
 refine zds mixed Tryz.func137 (by kernel_rfl) (b:=zak Tryz.f137 0) (k:=1) (by kernel_rfl) (by kernel_rfl) (by kernel_rfl) yx6 (fun args H p v H' h hp => ?_)
 unfold yl4 at h
 split at h
 case h_2=>cases h
 rename_i n p l va sh m
 split at h
 case isFalse=>cases h
 rename_i hsh
 subst hsh
 simp only[Option.some.injEq,Prod.mk.injEq] at h
 obtain⟨rfl,rfl,rfl⟩:=h
 obtain⟨rfl,rfl,⟨hm,p0,p1,hl,hv⟩,hk⟩:n=m.length∧l=2∧zfi m p 2 va∧zwl k (za4 m va 3 p):=hp
 generalize hW:za4 m va 3 p=W at *
 obtain⟨a,b,c,rs⟩:=W
 have h0:StP m va (a,b,c,rs) 2 p:=by
  refine⟨by decide,by decide,p0,p1, ?_, ?_, ?_⟩<;>(rw[show ((2:Int)+1).toNat=3 by decide,hW];try rfl)
 refine⟨.one 1 (zjk m va (a,b,c,rs)),zjk m va (a,b,c,rs),fun x:Int × Int=>(x.1+1).toNat,za1 _ _,fun y hy => ?_, ?_⟩
 · obtain⟨l,q⟩:Int × Int:=y
   exact zzo hm hv hy
 · match k,hk with
   | 0,hk =>
    have hk:a=1:=hk
    subst hk
    exact zae (zvp m p va 1 b c rs) ⟨(2,p),⟨rfl,rfl,rfl,rfl,rfl,rfl⟩,h0,fun _ z=>absurd z.1 (by decide),fun _ z=>absurd z.1 (by decide),fun _ z=>absurd z.1 (by decide),fun _ _=>⟨rfl,rfl,rfl,rfl⟩⟩
   | 1,hk =>
    have hk:a=3:=hk
    subst hk
    exact zae (zvq m p va 3 b c rs) ⟨(2,p),⟨rfl,rfl,rfl,rfl,rfl,rfl⟩,h0,fun _ z=>absurd z.1 (by decide),fun _ z=>⟨z.2,rfl,rfl,rfl⟩,fun _ z=>absurd z.1 (by decide),fun _ z=>absurd z (by decide)⟩
   | k+2,hk =>
    have hk:a=2:=hk
    subst hk
    exact zae (zvr m p va 2 b c rs) ⟨(2,p),⟨rfl,rfl,rfl,rfl,rfl,rfl⟩,h0,fun _ z=>⟨z.2.2,z.2.1,z.2.1,rfl⟩,fun _ z=>absurd z.1 (by decide),fun _ z=>⟨z.2,rfl,rfl,rfl⟩,fun _ z=>absurd z (by decide)⟩
theorem yqz:DictOk Tryz.prog FN0:=zaw ((ynn.append zd6).append zcy) .nil .nil
theorem yvf:Sound Tryz.prog 123 (zad [u64,i64,zgo,i64,u64] [trP] (fun t=>some (U64 t.1∧U64 t.2.2.2.2)) (fun t=>zb4 t.1 t.2.1 t.2.2.1 t.2.2.2.1 t.2.2.2.2)):=by
 refine zab mixed Tryz.func123 (by kernel_rfl) (by kernel_rfl) yqz (fun t h => ?_)
 obtain⟨p,l,⟨a,b,c,d⟩,k,va⟩:Int × Int × Ct × Int × Int:=t
 obtain⟨h1,h2⟩:U64 p∧U64 va:=h
 refine zae (ydp p l a b c d k va) ⟨h1,fun q=>⟨⟨h1,h2⟩, ?_⟩,fun q => ?_⟩
 · simp[zb4,q]
 · simp[zb4,q]
theorem ym0:Sound Tryz.prog 133 yfo:=by
 refine zbo mixed Tryz.func133 (by kernel_rfl) (by kernel_rfl) yqz (fun args H p v H' h hp => ?_)
 unfold yfo at h
 have kc:∀{k:Int},0≤k∧k≤2→k=0∨k=1∨k=2:=fun h=>by omega
 split at h
 · simp only[Option.some.injEq,Prod.mk.injEq] at h
   obtain⟨rfl,rfl,rfl⟩:=h
   exact⟨.none,zae (zt1 _) ⟨fun _=>rfl,fun e=>by cases e⟩⟩
 · rename_i l k
   simp only[Option.some.injEq,Prod.mk.injEq] at h
   obtain⟨rfl,rfl,rfl⟩:=h
   have hp:0≤k∧k≤2:=hp
   refine⟨.none,zae (zt2 l k) ?_⟩
   rcases kc hp with rfl|rfl|rfl<;>exact⟨⟨by decide,by decide⟩,rfl⟩
 · rename_i l k
   simp only[Option.some.injEq,Prod.mk.injEq] at h
   obtain⟨rfl,rfl,rfl⟩:=h
   have hp:0≤k∧k≤2:=hp
   refine⟨.none,zae (zt3 l k) ?_⟩
   rcases kc hp with rfl|rfl|rfl<;>exact⟨⟨by decide,by decide⟩,rfl⟩
 · cases h
theorem zmj:zar Tryz.prog kN2 := .cons (by kernel_rfl) yvf <| .cons (by kernel_rfl) ym0 .nil
theorem yq0:DictOk Tryz.prog FN2:=zaw (((zmj.append ynn).append zd6).append zcy) (.cons (by kernel_rfl) yqn .nil) .nil
theorem yfi:Sound Tryz.prog 128 (zad [wrP,zgo,i64,u64] [trP] (fun t=>some ((t.1.1≠2→t.1.1≠3→U64 t.1.2.2.1)∧U64 t.2.2.2)) (fun t=>zai t.1 t.2.1 t.2.2.1 t.2.2.2)):=by
 refine zab mixed Tryz.func128 (by kernel_rfl) (by kernel_rfl) yq0 (fun t h => ?_)
 obtain⟨⟨w1,w2,w3,rs⟩,⟨a,b,c,d⟩,k,va⟩:Wr × Ct × Int × Int:=t
 obtain⟨h1,h2⟩:(w1≠2→w1≠3→U64 w3)∧U64 va:=h
 refine zae (zt0 w1 w2 w3 rs a b c d k va) ⟨fun q => ?_,fun q=>⟨fun q2 => ?_,fun q2 => ?_⟩⟩
 · have q:w1=2:=by simpa using q
   simp[zai,q]
 · have q2:w1=3:=by simpa using q2
   simp[zai,q2]
 · have q:w1≠2:=by simpa using q
   have q2:w1≠3:=by simpa using q2
   exact⟨⟨h1 q q2,h2⟩,by simp[zai,q,q2],by simp[zai,q,q2],rfl⟩
theorem zbq{m:By}{va:Int}(hm:zaz m):∀(n:Nat)(p:Int),(za4 m va n p).1=1→U64 (za4 m va n p).2.2.1∧0≤(za4 m va n p).2.1∧(za4 m va n p).2.1<n
 | 0,_,h=>by cases h
 | n+1,p,h=>by
  have hr:=ztm (a:=64*p+8*zeh va n) hm
  unfold za4 at h ⊢
  split at h
  · cases h
  · rename_i c1
    rw[if_neg c1]
    split at h
    · cases h
    · rename_i c2
      rw[if_neg c2]
      split at h
      · rename_i c3
        rw[if_pos c3]
        exact⟨hr,by simp only;omega,by simp only;omega⟩
      · rename_i c3
        rw[if_neg c3]
        obtain⟨g1,g2,g3⟩:=zbq hm n _ h
        exact⟨g1,g2,by simp only;omega⟩
theorem zsx:Sound Tryz.prog 46 (zad [byP,zgo,i64,u64] [trP] (fun t=>some (zaz t.1∧U64 t.2.1.2.2.2∧U64 t.2.2.2)) (fun t=>zav t.1 t.2.1 t.2.2.1 t.2.2.2)):=by
 refine zab mixed Tryz.func46 (by kernel_rfl) (by kernel_rfl) yq0 (fun t h => ?_)
 obtain⟨m,⟨a,b,c,d⟩,k,va⟩:By × Ct × Int × Int:=t
 obtain⟨h1,h2,h3⟩:zaz m∧U64 d∧U64 va:=h
 refine zae (zuj m a b c d k va) ?_
 conv=>zeta
 refine⟨fun q => ?_,fun q=>⟨h2,fun q2 => ?_,fun q2=>⟨h3,fun q3=>⟨h2, ?_⟩,fun q3 => ?_⟩⟩⟩
 · have q:zlt (a,b,c,d) k=false:=by simpa using q
   simp[zav,q]
 · have q:zlt (a,b,c,d) k=true:=by simpa using q
   have q2:onM (a,b,c,d)=false:=by simpa using q2
   simp[zav,q,q2]
 · have q:zlt (a,b,c,d) k=true:=by simpa using q
   have q2:onM (a,b,c,d)=true:=by simpa using q2
   have hk:0≤k∧k≤2:=by simp only[zlt,Bool.and_eq_true,decide_eq_true_eq] at q;exact q.1.1
   have hF:zfi m (ze1 d) 2 va:=⟨h1,Int.emod_nonneg _ (by decide),Int.emod_lt_of_pos _ (by decide),⟨by decide,by decide⟩,h3⟩
   have hc:=zbw m va 3 (ze1 d)
   have hl:=zbq (va:=va) h1 3 (ze1 d)
   have e:zav m (a,b,c,d) k va=zai (za4 m va 3 (ze1 d)) (a,b,c,d) k va:=by
    unfold zav
    rw[if_pos q,if_pos q2]
    simp[zb7,q3,ze1]
   rw[e]
   generalize za4 m va 3 (ze1 d)=W at *
   refine⟨?_,fun z => ?_,fun z => ?_,fun z => ?_⟩
   · rcases hc with z|z|z
     · exact .inl ⟨rfl,rfl,hF,z⟩
     · exact .inr (.inl ⟨rfl,rfl,hF,z⟩)
     · exact .inr (.inr ⟨rfl,rfl,hF,z⟩)
   · have z1:W.1=1:=z.2.2.2
     obtain⟨g1,g2,g3⟩:=hl z1
     have ea:zai W (a,b,c,d) k va=zb4 W.2.2.1 W.2.1 (a,b,c,d) k va:=by simp[zai,z1]
     rw[ea]
     refine⟨fun _=>g1,fun y=>⟨hk, ?_⟩,fun y=>⟨fun z=>(by cases z),fun _=>⟨⟨g1,⟨g2,by omega⟩,h3⟩, ?_⟩⟩⟩
     · have y:za3 W.2.2.1 k a b c=false:=by simpa using y
       simp[zb4,y]
     · have y:za3 W.2.2.1 k a b c=true:=by simpa using y
       simp[zb4,y]
   · have z1:W.1=3:=z.2.2.2
     simp[zai,z1,hk]
   · have z1:W.1=2:=z.2.2.2
     simp[zai,z1,hk]
 · have q:zlt (a,b,c,d) k=true:=by simpa using q
   have q2:onM (a,b,c,d)=true:=by simpa using q2
   have hk:0≤k∧k≤2:=by simp only[zlt,Bool.and_eq_true,decide_eq_true_eq] at q;exact q.1.1
   simp[zav,q,q2,hk,zb7,q3,zai]
end Go.Proofs.YtfiddfbagbaofaaGreat.V
