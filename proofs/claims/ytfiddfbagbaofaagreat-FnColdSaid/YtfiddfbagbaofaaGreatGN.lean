/- The plain translation answers as the model. Conditions: those in each statement. -/
import Derived.Test.YtfiddfbagbaofaaGreatGM
import Derived.KernelRfl
namespace Go.Proofs.YtfiddfbagbaofaaGreat.V
open Go
abbrev Ct:=Int × Bool × Bool × Int
abbrev trP:Pm := .st [.i .i64,.i .u64]
def zcd(pte l:Int)(c:Ct)(k va:Int):Int × Int:=if za5 pte k c.1 c.2.1 c.2.2.1=true then (0,zco pte l va) else (pfM k,0)
def zak(W:Wr)(c:Ct)(k va:Int):Int × Int:=if W.1=2 then (pfM k,0) else if W.1=3 then (afM k,0) else zcd W.2.2.1 W.2.1 c k va
def zbi(m:By)(c:Ct)(k va:Int):Int × Int:=if zif c k=true then (if onM c=true then zak (zbu m c.2.2.2 va) c k va else (0,va)) else (63,0)
def FN0:Dict:=mkD (kM++kB3++kA4) [] []
def ysd(p l:Int)(a:Int)(b c:Bool)(d k va:Int):Prop:=zam Tryz.prog FN0 .none Tryz.f123 [u64,i64,zdr,i64,u64] [trP] (p,l,(a,b,c,d),k,va) (zcd p l (a,b,c,d) k va)
def yhr(k:Int):Prop:=zng Tryz.prog FN0 .none Tryz.f133 [.v .nilIface,.v (.int .i64 k)] [] (.v (.int .i64 0)) []
def yhs(l k:Int):Prop:=zng Tryz.prog FN0 .none Tryz.f133 [.ifc 256 (.agg [.v (.int .i64 l)]),.v (.int .i64 k)] [] (.v (.int .i64 (afM k))) []
def yht(l k:Int):Prop:=zng Tryz.prog FN0 .none Tryz.f133 [.ifc 200 (.agg [.v (.int .i64 l)]),.v (.int .i64 k)] [] (.v (.int .i64 (pfM k))) []
def ysm(a b c:Int):Prop:=zng Tryz.prog F0 .none Tryz.f139 [.agg (rcA (a,b,c))] [] (.tup []) []
def yrp:Sum:=fun args H=>match args,H with
 | [.agg [.v (.int .i64 _),.v (.int .u64 _),.v (.int .u64 _)]],[]=>some (none,.tup [],[])
 | _,_=>none
def kN1:Known:=(139,yrp)::kK2
def FN1:Dict:=mkD (kN1++kB3++kA4) [] []
def StP(m:By)(va:Int)(W:Wr)(l p:Int):Prop := -1≤l∧l≤2∧0≤p∧p<17592186044416∧W.1=(za2 m va (l+1).toNat p).1∧W.2.1=(za2 m va (l+1).toNat p).2.1∧W.2.2.1=(za2 m va (l+1).toNat p).2.2.1
def zja(m:By)(va:Int)(W:Wr):LoopS where
 α:=Int × Int
 I x:=StP m va W x.1 x.2
 sl x:=slots 66 [(0,.ifc 196 (.sl 0 1 0 m.length)),(1,.v (.int .u64 x.2)),(2,.v (.int .i64 x.1)),(3,.v (.int .u64 va)),(4,.fn 139 [])]
 H _:=[.arr [.i .u8] m false]
 fams:=[{ β:=Unit,out:=fun _ _=>W.1=2∧W.2.1=0∧W.2.2.1=0,ex := .ext 0,sl:=fun _=>slots 66 [],H:=fun _=>[.arr [.i .u8] m false] },
  { β:=Unit,out:=fun _ _=>W.1=3∧W.2.2.1=0,ex := .ret,sl:=fun _=>slots 66 [(10,.v (.int .u64 0)),(11,.v (.int .i64 W.2.1)),(12,.ifc 256 (.agg [.v (.int .i64 W.2.1)]))],H:=fun _=>[.arr [.i .u8] m false] },
  { β:=Unit,out:=fun _ _=>W.1=2∧W.2.2.1=0,ex := .ret,sl:=fun _=>slots 66 [(10,.v (.int .u64 0)),(11,.v (.int .i64 W.2.1)),(12,.ifc 200 (.agg [.v (.int .i64 W.2.1)]))],H:=fun _=>[.arr [.i .u8] m false] },
  { β:=Unit,out:=fun _ _=>W.1=1,ex := .ret,sl:=fun _=>slots 66 [(10,.v (.int .u64 W.2.2.1)),(11,.v (.int .i64 W.2.1)),(12,.v .nilIface)],H:=fun _=>[.arr [.i .u8] m false] }]
def ycg(m:By)(va:Int)(a b c:Int)(rs:Rs)(l p:Int):Prop:=zav Tryz.prog FN1 (.one 1 (zja m va (a,b,c,rs))) 1 (zai Tryz.f137 0) (zja m va (a,b,c,rs)) (fun x:Int × Int=>(x.1+1).toNat) (l,p)
def zm4(n:Nat)(p va:Int):List Av:=[.ifc 196 (.sl 0 1 0 n),.v (.int .u64 p),.v (.int .i64 2),.v (.int .u64 va),.fn 139 []]
def yjd(k:Nat):Sum:=fun args H=>match args,H with
 | [.ifc 196 (.sl 0 1 0 n),.v (.int .u64 p),.v (.int .i64 l),.v (.int .u64 va),.fn 139 []],[.arr sh m false] =>
  if h:sh=[.i .u8] then some (some (n=(h ▸ m:List (El [.i .u8])).length∧l=2∧zfn (h ▸ m:List (El [.i .u8])) p 2 va∧zvi k (za2 (h ▸ m:List (El [.i .u8])) va 3 p)),yom k (za2 (h ▸ m:List (El [.i .u8])) va 3 p),[.arr [.i .u8] (h ▸ m:List (El [.i .u8])) false]) else none
 | _,_=>none
def yi7(m:By)(p va a b c:Int)(rs:Rs):Prop:=zng Tryz.prog FN1 (.one 1 (zja m va (a,b,c,rs))) Tryz.f137 (zm4 m.length p va) [.arr [.i .u8] m false] (yom 0 (a,b,c,rs)) [.arr [.i .u8] m false]
def yi8(m:By)(p va a b c:Int)(rs:Rs):Prop:=zng Tryz.prog FN1 (.one 1 (zja m va (a,b,c,rs))) Tryz.f137 (zm4 m.length p va) [.arr [.i .u8] m false] (yom 1 (a,b,c,rs)) [.arr [.i .u8] m false]
def yi9(m:By)(p va a b c:Int)(rs:Rs):Prop:=zng Tryz.prog FN1 (.one 1 (zja m va (a,b,c,rs))) Tryz.f137 (zm4 m.length p va) [.arr [.i .u8] m false] (yom 2 (a,b,c,rs)) [.arr [.i .u8] m false]
def ydu:Sum:=fun args H=>match args,H with
 | [.v .nilIface,.v (.int .i64 k)],[]=>some (some (0≤k∧k≤2),.v (.int .i64 0),[])
 | [.ifc 256 (.agg [.v (.int .i64 _)]),.v (.int .i64 k)],[]=>some (some (0≤k∧k≤2),.v (.int .i64 (afM k)),[])
 | [.ifc 200 (.agg [.v (.int .i64 _)]),.v (.int .i64 k)],[]=>some (some (0≤k∧k≤2),.v (.int .i64 (pfM k)),[])
 | _,_=>none
def kN2:Known:=[
 (123,zah [u64,i64,zdr,i64,u64] [trP] (fun t=>some (U64 t.1∧U64 t.2.2.2.2)) (fun t=>zcd t.1 t.2.1 t.2.2.1 t.2.2.2.1 t.2.2.2.2)),
 (133,ydu)]
def FN2:Dict:=mkD (kN2++kM++kB3++kA4) [(137,(3,yjd))] []
def yhm(w1 w2 w3:Int)(rs:Rs)(a:Int)(b c:Bool)(d k va:Int):Prop:=zam Tryz.prog FN2 .none Tryz.f128 [wrP,zdr,i64,u64] [trP] ((w1,w2,w3,rs),(a,b,c,d),k,va) (zak (w1,w2,w3,rs) (a,b,c,d) k va)
def yh8(m:By)(a:Int)(b c:Bool)(d k va:Int):Prop:=zam Tryz.prog FN2 .none Tryz.f46 [byP,zdr,i64,u64] [trP] (m,(a,b,c,d),k,va) (zbi m (a,b,c,d) k va)
set_option linter.unusedVariables false
theorem ybu(p l:Int)(a:Int)(b c:Bool)(d k va:Int):ysd p l a b c d k va=(
 U64 p∧(za5 p k a b c=true→(U64 p∧U64 va)∧(zcd p l (a,b,c,d) k va).fst=(0:Int)∧(zcd p l (a,b,c,d) k va).snd=zco p l va)∧(za5 p k a b c=false→(zcd p l (a,b,c,d) k va).fst=pfM k∧(zcd p l (a,
 b,c,d) k va).snd=(0:Int))):=by kernel_rfl
theorem ztg(k:Int):yhr k=(
 (true=true→(0:Int)=(0:Int))∧(true=false→((0:Int)≤k∧k<(↑(3:Nat):Int))∧(0:Int)=[(12:Int),(13:Int),(15:Int)].getD k.toNat (0:Int))):=by kernel_rfl
theorem zth(l k:Int):yhs l k=(
 ((0:Int)≤k∧k<(↑(3:Nat):Int))∧afM k=[(1:Int),(5:Int),(7:Int)].getD k.toNat (0:Int)):=by kernel_rfl
theorem zti(l k:Int):yht l k=(
 ((0:Int)≤k∧k<(↑(3:Nat):Int))∧pfM k=[(12:Int),(13:Int),(15:Int)].getD k.toNat (0:Int)):=by kernel_rfl
theorem yb9(a b c:Int):ysm a b c=(
 True):=by kernel_rfl
theorem zqz(m:By)(va:Int)(a b c:Int)(rs:Rs)(l p:Int):ycg m va a b c rs l p=(
 let A0(a:Int):=IntKind.u64.wrap a;
 let A1(a:Int):=IntKind.i64.wrap a;
 let A2(a:Int):=(2:Int) ^ (min a.toNat (64:Nat));
 let A3(a:Int):=a=(0:Int);
 let A4:=(6:Int)+A1 ((3:Int)*l);
 let A5:=a=(2:Int);
 let A6:=A0 (p*A2 (6:Int))+A0 (bits BinOp.and IntKind.u64 (va/A2 (A1 A4)) (7:Int)*A2 (3:Int));
 let A7:=zbj m (A0 A6) (8:Int);
 let A8(a b:Prop):=a∧b∧A3 c;
 let A9:=A7.snd;
 let Aa:=a=(3:Int);
 let Ab(a b c:Prop):=a∧b∧c;
 let Ac(a:Int):=(a+(1:Int)).toNat;
 let Ad(a:Int):=(0:Int)≤a;
 let Ae(a b c d:Prop):=a∧Ab b c d;
 let Af(a:Bool)(b:Prop):=a=false→b;
 let Ah:=A8 A5 (A3 b);
 let Ai:=False∧a=(1:Int);
 let Aj:=List.length m=List.length m;
 let Ak:=za4 A9 l==(2:Int);
 let Al:=za4 A9 l==(0:Int);
 let Am(a:Prop):=A8 (Ae (A3 (0:Int)) (b=l) (b=l) (m=m)) a;
 let An:=decide (l≥(0:Int));
 let Ao(a:Bool)(b c d:Prop):=a=true→b∨c∨d;
 let Ap:=a=(1:Int);
 (An=true→Ae (Ad (6:Int)) (Ad (A1 A4)) (Ad (3:Int)) (Ab (Ab Aj (zal m) (U64 (A0 A6))) (Ao (!A7.fst) (∃(x0':Unit),Am Aa) (∃(x1':Unit),A8 False A5) (∃(x2':Unit),Ai)) (Af (!A7.fst) (Ab (U64 A9) (Ao Al (∃(x3':Unit),A8
  False Aa) (∃(x4':Unit),Am A5) (∃(x2':Unit),Ai)) (Af Al (Ao Ak (∃(x3':Unit),A8 False Aa) (∃(x1':Unit),A8 False A5) (∃(x5':Unit),Ae (c=A9) (b=l) (Value.nilIface=Value.nilIface) (m=m)∧Ap)∧Af Ak (U64 A9∧∃(x6'
  : Int × Int),Ab (Ae ((0:Nat)=(0:Nat)) Aj (x6'.snd=zcq A9) (Ab (x6'.fst=A1 (l-(1:Int))) (va=va) (m=m))) (StP m va (a,b,c,rs) x6'.fst x6'.snd) (Ab (Ac x6'.fst<Ac l) (∀(x7':Unit),Ah→Ah) (Ab (∀(x8':Unit),Aa ∧
  A3 c→Aa∧A3 c) (∀(x9':Unit),A5∧A3 c→A5∧A3 c) (∀(x10':Unit),Ap→Ap))))))))))∧Af An (∃(x11':Unit),m=m∧Ah)):=by kernel_rfl
theorem zum(m:By)(p va a b c:Int)(rs:Rs):yi7 m p va a b c rs=(
 ∃(x:Int × Int),((0:Nat)=(0:Nat)∧List.length m=List.length m∧x.snd=p∧x.fst=(2:Int)∧va=va∧m=m)∧StP m va (a,b,c,rs) x.fst x.snd∧(∀(z:Unit),a=(2:Int)∧b=(0:Int)∧c=(0:Int)→False)∧(∀
 (z:Unit),a=(3:Int)∧c=(0:Int)→False)∧(∀(z:Unit),a=(2:Int)∧c=(0:Int)→False)∧∀(z:Unit),a=(1:Int)→c=c∧b=b∧Value.nilIface=Value.nilIface∧m=m):=by kernel_rfl
theorem zun(m:By)(p va a b c:Int)(rs:Rs):yi8 m p va a b c rs=(
 ∃(x:Int × Int),((0:Nat)=(0:Nat)∧List.length m=List.length m∧x.snd=p∧x.fst=(2:Int)∧va=va∧m=m)∧StP m va (a,b,c,rs) x.fst x.snd∧(∀(z:Unit),a=(2:Int)∧b=(0:Int)∧c=(0:Int)→False)∧(∀
 (z:Unit),a=(3:Int)∧c=(0:Int)→c=(0:Int)∧b=b∧b=b∧m=m)∧(∀(z:Unit),a=(2:Int)∧c=(0:Int)→False)∧∀(z:Unit),a=(1:Int)→False):=by kernel_rfl
theorem zuo(m:By)(p va a b c:Int)(rs:Rs):yi9 m p va a b c rs=(
 ∃(x:Int × Int),((0:Nat)=(0:Nat)∧List.length m=List.length m∧x.snd=p∧x.fst=(2:Int)∧va=va∧m=m)∧StP m va (a,b,c,rs) x.fst x.snd∧(∀(z:Unit),a=(2:Int)∧b=(0:Int)∧c=(0:Int)→c=(0 :
 Int)∧b=(0:Int)∧b=(0:Int)∧m=m)∧(∀(z:Unit),a=(3:Int)∧c=(0:Int)→False)∧(∀(z:Unit),a=(2:Int)∧c=(0:Int)→c=(0:Int)∧b=b∧b=b∧m=m)∧∀(z:Unit),a=(1:Int)→False):=by kernel_rfl
theorem ztd(w1 w2 w3:Int)(rs:Rs)(a:Int)(b c:Bool)(d k va:Int):yhm w1 w2 w3 rs a b c d k va=(
 ((w1==(2:Int))=true→(zak (w1,w2,w3,rs) (a,b,c,d) k va).fst=pfM k∧(zak (w1,w2,w3,rs) (a,b,c,d) k va).snd=(0:Int)∧rs=rs)∧((w1==(2:Int))=false→((w1==(3:Int))=true→(zak (w1,w2,w3,
 rs) (a,b,c,d) k va).fst=afM k∧(zak (w1,w2,w3,rs) (a,b,c,d) k va).snd=(0:Int)∧rs=rs)∧((w1==(3:Int))=false→(U64 w3∧U64 va)∧(zak (w1,w2,w3,rs) (a,b,c,d) k va).fst=(zcd w3 w2 (a,b,c,d) k
 va).fst∧(zak (w1,w2,w3,rs) (a,b,c,d) k va).snd=(zcd w3 w2 (a,b,c,d) k va).snd∧rs=rs))):=by kernel_rfl
theorem ztq(m:By)(a:Int)(b c:Bool)(d k va:Int):yh8 m a b c d k va=(
 let A0:=za2 m va (3:Nat) (zdo d);
 let A1(a:Nat):=zvi a A0;
 let A2(a b c:Prop):=a∧b∧c;
 let A3:=(zbi m (a,b,c,d) k va).snd;
 let A4(e:Int):=(zbi m (a,b,c,d) k va).fst=e;
 let A5:=(0:Nat)+(1:Nat);
 let A6(a:Prop):=List.length m=List.length m∧A2 ((2:Int)=(2:Int)) (zfn m (zdo d) (2:Int) va) a;
 let A7:=A0.snd.snd.fst;
 let A8(a:Bool)(b:Prop):=a=true→b;
 let A9(a:Int):=((0:Int)≤k∧k≤(2:Int))∧A2 (A4 a) (A3=(0:Int)) (m=m);
 let Aa(a:Bool)(b:Prop):=a=false→b;
 let Ab:=A6 (A1 (0:Nat));
 let Ac:=za5 A7 k a b c;
 let Ad:=onM (a,b,c,d);
 let Ae(a:Bool)(b:Int)(c:Prop):=A8 (!a) (A2 (A4 b) c (m=m));
 let Af:=zif (a,b,c,d) k;
 let Ah:=A6 (A1 (A5+(1:Nat)));
 Ae Af (63:Int) (A3=(0:Int))∧Aa (!Af) (A2 (U64 d) (Ae Ad (0:Int) (A3=va)) (Aa (!Ad) (A2 (U64 va) (A8 (zef va) (A2 (U64 d) (Ab∨A6 (A1 A5)∨Ah) (A2 (Ab→A2 (A8 true (U64 A7)) (A8 (!Ac) (A9 (pfM k))) (Aa (!Ac) (A8 (!true) (A9
  (0:Int))∧Aa (!true) (A2 (U64 A7) (LvR A0.snd.fst) (U64 va)∧A2 (A4 (0:Int)) (A3=zco A7 A0.snd.fst va) (m=m))))) (A6 (A1 A5)→A9 (afM k)) (Ah→A9 (pfM k))))) (Aa (zef va) (A9 (pfM k))))))):=by kernel_rfl
set_option linter.unusedSimpArgs false
theorem yrq:Sound Tryz.prog 139 yrp:=by
 refine zda mixed Tryz.func139 (by kernel_rfl) (by kernel_rfl) zea (fun args H p v H' h hp => ?_)
 unfold yrp at h
 split at h
 case h_2=>cases h
 rename_i a b c
 simp only[Option.some.injEq,Prod.mk.injEq] at h
 obtain⟨rfl,rfl,rfl⟩:=h
 exact⟨.none,zag (yb9 a b c) trivial⟩
theorem yu3:zaw Tryz.prog kN1 := .cons (by kernel_rfl) yrq zsb
theorem ytd:DictOk Tryz.prog FN1:=za0 ((yu3.append zdi).append zcg) .nil .nil
theorem zx4{m:By}{va a b c:Int}{rs:Rs}(hm:zal m)(hv:U64 va){l p:Int}(h:StP m va (a,b,c,rs) l p):zav Tryz.prog FN1 (.one 1 (zja m va (a,b,c,rs))) 1 (zai Tryz.f137 0) (zja m va (a,b,c,rs)) (fun x:Int × Int=>(x.1+1).toNat) (l,p):=by
 obtain⟨l0,l1,p0,p1,ha,hb,hc⟩:=h
 simp only at ha hb hc
 refine zag (zqz m va a b c rs l p) ?_
 conv=>zeta
 refine⟨fun g => ?_,fun g => ?_⟩
 · have g:l≥0:=of_decide_eq_true g
   have hl:LvR l:=⟨g,l1⟩
   obtain⟨hA,hS⟩:=zre hl hv p0 p1
   have hrd:=zof (a:=64*p+8*zd9 va l) hm
   obtain⟨i0,i1⟩:=zn5 va l
   have hAu:U64 (64*p+8*zd9 va l):=⟨by omega,by omega⟩
   rw[show (l+1).toNat=l.toNat+1 by omega,zm5 g] at ha hb hc
   rw[hA]
   generalize 64*p+8*zd9 va l=A at *
   generalize zbj m A 8=r at *
   refine⟨by decide,hS,by decide,⟨rfl,hm,hAu⟩,fun q => ?_,fun q=>⟨hrd,fun q2 => ?_,fun q2=>⟨fun q3 => ?_,fun q3=>⟨hrd, ?_⟩⟩⟩⟩
   · have q:r.1=false:=by simpa using q
     rw[if_pos q] at ha hb hc
     exact .inl ⟨(),⟨rfl,hb,hb,rfl⟩,ha,hc⟩
   · have q:r.1≠false:=by simpa using q
     have q2:za4 r.2 l=0:=by simpa using q2
     rw[if_neg q,if_pos q2] at ha hb hc
     exact .inr (.inl ⟨(),⟨rfl,hb,hb,rfl⟩,ha,hc⟩)
   · have q:r.1≠false:=by simpa using q
     have q2:za4 r.2 l≠0:=by simpa using q2
     have q3:za4 r.2 l=2:=by simpa using q3
     rw[if_neg q,if_neg q2,if_pos q3] at ha hb hc
     exact .inr (.inr ⟨(),⟨hc,hb,rfl,rfl⟩,ha⟩)
   · have q:r.1≠false:=by simpa using q
     have q2:za4 r.2 l≠0:=by simpa using q2
     have q3:za4 r.2 l≠2:=by simpa using q3
     obtain⟨g0,g1⟩:=zi0 hrd
     rw[if_neg q,if_neg q2,if_neg q3] at ha hb hc
     have e1:IntKind.i64.wrap (l-1)=l-1:=zaa (by omega) (by omega)
     have e2:(l-1+1).toNat=l.toNat:=by omega
     refine⟨(l-1,zcq r.2),⟨rfl,rfl,rfl,e1.symm,rfl,rfl⟩,⟨by simp only;omega,by simp only;omega,g0,g1, ?_, ?_, ?_⟩,by simp only;omega,fun _ z=>z,fun _ z=>z,fun _ z=>z,fun _ z=>z⟩
     · simp only[e2];exact ha
     · simp only[e2];exact hb
     · simp only[e2];exact hc
 · have g:¬ l≥0:=of_decide_eq_false g
   have e:(l+1).toNat=0:=by omega
   rw[e] at ha hb hc
   have ha:a=2:=ha
   have hb:b=0:=hb
   have hc:c=0:=hc
   exact⟨(),rfl,ha,hb,hc⟩
theorem ym9(k:Nat):Sound Tryz.prog 137 (yjd k):=by
 refine zf7 mixed Tryz.func137 (by kernel_rfl) (b:=zai Tryz.f137 0) (k:=1) (by kernel_rfl) (by kernel_rfl) (by kernel_rfl) ytd (fun args H p v H' h hp => ?_)
 unfold yjd at h
 split at h
 case h_2=>cases h
 rename_i n p l va sh m
 split at h
 case isFalse=>cases h
 rename_i hsh
 subst hsh
 simp only[Option.some.injEq,Prod.mk.injEq] at h
 obtain⟨rfl,rfl,rfl⟩:=h
 obtain⟨rfl,rfl,⟨hm,p0,p1,hl,hv⟩,hk⟩:n=m.length∧l=2∧zfn m p 2 va∧zvi k (za2 m va 3 p):=hp
 generalize hW:za2 m va 3 p=W at *
 obtain⟨a,b,c,rs⟩:=W
 have h0:StP m va (a,b,c,rs) 2 p:=by
  refine⟨by decide,by decide,p0,p1, ?_, ?_, ?_⟩<;>(rw[show ((2:Int)+1).toNat=3 by decide,hW];try rfl)
 refine⟨.one 1 (zja m va (a,b,c,rs)),zja m va (a,b,c,rs),fun x:Int × Int=>(x.1+1).toNat,zbx _ _,fun y hy => ?_, ?_⟩
 · obtain⟨l,q⟩:Int × Int:=y
   exact zx4 hm hv hy
 · match k,hk with
   | 0,hk =>
    have hk:a=1:=hk
    subst hk
    exact zag (zum m p va 1 b c rs) ⟨(2,p),⟨rfl,rfl,rfl,rfl,rfl,rfl⟩,h0,fun _ z=>absurd z.1 (by decide),fun _ z=>absurd z.1 (by decide),fun _ z=>absurd z.1 (by decide),fun _ _=>⟨rfl,rfl,rfl,rfl⟩⟩
   | 1,hk =>
    have hk:a=3:=hk
    subst hk
    exact zag (zun m p va 3 b c rs) ⟨(2,p),⟨rfl,rfl,rfl,rfl,rfl,rfl⟩,h0,fun _ z=>absurd z.1 (by decide),fun _ z=>⟨z.2,rfl,rfl,rfl⟩,fun _ z=>absurd z.1 (by decide),fun _ z=>absurd z (by decide)⟩
   | k+2,hk =>
    have hk:a=2:=hk
    subst hk
    exact zag (zuo m p va 2 b c rs) ⟨(2,p),⟨rfl,rfl,rfl,rfl,rfl,rfl⟩,h0,fun _ z=>⟨z.2.2,z.2.1,z.2.1,rfl⟩,fun _ z=>absurd z.1 (by decide),fun _ z=>⟨z.2,rfl,rfl,rfl⟩,fun _ z=>absurd z (by decide)⟩
theorem ynk:DictOk Tryz.prog FN0:=za0 ((ye7.append zdi).append zcg) .nil .nil
theorem yqr:Sound Tryz.prog 123 (zah [u64,i64,zdr,i64,u64] [trP] (fun t=>some (U64 t.1∧U64 t.2.2.2.2)) (fun t=>zcd t.1 t.2.1 t.2.2.1 t.2.2.2.1 t.2.2.2.2)):=by
 refine zad mixed Tryz.func123 (by kernel_rfl) (by kernel_rfl) ynk (fun t h => ?_)
 obtain⟨p,l,⟨a,b,c,d⟩,k,va⟩:Int × Int × Ct × Int × Int:=t
 obtain⟨h1,h2⟩:U64 p∧U64 va:=h
 refine zag (ybu p l a b c d k va) ⟨h1,fun q=>⟨⟨h1,h2⟩, ?_⟩,fun q => ?_⟩
 · simp[zcd,q]
 · simp[zcd,q]
theorem yj5:Sound Tryz.prog 133 ydu:=by
 refine zda mixed Tryz.func133 (by kernel_rfl) (by kernel_rfl) ynk (fun args H p v H' h hp => ?_)
 unfold ydu at h
 have kc:∀{k:Int},0≤k∧k≤2→k=0∨k=1∨k=2:=fun h=>by omega
 split at h
 · simp only[Option.some.injEq,Prod.mk.injEq] at h
   obtain⟨rfl,rfl,rfl⟩:=h
   exact⟨.none,zag (ztg _) ⟨fun _=>rfl,fun e=>by cases e⟩⟩
 · rename_i l k
   simp only[Option.some.injEq,Prod.mk.injEq] at h
   obtain⟨rfl,rfl,rfl⟩:=h
   have hp:0≤k∧k≤2:=hp
   refine⟨.none,zag (zth l k) ?_⟩
   rcases kc hp with rfl|rfl|rfl<;>exact⟨⟨by decide,by decide⟩,rfl⟩
 · rename_i l k
   simp only[Option.some.injEq,Prod.mk.injEq] at h
   obtain⟨rfl,rfl,rfl⟩:=h
   have hp:0≤k∧k≤2:=hp
   refine⟨.none,zag (zti l k) ?_⟩
   rcases kc hp with rfl|rfl|rfl<;>exact⟨⟨by decide,by decide⟩,rfl⟩
 · cases h
theorem zsc:zaw Tryz.prog kN2 := .cons (by kernel_rfl) yqr <| .cons (by kernel_rfl) yj5 .nil
theorem ynl:DictOk Tryz.prog FN2:=za0 (((zsc.append ye7).append zdi).append zcg) (.cons (by kernel_rfl) ym9 .nil) .nil
theorem ydk:Sound Tryz.prog 128 (zah [wrP,zdr,i64,u64] [trP] (fun t=>some ((t.1.1≠2→t.1.1≠3→U64 t.1.2.2.1)∧U64 t.2.2.2)) (fun t=>zak t.1 t.2.1 t.2.2.1 t.2.2.2)):=by
 refine zad mixed Tryz.func128 (by kernel_rfl) (by kernel_rfl) ynl (fun t h => ?_)
 obtain⟨⟨w1,w2,w3,rs⟩,⟨a,b,c,d⟩,k,va⟩:Wr × Ct × Int × Int:=t
 obtain⟨h1,h2⟩:(w1≠2→w1≠3→U64 w3)∧U64 va:=h
 refine zag (ztd w1 w2 w3 rs a b c d k va) ⟨fun q => ?_,fun q=>⟨fun q2 => ?_,fun q2 => ?_⟩⟩
 · have q:w1=2:=by simpa using q
   simp[zak,q]
 · have q2:w1=3:=by simpa using q2
   simp[zak,q2]
 · have q:w1≠2:=by simpa using q
   have q2:w1≠3:=by simpa using q2
   exact⟨⟨h1 q q2,h2⟩,by simp[zak,q,q2],by simp[zak,q,q2],rfl⟩
theorem zb1{m:By}{va:Int}(hm:zal m):∀(n:Nat)(p:Int),(za2 m va n p).1=1→U64 (za2 m va n p).2.2.1∧0≤(za2 m va n p).2.1∧(za2 m va n p).2.1<n
 | 0,_,h=>by cases h
 | n+1,p,h=>by
  have hr:=zof (a:=64*p+8*zd9 va n) hm
  unfold za2 at h ⊢
  split at h
  · cases h
  · rename_i c1
    rw[if_neg c1]
    split at h
    · cases h
    · rename_i c2
      rw[if_neg c2]
      split at h
      · rename_i c3
        rw[if_pos c3]
        exact⟨hr,by simp only;omega,by simp only;omega⟩
      · rename_i c3
        rw[if_neg c3]
        obtain⟨g1,g2,g3⟩:=zb1 hm n _ h
        exact⟨g1,g2,by simp only;omega⟩
theorem zr7:Sound Tryz.prog 46 (zah [byP,zdr,i64,u64] [trP] (fun t=>some (zal t.1∧U64 t.2.1.2.2.2∧U64 t.2.2.2)) (fun t=>zbi t.1 t.2.1 t.2.2.1 t.2.2.2)):=by
 refine zad mixed Tryz.func46 (by kernel_rfl) (by kernel_rfl) ynl (fun t h => ?_)
 obtain⟨m,⟨a,b,c,d⟩,k,va⟩:By × Ct × Int × Int:=t
 obtain⟨h1,h2,h3⟩:zal m∧U64 d∧U64 va:=h
 refine zag (ztq m a b c d k va) ?_
 conv=>zeta
 refine⟨fun q => ?_,fun q=>⟨h2,fun q2 => ?_,fun q2=>⟨h3,fun q3=>⟨h2, ?_⟩,fun q3 => ?_⟩⟩⟩
 · have q:zif (a,b,c,d) k=false:=by simpa using q
   simp[zbi,q]
 · have q:zif (a,b,c,d) k=true:=by simpa using q
   have q2:onM (a,b,c,d)=false:=by simpa using q2
   simp[zbi,q,q2]
 · have q:zif (a,b,c,d) k=true:=by simpa using q
   have q2:onM (a,b,c,d)=true:=by simpa using q2
   have hk:0≤k∧k≤2:=by simp only[zif,Bool.and_eq_true,decide_eq_true_eq] at q;exact q.1.1
   have hF:zfn m (zdo d) 2 va:=⟨h1,Int.emod_nonneg _ (by decide),Int.emod_lt_of_pos _ (by decide),⟨by decide,by decide⟩,h3⟩
   have hc:=zb0 m va 3 (zdo d)
   have hl:=zb1 (va:=va) h1 3 (zdo d)
   have e:zbi m (a,b,c,d) k va=zak (za2 m va 3 (zdo d)) (a,b,c,d) k va:=by
    unfold zbi
    rw[if_pos q,if_pos q2]
    simp[zbu,q3,zdo]
   rw[e]
   generalize za2 m va 3 (zdo d)=W at *
   refine⟨?_,fun z => ?_,fun z => ?_,fun z => ?_⟩
   · rcases hc with z|z|z
     · exact .inl ⟨rfl,rfl,hF,z⟩
     · exact .inr (.inl ⟨rfl,rfl,hF,z⟩)
     · exact .inr (.inr ⟨rfl,rfl,hF,z⟩)
   · have z1:W.1=1:=z.2.2.2
     obtain⟨g1,g2,g3⟩:=hl z1
     have ea:zak W (a,b,c,d) k va=zcd W.2.2.1 W.2.1 (a,b,c,d) k va:=by simp[zak,z1]
     rw[ea]
     refine⟨fun _=>g1,fun y=>⟨hk, ?_⟩,fun y=>⟨fun z=>(by cases z),fun _=>⟨⟨g1,⟨g2,by omega⟩,h3⟩, ?_⟩⟩⟩
     · have y:za5 W.2.2.1 k a b c=false:=by simpa using y
       simp[zcd,y]
     · have y:za5 W.2.2.1 k a b c=true:=by simpa using y
       simp[zcd,y]
   · have z1:W.1=3:=z.2.2.2
     simp[zak,z1,hk]
   · have z1:W.1=2:=z.2.2.2
     simp[zak,z1,hk]
 · have q:zif (a,b,c,d) k=true:=by simpa using q
   have q2:onM (a,b,c,d)=true:=by simpa using q2
   have hk:0≤k∧k≤2:=by simp only[zif,Bool.and_eq_true,decide_eq_true_eq] at q;exact q.1.1
   simp[zbi,q,q2,hk,zbu,q3,zak]
end Go.Proofs.YtfiddfbagbaofaaGreat.V
