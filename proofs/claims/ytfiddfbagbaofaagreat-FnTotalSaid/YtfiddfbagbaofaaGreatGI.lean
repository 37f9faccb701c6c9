/- Inserting into a cache answers as the model; the law on it returns true. Conditions: those in each statement. -/
import Derived.Test.YtfiddfbagbaofaaGreatGH
import Derived.Test.YtfiddfbagbaofaaGreatV4
import Derived.KernelRfl
namespace Go.Proofs.YtfiddfbagbaofaaGreat.V
open Go
def zch(s w tag:Int):Int:=(IntKind.i64.wrap tag).tmod s*w
def zf9(m:Es)(f:Int)(d:Int):Nat→Nat→Int
 | _,0=>d
 | k,n+1=>if (m.getD (f.toNat+k) zE).1=false then (k:Int) else zf9 m f d (k+1) n
def zwd(m:Es)(s w tag pick:Int):Int:=zf9 m (zch s w tag) (pick.tmod w) 0 w.toNat
def zh9(m:Es)(s w:Int)(e:En)(pick:Int):Es:=m.set (zch s w e.2.2.1+zwd m s w e.2.2.1 pick).toNat e
def zhq(t:Tl)(e:En)(pick:Int):Bool:=decide (0≤pick)&&decide (pick≤255)&&((zat false t&&zdz false e)||(zat true t&&zdz true e))
def zbh(t:Tl)(e:En)(pick:Int):Tl:=(t.1,t.2.1,if zhq t e pick=true then zh9 t.2.2 t.1 t.2.1 e pick else t.2.2)
def yep(s w:Int)(m:Es)(e:En)(pick:Int):Prop:=zcw s w m=true∧EnR e∧e.2.2.1<512∧0≤pick∧pick≤255
def yyg(e:En):List Av:=[.v (.bool e.1),.v (.int .i64 e.2.1),.v (.int .u64 e.2.2.1),.v (.int .u64 e.2.2.2.1),.v (.bool e.2.2.2.2.1),.v (.int .u64 e.2.2.2.2.2)]
def tlA(s w:Int)(id n:Nat):List Av:=[.v (.int .i64 s),.v (.int .i64 w),.sl id 6 0 n]
def yzp(s w:Int)(m:Es)(e:En)(pick:Int):LoopS where
 α:=Int
 I x := -1≤x∧x≤w-1
 sl x:=slots 58 [(0,.ptr 0 0),(4,.ptr 2 0),(6,.v (.int .i64 (zch s w e.2.2.1))),(7,.v (.int .i64 (zf9 m (zch s w e.2.2.1) (pick.tmod w) (x+1).toNat (w-1-x).toNat))),(8,.v (.int .i64 x))]
 H _:=[.fix (tlA s w 1 m.length) true none,.arr shE m true,.fix (yyg e) true (some 47)]
 fams:=[{ β:=Unit,out:=fun _ _=>True,ex := .ext 0,sl:=fun _=>slots 58 [(0,.ptr 0 0),(4,.ptr 2 0),(6,.v (.int .i64 (zch s w e.2.2.1))),(7,.v (.int .i64 (zwd m s w e.2.2.1 pick)))],H:=fun _=>[.fix (tlA s w 1 m.length) true none,.arr shE m true,.fix (yyg e) true (some 47)] }]
def ypa(s w:Int)(m:Es)(a:Bool)(b c d:Int)(g:Bool)(f pick x:Int):Prop:=zam Tryz.prog FF4 (.one 4 (yzp s w m (a,b,c,d,g,f) pick)) 2 (zag Tryz.f96 0) (yzp s w m (a,b,c,d,g,f) pick) (fun x:Int=>(x+1).toNat) x
def yat1(s w:Int)(m:Es)(a:Bool)(b c d:Int)(g:Bool)(f pick:Int):Prop:=zi1 Tryz.prog FF4 (.one 4 (yzp s w m (a,b,c,d,g,f) pick)) Tryz.f96 [.ptr 0 0,.agg (yyg (a,b,c,d,g,f)),.v (.int .i64 pick)] [.fix (tlA s w 1 m.length) true none,.arr shE m true] (.tup []) [.fix (tlA s w 1 m.length) true none,.arr shE (zh9 m s w (a,b,c,d,g,f) pick) true]
def putS:Sum:=fun args H=>match args,H with
 | [.ptr 0 0,.agg [.v (.bool a),.v (.int .i64 b),.v (.int .u64 c),.v (.int .u64 d),.v (.bool g),.v (.int .u64 f)],.v (.int .i64 pick)],[.fix [.v (.int .i64 s),.v (.int .i64 w),.sl 1 6 0 n] true none,.arr sh m true] =>
  if h:sh=shE then some (some (n=m.length∧yep s w (h ▸ m:List (El shE)) (a,b,c,d,g,f) pick),.tup [],[.fix (tlA s w 1 n) true none,.arr shE (zh9 (h ▸ m:List (El shE)) s w (a,b,c,d,g,f) pick) true]) else none
 | _,_=>none
def kI:Known:=(96,zn9 3 putS)::kF4
def FI:Dict:=mkD (kI++kE3++kA4) [] []
def yi6(s w:Int)(m:Es)(e:En)(pick:Int):LoopS where
 α:=Nat
 I k:=yep s w m e pick∧(k:Int)≤w∧zwd m s w e.2.2.1 pick=zf9 m (zch s w e.2.2.1) (pick.tmod w) k (w.toNat-k)
 sl k:=slots 81 [(2,.v (.int .i64 pick)),(3,.ptr 1 0),(4,.ptr 2 0),(6,.ptr 3 0),(7,.ptr 4 0),(9,.v (.int .i64 (zch s w e.2.2.1))),(10,.v (.int .i64 (k:Int)))]
 H _:=[.arr shE m false,.fix (tlA s w 0 m.length) true (some 37),.fix (yyg e) true (some 47),.fix [.v (.int .i64 0),.v (.int .i64 0),.v (.slice none 0 0)] true (some 37),.fix (tlA s w 5 m.length) true (some 37),.arr shE m true]
 fams:=[{ β:=Unit,out:=fun _ _=>yep s w m e pick∧zwd m s w e.2.2.1 pick=pick.tmod w,ex := .ext 0,sl:=fun _=>slots 81 [(2,.v (.int .i64 pick)),(3,.ptr 1 0),(4,.ptr 2 0),(6,.ptr 3 0),(7,.ptr 4 0),(9,.v (.int .i64 (zch s w e.2.2.1)))],H:=fun _=>[.arr shE m false,.fix (tlA s w 0 m.length) true (some 37),.fix (yyg e) true (some 47),.fix [.v (.int .i64 0),.v (.int .i64 0),.v (.slice none 0 0)] true (some 37),.fix (tlA s w 5 m.length) true (some 37),.arr shE m true] },
  { β:=Unit,out:=fun _ _=>True,ex := .ret,sl:=fun _=>slots 81 [(6,.ptr 1 0)],H:=fun _=>[.arr shE m false,.fix (tlA s w 2 m.length) true (some 37),.arr shE (zh9 m s w e pick) true] }]
def zvp(s w:Int)(m:Es)(a:Bool)(b c d:Int)(g:Bool)(f pick:Int)(k:Nat):Prop:=zam Tryz.prog FI (.one 7 (yi6 s w m (a,b,c,d,g,f) pick)) 1 (zag Tryz.f25 0) (yi6 s w m (a,b,c,d,g,f) pick) (fun k:Nat=>w.toNat-k) k
def ydp(s w:Int)(m:Es)(a:Bool)(b c d:Int)(g:Bool)(f pick:Int):Prop:=zal Tryz.prog FI (.one 7 (yi6 s w m (a,b,c,d,g,f) pick)) Tryz.f25 [tlP,enP,i64] [tlP] ((s,w,m),(a,b,c,d,g,f),pick) (zbh (s,w,m) (a,b,c,d,g,f) pick)
def kI2:Known:=[
 (25,zai [tlP,enP,i64] [tlP] (fun t=>some (TlR t.1∧EnR t.2.1)) (fun t=>zbh t.1 t.2.1 t.2.2))]++kI
set_option linter.unusedVariables false
theorem zyz(s w:Int)(m:Es)(a:Bool)(b c d:Int)(g:Bool)(f pick x:Int):ypa s w m a b c d g f pick x=(
 let A0(a:Int):=IntKind.i64.wrap a;
 let A1:=List.length m;
 let A2(a:Int):=a-1;
 let A3(a:Int):=(a+1).toNat;
 let A4(a b c d:Int)(e:Prop):=a=b∧c=d∧e;
 let A5:=zch s w c;
 let A6(a b c d e:Int)(f:Prop):=a=a∧A4 b c d e f;
 let A7(a b c:Prop):=a∧b∧c;
 let A8:=(0:Nat)=0;
 let A9(e h:Int):=A6 A5 (zf9 m A5 (pick.tmod w) (A3 e) (A2 w-e).toNat) h e (A0 (A2 x)) (A4 s s w w (A7 A8 (A1=A1) (A7 (m=m) (a=a) (A6 b c c d d (g=g∧f=f)))))∧A7 ((-1)≤e∧e≤A2 w) (A3 e<A3 x) (∀(x1 :
  Unit),True→True);
 let Aa := !(List.getD m ((0:Nat)+(A0 (A5+x)).toNat) (El.zero shE)).1;
 let Ab:=zf9 m A5 (pick.tmod w) (A3 x) (A2 w-x).toNat;
 let Ac:=decide (x≥0);
 (Ac=true→((0:Int)≤A0 (A5+x)∧A0 (A5+x)<(↑A1:Int))∧A7 ((0:Nat)+(A0 (A5+x)).toNat<A1) (Aa=true→∃(x0:Int),A9 x0 x) (Aa=false→∃(x2:Int),A9 x2 Ab))∧(Ac=false→∃(x3:Unit),A4 A5 A5 (zwd m s
  w c pick) Ab (A4 s s w w (A7 A8 (A1=A1) (A7 (m=m) (a=a) (A6 b c c d d (g=g∧f=f)))))∧True)):=by kernel_rfl
theorem yk4(s w:Int)(m:Es)(a:Bool)(b c d:Int)(g:Bool)(f pick:Int):yat1 s w m a b c d g f pick=(
 let A0(a:Int):=IntKind.i64.wrap a;
 let A1:=List.length m;
 let A2(a b c:Prop):=a∧b∧c;
 let A3:=(0:Nat)=0;
 let A4:=zch s w c;
 let A5:=A0 (A4+zwd m s w c pick);
 let A6:=(0:Nat)+(A0 (A4+zwd m s w c pick)).toNat;
 let A7:=w-1;
 A2 (s≠0) (w≠0) (∃(x0:Int),A2 (A4=A0 ((A0 c).tmod s*w)∧A2 (zf9 m A4 (pick.tmod w) (x0+1).toNat (A7-x0).toNat=pick.tmod w) (x0=A0 A7) (A2 (s=s) (w=w) (A2 A3 (A1=A1) (A2 (m=m) (a=a)
  (A2 (b=b) (c=c) (A2 (d=d) (g=g) (f=f))))))) ((-1)≤x0∧x0≤A7) (∀(x1:Unit),True→A2 ((0:Int)≤A5∧A5<(↑A1:Int)) (A6<A1) (A2 (s=s) (w=w) (A2 A3 (A1=A1) (zh9 m s w (a,b,c,d,g,f) pick =
  List.set m A6 (a,b,c,d,g,f))))))):=by kernel_rfl
theorem zn4(s w:Int)(m:Es)(a:Bool)(b c d:Int)(g:Bool)(f pick:Int)(k:Nat):zvp s w m a b c d g f pick k=(
 let A0:=List.length m;
 let A1:=(↑k:Int);
 let A2(a b c:Prop):=a∧b∧c;
 let A3(a b:Int):=IntKind.i64.wrap (a+b);
 let A4:=(0:Nat)=0;
 let A5:=A3 (zch s w c) A1;
 let A6(a b c:Int)(d e f:Prop):=A2 (a=a) (b=c) (A2 d e f);
 let A7:=(0:Nat)+A5.toNat;
 let A8:=Value.slice none 0 0;
 let A9:=(a,b,c,d,g,f);
 let Aa(a:Nat):=w.toNat-a;
 let Ab:=zch s w c;
 let Ac(a:Bool)(b:Prop):=(!(List.getD m A7 (El.zero shE)).1)=a→b;
 let Ad(a b:Prop)(d:Int):=A2 a b (zwd m s w c pick=d);
 let Ae(a:Bool)(b:Prop):=decide (A1<w)=a→b;
 let Af:=(0:Int)≤A5∧A5<(↑A0:Int);
 let Ah(e h i:Int):=A6 e h i (m=m) (s=s) (A2 (w=w) A4 (A2 (A0=A0) (a=a) (A6 b c c (d=d) (g=g) (A6 f 0 0 ((0:Int)=0) (A8=A8) (A6 s w w A4 (A0=A0) (m=m))))));
 let Ai:=yep s w m A9 pick;
 let Aj:=yep s w m A9 pick∧zwd m s w c pick=pick.tmod w;
 Ae true (Af∧A2 (A7<A0) (Ac true (A2 Af (A7<A0) (∃(x0:Unit),(m=m∧A6 s w w A4 (A0=A0) (zh9 m s w A9 pick=List.set m A7 (a,b,c,d,g,f)))∧True))) (Ac false (∃(x1:Nat),A2 (pick=pick∧Ah Ab (↑x1:Int) (A3 A1
  1)) (Ad Ai ((↑x1:Int)≤w) (zf9 m Ab (pick.tmod w) x1 (Aa x1))) (A2 (Aa x1<Aa k) (∀(x2:Unit),Aj→Aj) (∀(x3:Unit),True→True)))))∧Ae false (∃(x4:Unit),Ad (Ah pick Ab Ab) Ai (pick.tmod w))):=by kernel_rfl
theorem zr9(s w:Int)(m:Es)(a:Bool)(b c d:Int)(g:Bool)(f pick:Int):ydp s w m a b c d g f pick=(
 let A0:=List.length m;
 let A1(a:Int):=IntKind.i64.wrap a;
 let A2(a b:Bool):=bif a then true else b;
 let A3:=(a,b,c,d,g,f);
 let A4(a b c:Prop):=a∧b∧c;
 let A5(a b c d e:Prop):=A4 a b (A4 c d e);
 let A6:=(zbh (s,w,m) A3 pick).2;
 let A7:=(s,w,m);
 let A8:=pick.tmod w;
 let A9:=(0:Nat)=0;
 let Aa(e:Bool):=bif zat e A7 then zdz e (a,b,c,d,g,f) else false;
 let Ab:=(0:Int)=0;
 let Ac:=zch s w c;
 let Ad:=Value.slice none 0 0;
 let Ae:=A0=A0;
 let Af:=List.length A6.2=A0;
 let Ah:=(zbh (s,w,m) A3 pick).1;
 let Ai:=(0:Nat)+(A1 (Ac+A8)).toNat;
 let Aj(e:Bool):=e=true→EnR (a,b,c,d,g,f);
 let Ak(a:Int):=zwd m s w c pick=a;
 let Al(a:Es):=A5 (A6.1=w) A9 Af (m=m) (A6.2=a);
 let Am:=yep s w m A3 pick;
 let An(a:Bool)(b c:Prop):=A2 (A2 (!A2 (Aa true) (Aa false)) (decide (pick<0))) (decide (pick>255))=a→b∧c;
 A4 (Ae∧SzR A0) (Ae∧TlR A7) (A5 (Aj (zat true A7)) ((!Aa true)=true→Ae∧TlR A7) (Aj (match (!Aa true),(zat false A7) with|true,y=>y|false,x=>false)) (An true (Ah=s) (Al m)) (An false (s≠0) (∃(x0 :
  Nat),(pick=pick∧A5 (Ac=A1 ((A1 c).tmod s*w)) ((↑x0:Int)=0) (m=m) (s=s) (A5 (w=w) A9 Ae (a=a) (A5 (b=b) (c=c) (d=d) (g=g) (A5 (f=f) Ab Ab (Ad=Ad) (A5 (s=s) (w=w) A9 Ae (m=m))))))∧A4 (A4 Am
  ((↑x0:Int)≤w) (Ak (zf9 m Ac A8 x0 (w.toNat-x0)))) (∀(x1:Unit),Am∧Ak A8→A5 (w≠0) ((0:Int)≤A1 (Ac+A8)∧A1 (Ac+A8)<(↑A0:Int)) (Ai<A0) (Ah=s) (A5 (A6.1=w) A9 Af (m=m) (A6.2=List.set m Ai
  (a,b,c,d,g,f)))) (∀(x2:Unit),True→Ah=s∧Al (zh9 m s w A3 pick)))))):=by kernel_rfl
set_option linter.unusedSimpArgs false
theorem zru{c:Int}(h0:0≤c)(h1:c<512):IntKind.i64.wrap c=c:=zaa (by omega) (by omega)
theorem zmp{s w c:Int}(hs:1≤s)(hw:1≤w)(h0:0≤c)(h1:c<512):0≤zch s w c∧zch s w c+w≤s*w:=by
 unfold zch
 rw[zru h0 h1,zb1 h0]
 have a:=Int.emod_nonneg c (show s≠0 by omega)
 have b:=Int.emod_lt_of_pos c (show 0<s by omega)
 have e:c % s*w+w=(c % s+1)*w:=by rw[Int.add_mul,Int.one_mul]
 exact⟨Int.mul_nonneg a (by omega),by rw[e];exact Int.mul_le_mul_of_nonneg_right (by omega) (by omega)⟩
theorem zth{s w c:Int}(hs:s=1∨s=2∨s=4∨s=8)(hw:1≤w)(hw2:w≤4)(h0:0≤c)(h1:c<512):IntKind.i64.wrap ((IntKind.i64.wrap c).tmod s*w)=zch s w c:=by
 obtain⟨a,b⟩:=zmp (s:=s) (w:=w) (by omega) hw h0 h1
 have:s*w≤32:=by rcases hs with rfl|rfl|rfl|rfl<;>omega
 exact zaa (by unfold zch at a;omega) (by unfold zch at b;omega)
theorem yih{p w:Int}(h0:0≤p)(hw:1≤w):0≤p.tmod w∧p.tmod w<w:=by
 rw[zb1 h0]
 exact⟨Int.emod_nonneg _ (by omega),Int.emod_lt_of_pos _ (by omega)⟩
theorem yf9{m:Es}{f d w:Int}(hd:0≤d∧d<w):∀{n k:Nat},(k:Int)+n≤w→0≤zf9 m f d k n∧zf9 m f d k n<w
 | 0,_,_=>hd
 | n+1,k,h=>by
  unfold zf9
  split
  · omega
  · exact yf9 hd (by omega)
theorem ysb{m:Es}{s w c p:Int}(hw:1≤w)(h0:0≤p):0≤zwd m s w c p∧zwd m s w c p<w:=yf9 (yih h0 hw) (by omega)
theorem yrj:Sound Tryz.prog 96 putS:=by
 refine zdk mixed Tryz.func96 (by kernel_rfl) (b:=zag Tryz.f96 0) (k:=4) (by kernel_rfl) (by kernel_rfl) (by kernel_rfl) zo8 (fun args H p v H' h hp => ?_)
 unfold putS at h
 split at h
 case h_2=>cases h
 rename_i a b c d g f pick s w n sh m
 split at h
 case isFalse=>cases h
 rename_i hsh
 subst hsh
 simp only[Option.some.injEq,Prod.mk.injEq] at h
 obtain⟨rfl,rfl,rfl⟩:=h
 obtain⟨rfl,hd,⟨e1,e2,e3,e4⟩,hc,p0,p1⟩:n=m.length∧yep s w m (a,b,c,d,g,f) pick:=hp
 obtain⟨hs,w1,w4,hl⟩:=zio hd
 have hc0:=e2.1
 simp only at hc hc0
 obtain⟨f0,f1⟩:=zmp (s:=s) (w:=w) (by omega) w1 hc0 hc
 have hle:s*w≤32:=by rcases hs with rfl|rfl|rfl|rfl<;>omega
 refine⟨.one 4 (yzp s w m (a,b,c,d,g,f) pick),yzp s w m (a,b,c,d,g,f) pick,fun x:Int=>(x+1).toNat,za3 _ _,fun  (x:Int) hx=>zab (zyz s w m a b c d g f pick x) ?_,zab (yk4 s w m a b c d g f pick) ?_⟩
 all_goals (try conv=>zeta)
 · obtain⟨x0,x1⟩ : -1≤x∧x≤w-1:=hx
   refine⟨fun q => ?_,fun q => ?_⟩
   · have q:x≥0:=of_decide_eq_true q
     have e1:IntKind.i64.wrap (zch s w c+x)=zch s w c+x:=zaa (by omega) (by omega)
     have e2:IntKind.i64.wrap (x-1)=x-1:=zaa (by omega) (by omega)
     have hidx:0+(zch s w c+x).toNat=(zch s w c).toNat+x.toNat:=by omega
     have step:zf9 m (zch s w c) (pick.tmod w) (x-1+1).toNat (w-1-(x-1)).toNat=if (m.getD ((zch s w c).toNat+x.toNat) zE).1=false then x else zf9 m (zch s w c) (pick.tmod w) (x+1).toNat (w-1-x).toNat:=by
      rw[show (x-1+1).toNat=x.toNat by omega,show (w-1-(x-1)).toNat=(w-1-x).toNat+1 by omega,zf9,show ((x.toNat:Nat):Int)=x by omega,show x.toNat+1=(x+1).toNat by omega]
     rw[e1,e2,hidx,show El.zero shE=zE from rfl]
     refine⟨⟨by omega,by omega⟩,by omega,fun z=>⟨x-1,⟨rfl, ?_,rfl,rfl,rfl,rfl,rfl,rfl,rfl,rfl,rfl,rfl,rfl,rfl⟩,⟨by omega,by omega⟩,by omega,fun _ _=>trivial⟩,fun z=>⟨x-1,⟨rfl, ?_,rfl,rfl,rfl,rfl,rfl,rfl,rfl,rfl,rfl,rfl,rfl,rfl⟩,⟨by omega,by omega⟩,by omega,fun _ _=>trivial⟩⟩
     · rw[step,if_pos (by rw[Bool.not_eq_true'] at z;exact z)]
     · rw[step,if_neg (by rw[Bool.not_eq_false'] at z;rw[z];decide)]
   · have q:¬ x≥0:=of_decide_eq_false q
     have:x = -1:=by omega
     subst this
     refine⟨(),⟨rfl, ?_,rfl,rfl,rfl,rfl,rfl,rfl,rfl,rfl,rfl,rfl,rfl⟩,trivial⟩
     unfold zwd
     rw[show (-1+1:Int).toNat=0 by decide,show (w-1 - -1).toNat=w.toNat by omega]
 · obtain⟨y0,y1⟩:=ysb (m:=m) (s:=s) (w:=w) (c:=c) (p:=pick) w1 p0
   refine⟨by omega,by omega,w-1,⟨(zth hs w1 w4 hc0 hc).symm, ?_,(zaa (by omega) (by omega)).symm,rfl,rfl,rfl,rfl,rfl,rfl,rfl,rfl,rfl,rfl,rfl⟩,⟨by omega,by omega⟩,fun _ _ => ?_⟩
   · rw[show (w-1-(w-1)).toNat=0 by omega,zf9]
   · rw[zaa (by omega) (by omega),Nat.zero_add]
     exact⟨⟨by omega,by omega⟩,by omega,rfl,rfl,rfl,rfl,rfl⟩
theorem yy5:zar Tryz.prog kI := .cons (by kernel_rfl) (zew yrj) ztn
theorem FI_ok:DictOk Tryz.prog FI:=zay ((yy5.append zmy).append zc4) .nil .nil
theorem zq1{p:Bool}{e:En}(h:zdz p e=true):e.2.2.1<512:=by
 simp only[zdz,Bool.and_eq_true,decide_eq_true_eq] at h
 obtain⟨⟨⟨⟨⟨_,h1⟩,h2⟩,_⟩,_⟩,_⟩:=h
 have:(2:Int) ^ (9-3*e.2.1).toNat≤512:=by rcases zcn (zgq.1 h1) with q|q|q<;>rw[q]<;>decide
 omega
theorem zb4{p:Bool}{s w:Int}{m:Es}(h:zat p (s,w,m)=true):zcw s w m=true:=by
 simp only[zat,Bool.and_eq_true] at h
 exact h.1
theorem yji{s w:Int}{m:Es}{e:En}{pick:Int}(h:zhq (s,w,m) e pick=true)(he:EnR e):yep s w m e pick:=by
 simp only[zhq,Bool.and_eq_true,Bool.or_eq_true,decide_eq_true_eq] at h
 obtain⟨⟨h1,h2⟩,h3⟩:=h
 rcases h3 with ⟨h4,h5⟩|⟨h4,h5⟩
 · exact⟨zb4 h4,he,zq1 h5,h1,h2⟩
 · exact⟨zb4 h4,he,zq1 h5,h1,h2⟩
theorem zb6(m:Es)(s w:Int)(e:En)(pick:Int):(zh9 m s w e pick).length=m.length:=by simp[zh9]
theorem zxk{s w:Int}{m:Es}{e:En}{pick:Int}(h:zhq (s,w,m) e pick=true):zbh (s,w,m) e pick=(s,w,zh9 m s w e pick):=by simp[zbh,h]
theorem yb1{s w:Int}{m:Es}{e:En}{pick:Int}(h:zhq (s,w,m) e pick=false):zbh (s,w,m) e pick=(s,w,m):=by simp[zbh,h]
theorem yct(s w:Int)(m:Es)(e:En)(pick:Int):(bif bif !bif bif zat true (s,w,m) then zdz true e else false then true else bif zat false (s,w,m) then zdz false e else false then true else decide (pick<0) then true else decide (pick>255)) = !zhq (s,w,m) e pick:=by
 have e1:decide (0≤pick) = !decide (pick<0):=by
  by_cases h:pick<0
  · have:¬ 0≤pick:=by omega
    simp[h,this]
  · have:0≤pick:=by omega
    simp[h,this]
 have e2:decide (pick≤255) = !decide (pick>255):=by
  by_cases h:pick>255
  · have:¬ pick≤255:=by omega
    simp[h,this]
  · have:pick≤255:=by omega
    simp[h,this]
 unfold zhq
 rw[e1,e2]
 cases zat true (s,w,m)<;>cases zdz true e<;>cases zat false (s,w,m)<;>cases zdz false e<;>cases decide (pick<0)<;>cases decide (pick>255)<;>rfl
theorem ycp:Sound Tryz.prog 25 (zai [tlP,enP,i64] [tlP] (fun t=>some (TlR t.1∧EnR t.2.1)) (fun t=>zbh t.1 t.2.1 t.2.2)):=by
 refine zbl mixed Tryz.func25 (by kernel_rfl) (b:=zag Tryz.f25 0) (k:=7) (by kernel_rfl) (by kernel_rfl) (by kernel_rfl) FI_ok (fun t h => ?_)
 obtain⟨⟨s,w,m⟩,⟨a,b,c,d,g,f⟩,pick⟩:Tl × En × Int:=t
 obtain⟨ht,he⟩:TlR (s,w,m)∧EnR (a,b,c,d,g,f):=h
 have hz:SzR m.length:=ht.2.2.1
 have hc0:0≤c:=he.2.1.1
 refine⟨.one 7 (yi6 s w m (a,b,c,d,g,f) pick),yi6 s w m (a,b,c,d,g,f) pick,fun k:Nat=>w.toNat-k,za3 _ _,fun  (k:Nat) hk=>zab (zn4 s w m a b c d g f pick k) ?_,zab (zr9 s w m a b c d g f pick) ?_⟩
 all_goals (try conv=>zeta)
 · obtain⟨hP,k1,hw⟩:yep s w m (a,b,c,d,g,f) pick∧(k:Int)≤w∧zwd m s w c pick=zf9 m (zch s w c) (pick.tmod w) k (w.toNat-k):=hk
   obtain⟨hd,_,hc,p0,p1⟩:=id hP
   obtain⟨hs,w1,w4,hl⟩:=zio hd
   simp only at hc
   obtain⟨f0,f1⟩:=zmp (s:=s) (w:=w) (by omega) w1 hc0 hc
   have hle:s*w≤32:=by rcases hs with rfl|rfl|rfl|rfl<;>omega
   refine⟨fun q => ?_,fun q => ?_⟩
   · have q:(k:Int)<w:=of_decide_eq_true q
     have e1:IntKind.i64.wrap (zch s w c+(k:Int))=zch s w c+k:=zaa (by omega) (by omega)
     have e2:IntKind.i64.wrap ((k:Int)+1)=((k+1:Nat):Int):=by rw[zaa (by omega) (by omega)];omega
     have hidx:0+(zch s w c+(k:Int)).toNat=(zch s w c).toNat+k:=by omega
     have step:zwd m s w c pick=if (m.getD ((zch s w c).toNat+k) zE).1=false then (k:Int) else zf9 m (zch s w c) (pick.tmod w) (k+1) (w.toNat-(k+1)):=by
      rw[hw,show w.toNat-k=(w.toNat-(k+1))+1 by omega,zf9]
     rw[e1,e2,hidx,show El.zero shE=zE from rfl]
     refine⟨⟨by omega,by omega⟩,by omega,fun z=>⟨⟨by omega,by omega⟩,by omega,(),⟨rfl,rfl,rfl,rfl,rfl, ?_⟩,trivial⟩,fun z=>⟨k+1,⟨rfl,rfl,rfl,rfl,rfl,rfl,rfl,rfl,rfl,rfl,rfl,rfl,rfl,rfl,rfl,rfl,rfl,rfl,rfl,rfl,rfl,rfl⟩,⟨hP,by omega, ?_⟩,by omega,fun _ z=>z,fun _ _=>trivial⟩⟩
     · rw[if_pos (by rw[Bool.not_eq_true'] at z;exact z)] at step
       unfold zh9
       simp only
       rw[step,show (zch s w c+(k:Int)).toNat=(zch s w c).toNat+k by omega]
     · rw[if_neg (by rw[Bool.not_eq_false'] at z;rw[z];decide)] at step
       exact step
   · have q:¬ (k:Int)<w:=of_decide_eq_false q
     have:w.toNat-k=0:=by omega
     rw[this,zf9] at hw
     exact⟨(),⟨rfl,rfl,rfl,rfl,rfl,rfl,rfl,rfl,rfl,rfl,rfl,rfl,rfl,rfl,rfl,rfl,rfl,rfl,rfl,rfl,rfl⟩,hP,hw⟩
 · rw[yct]
   refine⟨⟨rfl,hz⟩,⟨rfl,ht⟩,fun _=>he,fun _=>⟨rfl,ht⟩,fun _=>he,fun q => ?_,fun q => ?_⟩
   · have q:zhq (s,w,m) (a,b,c,d,g,f) pick=false:=by simpa using q
     rw[yb1 q]
     exact⟨rfl,rfl,rfl,rfl,rfl,rfl⟩
   · have q:zhq (s,w,m) (a,b,c,d,g,f) pick=true:=by simpa using q
     have hP:=yji q he
     obtain⟨hd,_,hc,p0,p1⟩:=id hP
     obtain⟨hs,w1,w4,hl⟩:=zio hd
     simp only at hc
     obtain⟨f0,f1⟩:=zmp (s:=s) (w:=w) (by omega) w1 hc0 hc
     have hle:s*w≤32:=by rcases hs with rfl|rfl|rfl|rfl<;>omega
     obtain⟨y0,y1⟩:=yih (p:=pick) p0 w1
     rw[zxk q]
     refine⟨by omega,0,⟨rfl,(zth hs w1 w4 hc0 hc).symm,rfl,rfl,rfl,rfl,rfl,rfl,rfl,rfl,rfl,rfl,rfl,rfl,rfl,rfl,rfl,rfl,rfl,rfl,rfl,rfl⟩,⟨hP,by omega,rfl⟩,fun _ z => ?_,fun _ _=>⟨rfl,rfl,rfl,zb6 ..,rfl,rfl⟩⟩
     have e1:IntKind.i64.wrap (zch s w c+pick.tmod w)=zch s w c+pick.tmod w:=zaa (by omega) (by omega)
     rw[e1,Nat.zero_add]
     refine⟨by omega,⟨by omega,by omega⟩,by omega,rfl,rfl,rfl,zb6 ..,rfl, ?_⟩
     unfold zh9
     simp only
     rw[z.2]
theorem yy4:zar Tryz.prog kI2 := .cons (by kernel_rfl) ycp yy5
end Go.Proofs.YtfiddfbagbaofaaGreat.V
