/- Draws, told by their kinds. Conditions: those in each statement. -/
import Derived.Test.YtfiddfbagbaofaaGreatEC
import Derived.Test.YtfiddfbagbaofaaGreatV4
import Derived.KernelRfl
namespace Go.Proofs.YtfiddfbagbaofaaGreat.V
open Go
def InB(l:By):Prop:=∀x ∈ l,0≤x∧x<256
def zvo(As Rs:List Pm)(d:PmT Rs)(req:PmT As→Prop)(kind:PmT As→PmT Rs→Prop):RelS where
 β:=PmT Rs × Int × Int
 d:=(d,0,0)
 S z:=fun args H=>match args,H with
  | .ptr 0 0::av,[.fix [.sl 1 1 0 k,.v (.int .i64 i),.v (.int .i64 _)] true (some 244),.arr sh m false]=>(match zkg [] As av 0 with
   | some (ps,x,_)=>if e:sh=[.i .u8] then some (some (zkq (ps++[k=(e ▸ m:List (El [.i .u8])).length∧zbe (e ▸ m:List (El [.i .u8])) i∧req x])),(zfb true Rs z.1 2).1,zff (e ▸ m:List (El [.i .u8])) z.2.1 z.2.2++(zfb true Rs z.1 2).2) else none
   | none=>none)
  | _,_=>none
 Q z:=fun args H=>match args,H with
  | _::av,[_,.arr sh m _]=>(match zkg [] As av 0 with
   | some (_,x,_)=>if e:sh=[.i .u8] then zbe (e ▸ m:List (El [.i .u8])) z.2.1∧kind x z.1 else False
   | none=>False)
  | _,_=>False
def ycv:SpecW:={ plan:=fun _=>some (fun _ => .std) }
abbrev below1:RelS:=zvo [i64] [i64] (0:Int) (fun k:Int=>1≤k∧k≤100000) (fun  (k x:Int)=>0≤x∧x<k)
abbrev once1:RelS:=zvo [i64] [bl] false (fun k:Int=>1≤k∧k≤100000) (fun _ _=>True)
abbrev word1:RelS:=zvo [] [u64] (0:Int) (fun _=>True) (fun _ (x:Int)=>U64 x)
abbrev mem1:RelS:=zvo [i64] [byP] ([]:By) (fun n:Int=>0≤n∧n≤1000) (fun  (n:Int)(x:By)=>InB x∧(x.length:Int)=n)
def FEI0:Dict:=mkD [(168,yj9),(181,yjm),(166,memS)] [] []
def yhq(m:By)(i h k:Int):Prop:=vcR Tryz.prog FEI0 (Rels.of []) {} Tryz.f84 below1 [.ptr 0 0,.v (.int .i64 k)] (zff m i h)
def ylt:List (FuncId × RelS):=[(84,below1)]
def ym5(m:By)(i h k:Int):Prop:=vcR Tryz.prog FEI0 (Rels.of ylt) ycv Tryz.f86 once1 [.ptr 0 0,.v (.int .i64 k)] (zff m i h)
def ylu:List (FuncId × RelS):=[(86,once1),(181,word1),(166,mem1)]++ylt
def yti:Dict:=mkD (kEB2++kB3++kA4) [] []
abbrev num1:RelS:=zvo [] [u64] (0:Int) (fun _=>True) (fun _ (x:Int)=>U64 x)
abbrev flag1:RelS:=zvo [bl] [u64] (0:Int) (fun _=>True) (fun _ (x:Int)=>U64 x)
abbrev ptr1:RelS:=zvo [i64] [u64] (0:Int) (fun _=>True) (fun _ (x:Int)=>U64 x)
def yw9(m:By)(i h:Int):Prop:=vcR Tryz.prog yti (Rels.of ylu) ycv Tryz.f83 num1 [.ptr 0 0] (zff m i h)
def yh9(m:By)(i h:Int)(u:Bool):Prop:=vcR Tryz.prog yti (Rels.of ylu) ycv Tryz.f85 flag1 [.ptr 0 0,.v (.bool u)] (zff m i h)
def ys3(m:By)(i h a:Int):Prop:=vcR Tryz.prog yti (Rels.of ylu) ycv Tryz.f213 ptr1 [.ptr 0 0,.v (.int .i64 a)] (zff m i h)
def yto:List (FuncId × RelS):=[(83,num1),(85,flag1),(213,ptr1)]++ylu
def ysm(m:By)(i h:Int):Prop:=vcR Tryz.prog yti (Rels.of yto) ycv Tryz.f209 num1 [.ptr 0 0] (zff m i h)
def zng(a r:Int):Int:=IntKind.u64.wrap (IntKind.u64.wrap (IntKind.u64.wrap (8*pw 60)+IntKind.u64.wrap (IntKind.u64.wrap a*pw 44))+IntKind.u64.wrap r)
def ys4(a r:Int):Prop:=zal Tryz.prog yti .none Tryz.f113 [i64,i64] [u64] (a,r) (zng a r)
set_option linter.unusedVariables false
theorem zxm(m:By)(i h k:Int):ym5 m i h k=(
 (List.length m=List.length m∧zbe m i∧1≤k∧k≤100000)∧∀(z:PmT [i64] × Int × Int),zbe m z.snd.fst∧0≤z.fst∧z.fst<k→∃(z_1:PmT [bl] × Int × Int),(z_1.fst=(z.fst==0)∧0
 = 0∧List.length m=List.length m∧z_1.snd.fst=z.snd.fst∧z_1.snd.snd=z.snd.snd∧m=m)∧zbe m z_1.snd.fst∧True):=by kernel_rfl
theorem yb6(a r:Int):ys4 a r=(
 60≤(64:PmT [i64])∧44≤(64:PmT [i64])∧IntKind.u64.wrap (IntKind.u64.wrap (IntKind.u64.wrap ((8:Int)*pw 60)+IntKind.u64.wrap (IntKind.u64.wrap a*pw 44))+IntKind.u64.wrap r) =
 IntKind.u64.wrap (IntKind.u64.wrap (IntKind.u64.wrap ((8:Int)*pw 60)+IntKind.u64.wrap (IntKind.u64.wrap a*pw 44))+IntKind.u64.wrap r)):=by kernel_rfl
theorem zuu :
 let A0(a:Int):=IntKind.u64.wrap a;
 let A1(a:By)(b:Int × Int)(c:Prop):=zbe a b.fst∧c;
 let A2(a:Int):=a≤100000;
 let A3:=(0:Nat)=0;
 let A4(a:By)(b:Prop):=List.length a=List.length a∧b;
 let A5(a:Int):=(1:Int)≤a;
 let A6(a:By)(b:Int):=iN (List.length a) b;
 let A7(a:By)(b c:Prop):=A4 a b∧c;
 let A8(a:PmT [i64] × Int × Int):=IntKind.u64.wrap a.fst;
 let A9(a b:Int):=A0 (a+b);
 let Aa(a:By)(b:PmT [bl] × Int × Int):=A1 a b.snd True;
 let Ab(a:PmT [bl] × Int × Int)(b:Bool)(c:Prop):=a.fst=b→c;
 let Ac(a:By)(b:PmT [u64] × Int × Int)(c d:Int):=A4 a (b.snd.fst=c∧b.snd.snd=d∧a=a);
 let Ad(a b:Prop)(c:By)(d:PmT [u64] × Int × Int):=(a∧b)∧A1 c d.snd (U64 d.fst);
 let Ae(a:Int):=A0 (a*1024);
 let Af(a:PmT [u64] × Int × Int)(b:Int)(c:Prop)(d:By):=Ad (a.fst=b) (A3∧c) d a;
 let Ah(a:PmT [u64] × Int × Int)(b:Int)(c:By)(d:PmT [bl] × Int × Int):=Af a b (Ac c a d.snd.fst d.snd.snd) c;
 let Ai(a b c:Prop):=a→b∧c;
 let Aj(a:By)(b:PmT [bl] × Int × Int)(c d:Prop):=Ai (Aa a b) c d;
 let Ak(a:Int):=A9 (Ae a) 1;
 let Al(a:Int):=Ak (A0 a);
 let Am(a:Int):=IntKind.i64.wrap a;
 let An(a:By)(b:PmT [i64] × Int × Int)(c d:Prop):=A7 a (A1 a b.snd c) d;
 let Ao(a:PmT [bl] × Int × Int)(b:Bool)(c:By)(d:Int)(e:Prop):=Ab a b (A7 c (A1 c a.snd (A5 d∧A2 d)) e);
 let Ap(a:Int):=bits BinOp.or IntKind.u64 a 32;
 let Aq(a:PmT [u64] × Int × Int)(b:Int)(c:By)(d:PmT [i64] × Int × Int):=Af a b (Ac c a d.snd.fst d.snd.snd) c;
 let Ar:=A9 207 16;
 let Au(a:By)(b:PmT [i64] × Int × Int)(c:Int):=A1 a b.snd ((0:Int)≤b.fst∧b.fst<c);
 let Aw(a:PmT [i64] × Int × Int)(b:Int):=(a.fst==b)=false;
 let Ax(a:Prop)(b:PmT [i64] × Int × Int)(c:Int)(d e:Prop):=Ai a ((b.fst==c)=true→d) e;
 let Ay(a:PmT [bl] × Int × Int)(b:Bool)(c:By)(d:Prop):=Ao a b c 3 d;
 let Az(a:By)(b:Int)(c d:Prop):=A4 a (zbe a b∧c∧d);
 let AB(a:Int):=A9 (Al a) 32;
 let AC(a:By)(b:PmT [u64] × Int × Int)(c:Prop):=A1 a b.snd (U64 b.fst)→c;
 let AD(a:PmT [i64] × Int × Int):=decide (a.fst<5);
 let AE(a:PmT [u64] × Int × Int)(b:Int)(c:By)(d:PmT [u64] × Int × Int):=Af a b (Ac c a d.snd.fst d.snd.snd) c;
 let AF(a:PmT [bl] × Int × Int)(b:Bool)(c:By)(d:Prop):=Ab a b (A7 c (A1 c a.snd (A5 40∧A2 40)) d);
 let AG(a:PmT [u64] × Int × Int)(b:Int)(c:PmT [i64] × Int × Int)(d:By):=Aq a (bits BinOp.xor IntKind.u64 b (A0 ((1:Int)*2 ^ (min (A8 c).toNat 64)))) d c;
 let AH(a:PmT [i64] × Int × Int):=decide (a.fst<3);
 let AI(a:PmT [u64] × Int × Int)(b:Int)(c:By)(d:PmT [bl] × Int × Int):=Ah a (A9 (A0 (b-1)) 64) c d;
 let AJ(a:By)(b:PmT [i64] × Int × Int)(c:Prop):=Ai (Au a b 8) ((0:Int)≤A8 b) c;
 let AK(a:Prop)(b:PmT [i64] × Int × Int)(c:Int)(d:Prop)(e:Int)(f g:Prop):=Ax a b c d (Ax (Aw b c) b e f (Aw b e→g));
 let AL(a:By)(b:PmT [i64] × Int × Int)(c:Int)(d:PmT [i64] × Int × Int)(e f:Prop):=Ax (Au a b c) d 0 (An a b True e) f;
 let AM(a b:PmT [u64] × Int × Int)(c:By):=Ad (a.fst=b.fst) (A3∧Ac c a b.snd.fst b.snd.snd) c a;
 let AN(a:Int)(b:Bool)(c:By)(d:Int)(e:Prop):=decide (a≤256)=b→A7 c (zbe c d) e;
 let AO(a b:Bool)(c:By)(d:Int)(e:Prop):=Ai (a=b) (Az c d (A5 5) (A2 5)) e;
 let AP(a:By)(b:PmT [i64] × Int × Int)(c:Int)(d:Prop):=Au a b 10→An a b (A5 c∧A2 c) d;
 let AQ(a:By)(b:PmT [bl] × Int × Int)(c d:Prop):=Aj a b (Ab b true c) (Ab b false d);
 let AR(a:PmT [i64] × Int × Int)(b c:Int)(d:By)(e f:Int):=(a.fst=b.tmod c∧A3∧A4 d (a.snd.fst=A6 d e∧a.snd.snd=hN f∧d=d))∧Au d a c;
 let AS(a:By)(b:Int)(c:Prop):=Az a b (A5 10) (A2 10)∧c;
 let AT(a:PmT [bl] × Int × Int)(b:By)(c:Prop):=AF a false b c;
 let AU(a:By)(b:PmT [bl] × Int × Int)(c d:Prop):=Aj a b (Ao b true a 8 c) (Ab b false d);
 let AV(a:By)(b:PmT [i64] × Int × Int)(c:Prop):=An a b True c;
 let AW(a:PmT [bl] × Int × Int)(b:By)(c:Prop):=AF a true b c;
 (∀(m:By)(i h k:Int),yhq m i h k=(AN k true m i (k≠0∧∃(x0:PmT [i64] × Int × Int),AR x0 (byM m i h) k m i h)∧AN k false m i (A7 m (zbe m (A6 m i)) (A7 m (zbe m (A6 m (A6 m i))) (k≠0∧∃(x1 :
  PmT [i64] × Int × Int),AR x1 (Am (Am (Am (byM m i h*65536)+Am (byM m (A6 m i) (hN h)*256))+byM m (A6 m (A6 m i)) (hN (hN h)))) k m (A6 m (A6 m i)) (hN (hN h)))))))∧(∀(m:By)(i h:Int),yw9 m i h=(AS m i
  (∀(x0:PmT [i64] × Int × Int),AP m x0 16384 (∀(x1:PmT [i64] × Int × Int),AL m x1 16384 x0 (∀(x2:PmT [u64] × Int × Int),AC m x2 (∃(x3:PmT [u64] × Int × Int),AM x3 x2 m)) (AK (Aw x0 0) x0 (1
  : Int) (∃(x4:PmT [u64] × Int × Int),Aq x4 (A9 (A8 x1) 16384) m x1) 2 (∃(x5:PmT [u64] × Int × Int),Aq x5 (A0 ((0:Int)-A8 x1)) m x1) (∃(x6:PmT [u64] × Int × Int),Aq x6 (A8 x1) m x1))))))∧(∀(m :
  By) (i h:Int) (u:Bool),yh9 m i h u=(AO u true m i (∀(x0:PmT [bl] × Int × Int),Aj m x0 (Ay x0 true m (∀(x1:PmT [bl] × Int × Int),AU m x1 (∀(x2:PmT [i64] × Int × Int),AJ m x2 (∃(x3:PmT [u64] × Int × Int),
  AG x3 (Ap Ar) x2 m)) (∃(x4:PmT [u64] × Int × Int),Ah x4 (Ap Ar) m x1))) (Ay x0 false m (∀(x5:PmT [bl] × Int × Int),AU m x5 (∀(x6:PmT [i64] × Int × Int),AJ m x6 (∃(x7:PmT [u64] × Int × Int),AG x7 Ar x6 m)) (∃
  (x8:PmT [u64] × Int × Int),Ah x8 Ar m x5))))∧AO u false m i (∀(x9:PmT [bl] × Int × Int),Aj m x9 (Ay x9 true m (∀(x10:PmT [bl] × Int × Int),AU m x10 (∀(x11:PmT [i64] × Int × Int),AJ m x11 (∃(x12:PmT [u64] × Int
  × Int),AG x12 (Ap 207) x11 m)) (∃(x13:PmT [u64] × Int × Int),Ah x13 (Ap 207) m x10))) (Ay x9 false m (∀(x14:PmT [bl] × Int × Int),AU m x14 (∀(x15:PmT [i64] × Int × Int),AJ m x15 (∃(x16:PmT [u64] ×
  Int × Int),AG x16 207 x15 m)) (∃(x17:PmT [u64] × Int × Int),Ah x17 207 m x14))))))∧(∀(m:By)(i h a:Int),ys3 m i h a=(Az m i (A5 12) (A2 12)∧∀(x0:PmT [bl] × Int × Int),Aj m x0
  (AW x0 m (∀(x1:PmT [bl] × Int × Int),Aj m x1 (AW x1 m (∀(x2:PmT [bl] × Int × Int),AQ m x2 (∃(x3:PmT [u64] × Int × Int),AI x3 (AB a) m x2) (∃(x4:PmT [u64] × Int × Int),Ah x4 (A0 (AB a-1)) m x2))) (AT x1
  m (∀(x5:PmT [bl] × Int × Int),AQ m x5 (∃(x6:PmT [u64] × Int × Int),Ah x6 (A9 (AB a) 64) m x5) (∃(x7:PmT [u64] × Int × Int),Ah x7 (AB a) m x5))))) (AT x0 m (∀(x8:PmT [bl] × Int × Int),Aj m x8 (AW x8 m (∀
  (x9:PmT [bl] × Int × Int),AQ m x9 (∃(x10:PmT [u64] × Int × Int),AI x10 (Al a) m x9) (∃(x11:PmT [u64] × Int × Int),Ah x11 (A0 (Al a-1)) m x9))) (AT x8 m (∀(x12:PmT [bl] × Int × Int),AQ m x12 (∃(x13:PmT
  [u64] × Int × Int),Ah x13 (A9 (Al a) 64) m x12) (∃(x14:PmT [u64] × Int × Int),Ah x14 (Al a) m x12)))))))∧(∀(m:By)(i h:Int),ysm m i h=(AS m i (∀(x0:PmT [i64] × Int × Int),AP m x0 64 (∀(x1 :
  PmT [i64] × Int × Int),AL m x1 64 x0 (∀(x2:PmT [u64] × Int × Int),AC m x2 (∃(x3:PmT [u64] × Int × Int),AM x3 x2 m)) (Ai (Aw x0 0) (AH x0=true→AV m x1 (∀(x4:PmT [u64] × Int × Int),AC m x4 (∃(x5
  : PmT [u64] × Int × Int),AE x5 (bits BinOp.and IntKind.u64 x4.fst 18014398509481983) m x4))) (Ai (AH x0=false) (AD x0=true→∃(x6:PmT [u64] × Int × Int),Aq x6 (Ak (A8 x1)) m x1) (AK (AD x0=false) x0 5
  (AV m x1 (∀(x7:PmT [u64] × Int × Int),AC m x7 (∃(x8:PmT [u64] × Int × Int),AE x8 (A0 (A0 (A8 x1*8192)+x7.fst)) m x7))) 6 (AV m x1 (∀(x9:PmT [u64] × Int × Int),AC m x9 (∃(x10:PmT [u64] × Int ×
  Int),AE x10 (A0 (A0 (A8 x1*65536)+x9.fst)) m x9))) (An m x1 (A5 2∧A2 2) (∀(x11:PmT [bl] × Int × Int),Aa m x11→A7 m (Aa m x11) (∀(x12:PmT [u64] × Int × Int),AC m x12 (∃(x13:PmT [u64] ×
  Int × Int),AE x13 (A0 (Ae (A8 x1)+x12.fst)) m x12))))))))))):=by
  intros
  refine⟨?_, ?_, ?_, ?_, ?_⟩<;>(intros;kernel_rfl)
set_option linter.unusedSimpArgs false
set_option linter.unusedVariables false
theorem zgf{f:FuncId}{fn:Func}(hf:Tryz.prog.funcs[f]? = some fn)(hb:fn.body=some (zat fn)){As Rs:List Pm}{d:PmT Rs}{req:PmT As→Prop}{kind:PmT As→PmT Rs→Prop}{D:Dict}(hD:DictOk Tryz.prog D){R:Rels}(hR:zb7 Tryz.prog R)
 (h:∀(m:By)(i hh:Int)(x:PmT As),zbe m i→req x→∃Ξ:SpecW,(∀b ∈ zak (zat fn),∀k L,zbh b=some k→Ξ.loop k=some L→zb3 Tryz.prog 2 b L)∧vcR Tryz.prog D R Ξ fn (zvo As Rs d req kind) (.ptr 0 0::(zap true As x 0).1) (zff m i hh)):zcm Tryz.prog f (zvo As Rs d req kind):=by
 refine yha mixed hf hb hD hR (fun args H p v H' hs hp => ?_)
 unfold zvo at hs
 simp only at hs
 split at hs
 case h_2=>cases hs
 rename_i av k i hh sh m
 split at hs
 case h_2=>cases hs
 rename_i ps x n hd
 split at hs
 case isFalse=>cases hs
 rename_i hsh
 subst hsh
 simp only[Option.some.injEq,Prod.mk.injEq] at hs
 obtain⟨rfl, -, -⟩:=hs
 have hp':=zbp.1 (show zkq (ps++[k=m.length∧zbe m i∧req x]) from hp)
 obtain⟨rfl,hc,hx⟩:k=m.length∧zbe m i∧req x:=hp' _ (by simp)
 obtain⟨rfl,_,_⟩:=zhl hd (fun q hq=>hp' q (by simp[hq]))
 exact h m i hh x hc hx
theorem zbw{fn:Func}(h:zak (zat fn)=[]){n:Nat}{Ξ:SpecW}:∀b ∈ zak (zat fn),∀k L,zbh b=some k→Ξ.loop k=some L→zb3 Tryz.prog n b L:=by rw[h];exact fun b hb=>by cases hb
theorem yc2:DictOk Tryz.prog FEI0:=za1 (.cons (by kernel_rfl) ydw <| .cons (by kernel_rfl) zyd <| .cons (by kernel_rfl) yf3 .nil) .nil .nil
theorem zf0:zcm Tryz.prog 84 below1:=by
 refine zgf Tryz.func84 (by kernel_rfl) yc2 Rels.nil (fun m i hh (k:Int) hc hk=>⟨{},zbw (by kernel_rfl), ?_⟩)
 obtain⟨k1,k2⟩:1≤k∧k≤100000:=hk
 have c1:=zbm hc
 have c2:=zbm c1
 have c3:=zbm c2
 have b1:=zlh m i hh
 have b2:=zlh m (iN m.length i) (hN hh)
 have b3:=zlh m (iN m.length (iN m.length i)) (hN (hN hh))
 have md:∀x:Int,0≤x→0≤x.tmod k∧x.tmod k<k:=fun x hx=>by
  rw[Int.tmod_eq_emod_of_nonneg hx]
  exact⟨Int.emod_nonneg _ (by omega),Int.emod_lt_of_pos _ (by omega)⟩
 have e0:=zuu
 conv at e0=>zeta
 dsimp -proj -iota -eta only at e0
 replace e0:=e0.1
 refine zah (e0 m i hh k) ⟨fun _=>⟨⟨rfl,hc⟩,by omega,⟨(_,_,_),⟨rfl,rfl,rfl,rfl,rfl,rfl⟩,c1,md _ b1.1⟩⟩,fun _=>⟨⟨rfl,hc⟩,⟨rfl,c1⟩,⟨rfl,c2⟩,by omega,⟨(_,_,_),⟨rfl,rfl,rfl,rfl,rfl,rfl⟩,c3,md _ ?_⟩⟩⟩
 generalize byM m i hh=x at *
 generalize byM m (iN m.length i) (hN hh)=y at *
 generalize byM m (iN m.length (iN m.length i)) (hN (hN hh))=w at *
 rw[zaa (n:=x*65536) (by omega) (by omega),zaa (n:=y*256) (by omega) (by omega),zaa (n:=x*65536+y*256) (by omega) (by omega),zaa (by omega) (by omega)]
 omega
theorem yrp:zb7 Tryz.prog (Rels.of ylt):=Rels.ok (fun p hp=>by
 rcases List.mem_singleton.1 hp with rfl
 exact⟨by kernel_rfl,zf0⟩)
theorem zk4:zcm Tryz.prog 86 once1:=by
 refine zgf Tryz.func86 (by kernel_rfl) yc2 yrp (fun m i hh (k:Int) hc hk=>⟨ycv,zbw (by kernel_rfl), ?_⟩)
 obtain⟨k1,k2⟩:1≤k∧k≤100000:=hk
 refine zah (zxm m i hh k) ⟨⟨rfl,hc,k1,k2⟩, ?_⟩
 rintro z ⟨hz,_⟩
 exact⟨(_,_,_),⟨rfl,rfl,rfl,rfl,rfl,rfl⟩,hz,trivial⟩
theorem zoo{P:Program}{f:FuncId}{S:Sum}{r:RelS}(hS:Sound P f S)(h:∀args H p v H',r.S r.d args H=some (p,v,H')→Hold p→∃z q q' v2 H2,S args H=some (q,v2,H2)∧Hold q∧r.S z args H=some (q',v2,H2)∧r.Q z args H):zcm P f r:=by
 intro args H p v H' hs hp ρ vs w hw
 obtain⟨z,q,q',v2,H2,h1,h2,h3,h4⟩:=h args H p v H' hs hp
 exact (hS args H q v2 H2 h1 h2 ρ vs w hw).mono (fun e w' he=>⟨z,q',v2,H2,h3,h4,he⟩)
theorem zo9(op:BinOp)(a b:Int):U64 (bits op .u64 a b):=zct _
theorem zk8:zcm Tryz.prog 181 word1:=by
 refine zoo zyd (fun args H p v H' hs hp => ?_)
 simp only[word1,mem1,zvo] at hs
 split at hs
 case h_2=>cases hs
 rename_i av k i hh sh m
 split at hs
 case h_2=>cases hs
 rename_i ps x n hd
 split at hs
 case isFalse=>cases hs
 rename_i hsh
 subst hsh
 simp only[Option.some.injEq,Prod.mk.injEq] at hs
 obtain⟨rfl, -, -⟩:=hs
 have hp':=zbp.1 hp
 obtain⟨rfl,hc,hx⟩:k=m.length∧zbe m i∧True:=hp' _ (by simp)
 obtain⟨rfl,_,_⟩:=zhl hd (fun q hq=>hp' q (by simp[hq]))
 have e:yjm (.ptr 0 0::(zap true [] x 0).1) (zff m i hh)=some (some (m.length=m.length∧zbe m i),.v (.int .u64 (zhh m i hh 8)),zff m (itI m.length i 8) (itH hh 8)):=rfl
 have c8:=zro hc 8
 have w8:=ynr m i hh 8
 generalize zhh m i hh 8=W at e w8
 generalize itI m.length i 8=I at e c8
 generalize itH hh 8=T at e
 exact⟨(W,I,T),_,_,_,_,e,⟨rfl,hc⟩,rfl,c8,w8⟩
theorem zsk(m:By)(i h:Int):∀k,InB (zk1 m i h k)∧(zk1 m i h k).length=k
 | 0=>⟨fun x hx=>(by cases hx),rfl⟩
 | k+1=>by
  obtain⟨a,b⟩:=zsk m i h k
  unfold zk1
  refine⟨fun x hx => ?_,by simp[b]⟩
  rcases List.mem_append.1 hx with hx|hx
  · exact a x hx
  · rw[List.mem_singleton.1 hx]
    exact zlh _ _ _
theorem zpq:zcm Tryz.prog 166 mem1:=by
 refine zoo yf3 (fun args H p v H' hs hp => ?_)
 simp only[word1,mem1,zvo] at hs
 split at hs
 case h_2=>cases hs
 rename_i av k i hh sh m
 split at hs
 case h_2=>cases hs
 rename_i ps x n hd
 split at hs
 case isFalse=>cases hs
 rename_i hsh
 subst hsh
 simp only[Option.some.injEq,Prod.mk.injEq] at hs
 obtain⟨rfl, -, -⟩:=hs
 have hp':=zbp.1 hp
 obtain⟨rfl,hc,hx⟩:k=m.length∧zbe m i∧(fun n:Int=>0≤n∧n≤1000) x:=hp' _ (by simp)
 obtain⟨rfl,_,_⟩:=zhl hd (fun q hq=>hp' q (by simp[hq]))
 obtain⟨x0,x1⟩:(0:Int)≤x∧x≤(1000:Int):=hx
 obtain⟨a,b⟩:=zsk m i hh (x:Int).toNat
 refine⟨(zk1 m i hh (x:Int).toNat,itI m.length i (x:Int).toNat,itH hh (x:Int).toNat),some (m.length=m.length∧zbe m i∧(0:Int)≤x∧(x:Int)≤100000),_,.sl 2 1 0 (zk1 m i hh (x:Int).toNat).length,_,(by rw[b];rfl),⟨rfl,hc,x0, ?_⟩,rfl,zro hc _,a, ?_⟩
 · exact Int.le_trans x1 (by decide)
 · show ((zk1 m i hh (x:Int).toNat).length:Int)=x
   rw[b]
   omega
theorem zwl:zb7 Tryz.prog (Rels.of ylu):=Rels.ok (fun p hp=>by
 simp only[ylu,ylt,List.cons_append,List.nil_append,List.mem_cons,List.not_mem_nil,or_false] at hp
 rcases hp with rfl|rfl|rfl|rfl
 · exact⟨by kernel_rfl,zk4⟩
 · exact⟨by kernel_rfl,zk8⟩
 · exact⟨by kernel_rfl,zpq⟩
 · exact⟨by kernel_rfl,zf0⟩)
theorem zk9:DictOk Tryz.prog yti:=za1 ((zv6.append zdn).append zce) .nil .nil
theorem yhn:zcm Tryz.prog 83 num1:=by
 refine zgf Tryz.func83 (by kernel_rfl) zk9 zwl (fun m i hh x hc _=>⟨ycv,zbw (by kernel_rfl), ?_⟩)
 have e0:=zuu
 conv at e0=>zeta
 dsimp -proj -iota -eta only at e0
 replace e0:=e0.2.1
 refine zah (e0 m i hh) ?_
 simp only[and_imp]
 repeat' first
  | exact zct _
  | exact zo9 _ _ _
  | assumption
  | intro _
  | refine⟨(_,_,_),⟨rfl,rfl,rfl,rfl,rfl,rfl⟩, ?_, ?_⟩
  | refine⟨(_,_,_),⟨rfl,trivial,trivial,rfl,rfl,trivial⟩, ?_, ?_⟩
  | apply And.intro
 all_goals first|rfl|assumption|exact trivial|exact zct _|exact zo9 _ _ _|omega
theorem zlw:zcm Tryz.prog 85 flag1:=by
 refine zgf Tryz.func85 (by kernel_rfl) zk9 zwl (fun m i hh (x:Bool) hc _=>⟨ycv,zbw (by kernel_rfl), ?_⟩)
 have u1:U64 (207:Int):=⟨by omega,by omega⟩
 have u2:U64 (223:Int):=⟨by omega,by omega⟩
 have e0:=zuu
 conv at e0=>zeta
 dsimp -proj -iota -eta only at e0
 replace e0:=e0.2.2.1
 refine zah (e0 m i hh x) ?_
 simp only[and_imp]
 repeat' first
  | exact zct _
  | exact zo9 _ _ _
  | assumption
  | intro _
  | refine⟨(_,_,_),⟨rfl,rfl,rfl,rfl,rfl,rfl⟩, ?_, ?_⟩
  | refine⟨(_,_,_),⟨rfl,trivial,trivial,rfl,rfl,trivial⟩, ?_, ?_⟩
  | apply And.intro
 all_goals first|rfl|assumption|exact trivial|exact zct _|exact zo9 _ _ _|omega|exact (zct _).1
theorem zwk:zcm Tryz.prog 213 ptr1:=by
 refine zgf Tryz.func213 (by kernel_rfl) zk9 zwl (fun m i hh (x:Int) hc _=>⟨ycv,zbw (by kernel_rfl), ?_⟩)
 have e0:=zuu
 conv at e0=>zeta
 dsimp -proj -iota -eta only at e0
 replace e0:=e0.2.2.2.1
 refine zah (e0 m i hh x) ?_
 simp only[and_imp]
 repeat' first
  | exact zct _
  | exact zo9 _ _ _
  | assumption
  | intro _
  | refine⟨(_,_,_),⟨rfl,rfl,rfl,rfl,rfl,rfl⟩, ?_, ?_⟩
  | refine⟨(_,_,_),⟨rfl,trivial,trivial,rfl,rfl,trivial⟩, ?_, ?_⟩
  | apply And.intro
 all_goals first|rfl|assumption|exact trivial|exact zct _|exact zo9 _ _ _|omega
theorem yrq:zb7 Tryz.prog (Rels.of yto):=Rels.ok (fun p hp=>by
 simp only[yto,ylu,ylt,List.cons_append,List.nil_append,List.mem_cons,List.not_mem_nil,or_false] at hp
 rcases hp with rfl|rfl|rfl|rfl|rfl|rfl|rfl
 · exact⟨by kernel_rfl,yhn⟩
 · exact⟨by kernel_rfl,zlw⟩
 · exact⟨by kernel_rfl,zwk⟩
 · exact⟨by kernel_rfl,zk4⟩
 · exact⟨by kernel_rfl,zk8⟩
 · exact⟨by kernel_rfl,zpq⟩
 · exact⟨by kernel_rfl,zf0⟩)
theorem yds:zcm Tryz.prog 209 num1:=by
 refine zgf Tryz.func209 (by kernel_rfl) zk9 yrq (fun m i hh x hc _=>⟨ycv,zbw (by kernel_rfl), ?_⟩)
 have e0:=zuu
 conv at e0=>zeta
 dsimp -proj -iota -eta only at e0
 replace e0:=e0.2.2.2.2
 refine zah (e0 m i hh) ?_
 simp only[and_imp]
 repeat' first
  | exact zct _
  | exact zo9 _ _ _
  | assumption
  | intro _
  | refine⟨(_,_,_),⟨rfl,rfl,rfl,rfl,rfl,rfl⟩, ?_, ?_⟩
  | refine⟨(_,_,_),⟨rfl,trivial,trivial,rfl,rfl,trivial⟩, ?_, ?_⟩
  | apply And.intro
 all_goals first|rfl|assumption|exact trivial|exact zct _|exact zo9 _ _ _|omega
theorem zmv:Sound Tryz.prog 113 (zag [i64,i64] [u64] (fun _=>none) (fun t=>zng t.1 t.2)):=by
 refine zad mixed Tryz.func113 (by kernel_rfl) (by kernel_rfl) zk9 (fun t _ => ?_)
 obtain⟨a,r⟩:Int × Int:=t
 exact zah (yb6 a r) ⟨by show (60:Int)≤64;omega,by show (44:Int)≤64;omega,rfl⟩
end Go.Proofs.YtfiddfbagbaofaaGreat.V
