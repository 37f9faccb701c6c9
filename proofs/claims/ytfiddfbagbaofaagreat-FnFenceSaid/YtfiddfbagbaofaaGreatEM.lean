/- A hart that a drawn script reaches is in order (seat G). Conditions: those in each statement. -/
import Derived.Test.YtfiddfbagbaofaaGreatEK
import Derived.Test.YtfiddfbagbaofaaGreatEL
import Derived.Test.YtfiddfbagbaofaaGreatDC
import Derived.KernelRfl
namespace Go.Proofs.YtfiddfbagbaofaaGreat.V
open Go
def kScr:Known:=[(22,zag [byP] [scP] (fun b=>some (zan b)) yjr),(65,zag [haP,bl,i64] [ruP] (fun t=>some (zrd (Rn.ofH t.1) t.2.2)) (fun t=>(zqa (Rn.ofH t.1) t.2.1 t.2.2).t))]
def FEM:Dict:=mkD kScr [] []
def zHa:Ha:=([],[],0,0,false,false,0,0,0,0,0,0,(0,0,[],0,0,[],0,0,[]))
abbrev reach1:RelS:=zvo [] [haP] zHa (fun _=>True) (fun _ (h:Ha)=>HaV h)
def rEM1:List (FuncId × RelS):=(167,script1)::ylt
def haA(r:Rn)(b:Nat):List Av:=(zu2 r b).take 21
def haH(r:Rn):Heap:=[.arr [.i .u8] r.m true,.arr [.i .u64] r.u true,.arr shE r.m1 true,.arr shE r.m2 true,.arr shE r.m3 true]
def reL(m:By):LoopW where
 α:=Rn × List Int × Int × Int × Int × Int
 I x:=HaV x.1.h∧(∀p ∈ x.2.1,0≤p∧p≤255)∧x.2.1.length≤20000∧(0≤x.2.2.2.1∧x.2.2.2.1≤43∧x.2.2.1≤43)∧zbe m x.2.2.2.2.1
 sl x:=slots 36 [(0,.ptr 0 0),(2,.ptr 2 0),(3,.ptr 3 0),(4,.ptr 4 0),(5,.v (.int .i64 x.2.2.1)),(6,.v (.int .i64 x.2.2.2.1))]
 H x:=zff m x.2.2.2.2.1 x.2.2.2.2.2++[.fix (ycu.take 21) true (some 41),.fix (List.replicate 21 .any++[.sl 5 1 0 x.2.1.length]) true (some 44),.fix (haA x.1 6) true (some 41),.arr [.i .i64] x.2.1 true]++haH x.1
 fams:=[{ β:=Rn × Int × Int,out:=fun _ z=>HaV z.1.h∧zbe m z.2.1,ex := .ext 0,sl:=fun _=>slots 36 [(0,.ptr 0 0),(2,.ptr 2 0),(4,.ptr 3 0)],H:=fun z=>zff m z.2.1 z.2.2++[.fix (ycu.take 21) true (some 41),.fix (haA z.1 4) true (some 41)]++haH z.1 }]
def reX(m:By):SpecW:={ plan:=fun k=>if k=7 then none else some (fun _ => .std),loop:=fun k=>if k=5 then some (reL m) else none }
def zov(m:By)(r:Rn)(ps:List Int)(n i ci ch:Int):Prop:=zd5 Tryz.prog FEM (Rels.of rEM1) (reX m) 2 (zai Tryz.f110 0) (reL m) (fun x:Rn × List Int × Int × Int × Int × Int=>(43-x.2.2.2.1).toNat) (r,ps,n,i,ci,ch)
def ym8(m:By)(i h:Int):Prop:=vcR Tryz.prog FEM (Rels.of rEM1) (reX m) Tryz.f110 reach1 [.ptr 0 0] (zff m i h)
set_option linter.unusedVariables false
set_option maxRecDepth 10000
theorem zqp(m:By)(r:Rn)(ps:List Int)(n i ci ch:Int):zov m r ps n i ci ch=(
 let A0:=(0:Int)=0;
 let A1(a b c:Prop):=a∧b∧c;
 let A2:=Value.slice none 0 0;
 let A3(a b c d e:Prop):=A1 a b (A1 c d e);
 let A4:=(0:Nat)+i.toNat;
 let A5(a b c d e f g h i:Prop):=A3 a b c d (A3 e f g h i);
 let A6:=(0:Nat)=0;
 let A7(a b:Es):=List.length a=List.length b;
 let A8:=(r.8,r.9,r.10,r.11,r.12,r.13,r.14,r.15,r.16,r.17,r.18,r.19,r.20,r.21);
 let A9(a:Rn):=List.length a.2;
 let Aa(a:Rn):=List.length a.1;
 let Ab(a b c d e f g h i j k l m n o p q:Prop):=A5 a b c d e f g h (A5 i j k l m n o p q);
 let Ac:=List.length m;
 let Ad(a:Rn × List Int × Int × Int × Int × Int):=a.snd.snd.snd;
 let Ae:=A2=A2;
 let Af:=zqa (Rn.ofH (r.1,r.2,r.3,r.4,r.5,r.6,r.7,A8)) false (ps.getD A4 (El.zero (Ty.i IntKind.i64::[])));
 let Ah:=false=false;
 let Ai:=ps.length;
 let Aj(a:Int):=((43:Int)-a).toNat;
 let Ak(a:Rn × List Int × Int × Int × Int × Int):=(Ad a).fst;
 let Al(a:Rn × Int × Int):=A5 A6 (Ac=Ac) (a.snd.fst=ci) (a.snd.snd=ch) (m=m) Ae Ae A0 (Ab A0 Ah Ah A0 A0 A0 A0 A0 A0 A0 A0 Ae A0 A0 Ae A0 (Ab A0 Ae A6 (Aa a.fst=Aa r) A6 (A9 a.fst=A9 r) (a.fst.3=r.3) (a.fst.4=r.4)
  (a.fst.5=r.5) (a.fst.6=r.6) (a.fst.7=r.7) (a.fst.8=r.8) (a.fst.9=r.9) (a.fst.10=r.10) (a.fst.11=r.11) (a.fst.12=r.12) (Ab (a.fst.13=r.13) (a.fst.14=r.14) A6 (A7 a.fst.15 r.15) (a.fst.16=r.16) (a.fst.17=r.17) A6 (A7
  a.fst.18 r.18) (a.fst.19=r.19) (a.fst.20=r.20) A6 (A7 a.fst.21 r.21) (a.fst.1=r.1) (a.fst.2=r.2) (a.fst.15=r.15) (a.fst.18=r.18) (a.fst.21=r.21))))∧A1 (zj1 Fz.none Fz.none) (HaV a.fst.h) (zbe m a.snd.fst);
 let Am(a:Bool)(b c:Prop):=(a=true→b)∧(a=false→c);
 let An(a:Rn × Int × Int):=HaV a.fst.h∧zbe m a.snd.fst;
 Am (decide (i<n)) (Am (decide (i<(↑Ai:Int))) (((0:Int)≤i∧i<(↑Ai:Int))∧A1 (A4<Ai) (Aa r=Aa r∧A3 (A9 r=A9 r) (A7 r.15 r.15) (A7 r.18 r.18) (A7 r.21 r.21) (zrd (Rn.ofH (r.1,r.2,r.3,r.4,r.5,r.6,r.7,A8))
  (ps.getD A4 (El.zero (Ty.i IntKind.i64::[]))))) (∃(x0:Rn × List Int × Int × Int × Int × Int),A3 (x0.snd.snd.fst=n∧A3 (Ak x0=IntKind.i64.wrap (i+1)) A6 (Ac=Ac) ((Ad x0).snd.fst=ci) (A5 ((Ad x0).snd.snd=ch) (m
  = m) Ae Ae A0 A0 Ah Ah (Ab A0 A0 A0 A0 A0 A0 A0 A0 Ae A0 A0 Ae A0 A0 Ae A6 (Ab (x0.snd.fst.length=Ai) A6 (Aa x0.fst=Aa Af) A6 (A9 x0.fst=A9 Af) (x0.fst.3=Af.3) (x0.fst.4=Af.4) (x0.fst.5=Af.5) (x0.fst.6=Af.6) (x0.fst.7
  = Af.7) (x0.fst.8=Af.8) (x0.fst.9=Af.9) (x0.fst.10=Af.10) (x0.fst.11=Af.11) (x0.fst.12=Af.12) (x0.fst.13=Af.13) (Ab (x0.fst.14=Af.14) A6 (A7 x0.fst.15 Af.15) (x0.fst.16=Af.16) (x0.fst.17=Af.17) A6 (A7 x0.fst.18
  Af.18) (x0.fst.19=Af.19) (x0.fst.20=Af.20) A6 (A7 x0.fst.21 Af.21) (x0.snd.fst=ps) (x0.fst.1=Af.1) (x0.fst.2=Af.2) (x0.fst.15=Af.15) (x0.fst.18=Af.18) (x0.fst.21=Af.21)))))) (zj1 Fz.none Fz.none) (A3 (HaV
  x0.fst.h) (∀(x1:Int),List.Mem x1 x0.snd.fst→0≤x1∧x1≤255) (x0.snd.fst.length≤20000) (A1 ((0:Int)≤Ak x0) (Ak x0≤43) (x0.snd.snd.fst≤43)) (zbe m (Ad x0).snd.fst)) (Aj
  (Ak x0)<Aj i) (∀(x2:Rn × Int × Int),An x2→An x2))) (∃(x3:Rn × Int × Int),Al x3)) (∃(x3:Rn × Int × Int),Al x3)):=by kernel_rfl
theorem zxp(m:By)(i h:Int):ym8 m i h=(
 let A0(a:PmT [byP] × Int × Int):=yjr a.fst;
 let A1(a:PmT [byP] × Int × Int):=(A0 a).snd.snd;
 let A2(a:PmT [haP] × Int × Int):=a.fst.snd.snd.snd;
 let A3(a b c:Prop):=a∧b∧c;
 let A4(a b c d e:Prop):=A3 a b (A3 c d e);
 let A5:=(0:Int)=0;
 let A6:=(0:Nat)=0;
 let A7(a:PmT [byP] × Int × Int):=(A1 a).snd.snd.snd;
 let A8(a:PmT [haP] × Int × Int):=(A2 a).snd.snd;
 let A9(a:PmT [byP] × Int × Int):=(A7 a).snd.snd.snd.snd;
 let Aa(a:PmT [haP] × Int × Int):=(A8 a).snd.snd.snd;
 let Ab:=List.length m;
 let Ac(a:PmT [byP] × Int × Int):=(A9 a).snd.snd.snd;
 let Ad(a:PmT [haP] × Int × Int):=(Aa a).snd.snd;
 let Ae(a b c d e f g h i:Prop):=A4 a b c d (A4 e f g h i);
 let Af(a:PmT [haP] × Int × Int):=(Ad a).snd.snd.snd;
 let Ah(a:PmT [byP] × Int × Int):=(Ac a).snd.snd.snd;
 let Ai:=Value.slice none 0 0;
 let Aj(a:PmT [byP] × Int × Int):=List.length a.fst;
 let Ak(a:PmT [haP] × Int × Int):=(Af a).snd.snd;
 let Al(a b c d e f g h i j k l m n o p q:Prop):=Ae a b c d e f g h (Ae i j k l m n o p q);
 let Am(a:(Cs.sl shE).T)(b:Es):=List.length a=List.length b;
 let An(a:PmT [byP] × Int × Int):=(Ah a).snd.snd.snd.snd;
 let Ao(a:PmT [haP] × Int × Int):=(Ak a).snd.snd.snd;
 let Ap(a:Rn × List Int × Int × Int × Int × Int):=a.snd.snd.snd.snd;
 let Aq(a:Rn × List Int × Int × Int × Int × Int):=a.snd.snd.snd.fst;
 let Ar:=Ai=Ai;
 let Au(a:Int × Int):=zbe m a.fst;
 A3 (Ab=Ab) (zbe m i) True∧∀(x0:PmT [byP] × Int × Int),zbe m x0.snd.fst∧A3 (InB x0.fst) ((80:Nat)≤Aj x0) (Aj x0≤20000)→A3 (Aj x0=Aj x0∧zan x0.fst) (Ab=Ab∧A3 (zbe m x0.snd.fst) ((1:Int)≤(40
  : Int)) ((40:Int)≤100000)) (∀(x1:PmT [i64] × Int × Int),A3 (Au x1.snd) ((0:Int)≤x1.fst) (x1.fst<40)→∃(x2:Rn × List Int × Int × Int × Int × Int),(x2.snd.snd.fst=IntKind.i64.wrap ((4:Int) +
  x1.fst)∧A4 (Aq x2=0) A6 (Ab=Ab) ((Ap x2).fst=x1.snd.fst) (Ae ((Ap x2).snd=x1.snd.snd) (m=m) Ar Ar A5 A5 (false=false) (false=false) (Al A5 A5 A5 A5 A5 A5 A5 A5 Ar A5 A5 Ar A5 A5 Ar A6 (Al (x2.snd.fst.length =
  List.length (An x0).snd.snd) A6 (List.length x2.fst.1=List.length (A0 x0).fst) A6 (List.length x2.fst.2=List.length (A0 x0).snd.fst) (x2.fst.3=(A1 x0).fst) (x2.fst.4=(A1 x0).snd.fst) (x2.fst.5=(A1 x0).snd.snd.fst)
  (x2.fst.6=(A7 x0).fst) (x2.fst.7=(A7 x0).snd.fst) (x2.fst.8=(A7 x0).snd.snd.fst) (x2.fst.9=(A7 x0).snd.snd.snd.fst) (x2.fst.10=(A9 x0).fst) (x2.fst.11=(A9 x0).snd.fst) (x2.fst.12=(A9 x0).snd.snd.fst) (x2.fst.13
  = (Ac x0).fst) (Al (x2.fst.14=(Ac x0).snd.fst) A6 (List.length x2.fst.15=List.length (Ac x0).snd.snd.fst) (x2.fst.16=(Ah x0).fst) (x2.fst.17=(Ah x0).snd.fst) A6 (List.length x2.fst.18=List.length (Ah x0).snd.snd.fst)
  (x2.fst.19=(Ah x0).snd.snd.snd.fst) (x2.fst.20=(An x0).fst) A6 (List.length x2.fst.21=List.length (An x0).snd.fst) (x2.snd.fst=(An x0).snd.snd) (x2.fst.1=(A0 x0).fst) (x2.fst.2=(A0 x0).snd.fst) (x2.fst.15=(Ac
  x0).snd.snd.fst) (x2.fst.18=(Ah x0).snd.snd.fst) (x2.fst.21=(An x0).snd.fst))))))∧A3 (zj1 Fz.none Fz.none) (A4 (HaV x2.fst.h) (∀(x3:Int),List.Mem x3 x2.snd.fst→0≤x3∧x3≤255) (x2.snd.fst.length ≤
  20000) (A3 ((0:Int)≤Aq x2) (Aq x2≤43) (x2.snd.snd.fst≤43)) (Au (Ap x2))) (∀(x4:Rn × Int × Int),HaV x4.fst.h∧Au x4.snd→∃(x5:PmT [haP] × Int × Int),A3 (A6∧A3 (List.length x5.fst.fst =
  List.length x4.fst.1) A6 (Al (List.length x5.fst.snd.fst=List.length x4.fst.2) (x5.fst.snd.snd.fst=x4.fst.3) ((A2 x5).fst=x4.fst.4) ((A2 x5).snd.fst=x4.fst.5) ((A8 x5).fst=x4.fst.6) ((A8 x5).snd.fst=x4.fst.7) ((A8
  x5).snd.snd.fst=x4.fst.8) ((Aa x5).fst=x4.fst.9) ((Aa x5).snd.fst=x4.fst.10) ((Ad x5).fst=x4.fst.11) ((Ad x5).snd.fst=x4.fst.12) ((Ad x5).snd.snd.fst=x4.fst.13) ((Af x5).fst=x4.fst.14) A6 (Am (Af x5).snd.fst
  x4.fst.15) ((Ak x5).fst=x4.fst.16) (Al ((Ak x5).snd.fst=x4.fst.17) A6 (Am (Ak x5).snd.snd.fst x4.fst.18) ((Ao x5).fst=x4.fst.19) ((Ao x5).snd.fst=x4.fst.20) A6 (List.length (Ao x5).snd.snd=List.length x4.fst.21) A6
  (Ab=Ab) (x5.snd.fst=x4.snd.fst) (x5.snd.snd=x4.snd.snd) (m=m) (x5.fst.fst=x4.fst.1) (x5.fst.snd.fst=x4.fst.2) ((Af x5).snd.fst=x4.fst.15) ((Ak x5).snd.snd.fst=x4.fst.18) ((Ao x5).snd.snd=x4.fst.21)))) (Au
  x5.snd) (HaV x5.fst)))):=by kernel_rfl
set_option linter.unusedSimpArgs false
set_option linter.unusedVariables false
set_option maxRecDepth 4000
theorem zn1(y:Int):zcf (zaz y).1 (zaz y).2.1 (zaz y).2.2=true:=by
 have h4:y % 4=0∨y % 4=1∨y % 4=2∨y % 4=3:=by omega
 have h5:1≤1+y/4 % 4∧1+y/4 % 4≤4:=by omega
 show zcf (2 ^ (y % 4).toNat) (1+y/4 % 4) (List.replicate (zaw y) zE)=true
 unfold zcf zaw
 generalize 1+y/4 % 4=w at h5
 simp only[Bool.and_eq_true,Bool.or_eq_true,beq_iff_eq,decide_eq_true_eq,List.length_replicate]
 rcases h4 with e|e|e|e<;>rw[e]<;>refine⟨⟨⟨by decide,h5.1⟩,h5.2⟩, ?_⟩
 · show (((1:Int)*w).toNat:Int)=1*w;omega
 · show (((2:Int)*w).toNat:Int)=2*w;omega
 · show (((4:Int)*w).toNat:Int)=4*w;omega
 · show (((8:Int)*w).toNat:Int)=8*w;omega
theorem zii(p:Bool)(y:Int):zaj p (zaz y)=true:=by
 unfold zaj
 rw[Bool.and_eq_true]
 refine⟨zn1 y,zcl.2 (fun i hi => ?_)⟩
 have:(zaz y).2.2.getD i zE=zE:=by
  show (List.replicate (zaw y) zE).getD i zE=zE
  rw[List.getD_eq_getElem?_getD,List.getElem?_replicate]
  split<;>rfl
 rw[this]
 exact ytg ..
theorem zpc(y:Int):TlR (zaz y):=by
 have h:=ze9 (zii true y)
 have hd:=zn1 y
 obtain⟨hs,w1,w4,hl⟩:=zfr hd
 refine⟨?_, ?_,Nat.le_trans h.2 (by decide),fun e he => ?_⟩
 · rcases hs with e|e|e|e<;>(unfold I64;rw[e];omega)
 · unfold I64;omega
 · rw[List.eq_of_mem_replicate he]
   exact⟨zye,zie,zie,zie⟩
def scHa(s:Sc):Ha:=(s.1,s.2.1,s.2.2.1,s.2.2.2.1,s.2.2.2.2.1,s.2.2.2.2.2.1,s.2.2.2.2.2.2.1,s.2.2.2.2.2.2.2.1,s.2.2.2.2.2.2.2.2.1,s.2.2.2.2.2.2.2.2.2.1,s.2.2.2.2.2.2.2.2.2.2.1,s.2.2.2.2.2.2.2.2.2.2.2.1,(s.2.2.2.2.2.2.2.2.2.2.2.2.1,s.2.2.2.2.2.2.2.2.2.2.2.2.2.1,s.2.2.2.2.2.2.2.2.2.2.2.2.2.2.1,s.2.2.2.2.2.2.2.2.2.2.2.2.2.2.2.1,s.2.2.2.2.2.2.2.2.2.2.2.2.2.2.2.2.1,s.2.2.2.2.2.2.2.2.2.2.2.2.2.2.2.2.2.1,s.2.2.2.2.2.2.2.2.2.2.2.2.2.2.2.2.2.2.1,s.2.2.2.2.2.2.2.2.2.2.2.2.2.2.2.2.2.2.2.1,s.2.2.2.2.2.2.2.2.2.2.2.2.2.2.2.2.2.2.2.2.1))
def scPk(s:Sc):List Int:=s.2.2.2.2.2.2.2.2.2.2.2.2.2.2.2.2.2.2.2.2.2
theorem yrb(b:By)(h:zan b):0≤zcb b∧zcb b≤2:=by
 have:=zdg h 4
 unfold zcb
 split<;>omega
theorem yqe{b:By}(h:zan b):HaV (scHa (yjr b))∧(∀p ∈ scPk (yjr b),0≤p∧p≤255)∧(scPk (yjr b)).length≤20000:=by
 obtain⟨d1,d2,d3⟩:=yd6 h
 obtain⟨m0,m2⟩:=yrb b h
 have hmI:I64 (zcb b):=by unfold I64;omega
 have hr:∀r ∈ zen b 8,U64 r:=by
  intro r hr
  obtain⟨j,hj,rfl⟩:=List.mem_map.1 hr
  split
  · exact zf1 h _ (by decide)
  · exact zie
 have hs:U64 (zdt b):=by
  unfold zdt
  split
  · exact zf1 h _ (by decide)
  · exact zie
 have ht:U64 (zdw b):=by
  obtain⟨a,c⟩:=zf1 h 15 (k:=8) (by decide)
  unfold zdw U64
  omega
 refine⟨⟨⟨d3,(by show (zen b 8).length≤2097152;rw[zfl];decide),hr,zf1 h 7 (by decide),hmI,hs,ht,zie,hmI,zye,zie,zpc _,zpc _,zpc _⟩,zfl b 8,zc1.2 ⟨zii _ _,zii _ _,zii _ _⟩,⟨m0,m2⟩,⟨m0,m2⟩⟩,fun p hp => ?_, ?_⟩
 · have:=zks h _ _ p hp
   omega
 · show (zbs b (zrp b).1 (dN b).toNat).length≤20000
   rw[zcn]
   unfold dN
   omega
theorem ynu:DictOk Tryz.prog FEM:=za1 (.cons (by kernel_rfl) yg2 <| .cons (by kernel_rfl) yfr .nil) .nil .nil
theorem ygo:zb7 Tryz.prog (Rels.of rEM1):=Rels.ok (fun p hp=>by
 simp only[rEM1,ylt,List.cons_append,List.nil_append,List.mem_cons,List.not_mem_nil,or_false] at hp
 rcases hp with rfl|rfl
 · exact⟨by kernel_rfl,ybb⟩
 · exact⟨by kernel_rfl,zf0⟩)
theorem zwn{m:By}{r:Rn}{ps:List Int}{n i ci ch:Int}(hv:HaV r.h)(hp:∀p ∈ ps,0≤p∧p≤255)(hl:ps.length≤20000)(h0:0≤i)(h1:i≤43)(h2:n≤43)(hc:zbe m ci):zov m r ps n i ci ch:=by
 have hw:IntKind.i64.wrap (i+1)=i+1:=zaa (by omega) (by omega)
 refine zah (zqp m r ps n i ci ch) ?_
 conv=>zeta
 refine⟨fun hn=>⟨fun hlt => ?_,fun _ => ?_⟩,fun _ => ?_⟩
 · have hlt:i<ps.length:=of_decide_eq_true hlt
   have hn:i<n:=of_decide_eq_true hn
   have hm:ps.getD (0+i.toNat) (El.zero [Ty.i .i64]) ∈ ps:=by
    rw[List.getD_eq_getElem?_getD,List.getElem?_eq_getElem (by omega)]
    exact List.getElem_mem _
   obtain⟨p0,p1⟩:=hp _ hm
   refine⟨⟨h0,hlt⟩,by omega, ?_,⟨(zqa (Rn.ofH r.h) false (ps.getD (0+i.toNat) (El.zero [Ty.i .i64])),ps,n,i+1,ci,ch), ?_,fun _ _ h=>h,⟨hv.next p0 p1 false,hp,hl,⟨by show 0≤i+1;omega,by show i+1≤43;omega,h2⟩,hc⟩,by show (43-(i+1)).toNat<(43-i).toNat;omega,fun _ h=>h⟩⟩
   · have hst:=hv.step p0 p1
     repeat' first|exact hst|exact rfl|apply And.intro
   · rw[hw]
     repeat' apply And.intro
     all_goals rfl
 · refine⟨(r,ci,ch), ?_,fun _ _ h=>h,hv,hc⟩
   repeat' apply And.intro
   all_goals rfl
 · refine⟨(r,ci,ch), ?_,fun _ _ h=>h,hv,hc⟩
   repeat' apply And.intro
   all_goals rfl
theorem bnd_4{x:Int}(h:0≤x)(g:x<40):IntKind.i64.wrap (4+x)≤43:=by rw[zaa (by omega) (by omega)];omega
theorem ygp:zcm Tryz.prog 110 reach1:=by
 refine zgf Tryz.func110 (by kernel_rfl) ynu ygo (fun m i hh (x:Unit) hc _=>⟨reX m, ?_, ?_⟩)
 · rw[show zak (zat Tryz.f110)=[zai Tryz.f110 0] by kernel_rfl]
   intro b hb
   rcases List.mem_singleton.1 hb with rfl
   refine zg7 (k:=5) (by kernel_rfl) rfl (L:=reL m) (zdd mixed ynu ygo (fun x:Rn × List Int × Int × Int × Int × Int=>(43-x.2.2.2.1).toNat) (fun x hx=>⟨reX m,(by
    rw[show zak (zai Tryz.f110 0)=[] by kernel_rfl]
    exact fun b hb=>by cases hb), ?_⟩))
   obtain⟨r,ps,n,i,ci,ch⟩:=x
   obtain⟨a,b,c,⟨d,e,f⟩,g⟩:=hx
   exact zwn a b c d e f g
 · refine zah (zxp m i hh) ?_
   conv=>zeta
   refine⟨⟨rfl,hc,trivial⟩,fun z ⟨z1,z2,z3,z4⟩ => ?_⟩
   have hb:zan z.fst:=⟨Nat.le_trans z4 (by decide),z2⟩
   obtain⟨q1,q2,q3⟩:=yqe hb
   refine⟨⟨rfl,hb⟩,⟨rfl,z1,by decide,by decide⟩,fun y ⟨y1,y2,y3⟩=>⟨(Rn.ofH (scHa (yjr z.fst)),scPk (yjr z.fst),IntKind.i64.wrap (4+y.fst),0,y.snd.fst,y.snd.snd), ?_,fun _ _ h=>h,⟨q1,q2,q3,⟨Int.le_refl 0,(by decide:(0:Int)≤43), ?_⟩,y1⟩,fun z hz=>⟨(z.fst.h,z.snd.fst,z.snd.snd), ?_,hz.2,hz.1⟩⟩⟩
   · repeat' apply And.intro
     all_goals rfl
   · exact bnd_4 y2 y3
   · repeat' apply And.intro
     all_goals rfl
end Go.Proofs.YtfiddfbagbaofaaGreat.V
