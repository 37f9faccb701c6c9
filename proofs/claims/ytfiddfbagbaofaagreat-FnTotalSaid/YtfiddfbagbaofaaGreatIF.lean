/- The program's step: the two translators, StepHart. Conditions: those in each statement. -/
import Derived.Test.YtfiddfbagbaofaaGreatIE
import Derived.Test.YtfiddfbagbaofaaGreatEH
import Derived.Test.YtfiddfbagbaofaaGreatEL
import Derived.KernelRfl
namespace Go.Proofs.YtfiddfbagbaofaaGreat.V
open Go
set_option linter.unusedVariables false
-- flat
def caT(pick:Int):Tm where
 X:=zxg [0,6] (.ifc 287 (tcA pick))
 R1:=fun _ _ _=>True
 R2:=fun _ _ _=>True
 tr m c kind va k g1 g2:=((trM m c k kind va pick).1,(trM m c k kind va pick).2.1,(trM m c k kind va pick).2.2.1,((trM m c k kind va pick).2.2.2,g1,g2))
 fe f k g1 g2:=(ymz f k,g1,g2)
 inv _ k _ _:=zci k=true∧ChR k∧0≤pick∧pick≤255
def plT:Tm where
 X:=zxg [0,6] (.ifc 125 yl5)
 R1:=fun _ _ _=>True
 R2:=fun _ _ _=>True
 tr m c kind va k g1 g2:=(if (zaw m c kind va).1=0 then 0 else 3,(if (zaw m c kind va).1=0 then (zaw m c kind va).2 else 0),(zaw m c kind va).1,(k,g1,g2))
 fe _ k g1 g2:=(k,g1,g2)
 inv _ _ _ _:=True
def stcS:Sum:=fun args H=>match args with
 | [.ptr 0 0,.ifc 287 (.agg [.ptr 0 0,.v (.int .i64 pick)])]=>match get6 0 H with
  | some (n,r)=>some (some (n=r.ln∧zil (caT pick) r r.c),.agg [.v (.int .i64 (zeu (caT pick) r).1),.v (.int .u64 (zeu (caT pick) r).2.1)],h6 (zeu (caT pick) r).2.2 0)
  | none=>none
 | [.ptr 0 0,.ifc 125 (.agg [.ptr 0 0,.fn 223 [],.fn 224 []])]=>match get6 0 H with
  | some (n,r)=>some (some (n=r.ln∧zil plT r r.c),.agg [.v (.int .i64 (zeu plT r).1),.v (.int .u64 (zeu plT r).2.1)],h6 (zeu plT r).2.2 0)
  | none=>none
 | _=>none
def mkN(k:Nat):Bool:=match k with|0=>false|_=>true
set_option linter.unusedVariables false
set_option maxRecDepth 10000
set_option linter.unusedSimpArgs false
set_option linter.unusedVariables false
theorem yad{P:Program}{g:FuncId}{name:String}(hn:∀s,zif s=g→s=name){T:TypeId}{F:FuncId}{a:Av}(hm:zgr P T name=some F)(hc:callable P F=true)
 (hs:spotty (.ifc T a)=true) (hi:(zcr (.ifc T a)).all [0,6].contains=true) (hr:ren (fun i=>[0,6].getD ([0,6].idxOf i) 0) (.ifc T a) = .ifc T a) {U:Sum}
 (step:∀(args:List Av)(H:Heap)(p:Option Prop)(v:Av)(H':Heap),U args H=some (p,v,H')→Hold p→∃rest S q,args = .opq [0,6] (zxg [0,6] (.ifc T a))::rest∧Sound P F S∧zql S (a::rest) H=some (q,v,H')∧Hold q):zky (zgy P g) .returned U:=by
 intro args H p v H' h hp ρ vs w hw
 obtain⟨rest,S,q,rfl,hS,hc1,hq⟩:=step args H p v H' h hp
 have out:∀{ρ':Env}{y:Value},Rv ρ' (.opq [0,6] (zxg [0,6] (.ifc T a))) y→∃u,y = .iface T u∧Rv ρ' a u:=fun  {ρ' y} h0=>by
  have h1:=ym5 (ids:=[0,6]) hs hi (js:=[0,6]) rfl h0
  rw[hr] at h1
  simpa only[Rv] using h1
 have h0:=(hw ρ (Agree.refl _ _)).1
 cases vs with
 | nil=>exact h0.elim
 | cons y us =>
  obtain⟨u,rfl,hu⟩:=out h0.1
  refine⟨T,u,us,rfl,fun s hsn => ?_⟩
  cases hn s hsn
  refine⟨F,hm,hc,zqm hS _ _ q v H' hc1 hq ρ (u::us) w (fun ρ' ha => ?_)⟩
  obtain⟨q1,q2⟩:=hw ρ' ha
  obtain⟨u',e,hu'⟩:=out q1.1
  cases e
  exact⟨⟨hu',q1.2⟩,q2⟩
theorem yq3:∀s,zif s=zcs→s = "loop.example/s0051/impl.translate" := fun s h=>by
 unfold zif at h
 split at h
 · rename_i e;exact by simpa using e
 · split at h
   · exact absurd h (by decide)
   · exact absurd h (by decide)
theorem yq2:∀s,zif s=zcs+1→s = "loop.example/s0051/impl.fence" := fun s h=>by
 unfold zif at h
 split at h
 · exact absurd h (by decide)
 · split at h
   · rename_i e;exact by simpa using e
   · exact absurd h (by decide)
theorem yjq{pick:Int}{n:Nat}{m:By}{c:Ct}{kind va:Int}{k:Cch}{g1 g2:LL}(h:OkT (caT pick) n m c kind va k g1 g2):yeu m c k kind va pick:=by
 obtain⟨h1,h2,h3,h4,h5,h6,h7,h8,h9,h10,h11⟩:=h
 exact⟨h1,h2,h7,h8,h9,h10,h11,h5,h6⟩
theorem zw9{f:Fc}{k:Cch}(g:zci k=true):ymz f k=yf8 k f:=by
 obtain⟨v1,v2,v3⟩:=zdo.1 g
 unfold ymz yf8 zdg
 rw[zb0 v1,zb0 v2,zb0 v3]
 cases h:zje f
 · simp
 · simp[flI,flT]
theorem yyp{f:Fc}{k:Cch}(g:zci k=true)(h:ChR k)(hf:U64 f.2.1):FlC k f:=by
 obtain⟨v1,v2,v3⟩:=zdo.1 g
 obtain⟨⟨s1,w1,m1⟩,⟨s2,w2,m2⟩,⟨s3,w3,m3⟩⟩:=k
 exact⟨ym1 h.1 hf (zb0 v1),ym1 h.2.1 hf (zb0 v2),ym1 h.2.2 hf (zb0 v3)⟩
theorem yqh(pick:Int):(caT pick).Ok Tryz.prog where
 tr k:=by
  refine yad (name := "loop.example/s0051/impl.translate") (T:=287) (a:=tcA pick) (F:=269) yq3 (by kernel_rfl) (by kernel_rfl) (by rfl) (by rfl) (by rfl) (fun args H p v H' h hp => ?_)
  unfold trMS at h
  split at h
  case h_2=>cases h
  rename_i X c0 c1 c2 c3 kind va
  split at h
  case h_2=>cases h
  rename_i n r R1 R2 hg
  simp only[Option.some.injEq,Prod.mk.injEq] at h
  obtain⟨rfl,rfl,rfl⟩:=h
  obtain⟨⟨rfl,rfl,rfl⟩,rfl,⟨j,hj⟩,hk⟩:=hp
  obtain rfl:=zki hg rfl rfl rfl
  have ht:=yjq hj
  have hcd:=zlx r.m (c0,c1,c2,c3) r.k kind va pick
  match k,hk with
  | 0,hk=>exact⟨_,_,some (r.ln=r.ln∧yeu r.m (c0,c1,c2,c3) r.k kind va pick∧ybt 0 (trM r.m (c0,c1,c2,c3) r.k kind va pick)),rfl,yvr 0,(by kernel_rfl),⟨rfl,ht,hk⟩⟩
  | 1,hk=>exact⟨_,_,some (r.ln=r.ln∧yeu r.m (c0,c1,c2,c3) r.k kind va pick∧ybt 1 (trM r.m (c0,c1,c2,c3) r.k kind va pick)),rfl,yvr 1,(by kernel_rfl),⟨rfl,ht,hk⟩⟩
  | 2,hk=>exact⟨_,_,some (r.ln=r.ln∧yeu r.m (c0,c1,c2,c3) r.k kind va pick∧ybt 2 (trM r.m (c0,c1,c2,c3) r.k kind va pick)),rfl,yvr 2,(by kernel_rfl),⟨rfl,ht,hk⟩⟩
  | n+3,hk =>
   have hk:3≤(trM r.m (c0,c1,c2,c3) r.k kind va pick).1:=hk
   omega
 fe:=by
  refine yad (name := "loop.example/s0051/impl.fence") (T:=287) (a:=tcA pick) (F:=268) yq2 (by kernel_rfl) (by kernel_rfl) (by rfl) (by rfl) (by rfl) (fun args H p v H' h hp => ?_)
  unfold yym at h
  split at h
  case h_2=>cases h
  rename_i X f0 f1 f2 f3
  split at h
  case h_2=>cases h
  rename_i n r R1 R2 hg
  simp only[Option.some.injEq,Prod.mk.injEq] at h
  obtain⟨rfl,rfl,rfl⟩:=h
  obtain⟨⟨rfl,rfl,rfl⟩,rfl,h1,h3,⟨j,hj⟩⟩:=hp
  obtain rfl:=zki hg rfl rfl rfl
  exact⟨_,_,some (r.ln=r.ln∧U64 f1∧FlC r.k (f0,f1,f2,f3)),rfl,yad1,(by kernel_rfl),⟨rfl,h1,yyp (f:=(f0,f1,f2,f3)) hj.1 hj.2.1 h1⟩⟩
 trI {n m c kind va k g1 g2} h:=by
  have ht:=yjq h
  obtain⟨a1,a2, -⟩:=zlw (c:=c) (kind:=kind) ht.1 ht.2.1 ht.2.2.1 ht.2.2.2.2.1 ht.2.2.2.1 ht.2.2.2.2.2.1
  exact⟨a1,a2,ht.2.2.2.2.2.1,ht.2.2.2.2.2.2.1⟩
 trV {n m c kind va k g1 g2} h:=by
  have ht:=yjq h
  refine⟨(zlw (c:=c) (kind:=kind) ht.1 ht.2.1 ht.2.2.1 ht.2.2.2.2.1 ht.2.2.2.1 ht.2.2.2.2.2.1).2.2,fun  (q:3≤(trM m c k kind va pick).1) => ?_⟩
  have hcd:=zlx m c k kind va pick
  omega
 feI {n f k g1 g2} hf h:=by
  obtain⟨v1,v2,v3⟩:=zdo.1 h.1
  refine⟨?_, ?_,h.2.2⟩
  · show zci (ymz f k)=true
    rw[zw9 h.1]
    exact zdo.2 ⟨zd6 v1 f,zd6 v2 f,zd6 v3 f⟩
  · show ChR (ymz f k)
    rw[zw9 h.1]
    exact⟨zh0 h.2.1.1 f,zh0 h.2.1.2.1 f,zh0 h.2.1.2.2 f⟩
 le h _:=h
theorem yrg:plT.Ok Tryz.prog where
 tr k:=by
  refine yad (name := "loop.example/s0051/impl.translate") (T:=125) (a:=yl5) (F:=262) yq3 (by kernel_rfl) (by kernel_rfl) (by rfl) (by rfl) (by rfl) (fun args H p v H' h hp => ?_)
  unfold trMS at h
  split at h
  case h_2=>cases h
  rename_i X c0 c1 c2 c3 kind va
  split at h
  case h_2=>cases h
  rename_i n r R1 R2 hg
  simp only[Option.some.injEq,Prod.mk.injEq] at h
  obtain⟨rfl,rfl,rfl⟩:=h
  obtain⟨⟨rfl,rfl,rfl⟩,rfl,⟨j,hj⟩,hk⟩:=hp
  obtain rfl:=zki hg rfl rfl rfl
  have ht:zaj r.m∧U64 c3∧U64 va:=⟨hj.1,hj.2.1,hj.2.2.2.2.2.2.1⟩
  have e:plT.tr r.m (c0,c1,c2,c3) kind va r.k r.g1 r.g2=(if (zaw r.m (c0,c1,c2,c3) kind va).1=0 then 0 else 3,(if (zaw r.m (c0,c1,c2,c3) kind va).1=0 then (zaw r.m (c0,c1,c2,c3) kind va).2 else 0),(zaw r.m (c0,c1,c2,c3) kind va).1,(r.k,r.g1,r.g2)):=rfl
  rw[e] at hk ⊢
  by_cases q:(zaw r.m (c0,c1,c2,c3) kind va).1=0
  · rw[if_pos q] at hk ⊢
    match k,hk with
    | 0,hk=>exact⟨_,_,some (r.ln=r.ln∧(zaj r.m∧U64 c3∧U64 va)∧(zaw r.m (c0,c1,c2,c3) kind va).1=0),rfl,ya01 false,(by rw[if_pos q];kernel_rfl),⟨rfl,ht,q⟩⟩
    | 1,hk=>exact absurd hk (show ¬ (0:Nat)=1 by decide)
    | 2,hk=>exact absurd hk (show ¬ (0:Nat)=2 by decide)
    | n+3,hk=>exact absurd hk (show ¬ 3≤(0:Nat) by decide)
  · rw[if_neg q] at hk ⊢
    match k,hk with
    | 0,hk=>exact absurd hk (show ¬ (3:Nat)=0 by decide)
    | 1,hk=>exact absurd hk (show ¬ (3:Nat)=1 by decide)
    | 2,hk=>exact absurd hk (show ¬ (3:Nat)=2 by decide)
    | n+3,hk=>exact⟨_,_,some (r.ln=r.ln∧(zaj r.m∧U64 c3∧U64 va)∧¬ (zaw r.m (c0,c1,c2,c3) kind va).1=0),rfl,ya01 true,(by rw[if_neg q];kernel_rfl),⟨rfl,ht,q⟩⟩
 fe:=by
  refine yad (name := "loop.example/s0051/impl.fence") (T:=125) (a:=yl5) (F:=261) yq2 (by kernel_rfl) (by kernel_rfl) (by rfl) (by rfl) (by rfl) (fun args H p v H' h hp => ?_)
  unfold yym at h
  split at h
  case h_2=>cases h
  rename_i X f0 f1 f2 f3
  split at h
  case h_2=>cases h
  rename_i n r R1 R2 hg
  simp only[Option.some.injEq,Prod.mk.injEq] at h
  obtain⟨rfl,rfl,rfl⟩:=h
  obtain⟨⟨rfl,rfl,rfl⟩,rfl,h1,h3, -⟩:=hp
  obtain rfl:=zki hg rfl rfl rfl
  exact⟨_,_,some (r.ln=r.ln),rfl,yaz1,(by kernel_rfl),rfl⟩
 trI _:=trivial
 trV {n m c kind va k g1 g2} h:=by
  show U64 (if (zaw m c kind va).1=0 then (zaw m c kind va).2 else 0)∧(3≤(if (zaw m c kind va).1=0 then 0 else 3)→(zaw m c kind va).1≠0)
  split
  · exact⟨zt5 h.1 h.2.1 h.2.2.2.2.2.2.1,fun q=>absurd q (by decide)⟩
  · rename_i q;exact⟨zj5,fun _=>q⟩
 feI _ _:=trivial
 le _ _:=trivial
theorem yru{M:Tm}(hM:M.Ok Tryz.prog){T:TypeId}{a:Av}(hX:M.X=zxg [0,6] (.ifc T a))(h1:M.R1=fun _ _ _=>True)(h2:M.R2=fun _ _ _=>True){r:Hn}(e1:r.g1=[])(e2:r.g2=[])(hp:zil M r r.c) :
 zcp Tryz.prog .returned 72 (fun args H=>match args with
  | [.ptr 0 0,.ifc t b]=>some (some (t=T∧b=a∧H=h6 r 0),.agg [.v (.int .i64 (zeu M r).1),.v (.int .u64 (zeu M r).2.1)],h6 (zeu M r).2.2 0)
  | _=>none):=by
 intro args H p v H' h hp2 ρ vs w hw
 dsimp only at h
 split at h
 case h_2=>cases h
 rename_i t b
 simp only[Option.some.injEq,Prod.mk.injEq] at h
 obtain⟨rfl,rfl,rfl⟩:=h
 obtain⟨rfl,rfl,rfl⟩:=hp2
 have hs:padS (spS M) [.ptr 0 0,.opq [0,6] M.X] (h6 r 0)=some (some (M.is M.X (fun _ _ _=>True) (fun _ _ _=>True)∧({ r with g1:=[],g2:=[] }:Hn).ln=({ r with g1:=[],g2:=[] }:Hn).ln∧zil M { r with g1:=[],g2:=[] } ({ r with g1:=[],g2:=[] }:Hn).c),.agg [.v (.int .i64 (zeu M { r with g1:=[],g2:=[] }).1),.v (.int .u64 (zeu M { r with g1:=[],g2:=[] }).2.1)],h6 (zeu M { r with g1:=[],g2:=[] }).2.2 0):=by kernel_rfl
 have er:({ r with g1:=[],g2:=[] }:Hn)=r:=by
  have e1:=e1.symm;have e2:=e2.symm
  cases r;cases e1;cases e2;rfl
 rw[er] at hs
 refine yur (sp_ok hM) _ _ _ _ _ hs ⟨⟨rfl,h1.symm,h2.symm⟩,rfl,hp⟩ ρ vs w (fun ρ' ha => ?_)
 obtain⟨q1,q2⟩:=hw ρ' ha
 refine⟨?_,q2⟩
 match vs,q1 with
 | [y,x],⟨y1,x1,_⟩=>exact⟨y1,by rw[hX];exact ytv x1,trivial⟩
theorem yz9:Sound Tryz.prog 72 stcS:=by
 intro args H p v H' h hp ρ vs w hw
 unfold stcS at h
 split at h
 case h_3=>cases h
 · rename_i pick
   split at h
   case h_2=>cases h
   rename_i n r hg
   simp only[Option.some.injEq,Prod.mk.injEq] at h
   obtain⟨rfl,rfl,rfl⟩:=h
   obtain⟨rfl,e1,e2⟩:=zfa hg hp.1
   exact yru (yqh pick) (T:=287) (a:=tcA pick) rfl rfl rfl e1 e2 hp.2 _ _ _ _ _ rfl (by exact⟨rfl,rfl,rfl⟩) ρ vs w hw
 · split at h
   case h_2=>cases h
   rename_i n r hg
   simp only[Option.some.injEq,Prod.mk.injEq] at h
   obtain⟨rfl,rfl,rfl⟩:=h
   obtain⟨rfl,e1,e2⟩:=zfa hg hp.1
   exact yru yrg (T:=125) (a:=yl5) rfl rfl rfl e1 e2 hp.2 _ _ _ _ _ rfl (by exact⟨rfl,rfl,rfl⟩) ρ vs w hw
end Go.Proofs.YtfiddfbagbaofaaGreat.V
