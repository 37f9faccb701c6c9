/- The program's step: the two translators, StepHart. Conditions: those in each statement. -/
import Derived.Test.YtfiddfbagbaofaaGreatIE
import Derived.Test.YtfiddfbagbaofaaGreatEH
import Derived.Test.YtfiddfbagbaofaaGreatEL
import Derived.KernelRfl
namespace Go.Proofs.YtfiddfbagbaofaaGreat.V
open Go
set_option linter.unusedVariables false
-- flat
def caT(pick:Int):Tm where
 X:=zw2 [0,6] (.ifc 287 (tcA pick))
 R1:=fun _ _ _=>True
 R2:=fun _ _ _=>True
 tr m c kind va k g1 g2:=((trM m c k kind va pick).1,(trM m c k kind va pick).2.1,(trM m c k kind va pick).2.2.1,((trM m c k kind va pick).2.2.2,g1,g2))
 fe f k g1 g2:=(ym9 f k,g1,g2)
 inv _ k _ _:=zbr k=true∧ChR k∧0≤pick∧pick≤255
def plT:Tm where
 X:=zw2 [0,6] (.ifc 125 ymf)
 R1:=fun _ _ _=>True
 R2:=fun _ _ _=>True
 tr m c kind va k g1 g2:=(if (zav m c kind va).1=0 then 0 else 3,(if (zav m c kind va).1=0 then (zav m c kind va).2 else 0),(zav m c kind va).1,(k,g1,g2))
 fe _ k g1 g2:=(k,g1,g2)
 inv _ _ _ _:=True
def stcS:Sum:=fun args H=>match args with
 | [.ptr 0 0,.ifc 287 (.agg [.ptr 0 0,.v (.int .i64 pick)])]=>match get6 0 H with
  | some (n,r)=>some (some (n=r.ln∧zh4 (caT pick) r r.c),.agg [.v (.int .i64 (zd9 (caT pick) r).1),.v (.int .u64 (zd9 (caT pick) r).2.1)],h6 (zd9 (caT pick) r).2.2 0)
  | none=>none
 | [.ptr 0 0,.ifc 125 (.agg [.ptr 0 0,.fn 223 [],.fn 224 []])]=>match get6 0 H with
  | some (n,r)=>some (some (n=r.ln∧zh4 plT r r.c),.agg [.v (.int .i64 (zd9 plT r).1),.v (.int .u64 (zd9 plT r).2.1)],h6 (zd9 plT r).2.2 0)
  | none=>none
 | _=>none
def yc4(u:Us):Prop:=zag Tryz.prog (mkD [] [] []) .none Tryz.f202 [usP] [usP] u u
def kIF0:Known:=[
 (201,zad [byP] [byP] (fun m=>some (SzR m.length)) (fun m=>m)),
 (202,zad [usP] [usP] (fun u=>some (SzR u.length)) (fun u=>u)),
 (131,zad [chP] [chP] (fun x=>some (SzC (toC x))) (fun x=>x))]
def FIF0:Dict:=mkD kIF0 [] []
def yka(m:By)(u:Us)(pc:Int)(mo:Int)(su:Bool)(mx:Bool)(sa:Int)(tv:Int)(ep:Int)(em:Int)(ca:Int)(tl:Int)(s1:Int)(w1:Int)(m1:Es)(s2:Int)(w2:Int)(m2:Es)(s3:Int)(w3:Int)(m3:Es):Prop:=zag Tryz.prog FIF0 .none Tryz.f149 [haP] [haP] (m,u,pc,mo,su,mx,sa,tv,ep,em,ca,tl,s1,w1,m1,s2,w2,m2,s3,w3,m3) (m,u,pc,mo,su,mx,sa,tv,ep,em,ca,tl,s1,w1,m1,s2,w2,m2,s3,w3,m3)
abbrev srC:List Cs := .b :: .i .i64 :: .i .u64::haC
abbrev srP:Pm := .st srC
abbrev Sr:=Bool × Int × Int × Ha
def kIF1:Known:=[
 (62,zad [haP] [bl] (fun h=>some (HaR h)) zea),
 (146,zad [haP] [bl] (fun h=>some (HaR h)) zea),
 (149,zad [haP] [haP] (fun h=>some (SzH h)) (fun h=>h)),
 (72,znt 21 stcS),
 (65,zad [haP,bl,i64] [ruP] (fun t=>some (zr5 (Rn.ofH t.1) t.2.2)) (fun t=>(zck (Rn.ofH t.1) t.2.1 t.2.2).t))]
def mkN(k:Nat):Bool:=match k with|0=>false|_=>true
def yto:Dict:=mkD kIF1 [(76,(2,fun k=>znt 21 (mkS (mkN k))))] []
def zSr:Sr:=(false,0,0,[],[],0,0,false,false,0,0,0,0,0,0,0,0,[],0,0,[],0,0,[])
def yn7(h:Ha)(pk:Int):Bool:=zea h&&decide (0≤pk)&&decide (pk≤255)
def zaa(h:Ha)(pl:Bool)(pk:Int):Sr:=if yn7 h pk=true then (true,(zck (Rn.ofH h) pl pk).cs,(zck (Rn.ofH h) pl pk).tw,(zck (Rn.ofH h) pl pk).h) else zSr
def ykg(m:By)(u:Us)(pc:Int)(mo:Int)(su:Bool)(mx:Bool)(sa:Int)(tv:Int)(ep:Int)(em:Int)(ca:Int)(tl:Int)(s1:Int)(w1:Int)(m1:Es)(s2:Int)(w2:Int)(m2:Es)(s3:Int)(w3:Int)(m3:Es)(pl:Bool)(pk:Int)(ok:Bool)(cs tw:Int)(z:Rn):Prop:=zag Tryz.prog yto .none Tryz.f51 [haP,bl,i64] [srP] ((m,u,pc,mo,su,mx,sa,tv,ep,em,ca,tl,s1,w1,m1,s2,w2,m2,s3,w3,m3),pl,pk) (ok,cs,tw,z.h)
def yk8(m:By)(u:Us)(pc:Int)(mo:Int)(su:Bool)(mx:Bool)(sa:Int)(tv:Int)(ep:Int)(em:Int)(ca:Int)(tl:Int)(s1:Int)(w1:Int)(m1:Es)(s2:Int)(w2:Int)(m2:Es)(s3:Int)(w3:Int)(m3:Es)(pl:Bool)(pk:Int)(ok:Bool)(cs tw:Int)(z:Rn):Prop:=zag Tryz.prog yto .none Tryz.f49 [haP,bl,i64] [srP] ((m,u,pc,mo,su,mx,sa,tv,ep,em,ca,tl,s1,w1,m1,s2,w2,m2,s3,w3,m3),pl,pk) (ok,cs,tw,z.h)
set_option linter.unusedVariables false
set_option maxRecDepth 10000
theorem zrc(u:Us):yc4 u=(
 (List.length u=(0:Nat)→(0:Nat)=(0:Nat)∧List.length u=(0:Nat)∧u=u∧u=[])∧((0:Nat)+List.length u≤List.length u∧(0:Nat)≤(0:Nat)∧(0:Nat)+(List.take (List.length u) (List.drop (0:Nat) u)).length ≤
 (1073741824:Nat))∧(0:Nat)=(0:Nat)∧List.length u=(0:Nat)+(List.take (List.length u) (List.drop (0:Nat) u)).length∧u=u∧u=[]++List.take (List.length u) (List.drop (0:Nat) u)):=by kernel_rfl
theorem zue(m:By)(u:Us)(pc:Int)(mo:Int)(su:Bool)(mx:Bool)(sa:Int)(tv:Int)(ep:Int)(em:Int)(ca:Int)(tl:Int)(s1:Int)(w1:Int)(m1:Es)(s2:Int)(w2:Int)(m2:Es)(s3:Int)(w3:Int)(m3:Es):yka m u pc mo su mx sa tv ep em ca tl s1 w1 m1 s2 w2 m2 s3 w3 m3=(
 (List.length m=List.length m∧SzR (List.length m))∧(List.length u=List.length u∧SzR (List.length u))∧(List.length m1=List.length m1∧List.length m2=List.length m2∧List.length m3=List.length m3∧SzR (List.length m1) ∧
 SzR (List.length m2)∧SzR (List.length m3))∧(0:Nat)=(0:Nat)∧List.length m=List.length m∧(0:Nat)=(0:Nat)∧List.length u=List.length u∧pc=pc∧mo=mo∧su=su∧mx=mx∧sa=sa∧tv=tv∧ep=ep∧em=em ∧
 ca=ca∧tl=tl∧s1=s1∧w1=w1∧(0:Nat)=(0:Nat)∧List.length m1=List.length m1∧s2=s2∧w2=w2∧(0:Nat)=(0:Nat)∧List.length m2=List.length m2∧s3=s3∧w3=w3∧(0:Nat)=(0:Nat)∧List.length m3 =
 List.length m3∧m=m∧u=u∧m1=m1∧m2=m2∧m3=m3∧m=m∧u=u∧m1=m1∧m2=m2∧m3=m3):=by kernel_rfl
theorem zks(m:By)(u:Us)(pc:Int)(mo:Int)(su:Bool)(mx:Bool)(sa:Int)(tv:Int)(ep:Int)(em:Int)(ca:Int)(tl:Int)(s1:Int)(w1:Int)(m1:Es)(s2:Int)(w2:Int)(m2:Es)(s3:Int)(w3:Int)(m3:Es)(pl:Bool)(pk:Int)(ok:Bool)(cs tw:Int)(z:Rn):ykg m u pc mo su mx sa tv ep em ca tl s1 w1 m1 s2 w2 m2 s3 w3 m3 pl pk ok cs tw z=(
 let A0(a b:Int)(c:Es):=(a,b,c);
 let A1:=(A0 s2 w2 m2,A0 s3 w3 m3);
 let A2(a:Es)(b:Nat):=List.length a=b;
 let A3:=List.length u;
 let A4:=List.length m;
 let A5(a b c:Prop):=a∧b∧c;
 let A6(a:Nat):=a=(0:Nat);
 let A7(a:Int):=a=(0:Int);
 let A8(a b c d e:Prop):=A5 a b (A5 c d e);
 let A9:=A6 (0:Nat);
 let Aa(a:Tl):=List.length a.snd.snd;
 let Ab(a:Hn):=a.13.snd.snd;
 let Ac(a:Hn):=a.13.fst;
 let Ad(a:Hn):=a.13.snd.fst;
 let Ae(a:Es)(b:Tl):=A2 a (Aa b);
 let Af(a b c:Nat):=(A4,A3,a,b,c);
 let Ah:=Af (List.length m1) (List.length m2) (List.length m3);
 let Ai:=Hn.mk m u pc mo su mx sa tv ep em ca tl (A0 s1 w1 m1,A1) [] [];
 let Aj(a:Bool)(b:Nat × Nat × Nat × Nat × Nat)(c:Tm)(d e:Hn):=A5 (Ah=Ah) (pl=a) (CaR Ai pk)→(b=b∧zh4 c d (mo,su,mx,sa))∧A5 (ok=true) (cs=(zd9 c d).fst) (A8 (tw=(zd9 c d).snd.fst) A9 (List.length z.1 =
  List.length e.1) A9 (A8 (List.length z.2=List.length e.2) (z.3=e.3) (z.4=e.4) (z.5=e.5) (A8 (z.6=e.6) (z.7=e.7) (z.8=e.8) (z.9=e.9) (A8 (z.10=e.10) (z.11=e.11) (z.12=e.12) (z.13=(Ac e).fst) (A8 (z.14=(Ac
  e).snd.fst) A9 (Ae z.15 (Ac e)) (z.16=(Ad e).fst) (A8 (z.17=(Ad e).snd.fst) A9 (Ae z.18 (Ad e)) (z.19=(Ab e).fst) (A8 (z.20=(Ab e).snd.fst) A9 (Ae z.21 (Ab e)) (m=m) (A8 (u=u) (m1=m1) (m2=m2) (m3=m3) (A8 (z.1=e.1) (z.2 =
  e.2) (z.15=(Ac e).snd.snd) (z.18=(Ad e).snd.snd) (z.21=(Ab e).snd.snd))))))))));
 let Ak(a:Es):=A2 a (0:Nat);
 let Al:=evK (A0 s1 w1 m1,A1) pk;
 let Am(a:Bool):=a=false;
 let An(a:Prop):=A4=A4∧A8 (A3=A3) (A2 m1 (List.length m1)) (A2 m2 (List.length m2)) (A2 m3 (List.length m3)) a;
 let Ao(a:Bool):=A5 (Ah=Ah) (pl=a) (CaR Ai pk);
 let Ap:=(m,u,pc,mo,su,mx,sa,tv,ep,em,ca,tl,s1,w1,m1,s2,w2,m2,s3,w3,m3);
 let Aq:=bif bif !zea (m,u,pc,mo,su,mx,sa,tv,ep,em,ca,tl,s1,w1,m1,s2,w2,m2,s3,w3,m3) then true else decide (pk<(0:Int)) then true else decide (pk>(255:Int));
 A5 (An (HaR Ap)) (Aq=true→A5 (Am ok) (A7 cs) (A8 (A7 tw) A9 (A6 (List.length z.1)) A9 (A8 (A6 (List.length z.2)) (A7 z.3) (A7 z.4) (Am z.5) (A8 (Am z.6) (A7 z.7) (A7 z.8) (A7 z.9) (A8 (A7 z.10) (A7 z.11) (A7 z.12) (A7 z.13) (A8 (A7
  z.14) A9 (Ak z.15) (A7 z.16) (A8 (A7 z.17) A9 (Ak z.18) (A7 z.19) (A8 (A7 z.20) A9 (Ak z.21) (m=m) (A8 (u=u) (m1=m1) (m2=m2) (m3=m3) (A8 (z.1=[]) (z.2=[]) (z.15=[]) (z.18=[]) (z.21=[]))))))))))) (Am Aq→An (SzH Ap)∧A5
  (Ao false∨Ao true) (Aj false (Af (Aa Al.fst) (Aa Al.snd.fst) (Aa Al.snd.snd)) (caT pk) (Hn.mk m u pc mo su mx sa tv ep em ca tl (evK (A0 s1 w1 m1,A1) pk) [] []) (zd9 (caT pk) (Hn.mk m u pc mo su mx sa tv ep em ca tl (evK (A0 s1 w1 m1,
  A1) pk) [] [])).snd.snd) (Aj true Ah plT Ai (zd9 plT (Hn.mk m u pc mo su mx sa tv ep em ca tl (A0 s1 w1 m1,A1) [] [])).snd.snd))):=by kernel_rfl
theorem zkt(m:By)(u:Us)(pc:Int)(mo:Int)(su:Bool)(mx:Bool)(sa:Int)(tv:Int)(ep:Int)(em:Int)(ca:Int)(tl:Int)(s1:Int)(w1:Int)(m1:Es)(s2:Int)(w2:Int)(m2:Es)(s3:Int)(w3:Int)(m3:Es)(pl:Bool)(pk:Int)(ok:Bool)(cs tw:Int)(z:Rn):yk8 m u pc mo su mx sa tv ep em ca tl s1 w1 m1 s2 w2 m2 s3 w3 m3 pl pk ok cs tw z=(
 let A0:=Rn.mk m u pc mo su mx sa tv ep em ca tl s1 w1 m1 s2 w2 m2 s3 w3 m3 false (0:Int) (0:Int) (0:Int) [] false false (0:Int) false (0:Int);
 let A1(a:Int):=a=(0:Int);
 let A2(a b:Es):=List.length a=List.length b;
 let A3(a:Nat):=a=(0:Nat);
 let A4(a b c:Prop):=a∧b∧c;
 let A5(a b c d e:Prop):=A4 a b (A4 c d e);
 let A6:=A3 (0:Nat);
 let A7:=zck A0 pl pk;
 let A8(a:Bool)(b c d e f g:Prop)(h i:Bool)(j k l n o p q r s t v w x y B C D E F G:Prop):=A4 (ok=a) b (A5 c A6 d A6 (A5 e f g (z.5=h) (A5 (z.6=i) j k l (A5 n o p q (A5 r A6 s t (A5 v A6 w x (A5 y A6 B (m=m) (A5 (u=u)
  (m1=m1) (m2=m2) (m3=m3) (A5 C D E F G)))))))));
 let A9(a:Es):=List.length a=(0:Nat);
 let Aa(a:Prop):=List.length m=List.length m∧A5 (List.length u=List.length u) (A2 m1 m1) (A2 m2 m2) (A2 m3 m3) a;
 let Ab(a:Bool)(b:Prop):=(bif bif !zea (m,u,pc,mo,su,mx,sa,tv,ep,em,ca,tl,s1,w1,m1,s2,w2,m2,s3,w3,m3) then true else decide (pk<(0:Int)) then true else decide (pk>(255:Int)))=a→b;
 A4 (Aa (HaR (m,u,pc,mo,su,mx,sa,tv,ep,em,ca,tl,s1,w1,m1,s2,w2,m2,s3,w3,m3))) (Ab true (A8 false (A1 cs) (A1 tw) (A3 (List.length z.1)) (A3 (List.length z.2)) (A1 z.3) (A1 z.4) false false (A1 z.7) (A1 z.8) (A1 z.9) (A1
  z.10) (A1 z.11) (A1 z.12) (A1 z.13) (A1 z.14) (A9 z.15) (A1 z.16) (A1 z.17) (A9 z.18) (A1 z.19) (A1 z.20) (A9 z.21) (z.1=[]) (z.2=[]) (z.15=[]) (z.18=[]) (z.21=[]))) (Ab false (Aa (zr5 A0 pk)∧A8 true (cs=A7.24) (tw=A7.25)
  (List.length z.1=List.length A7.1) (List.length z.2=List.length A7.2) (z.3=A7.3) (z.4=A7.4) A7.5 A7.6 (z.7=A7.7) (z.8=A7.8) (z.9=A7.9) (z.10=A7.10) (z.11=A7.11) (z.12=A7.12) (z.13=A7.13) (z.14=A7.14) (A2 z.15 A7.15)
  (z.16=A7.16) (z.17=A7.17) (A2 z.18 A7.18) (z.19=A7.19) (z.20=A7.20) (A2 z.21 A7.21) (z.1=A7.1) (z.2=A7.2) (z.15=A7.15) (z.18=A7.18) (z.21=A7.21)))):=by kernel_rfl
set_option linter.unusedSimpArgs false
set_option linter.unusedVariables false
theorem yac{P:Program}{g:FuncId}{name:String}(hn:∀s,zhx s=g→s=name){T:TypeId}{F:FuncId}{a:Av}(hm:zgb P T name=some F)(hc:callable P F=true)
 (hs:spotty (.ifc T a)=true) (hi:(zcn (.ifc T a)).all [0,6].contains=true) (hr:ren (fun i=>[0,6].getD ([0,6].idxOf i) 0) (.ifc T a) = .ifc T a) {U:Sum}
 (step:∀(args:List Av)(H:Heap)(p:Option Prop)(v:Av)(H':Heap),U args H=some (p,v,H')→Hold p→∃rest S q,args = .opq [0,6] (zw2 [0,6] (.ifc T a))::rest∧Sound P F S∧zp1 S (a::rest) H=some (q,v,H')∧Hold q):zkg (zgi P g) .returned U:=by
 intro args H p v H' h hp ρ vs w hw
 obtain⟨rest,S,q,rfl,hS,hc1,hq⟩:=step args H p v H' h hp
 have out:∀{ρ':Env}{y:Value},Rv ρ' (.opq [0,6] (zw2 [0,6] (.ifc T a))) y→∃u,y = .iface T u∧Rv ρ' a u:=fun  {ρ' y} h0=>by
  have h1:=ynj (ids:=[0,6]) hs hi (js:=[0,6]) rfl h0
  rw[hr] at h1
  simpa only[Rv] using h1
 have h0:=(hw ρ (Agree.refl _ _)).1
 cases vs with
 | nil=>exact h0.elim
 | cons y us =>
  obtain⟨u,rfl,hu⟩:=out h0.1
  refine⟨T,u,us,rfl,fun s hsn => ?_⟩
  cases hn s hsn
  refine⟨F,hm,hc,zp2 hS _ _ q v H' hc1 hq ρ (u::us) w (fun ρ' ha => ?_)⟩
  obtain⟨q1,q2⟩:=hw ρ' ha
  obtain⟨u',e,hu'⟩:=out q1.1
  cases e
  exact⟨⟨hu',q1.2⟩,q2⟩
theorem yrz:∀s,zhx s=zco→s = "loop.example/s0051/impl.translate" := fun s h=>by
 unfold zhx at h
 split at h
 · rename_i e;exact by simpa using e
 · split at h
   · exact absurd h (by decide)
   · exact absurd h (by decide)
theorem yry:∀s,zhx s=zco+1→s = "loop.example/s0051/impl.fence" := fun s h=>by
 unfold zhx at h
 split at h
 · exact absurd h (by decide)
 · split at h
   · rename_i e;exact by simpa using e
   · exact absurd h (by decide)
theorem yji{pick:Int}{n:Nat}{m:By}{c:Ct}{kind va:Int}{k:Cch}{g1 g2:LL}(h:OkT (caT pick) n m c kind va k g1 g2):yez m c k kind va pick:=by
 obtain⟨h1,h2,h3,h4,h5,h6,h7,h8,h9,h10,h11⟩:=h
 exact⟨h1,h2,h7,h8,h9,h10,h11,h5,h6⟩
theorem zww{f:Fc}{k:Cch}(g:zbr k=true):ym9 f k=yf9 k f:=by
 obtain⟨v1,v2,v3⟩:=zdu.1 g
 unfold ym9 yf9 zc7
 rw[zbs v1,zbs v2,zbs v3]
 cases h:ziu f
 · simp
 · simp[flI,flT]
theorem yy7{f:Fc}{k:Cch}(g:zbr k=true)(h:ChR k)(hf:U64 f.2.1):FlC k f:=by
 obtain⟨v1,v2,v3⟩:=zdu.1 g
 obtain⟨⟨s1,w1,m1⟩,⟨s2,w2,m2⟩,⟨s3,w3,m3⟩⟩:=k
 exact⟨yna h.1 hf (zbs v1),yna h.2.1 hf (zbs v2),yna h.2.2 hf (zbs v3)⟩
theorem yrb(pick:Int):(caT pick).Ok Tryz.prog where
 tr k:=by
  refine yac (name := "loop.example/s0051/impl.translate") (T:=287) (a:=tcA pick) (F:=269) yrz (by kernel_rfl) (by kernel_rfl) (by rfl) (by rfl) (by rfl) (fun args H p v H' h hp => ?_)
  unfold trMS at h
  split at h
  case h_2=>cases h
  rename_i X c0 c1 c2 c3 kind va
  split at h
  case h_2=>cases h
  rename_i n r R1 R2 hg
  simp only[Option.some.injEq,Prod.mk.injEq] at h
  obtain⟨rfl,rfl,rfl⟩:=h
  obtain⟨⟨rfl,rfl,rfl⟩,rfl,⟨j,hj⟩,hk⟩:=hp
  obtain rfl:=zj2 hg rfl rfl rfl
  have ht:=yji hj
  have hcd:=zli r.m (c0,c1,c2,c3) r.k kind va pick
  match k,hk with
  | 0,hk=>exact⟨_,_,some (r.ln=r.ln∧yez r.m (c0,c1,c2,c3) r.k kind va pick∧ybp 0 (trM r.m (c0,c1,c2,c3) r.k kind va pick)),rfl,ywb 0,(by kernel_rfl),⟨rfl,ht,hk⟩⟩
  | 1,hk=>exact⟨_,_,some (r.ln=r.ln∧yez r.m (c0,c1,c2,c3) r.k kind va pick∧ybp 1 (trM r.m (c0,c1,c2,c3) r.k kind va pick)),rfl,ywb 1,(by kernel_rfl),⟨rfl,ht,hk⟩⟩
  | 2,hk=>exact⟨_,_,some (r.ln=r.ln∧yez r.m (c0,c1,c2,c3) r.k kind va pick∧ybp 2 (trM r.m (c0,c1,c2,c3) r.k kind va pick)),rfl,ywb 2,(by kernel_rfl),⟨rfl,ht,hk⟩⟩
  | n+3,hk =>
   have hk:3≤(trM r.m (c0,c1,c2,c3) r.k kind va pick).1:=hk
   omega
 fe:=by
  refine yac (name := "loop.example/s0051/impl.fence") (T:=287) (a:=tcA pick) (F:=268) yry (by kernel_rfl) (by kernel_rfl) (by rfl) (by rfl) (by rfl) (fun args H p v H' h hp => ?_)
  unfold yy4 at h
  split at h
  case h_2=>cases h
  rename_i X f0 f1 f2 f3
  split at h
  case h_2=>cases h
  rename_i n r R1 R2 hg
  simp only[Option.some.injEq,Prod.mk.injEq] at h
  obtain⟨rfl,rfl,rfl⟩:=h
  obtain⟨⟨rfl,rfl,rfl⟩,rfl,h1,h3,⟨j,hj⟩⟩:=hp
  obtain rfl:=zj2 hg rfl rfl rfl
  exact⟨_,_,some (r.ln=r.ln∧U64 f1∧FlC r.k (f0,f1,f2,f3)),rfl,yao1,(by kernel_rfl),⟨rfl,h1,yy7 (f:=(f0,f1,f2,f3)) hj.1 hj.2.1 h1⟩⟩
 trI {n m c kind va k g1 g2} h:=by
  have ht:=yji h
  obtain⟨a1,a2, -⟩:=zlh (c:=c) (kind:=kind) ht.1 ht.2.1 ht.2.2.1 ht.2.2.2.2.1 ht.2.2.2.1 ht.2.2.2.2.2.1
  exact⟨a1,a2,ht.2.2.2.2.2.1,ht.2.2.2.2.2.2.1⟩
 trV {n m c kind va k g1 g2} h:=by
  have ht:=yji h
  refine⟨(zlh (c:=c) (kind:=kind) ht.1 ht.2.1 ht.2.2.1 ht.2.2.2.2.1 ht.2.2.2.1 ht.2.2.2.2.2.1).2.2,fun  (q:3≤(trM m c k kind va pick).1) => ?_⟩
  have hcd:=zli m c k kind va pick
  omega
 feI {n f k g1 g2} hf h:=by
  obtain⟨v1,v2,v3⟩:=zdu.1 h.1
  refine⟨?_, ?_,h.2.2⟩
  · show zbr (ym9 f k)=true
    rw[zww h.1]
    exact zdu.2 ⟨zdt v1 f,zdt v2 f,zdt v3 f⟩
  · show ChR (ym9 f k)
    rw[zww h.1]
    exact⟨zhj h.2.1.1 f,zhj h.2.1.2.1 f,zhj h.2.1.2.2 f⟩
 le h _:=h
theorem ysd:plT.Ok Tryz.prog where
 tr k:=by
  refine yac (name := "loop.example/s0051/impl.translate") (T:=125) (a:=ymf) (F:=262) yrz (by kernel_rfl) (by kernel_rfl) (by rfl) (by rfl) (by rfl) (fun args H p v H' h hp => ?_)
  unfold trMS at h
  split at h
  case h_2=>cases h
  rename_i X c0 c1 c2 c3 kind va
  split at h
  case h_2=>cases h
  rename_i n r R1 R2 hg
  simp only[Option.some.injEq,Prod.mk.injEq] at h
  obtain⟨rfl,rfl,rfl⟩:=h
  obtain⟨⟨rfl,rfl,rfl⟩,rfl,⟨j,hj⟩,hk⟩:=hp
  obtain rfl:=zj2 hg rfl rfl rfl
  have ht:zaz r.m∧U64 c3∧U64 va:=⟨hj.1,hj.2.1,hj.2.2.2.2.2.2.1⟩
  have e:plT.tr r.m (c0,c1,c2,c3) kind va r.k r.g1 r.g2=(if (zav r.m (c0,c1,c2,c3) kind va).1=0 then 0 else 3,(if (zav r.m (c0,c1,c2,c3) kind va).1=0 then (zav r.m (c0,c1,c2,c3) kind va).2 else 0),(zav r.m (c0,c1,c2,c3) kind va).1,(r.k,r.g1,r.g2)):=rfl
  rw[e] at hk ⊢
  by_cases q:(zav r.m (c0,c1,c2,c3) kind va).1=0
  · rw[if_pos q] at hk ⊢
    match k,hk with
    | 0,hk=>exact⟨_,_,some (r.ln=r.ln∧(zaz r.m∧U64 c3∧U64 va)∧(zav r.m (c0,c1,c2,c3) kind va).1=0),rfl,ybj1 false,(by rw[if_pos q];kernel_rfl),⟨rfl,ht,q⟩⟩
    | 1,hk=>exact absurd hk (show ¬ (0:Nat)=1 by decide)
    | 2,hk=>exact absurd hk (show ¬ (0:Nat)=2 by decide)
    | n+3,hk=>exact absurd hk (show ¬ 3≤(0:Nat) by decide)
  · rw[if_neg q] at hk ⊢
    match k,hk with
    | 0,hk=>exact absurd hk (show ¬ (3:Nat)=0 by decide)
    | 1,hk=>exact absurd hk (show ¬ (3:Nat)=1 by decide)
    | 2,hk=>exact absurd hk (show ¬ (3:Nat)=2 by decide)
    | n+3,hk=>exact⟨_,_,some (r.ln=r.ln∧(zaz r.m∧U64 c3∧U64 va)∧¬ (zav r.m (c0,c1,c2,c3) kind va).1=0),rfl,ybj1 true,(by rw[if_neg q];kernel_rfl),⟨rfl,ht,q⟩⟩
 fe:=by
  refine yac (name := "loop.example/s0051/impl.fence") (T:=125) (a:=ymf) (F:=261) yry (by kernel_rfl) (by kernel_rfl) (by rfl) (by rfl) (by rfl) (fun args H p v H' h hp => ?_)
  unfold yy4 at h
  split at h
  case h_2=>cases h
  rename_i X f0 f1 f2 f3
  split at h
  case h_2=>cases h
  rename_i n r R1 R2 hg
  simp only[Option.some.injEq,Prod.mk.injEq] at h
  obtain⟨rfl,rfl,rfl⟩:=h
  obtain⟨⟨rfl,rfl,rfl⟩,rfl,h1,h3, -⟩:=hp
  obtain rfl:=zj2 hg rfl rfl rfl
  exact⟨_,_,some (r.ln=r.ln),rfl,ybi1,(by kernel_rfl),rfl⟩
 trI _:=trivial
 trV {n m c kind va k g1 g2} h:=by
  show U64 (if (zav m c kind va).1=0 then (zav m c kind va).2 else 0)∧(3≤(if (zav m c kind va).1=0 then 0 else 3)→(zav m c kind va).1≠0)
  split
  · exact⟨zti h.1 h.2.1 h.2.2.2.2.2.2.1,fun q=>absurd q (by decide)⟩
  · rename_i q;exact⟨zor,fun _=>q⟩
 feI _ _:=trivial
 le _ _:=trivial
theorem yso{M:Tm}(hM:M.Ok Tryz.prog){T:TypeId}{a:Av}(hX:M.X=zw2 [0,6] (.ifc T a))(h1:M.R1=fun _ _ _=>True)(h2:M.R2=fun _ _ _=>True){r:Hn}(e1:r.g1=[])(e2:r.g2=[])(hp:zh4 M r r.c) :
 zcl Tryz.prog .returned 72 (fun args H=>match args with
  | [.ptr 0 0,.ifc t b]=>some (some (t=T∧b=a∧H=h6 r 0),.agg [.v (.int .i64 (zd9 M r).1),.v (.int .u64 (zd9 M r).2.1)],h6 (zd9 M r).2.2 0)
  | _=>none):=by
 intro args H p v H' h hp2 ρ vs w hw
 dsimp only at h
 split at h
 case h_2=>cases h
 rename_i t b
 simp only[Option.some.injEq,Prod.mk.injEq] at h
 obtain⟨rfl,rfl,rfl⟩:=h
 obtain⟨rfl,rfl,rfl⟩:=hp2
 have hs:padS (spS M) [.ptr 0 0,.opq [0,6] M.X] (h6 r 0)=some (some (M.is M.X (fun _ _ _=>True) (fun _ _ _=>True)∧({ r with g1:=[],g2:=[] }:Hn).ln=({ r with g1:=[],g2:=[] }:Hn).ln∧zh4 M { r with g1:=[],g2:=[] } ({ r with g1:=[],g2:=[] }:Hn).c),.agg [.v (.int .i64 (zd9 M { r with g1:=[],g2:=[] }).1),.v (.int .u64 (zd9 M { r with g1:=[],g2:=[] }).2.1)],h6 (zd9 M { r with g1:=[],g2:=[] }).2.2 0):=by kernel_rfl
 have er:({ r with g1:=[],g2:=[] }:Hn)=r:=by
  have e1:=e1.symm;have e2:=e2.symm
  cases r;cases e1;cases e2;rfl
 rw[er] at hs
 refine yvj (sp_ok hM) _ _ _ _ _ hs ⟨⟨rfl,h1.symm,h2.symm⟩,rfl,hp⟩ ρ vs w (fun ρ' ha => ?_)
 obtain⟨q1,q2⟩:=hw ρ' ha
 refine⟨?_,q2⟩
 match vs,q1 with
 | [y,x],⟨y1,x1,_⟩=>exact⟨y1,by rw[hX];exact yup x1,trivial⟩
theorem yaj1:Sound Tryz.prog 72 stcS:=by
 intro args H p v H' h hp ρ vs w hw
 unfold stcS at h
 split at h
 case h_3=>cases h
 · rename_i pick
   split at h
   case h_2=>cases h
   rename_i n r hg
   simp only[Option.some.injEq,Prod.mk.injEq] at h
   obtain⟨rfl,rfl,rfl⟩:=h
   obtain⟨rfl,e1,e2⟩:=zex hg hp.1
   exact yso (yrb pick) (T:=287) (a:=tcA pick) rfl rfl rfl e1 e2 hp.2 _ _ _ _ _ rfl (by exact⟨rfl,rfl,rfl⟩) ρ vs w hw
 · split at h
   case h_2=>cases h
   rename_i n r hg
   simp only[Option.some.injEq,Prod.mk.injEq] at h
   obtain⟨rfl,rfl,rfl⟩:=h
   obtain⟨rfl,e1,e2⟩:=zex hg hp.1
   exact yso ysd (T:=125) (a:=ymf) rfl rfl rfl e1 e2 hp.2 _ _ _ _ _ rfl (by exact⟨rfl,rfl,rfl⟩) ρ vs w hw
end Go.Proofs.YtfiddfbagbaofaaGreat.V
