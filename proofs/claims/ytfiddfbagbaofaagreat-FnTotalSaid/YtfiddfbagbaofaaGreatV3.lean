/- A small machine of signs and its soundness, part 3: no program in sight. Conditions: those in each statement. -/
import Derived.Test.YtfiddfbagbaofaaGreatV2
import Derived.OpenShut
import Derived.Laws.BitsLemmas
import Derived.Laws.Bits64b
import Derived.IntWalk
import Derived.ChangeSlices
import Derived.ChangeOld
import Derived.Carry
namespace Go.Proofs.YtfiddfbagbaofaaGreat.V
open Go
mutual
def norm:Av→Av
 | .tt => .v (.bool true)
 | .ff => .v (.bool false)
 | .agg cs => .agg (zko cs)
 | .tup cs => .tup (zko cs)
 | .fn f cs => .fn f (zko cs)
 | .ifc t x => .ifc t (norm x)
 | .any => .any
 | .q p => .q p
 | .zp => .zp
 | .opq ids X => .opq ids X
 | .v x => .v x
 | .ptr id sub => .ptr id sub
 | .eptr id sz i sub => .eptr id sz i sub
 | .sl id sz lo len => .sl id sz lo len
def zko:List Av→List Av
 | []=>[]
 | a::as=>norm a::zko as
end
mutual
theorem zxq{ρ:Env}:∀(a:Av)(y:Value),Rv ρ (norm a) y↔Rv ρ a y
 | .tt,_=>Iff.rfl
 | .ff,_=>Iff.rfl
 | .agg cs,y=>by simp only[norm,Rv];exact⟨fun ⟨vs,h,g⟩=>⟨vs,h,(zdt cs vs).1 g⟩,fun ⟨vs,h,g⟩=>⟨vs,h,(zdt cs vs).2 g⟩⟩
 | .tup cs,y=>by simp only[norm,Rv];exact⟨fun ⟨vs,h,g⟩=>⟨vs,h,(zdt cs vs).1 g⟩,fun ⟨vs,h,g⟩=>⟨vs,h,(zdt cs vs).2 g⟩⟩
 | .fn _ cs,y=>by simp only[norm,Rv];exact⟨fun ⟨vs,h,g⟩=>⟨vs,h,(zdt cs vs).1 g⟩,fun ⟨vs,h,g⟩=>⟨vs,h,(zdt cs vs).2 g⟩⟩
 | .ifc _ x,y=>by simp only[norm,Rv];exact⟨fun ⟨u,h,g⟩=>⟨u,h,(zxq x u).1 g⟩,fun ⟨u,h,g⟩=>⟨u,h,(zxq x u).2 g⟩⟩
 | .any,_=>Iff.rfl
 | .q _,_=>Iff.rfl
 | .zp,_=>Iff.rfl
 | .opq _ _,_=>Iff.rfl
 | .v _,_=>Iff.rfl
 | .ptr _ _,_=>Iff.rfl
 | .eptr ..,_=>Iff.rfl
 | .sl ..,_=>Iff.rfl
theorem zdt{ρ:Env}:∀(as:List Av)(ys:List Value),RvL ρ (zko as) ys↔RvL ρ as ys
 | [],[]=>Iff.rfl
 | [],_::_=>Iff.rfl
 | _::_,[]=>Iff.rfl
 | a::as,y::ys=>by simp only[zko,RvL];rw[zxq a y,zdt as ys]
end
theorem zk5:∀l:List Av,(zko l).length=l.length
 | []=>rfl
 | _::l=>by simp[zko,zk5 l]
def zlb:Blk→Blk
 | .fix cells o ty => .fix (zko cells) o ty
 | .arr sh xs o => .arr sh xs o
 | .ob o ids s R => .ob o ids s R
 | .dead => .dead
theorem zjq(b:Blk):(zlb b).own=b.own:=by cases b<;>rfl
theorem zpp(b:Blk):(zlb b).live=b.live:=by cases b<;>rfl
theorem ynp{ρ:Env}(w:World)(k:Nat)(b:Blk):Rb ρ w k (zlb b)↔Rb ρ w k b:=by
 cases b with
 | dead=>exact Iff.rfl
 | arr sh xs o=>exact Iff.rfl
 | ob o ids s R=>exact Iff.rfl
 | fix cells o ty =>
  simp only[zlb,Rb,zk5]
  constructor
  · rintro⟨L,vs,h1,h2,h3,h4,h5⟩;exact⟨L,vs,h1,(zdt cells vs).1 h2,h3,h4,h5⟩
  · rintro⟨L,vs,h1,h2,h3,h4,h5⟩;exact⟨L,vs,h1,(zdt cells vs).2 h2,h3,h4,h5⟩
theorem zga{H:Heap}{i:Nat}{b:Blk}:(H.map zlb)[i]? = some b↔∃c,H[i]? = some c∧b=zlb c:=by
 rw[List.getElem?_map]
 cases H[i]? with
 | none=>simp
 | some c=>simp[eq_comm]
theorem zzt{ρ:Env}{H:Heap}{w:World}(h:Rel ρ H w):Rel ρ (H.map zlb) w:=by
 refine⟨fun i b hi => ?_,fun i j b c L M hi hj hne hbl hcl hoo hL hM => ?_,fun i b L hi hl hL => ?_⟩
 · obtain⟨c,hc,rfl⟩:=zga.1 hi
   exact (ynp w i c).2 (h.blk i c hc)
 · obtain⟨c1,h1,rfl⟩:=zga.1 hi
   obtain⟨c2,h2,rfl⟩:=zga.1 hj
   rw[zpp] at hbl hcl
   rw[zjq,zjq] at hoo
   exact h.sep i j c1 c2 L M h1 h2 hne hbl hcl hoo hL hM
 · obtain⟨c1,h1,rfl⟩:=zga.1 hi
   rw[zpp] at hl
   exact h.inb i c1 L h1 hl hL
theorem zjr{ρ:Env}{H:Heap}{b:Nat}:owns ρ (H.map zlb) b↔owns ρ H b:=by
 constructor
 · rintro⟨id,blk,L,h1,h2,h3,h4⟩
   obtain⟨c,hc,rfl⟩:=zga.1 h1
   exact⟨id,c,L,hc,by rw[← zjq];exact h2,h3,h4⟩
 · rintro⟨id,blk,L,h1,h2,h3,h4⟩
   exact⟨id,zlb blk,L,zga.2 ⟨blk,h1,rfl⟩,by rw[zjq];exact h2,h3,h4⟩
def ycf(S:Sum):Sum:=fun args H=>S (zko args) (H.map zlb)
theorem ynq{P:Program}{E:Value→Ending}{f:FuncId}{S:Sum}(h:zcp P E f S):zcp P E f (ycf S):=by
 intro args H p v H' hs hp ρ vs w hw
 refine (h (zko args) (H.map zlb) p v H' hs hp ρ vs w (fun ρ' hag => ?_)).mono ?_
 · obtain⟨h1,h2⟩:=hw ρ' (by simpa using hag)
   exact⟨(zdt args vs).2 h1,zzt h2⟩
 · rintro e w' ⟨y,ρ1,h1,h2,h3,h4,h5⟩
   exact⟨y,ρ1,h1,by simpa using h2,h3,⟨h4.1,fun b hb hn=>h4.2 b hb (fun e=>hn (zjr.1 e)),h4.3⟩,fun id blk L hid hb hl hL=>(h5 id blk L (by simpa using hid) hb hl hL).imp zjr.1 (fun h=>h)⟩
theorem yh8{C:List Value→World→(Ending→World→Prop)→Prop}(hC:∀{vs:List Value} {w:World} {R R':Ending→World→Prop},C vs w R→(∀e w',R e w'→R' e w')→C vs w R'){E:Value→Ending}{S:Sum}(h:zky C E S):zky C E (ycf S):=by
 intro args H p v H' hs hp ρ vs w hw
 refine hC (h (zko args) (H.map zlb) p v H' hs hp ρ vs w (fun ρ' hag => ?_)) ?_
 · obtain⟨h1,h2⟩:=hw ρ' (by simpa using hag)
   exact⟨(zdt args vs).2 h1,zzt h2⟩
 · rintro e w' ⟨y,ρ1,h1,h2,h3,h4,h5⟩
   exact⟨y,ρ1,h1,by simpa using h2,h3,⟨h4.1,fun b hb hn=>h4.2 b hb (fun e=>hn (zjr.1 e)),h4.3⟩,fun id blk L hid hb hl hL=>(h5 id blk L (by simpa using hid) hb hl hL).imp zjr.1 (fun h=>h)⟩
theorem znf{P:Program}{E:Value→Ending}{g:FuncId}{S:Sum}(h:zfm P E g S):zfm P E g (ycf S):=h.imp (fun h=>⟨h.1,ynq h.2⟩) (fun h=>⟨h.1,yh8 (C:=zgy P g) (fun h hr=>zgy.mono h hr) h.2⟩)
structure Dict where
 det:Sums
 mul:FuncId→Option (Nat × (Nat→Sum))
 pan:FuncId→Option (Nat × (Nat→Sum))
structure DictOk (P:Program) (D:Dict):Prop where
 det:∀g S,D.det g=some S→zfm P .returned g S
 mul:∀g n S,D.mul g=some (n,S)→∀k,zfm P .returned g (S k)
 pan:∀g n S,D.pan g=some (n,S)→∀k,zfm P panics g (S k)
def ΓK(D:Dict)(k:Nat):Sums:=fun g=>match D.mul g with
 | some m=>some (ycf (m.2 k))
 | none=>match D.det g with|some S=>some (ycf S)|none=>none
theorem yoo{P:Program}{D:Dict}(h:DictOk P D)(k:Nat):zib P (ΓK D k):=by
 intro g S hS
 unfold ΓK at hS
 split at hS
 · rename_i m hm
   simp only[Option.some.injEq] at hS
   subst hS
   exact znf (h.mul g m.1 m.2 hm k)
 · split at hS
   · rename_i S' hS'
     simp only[Option.some.injEq] at hS
     subst hS
     exact znf (h.det g S' hS')
   · cases hS
theorem zrl{P:Program}{Γ:Nat→Sums}{all:List Oper}{o:Oper}{s:RS}:zlc P Γ all o s=zlc P (fun _=>Γ s.R.length) all o s:=rfl
theorem zpv{P:Program}{Γ Γ':Nat→Sums}{all:List Oper}:∀{ops:List Oper}{s:RS},(∀i,s.R.length≤i→Γ i=Γ' i)→zx6 P Γ all ops s=zx6 P Γ' all ops s
 | [],_,_=>rfl
 | o::ops,s,h=>by
  simp only[zx6]
  rw[zrl (Γ:=Γ),zrl (Γ:=Γ'),h s.R.length (Nat.le_refl _)]
  cases zlc P (fun _=>Γ' s.R.length) all o s with
  | none=>rfl
  | some r =>
   have hl:(s.add r).R.length=s.R.length+1:=by simp[RS.add]
   exact zpv (fun i hi=>h i (by omega))
def zzz(P:Program)(sl:List Av)(o:Oper):Option FuncId :=
 match o.op with
 | .call { callee := .value f,.. }=>match evS sl f with | .fn g _=>some g|_=>none
 | .call { callee := .invoke r m,.. }=>match evS sl r with | .ifc t _=>zgr P t m | .opq _ _=>some (zif m)|_=>none
 | _=>none
def branches(P:Program)(D:Dict)(o:Oper)(s:RS):Option Nat :=
 match zzz P (s.sl.map (·.1)) o with
 | some g=>match D.mul g with|some m=>some m.1|none=>none
 | none=>none
@[reducible] def yw5(p:Option Prop)(q:Prop):Prop:=match p with|none=>q|some p=>p∧q
@[reducible] def impH(p:Option Prop)(q:Prop):Prop:=match p with|none=>q|some p=>p→q
def yns:List (Option Prop)→Prop
 | []=>False
 | [p]=>Hold p
 | p::q::ps=>Hold p∨yns (q::ps)
theorem znh:∀{ps:List (Option Prop)},yns ps→∃p ∈ ps,Hold p
 | [],h=>h.elim
 | [p],h=>⟨p,List.mem_cons_self,h⟩
 | p::q::ps,h=>by
  rcases h with h|h
  · exact⟨p,List.mem_cons_self,h⟩
  · obtain⟨r,h1,h2⟩:=znh h
    exact⟨r,List.mem_cons_of_mem _ h1,h2⟩
def zt9(P:Program)(D:Dict)(all:List Oper)(o:Oper)(s:RS):Nat→Nat→Option (List Rec)
 | _,0=>some []
 | k,n+1=>match zlc P (fun _=>ΓK D k) all o s,zt9 P D all o s (k+1) n with|some r,some rs=>some (r::rs)|_,_=>none
theorem zpu{P:Program}{D:Dict}{all:List Oper}{o:Oper}{s:RS}:∀{n k:Nat}{rs:List Rec},zt9 P D all o s k n=some rs→∀r ∈ rs,∃j,zlc P (fun _=>ΓK D j) all o s=some r
 | 0,k,rs,h,r,hr=>by simp only[zt9,Option.some.injEq] at h;subst h;cases hr
 | n+1,k,rs,h,r,hr=>by
  simp only[zt9] at h
  split at h
  · rename_i r0 rs0 h1 h2
    simp only[Option.some.injEq] at h
    subst h
    rcases List.mem_cons.1 hr with rfl|hr
    · exact⟨k,h1⟩
    · exact zpu h2 r hr
  · cases h
def yxa(P:Program)(D:Dict)(all:List Oper):List Oper→RS→(RS→Prop)→Prop
 | [],s,K=>K s
 | o::ops,s,K =>
  match branches P D o s with
  | none=>match zlc P (fun _=>ΓK D 0) all o s with
   | some r=>yw5 r.p (yxa P D all ops (s.add r) K)
   | none=>False
  | some n=>match zt9 P D all o s 0 n with
   | some rs=>yns (rs.map (·.p))∧zsy (rs.map fun r=>impH r.p (yxa P D all ops (s.add r) K))
   | none=>False
theorem zwv{p:Option Prop}{q:Prop}(h:yw5 p q):Hold p∧q:=by
 cases p with
 | none=>exact⟨trivial,h⟩
 | some p=>exact h
theorem zxi{p:Option Prop}{q:Prop}(h:impH p q)(hp:Hold p):q:=by
 cases p with
 | none=>exact h
 | some p=>exact h hp
theorem zgi:∀{Q R:Recs},(∀r ∈ Q,Hold r.p)→Hold (zep R)→Hold (zep (Q++R))
 | [],R,_,h=>h
 | q::Q,R,hq,h=>by
  have ih:=zgi (Q:=Q) (fun r hr=>hq r (by simp[hr])) h
  have h0:=hq q (by simp)
  simp only[List.cons_append,zep]
  cases hp:q.p with
  | none=>exact ih
  | some p =>
   rw[hp] at h0
   cases hc:zep (Q++R) with
   | none=>exact h0
   | some c=>rw[hc] at ih;exact⟨h0,ih⟩
theorem zrn{P:Program}{D:Dict}{all:List Oper}{K:RS→Prop}:∀{ops:List Oper}{s:RS},yxa P D all ops s K→∃Γ:Nat→Sums,(∀i,∃k,Γ i=ΓK D k)∧∃sf,zx6 P Γ all ops s=some sf∧(∃Q,sf.R=s.R++Q∧∀r ∈ Q,Hold r.p)∧K sf
 | [],s,h=>⟨fun _=>ΓK D 0,fun _=>⟨0,rfl⟩,s,rfl,⟨[],by simp⟩,h⟩
 | o::ops,s,h=>by
  have key:∀(k:Nat)(r:Rec),zlc P (fun _=>ΓK D k) all o s=some r→Hold r.p→yxa P D all ops (s.add r) K →
   ∃Γ:Nat→Sums,(∀i,∃k,Γ i=ΓK D k)∧∃sf,zx6 P Γ all (o::ops) s=some sf∧(∃Q,sf.R=s.R++Q∧∀r ∈ Q,Hold r.p)∧K sf:=by
   intro k r hr hp ht
   obtain⟨Γ,h1,sf,h2,⟨Q,h3,h4⟩,h5⟩:=zrn ht
   refine⟨fun i=>if i=s.R.length then ΓK D k else Γ i,fun i => ?_,sf, ?_,⟨r::Q, ?_, ?_⟩,h5⟩
   · by_cases e:i=s.R.length
     · simp only[e,if_true];exact⟨k,rfl⟩
     · simp only[e,if_false];exact h1 i
   · simp only[zx6]
     rw[zrl]
     simp only[if_true]
     rw[hr]
     simp only
     rw[← h2]
     refine zpv (fun i hi => ?_)
     have:(s.add r).R.length=s.R.length+1:=by simp[RS.add]
     rw[if_neg (by omega)]
   · rw[h3];simp[RS.add]
   · intro x hx
     rcases List.mem_cons.1 hx with rfl|hx
     · exact hp
     · exact h4 x hx
  simp only[yxa] at h
  split at h
  · split at h
    · rename_i r hr
      obtain⟨hp,ht⟩:=zwv h
      exact key 0 r hr hp ht
    · exact h.elim
  · split at h
    · rename_i n rs hrs
      obtain⟨h1,h2⟩:=h
      obtain⟨p,hp1,hp2⟩:=znh h1
      obtain⟨r,hr,rfl⟩:=List.mem_map.1 hp1
      obtain⟨k,hk⟩:=zpu hrs r hr
      exact key k r hk hp2 (zxi (zcu.1 h2 _ (List.mem_map.2 ⟨r,hr,rfl⟩)) hp2)
    · exact h.elim
def znk(P:Program)(D:Dict)(ops:List Oper)(draw:Bool)(sl:List Av)(H:Heap)(K:List Av→Heap→Prop):Prop :=
 yxa P D ops ops { sl:=sl.map (·,none),H:=H.map (·,none),R:=[] } fun s =>
  match (match draw with|true=>zic ops s.R H.length|false=>ya9 s.R) with
  | true=>K (yre s.R s.sl) (ynu s.R s.H)
  | false=>False
theorem ycl{P:Program}(hm:P.follows .mixedOrders=true){D:Dict}(hD:DictOk P D){ops:List Oper}{draw:Bool}{sl:List Av}{H:Heap}{K:List Av→Heap→Prop}(h:znk P D ops draw sl H K){B:Base}(hBn:B.H.length≤H.length)
 {Q:Exit→Act→World→Prop} (hQ:∀sl' H',K sl' H'→∀a w,Inv B sl' H' a w→Q .normal a w) {a:Act} {w:World} (hinv:Inv B sl H a w) (id:Nat):(Code.region id ops.toArray draw).wp P Q a w:=by
 obtain⟨Γ,h1,sf,h2,⟨R,h3,h4⟩,h5⟩:=zrn h
 split at h5
 case h_2=>exact h5.elim
 rename_i hok
 have hΓ:∀i,zib P (Γ i):=fun i=>by obtain⟨k,hk⟩:=h1 i;rw[hk];exact yoo hD k
 have hold:Hold (zep sf.R):=by
  have:sf.R=R++[]:=by rw[h3];simp
  rw[this]
  exact zgi h4 trivial
 refine zua hm hΓ (p:=zep sf.R) (sl:=yre sf.R sf.sl) (H:=ynu sf.R sf.H) ?_ hold hBn (fun a w hi=>hQ _ _ h5 a w hi) hinv id
 unfold ziw
 rw[h2]
 simp only
 cases draw with
 | true=>simp only at hok;simp[hok]
 | false=>simp only at hok;simp[hok]
inductive Ex where
 | nrm
 | ext (id:Nat)
 | ret
 | pan (v:Value)
def zta:Ex→Exit
 | .nrm => .normal
 | .ext id => .exit id
 | .ret => .ret
 | .pan v => .panic [{ v,recovered:=false }]
def Ex.same:Ex→Ex→Bool
 | .nrm,.nrm=>true
 | .ext i,.ext j=>i==j
 | .ret,.ret=>true
 | _,_=>false
def Ex.sameP:Ex→Ex→Bool
 | .pan _,.pan _=>true
 | a,b=>a.same b
abbrev Post:=Ex→List Av→Heap→Prop
def QK(B:Base)(K:Post)(e:Exit)(a:Act)(w:World):Prop:=∃ex sl H,e=zta ex∧Inv B sl H a w∧K ex sl H
theorem QK.mono{B:Base}{K K':Post}(h:∀ex sl H,K ex sl H→K' ex sl H){e:Exit}{a:Act}{w:World}:QK B K e a w→QK B K' e a w :=
 fun ⟨ex,sl,H,h1,h2,h3⟩=>⟨ex,sl,H,h1,h2,h _ _ _ h3⟩
def ΓP(D:Dict)(k:Nat):Sums:=fun g=>match D.pan g with
 | some m=>some (ycf (m.2 k))
 | none=>none
theorem sumsP{P:Program}{D:Dict}(h:DictOk P D)(k:Nat):∀g S,ΓP D k g=some S→zfm P panics g S:=by
 intro g S hS
 unfold ΓP at hS
 split at hS
 · rename_i m hm
   simp only[Option.some.injEq] at hS
   subst hS
   exact znf (h.pan g m.1 m.2 hm k)
 · cases hS
def ysc(P:Program)(D:Dict)(o:Oper)(sl:List Av):Option (Nat × Nat) :=
 match zzz P sl o with
 | some g=>match D.mul g,D.pan g with
  | some m,some q=>some (m.1,q.1)
  | some m,none=>some (m.1,0)
  | none,some q=>some (1,q.1)
  | none,none=>none
 | none=>none
def yca{α:Type}(f:Nat→Option α):Nat→Nat→Option (List α)
 | _,0=>some []
 | k,n+1=>match f k,yca f (k+1) n with|some r,some rs=>some (r::rs)|_,_=>none
theorem zm5{α:Type}{f:Nat→Option α}:∀{n k:Nat}{rs:List α},yca f k n=some rs→∀r ∈ rs,∃j,f j=some r
 | 0,k,rs,h,r,hr=>by simp only[yca,Option.some.injEq] at h;subst h;cases hr
 | n+1,k,rs,h,r,hr=>by
  simp only[yca] at h
  split at h
  · rename_i r0 rs0 h1 h2
    simp only[Option.some.injEq] at h
    subst h
    rcases List.mem_cons.1 hr with rfl|hr
    · exact⟨k,h1⟩
    · exact zm5 h2 r hr
  · cases h
def zw4(P:Program)(Γ:Sums)(o:Oper)(sl:List Av)(H:Heap):Option (Option Prop × Av × Heap) :=
 match o.op with
 | .call c=>ecall P Γ c sl H
 | _=>none
def zxr(K:Post)(sl:List Av)(H:Heap)(v:Av):Prop:=match zbx v with|some x=>K (.pan x) sl H|none=>False
def yn3(P:Program)(D:Dict):List Oper→Post→List Av→Heap→Prop
 | [],K,sl,H=>K .nrm sl H
 | o::ops,K,sl,H =>
  match o.op with
  | .panic x=>match evS sl x with | .ifc t a=>zxr K sl H (.ifc t a)|_=>False
  | _ =>
   match ysc P D o sl with
   | none=>match estep P (ΓK D 0) o sl H with
    | some (p,av,H')=>yw5 p (yn3 P D ops K (zps sl o.dst av) H')
    | none=>False
   | some (n,m) =>
    match yca (fun k=>estep P (ΓK D k) o sl H) 0 n,yca (fun k=>zw4 P (ΓP D k) o sl H) 0 m with
    | some rs,some qs=>yns (rs.map (·.1)++qs.map (·.1))∧zsy (rs.map (fun r=>impH r.1 (yn3 P D ops K (zps sl o.dst r.2.1) r.2.2))++qs.map (fun r=>impH r.1 (zxr K sl r.2.2 r.2.1)))
    | _,_=>False
theorem zrh{K:Post}{sl:List Av}{H:Heap}{v:Av}(h:zxr K sl H v){ρ:Env}{y:Value}(hy:Rv ρ v y):K (.pan y) sl H:=by
 unfold zxr at h
 split at h
 · rename_i x hx;rw[zed hx hy];exact h
 · exact h.elim
theorem zx7{P:Program}{D:Dict}(hD:DictOk P D){B:Base}{K:Post}{A:Array Oper}{Q:Exit→Act→World→Prop}(hQ:∀e a w,QK B K e a w→Q e a w):∀{ops:List Oper}{i:Nat}{sl:List Av}{H:Heap},(∀j,A[i+j]? = ops[j]?)→ops.all (fun o=>o.guard.isNone)=true →
 yn3 P D ops K sl H→∀{a:Act}{w:World},Inv B sl H a w→wpOps P A Q (List.range' i ops.length) a w
 | [],i,sl,H,_,_,h,a,w,hi=>by
  simp only[List.length_nil,List.range'_zero,wpOps]
  exact hQ _ _ _ ⟨.nrm,sl,H,rfl,hi,h⟩
 | o::ops,i,sl,H,hA,hg,h,a,w,hi=>by
  rw[List.length_cons,List.range'_succ,wpOps_cons]
  have ho:A[i]? = some o:=by simpa using hA 0
  simp only[List.all_cons,Bool.and_eq_true] at hg
  have hwant:Region.wanted o (yielded A a.tmps)=true:=by
   have:o.guard=none:=by simpa using hg.1
   unfold Region.wanted
   rw[this]
  have hnext:∀{sl':List Av}{H':Heap}{a':Act}{w':World},yn3 P D ops K sl' H'→Inv B sl' H' a' w'→wpOps P A Q (List.range' (i+1) ops.length) a' w':=by
   intro sl' H' a' w' hr hi'
   exact zx7 hD hQ (fun j=>by have:=hA (j+1);rw[show i+(j+1)=i+1+j by omega] at this;simpa using this) hg.2 hr hi'
  unfold wpOp
  simp only[ho,hwant,if_true]
  left
  obtain⟨i1,i2,i3,ρ,i4,i5,i6⟩:=id hi
  have one:∀(k:Nat)(r:Option Prop × Av × Heap),estep P (ΓK D k) o sl H=some r→Hold r.1→yn3 P D ops K (zps sl o.dst r.2.1) r.2.2→o.wp P a w (wpOps P A Q (List.range' (i+1) ops.length)) Q:=by
   intro k r hs hp hr
   have hgo:=zqu (yoo hD k) (p:=r.1) (av:=r.2.1) (H':=r.2.2) hs hp i5
   have hinv:∀y w',Eff ρ H w r.2.1 r.2.2 y w'→Inv B (zps sl o.dst r.2.1) r.2.2 (a.put o.dst y) w':=by
    intro y w' he
    obtain⟨k1,ρ1,k2,k3,k4,k5⟩:=he
    refine⟨by rw[zgc];exact i1,i2.trans k4 (fun b hb hC => ?_),i3.trans k1,ρ1,i4.trans (k2.le i3.le),fun ρ' ha => ?_,fun id blk L hid hb hl hL => ?_⟩
    · obtain⟨id,blk,L,g1,g2,g3,rfl⟩:=hC
      rcases Nat.lt_or_ge id B.H.length with q|q
      · obtain⟨f1,_⟩:=i3.fl id _ blk (List.getElem?_eq_getElem q) g1
        exact⟨id,_,L,List.getElem?_eq_getElem q,f1 g2,by rw[← i4 id q];exact g3,rfl⟩
      · exact (i6 id blk L q g1 (za8 g2) g3).resolve_right (by omega)
    · obtain⟨g1,g2⟩:=k3 ρ' ha
      have hρ':Agree H.length ρ ρ':=k2.trans (ha.le k1.le)
      exact⟨zl5 (i5 ρ' hρ').1 g1 o.dst,g2⟩
    · rcases Nat.lt_or_ge id H.length with q|q
      · have hlt:id<H.length:=q
        obtain⟨_,f2⟩:=k1.fl id _ blk (List.getElem?_eq_getElem hlt) hb
        exact i6 id _ L hid (List.getElem?_eq_getElem hlt) (f2 hl) (by rw[← k2 id hlt];exact hL)
      · rcases k5 id blk L q hb hl hL with ⟨id2,blk2,L2,g1,g2,g3,g4⟩|g
        · rw[← g4]
          rcases Nat.lt_or_ge id2 B.H.length with q2|q2
          · obtain⟨f1,_⟩:=i3.fl id2 _ blk2 (List.getElem?_eq_getElem q2) g1
            exact .inl ⟨id2,_,L2,List.getElem?_eq_getElem q2,f1 g2,by rw[← i4 id2 q2];exact g3,rfl⟩
          · exact i6 id2 blk2 L2 q2 g1 (za8 g2) g3
        · exact .inr (Nat.le_trans i2.size g)
   exact Goes.wp hgo (fun y w' he=>hnext hr (hinv y w' he))
  have pan:∀(k:Nat)(r:Option Prop × Av × Heap),zw4 P (ΓP D k) o sl H=some r→Hold r.1→zxr K sl r.2.2 r.2.1→o.wp P a w (wpOps P A Q (List.range' (i+1) ops.length)) Q:=by
   intro k r hs hp hr
   unfold zw4 at hs
   split at hs
   case h_2=>cases hs
   rename_i c hop
   obtain⟨g,vs,h1,h2⟩:=zz3 (E:=panics) (sumsP hD k) hop (p:=r.1) (av:=r.2.1) (H':=r.2.2) hs hp i5
   unfold Oper.wp
   rw[h1]
   simp only[Oper.upon]
   refine h2.mono ?_
   rintro e w' ⟨y,rfl,he⟩
   have hinv:Inv B sl r.2.2 a w'∧∃ρ',Rv ρ' r.2.1 y:=by
    obtain⟨k1,ρ1,k2,k3,k4,k5⟩:=he
    refine⟨⟨i1,i2.trans k4 (fun b hb hC => ?_),i3.trans k1,ρ1,i4.trans (k2.le i3.le),fun ρ' ha => ?_,fun id blk L hid hb hl hL => ?_⟩,ρ1,(k3 ρ1 (Agree.refl _ _)).1⟩
    · obtain⟨id,blk,L,g1,g2,g3,rfl⟩:=hC
      rcases Nat.lt_or_ge id B.H.length with q|q
      · obtain⟨f1,_⟩:=i3.fl id _ blk (List.getElem?_eq_getElem q) g1
        exact⟨id,_,L,List.getElem?_eq_getElem q,f1 g2,by rw[← i4 id q];exact g3,rfl⟩
      · exact (i6 id blk L q g1 (za8 g2) g3).resolve_right (by omega)
    · obtain⟨g1,g2⟩:=k3 ρ' ha
      have hρ':Agree H.length ρ ρ':=k2.trans (ha.le k1.le)
      exact⟨(i5 ρ' hρ').1,g2⟩
    · rcases Nat.lt_or_ge id H.length with q|q
      · obtain⟨_,f2⟩:=k1.fl id _ blk (List.getElem?_eq_getElem q) hb
        exact i6 id _ L hid (List.getElem?_eq_getElem q) (f2 hl) (by rw[← k2 id q];exact hL)
      · rcases k5 id blk L q hb hl hL with ⟨id2,blk2,L2,g1,g2,g3,g4⟩|g
        · rw[← g4]
          rcases Nat.lt_or_ge id2 B.H.length with q2|q2
          · obtain⟨f1,_⟩:=i3.fl id2 _ blk2 (List.getElem?_eq_getElem q2) g1
            exact .inl ⟨id2,_,L2,List.getElem?_eq_getElem q2,f1 g2,by rw[← i4 id2 q2];exact g3,rfl⟩
          · exact i6 id2 blk2 L2 q2 g1 (za8 g2) g3
        · exact .inr (Nat.le_trans i2.size g)
   obtain⟨hi2,ρ',hv⟩:=hinv
   exact hQ _ _ _ ⟨.pan y,sl,r.2.2,rfl,hi2,zrh hr hv⟩
  simp only[yn3] at h
  split at h
  · rename_i x hop
    have hx:=zcb (i5 ρ (Agree.refl _ _)).1 x
    split at h
    · rename_i t b e
      rw[e] at hx
      have hk:=zrh h hx
      have hx2:=hx
      simp only[Rv] at hx2
      obtain⟨u,hu,_⟩:=hx2
      unfold Oper.wp
      have hrun:(execOp a.eval o).run P w = .halt (.panic (a.eval x)) w:=by
       simp[execOp,hop,hu,Instr.panic,goPanic]
      rw[hrun]
      exact hQ _ _ _ ⟨.pan (a.eval x),sl,H,rfl,hi,hk⟩
    · exact h.elim
  · split at h
    · split at h
      · rename_i p av H' hs
        obtain⟨hp,hr⟩:=zwv h
        exact one 0 (p,av,H') hs hp hr
      · exact h.elim
    · rename_i n m hw
      split at h
      · rename_i rs qs hrs hqs
        obtain⟨h1,h2⟩:=h
        obtain⟨p,hp1,hp2⟩:=znh h1
        rw[zcu] at h2
        rcases List.mem_append.1 hp1 with hp1|hp1
        · obtain⟨r,hr,rfl⟩:=List.mem_map.1 hp1
          obtain⟨k,hk⟩:=zm5 hrs r hr
          exact one k r hk hp2 (zxi (h2 _ (List.mem_append_left _ (List.mem_map.2 ⟨r,hr,rfl⟩))) hp2)
        · obtain⟨r,hr,rfl⟩:=List.mem_map.1 hp1
          obtain⟨k,hk⟩:=zm5 hqs r hr
          exact pan k r hk hp2 (zxi (h2 _ (List.mem_append_right _ (List.mem_map.2 ⟨r,hr,rfl⟩))) hp2)
      · exact h.elim
def ynm(c:Bool):List Av→List Av→List Av
 | a::as,b::bs=>mrg c a b::ynm c as bs
 | _,_=>[]
def yw9(c:Bool):Blk→Blk→Blk
 | .fix cs o ty,.fix ds o' ty'=>if cs.length=ds.length∧ty=ty' then .fix (ynm c cs ds) (o&&o') ty else .dead
 | .arr sh xs o,.arr sh' ys o'=>if h:sh'=sh then .arr sh (cond c xs (h ▸ ys)) (o&&o') else .dead
 | _,_ => .dead
def yce(c:Bool):Heap→Heap→Heap
 | a::as,b::bs=>yw9 c a b::yce c as bs
 | [],bs=>bs.map fun _ => .dead
 | as,[]=>as.map fun _ => .dead
theorem znd{ρ:Env}:∀{as bs:List Av}{vs:List Value},as.length=bs.length→RvL ρ as vs→RvL ρ (ynm true as bs) vs
 | [],[],_,_,h=>h
 | [],_::_,_,hl,_=>by simp at hl
 | _::_,[],_,hl,_=>by simp at hl
 | a::as,b::bs,[],_,h=>by simp[RvL] at h
 | a::as,b::bs,v::vs,hl,h=>⟨mrg_true h.1,znd (by simpa using hl) h.2⟩
theorem zkn{ρ:Env}:∀{as bs:List Av}{vs:List Value},as.length=bs.length→RvL ρ bs vs→RvL ρ (ynm false as bs) vs
 | [],[],_,_,h=>h
 | [],_::_,_,hl,_=>by simp at hl
 | _::_,[],_,hl,_=>by simp at hl
 | a::as,b::bs,[],_,h=>by simp[RvL] at h
 | a::as,b::bs,v::vs,hl,h=>⟨mrg_false h.1,zkn (by simpa using hl) h.2⟩
theorem zfc(c:Bool):∀{as bs:List Av},as.length=bs.length→(ynm c as bs).length=as.length
 | [],[],_=>rfl
 | [],_::_,hl=>by simp at hl
 | _::_,[],hl=>by simp at hl
 | a::as,b::bs,hl=>by simp only[ynm,List.length_cons];rw[zfc c (by simpa using hl)]
theorem zir(c:Bool):∀(as bs:Heap),(yce c as bs).length=max as.length bs.length
 | [],bs=>by simp[yce]
 | a::as,[]=>by simp[yce]
 | a::as,b::bs=>by simp only[yce,List.length_cons];rw[zir c as bs];omega
theorem zrc(c:Bool):∀{as bs:Heap}{i:Nat}{b:Blk},(yce c as bs)[i]? = some b→b.live=true→∃x y,as[i]? = some x∧bs[i]? = some y∧b=yw9 c x y
 | [],bs,i,b,h,hl=>by
  simp only[yce,List.getElem?_map] at h
  cases hb:bs[i]? with
  | none=>rw[hb] at h;cases h
  | some y=>rw[hb] at h;simp only[Option.map_some,Option.some.injEq] at h;rw[← h] at hl;cases hl
 | a::as,[],i,b,h,hl=>by
  simp only[yce,List.getElem?_map] at h
  cases hb:(a::as)[i]? with
  | none=>rw[hb] at h;cases h
  | some y=>rw[hb] at h;simp only[Option.map_some,Option.some.injEq] at h;rw[← h] at hl;cases hl
 | a::as,d::bs,0,b,h,_=>by simp[yce] at h;exact⟨a,d,rfl,rfl,h.symm⟩
 | a::as,d::bs,i+1,b,h,hl=>by
  simp only[yce,List.getElem?_cons_succ] at h
  exact zrc c (as:=as) (bs:=bs) (i:=i) h hl
theorem yh5{ρ:Env}{w:World}{id:Nat}{c:Bool}{x y:Blk}(hl:(yw9 c x y).live=true)(h:Rb ρ w id (cond c x y)):Rb ρ w id (yw9 c x y)∧((yw9 c x y).own=true→(cond c x y).own=true)∧(cond c x y).live=true:=by
 unfold yw9 at hl ⊢
 split at hl
 · rename_i cs o ty ds o' ty'
   split at hl
   · rename_i hc
     obtain⟨hlen,rfl⟩:=hc
     rw[if_pos ⟨hlen,rfl⟩]
     cases c with
     | true =>
      obtain⟨L,vs,h1,h2,h3,h4,h5⟩:=h
      refine⟨⟨L,vs,h1,znd hlen h2,h3,fun ho j hj=>h4 ?_ j ?_,h5.1,by rw[zfc true hlen];exact h5.2⟩,fun ho => ?_,rfl⟩
      · simp only[Bool.and_eq_true] at ho;exact ho.1
      · rw[zfc true hlen] at hj;exact hj
      · simp only[Blk.own,Bool.and_eq_true] at ho;exact ho.1
     | false =>
      obtain⟨L,vs,h1,h2,h3,h4,h5⟩:=h
      refine⟨⟨L,vs,h1,zkn hlen h2,h3,fun ho j hj=>h4 ?_ j ?_,h5.1,by rw[zfc false hlen,hlen];exact h5.2⟩,fun ho => ?_,rfl⟩
      · simp only[Bool.and_eq_true] at ho;exact ho.2
      · rw[zfc false hlen] at hj;omega
      · simp only[Blk.own,Bool.and_eq_true] at ho;exact ho.2
   · cases hl
 · rename_i sh xs o sh' ys o'
   split at hl
   · rename_i hsh
     subst hsh
     rw[dif_pos rfl]
     cases c with
     | true =>
      refine⟨?_,fun ho => ?_,rfl⟩
      · rcases h with ⟨h1,h2⟩|⟨L,h1,h2,h3,h4⟩
        · exact .inl ⟨h1,h2⟩
        · exact .inr ⟨L,h1,h2,h3,fun ho=>h4 (by simp only[Bool.and_eq_true] at ho;exact ho.1)⟩
      · simp only[Blk.own,Bool.and_eq_true] at ho;exact ho.1
     | false =>
      refine⟨?_,fun ho => ?_,rfl⟩
      · rcases h with ⟨h1,h2⟩|⟨L,h1,h2,h3,h4⟩
        · exact .inl ⟨h1,h2⟩
        · exact .inr ⟨L,h1,h2,h3,fun ho=>h4 (by simp only[Bool.and_eq_true] at ho;exact ho.2)⟩
      · simp only[Blk.own,Bool.and_eq_true] at ho;exact ho.2
   · cases hl
 · cases hl
theorem Inv.less{B:Base}{sl sl2:List Av}{H H2:Heap}{a:Act}{w:World}(h:Inv B sl H a w)(hs:∀ρ,RvL ρ sl a.tmps.toList→RvL ρ sl2 a.tmps.toList)(hlen:H.length≤H2.length)
 (hb:∀(i:Nat)(b:Blk),H2[i]? = some b→b.live=true→∃c:Blk,H[i]? = some c∧c.live=true∧(b.own=true→c.own=true)∧∀ρ,Rb ρ w i c→Rb ρ w i b):Inv B sl2 H2 a w:=by
 obtain⟨h1,h2,h3,ρ,h4,h5,h6⟩:=h
 refine⟨h1,h2,⟨Nat.le_trans h3.le hlen,fun i b c hbb hc => ?_⟩,ρ,h4,fun ρ' ha => ?_,fun id blk L hid hbb hl hL => ?_⟩
 · cases hcl:c.live with
   | false=>cases c<;>simp[Blk.live] at hcl;exact⟨fun h=>(by cases h),fun h=>(by cases h)⟩
   | true =>
    obtain⟨d,g1,g2,g3,_⟩:=hb i c hc hcl
    obtain⟨f1,f2⟩:=h3.fl i b d hbb g1
    exact⟨fun h=>f1 (g3 h),fun _=>f2 g2⟩
 · obtain⟨q1,q2⟩:=h5 ρ' (ha.le hlen)
   refine⟨hs ρ' q1,fun i b hi => ?_,fun i j b c L M hi hj hne hbl hcl hoo hL hM => ?_,fun i b L hi hl hL => ?_⟩
   · cases hl:b.live with
     | false=>cases b<;>simp[Blk.live] at hl;trivial
     | true=>obtain⟨d,g1,_,_,g4⟩:=hb i b hi hl;exact g4 ρ' (q2.blk i d g1)
   · obtain⟨d,g1,g2,g3,_⟩:=hb i b hi hbl
     obtain⟨e,k1,k2,k3,_⟩:=hb j c hj hcl
     exact q2.sep i j d e L M g1 k1 hne g2 k2 (hoo.imp g3 k3) hL hM
   · obtain⟨d,g1,g2,_,_⟩:=hb i b hi hl
     exact q2.inb i d L g1 g2 hL
 · obtain⟨d,g1,g2,_,_⟩:=hb id blk hbb hl
   exact h6 id d L hid g1 g2 hL
theorem Inv.mrg_true{B:Base}{sl1 sl2:List Av}{H1 H2:Heap}{a:Act}{w:World}(h:Inv B sl1 H1 a w)(hl:sl1.length=sl2.length):Inv B (ynm true sl1 sl2) (yce true H1 H2) a w:=by
 refine h.less (fun ρ hs=>znd hl hs) (by rw[zir];omega) (fun i b hi hbl => ?_)
 obtain⟨x,y,h1,h2,rfl⟩:=zrc true hi hbl
 have hsrc:∀ρ,Rb ρ w i x→_:=fun ρ hx=>yh5 (c:=true) (x:=x) (y:=y) (ρ:=ρ) (w:=w) (id:=i) hbl hx
 refine⟨x,h1, ?_,fun ho => ?_,fun ρ hx=>(hsrc ρ hx).1⟩
 · obtain⟨_,_,_,ρ,_,h5,_⟩:=h
   exact (hsrc ρ ((h5 ρ (Agree.refl _ _)).2.blk i x h1)).2.2
 · obtain⟨_,_,_,ρ,_,h5,_⟩:=h
   exact (hsrc ρ ((h5 ρ (Agree.refl _ _)).2.blk i x h1)).2.1 ho
theorem Inv.mrg_false{B:Base}{sl1 sl2:List Av}{H1 H2:Heap}{a:Act}{w:World}(h:Inv B sl2 H2 a w)(hl:sl1.length=sl2.length):Inv B (ynm false sl1 sl2) (yce false H1 H2) a w:=by
 refine h.less (fun ρ hs=>zkn hl hs) (by rw[zir];omega) (fun i b hi hbl => ?_)
 obtain⟨x,y,h1,h2,rfl⟩:=zrc false hi hbl
 have hsrc:∀ρ,Rb ρ w i y→_:=fun ρ hx=>yh5 (c:=false) (x:=x) (y:=y) (ρ:=ρ) (w:=w) (id:=i) hbl hx
 refine⟨y,h2, ?_,fun ho => ?_,fun ρ hx=>(hsrc ρ hx).1⟩
 · obtain⟨_,_,_,ρ,_,h5,_⟩:=h
   exact (hsrc ρ ((h5 ρ (Agree.refl _ _)).2.blk i y h2)).2.2
 · obtain⟨_,_,_,ρ,_,h5,_⟩:=h
   exact (hsrc ρ ((h5 ρ (Agree.refl _ _)).2.blk i y h2)).2.1 ho
def and2:Option Prop→Option Prop→Option Prop
 | none,q=>q
 | some p,none=>some p
 | some p,some q=>some (p∧q)
theorem yfb{p q:Option Prop}(h:Hold (and2 p q)):Hold p∧Hold q:=by
 cases p<;>cases q<;>simp only[and2] at h<;>first|exact⟨trivial,h⟩|exact⟨h,trivial⟩|exact h
def if2(x:Bool):Option Prop→Option Prop→Option Prop
 | none,none=>none
 | some p,none=>some (x=true→p)
 | none,some q=>some (x=false→q)
 | some p,some q=>some ((x=true→p)∧(x=false→q))
theorem yyv{x:Bool}{p q:Option Prop}(h:Hold (if2 x p q)):(x=true→Hold p)∧(x=false→Hold q):=by
 cases p<;>cases q<;>simp only[if2] at h
 · exact⟨fun _=>trivial,fun _=>trivial⟩
 · exact⟨fun _=>trivial,h⟩
 · exact⟨h,fun _=>trivial⟩
 · exact h
def yzd(P:Program)(D:Dict):List Oper→List Av→Heap→Option (Option Prop × List Av × Heap)
 | [],sl,H=>some (none,sl,H)
 | o::ops,sl,H =>
  match o.op with
  | .panic _=>none
  | _=>match ysc P D o sl with
   | none=>match estep P (ΓK D 0) o sl H with
    | some (p,av,H')=>match yzd P D ops (zps sl o.dst av) H' with
     | some (q,sl2,H2)=>some (and2 p q,sl2,H2)
     | none=>none
    | none=>none
   | some _=>none
theorem yak{P:Program}{D:Dict}{K:Post}:∀{ops:List Oper}{sl:List Av}{H:Heap}{p:Option Prop}{sl2:List Av}{H2:Heap},yzd P D ops sl H=some (p,sl2,H2)→Hold p→K .nrm sl2 H2→yn3 P D ops K sl H
 | [],sl,H,p,sl2,H2,h,_,hk=>by
  simp only[yzd,Option.some.injEq,Prod.mk.injEq] at h
  obtain⟨_,rfl,rfl⟩:=h
  exact hk
 | o::ops,sl,H,p,sl2,H2,h,hp,hk=>by
  simp only[yzd] at h
  split at h
  · cases h
  · rename_i hne
    split at h
    · rename_i hw
      split at h
      · rename_i q av H' hs
        split at h
        · rename_i q2 s2 h2 hl
          simp only[Option.some.injEq,Prod.mk.injEq] at h
          obtain⟨rfl,rfl,rfl⟩:=h
          obtain⟨h1,h2'⟩:=yfb hp
          have ih:=yak (K:=K) hl h2' hk
          unfold yn3
          split
          · rename_i x hx;exact absurd hx (hne x)
          · rw[hw,hs]
            simp only
            cases q with
            | none=>exact ih
            | some q=>exact⟨h1,ih⟩
        · cases h
      · cases h
    · cases h
def lin(P:Program)(D:Dict):Code→List Av→Heap→Option (Option Prop × List Av × Heap)
 | .skip,sl,H=>some (none,sl,H)
 | .label _,sl,H=>some (none,sl,H)
 | .region _ ops draw,sl,H =>
  match !draw&&ops.toList.all (fun o=>o.guard.isNone) with
  | true=>yzd P D ops.toList sl H
  | false=>ziw P (fun _=>ΓK D 0) ops.toList draw sl H
 | .seq a b,sl,H=>match lin P D a sl H with
  | some (p,s1,h1)=>match lin P D b s1 h1 with
   | some (q,s2,h2)=>some (and2 p q,s2,h2)
   | none=>none
  | none=>none
 | .cond c a b,sl,H =>
  match evS sl c with
  | .tt=>lin P D a sl H
  | .ff=>lin P D b sl H
  | .v (.bool x)=>match lin P D a sl H,lin P D b sl H with
   | some (p,s1,h1),some (q,s2,h2)=>if s1.length=s2.length then some (if2 x p q,ynm x s1 s2,yce x h1 h2) else none
   | _,_=>none
  | _=>none
 | _,_,_=>none
theorem zm4{P:Program}(hm:P.follows .mixedOrders=true){D:Dict}(hD:DictOk P D){B:Base}:∀{c:Code}{sl:List Av}{H:Heap}{p:Option Prop}{sl2:List Av}{H2:Heap},lin P D c sl H=some (p,sl2,H2)→Hold p→∀{a:Act}{w:World},Inv B sl H a w →
 c.wp P (fun e a' w'=>e = .normal∧Inv B sl2 H2 a' w') a w
 | .skip,sl,H,p,sl2,H2,h,_,a,w,hi=>by
  simp only[lin,Option.some.injEq,Prod.mk.injEq] at h
  obtain⟨_,rfl,rfl⟩:=h
  exact wp_skip ⟨rfl,hi⟩
 | .label _,sl,H,p,sl2,H2,h,_,a,w,hi=>by
  simp only[lin,Option.some.injEq,Prod.mk.injEq] at h
  obtain⟨_,rfl,rfl⟩:=h
  exact wp_label ⟨rfl,hi⟩
 | .region id ops draw,sl,H,p,sl2,H2,h,hp,a,w,hi=>by
  simp only[lin] at h
  split at h
  · rename_i hc
    simp only[Bool.and_eq_true,Bool.not_eq_true'] at hc
    obtain⟨hd,hg⟩:=hc
    subst hd
    refine wp_region ?_
    have hr:=yak (K:=fun ex s h=>ex = .nrm∧s=sl2∧h=H2) h hp ⟨rfl,rfl,rfl⟩
    have:=zx7 hD (A:=ops) (Q:=fun e a' w'=>e = .normal∧Inv B sl2 H2 a' w') (by
     rintro e a' w' ⟨ex,s,h,rfl,hi',rfl,rfl,rfl⟩
     exact⟨rfl,hi'⟩) (i:=0) (fun j=>by simp) hg hr hi
    rw[List.range_eq_range',show ops.size=ops.toList.length by simp]
    exact this
  · have:=zua hm (Γ:=fun _=>ΓK D 0) (fun _=>yoo hD 0) h hp (B:=B) hi.2.2.1.le (Q:=fun e a' w'=>e = .normal∧Inv B sl2 H2 a' w') (fun a w hi'=>⟨rfl,hi'⟩) hi id
    rwa [Array.toArray_toList] at this
 | .seq x y,sl,H,p,sl2,H2,h,hp,a,w,hi=>by
  simp only[lin] at h
  split at h
  case h_2=>cases h
  rename_i p1 s1 h1 hx
  split at h
  case h_2=>cases h
  rename_i q s2 h2 hy
  simp only[Option.some.injEq,Prod.mk.injEq] at h
  obtain⟨rfl,rfl,rfl⟩:=h
  obtain⟨g1,g2⟩:=yfb hp
  refine wp_seq (wp_mono (zm4 hm hD (c:=x) hx g1 hi) ?_)
  rintro e a' w' ⟨rfl,hi'⟩
  exact zm4 hm hD (c:=y) hy g2 hi'
 | .cond c x y,sl,H,p,sl2,H2,h,hp,a,w,hi=>by
  obtain⟨_,_,_,ρ,_,hs,_⟩:=id hi
  have hev:=zcb (hs ρ (Agree.refl _ _)).1 c
  simp only[lin] at h
  split at h
  · rename_i e;rw[e] at hev
    exact wp_cond_true hev (zm4 hm hD (c:=x) h hp hi)
  · rename_i e;rw[e] at hev
    exact wp_cond_false hev (zm4 hm hD (c:=y) h hp hi)
  · rename_i t e;rw[e] at hev
    split at h
    case h_2=>cases h
    rename_i p1 s1 h1 q s2 h2 hx hy
    split at h
    case isFalse=>cases h
    rename_i hl
    simp only[Option.some.injEq,Prod.mk.injEq] at h
    obtain⟨rfl,rfl,rfl⟩:=h
    obtain⟨g1,g2⟩:=yyv hp
    refine wp_cond_split hev (fun ht => ?_) (fun ht => ?_)
    · subst ht
      refine wp_mono (zm4 hm hD (c:=x) hx (g1 rfl) hi) ?_
      rintro e a' w' ⟨rfl,hi'⟩
      exact⟨rfl,hi'.mrg_true hl⟩
    · subst ht
      refine wp_mono (zm4 hm hD (c:=y) hy (g2 rfl) hi) ?_
      rintro e a' w' ⟨rfl,hi'⟩
      exact⟨rfl,hi'.mrg_false hl⟩
  · cases h
 | .exit _,_,_,_,_,_,h,_,_,_,_=>by simp[lin] at h
 | .ret,_,_,_,_,_,h,_,_,_,_=>by simp[lin] at h
 | .block _ _,_,_,_,_,_,h,_,_,_,_=>by simp[lin] at h
 | .loop _,_,_,_,_,_,h,_,_,_,_=>by simp[lin] at h
 | .goto _,_,_,_,_,_,h,_,_,_,_=>by simp[lin] at h
 | .rangeFunc ..,_,_,_,_,_,h,_,_,_,_=>by simp[lin] at h
 | .scope _,_,_,_,_,_,h,_,_,_,_=>by simp[lin] at h
 | .refuse _,_,_,_,_,_,h,_,_,_,_=>by simp[lin] at h
def zm3(ops:List Oper)(o:Oper):Bool:=match zg8 (ops++[o]) [] with
 | some ancs=>(List.range ops.length).all fun j=>(ancs.getD ops.length 0).testBit j
 | none=>false
def zm2(ops:List Oper):Option (List Oper × Operand):=match ops.getLast? with
 | some o=>match o.op with
  | .panic x=>if ops.dropLast.all (fun o=>o.guard.isNone)&&o.guard.isNone&&zm3 ops.dropLast o then some (ops.dropLast,x) else none
  | _=>none
 | none=>none
theorem ypz{P:Program}{o:Oper}{a:Act}{w:World}{K:Act→World→Prop}{Q1 Q2:Exit→Act→World→Prop}(h:∀e a w,e ≠ .normal→Q1 e a w→Q2 e a w)(hh:o.wp P a w K Q1):o.wp P a w K Q2:=by
 have hlet:LetsOut Q1→LetsOut Q2:=fun ⟨a,w,q⟩=>⟨a,w,h _ _ _ (by simp) q⟩
 unfold Oper.wp at *
 generalize (execOp a.eval o).run P w=r at *
 cases r with
 | ok n w' =>
  cases n<;>simp only[Oper.upon] at hh ⊢ <;>
   first
    | exact hh
    | exact Calls.mono hh (fun e w'' he=>by cases e<;>first|exact he|exact h _ _ _ (by simp) he|exact hlet he)
 | halt x w'=>cases x<;>simp only[Oper.upon] at hh ⊢ <;> first|exact hh|exact h _ _ _ (by simp) hh
def QL(P:Program)(A:Array Oper)(n:Nat)(Q:Exit→Act→World→Prop):Exit→Act→World→Prop:=fun e a w=>match e with | .normal=>wpOp P A Q n (Q .normal) a w|e=>Q e a w
theorem yxt{P:Program}{A:Array Oper}{n:Nat}{Q:Exit→Act→World→Prop}:∀e a w,e ≠ .normal→QL P A n Q e a w→Q e a w:=fun e a w hne h=>by cases e<;>first|exact absurd rfl hne|exact h
theorem ymh{P:Program}{ops:List Oper}{o:Oper}(hg:ops.all (fun o=>o.guard.isNone)=true)(hw:zm3 ops o=true){Q:Exit→Act→World→Prop}:∀(fuel:Nat)(l:Array Bool)(a:Act)(w:World),l.size=ops.length→fuel=l.toList.countP (fun b => !b) →
 (∀i oi,ops[i]? = some oi→l.getD i false=true→∀e ∈ oi.after.toList,Region.binds .any e=true→l.getD e.on false=true) →
 wpAny P .any ops.toArray (QL P (ops++[o]).toArray ops.length Q) fuel l a w→wpAny P .any (ops++[o]).toArray Q (fuel+1) (l.push false) a w:=by
 unfold zm3 at hw
 split at hw
 case h_2=>cases hw
 rename_i ancs han
 obtain⟨_,hlen,hanc⟩:=zl6 han
 simp only[List.length_nil,Nat.zero_add,List.length_append,List.length_singleton] at hlen hanc
 have hall:=List.all_eq_true.1 hw
 have hpre:∀i,i<ops.length→(ops++[o])[i]? = ops[i]? := fun i hi=>List.getElem?_append_left hi
 have hlast:(ops++[o])[ops.length]? = some o:=by simp
 have hpush:∀(l:Array Bool)(i:Nat)(d:Bool),i<l.size→(l.push false).getD i d=l.getD i false:=by
  intro l i d hi
  simp[Array.getD,hi,Nat.lt_succ_of_lt hi,Array.getElem_push]
 have hon:∀i oi,ops[i]? = some oi→∀e ∈ oi.after.toList,Region.binds .any e=true→e.on<i:=by
  intro i oi hi e he hb
  have hil:i<ops.length:=by
   rcases Nat.lt_or_ge i ops.length with q|q
   · exact q
   · simp[List.getElem?_eq_none q] at hi
  exact (hanc i oi (by rw[hpre i hil];exact hi)).1 e (List.mem_filter.2 ⟨he,hb⟩)
 -- where the last is ready all others have come up
 have full:∀(l:Array Bool),l.size=ops.length→(∀i oi,ops[i]? = some oi→l.getD i false=true→∀e ∈ oi.after.toList,Region.binds .any e=true→l.getD e.on false=true) →
  (∀e ∈ o.after.toList,Region.binds .any e=true→(l.push false).getD e.on false=true)→∀j,j<ops.length→l.getD j false=true:=by
  intro l hsz hcl hrd
  have down:∀k,k<ops.length→l.getD k false=true→∀j,zoi ancs j k→l.getD j false=true:=by
   intro k
   induction k using Nat.strongRecOn with
   | _ k ih =>
    intro hk hlk j hj
    obtain⟨e,he,hje⟩:=((hanc k _ (by rw[hpre k hk];exact List.getElem?_eq_getElem hk)).2 j).1 hj
    obtain⟨he1,he2⟩:=List.mem_filter.1 he
    have h1:=hcl k _ (List.getElem?_eq_getElem hk) hlk e he1 he2
    have h2:=hon k _ (List.getElem?_eq_getElem hk) e he1 he2
    rcases hje with rfl|hje
    · exact h1
    · exact ih e.on h2 (by omega) h1 j hje
  intro j hj
  have hd:zoi ancs j ops.length:=hall j (List.mem_range.2 hj)
  obtain⟨q1,q2⟩:=hanc ops.length o hlast
  obtain⟨e,he,hje⟩:=(q2 j).1 hd
  obtain⟨he1,he2⟩:=List.mem_filter.1 he
  have h1:=hrd e he1 he2
  have h2:e.on<ops.length:=q1 e he
  rw[hpush l e.on false (by omega)] at h1
  rcases hje with rfl|hje
  · exact h1
  · exact down e.on h2 h1 j hje
 have rdy:∀(l:Array Bool),l.size=ops.length→∀i,i<ops.length→(i ∈ Region.ready .any (ops++[o]).toArray (l.push false)↔i ∈ Region.ready .any ops.toArray l):=by
  intro l hsz i hi
  rw[mem_ready,mem_ready]
  have e1:(l.push false).getD i true=l.getD i true:=by simp[Array.getD,hsz,hi,Nat.lt_succ_of_lt hi,Array.getElem_push]
  have e2:(ops++[o]).toArray[i]? = ops.toArray[i]? := by simpa using hpre i hi
  rw[e1,e2]
  constructor
  · rintro⟨h0,oi,ho,h⟩
    refine⟨h0,oi,ho,fun e he hb => ?_⟩
    have:=h e he hb
    have hlt:=hon i oi (by simpa using ho) e (by simpa using he) hb
    rwa [hpush l e.on false (by omega)] at this
  · rintro⟨h0,oi,ho,h⟩
    refine⟨h0,oi,ho,fun e he hb => ?_⟩
    have:=h e he hb
    have hlt:=hon i oi (by simpa using ho) e (by simpa using he) hb
    rwa [hpush l e.on false (by omega)]
 have opT:∀{i:Nat}{K:Act→World→Prop}{a:Act}{w:World},i<ops.length→wpOp P ops.toArray (QL P (ops++[o]).toArray ops.length Q) i K a w→wpOp P (ops++[o]).toArray Q i K a w:=by
  intro i K a w hi h
  unfold wpOp at h ⊢
  have e2:(ops++[o]).toArray[i]? = ops.toArray[i]? := by simpa using hpre i hi
  rw[e2]
  split
  · rename_i hn;simp only[hn] at h;exact h
  · rename_i oi ho
    simp only[ho] at h
    have hgi:oi.guard=none:=by
     have:=List.all_eq_true.1 hg oi (List.mem_of_getElem? (by simpa using ho))
     simpa using this
    have hwt:∀f,Region.wanted oi f=true:=fun f=>by unfold Region.wanted;rw[hgi]
    rw[if_pos (hwt _)] at h ⊢
    exact h.imp (ypz yxt) (fun ⟨x,y,z,q⟩=>⟨x,y,z,yxt _ _ _ (by simp) q⟩)
 -- what is ready at the end
 have nrd:∀(l:Array Bool)(i:Nat),l.size=ops.length→i ∈ Region.ready .any (ops++[o]).toArray (l.push false)→i≤ops.length:=by
  intro l i hsz h
  obtain⟨_,oi,ho,_⟩:=mem_ready.1 h
  have:=(Array.getElem?_eq_some_iff.1 ho).1
  simp at this
  omega
 have done:∀(l:Array Bool)(a:Act)(w:World),l.size=ops.length→(∀j,j<ops.length→l.getD j false=true)→QL P (ops++[o]).toArray ops.length Q .normal a w→wpAny P .any (ops++[o]).toArray Q 1 (l.push false) a w:=by
  intro l a w hsz hl hQ
  have hrdy:ops.length ∈ Region.ready .any (ops++[o]).toArray (l.push false):=by
   refine mem_ready.2 ⟨by simp[Array.getD,hsz,Array.getElem_push],o,by simp,fun e he hb => ?_⟩
   have h2:e.on<ops.length:=(hanc ops.length o hlast).1 e (List.mem_filter.2 ⟨by simpa using he,hb⟩)
   rw[hpush l e.on false (by omega)]
   exact hl e.on h2
  refine⟨fun hnil=>(by rw[hnil] at hrdy;cases hrdy),fun i hi => ?_⟩
  have hle:=nrd l i hsz hi
  rcases Nat.lt_or_ge i ops.length with q|q
  · obtain⟨h0,_⟩:=mem_ready.1 hi
    have e1:(l.push false).getD i true=l.getD i false:=hpush l i true (by omega)
    rw[e1,hl i q] at h0
    cases h0
  · have e:i=ops.length:=by omega
    subst e
    refine wpOp_mono (fun a' w' h' => ?_) hQ
    refine⟨List.eq_nil_iff_forall_not_mem.2 (fun j hj => ?_),h'⟩
    obtain⟨h0,oj,ho,_⟩:=mem_ready.1 hj
    have hjl:=(Array.getElem?_eq_some_iff.1 ho).1
    simp at hjl
    rcases Nat.lt_or_ge j ops.length with q2|q2
    · have e2:((l.push false).setIfInBounds ops.length true).getD j true=l.getD j false:=by
       rw[getD_set_ne true (by omega)];exact hpush l j true (by omega)
      rw[e2,hl j q2] at h0
      cases h0
    · have:j=ops.length:=by omega
      subst this
      simp[Array.getD,hsz] at h0
 intro fuel
 induction fuel with
 | zero =>
  intro l a w hsz hc hcl h
  have hl:∀j,j<ops.length→l.getD j false=true:=by
   intro j hj
   refine zme l.toList (by omega) j _ ?_
   simp[Array.getD,hsz,hj]
  exact done l a w hsz hl h.2
 | succ fuel ih =>
  intro l a w hsz hc hcl h
  have low:∀j,j<ops.length→l.getD j false=false→∃i,i<ops.length∧l.getD i false=false∧i ∈ Region.ready .any ops.toArray l:=by
   intro j
   induction j using Nat.strongRecOn with
   | _ j ihj =>
    intro hj hlj
    by_cases c:∀e ∈ (ops[j]).after.toList,Region.binds .any e=true→l.getD e.on false=true
    · refine⟨j,hj,hlj,mem_ready.2 ⟨?_,ops[j],by simp[hj],fun e he hb=>c e (by simpa using he) hb⟩⟩
      rw[← hlj]
      simp[Array.getD,hsz,hj]
    · simp only[Classical.not_forall] at c
      obtain⟨e,he,hb,hn⟩:=c
      have h2:=hon j _ (List.getElem?_eq_getElem hj) e he hb
      exact ihj e.on h2 (by omega) (by simpa using hn)
  have hex:∃i,i<ops.length∧l.getD i false=false∧i ∈ Region.ready .any ops.toArray l:=by
   have hpos:0<l.toList.countP (fun b => !b):=by omega
   obtain⟨b,hb1,hb2⟩:=List.countP_pos_iff.1 hpos
   obtain⟨j,hj,rfl⟩:=List.mem_iff_getElem.1 hb1
   have hj':j<l.size:=by simpa using hj
   refine low j (by omega) ?_
   have:l.toList[j]=l[j]:=by simp
   simp only[Array.getD,hj',dif_pos]
   rw[this] at hb2
   simpa using hb2
  obtain⟨i0,hi0,hf0,hr0⟩:=hex
  refine⟨fun hnil => ?_,fun i hi => ?_⟩
  · have:=(rdy l hsz i0 hi0).2 hr0
    rw[hnil] at this
    cases this
  · have hle:=nrd l i hsz hi
    rcases Nat.lt_or_ge i ops.length with q|q
    · have hir:=(rdy l hsz i q).1 hi
      obtain⟨hn0,oi,hoi,haft⟩:=mem_ready.1 hir
      refine wpOp_mono (fun a' w' h' => ?_) (opT q (h.2 i hir))
      have e:(l.push false).setIfInBounds i true=(l.setIfInBounds i true).push false:=by
       apply Array.ext
       · simp
       · intro j h1 h2
         have hjl:j<l.size+1:=by simpa using h1
         rcases Nat.lt_or_ge j l.size with z|z
         · by_cases c:i=j
           · subst c;simp[Array.getElem_push,z]
           · rw[Array.getElem_setIfInBounds (by simpa using hjl),if_neg c,Array.getElem_push,dif_pos z,Array.getElem_push,dif_pos (by simpa using z),Array.getElem_setIfInBounds z,if_neg c]
         · have:j=l.size:=by omega
           subst this
           have:i≠l.size:=by omega
           rw[Array.getElem_setIfInBounds (by simp),if_neg this,Array.getElem_push,dif_neg (by simp),Array.getElem_push,dif_neg (by simp)]
      rw[e]
      have hset:∀j,(l.setIfInBounds i true).getD j false=if j=i then true else l.getD j false:=by
       intro j
       by_cases c:j=i
       · subst c;simp[Array.getD,hsz,q]
       · rw[if_neg c,getD_set_ne false (fun h=>c h.symm)]
      refine ih (l.setIfInBounds i true) a' w' (by simpa using hsz) ?_ (fun k ok hk hlk e' he' hb' => ?_) h'
      · have:=zmf l.toList i (by
         have h1:l.getD i true=l[i]'(by omega):=by simp[Array.getD,hsz,q]
         rw[h1] at hn0
         simp[hsz,q,hn0])
        simp only[Array.toList_setIfInBounds]
        omega
      · rw[hset] at hlk ⊢
        by_cases ce:e'.on=i
        · rw[if_pos ce]
        · rw[if_neg ce]
          by_cases ck:k=i
          · subst ck
            have:ok=oi:=by
             have h1:ops[k]? = some oi:=by simpa using hoi
             rw[hk] at h1
             exact Option.some.inj h1
            subst this
            exact haft e' (by simpa using he') hb'
          · rw[if_neg ck] at hlk
            exact hcl k ok hk hlk e' he' hb'
    · exfalso
      have:i=ops.length:=by omega
      subst this
      obtain⟨_,oi,hoi,haft⟩:=mem_ready.1 hi
      have:oi=o:=by
       have h1:(ops++[o])[ops.length]? = some oi:=by simpa using hoi
       rw[hlast] at h1
       exact (Option.some.inj h1).symm
      subst this
      have:=full l hsz hcl (fun e he hb=>haft e (by simpa using he) hb) i0 hi0
      rw[hf0] at this
      cases this
theorem ycm{P:Program}{Γ:Nat→Sums}{ops:List Oper}{sl0:List Av}{H0:Heap}(hΓ:∀i,zib P (Γ i)){p:Option Prop}{sl:List Av}{H:Heap}(h:ziw P Γ ops true sl0 H0=some (p,sl,H))(hold:Hold p){B:Base}(hBn:B.H.length≤H0.length){Q:Exit→Act→World→Prop}
 (hfin:∀a w,Inv B sl H a w→Q .normal a w) {a:Act} {w:World} (hinv:Inv B sl0 H0 a w):wpAny P .any ops.toArray Q ops.length (Array.replicate ops.length false) a w:=by
 unfold ziw at h
 split at h
 case h_2=>cases h
 rename_i s hrun
 simp only[if_true] at h
 cases hok:zic ops s.R H0.length with
 | false=>rw[hok] at h;simp at h
 | true =>
 rw[hok] at h
 simp only[if_true,Option.some.injEq,Prod.mk.injEq] at h
 obtain⟨rfl,rfl,rfl⟩:=h
 have hr:=yrk hrun
 have hfin':∀a w,InvS B s.R sl0 H0 s.H.length every a w→Q .normal a w:=fun a w h=>hfin a w (yg2 hr h)
 have han:∃ancs,zg8 ops []=some ancs:=by
  have hok':zic ops s.R H0.length=true:=hok
  unfold zic at hok'
  cases e:zg8 ops [] with
  | none=>rw[e] at hok';cases hok'
  | some x=>exact⟨x,rfl⟩
 obtain⟨ancs,han⟩:=han
 have hrep:∀(n j:Nat),(Array.replicate n false).getD j false=false:=by
  intro n j
  by_cases q:j<n<;>simp[Array.getD,q]
 refine yqf hΓ hr hok hold hBn hfin' han ops.length (Array.replicate ops.length false) a _ (by simp) ?_ (fun j k hj _ => ?_) ((zmw hr.st.big hinv).congr fun j _=>(hrep _ _).symm)
 · refine Nat.le_trans List.countP_le_length (by simp)
 · rw[hrep] at hj;cases hj
theorem zx1{P:Program}{D:Dict}(hD:DictOk P D){ops:List Oper}{sl:List Av}{H:Heap}{K:List Av→Heap→Prop}(h:znk P D ops true sl H K){B:Base}(hBn:B.H.length≤H.length)
 {Q:Exit→Act→World→Prop} (hQ:∀sl' H',K sl' H'→∀a w,Inv B sl' H' a w→Q .normal a w) {a:Act} {w:World} (hinv:Inv B sl H a w):wpAny P .any ops.toArray Q ops.length (Array.replicate ops.length false) a w:=by
 obtain⟨Γ,h1,sf,h2,⟨R,h3,h4⟩,h5⟩:=zrn h
 split at h5
 case h_2=>exact h5.elim
 rename_i hok
 have hΓ:∀i,zib P (Γ i):=fun i=>by obtain⟨k,hk⟩:=h1 i;rw[hk];exact yoo hD k
 have hold:Hold (zep sf.R):=by
  have:sf.R=R++[]:=by rw[h3];simp
  rw[this]
  exact zgi h4 trivial
 refine ycm hΓ (p:=zep sf.R) (sl:=yre sf.R sf.sl) (H:=ynu sf.R sf.H) ?_ hold hBn (fun a w hi=>hQ _ _ h5 a w hi) hinv
 unfold ziw
 rw[h2]
 simp only at hok ⊢
 simp[hok]
theorem zx2{P:Program}(hm:P.follows .mixedOrders=true){D:Dict}(hD:DictOk P D){ops:List Oper}{pre:List Oper}{x:Operand}(hl:zm2 ops=some (pre,x)){sl:List Av}{H:Heap}{K:Post}{B:Base}(hBn:B.H.length≤H.length)
 (h:znk P D pre true sl H (fun sl H=>match evS sl x with | .ifc t b=>zxr K sl H (.ifc t b)|_=>False)) {a:Act} {w:World} (hi:Inv B sl H a w) (id:Nat):(Code.region id ops.toArray true).wp P (QK B K) a w:=by
 unfold zm2 at hl
 split at hl
 case h_2=>cases hl
 rename_i o ho
 split at hl
 case h_2=>cases hl
 rename_i x0 hop
 split at hl
 case isFalse=>cases hl
 rename_i hc
 simp only[Option.some.injEq,Prod.mk.injEq] at hl
 obtain⟨rfl,rfl⟩:=hl
 simp only[Bool.and_eq_true] at hc
 obtain⟨⟨hg,hgo⟩,hwt⟩:=hc
 have eops:ops=ops.dropLast++[o]:=by
  rw[List.getLast?_eq_some_iff] at ho
  obtain⟨ys,rfl⟩:=ho
  simp
 generalize ops.dropLast=pre at *
 subst eops
 refine wp_region_any hm ?_
 have hi':Inv B sl H a { w with drawn:=w.drawn+1 }:=hi.world ⟨Nat.le_refl _,fun _ _ _=>rfl,rfl,rfl,rfl⟩
 have e1:(Array.replicate (pre++[o]).toArray.size false)=(Array.replicate pre.length false).push false:=by
  rw[show (pre++[o]).toArray.size=pre.length+1 by simp,Array.replicate_succ]
 rw[e1,show (pre++[o]).toArray.size=pre.length+1 by simp]
 refine ymh hg hwt pre.length (Array.replicate pre.length false) a _ (by simp) ?_ (fun i oi _ hl => ?_) (zx1 hD h hBn (fun sl' H' hk a' w' hi2 => ?_) hi')
 · simp[List.countP_replicate]
 · by_cases q:i<pre.length<;>simp[Array.getD,q] at hl
 · unfold QL wpOp
   have hat:(pre++[o]).toArray[pre.length]? = some o:=by simp
   simp only[hat]
   have hgn:o.guard=none:=by simpa using hgo
   rw[if_pos (by unfold Region.wanted;rw[hgn])]
   left
   obtain⟨_,_,_,ρ,_,i5,_⟩:=(show Inv B sl' H' a' w' from hi2)
   have hx:=zcb (i5 ρ (Agree.refl _ _)).1 x0
   split at hk
   case h_2=>exact hk.elim
   rename_i t b e
   rw[e] at hx
   have hk2:=zrh hk hx
   have hx2:=hx
   simp only[Rv] at hx2
   obtain⟨u,hu,_⟩:=hx2
   unfold Oper.wp
   have hrun:(execOp a'.eval o).run P w' = .halt (.panic (a'.eval x0)) w':=by
    simp[execOp,hop,hu,Instr.panic,goPanic]
   rw[hrun]
   exact⟨.pan (a'.eval x0),sl',H',rfl,hi2,hk2⟩
def zt1:Nat→Av→Av→List (Nat × Option Nat)
 | 0,_,_=>[]
 | _+1,.ptr i _,.ptr j _=>[(i,some j)]
 | _+1,.eptr i _ _ _,.eptr j _ _ _=>[(i,some j)]
 | _+1,.sl i _ _ _,.sl j _ _ _=>[(i,some j)]
 | _+1,.sl i _ _ _,.v (.slice _ 0 0)=>[(i,none)]
 | n+1,.agg cs,.agg ds=>(cs.zip ds).flatMap fun p=>zt1 n p.1 p.2
 | n+1,.tup cs,.tup ds=>(cs.zip ds).flatMap fun p=>zt1 n p.1 p.2
 | n+1,.fn _ cs,.fn _ ds=>(cs.zip ds).flatMap fun p=>zt1 n p.1 p.2
 | n+1,.ifc _ x,.ifc _ y=>zt1 n x y
 | _+1,.opq is _,.opq js _=>is.zip (js.map some)
 | _,_,_=>[]
def yrf(cs ds:List Av):List (Nat × Option Nat):=(cs.zip ds).flatMap fun p=>zt1 8 p.1 p.2
def yzk:Blk→Blk→List (Nat × Option Nat)
 | .fix cs _ _,.fix ds _ _=>yrf cs ds
 | .ob _ is _ _,.ob _ js _ _=>is.zip (js.map some)
 | _,_=>[]
def phi:Nat→Nat→Heap→Heap→List Nat→Ren→List (Nat × Option Nat)→Ren
 | 0,_,_,_,_,φ,_=>φ
 | _+1,_,_,_,_,φ,[]=>φ
 | n+1,n0,H2,H1,seen,φ,(i,o)::todo =>
  match seen.contains i with
  | true=>phi n n0 H2 H1 seen φ todo
  | false =>
   let more:=match o with|some j=>yzk (H2.getD i .dead) (H1.getD j .dead)|none=>[]
   phi n n0 H2 H1 (i::seen) (if i<n0 then φ else (i,o)::φ) (more++todo)
def yzl(n0:Nat)(sl2:List Av)(H2:Heap)(sl1:List Av)(H1:Heap):Ren:=phi 300 n0 H2 H1 [] [] ((List.range n0).map (fun i=>(i,some i))++yrf sl2 sl1)
def zf3(n0:Nat)(sl2:List Av)(H2:Heap)(sl1:List Av)(H1:Heap):Prop:=match yx3 n0 (yzl n0 sl2 H2 sl1 H1) sl2 H2 sl1 H1 with|some ps=>zsy ps|none=>False
theorem zf3.inv{B:Base}{sl1 sl2:List Av}{H1 H2:Heap}{a:Act}{w:World}(hf:zf3 B.H.length sl2 H2 sl1 H1)(h:Inv B sl1 H1 a w):Inv B sl2 H2 a w:=by
 unfold zf3 at hf
 split at hf
 · rename_i ps hp;exact h.recast ⟨ps,hp,hf⟩
 · exact hf.elim
structure Fam (α:Type) where
 β:Type
 out:α→β→Prop
 ex:Ex
 pv:β→Value:=fun _=>undef
 sl:β→List Av
 H:β→Heap
def Fam.exAt{α:Type}(f:Fam α)(z:f.β):Ex:=match f.ex with | .pan _ => .pan (f.pv z)|e=>e
structure LoopS where
 α:Type
 I:α→Prop
 sl:α→List Av
 H:α→Heap
 fams:List (Fam α)
structure CutS where
 β:Type
 sl:β→List Av
 H:β→Heap
structure Specs where
 loop:Nat→Option LoopS
 cond:Nat→Option CutS
 blk:Nat→Option CutS
 join:Nat→Bool
 cut:Nat→Option CutS
 pick:Nat→Option Bool:=fun _ => .none
def Specs.none:Specs:=⟨fun _ => .none,fun _ => .none,fun _ => .none,fun _=>false,fun _ => .none,fun _ => .none⟩
def Specs.joins:Specs:=⟨fun _ => .none,fun _ => .none,fun _ => .none,fun _=>true,fun _ => .none,fun _ => .none⟩
def zbj:Code→Option Nat
 | .region id _ _=>some id
 | .seq a b=>match zbj a with|some k=>some k|none=>zbj b
 | .cond _ a b=>match zbj a with|some k=>some k|none=>zbj b
 | .block _ c=>zbj c
 | .loop c=>zbj c
 | _=>none
def zap:Code→List Code
 | .seq a b=>zap a++zap b
 | .cond _ a b=>zap a++zap b
 | .block _ c=>zap c
 | .loop c=>c::zap c
 | _=>[]
def yvu(K1:List Av→Heap→Prop)(K:Post):Post
 | .nrm,sl,H=>K1 sl H
 | e,sl,H=>K e sl H
def yqg(id:Nat)(K:Post):Post
 | .ext j,sl,H=>match j==id with|true=>K .nrm sl H|false=>K (.ext j) sl H
 | e,sl,H=>K e sl H
def cutK(n0:Nat)(C:CutS)(J:C.β→Prop)(K:Post):Post
 | .nrm,sl,H=>∃z,zf3 n0 (C.sl z) (C.H z) sl H∧J z
 | e,sl,H=>K e sl H
def famsP{α:Type}(fs:List (Fam α))(x:α)(K:Post):Prop:=zsy (fs.map fun f=>∀z,f.out x z→K (f.exAt z) (f.sl z) (f.H z))
def meet(n0:Nat)(C:Option CutS)(K:Post)(body:Post→Prop):Prop :=
 match C with
 | none=>body K
 | some C=>∃J:C.β→Prop,body (cutK n0 C J K)∧∀z,J z→K .nrm (C.sl z) (C.H z)
def yzt(P:Program)(D:Dict)(ops:Array Oper)(draw:Bool)(K:Post)(sl:List Av)(H:Heap):Prop:=match !draw&&ops.toList.all (fun o=>o.guard.isNone) with
 | true=>yn3 P D ops.toList K sl H
 | false=>match draw,zm2 ops.toList with
  | true,some (pre,x)=>znk P D pre true sl H (fun sl H=>match evS sl x with | .ifc t b=>zxr K sl H (.ifc t b)|_=>False)
  | draw,_=>znk P D ops.toList draw sl H (K .nrm)
def vcC(P:Program)(D:Dict)(Ξ:Specs)(n0:Nat):Code→Post→List Av→Heap→Prop
 | .skip,K,sl,H=>K .nrm sl H
 | .label _,K,sl,H=>K .nrm sl H
 | .exit id,K,sl,H=>K (.ext id) sl H
 | .ret,K,sl,H=>K .ret sl H
 | .region id ops draw,K,sl,H=>match Ξ.cut id with
  | none=>yzt P D ops draw K sl H
  | some C=>∃z,zf3 n0 (C.sl z) (C.H z) sl H∧yzt P D ops draw K (C.sl z) (C.H z)
 | .seq a b,K,sl,H=>vcC P D Ξ n0 a (yvu (fun sl H=>vcC P D Ξ n0 b K sl H) K) sl H
 | .cond c a b,K,sl,H =>
  match (match (match zbj a with|some k=>Ξ.join k|none=>match zbj b with|some k=>Ξ.join k|none=>false) with
   | true=>lin P D (.cond c a b) sl H
   | false=>none) with
  | some (p,s2,H2)=>yw5 p (K .nrm s2 H2)
  | none =>
   match evS sl c with
   | .tt=>vcC P D Ξ n0 a K sl H
   | .ff=>vcC P D Ξ n0 b K sl H
   | .v (.bool x) =>
    match (match zbj a with|some k=>Ξ.pick k|none=>match zbj b with|some k=>Ξ.pick k|none=>none) with
    | some true=>x=true∧vcC P D Ξ n0 a K sl H
    | some false=>x=false∧vcC P D Ξ n0 b K sl H
    | none=>meet n0 (match zbj a with|some k=>Ξ.cond k|none=>match zbj b with|some k=>Ξ.cond k|none=>none) K fun K'=>(x=true→vcC P D Ξ n0 a K' sl H)∧(x=false→vcC P D Ξ n0 b K' sl H)
   | .q p=>(p→vcC P D Ξ n0 a K sl H)∧vcC P D Ξ n0 b K sl H
   | _=>False
 | .block id c,K,sl,H=>meet n0 (Ξ.blk id) K fun K'=>vcC P D Ξ n0 c (yqg id K') sl H
 | .loop body,K,sl,H =>
  match zbj body with
  | some k=>match Ξ.loop k with
   | some L=>∃x:L.α,zf3 n0 (L.sl x) (L.H x) sl H∧L.I x∧famsP L.fams x K
   | none=>False
  | none=>False
 | _,_,_,_=>False
def zqw{α:Type}(fs:List (Fam α))(x:α)(ex:Ex)(sl:List Av)(H:Heap):Prop:=∃f ∈ fs,∃z,f.out x z∧f.exAt z=ex∧f.sl z=sl∧f.H z=H
def zbr(P:Program)(n0:Nat)(body:Code)(L:LoopS):Prop :=
 ∀(B:Base),B.H.length=n0→∀x,L.I x→∀a w,Inv B (L.sl x) (L.H x) a w→(Code.loop body).wp P (QK B (zqw L.fams x)) a w
theorem yh3{P:Program}{n0:Nat}{C:Option CutS}{K:Post}{body:Post→Prop}(h:meet n0 C K body){B:Base}(hB:B.H.length=n0){c:Code}{a:Act}{w:World}(hb:∀K',body K'→c.wp P (QK B K') a w):c.wp P (QK B K) a w:=by
 unfold meet at h
 split at h
 · exact hb K h
 · rename_i C
   obtain⟨J,h1,h2⟩:=h
   refine wp_mono (hb _ h1) ?_
   rintro e a' w' ⟨ex,sl,H,rfl,hi,hk⟩
   cases ex with
   | nrm =>
    obtain⟨z,hf,hJ⟩:=hk
    exact⟨.nrm,_,_,rfl,zf3.inv (hB ▸ hf) hi,h2 z hJ⟩
   | ext id=>exact⟨.ext id,sl,H,rfl,hi,hk⟩
   | ret=>exact⟨.ret,sl,H,rfl,hi,hk⟩
   | pan v=>exact⟨.pan v,sl,H,rfl,hi,hk⟩
theorem yio{P:Program}(hm:P.follows .mixedOrders=true){D:Dict}(hD:DictOk P D){B:Base}{ops:Array Oper}{draw:Bool}{K:Post}{sl:List Av}{H:Heap}(h:yzt P D ops draw K sl H){a:Act}{w:World}(hi:Inv B sl H a w)(id:Nat):(Code.region id ops draw).wp P (QK B K) a w:=by
 unfold yzt at h
 split at h
 · rename_i hc
   simp only[Bool.and_eq_true,Bool.not_eq_true'] at hc
   obtain⟨hd,hg⟩:=hc
   subst hd
   refine wp_region ?_
   have:=zx7 hD (A:=ops) (Q:=QK B K) (fun _ _ _ h=>h) (i:=0) (fun j=>by simp) hg h hi
   rw[List.range_eq_range',show ops.size=ops.toList.length by simp]
   exact this
 split at h
 · rename_i pre x hl _
   have:=zx2 hm hD hl (B:=B) hi.2.2.1.le h hi id
   rwa [Array.toArray_toList] at this
 have:=ycl hm hD h (B:=B) hi.2.2.1.le (Q:=QK B K) (fun sl' H' hk a w hi'=>⟨.nrm,sl',H',rfl,hi',hk⟩) hi id
 rwa [Array.toArray_toList] at this
theorem zhr{P:Program}(hm:P.follows .mixedOrders=true){D:Dict}(hD:DictOk P D){Ξ:Specs}{n0:Nat}{B:Base}(hB:B.H.length=n0):∀{c:Code}{K:Post}{sl:List Av}{H:Heap},(∀b ∈ zap c,∀k L,zbj b=some k→Ξ.loop k=some L→zbr P n0 b L) →
    vcC P D Ξ n0 c K sl H→∀{a:Act}{w:World},Inv B sl H a w→c.wp P (QK B K) a w
  | .skip,K,sl,H,_,h,a,w,hi=>wp_skip ⟨.nrm,sl,H,rfl,hi,h⟩
  | .label _,K,sl,H,_,h,a,w,hi=>wp_label ⟨.nrm,sl,H,rfl,hi,h⟩
  | .exit id,K,sl,H,_,h,a,w,hi=>wp_exit ⟨.ext id,sl,H,rfl,hi,h⟩
  | .ret,K,sl,H,_,h,a,w,hi=>wp_ret ⟨.ret,sl,H,rfl,hi,h⟩
  | .region id ops draw,K,sl,H,_,h,a,w,hi=>by
    simp only[vcC] at h
    split at h
    · exact yio hm hD h hi id
    · obtain⟨z,hf,h⟩:=h
      exact yio hm hD h (zf3.inv (hB ▸ hf) hi) id
  | .seq x y,K,sl,H,hl,h,a,w,hi=>by
    refine wp_seq (wp_mono (zhr hm hD hB (c:=x) (fun b hb=>hl b (by simp[zap,hb])) h hi) ?_)
    rintro e a' w' ⟨ex,sl',H',rfl,hi',hk⟩
    cases ex with
    | nrm=>exact zhr hm hD hB (c:=y) (fun b hb=>hl b (by simp[zap,hb])) hk hi'
    | ext id=>exact⟨.ext id,sl',H',rfl,hi',hk⟩
    | ret=>exact⟨.ret,sl',H',rfl,hi',hk⟩
    | pan v=>exact⟨.pan v,sl',H',rfl,hi',hk⟩
  | .cond c x y,K,sl,H,hl,h,a,w,hi=>by
    have hla:∀b ∈ zap x,∀k L,zbj b=some k→Ξ.loop k=some L→zbr P n0 b L:=fun b hb=>hl b (by simp[zap,hb])
    have hlb:∀b ∈ zap y,∀k L,zbj b=some k→Ξ.loop k=some L→zbr P n0 b L:=fun b hb=>hl b (by simp[zap,hb])
    obtain⟨_,_,_,ρ,_,hs,_⟩:=id hi
    have hev:=zcb (hs ρ (Agree.refl _ _)).1 c
    simp only[vcC] at h
    split at h
    · rename_i p s2 H2 hlin
      split at hlin
      · obtain⟨hp,hk⟩:=zwv h
        refine wp_mono (zm4 hm hD hlin hp hi) ?_
        rintro e a' w' ⟨rfl,hi'⟩
        exact⟨.nrm,s2,H2,rfl,hi',hk⟩
      · cases hlin
    split at h
    · rename_i e;rw[e] at hev
      exact wp_cond_true hev (zhr hm hD hB hla h hi)
    · rename_i e;rw[e] at hev
      exact wp_cond_false hev (zhr hm hD hB hlb h hi)
    · rename_i t e;rw[e] at hev
      split at h
      · obtain⟨rfl,h⟩:=h
        exact wp_cond_true hev (zhr hm hD hB hla h hi)
      · obtain⟨rfl,h⟩:=h
        exact wp_cond_false hev (zhr hm hD hB hlb h hi)
      refine yh3 h hB (fun K' hk => ?_)
      exact wp_cond_split hev (fun ht=>zhr hm hD hB hla (hk.1 ht) hi) (fun ht=>zhr hm hD hB hlb (hk.2 ht) hi)
    · rename_i p e;rw[e] at hev
      simp only[Rv] at hev
      obtain⟨b,hb,hbp⟩:=hev
      cases b
      · exact wp_cond_false hb (zhr hm hD hB hlb h.2 hi)
      · exact wp_cond_true hb (zhr hm hD hB hla (h.1 (hbp rfl)) hi)
    · exact h.elim
  | .block id c,K,sl,H,hl,h,a,w,hi=>by
    simp only[vcC] at h
    refine yh3 h hB (fun K' hk=>wp_block (wp_mono (zhr hm hD hB (c:=c) (fun b hb=>hl b (by simpa[zap] using hb)) hk hi) ?_))
    rintro e a' w' ⟨ex,sl',H',rfl,hi',hk'⟩
    cases ex with
    | nrm=>exact⟨.nrm,sl',H',rfl,hi',hk'⟩
    | ret=>exact⟨.ret,sl',H',rfl,hi',hk'⟩
    | pan v=>exact⟨.pan v,sl',H',rfl,hi',hk'⟩
    | ext j =>
      simp only[zta,Exit.inBlock]
      simp only[yqg] at hk'
      split at hk'
      · rename_i e
        have:j=id:=by simpa using e
        rw[if_pos this]
        exact⟨.nrm,sl',H',rfl,hi',hk'⟩
      · rename_i e
        have:¬ j=id:=by simpa using e
        rw[if_neg this]
        exact⟨.ext j,sl',H',rfl,hi',hk'⟩
  | .loop body,K,sl,H,hl,h,a,w,hi=>by
    simp only[vcC] at h
    split at h
    case h_2=>exact h.elim
    rename_i k hk
    split at h
    case h_2=>exact h.elim
    rename_i L hL
    obtain⟨x,h1,h2,h3⟩:=h
    refine wp_mono (hl body (by simp[zap]) k L hk hL B hB x h2 a w (zf3.inv (hB ▸ h1) hi)) ?_
    rintro e a' w' ⟨ex,sl',H',rfl,hi',f,hf,z,g1,rfl,rfl,rfl⟩
    exact⟨_,_,_,rfl,hi',zcu.1 h3 _ (List.mem_map.2 ⟨f,hf,rfl⟩) z g1⟩
  | .goto _,_,_,_,_,h,_,_,_=>h.elim
  | .rangeFunc ..,_,_,_,_,h,_,_,_=>h.elim
  | .scope _,_,_,_,_,h,_,_,_=>h.elim
  | .refuse _,_,_,_,_,h,_,_,_=>h.elim
def ymg:List Prop→Prop
 | []=>False
 | [p]=>p
 | p::q::r=>p∨ymg (q::r)
theorem zlj:∀{ps:List Prop},ymg ps→∃p ∈ ps,p
 | [],h=>h.elim
 | [p],h=>⟨p,List.mem_cons_self,h⟩
 | p::q::r,h=>by
  rcases h with h|h
  · exact⟨p,List.mem_cons_self,h⟩
  · obtain⟨x,h1,h2⟩:=zlj h
    exact⟨x,List.mem_cons_of_mem _ h1,h2⟩
def yax(n0:Nat)(L:LoopS)(μ:L.α→Nat)(x:L.α):Post
 | .nrm,sl,H=>∃y,zf3 n0 (L.sl y) (L.H y) sl H∧L.I y∧μ y<μ x∧zsy (L.fams.map fun f=>∀z,f.out y z→f.out x z)
 | ex,sl,H=>ymg ((L.fams.filter fun f=>f.ex.sameP ex).map fun f=>∃z,zf3 n0 (f.sl z) (f.H z) sl H∧(match ex with | .pan v=>f.pv z=v∧f.out x z|_=>f.out x z))
theorem ypy{P:Program}{c:Code}{α:Type}(I:α→Act→World→Prop)(μ:α→Nat)(Q:α→Exit→Act→World→Prop)
 (round:∀x a w,I x a w→c.wp P (Exit.then (fun a' w'=>∃y,I y a' w'∧μ y<μ x∧∀e a w,Q y e a w→Q x e a w) (Q x)) a w) {x:α} {a:Act} {w:World} (h:I x a w):(Code.loop c).wp P (Q x) a w:=by
 intro b k cs
 have key:∀n x a w,μ x=n→I x a w→∃e a' w',Q x e a' w'∧Arrives P (lone (b.at a (.code c :: .inLoop c::k)) cs w) b k cs e a' w':=by
  intro n
  induction n using Nat.strongRecOn with
  | _ n ih =>
   intro x a w hn hI
   obtain⟨e,a1,w1,hq,harr⟩:=round x a w hI b (.inLoop c::k) cs
   cases e with
   | normal =>
    obtain⟨y,hy,hlt,himp⟩:=hq
    obtain⟨e2,a2,w2,hq2,harr2⟩:=ih (μ y) (hn ▸ hlt) y a1 w1 rfl hy
    exact⟨e2,a2,w2,himp _ _ _ hq2,.of_steps (Steps.trans harr (.one step_inLoop)) harr2⟩
   | exit id=>exact⟨_,a1,w1,hq,.pass (x := .inLoop c) rfl (fun _ _ => .inl (by simp)) harr⟩
   | goto l=>exact⟨_,a1,w1,hq,.pass (x := .inLoop c) rfl (fun _ _ => .inl (by simp)) harr⟩
   | ret=>exact⟨_,a1,w1,hq,.pass (x := .inLoop c) rfl (fun _ _ => .inl (by simp)) harr⟩
   | panic ch=>exact⟨_,a1,w1,hq,.pass (x := .inLoop c) rfl (fun _ _ => .inl (by simp)) harr⟩
   | outgrown=>exact⟨_,a1,w1,hq,.pass (x := .inLoop c) rfl (fun _ _ => .inl (by simp)) harr⟩
 obtain⟨e,a',w',hq,harr⟩:=key _ x a w rfl h
 exact⟨e,a',w',hq,.of_steps (.one step_loop) harr⟩
theorem zk3{P:Program}(hm:P.follows .mixedOrders=true){D:Dict}(hD:DictOk P D){n0:Nat}{body:Code}{L:LoopS}(μ:L.α→Nat)
 (round:∀x,L.I x→∃Ξ:Specs,(∀b ∈ zap body,∀k L,zbj b=some k→Ξ.loop k=some L→zbr P n0 b L)∧vcC P D Ξ n0 body (yax n0 L μ x) (L.sl x) (L.H x)):zbr P n0 body L:=by
 intro B hB x hx a w hi
 refine ypy (fun x a w=>L.I x∧Inv B (L.sl x) (L.H x) a w) μ (fun x=>QK B (zqw L.fams x)) (fun x a w hx => ?_) ⟨hx,hi⟩
 obtain⟨Ξ,hl,hvc⟩:=round x hx.1
 refine wp_mono (zhr hm hD hB hl hvc hx.2) ?_
 rintro e a' w' ⟨ex,sl,H,rfl,hi',hk⟩
 have out:∀ex,ex ≠ .nrm→yax n0 L μ x ex sl H→QK B (zqw L.fams x) (zta ex) a' w':=by
  intro ex hne hk
  have hk':ymg ((L.fams.filter fun f=>f.ex.sameP ex).map fun f=>∃z,zf3 n0 (f.sl z) (f.H z) sl H∧(match ex with | .pan v=>f.pv z=v∧f.out x z|_=>f.out x z)):=by
   cases ex with
   | nrm=>exact absurd rfl hne
   | ext id=>exact hk
   | ret=>exact hk
   | pan v=>exact hk
  obtain⟨p,h1,h2⟩:=zlj hk'
  obtain⟨f,hf,rfl⟩:=List.mem_map.1 h1
  obtain⟨z,hz,ho⟩:=h2
  obtain⟨hf1,hf2⟩:=List.mem_filter.1 hf
  have hat:f.exAt z=ex∧f.out x z:=by
   unfold Fam.exAt
   cases hfe:f.ex<;>rw[hfe] at hf2<;>cases ex<;>simp[Ex.sameP,Ex.same] at hf2<;>first
    | exact absurd rfl hne
    | (subst hf2;exact⟨rfl,ho⟩)
    | exact⟨rfl,ho⟩
    | exact⟨congrArg Ex.pan ho.1,ho.2⟩
  exact⟨ex,f.sl z,f.H z,rfl,zf3.inv (hB ▸ hz) hi',f,hf1,z,hat.2,hat.1,rfl,rfl⟩
 cases ex with
 | nrm =>
  obtain⟨y,h1,h2,h3,h4⟩:=hk
  refine⟨y,⟨h2,zf3.inv (hB ▸ h1) hi'⟩,h3,fun e a w hq=>QK.mono ?_ hq⟩
  rintro ex sl H ⟨f,hf,z,g1,g2⟩
  exact⟨f,hf,z,zcu.1 h4 _ (List.mem_map.2 ⟨f,hf,rfl⟩) z g1,g2⟩
 | ext id=>exact out _ (by simp) hk
 | ret=>exact out _ (by simp) hk
 | pan v=>exact out _ (by simp) hk
theorem zdh{P:Program}(hm:P.follows .mixedOrders=true){D:Dict}(hD:DictOk P D){Ξ:Specs}{n0:Nat}{body:Code}{L:LoopS}(hl:∀b ∈ zap body,∀k L,zbj b=some k→Ξ.loop k=some L→zbr P n0 b L)(μ:L.α→Nat)
 (round:∀x,L.I x→vcC P D Ξ n0 body (yax n0 L μ x) (L.sl x) (L.H x)):zbr P n0 body L:=zk3 hm hD μ (fun x hx=>⟨Ξ,hl,round x hx⟩)
def zqh(P:Program)(sl:List Av)(H:Heap):ResultVar→Option Av
 | .tmp t=>some (sl.getD t .any)
 | .cell x t=>match sl.getD x .any with
  | .ptr id sub=>match zws P t H (.ptr id sub) with|some (none,av)=>some av|_=>none
  | _=>none
def zj8(P:Program)(sl:List Av)(H:Heap):List ResultVar→Option (List Av)
 | []=>some []
 | r::rs=>match zqh P sl H r,zj8 P sl H rs with|some a,some as=>some (a::as)|_,_=>none
def yqb(P:Program)(fn:Func)(sl:List Av)(H:Heap):Option Av :=
 match zj8 P sl H fn.results.toList with
 | some [a]=>some a
 | some as=>some (.tup as)
 | none=>none
theorem zxc{ρ:Env}{sl:List Av}{a:Act}(h:RvL ρ sl a.tmps.toList)(t:Nat):Rv ρ (sl.getD t .any) (a.tmps.getD t undef):=zcb h (.tmp t)
theorem ybn{P:Program}{sl:List Av}{H:Heap}{r:ResultVar}{av:Av}(h:zqh P sl H r=some av){ρ:Env}{a:Act}{w:World}(hs:RvL ρ sl a.tmps.toList)(hr:Rel ρ H w) :
 ∃y,((match r with | .tmp t=>pure (a.tmps.getD t undef) | .cell x t=>do loadVar t (← asAddr (a.tmps.getD x undef)):Sem Value)).run P w = .ok y w∧Rv ρ av y:=by
 cases r with
 | tmp t =>
  simp only[zqh,Option.some.injEq] at h
  subst h
  exact⟨_,rfl,zxc hs t⟩
 | cell x t =>
  simp only[zqh] at h
  have hx:=zxc hs x
  split at h
  case h_2=>cases h
  rename_i id sub e
  rw[e] at hx
  split at h
  case h_2=>cases h
  rename_i av' hl
  simp only[Option.some.injEq] at h
  subst h
  have hx2:=hx
  obtain⟨L,_,hy⟩:=hx2
  obtain⟨v,h1,h2⟩:=zqg hl trivial hr hx
  refine⟨v, ?_,h2⟩
  simp only[hy] at h1 ⊢
  exact h1
theorem zo9{P:Program}{sl:List Av}{H:Heap}{ρ:Env}{a:Act}{w:World}(hs:RvL ρ sl a.tmps.toList)(hr:Rel ρ H w):∀{rs:List ResultVar}{as:List Av},zj8 P sl H rs=some as →
 ∃ys:List Value,(rs.mapM (m:=Sem) fun r=>match r with | .tmp t=>pure (a.tmps.getD t undef) | .cell x t=>do loadVar t (← asAddr (a.tmps.getD x undef))).run P w = .ok ys w∧RvL ρ as ys
 | [],as,h=>by
  simp only[zj8,Option.some.injEq] at h
  subst h
  exact⟨[],by simp,trivial⟩
 | r::rs,as,h=>by
  simp only[zj8] at h
  split at h
  case h_2=>cases h
  rename_i b bs h1 h2
  simp only[Option.some.injEq] at h
  subst h
  obtain⟨y,g1,g2⟩:=ybn h1 hs hr
  obtain⟨ys,g3,g4⟩:=zo9 hs hr h2
  refine⟨y::ys, ?_,g2,g4⟩
  rw[List.mapM_cons,Sem.run_bind,g1,Result.andThen_ok,Sem.run_bind,g3,Result.andThen_ok]
  rfl
theorem zqi{P:Program}{fn:Func}{sl:List Av}{H:Heap}{av:Av}(h:yqb P fn sl H=some av){ρ:Env}{a:Act}{w:World}(hs:RvL ρ sl a.tmps.toList)(hr:Rel ρ H w):∃y,(results fn a.tmps).run P w = .ok y w∧Rv ρ av y:=by
 unfold yqb at h
 have key:∀as,zj8 P sl H fn.results.toList=some as→∃ys:List Value,(results fn a.tmps).run P w = .ok (if h:ys.toArray.size=1 then ys.toArray[0] else .tuple ys.toArray) w∧RvL ρ as ys:=by
  intro as has
  obtain⟨ys,h1,h2⟩:=zo9 hs hr has
  refine⟨ys, ?_,h2⟩
  unfold results
  rw[Array.mapM_eq_mapM_toList,Sem.run_bind,map_eq_pure_bind,Sem.run_bind]
  erw [h1]
  rfl
 split at h
 · rename_i x has
   simp only[Option.some.injEq] at h
   subst h
   obtain⟨ys,h1,h2⟩:=key _ has
   match ys,h2 with
   | [y],h2=>exact⟨y,by rw[h1];rfl,h2.1⟩
   | [],h2=>simp[RvL] at h2
   | _::_::_,h2=>simp[RvL] at h2
 · rename_i as hne has
   simp only[Option.some.injEq] at h
   subst h
   obtain⟨ys,h1,h2⟩:=key _ has
   refine⟨.tuple ys.toArray, ?_,ys,rfl,h2⟩
   rw[h1]
   have hl:=zbf h2
   have:¬ ys.toArray.size=1:=by
    intro e
    have e1:as.length=1:=by rw[hl];simpa using e
    obtain⟨x,rfl⟩:=List.length_eq_one_iff.1 e1
    exact hne x rfl
   rw[dif_neg this]
 · cases h
def yrn(P:Program)(fn:Func)(n0:Nat)(v:Av)(H':Heap):Post:=fun ex sl H =>
 match ex with
 | .ext _=>False
 | .pan _=>False
 | _=>match yqb P fn sl H with|some av=>zf3 n0 [v] H' [av] H|none=>False
def zau(fn:Func):Code:=match fn.body with|some c=>c|none => .skip
def zc0(fn:Func)(args:List Av):List Av:=args++List.replicate (fn.ntmps-args.length) .any
theorem znr{P:Program}(hm:P.follows .mixedOrders=true){f:FuncId}{fn:Func}(hf:P.funcs[f]? = some fn)(hb:fn.body=some (zau fn)){R:Ending→World→Prop}{K:Post}{args:List Av}{H:Heap}{D:Dict}{Ξ:Specs}(hD:DictOk P D)
 (hL:∀b ∈ zap (zau fn),∀k L,zbj b=some k→Ξ.loop k=some L→zbr P H.length b L) (hvc:vcC P D Ξ H.length (zau fn) K (zc0 fn args) H) {ρ:Env} {vs:List Value} {w:World}
 (hw:∀ρ',Agree H.length ρ ρ'→RvL ρ' args vs∧Rel ρ' H w)
 (hK:∀(ex:Ex)(sl:List Av)(H1:Heap)(a:Act)(w':World),K ex sl H1→Inv ⟨ρ,H,w,[]⟩ sl H1 a w'→bodyPost P fn R (zta ex) a w'):Calls P f vs.toArray w R:=by
 let B:Base:=⟨ρ,H,w,[]⟩
 have hlen:args.length=vs.length:=zbf (hw ρ (Agree.refl _ _)).1
 have hrep:∀(ρ':Env)(n:Nat),RvL ρ' (List.replicate n .any) (List.replicate n undef):=by
  intro ρ' n
  induction n with
  | zero=>trivial
  | succ n ih=>exact⟨trivial,ih⟩
 have hi:Inv B (zc0 fn args) H { tmps:=vs.toArray++Array.replicate (fn.ntmps-vs.toArray.size) undef,defers:=[] } w:=by
  refine⟨rfl,Fr.refl _ _,KeepsP.refl _,ρ,Agree.refl _ _,fun ρ' hag=>⟨?_,(hw ρ' hag).2⟩,fun id blk L hid hb' => ?_⟩
  · have:=zex (hw ρ' hag).1 (hrep ρ' (fn.ntmps-args.length))
    simp only[zc0,Array.toList_append,Array.toList_replicate,List.size_toArray]
    rw[← hlen]
    exact this
  · rw[List.getElem?_eq_none hid] at hb';cases hb'
 have hwp:=zhr hm hD (B:=B) rfl hL hvc hi
 refine calls_of_wp hf hb (wp_mono hwp ?_)
 rintro e a' w' ⟨ex,sl,H1,rfl,hi',hk⟩
 exact hK ex sl H1 a' w' hk hi'
theorem zqy{B:Base}{sl:List Av}{H1:Heap}{a:Act}{w:World}(hi:Inv B sl H1 a w){v av:Av}{H':Heap}(hfit:zf3 B.H.length [v] H' [av] H1){y:Value}(hy:∀ρ,RvL ρ sl a.tmps.toList→Rel ρ H1 w→Rv ρ av y) :
 ∃ρ1,Agree B.H.length B.ρ ρ1∧(∀ρ',Agree H'.length ρ1 ρ'→Rv ρ' v y∧Rel ρ' H' w)∧Fr (owns B.ρ B.H) B.w w∧∀id blk L,B.H.length≤id→H'[id]? = some blk→blk.live=true→ρ1 id=some L→owns B.ρ B.H L.b∨B.w.heap.size≤L.b:=by
 obtain⟨i1,i2,i3,ρ0,i4,i5,i6⟩:=hi
 obtain⟨hs0,hr0⟩:=i5 ρ0 (Agree.refl _ _)
 unfold zf3 at hfit
 split at hfit
 case h_2=>exact hfit.elim
 rename_i ps hps
 generalize yzl B.H.length [v] H' [av] H1=φ at hps
 unfold yx3 at hps
 split at hps
 case isFalse=>cases hps
 rename_i hk'
 simp only[Bool.and_eq_true,decide_eq_true_eq] at hk'
 obtain⟨p1,p2,h1,h2,rfl⟩:=zg9 hps
 rw[zcu] at hfit
 have hpH:∀p ∈ p2,p:=fun p hp=>hfit p (by simp[hp])
 obtain⟨k1,_⟩:=zm0 hk'.2
 refine⟨zub ρ0 B.H.length φ,fun i hi => ?_,fun ρ' hag => ?_,i2,fun id blk L hid hb' hl hL' => ?_⟩
 · unfold zub
   rw[zfb hi]
   exact i4 i hi
 · obtain⟨hφ,hrel⟩:=ziv hk'.2 hk'.1 h2 hpH hr0 hag
   have:=zhc hφ h1 (fun p hp=>hfit p (by simp[hp])) (ys:=[y]) ⟨hy ρ0 hs0 hr0,trivial⟩
   exact⟨this.1,hrel⟩
 · rcases zdn h2 hpH id blk hb' hl with ⟨j,d,qs,g1,g2,g3,g4⟩|⟨g1,_⟩
   · rw[Nat.zero_add] at g1
     unfold zub at hL'
     rw[g1] at hL'
     rw[zhh hid] at g1
     rcases zne ((k1 id _ g1).2.2 j rfl) with g|⟨_,g⟩
     · exact i6 j d L g g2 ((zbm g3).2 hl) hL'
     · rcases Nat.lt_or_ge j B.H.length with q|q
       · left
         refine⟨j,B.H[j],L,List.getElem?_eq_getElem q,(i3.fl j _ d (List.getElem?_eq_getElem q) g2).1 (g d g2), ?_,rfl⟩
         rw[← i4 j q];exact hL'
       · exact i6 j d L q g2 ((zbm g3).2 hl) hL'
   · rw[Nat.zero_add] at g1
     unfold zub at hL'
     rw[g1] at hL'
     cases hL'
theorem zmb{P:Program}(hm:P.follows .mixedOrders=true){f:FuncId}{fn:Func}(hf:P.funcs[f]? = some fn)(hb:fn.body=some (zau fn)){args:List Av}{H:Heap}{v:Av}{H':Heap}{D:Dict}{Ξ:Specs}(hD:DictOk P D)
 (hL:∀b ∈ zap (zau fn),∀k L,zbj b=some k→Ξ.loop k=some L→zbr P H.length b L) (hvc:vcC P D Ξ H.length (zau fn) (yrn P fn H.length v H') (zc0 fn args) H) {ρ:Env} {vs:List Value} {w:World}
 (hw:∀ρ',Agree H.length ρ ρ'→RvL ρ' args vs∧Rel ρ' H w):Calls P f vs.toArray w (Ends .returned ρ H w v H'):=by
 refine znr hm hf hb hD hL hvc hw (fun ex sl H1 a w' hk hi => ?_)
 have main:∀av,yqb P fn sl H1=some av→zf3 H.length [v] H' [av] H1→a.defers=[]∧∃y,(results fn a.tmps).run P w' = .ok y w'∧Ends .returned ρ H w v H' (.returned y) w':=by
  intro av hav hfit
  obtain⟨i1,i2,i3,ρ0,i4,i5,i6⟩:=id hi
  obtain⟨hs0,hr0⟩:=i5 ρ0 (Agree.refl _ _)
  obtain⟨y,hy1,_⟩:=zqi hav hs0 hr0
  refine⟨i1,y,hy1, ?_⟩
  obtain⟨ρ1,g⟩:=zqy hi hfit (y:=y) (fun ρ hs hr=>by
   obtain⟨y2,hy2,hv⟩:=zqi hav hs hr
   rw[hy1] at hy2
   cases hy2
   exact hv)
  exact⟨y,ρ1,rfl,g⟩
 cases ex with
 | ext id=>exact hk.elim
 | pan v=>exact hk.elim
 | nrm =>
  simp only[yrn] at hk
  split at hk
  · rename_i av hav;exact main av hav hk
  · exact hk.elim
 | ret =>
  simp only[yrn] at hk
  split at hk
  · rename_i av hav;exact main av hav hk
  · exact hk.elim
theorem zlu{P:Program}(hm:P.follows .mixedOrders=true){f:FuncId}{fn:Func}(hf:P.funcs[f]? = some fn)(hb:fn.body=some (zau fn)){S:Sum}
 (h:∀args H p v H',S args H=some (p,v,H')→Hold p→∃(D:Dict)(Ξ:Specs),DictOk P D∧(∀b ∈ zap (zau fn),∀k L,zbj b=some k→Ξ.loop k=some L→zbr P H.length b L) ∧
  vcC P D Ξ H.length (zau fn) (yrn P fn H.length v H') (zc0 fn args) H):Sound P f S:=by
 intro args H p v H' hs hp ρ vs w hw
 obtain⟨D,Ξ,hD,hL,hvc⟩:=h args H p v H' hs hp
 exact zmb hm hf hb hD hL hvc hw
inductive Cs where
 | i (k:IntKind)
 | b
 | sl (sh:List Ty)
 | sub (sh:List Ty)
@[reducible] def Cs.T:Cs→Type
 | .i _=>Int
 | .b=>Bool
 | .sl sh=>List (El sh)
 | .sub sh=>List (El sh)
@[reducible] def CsT:List Cs→Type
 | []=>Unit
 | [c]=>c.T
 | c::d::cs=>c.T × CsT (d::cs)
inductive Pm where
 | one (c:Cs)
 | st (cs:List Cs)
@[reducible] def Pm.T:Pm→Type
 | .one d=>d.T
 | .st cs=>CsT cs
@[reducible] def PmT:List Pm→Type
 | []=>Unit
 | [p]=>p.T
 | p::q::ps=>p.T × PmT (q::ps)
def zdx(own:Bool):(c:Cs)→c.T→Nat→Av × Heap
 | .i k,x,_=>(.v (.int k x),[])
 | .b,x,_=>(.v (.bool x),[])
 | .sl sh,xs,n=>(.sl n sh.length 0 xs.length,[.arr sh xs own])
 | .sub sh,xs,n=>(.sl n sh.length 0 xs.length,[.arr sh xs own])
def zc2(own:Bool):(cs:List Cs)→CsT cs→Nat→List Av × Heap
 | [],_,_=>([],[])
 | [c],x,n=>([(zdx own c x n).1],(zdx own c x n).2)
 | c::d::cs,x,n=>((zdx own c x.1 n).1::(zc2 own (d::cs) x.2 (n+(zdx own c x.1 n).2.length)).1,(zdx own c x.1 n).2++(zc2 own (d::cs) x.2 (n+(zdx own c x.1 n).2.length)).2)
def zk1(own:Bool):(p:Pm)→p.T→Nat→Av × Heap
 | .one c,x,n=>zdx own c x n
 | .st cs,x,n=>(.agg (zc2 own cs x n).1,(zc2 own cs x n).2)
def zav(own:Bool):(ps:List Pm)→PmT ps→Nat→List Av × Heap
 | [],_,_=>([],[])
 | [p],x,n=>([(zk1 own p x n).1],(zk1 own p x n).2)
 | p::q::ps,x,n=>((zk1 own p x.1 n).1::(zav own (q::ps) x.2 (n+(zk1 own p x.1 n).2.length)).1,(zk1 own p x.1 n).2++(zav own (q::ps) x.2 (n+(zk1 own p x.1 n).2.length)).2)
def yoq:List Av→Av
 | [a]=>a
 | as => .tup as
def zin(own:Bool)(ps:List Pm)(x:PmT ps)(n:Nat):Av × Heap:=(yoq (zav own ps x n).1,(zav own ps x n).2)
def ye5(H:Heap):(c:Cs)→Av→Option (List Prop × c.T)
 | .i k,a=>match a with | .v (.int j x)=>if j=k then some ([],x) else none|_=>none
 | .b,a=>match a with | .v (.bool x)=>some ([],x)|_=>none
 | .sl sh,a=>match a with
  | .sl id z lo len=>(match H[id]? with
   | some (.arr sh' xs _)=>if h:sh'=sh then (if z=sh.length∧lo=0 then some ([len=xs.length],(h ▸ xs:List (El sh))) else none) else none
   | _=>none)
  | .v (.slice none 0 0)=>some ([],[])
  | _=>none
 | .sub sh,a=>match a with
  | .sl id z lo len=>(match H[id]? with
   | some (.arr sh' xs _)=>if h:sh'=sh then (if z=sh.length then some ([lo+len≤xs.length],((h ▸ xs:List (El sh)).drop lo).take len) else none) else none
   | _=>none)
  | .v (.slice none 0 0)=>some ([],[])
  | _=>none
def ybo(H:Heap):(cs:List Cs)→List Av→Option (List Prop × CsT cs)
 | [],as=>match as with|[]=>some ([],())|_=>none
 | [c],as=>match as with|[a]=>ye5 H c a|_=>none
 | c::d::cs,as=>match as with
  | a::as=>(match ye5 H c a with|some (p,x)=>(match ybo H (d::cs) as with|some (q,y)=>some (p++q,(x,y))|none=>none)|none=>none)
  | []=>none
def absP(H:Heap):(p:Pm)→Av→Option (List Prop × p.T)
 | .one c,a=>ye5 H c a
 | .st cs,a=>match a with | .agg as=>ybo H cs as|_=>none
def zwu(H:Heap):(ps:List Pm)→List Av→Option (List Prop × PmT ps)
 | [],as=>match as with|[]=>some ([],())|_=>none
 | [p],as=>match as with|[a]=>absP H p a|_=>none
 | p::q::ps,as=>match as with
  | a::as=>(match absP H p a with|some (c,x)=>(match zwu H (q::ps) as with|some (d,y)=>some (c++d,(x,y))|none=>none)|none=>none)
  | []=>none
def yxy(ps:List Prop)(r:Option Prop):Option Prop :=
 match ps,r with
 | [],r=>r
 | p::ps,none=>some (zsy (p::ps))
 | p::ps,some r=>some (zsy (p::ps++[r]))
theorem zqj{ps:List Prop}{r:Option Prop}(h:Hold (yxy ps r)):(∀p ∈ ps,p)∧Hold r:=by
 cases ps with
 | nil=>exact⟨fun p hp=>by (cases hp),h⟩
 | cons q ps =>
  cases r with
  | none=>exact⟨zcu.1 (show zsy (q::ps) from h),trivial⟩
  | some r =>
   have h':=zcu.1 (show zsy (q::ps++[r]) from h)
   exact⟨fun p hp=>h' p (List.mem_append_left _ hp),h' r (by simp)⟩
def zai(As R:List Pm)(req:PmT As→Option Prop)(g:PmT As→PmT R):Sum:=fun args H =>
 match zwu H As args with
 | some (ps,x)=>some (yxy ps (req x),(zin true R (g x) H.length).1,H++(zin true R (g x) H.length).2)
 | none=>none
def zf4(σ:Env)(w:World)(n:Nat)(bs:Heap):Prop:=∀i b,bs[i]? = some b→b.own=false∧Rb σ w (n+i) b∧∀L,σ (n+i)=some L→L.b<w.heap.size
theorem zf4.append{σ:Env}{w:World}{n:Nat}{bs cs:Heap}(h:zf4 σ w n bs)(g:zf4 σ w (n+bs.length) cs):zf4 σ w n (bs++cs):=by
 intro i b hi
 rcases Nat.lt_or_ge i bs.length with q|q
 · rw[List.getElem?_append_left q] at hi;exact h i b hi
 · rw[List.getElem?_append_right q] at hi
   have:=g (i-bs.length) b hi
   rwa [show n+bs.length+(i-bs.length)=n+i by omega] at this
def At(σ:Env)(n:Nat)(locs:List (Option Loc)):Prop:=∀i o,locs[i]? = some o→σ (n+i)=o
theorem At.left{σ:Env}{n:Nat}{l m:List (Option Loc)}(h:At σ n (l++m)):At σ n l:=fun i o hi=>by
 refine h i o ?_
 rw[List.getElem?_append_left (by rcases Nat.lt_or_ge i l.length with q|q;exact q;simp[List.getElem?_eq_none q] at hi)]
 exact hi
theorem At.right{σ:Env}{n:Nat}{l m:List (Option Loc)}(h:At σ n (l++m)):At σ (n+l.length) m:=fun i o hi=>by
 have:=h (l.length+i) o (by rw[List.getElem?_append_right (by omega),show l.length+i-l.length=i by omega];exact hi)
 rwa [← Nat.add_assoc] at this
theorem yme{H:Heap}{sh:List Ty}{a:Av}{ps:List Prop}{x:List (El sh)}(h:ye5 H (.sl sh) a=some (ps,x))(hp:∀p ∈ ps,p):∃qs,ye5 H (.sub sh) a=some (qs,x)∧∀q ∈ qs,q:=by
 simp only[ye5] at h ⊢
 split at h
 · rename_i id z lo len
   split at h
   · rename_i sh' xs own hb
     split at h
     · rename_i hsh
       subst hsh
       split at h
       · rename_i hz
         obtain⟨rfl,rfl⟩:=hz
         simp only[Option.some.injEq,Prod.mk.injEq] at h
         obtain⟨rfl,rfl⟩:=h
         have hl:len=xs.length:=hp _ List.mem_cons_self
         subst hl
         exact⟨[0+xs.length≤xs.length],by simp,fun q hq=>by rw[List.mem_singleton.1 hq];omega⟩
       · cases h
     · cases h
   · cases h
 · simp only[Option.some.injEq,Prod.mk.injEq] at h
   obtain⟨rfl,rfl⟩:=h
   exact⟨[],rfl,fun q hq=>by cases hq⟩
 · cases h
theorem zsw{ρ:Env}{H:Heap}{w:World}(hr:Rel ρ H w){sh:List Ty}{a:Av}{ps:List Prop}{x:List (El sh)}(h:ye5 H (.sub sh) a=some (ps,x))(hp:∀p ∈ ps,p){y:Value}(hy:Rv ρ a y)(n:Nat):∃locs:List (Option Loc),locs.length=(zdx false (.sub sh) x n).2.length∧∀σ,At σ n locs→Rv σ (zdx false (.sub sh) x n).1 y∧zf4 σ w n (zdx false (.sub sh) x n).2:=by
 simp only[ye5] at h
 split at h
 · rename_i id z lo len
   split at h
   · rename_i sh' xs own hb
     split at h
     · rename_i hsh
       subst hsh
       split at h
       · rename_i hz
         subst hz
         simp only[Option.some.injEq,Prod.mk.injEq] at h
         obtain⟨rfl,rfl⟩:=h
         have hle:lo+len≤xs.length:=hp _ List.mem_cons_self
         have hlen:((xs.drop lo).take len).length=len:=by simp;omega
         simp only[Rv] at hy
         rcases hy with ⟨hno,rfl,rfl,q,rfl⟩|⟨L,o,hL,hcap,ho,rfl⟩
         · refine⟨[none],rfl,fun σ hσ => ?_⟩
           have h0:σ n=none:=by simpa using hσ 0 none rfl
           refine⟨?_,fun i b hi => ?_⟩
           · simp only[zdx,Rv]
             exact .inl ⟨h0,by simp,by simp,q,by simp⟩
           · cases i with
             | succ i=>simp[zdx] at hi
             | zero =>
              simp only[zdx,List.getElem?_cons_zero,Option.some.injEq] at hi
              subst hi
              exact⟨rfl,.inl ⟨by simpa using h0,by simp⟩,fun L hL=>by rw[Nat.add_zero,h0] at hL;cases hL⟩
         · refine⟨[some ⟨L.b,L.off+o*sh'.length,L.cap-lo,{}⟩],rfl,fun σ hσ => ?_⟩
           have h0:σ n=some ⟨L.b,L.off+o*sh'.length,L.cap-lo,{}⟩:=by simpa using hσ 0 _ rfl
           refine⟨?_,fun i b hi => ?_⟩
           · simp only[zdx,Rv]
             refine .inr ⟨_,0,h0,by simp only[hlen];omega,.inl rfl, ?_⟩
             rw[hlen]
             simp
           · cases i with
             | succ i=>simp[zdx] at hi
             | zero =>
              simp only[zdx,List.getElem?_cons_zero,Option.some.injEq] at hi
              subst hi
              refine⟨rfl,.inr ⟨_,by simpa using h0,by simp only[hlen];omega,fun i x hx j v hj => ?_,fun e=>by cases e⟩,fun M hM => ?_⟩
              · rw[List.getElem?_take] at hx
                split at hx
                case isFalse=>cases hx
                rename_i hil
                rw[List.getElem?_drop] at hx
                have ho':o=lo:=by
                 rcases ho with g|g
                 · exact g
                 · omega
                subst ho'
                rcases hr.blk id _ hb with ⟨hno,_⟩|⟨M,hM,_,hc,_⟩
                · rw[hL] at hno;cases hno
                · rw[hL] at hM;cases hM
                  have:=hc (o+i) x hx j v hj
                  rw[Nat.add_mul] at this
                  simp only[Nat.add_assoc] at this ⊢
                  exact this
              · rw[Nat.add_zero,h0] at hM
                cases hM
                exact hr.inb id _ L hb rfl hL
       · cases h
     · cases h
   · cases h
 · simp only[Option.some.injEq,Prod.mk.injEq] at h
   obtain⟨rfl,rfl⟩:=h
   have e:y = .slice none 0 0:=hy
   subst e
   refine⟨[none],rfl,fun σ hσ => ?_⟩
   have h0:σ n=none:=by simpa using hσ 0 none rfl
   refine⟨?_,fun i b hi => ?_⟩
   · simp only[zdx,Rv]
     exact .inl ⟨h0,by simp,by simp,none,by simp⟩
   · cases i with
     | succ i=>simp[zdx] at hi
     | zero =>
      simp only[zdx,List.getElem?_cons_zero,Option.some.injEq] at hi
      subst hi
      exact⟨rfl,.inl ⟨by simpa using h0,rfl⟩,fun L hL=>by rw[Nat.add_zero,h0] at hL;cases hL⟩
 · cases h
theorem zwt{ρ:Env}{H:Heap}{w:World}(hr:Rel ρ H w):∀{c:Cs}{a:Av}{ps:List Prop}{x:c.T},ye5 H c a=some (ps,x)→(∀p ∈ ps,p)→∀{y:Value},Rv ρ a y→∀n,∃locs:List (Option Loc),locs.length=(zdx false c x n).2.length∧∀σ,At σ n locs→Rv σ (zdx false c x n).1 y∧zf4 σ w n (zdx false c x n).2
 | .i k,a,ps,x,h,_,y,hy,n=>by
  simp only[ye5] at h
  split at h
  · split at h
    · rename_i e
      simp only[Option.some.injEq,Prod.mk.injEq] at h
      obtain⟨rfl,rfl⟩:=h
      subst e
      exact⟨[],rfl,fun σ _=>⟨hy,fun i b hi=>by simp[zdx] at hi⟩⟩
    · cases h
  · cases h
 | .b,a,ps,x,h,_,y,hy,n=>by
  simp only[ye5] at h
  split at h
  · simp only[Option.some.injEq,Prod.mk.injEq] at h
    obtain⟨rfl,rfl⟩:=h
    exact⟨[],rfl,fun σ _=>⟨hy,fun i b hi=>by simp[zdx] at hi⟩⟩
  · cases h
 | .sl sh,a,ps,x,h,hp,y,hy,n=>by
  obtain⟨qs,h1,h2⟩:=yme h hp
  exact zsw hr h1 h2 hy n
 | .sub _,_,_,_,h,hp,_,hy,n=>zsw hr h hp hy n
theorem zzu{ρ:Env}{H:Heap}{w:World}(hr:Rel ρ H w):∀{cs:List Cs}{as:List Av}{ps:List Prop}{x:CsT cs},ybo H cs as=some (ps,x)→(∀p ∈ ps,p)→∀{ys:List Value},RvL ρ as ys→∀n,∃locs:List (Option Loc),locs.length=(zc2 false cs x n).2.length∧∀σ,At σ n locs→RvL σ (zc2 false cs x n).1 ys∧zf4 σ w n (zc2 false cs x n).2
 | [],as,ps,x,h,_,ys,hy,n=>by
  simp only[ybo] at h
  split at h
  · cases ys with
    | nil=>exact⟨[],rfl,fun σ _=>⟨trivial,fun i b hi=>by simp[zc2] at hi⟩⟩
    | cons _ _=>simp[RvL] at hy
  · cases h
 | [c],as,ps,x,h,hp,ys,hy,n=>by
  simp only[ybo] at h
  split at h
  · rename_i a
    match ys,hy with
    | [y],hy =>
     obtain⟨locs,h1,h2⟩:=zwt hr h hp hy.1 n
     exact⟨locs,h1,fun σ hσ=>⟨⟨(h2 σ hσ).1,trivial⟩,(h2 σ hσ).2⟩⟩
    | [],hy=>simp[RvL] at hy
    | _::_::_,hy=>simp[RvL] at hy
  · cases h
 | c::d::cs,as,ps,x,h,hp,ys,hy,n=>by
  simp only[ybo] at h
  split at h
  · rename_i a as
    split at h
    · rename_i p x1 h1
      split at h
      · rename_i q y1 h2
        simp only[Option.some.injEq,Prod.mk.injEq] at h
        obtain⟨rfl,rfl⟩:=h
        match ys,hy with
        | y::ys,hy =>
         obtain⟨l1,g1,g2⟩:=zwt hr h1 (fun z hz=>hp z (by simp[hz])) hy.1 n
         obtain⟨l2,g3,g4⟩:=zzu hr h2 (fun z hz=>hp z (by simp[hz])) hy.2 (n+(zdx false c x1 n).2.length)
         refine⟨l1++l2,by simp[zc2,g1,g3],fun σ hσ => ?_⟩
         obtain⟨k1,k2⟩:=g2 σ hσ.left
         obtain⟨k3,k4⟩:=g4 σ (by have:=hσ.right;rwa [g1] at this)
         exact⟨⟨k1,k3⟩,k2.append k4⟩
        | [],hy=>simp[RvL] at hy
      · cases h
    · cases h
  · cases h
theorem ye6{ρ:Env}{H:Heap}{w:World}(hr:Rel ρ H w):∀{p:Pm}{a:Av}{ps:List Prop}{x:p.T},absP H p a=some (ps,x)→(∀p ∈ ps,p)→∀{y:Value},Rv ρ a y→∀n,∃locs:List (Option Loc),locs.length=(zk1 false p x n).2.length∧∀σ,At σ n locs→Rv σ (zk1 false p x n).1 y∧zf4 σ w n (zk1 false p x n).2
 | .one c,a,ps,x,h,hp,y,hy,n=>zwt hr (c:=c) h hp hy n
 | .st cs,a,ps,x,h,hp,y,hy,n=>by
  simp only[absP] at h
  split at h
  · simp only[Rv] at hy
    obtain⟨vs,rfl,hv⟩:=hy
    obtain⟨locs,h1,h2⟩:=zzu hr h hp hv n
    exact⟨locs,h1,fun σ hσ=>⟨⟨vs,rfl,(h2 σ hσ).1⟩,(h2 σ hσ).2⟩⟩
  · cases h
theorem zzv{ρ:Env}{H:Heap}{w:World}(hr:Rel ρ H w):∀{cs:List Pm}{as:List Av}{ps:List Prop}{x:PmT cs},zwu H cs as=some (ps,x)→(∀p ∈ ps,p)→∀{ys:List Value},RvL ρ as ys→∀n,∃locs:List (Option Loc),locs.length=(zav false cs x n).2.length∧∀σ,At σ n locs→RvL σ (zav false cs x n).1 ys∧zf4 σ w n (zav false cs x n).2
 | [],as,ps,x,h,_,ys,hy,n=>by
  simp only[zwu] at h
  split at h
  · cases ys with
    | nil=>exact⟨[],rfl,fun σ _=>⟨trivial,fun i b hi=>by simp[zav] at hi⟩⟩
    | cons _ _=>simp[RvL] at hy
  · cases h
 | [c],as,ps,x,h,hp,ys,hy,n=>by
  simp only[zwu] at h
  split at h
  · rename_i a
    match ys,hy with
    | [y],hy =>
     obtain⟨locs,h1,h2⟩:=ye6 hr h hp hy.1 n
     exact⟨locs,h1,fun σ hσ=>⟨⟨(h2 σ hσ).1,trivial⟩,(h2 σ hσ).2⟩⟩
    | [],hy=>simp[RvL] at hy
    | _::_::_,hy=>simp[RvL] at hy
  · cases h
 | c::d::cs,as,ps,x,h,hp,ys,hy,n=>by
  simp only[zwu] at h
  split at h
  · rename_i a as
    split at h
    · rename_i p x1 h1
      split at h
      · rename_i q y1 h2
        simp only[Option.some.injEq,Prod.mk.injEq] at h
        obtain⟨rfl,rfl⟩:=h
        match ys,hy with
        | y::ys,hy =>
         obtain⟨l1,g1,g2⟩:=ye6 hr h1 (fun z hz=>hp z (by simp[hz])) hy.1 n
         obtain⟨l2,g3,g4⟩:=zzv hr h2 (fun z hz=>hp z (by simp[hz])) hy.2 (n+(zk1 false c x1 n).2.length)
         refine⟨l1++l2,by simp[zav,g1,g3],fun σ hσ => ?_⟩
         obtain⟨k1,k2⟩:=g2 σ hσ.left
         obtain⟨k3,k4⟩:=g4 σ (by have:=hσ.right;rwa [g1] at this)
         exact⟨⟨k1,k3⟩,k2.append k4⟩
        | [],hy=>simp[RvL] at hy
      · cases h
    · cases h
  · cases h
theorem zln(own:Bool):∀(c:Cs)(x:c.T)(n m:Nat),(zdx own c x n).2=(zdx own c x m).2
 | .i _,_,_,_=>rfl
 | .b,_,_,_=>rfl
 | .sl _,_,_,_=>rfl
 | .sub _,_,_,_=>rfl
theorem zs6(own:Bool):∀(cs:List Cs)(x:CsT cs)(n m:Nat),(zc2 own cs x n).2=(zc2 own cs x m).2
 | [],_,_,_=>rfl
 | [c],x,n,m=>zln own c x n m
 | c::d::cs,x,n,m=>by simp only[zc2];rw[zln own c x.1 n m,zs6 own (d::cs) x.2 _ (m+(zdx own c x.1 m).2.length)]
theorem zqs(own:Bool):∀(p:Pm)(x:p.T)(n m:Nat),(zk1 own p x n).2=(zk1 own p x m).2
 | .one c,x,n,m=>zln own c x n m
 | .st cs,x,n,m=>zs6 own cs x n m
theorem zs7(own:Bool):∀(cs:List Pm)(x:PmT cs)(n m:Nat),(zav own cs x n).2=(zav own cs x m).2
 | [],_,_,_=>rfl
 | [c],x,n,m=>zqs own c x n m
 | c::d::cs,x,n,m=>by simp only[zav];rw[zqs own c x.1 n m,zs7 own (d::cs) x.2 _ (m+(zk1 own c x.1 m).2.length)]
def Shift(σ τ:Env)(n m k:Nat):Prop:=∀i,i<k→τ (m+i)=σ (n+i)
theorem Shift.left{σ τ:Env}{n m k l:Nat}(h:Shift σ τ n m (k+l)):Shift σ τ n m k:=fun i hi=>h i (by omega)
theorem Shift.right{σ τ:Env}{n m k l:Nat}(h:Shift σ τ n m (k+l)):Shift σ τ (n+k) (m+k) l:=fun i hi=>by
 have:=h (k+i) (by omega)
 rwa [← Nat.add_assoc, ← Nat.add_assoc] at this
theorem zkd(own:Bool){σ τ:Env}:∀(c:Cs)(x:c.T)(n m:Nat)(y:Value),Shift σ τ n m (zdx own c x n).2.length→Rv σ (zdx own c x n).1 y→Rv τ (zdx own c x m).1 y
 | .i _,_,_,_,_,_,h=>h
 | .b,_,_,_,_,_,h=>h
 | .sl sh,xs,n,m,y,hs,h=>by
  have e:τ m=σ n:=by simpa using hs 0 (by simp[zdx])
  simp only[zdx,Rv] at h ⊢
  rw[e]
  exact h
 | .sub sh,xs,n,m,y,hs,h=>by
  have e:τ m=σ n:=by simpa using hs 0 (by simp[zdx])
  simp only[zdx,Rv] at h ⊢
  rw[e]
  exact h
theorem zmk(own:Bool){σ τ:Env}:∀(cs:List Cs)(x:CsT cs)(n m:Nat)(ys:List Value),Shift σ τ n m (zc2 own cs x n).2.length→RvL σ (zc2 own cs x n).1 ys→RvL τ (zc2 own cs x m).1 ys
 | [],_,_,_,ys,_,h=>by cases ys with|nil=>trivial|cons _ _=>simp[zc2,RvL] at h
 | [c],x,n,m,ys,hs,h=>by
  match ys,h with
  | [y],h=>exact⟨zkd own c x n m y hs h.1,trivial⟩
  | [],h=>simp[zc2,RvL] at h
  | _::_::_,h=>simp[zc2,RvL] at h
 | c::d::cs,x,n,m,ys,hs,h=>by
  match ys,h with
  | y::ys,h =>
   simp only[zc2,List.length_append] at hs
   refine⟨zkd own c x.1 n m y hs.left h.1, ?_⟩
   have e:=congrArg List.length (zln own c x.1 n m)
   have:=zmk own (d::cs) x.2 _ (m+(zdx own c x.1 n).2.length) ys hs.right h.2
   rw[e] at this
   exact this
  | [],h=>simp[zc2,RvL] at h
theorem zke(own:Bool){σ τ:Env}:∀(p:Pm)(x:p.T)(n m:Nat)(y:Value),Shift σ τ n m (zk1 own p x n).2.length→Rv σ (zk1 own p x n).1 y→Rv τ (zk1 own p x m).1 y
 | .one c,x,n,m,y,hs,h=>zkd own c x n m y hs h
 | .st cs,x,n,m,y,hs,h=>by
  simp only[zk1,Rv] at h ⊢
  obtain⟨vs,h1,h2⟩:=h
  exact⟨vs,h1,zmk own cs x n m vs hs h2⟩
theorem zml(own:Bool){σ τ:Env}:∀(cs:List Pm)(x:PmT cs)(n m:Nat)(ys:List Value),Shift σ τ n m (zav own cs x n).2.length→RvL σ (zav own cs x n).1 ys→RvL τ (zav own cs x m).1 ys
 | [],_,_,_,ys,_,h=>by cases ys with|nil=>trivial|cons _ _=>simp[zav,RvL] at h
 | [c],x,n,m,ys,hs,h=>by
  match ys,h with
  | [y],h=>exact⟨zke own c x n m y hs h.1,trivial⟩
  | [],h=>simp[zav,RvL] at h
  | _::_::_,h=>simp[zav,RvL] at h
 | c::d::cs,x,n,m,ys,hs,h=>by
  match ys,h with
  | y::ys,h =>
   simp only[zav,List.length_append] at hs
   refine⟨zke own c x.1 n m y hs.left h.1, ?_⟩
   have e:=congrArg List.length (zqs own c x.1 n m)
   have:=zml own (d::cs) x.2 _ (m+(zk1 own c x.1 n).2.length) ys hs.right h.2
   rw[e] at this
   exact this
  | [],h=>simp[zav,RvL] at h
theorem zhd(own:Bool):∀(cs:List Pm)(x:PmT cs)(n:Nat),(zav own cs x n).1.length=cs.length
 | [],_,_=>rfl
 | [_],_,_=>rfl
 | _::d::cs,x,n=>by simp only[zav,List.length_cons];rw[zhd own (d::cs) x.2];rfl
theorem ybx(own:Bool){σ τ:Env}(cs:List Pm)(x:PmT cs)(n m:Nat)(y:Value)(hs:Shift σ τ n m (zin own cs x n).2.length)(h:Rv σ (zin own cs x n).1 y):Rv τ (zin own cs x m).1 y:=by
 have hl:=zhd own cs x n
 have hl':=zhd own cs x m
 simp only[zin] at h ⊢
 match cs,x,hs,h,hl,hl' with
 | [],x,hs,h,_,_ =>
  simp only[zav,yoq,Rv] at h ⊢
  obtain⟨vs,h1,h2⟩:=h
  refine⟨vs,h1, ?_⟩
  cases vs with
  | nil=>trivial
  | cons _ _=>simp[RvL] at h2
 | [p],x,hs,h,_,_ =>
  simp only[zav,yoq] at h ⊢
  exact zke own p x n m y hs h
 | p::q::ps,x,hs,h,hl,hl' =>
  have key:∀l:List Av,l.length=(p::q::ps).length→yoq l = .tup l:=by
   intro l hl
   match l,hl with
   | _::_::_,_=>rfl
  rw[key _ hl] at h
  rw[key _ hl']
  simp only[Rv] at h ⊢
  obtain⟨vs,h1,h2⟩:=h
  exact⟨vs,h1,zml own (p::q::ps) x n m vs hs h2⟩
theorem yik{As R:List Pm}{H:Heap}{args:List Av}{ps:List Prop}{x:PmT As}(habs:zwu H As args=some (ps,x))(hp':∀p ∈ ps,p){ρ:Env}{vs:List Value}{w:World}(hw:∀ρ',Agree H.length ρ ρ'→RvL ρ' args vs∧Rel ρ' H w) :
 ∃σ:Env,(∀σ',Agree (zav false As x 0).2.length σ σ'→RvL σ' (zav false As x 0).1 vs∧Rel σ' (zav false As x 0).2 w)∧∀(z:PmT R)(e:Ending)(w':World),
  Ends .returned σ (zav false As x 0).2 w (zin true R z (zav false As x 0).2.length).1 ((zav false As x 0).2++(zin true R z (zav false As x 0).2.length).2) e w'→Ends .returned ρ H w (zin true R z H.length).1 (H++(zin true R z H.length).2) e w':=by
 obtain⟨hv,hr⟩:=hw ρ (Agree.refl _ _)
 obtain⟨locs,hl,henc⟩:=zzv hr habs hp' hv 0
 generalize hH0:(zav false As x 0).2=H0 at *
 let σ:Env:=fun i=>(locs[i]?).getD none
 have hat:∀σ',Agree H0.length σ σ'→At σ' 0 locs:=by
  intro σ' hag i o hi
  have hlt:i<locs.length:=by
   rcases Nat.lt_or_ge i locs.length with q|q
   · exact q
   · simp[List.getElem?_eq_none q] at hi
  rw[Nat.zero_add,hag i (by omega)]
  simp only[σ,hi,Option.getD_some]
 have hrel:∀σ',Agree H0.length σ σ'→Rel σ' H0 w:=by
  intro σ' hag
  have hb:=(henc σ' (hat σ' hag)).2
  refine⟨fun i b hi=>by have:=(hb i b hi).2.1;rwa [Nat.zero_add] at this,fun i j b c L M hi hj _ _ _ hoo => ?_,fun i b L hi _ hL=>(hb i b hi).2.2 L (by rw[Nat.zero_add];exact hL)⟩
  rw[(hb i b hi).1,(hb j c hj).1] at hoo
  rcases hoo with e|e<;>cases e
 refine⟨σ,fun σ' hag=>⟨(henc σ' (hat σ' hag)).1,hrel σ' hag⟩,fun z e w' => ?_⟩
 rintro⟨y,ρ1,rfl,k2,k3,k4,k5⟩
 have hno:∀b,¬ owns σ H0 b:=by
  rintro b ⟨id,blk,L,g1,g2,_⟩
  rw[((henc σ (hat σ (Agree.refl _ _))).2 id blk g1).1] at g2
  cases g2
 have hfr:Fr (fun _=>False) w w':=⟨k4.1,fun b hb _=>k4.2 b hb (hno b),k4.3⟩
 have hblk:∀n m,(zin true R z n).2=(zin true R z m).2:=fun n m=>zs7 true R z n m
 generalize hbs:(zin true R z H0.length).2=bs at *
 have hbs':(zin true R z H.length).2=bs:=by rw[hblk H.length H0.length,hbs]
 rw[hbs']
 refine⟨y,fun id=>if id<H.length then ρ id else ρ1 (H0.length+(id-H.length)),rfl,fun i hi=>by simp[hi],fun ρ' hag => ?_,⟨hfr.1,fun b hb _=>hfr.2 b hb id,hfr.3⟩,fun id blk L hid hb hl' hL => ?_⟩
 · let σ':Env:=fun k=>if k<H0.length then ρ1 k else ρ' (H.length+(k-H0.length))
   have hσ':Agree (H0++bs).length ρ1 σ':=by
    intro k hk
    simp only[σ']
    split
    · rfl
    · rename_i hge
      rw[hag _ (by simp at hk ⊢;omega)]
      show (if H.length+(k-H0.length)<H.length then _ else _)=_
      rw[if_neg (by omega),show H.length+(k-H0.length)-H.length=k-H0.length by omega,show H0.length+(k-H0.length)=k by omega]
   obtain⟨q1,q2⟩:=k3 σ' hσ'
   have hsh:Shift σ' ρ' H0.length H.length (zin true R z H0.length).2.length:=by
    intro i _
    simp only[σ']
    rw[if_neg (by omega),show H.length+(H0.length+i-H0.length)=H.length+i by omega]
   refine⟨ybx true R z H0.length H.length y hsh q1, ?_⟩
   have hold:Rel ρ' H w':=zlh (hw ρ' (fun i hi=>by rw[hag i (by simp;omega)];simp[hi])).2 hfr
   have hold0:Rel ρ' H w:=(hw ρ' (fun i hi=>by rw[hag i (by simp;omega)];simp[hi])).2
   have get:∀i b,(H++bs)[i]? = some b→(i<H.length∧H[i]? = some b)∨∃j,i=H.length+j∧(H0++bs)[H0.length+j]? = some b∧ρ' i=σ' (H0.length+j):=by
    intro i b hi
    rcases Nat.lt_or_ge i H.length with z|z
    · rw[List.getElem?_append_left z] at hi;exact .inl ⟨z,hi⟩
    · rw[List.getElem?_append_right z] at hi
      refine .inr ⟨i-H.length,by omega, ?_, ?_⟩
      · rw[List.getElem?_append_right (by omega),show H0.length+(i-H.length)-H0.length=i-H.length by omega];exact hi
      · simp only[σ']
        rw[if_neg (by omega),show H.length+(H0.length+(i-H.length)-H0.length)=i by omega]
   have fresh:∀j b L,(H0++bs)[H0.length+j]? = some b→b.live=true→σ' (H0.length+j)=some L→w.heap.size≤L.b:=by
    intro j b L hb hbl hL
    have hlt:H0.length+j<(H0++bs).length:=by
     rcases Nat.lt_or_ge (H0.length+j) (H0++bs).length with z|z
     · exact z
     · simp[List.getElem?_eq_none z] at hb
    rw[hσ' _ hlt] at hL
    exact (k5 _ b L (by omega) hb hbl hL).resolve_left (hno _)
   refine⟨fun i b hi => ?_,fun i j b c L M hi hj hne hbl hcl hoo hL hM => ?_,fun i b L hi hbl hL => ?_⟩
   · rcases get i b hi with ⟨_,h1⟩|⟨k,rfl,h1,h2⟩
     · exact hold.blk i b h1
     · have:=q2.blk _ b h1
       have hmem:b ∈ bs:=by
        rw[List.getElem?_append_right (by omega)] at h1
        exact List.mem_of_getElem? h1
       have harr:∀(cs:List Pm)(x:PmT cs)(n:Nat),∀b ∈ (zav true cs x n).2,∃sh xs,b = .arr sh xs true:=by
        have hC:∀(c:Cs)(x:c.T)(n:Nat),∀b ∈ (zdx true c x n).2,∃sh xs,b = .arr sh xs true:=by
         intro c x n b hb
         cases c with
         | i _=>simp[zdx] at hb
         | b=>simp[zdx] at hb
         | sl sh=>simp[zdx] at hb;exact⟨_,_,hb⟩
         | sub sh=>simp[zdx] at hb;exact⟨_,_,hb⟩
        have hCs:∀(cs:List Cs)(x:CsT cs)(n:Nat),∀b ∈ (zc2 true cs x n).2,∃sh xs,b = .arr sh xs true:=by
         intro cs
         induction cs with
         | nil=>intro x n b hb;simp[zc2] at hb
         | cons c cs ih =>
          intro x n b hb
          cases cs with
          | nil=>exact hC c x n b hb
          | cons d cs =>
           simp only[zc2] at hb
           rcases List.mem_append.1 hb with hb|hb
           · exact hC c x.1 n b hb
           · exact ih x.2 _ b hb
        have hP:∀(p:Pm)(x:p.T)(n:Nat),∀b ∈ (zk1 true p x n).2,∃sh xs,b = .arr sh xs true:=by
         intro p x n b hb
         cases p with
         | one c=>exact hC c x n b hb
         | st cs=>exact hCs cs x n b hb
        intro cs
        induction cs with
        | nil=>intro x n b hb;simp[zav] at hb
        | cons c cs ih =>
         intro x n b hb
         cases cs with
         | nil=>exact hP c x n b hb
         | cons d cs =>
          simp only[zav] at hb
          rcases List.mem_append.1 hb with hb|hb
          · exact hP c x.1 n b hb
          · exact ih x.2 _ b hb
       rw[← hbs] at hmem
       obtain⟨sh0,xs0,rfl⟩:=harr R z _ _ hmem
       simp only[Rb] at this ⊢
       rw[h2]
       exact this
   · rcases get i b hi with ⟨_,h1⟩|⟨k,rfl,h1,h2⟩<;>rcases get j c hj with ⟨_,g1⟩|⟨l,rfl,g1,g2⟩
     · exact hold.sep i j b c L M h1 g1 hne hbl hcl hoo hL hM
     · have:=hold0.inb i b L h1 hbl hL
       rw[g2] at hM
       have:=fresh l c M g1 hcl hM
       omega
     · have:=hold0.inb j c M g1 hcl hM
       rw[h2] at hL
       have:=fresh k b L h1 hbl hL
       omega
     · rw[h2] at hL
       rw[g2] at hM
       exact q2.sep _ _ b c L M h1 g1 (by omega) hbl hcl hoo hL hM
   · rcases get i b hi with ⟨_,h1⟩|⟨k,rfl,h1,h2⟩
     · exact hold.inb i b L h1 hbl hL
     · rw[h2] at hL
       exact q2.inb _ b L h1 hbl hL
 · simp only at hL
   rw[if_neg (by omega)] at hL
   rw[List.getElem?_append_right hid] at hb
   right
   have h1:(H0++bs)[H0.length+(id-H.length)]? = some blk:=by
    rw[List.getElem?_append_right (by omega),show H0.length+(id-H.length)-H0.length=id-H.length by omega];exact hb
   exact (k5 _ blk L (by omega) h1 hl' hL).resolve_left (hno _)
theorem ycj{P:Program}{f:FuncId}{As R:List Pm}{req:PmT As→Option Prop}{g:PmT As→PmT R}
 (h:∀x,Hold (req x)→∀(σ:Env)(vs:List Value)(w:World),(∀σ',Agree (zav false As x 0).2.length σ σ'→RvL σ' (zav false As x 0).1 vs∧Rel σ' (zav false As x 0).2 w) →
  Calls P f vs.toArray w (Ends .returned σ (zav false As x 0).2 w (zin true R (g x) (zav false As x 0).2.length).1 ((zav false As x 0).2++(zin true R (g x) (zav false As x 0).2.length).2))):Sound P f (zai As R req g):=by
 intro args H p v H' hs hp ρ vs w hw
 unfold zai at hs
 split at hs
 case h_2=>cases hs
 rename_i ps x habs
 simp only[Option.some.injEq,Prod.mk.injEq] at hs
 obtain⟨rfl,rfl,rfl⟩:=hs
 obtain⟨hp',hreq⟩:=zqj hp
 obtain⟨σ,h1,h2⟩:=yik (R:=R) habs hp' hw
 exact (h x hreq σ vs w h1).mono (fun e w' he=>h2 (g x) e w' he)
theorem zft{P:Program}{f:FuncId}{As R:List Pm}{req req':PmT As→Option Prop}{g:PmT As→PmT R}(h:Sound P f (zai As R req g))(hr:∀x,Hold (req' x)→Hold (req x)):Sound P f (zai As R req' g):=by
 intro args H p v H' hs hp
 unfold zai at hs
 split at hs
 case h_2=>cases hs
 rename_i ps x habs
 simp only[Option.some.injEq,Prod.mk.injEq] at hs
 obtain⟨rfl,rfl,rfl⟩:=hs
 obtain⟨h1,h2⟩:=zqj hp
 refine h args H (yxy ps (req x)) _ _ (by unfold zai;rw[habs]) ?_
 have h3:=hr x h2
 cases ps with
 | nil=>exact h3
 | cons q ps =>
  cases hq:req x with
  | none=>exact zcu.2 h1
  | some r =>
   rw[hq] at h3
   refine zcu.2 (fun p hp => ?_)
   rcases List.mem_append.1 hp with hp|hp
   · exact h1 p hp
   · rw[List.mem_singleton.1 hp];exact h3
def zal(P:Program)(D:Dict)(Ξ:Specs)(fn:Func)(As R:List Pm)(x:PmT As)(y:PmT R):Prop :=
 vcC P D Ξ (zav false As x 0).2.length (zau fn) (yrn P fn (zav false As x 0).2.length (zin true R y (zav false As x 0).2.length).1 ((zav false As x 0).2++(zin true R y (zav false As x 0).2.length).2)) (zc0 fn (zav false As x 0).1) (zav false As x 0).2
def zam(P:Program)(D:Dict)(Ξ:Specs)(n0:Nat)(body:Code)(L:LoopS)(μ:L.α→Nat)(x:L.α):Prop:=vcC P D Ξ n0 body (yax n0 L μ x) (L.sl x) (L.H x)
def slots(n:Nat)(l:List (Nat × Av)):List Av:=(List.range n).map fun i=>(l.lookup i).getD .any
def zag(fn:Func)(i:Nat):Code:=(zap (zau fn)).getD i .skip
theorem zit{P:Program}(hm:P.follows .mixedOrders=true){f:FuncId}{fn:Func}(hf:P.funcs[f]? = some fn)(hb:fn.body=some (zau fn)){As R:List Pm}{req:PmT As→Option Prop}{g:PmT As→PmT R}{D:Dict}(hD:DictOk P D)
 (h:∀x,Hold (req x)→∃Ξ:Specs,(∀b ∈ zap (zau fn),∀k L,zbj b=some k→Ξ.loop k=some L→zbr P (zav false As x 0).2.length b L)∧zal P D Ξ fn As R x (g x)):Sound P f (zai As R req g):=by
 refine ycj (fun x hx σ vs w hw => ?_)
 obtain⟨Ξ,hL,hvc⟩:=h x hx
 exact zmb hm hf hb hD hL hvc hw
theorem zad{P:Program}(hm:P.follows .mixedOrders=true){f:FuncId}{fn:Func}(hf:P.funcs[f]? = some fn)(hb:fn.body=some (zau fn))(hl:zap (zau fn)=[]){As R:List Pm}{req:PmT As→Option Prop}{g:PmT As→PmT R}{D:Dict}(hD:DictOk P D)
 (h:∀x,Hold (req x)→zal P D .none fn As R x (g x)):Sound P f (zai As R req g) :=
 zit hm hf hb hD (fun x hx=>⟨.none,by rw[hl];exact (fun b hb=>by cases hb),h x hx⟩)
theorem yci{P:Program}(hm:P.follows .mixedOrders=true){f:FuncId}{fn:Func}(hf:P.funcs[f]? = some fn)(hb:fn.body=some (zau fn))(hl:zap (zau fn)=[]){As R:List Pm}{req:PmT As→Option Prop}{g:PmT As→PmT R}{D:Dict}(hD:DictOk P D)
 (h:∀x,Hold (req x)→zal P D .joins fn As R x (g x)):Sound P f (zai As R req g) :=
 zit hm hf hb hD (fun x hx=>⟨.joins,by rw[hl];exact (fun b hb=>by cases hb),h x hx⟩)
theorem zlr{P:Program}(hm:P.follows .mixedOrders=true){f:FuncId}{fn:Func}(hf:P.funcs[f]? = some fn)(hb:fn.body=some (zau fn))(hl:zap (zau fn)=[]){As R:List Pm}{req:PmT As→Option Prop}{g:PmT As→PmT R}{D:Dict}(hD:DictOk P D)
 (h:∀x,Hold (req x)→∃Ξ:Specs,zal P D Ξ fn As R x (g x)):Sound P f (zai As R req g) :=
 zit hm hf hb hD (fun x hx=>let ⟨Ξ,hv⟩:=h x hx;⟨Ξ,by rw[hl];exact (fun b hb=>by cases hb),hv⟩)
def mkD(l:List (FuncId × Sum))(m:List (FuncId × (Nat × (Nat→Sum))))(q:List (FuncId × (Nat × (Nat→Sum)))):Dict:=⟨fun g=>l.lookup g,fun g=>m.lookup g,fun g=>q.lookup g⟩
def zar(P:Program)(l:List (FuncId × Sum)):Prop:=∀p ∈ l,zfm P .returned p.1 p.2
def zi4(P:Program)(l:List (FuncId × (Nat × (Nat→Sum)))):Prop:=∀p ∈ l,∀k,zfm P .returned p.1 (p.2.2 k)
def zi5(P:Program)(l:List (FuncId × (Nat × (Nat→Sum)))):Prop:=∀p ∈ l,∀k,zfm P panics p.1 (p.2.2 k)
theorem zar.nil{P:Program}:zar P []:=fun p hp=>by cases hp
theorem zi4.nil{P:Program}:zi4 P []:=fun p hp=>by cases hp
theorem zi5.nil{P:Program}:zi5 P []:=fun p hp=>by cases hp
theorem zar.consK{P:Program}{g:FuncId}{S:Sum}{l:List (FuncId × Sum)}(hs:zfm P .returned g S)(h:zar P l):zar P ((g,S)::l):=fun p hp=>by
 rcases List.mem_cons.1 hp with rfl|hp
 · exact hs
 · exact h p hp
theorem zi4.consK{P:Program}{g:FuncId}{n:Nat}{S:Nat→Sum}{l:List (FuncId × (Nat × (Nat→Sum)))}(hs:∀k,zfm P .returned g (S k))(h:zi4 P l):zi4 P ((g,(n,S))::l):=fun p hp=>by
 rcases List.mem_cons.1 hp with rfl|hp
 · exact hs
 · exact h p hp
theorem zi5.consK{P:Program}{g:FuncId}{n:Nat}{S:Nat→Sum}{l:List (FuncId × (Nat × (Nat→Sum)))}(hs:∀k,zfm P panics g (S k))(h:zi5 P l):zi5 P ((g,(n,S))::l):=fun p hp=>by
 rcases List.mem_cons.1 hp with rfl|hp
 · exact hs
 · exact h p hp
theorem zar.cons{P:Program}{g:FuncId}{S:Sum}{l:List (FuncId × Sum)}(hc:callable P g=true)(hs:Sound P g S)(h:zar P l):zar P ((g,S)::l):=h.consK (.inl ⟨hc,hs⟩)
theorem zi4.cons{P:Program}{g:FuncId}{n:Nat}{S:Nat→Sum}{l:List (FuncId × (Nat × (Nat→Sum)))}(hc:callable P g=true)(hs:∀k,Sound P g (S k))(h:zi4 P l):zi4 P ((g,(n,S))::l):=h.consK (fun k => .inl ⟨hc,hs k⟩)
theorem zi5.cons{P:Program}{g:FuncId}{n:Nat}{S:Nat→Sum}{l:List (FuncId × (Nat × (Nat→Sum)))}(hc:callable P g=true)(hs:∀k,zcp P panics g (S k))(h:zi5 P l):zi5 P ((g,(n,S))::l):=h.consK (fun k => .inl ⟨hc,hs k⟩)
theorem zay{P:Program}{l:List (FuncId × Sum)}{m q:List (FuncId × (Nat × (Nat→Sum)))}(hl:zar P l)(hm:zi4 P m)(hq:zi5 P q):DictOk P (mkD l m q) where
 det g S h:=hl (g,S) (zd4 h)
 mul g n S h:=hm (g,(n,S)) (zd4 h)
 pan g n S h:=hq (g,(n,S)) (zd4 h)
attribute [irreducible] zal zam
theorem zab{A F:Prop}(e:A=F)(h:F):A:=e ▸ h
def Specs.one(k:Nat)(L:LoopS):Specs:={ Specs.none with loop:=fun i=>if i=k then some L else .none }
theorem za3(k:Nat)(L:LoopS):(Specs.one k L).loop k=some L:=if_pos rfl
theorem zbl{P:Program}(hm:P.follows .mixedOrders=true){f:FuncId}{fn:Func}(hf:P.funcs[f]? = some fn)(hb:fn.body=some (zau fn)){b:Code}{k:Nat}(hl:zap (zau fn)=[b])(hk:zbj b=some k)(hl0:zap b=[]){As R:List Pm}{req:PmT As→Option Prop}{g:PmT As→PmT R}{D:Dict}(hD:DictOk P D)
 (h:∀x,Hold (req x)→∃(Ξ:Specs)(L:LoopS)(μ:L.α→Nat),Ξ.loop k=some L∧(∀y,L.I y→zam P D Ξ (zav false As x 0).2.length b L μ y)∧zal P D Ξ fn As R x (g x)):Sound P f (zai As R req g):=by
 refine zit hm hf hb hD (fun x hx => ?_)
 obtain⟨Ξ,L,μ,h1,h2,h3⟩:=h x hx
 refine⟨Ξ,fun c hc k' M hk' hM => ?_,h3⟩
 rw[hl] at hc
 have e:=List.mem_singleton.1 hc
 subst e
 rw[hk] at hk'
 cases hk'
 rw[h1] at hM
 cases hM
 refine zdh (Ξ:=Ξ) hm hD (fun b hb=>by rw[hl0] at hb;cases hb) μ (fun y hy => ?_)
 have:=h2 y hy
 unfold zam at this
 exact this
def Specs.two(k:Nat)(L:LoopS)(k2:Nat)(L2:LoopS):Specs:={ Specs.none with loop:=fun i=>if i=k then some L else if i=k2 then some L2 else .none }
theorem znv(k:Nat)(L:LoopS)(k2:Nat)(L2:LoopS):(Specs.two k L k2 L2).loop k=some L:=if_pos rfl
theorem znw(k:Nat)(L:LoopS)(k2:Nat)(L2:LoopS)(h:k2≠k):(Specs.two k L k2 L2).loop k2=some L2:=by
 show (if k2=k then some L else if k2=k2 then some L2 else .none)=_
 rw[if_neg h,if_pos rfl]
theorem yil{P:Program}(hm:P.follows .mixedOrders=true){f:FuncId}{fn:Func}(hf:P.funcs[f]? = some fn)(hb:fn.body=some (zau fn)){b1 b2:Code}{k1 k2:Nat}(hl:zap (zau fn)=[b1,b2])(h1:zap b1=[b2])(h2:zap b2=[])(hk1:zbj b1=some k1)(hk2:zbj b2=some k2)
 {As R:List Pm} {req:PmT As→Option Prop} {g:PmT As→PmT R} {D:Dict} (hD:DictOk P D)
 (h:∀x,Hold (req x)→∃(Ξ:Specs)(L1:LoopS)(μ1:L1.α→Nat)(L2:LoopS)(μ2:L2.α→Nat),Ξ.loop k1=some L1∧Ξ.loop k2=some L2∧(∀y,L2.I y→zam P D Ξ (zav false As x 0).2.length b2 L2 μ2 y)∧(∀y,L1.I y→zam P D Ξ (zav false As x 0).2.length b1 L1 μ1 y)∧zal P D Ξ fn As R x (g x)):Sound P f (zai As R req g):=by
 refine zit hm hf hb hD (fun x hx => ?_)
 obtain⟨Ξ,L1,μ1,L2,μ2,e1,e2,r2,r1,h3⟩:=h x hx
 have ok2:zbr P (zav false As x 0).2.length b2 L2:=by
  refine zdh (Ξ:=Ξ) hm hD (fun b hb=>by rw[h2] at hb;cases hb) μ2 (fun y hy => ?_)
  have:=r2 y hy
  unfold zam at this
  exact this
 have ok1:zbr P (zav false As x 0).2.length b1 L1:=by
  refine zdh (Ξ:=Ξ) hm hD (fun b hb k L hk hL => ?_) μ1 (fun y hy => ?_)
  · rw[h1] at hb
    have e:=List.mem_singleton.1 hb
    subst e
    rw[hk2] at hk
    cases hk
    rw[e2] at hL
    cases hL
    exact ok2
  · have:=r1 y hy
    unfold zam at this
    exact this
 refine⟨Ξ,fun c hc k' M hk' hM => ?_,h3⟩
 rw[hl] at hc
 rcases List.mem_cons.1 hc with rfl|hc
 · rw[hk1] at hk'
   cases hk'
   rw[e1] at hM
   cases hM
   exact ok1
 · have e:=List.mem_singleton.1 hc
   subst e
   rw[hk2] at hk'
   cases hk'
   rw[e2] at hM
   cases hM
   exact ok2
def yqj(H:Heap):(c:Cs)→Av→Nat→Option (List Prop × c.T × Nat)
 | .i k,a,n=>match a with | .v (.int j x)=>if j=k then some ([],x,n) else none|_=>none
 | .b,a,n=>match a with | .v (.bool x)=>some ([],x,n)|_=>none
 | .sl sh,a,n=>match a with
  | .sl id z lo len=>if id=n∧z=sh.length∧lo=0 then (match H[n]? with
   | some (.arr sh' xs true)=>if h:sh'=sh then some ([len=xs.length],(h ▸ xs:List (El sh)),n+1) else none
   | _=>none) else none
  | _=>none
 | .sub _,_,_=>none
def ybw(H:Heap):(cs:List Cs)→List Av→Nat→Option (List Prop × CsT cs × Nat)
 | [],as,n=>match as with|[]=>some ([],(),n)|_=>none
 | [c],as,n=>match as with|[a]=>yqj H c a n|_=>none
 | c::d::cs,as,n=>match as with
  | a::as=>(match yqj H c a n with|some (p,x,n)=>(match ybw H (d::cs) as n with|some (q,y,n)=>some (p++q,(x,y),n)|none=>none)|none=>none)
  | []=>none
def decP(H:Heap):(p:Pm)→Av→Nat→Option (List Prop × p.T × Nat)
 | .one c,a,n=>yqj H c a n
 | .st cs,a,n=>match a with | .agg as=>ybw H cs as n|_=>none
def zw3(H:Heap):(ps:List Pm)→List Av→Nat→Option (List Prop × PmT ps × Nat)
 | [],as,n=>match as with|[]=>some ([],(),n)|_=>none
 | [p],as,n=>match as with|[a]=>decP H p a n|_=>none
 | p::q::ps,as,n=>match as with
  | a::as=>(match decP H p a n with|some (c,x,n)=>(match zw3 H (q::ps) as n with|some (d,y,n)=>some (c++d,(x,y),n)|none=>none)|none=>none)
  | []=>none
def Has(H:Heap)(n:Nat)(bs:Heap):Prop:=∀i b,bs[i]? = some b→H[n+i]? = some b
theorem Has.append{H:Heap}{n:Nat}{bs cs:Heap}(h:Has H n bs)(g:Has H (n+bs.length) cs):Has H n (bs++cs):=by
 intro i b hi
 rcases Nat.lt_or_ge i bs.length with q|q
 · rw[List.getElem?_append_left q] at hi;exact h i b hi
 · rw[List.getElem?_append_right q] at hi
   have:=g (i-bs.length) b hi
   rwa [show n+bs.length+(i-bs.length)=n+i by omega] at this
theorem Has.nil{H:Heap}{n:Nat}:Has H n []:=fun i b h=>by simp at h
theorem zw2{H:Heap}:∀{c:Cs}{a:Av}{n m:Nat}{ps:List Prop}{x:c.T},yqj H c a n=some (ps,x,m)→(∀p ∈ ps,p)→a=(zdx true c x n).1∧m=n+(zdx true c x n).2.length∧Has H n (zdx true c x n).2
 | .i k,a,n,m,ps,x,h,_=>by
  simp only[yqj] at h
  split at h
  · split at h
    · rename_i e
      simp only[Option.some.injEq,Prod.mk.injEq] at h
      obtain⟨rfl,rfl,rfl⟩:=h
      subst e
      exact⟨rfl,rfl,.nil⟩
    · cases h
  · cases h
 | .b,a,n,m,ps,x,h,_=>by
  simp only[yqj] at h
  split at h
  · simp only[Option.some.injEq,Prod.mk.injEq] at h
    obtain⟨rfl,rfl,rfl⟩:=h
    exact⟨rfl,rfl,.nil⟩
  · cases h
 | .sl sh,a,n,m,ps,x,h,hp=>by
  simp only[yqj] at h
  split at h
  · split at h
    · rename_i he
      obtain⟨rfl,rfl,rfl⟩:=he
      split at h
      · rename_i sh' xs hb
        split at h
        · rename_i hsh
          subst hsh
          simp only[Option.some.injEq,Prod.mk.injEq] at h
          obtain⟨rfl,rfl,rfl⟩:=h
          have:=hp _ List.mem_cons_self
          subst this
          refine⟨rfl,rfl,fun i b hi => ?_⟩
          cases i with
          | zero=>simp only[zdx,List.getElem?_cons_zero,Option.some.injEq] at hi;subst hi;exact hb
          | succ i=>simp[zdx] at hi
        · cases h
      · cases h
    · cases h
  · cases h
 | .sub _,_,_,_,_,_,h,_=>by simp[yqj] at h
theorem zz2{H:Heap}:∀{cs:List Cs}{as:List Av}{n m:Nat}{ps:List Prop}{x:CsT cs},ybw H cs as n=some (ps,x,m)→(∀p ∈ ps,p)→as=(zc2 true cs x n).1∧m=n+(zc2 true cs x n).2.length∧Has H n (zc2 true cs x n).2
 | [],as,n,m,ps,x,h,_=>by
  simp only[ybw] at h
  split at h
  · simp only[Option.some.injEq,Prod.mk.injEq] at h
    obtain⟨rfl,_,rfl⟩:=h
    exact⟨rfl,rfl,.nil⟩
  · cases h
 | [c],as,n,m,ps,x,h,hp=>by
  simp only[ybw] at h
  split at h
  · obtain⟨h1,h2,h3⟩:=zw2 h hp
    exact⟨by rw[h1];rfl,h2,h3⟩
  · cases h
 | c::d::cs,as,n,m,ps,x,h,hp=>by
  simp only[ybw] at h
  split at h
  · split at h
    · rename_i p x1 n1 e1
      split at h
      · rename_i q y n2 e2
        simp only[Option.some.injEq,Prod.mk.injEq] at h
        obtain⟨rfl,rfl,rfl⟩:=h
        obtain⟨h1,rfl,h3⟩:=zw2 e1 (fun z hz=>hp z (by simp[hz]))
        obtain⟨g1,rfl,g3⟩:=zz2 e2 (fun z hz=>hp z (by simp[hz]))
        exact⟨by rw[h1,g1];rfl,by simp[zc2,Nat.add_assoc],h3.append g3⟩
      · cases h
    · cases h
  · cases h
theorem yfr{H:Heap}:∀{p:Pm}{a:Av}{n m:Nat}{ps:List Prop}{x:p.T},decP H p a n=some (ps,x,m)→(∀p ∈ ps,p)→a=(zk1 true p x n).1∧m=n+(zk1 true p x n).2.length∧Has H n (zk1 true p x n).2
 | .one c,a,n,m,ps,x,h,hp=>zw2 (c:=c) h hp
 | .st cs,a,n,m,ps,x,h,hp=>by
  simp only[decP] at h
  split at h
  · obtain⟨h1,h2,h3⟩:=zz2 h hp
    exact⟨by rw[h1];rfl,h2,h3⟩
  · cases h
theorem zqp{H:Heap}:∀{cs:List Pm}{as:List Av}{n m:Nat}{ps:List Prop}{x:PmT cs},zw3 H cs as n=some (ps,x,m)→(∀p ∈ ps,p)→as=(zav true cs x n).1∧m=n+(zav true cs x n).2.length∧Has H n (zav true cs x n).2
 | [],as,n,m,ps,x,h,_=>by
  simp only[zw3] at h
  split at h
  · simp only[Option.some.injEq,Prod.mk.injEq] at h
    obtain⟨rfl,_,rfl⟩:=h
    exact⟨rfl,rfl,.nil⟩
  · cases h
 | [c],as,n,m,ps,x,h,hp=>by
  simp only[zw3] at h
  split at h
  · obtain⟨h1,h2,h3⟩:=yfr h hp
    exact⟨by rw[h1];rfl,h2,h3⟩
  · cases h
 | c::d::cs,as,n,m,ps,x,h,hp=>by
  simp only[zw3] at h
  split at h
  · split at h
    · rename_i p x1 n1 e1
      split at h
      · rename_i q y n2 e2
        simp only[Option.some.injEq,Prod.mk.injEq] at h
        obtain⟨rfl,rfl,rfl⟩:=h
        obtain⟨h1,rfl,h3⟩:=yfr e1 (fun z hz=>hp z (by simp[hz]))
        obtain⟨g1,rfl,g3⟩:=zqp e2 (fun z hz=>hp z (by simp[hz]))
        exact⟨by rw[h1,g1];rfl,by simp[zav,Nat.add_assoc],h3.append g3⟩
      · cases h
    · cases h
  · cases h
def yam(As R:List Pm)(req:PmT As→Option Prop)(g:PmT As→PmT As × PmT R):Sum:=fun args H =>
 match zw3 H As args 0 with
 | some (ps,x,n)=>if n=H.length then some (yxy ps (req x),(zin true R (g x).2 n).1,(zav true As (g x).1 0).2++(zin true R (g x).2 n).2) else none
 | none=>none
def zon(P:Program)(D:Dict)(Ξ:Specs)(fn:Func)(As R:List Pm)(x:PmT As)(y:PmT As × PmT R):Prop :=
 vcC P D Ξ (zav true As x 0).2.length (zau fn) (yrn P fn (zav true As x 0).2.length (zin true R y.2 (zav true As x 0).2.length).1 ((zav true As y.1 0).2++(zin true R y.2 (zav true As x 0).2.length).2)) (zc0 fn (zav true As x 0).1) (zav true As x 0).2
theorem yq9{P:Program}(hm:P.follows .mixedOrders=true){f:FuncId}{fn:Func}(hf:P.funcs[f]? = some fn)(hb:fn.body=some (zau fn)){As R:List Pm}{req:PmT As→Option Prop}{g:PmT As→PmT As × PmT R}{D:Dict}(hD:DictOk P D)
 (h:∀x,Hold (req x)→∃Ξ:Specs,(∀b ∈ zap (zau fn),∀k L,zbj b=some k→Ξ.loop k=some L→zbr P (zav true As x 0).2.length b L)∧zon P D Ξ fn As R x (g x)):Sound P f (yam As R req g):=by
 refine zlu hm hf hb (fun args H p v H' hs hp => ?_)
 unfold yam at hs
 split at hs
 case h_2=>cases hs
 rename_i ps x n hd
 split at hs
 case isFalse=>cases hs
 rename_i hn
 simp only[Option.some.injEq,Prod.mk.injEq] at hs
 obtain⟨rfl,rfl,rfl⟩:=hs
 obtain⟨hps,hreq⟩:=zqj hp
 obtain⟨rfl,h2,h3⟩:=zqp hd hps
 rw[Nat.zero_add] at h2
 have hH:H=(zav true As x 0).2:=by
  refine List.ext_getElem? (fun i => ?_)
  rcases Nat.lt_or_ge i (zav true As x 0).2.length with q|q
  · have:=h3 i _ (List.getElem?_eq_getElem q)
    rw[Nat.zero_add] at this
    rw[this,List.getElem?_eq_getElem q]
  · rw[List.getElem?_eq_none (by omega),List.getElem?_eq_none q]
 subst hH
 obtain⟨Ξ,hL,hvc⟩:=h x hreq
 refine⟨D,Ξ,hD,hL, ?_⟩
 unfold zon at hvc
 rw[← h2] at hvc ⊢
 exact hvc
theorem zlq{P:Program}(hm:P.follows .mixedOrders=true){f:FuncId}{fn:Func}(hf:P.funcs[f]? = some fn)(hb:fn.body=some (zau fn)){b:Code}{k:Nat}(hl:zap (zau fn)=[b])(hk:zbj b=some k)(hl0:zap b=[]){As R:List Pm}{req:PmT As→Option Prop}{g:PmT As→PmT As × PmT R}{D:Dict}(hD:DictOk P D)
 (h:∀x,Hold (req x)→∃(Ξ:Specs)(L:LoopS)(μ:L.α→Nat),Ξ.loop k=some L∧(∀y,L.I y→zam P D Ξ (zav true As x 0).2.length b L μ y)∧zon P D Ξ fn As R x (g x)):Sound P f (yam As R req g):=by
 refine yq9 hm hf hb hD (fun x hx => ?_)
 obtain⟨Ξ,L,μ,h1,h2,h3⟩:=h x hx
 refine⟨Ξ,fun c hc k' M hk' hM => ?_,h3⟩
 rw[hl] at hc
 have e:=List.mem_singleton.1 hc
 subst e
 rw[hk] at hk'
 cases hk'
 rw[h1] at hM
 cases hM
 refine zdh (Ξ:=Ξ) hm hD (fun b hb=>by rw[hl0] at hb;cases hb) μ (fun y hy => ?_)
 have:=h2 y hy
 unfold zam at this
 exact this
def zi1(P:Program)(D:Dict)(Ξ:Specs)(fn:Func)(args:List Av)(H:Heap)(v:Av)(H':Heap):Prop:=vcC P D Ξ H.length (zau fn) (yrn P fn H.length v H') (zc0 fn args) H
theorem zdk{P:Program}(hm:P.follows .mixedOrders=true){f:FuncId}{fn:Func}(hf:P.funcs[f]? = some fn)(hb:fn.body=some (zau fn)){b:Code}{k:Nat}(hl:zap (zau fn)=[b])(hk:zbj b=some k)(hl0:zap b=[]){S:Sum}{D:Dict}(hD:DictOk P D)
 (h:∀args H p v H',S args H=some (p,v,H')→Hold p→∃(Ξ:Specs)(L:LoopS)(μ:L.α→Nat),Ξ.loop k=some L∧(∀y,L.I y→zam P D Ξ H.length b L μ y)∧zi1 P D Ξ fn args H v H'):Sound P f S:=by
 refine zlu hm hf hb (fun args H p v H' hs hp => ?_)
 obtain⟨Ξ,L,μ,h1,h2,h3⟩:=h args H p v H' hs hp
 refine⟨D,Ξ,hD,fun c hc k' M hk' hM => ?_,h3⟩
 rw[hl] at hc
 have e:=List.mem_singleton.1 hc
 subst e
 rw[hk] at hk'
 cases hk'
 rw[h1] at hM
 cases hM
 refine zdh (Ξ:=Ξ) hm hD (fun b hb=>by rw[hl0] at hb;cases hb) μ (fun y hy => ?_)
 have:=h2 y hy
 unfold zam at this
 exact this
theorem zbi{P:Program}(hm:P.follows .mixedOrders=true){f:FuncId}{fn:Func}(hf:P.funcs[f]? = some fn)(hb:fn.body=some (zau fn))(hl:zap (zau fn)=[]){S:Sum}{D:Dict}(hD:DictOk P D)
 (h:∀args H p v H',S args H=some (p,v,H')→Hold p→∃Ξ:Specs,zi1 P D Ξ fn args H v H'):Sound P f S:=by
 refine zlu hm hf hb (fun args H p v H' hs hp => ?_)
 obtain⟨Ξ,h3⟩:=h args H p v H' hs hp
 exact⟨D,Ξ,hD,by rw[hl];exact (fun b hb=>by cases hb),h3⟩
attribute [irreducible] zon zi1
theorem zah{n:Int}(h₀:0≤n)(h₁:n<18446744073709551616):IntKind.u64.wrap n=n:=by rw[IntKind.wrap_u64];omega
theorem zaa{n:Int}(h₀ : -9223372036854775808≤n)(h₁:n<9223372036854775808):IntKind.i64.wrap n=n:=IntWalk.i64_in n ⟨h₀,by omega⟩
theorem wraps64(n:Int)(h₀:0≤n)(h₁:n<2 ^ 64):IntKind.u64.wrap n=n:=zah h₀ (by omega)
theorem zzx{x:Int}(i:Nat)(hi:i≤64)(h₀:0≤x)(h₁:x<18446744073709551616):bits .and .u64 x (2 ^ i-1)=x % 2 ^ i :=
 bits_mask .u64 64 (by decide) wraps64 i hi x h₀ (by omega)
theorem zcg{x:Int}(i:Nat)(c d:Int)(hi:i≤64)(hc:c=2 ^ i-1)(hd:d=2 ^ i)(h₀:0≤x)(h₁:x<18446744073709551616):bits .and .u64 x c=x % d:=by
 rw[hc,hd]
 exact zzx i hi h₀ h₁
theorem yh7(x i:Nat)(_hi:i≤64)(hx:x<2 ^ 64) :
 (BitVec.ofNat 64 x &&& ~~~ (BitVec.ofNat 64 (2 ^ i-1))).toNat=x-x % 2 ^ i:=by
 have e:x-x % 2 ^ i=(x >>> i) <<< i:=by
  rw[Nat.shiftLeft_eq,Nat.shiftRight_eq_div_pow]
  have:=Nat.div_add_mod x (2 ^ i)
  rw[Nat.mul_comm] at this
  omega
 rw[e]
 have hlt:(x >>> i) <<< i<2 ^ 64:=by rw[← e];omega
 have:BitVec.ofNat 64 x &&& ~~~ (BitVec.ofNat 64 (2 ^ i-1))=BitVec.ofNat 64 ((x >>> i) <<< i):=by
  apply BitVec.eq_of_getLsbD_eq
  intro j hj
  simp only[BitVec.getLsbD_and,BitVec.getLsbD_not,BitVec.getLsbD_ofNat,hj,decide_true,Bool.true_and,Nat.testBit_two_pow_sub_one,Nat.testBit_shiftLeft,Nat.testBit_shiftRight]
  by_cases h:j<i
  · simp[h,Nat.not_le.2 h]
  · have h':i≤j:=Nat.le_of_not_lt h
    simp[h,h',Nat.add_sub_cancel' h']
 rw[this,BitVec.toNat_ofNat]
 exact Nat.mod_eq_of_lt hlt
theorem zl7{x:Int}(i:Nat)(hi:i≤64)(h₀:0≤x)(h₁:x<18446744073709551616):bits .andNot .u64 x (2 ^ i-1)=x-x % 2 ^ i:=by
 obtain⟨a,rfl⟩:=Int.eq_ofNat_of_zero_le h₀
 have ha:a<2 ^ 64:=by omega
 have hpos:0<2 ^ i:=Nat.two_pow_pos i
 have hc:((2:Int) ^ i-1)=((2 ^ i-1:Nat):Int):=by rw[Int.natCast_sub hpos];simp
 rw[hc]
 show IntKind.u64.wrap ((BitVec.ofInt 64 (a:Int) &&& ~~~ (BitVec.ofInt 64 ((2 ^ i-1:Nat):Int))).toNat:Int)=_
 rw[BitVec.ofInt_natCast,BitVec.ofInt_natCast,yh7 a i hi ha]
 have hm:a % 2 ^ i≤a:=Nat.mod_le _ _
 rw[zah (Int.natCast_nonneg _) (by omega),Int.natCast_sub hm]
 simp
theorem zrg{x y:Int}(i:Nat)(hx₀:0≤x)(hx:x % 2 ^ i=0)(hx₁:x<18446744073709551616)(hy₀:0≤y)(hy:y<2 ^ i)(hy₁:y<18446744073709551616) :
 bits .or .u64 x y=x+y :=
 bits_join .u64 64 (by decide) wraps64 i x y hx₀ hx (by omega) hy₀ hy (by omega)
theorem pow_pos(n:Nat):(0:Int)<2 ^ n:=Int.pow_pos (by decide)
theorem zpr{m n:Nat}(h:m≤n):(2:Int) ^ m≤2 ^ n:=by
 have:=Nat.pow_le_pow_right (n:=2) (by decide) h
 exact_mod_cast this
theorem zs4{x:Int}(n:Nat)(h0:0≤x):0≤x/2 ^ n∧x/2 ^ n≤x:=⟨Int.ediv_nonneg h0 (Int.le_of_lt (pow_pos n)),Int.ediv_le_self _ h0⟩
theorem ztu(x:Int)(n:Nat):0≤x % 2 ^ n∧x % 2 ^ n<2 ^ n:=⟨Int.emod_nonneg _ (Int.ne_of_gt (pow_pos n)),Int.emod_lt_of_pos _ (pow_pos n)⟩
theorem zev{x y:Int}(h:0≤x):x.tdiv y=x/y:=Int.tdiv_eq_ediv_of_nonneg h
theorem zb1{x y:Int}(h:0≤x):x.tmod y=x % y:=Int.tmod_eq_emod_of_nonneg h
open Go Go.RowKit
def WfTy:(t:Ty)→t.T→Prop
 | .b,_=>True
 | .i k,n=>(Lit.int k n).wf=true
 | .sv,_=>False
def yqa:(sh:List Ty)→El sh→Prop
 | [],_=>True
 | [t],x=>WfTy t x
 | t::u::ts,x=>WfTy t x.1∧yqa (u::ts) x.2
def WfC:(c:Cs)→c.T→Prop
 | .i k,n=>(Lit.int k n).wf=true
 | .b,_=>True
 | .sl sh,xs=>xs.length≤maxLen∧∀y ∈ xs,yqa sh y
 | .sub sh,xs=>xs.length≤maxLen∧∀y ∈ xs,yqa sh y
def WfCs:(cs:List Cs)→CsT cs→Prop
 | [],_=>True
 | [c],x=>WfC c x
 | c::d::cs,x=>WfC c x.1∧WfCs (d::cs) x.2
def WfP:(p:Pm)→p.T→Prop
 | .one c,x=>WfC c x
 | .st cs,x=>WfCs cs x
def WfPs:(ps:List Pm)→PmT ps→Prop
 | [],_=>True
 | [p],x=>WfP p x
 | p::q::ps,x=>WfP p x.1∧WfPs (q::ps) x.2
def El.cons{t:Ty}:{ts:List Ty}→t.T→El ts→El (t::ts)
 | [],x,_=>x
 | _::_,x,y=>(x,y)
theorem El.cons_vals{t:Ty}:∀{ts:List Ty}(x:t.T)(y:El ts),El.vals (t::ts) (El.cons x y)=t.val x::El.vals ts y
 | [],_,_=>rfl
 | _::_,_,_=>rfl
theorem El.cons_wf{t:Ty}:∀{ts:List Ty}{x:t.T}{y:El ts},WfTy t x→yqa ts y→yqa (t::ts) (El.cons x y)
 | [],_,_,h,_=>h
 | _::_,_,_,h,g=>⟨h,g⟩
def yux(P:Program)(t:TypeId):Option Ty:=match P.underlying t with|some .bool=>some .b|some (.int k)=>some (.i k)|_=>none
def zt7(P:Program):List Field→Nat→Option (List Ty)
 | [],_=>some []
 | f::fs,i=>if f.offset=i∧P.cellsOf f.type=1 then (match yux P f.type,zt7 P fs (i+1) with|some t,some ts=>some (t::ts)|_,_=>none) else none
def yyf(P:Program)(e:TypeId):Option (List Ty):=match P.underlying e with
 | some (.struct fs)=>match zt7 P fs.toList 0 with|some ts=>if P.cellsOf e=ts.length then some ts else none|none=>none
 | some .bool=>some [.b]
 | some (.int k)=>some [.i k]
 | _=>none
def flds(F:TypeId→Option (List Cs))(P:Program):List Field→Nat→Option (List Cs)
 | [],_=>some []
 | f::fs,i=>match F f.type with
  | some cs=>if f.offset=i∧P.cellsOf f.type=cs.length then (match flds F P fs (i+cs.length) with|some ds=>some (cs++ds)|none=>none) else none
  | none=>none
def yx4(P:Program):Nat→TypeId→Option (List Cs)
 | 0,_=>none
 | n+1,t=>match P.underlying t with
  | some .bool=>some [.b]
  | some (.int k)=>some [.i k]
  | some (.slice e)=>match yyf P e with|some sh=>if P.cellsOf e=sh.length∧0<sh.length then some [.sl sh] else none|none=>none
  | some (.struct fs)=>match flds (yx4 P n) P fs.toList 0 with|some cs=>if P.cellsOf t=cs.length then some cs else none|none=>none
  | _=>none
def pmOf(P:Program)(t:TypeId):Option Pm:=match P.underlying t with
 | some (.struct _)=>(yx4 P 6 t).map .st
 | some .bool=>some (.one .b)
 | some (.int k)=>some (.one (.i k))
 | some (.slice e)=>match yyf P e with|some sh=>if P.cellsOf e=sh.length∧0<sh.length then some (.one (.sl sh)) else none|none=>none
 | _=>none
def yij(P:Program):List TypeId→Option (List Pm)
 | []=>some []
 | t::ts=>match pmOf P t,yij P ts with|some p,some ps=>some (p::ps)|_,_=>none
section
variable {H:Type} {enc:TypeId × Value→H} {P:Program} {W:World}
abbrev Tr(enc:TypeId × Value→H)(P:Program)(W:World)(fuel:Nat)(t:TypeId)(cs:List Value):=DataW.trod enc P W 0 (fun _=>true) true fuel t cs
theorem yv0{t:TypeId}{s:Ty}(ht:yux P t=some s){fuel:Nat}{cs:List Value}{x:DataW H × List MemPlace}(h:Tr enc P W fuel t cs=some x):∃y:s.T,cs=[s.val y]∧WfTy s y:=by
 unfold yux at ht
 split at ht
 · rename_i e
   cases ht
   obtain⟨b,rfl,_⟩:=DataW.trod_bool e h
   exact⟨b,rfl,trivial⟩
 · rename_i k e
   cases ht
   obtain⟨n,rfl,_,hw⟩:=DataW.trod_int e h
   exact⟨n,rfl,hw⟩
 · cases ht
theorem ybb{n:Nat}{cs:List Value}:∀{fs:List Field}{i:Nat}{ts:List Ty},zt7 P fs i=some ts→(∀f ∈ fs,∃x,Tr enc P W n f.type ((cs.drop f.offset).take (P.cellsOf f.type))=some x)→cs.length=i+ts.length→∃y:El ts,cs.drop i=El.vals ts y∧yqa ts y
 | [],i,ts,h,_,hl=>by
  simp only[zt7,Option.some.injEq] at h
  subst h
  refine⟨(), ?_,trivial⟩
  simp at hl
  simp[El.vals,hl]
 | f::fs,i,ts,h,hf,hl=>by
  simp only[zt7] at h
  split at h
  case isFalse=>cases h
  rename_i ho
  split at h
  case h_2=>cases h
  rename_i t ts' h1 h2
  simp only[Option.some.injEq] at h
  subst h
  obtain⟨x,hx⟩:=hf f List.mem_cons_self
  rw[ho.1,ho.2] at hx
  obtain⟨y,e,hy⟩:=yv0 h1 hx
  obtain⟨z,e2,hz⟩:=ybb h2 (fun g hg=>hf g (List.mem_cons_of_mem _ hg)) (by simp at hl;omega)
  refine⟨El.cons y z, ?_,El.cons_wf hy hz⟩
  have hi:i<cs.length:=by rw[hl];simp
  rw[El.cons_vals, ← e2]
  have e3:=List.drop_eq_getElem_cons hi
  rw[e3] at e
  simp only[List.take_succ_cons,List.take_zero,List.cons.injEq,and_true] at e
  rw[e3,e]
theorem zmo{fs:Array Field}{xs:List (DataW H × List MemPlace)}{n:Nat}{cs:List Value}(hl:xs.length=fs.size)
 (h:∀(i:Nat)(f:Field),fs[i]? = some f→Tr enc P W n f.type ((cs.drop f.offset).take (P.cellsOf f.type))=xs[i]?):∀f ∈ fs.toList,∃x,Tr enc P W n f.type ((cs.drop f.offset).take (P.cellsOf f.type))=some x:=by
 intro f hf
 obtain⟨i,hi⟩:=List.getElem?_of_mem hf
 have hi':fs[i]? = some f:=by simpa using hi
 have hlt:i<xs.length:=by
  rw[hl]
  exact (Array.getElem?_eq_some_iff.1 hi').1
 exact⟨xs[i],by rw[h i f hi',List.getElem?_eq_getElem hlt]⟩
theorem ytg{e:TypeId}{sh:List Ty}(he:yyf P e=some sh){fuel:Nat}{cs:List Value}{x:DataW H × List MemPlace}(h:Tr enc P W fuel e cs=some x):∃y:El sh,cs=El.vals sh y∧yqa sh y:=by
 unfold yyf at he
 split at he
 · rename_i fs hu
   split at he
   case h_2=>cases he
   rename_i ts hts
   split at he
   case isFalse=>cases he
   rename_i hc
   cases he
   obtain⟨xs,n,rfl,rfl,h1,h2,h3⟩:=DataW.trod_struct hu h
   obtain⟨y,e1,hy⟩:=ybb hts (zmo h2 h3) (by rw[h1,hc,Nat.zero_add])
   exact⟨y,by simpa using e1,hy⟩
 · rename_i hu
   cases he
   obtain⟨b,rfl,_⟩:=DataW.trod_bool hu h
   exact⟨b,rfl,trivial⟩
 · rename_i k hu
   cases he
   obtain⟨n,rfl,_,hw⟩:=DataW.trod_int hu h
   exact⟨n,rfl,hw⟩
 · cases he
theorem zmn{α:Type}{p:Nat→α→Prop}:∀(n:Nat),(∀i,i<n→∃y,p i y)→∃xs:List α,xs.length=n∧∀i y,xs[i]? = some y→p i y
 | 0,_=>⟨[],rfl,fun i y h=>by simp at h⟩
 | n+1,h=>by
  obtain⟨xs,h1,h2⟩:=zmn n (fun i hi=>h i (by omega))
  obtain⟨y,hy⟩:=h n (by omega)
  refine⟨xs++[y],by simp[h1],fun i z hz => ?_⟩
  rcases Nat.lt_or_ge i n with q|q
  · rw[List.getElem?_append_left (by omega)] at hz;exact h2 i z hz
  · rw[List.getElem?_append_right (by omega),h1] at hz
    cases hi:i-n with
    | zero =>
     rw[hi] at hz
     simp at hz
     subst hz
     have:i=n:=by omega
     subst this
     exact hy
    | succ k=>rw[hi] at hz;simp at hz
def ybh(W:World)(c:Cs)(v:Value):Prop:=∃x:c.T,WfC c x∧∀n,∃locs:List (Option Loc),locs.length=(zdx false c x n).2.length∧∀σ,At σ n locs→Rv σ (zdx false c x n).1 v∧zf4 σ W n (zdx false c x n).2
def zl2(W:World)(cs:List Cs)(vs:List Value):Prop:=∃x:CsT cs,WfCs cs x∧∀n,∃locs:List (Option Loc),locs.length=(zc2 false cs x n).2.length∧∀σ,At σ n locs→RvL σ (zc2 false cs x n).1 vs∧zf4 σ W n (zc2 false cs x n).2
theorem zl2.nil:zl2 W [] []:=⟨(),trivial,fun _=>⟨[],rfl,fun σ _=>⟨trivial,fun i b h=>by simp[zc2] at h⟩⟩⟩
theorem zl2.cons{c:Cs}{v:Value}(h:ybh W c v):∀{cs:List Cs}{vs:List Value},zl2 W cs vs→zl2 W (c::cs) (v::vs)
 | [],vs,g=>by
  obtain⟨x,h1,h2⟩:=h
  obtain⟨_,_,g2⟩:=g
  obtain⟨locs,_,g3⟩:=g2 0
  refine⟨x,h1,fun n => ?_⟩
  obtain⟨l,h3,h4⟩:=h2 n
  refine⟨l,h3,fun σ hσ => ?_⟩
  obtain⟨h5,h6⟩:=h4 σ hσ
  have hv:vs=[]:=by
   have:At (fun i=>(locs[i]?).getD none) 0 locs:=fun i o hi=>by simp[hi]
   have:=(g3 _ this).1
   cases vs with
   | nil=>rfl
   | cons _ _=>simp[zc2,RvL] at this
  subst hv
  exact⟨⟨h5,trivial⟩,h6⟩
 | d::cs,vs,g=>by
  obtain⟨x,h1,h2⟩:=h
  obtain⟨y,g1,g2⟩:=g
  refine⟨(x,y),⟨h1,g1⟩,fun n => ?_⟩
  obtain⟨l,h3,h4⟩:=h2 n
  obtain⟨m,g3,g4⟩:=g2 (n+(zdx false c x n).2.length)
  refine⟨l++m,by simp[zc2,h3,g3],fun σ hσ => ?_⟩
  obtain⟨h5,h6⟩:=h4 σ hσ.left
  obtain⟨g5,g6⟩:=g4 σ (by have:=hσ.right;rwa [h3] at this)
  exact⟨⟨h5,g5⟩,h6.append g6⟩
def zik(W:World):List Cs→List Value→Prop
 | [],[]=>True
 | c::cs,v::vs=>ybh W c v∧zik W cs vs
 | _,_=>False
theorem zik.append:∀{as:List Cs}{vs:List Value}{bs:List Cs}{ws:List Value},zik W as vs→zik W bs ws→zik W (as++bs) (vs++ws)
 | [],[],_,_,_,g=>g
 | [],_::_,_,_,h,_=>h.elim
 | _::_,[],_,_,h,_=>h.elim
 | _::_,_::_,_,_,h,g=>⟨h.1,zik.append h.2 g⟩
theorem zik.opens:∀{as:List Cs}{vs:List Value},zik W as vs→zl2 W as vs
 | [],[],_ => .nil
 | [],_::_,h=>h.elim
 | _::_,[],h=>h.elim
 | _::_,_::_,h=>zl2.cons h.1 (zik.opens h.2)
theorem zik.length:∀{as:List Cs}{vs:List Value},zik W as vs→vs.length=as.length
 | [],[],_=>rfl
 | [],_::_,h=>h.elim
 | _::_,[],h=>h.elim
 | _::_,_::_,h=>by simp[zik.length h.2]
theorem yrb(b:Bool):ybh W .b (.bool b):=⟨b,trivial,fun n=>⟨[],rfl,fun σ _=>⟨rfl,fun i c h=>by simp[zdx] at h⟩⟩⟩
theorem yrc{k:IntKind}{m:Int}(h:(Lit.int k m).wf=true):ybh W (.i k) (.int k m):=⟨m,h,fun n=>⟨[],rfl,fun σ _=>⟨rfl,fun i c h=>by simp[zdx] at h⟩⟩⟩
theorem yqd{a:Addr}(h:a.spot=none)(n:Nat):a.add n=⟨a.block,a.off+n,none⟩:=by
 unfold Addr.add
 split
 · rename_i e
   subst e
   cases a
   simp only at h
   subst h
   rfl
 · rfl
theorem yfn{w:World}{a:Addr}{v:Value}(h:w.cell? a=some v):a.spot=none∧a.block<w.heap.size:=by
 unfold World.cell? at h
 split at h
 · rename_i c t f hb
   split at h
   · cases h
   · rename_i hs
     refine⟨by cases e:a.spot with|none=>rfl|some x=>rw[e] at hs;exact absurd rfl hs, ?_⟩
     rcases Nat.lt_or_ge a.block w.heap.size with q|q
     · exact q
     · simp[Array.getElem?_eq_none q] at hb
 · cases h
theorem yid{t e:TypeId}{sh:List Ty}(hu:P.underlying t=some (.slice e))(he:yyf P e=some sh)(hc:P.cellsOf e=sh.length)(hpos:0<sh.length){fuel:Nat}{cs:List Value}{x:DataW H × List MemPlace}(h:Tr enc P W fuel t cs=some x) :
 ∃v,cs=[v]∧ybh W (.sl sh) v:=by
 have none_case:∀p:Option Addr,ybh W (.sl sh) (.slice p 0 0):=by
  intro p
  refine⟨[],⟨Nat.zero_le _,fun y hy=>by cases hy⟩,fun n=>⟨[none],rfl,fun σ hσ => ?_⟩⟩
  have h0:σ n=none:=by simpa using hσ 0 none rfl
  refine⟨?_,fun i b hi => ?_⟩
  · simp only[zdx,Rv]
    exact .inl ⟨h0,by simp,by simp,p,by simp⟩
  · cases i with
    | succ i=>simp[zdx] at hi
    | zero =>
     simp only[zdx,List.getElem?_cons_zero,Option.some.injEq] at hi
     subst hi
     exact⟨rfl,.inl ⟨by simpa using h0,rfl⟩,fun L hL=>by rw[Nat.add_zero,h0] at hL;cases hL⟩
 rcases DataW.trod_slice hu h with ⟨rfl,_⟩|⟨a,len,cap,elems,rest,n,_,rfl,rfl,_,hl,hm,hlen,hel,hsp,_⟩
 · exact⟨_,rfl,none_case none⟩
 refine⟨_,rfl, ?_⟩
 obtain⟨hrl,hr⟩:=hsp rfl
 rcases Nat.eq_zero_or_pos cap with hz|hz
 · have:len=0:=by omega
   subst this
   subst hz
   exact none_case (some a)
 have each:∀i,i<cap→∃cs',W.cells? 0 (a.add (i*sh.length)) sh.length=some cs'∧∃y,Tr enc P W n e cs'=some y:=by
  intro i hi
  have:∃y,(W.cells? 0 (a.add (i*P.cellsOf e)) (P.cellsOf e)).bind (DataW.trod enc P W 0 (fun _=>true) true n e)=some y:=by
   rcases Nat.lt_or_ge i len with q|q
   · exact⟨elems[i],by rw[hel i q,List.getElem?_eq_getElem (by omega)]⟩
   · have:=hr (i-len) (by omega)
     rw[show len+(i-len)=i by omega] at this
     exact⟨rest[i-len],by rw[this,List.getElem?_eq_getElem (by omega)]⟩
  obtain⟨y,hy⟩:=this
  rw[hc,Option.bind_eq_some_iff] at hy
  obtain⟨cs',h1,h2⟩:=hy
  exact⟨cs',h1,y,h2⟩
 obtain⟨cs0,g1,_⟩:=each 0 hz
 obtain⟨_,g2,g3⟩:=World.cells?_some g1
 have hcell:=g3 0 hpos
 rw[List.getElem?_eq_getElem (by omega)] at hcell
 rw[Nat.zero_mul] at hcell
 have hadd:(a.add 0).add 0=a:=by simp[Addr.add]
 rw[hadd] at hcell
 obtain⟨hspot,hblk⟩:=yfn hcell
 have cells:∀i,i<cap→∃y:El sh,yqa sh y∧∀j v,(El.vals sh y)[j]? = some v→W.cell? ⟨a.block,a.off+i*sh.length+j,none⟩=some v:=by
  intro i hi
  obtain⟨cs',h1,y,h2⟩:=each i hi
  obtain⟨z,rfl,hz⟩:=ytg he h2
  obtain⟨_,k2,k3⟩:=World.cells?_some h1
  refine⟨z,hz,fun j v hj => ?_⟩
  have hlt:j<sh.length:=by
   rw[← k2]
   rcases Nat.lt_or_ge j (El.vals sh z).length with q|q
   · exact q
   · simp[List.getElem?_eq_none q] at hj
  have:=k3 j hlt
  rw[hj,yqd hspot,yqd rfl] at this
  exact this
 obtain⟨xs,hx1,hx2⟩:=zmn len (fun i hi=>cells i (by omega))
 refine⟨xs,⟨by omega,fun y hy => ?_⟩,fun m=>⟨[some ⟨a.block,a.off,cap,{}⟩],rfl,fun σ hσ => ?_⟩⟩
 · obtain⟨i,hi⟩:=List.getElem?_of_mem hy
   exact (hx2 i y hi).1
 · have h0:σ m=some ⟨a.block,a.off,cap,{}⟩:=by simpa using hσ 0 _ rfl
   refine⟨?_,fun i b hi => ?_⟩
   · simp only[zdx,Rv]
     refine .inr ⟨_,0,h0,by simp only;omega,.inl rfl, ?_⟩
     rw[hx1]
     cases a
     simp only at hspot
     subst hspot
     simp
   · cases i with
     | succ i=>simp[zdx] at hi
     | zero =>
      simp only[zdx,List.getElem?_cons_zero,Option.some.injEq] at hi
      subst hi
      refine⟨rfl,.inr ⟨_,by simpa using h0,by simp only;omega,fun i x hx j v hj=>(hx2 i x hx).2 j v hj,fun e=>by cases e⟩,fun M hM => ?_⟩
      rw[Nat.add_zero,h0] at hM
      cases hM
      exact hblk
theorem ztf{F:TypeId→Option (List Cs)}{n:Nat}{vals:List Value}(hF:∀{t:TypeId} {cs:List Cs} {vs:List Value} {x:DataW H × List MemPlace},F t=some cs→Tr enc P W n t vs=some x→zik W cs vs) :
 ∀{fs:List Field}{i:Nat}{cs:List Cs},flds F P fs i=some cs→(∀f ∈ fs,∃x,Tr enc P W n f.type ((vals.drop f.offset).take (P.cellsOf f.type))=some x)→vals.length=i+cs.length→zik W cs (vals.drop i)
 | [],i,cs,h,_,hl=>by
  simp only[flds,Option.some.injEq] at h
  subst h
  have:vals.drop i=[]:=by rw[List.drop_eq_nil_iff];rw[hl];simp
  rw[this]
  trivial
 | f::fs,i,cs,h,hf,hl=>by
  simp only[flds] at h
  split at h
  case h_2=>cases h
  rename_i c1 h1
  split at h
  case isFalse=>cases h
  rename_i ho
  split at h
  case h_2=>cases h
  rename_i c2 h2
  simp only[Option.some.injEq] at h
  subst h
  obtain⟨x,hx⟩:=hf f List.mem_cons_self
  rw[ho.1,ho.2] at hx
  have k1:=hF h1 hx
  have k2:=ztf hF h2 (fun g hg=>hf g (List.mem_cons_of_mem _ hg)) (by simp at hl;omega)
  have:=k1.append k2
  rwa [show (vals.drop i).take c1.length++vals.drop (i+c1.length)=vals.drop i by rw[← List.drop_drop,List.take_append_drop]] at this
theorem zs3:∀{k:Nat}{t:TypeId}{cs:List Cs},yx4 P k t=some cs→∀{fuel:Nat}{vals:List Value}{x:DataW H × List MemPlace},Tr enc P W fuel t vals=some x→zik W cs vals
 | 0,_,_,h,_,_,_,_=>by simp[yx4] at h
 | k+1,t,cs,h,fuel,vals,x,hx=>by
  simp only[yx4] at h
  split at h
  · rename_i hu
    cases h
    obtain⟨b,rfl,_⟩:=DataW.trod_bool hu hx
    exact⟨yrb b,trivial⟩
  · rename_i kk hu
    cases h
    obtain⟨m,rfl,_,hw⟩:=DataW.trod_int hu hx
    exact⟨yrc hw,trivial⟩
  · rename_i e hu
    split at h
    case h_2=>cases h
    rename_i sh he
    split at h
    case isFalse=>cases h
    rename_i hc
    cases h
    obtain⟨v,rfl,hv⟩:=yid hu he hc.1 hc.2 hx
    exact⟨hv,trivial⟩
  · rename_i fs hu
    split at h
    case h_2=>cases h
    rename_i c hc
    split at h
    case isFalse=>cases h
    rename_i hl
    cases h
    obtain⟨xs,n,rfl,rfl,h1,h2,h3⟩:=DataW.trod_struct hu hx
    have:=ztf (W:=W) (fun h g=>zs3 h g) hc (zmo h2 h3) (by rw[h1,hl,Nat.zero_add])
    simpa using this
  · cases h
def yxr(W:World)(p:Pm)(v:Value):Prop:=∃x:p.T,WfP p x∧∀n,∃locs:List (Option Loc),locs.length=(zk1 false p x n).2.length∧∀σ,At σ n locs→Rv σ (zk1 false p x n).1 v∧zf4 σ W n (zk1 false p x n).2
def zl3(W:World)(ps:List Pm)(vs:List Value):Prop:=∃x:PmT ps,WfPs ps x∧∀n,∃locs:List (Option Loc),locs.length=(zav false ps x n).2.length∧∀σ,At σ n locs→RvL σ (zav false ps x n).1 vs∧zf4 σ W n (zav false ps x n).2
theorem zl3.nil:zl3 W [] []:=⟨(),trivial,fun _=>⟨[],rfl,fun σ _=>⟨trivial,fun i b h=>by simp[zav] at h⟩⟩⟩
theorem zl3.cons{c:Pm}{v:Value}(h:yxr W c v):∀{cs:List Pm}{vs:List Value},zl3 W cs vs→zl3 W (c::cs) (v::vs)
 | [],vs,g=>by
  obtain⟨x,h1,h2⟩:=h
  obtain⟨_,_,g2⟩:=g
  obtain⟨locs,_,g3⟩:=g2 0
  refine⟨x,h1,fun n => ?_⟩
  obtain⟨l,h3,h4⟩:=h2 n
  refine⟨l,h3,fun σ hσ => ?_⟩
  obtain⟨h5,h6⟩:=h4 σ hσ
  have hv:vs=[]:=by
   have:At (fun i=>(locs[i]?).getD none) 0 locs:=fun i o hi=>by simp[hi]
   have:=(g3 _ this).1
   cases vs with
   | nil=>rfl
   | cons _ _=>simp[zav,RvL] at this
  subst hv
  exact⟨⟨h5,trivial⟩,h6⟩
 | d::cs,vs,g=>by
  obtain⟨x,h1,h2⟩:=h
  obtain⟨y,g1,g2⟩:=g
  refine⟨(x,y),⟨h1,g1⟩,fun n => ?_⟩
  obtain⟨l,h3,h4⟩:=h2 n
  obtain⟨m,g3,g4⟩:=g2 (n+(zk1 false c x n).2.length)
  refine⟨l++m,by simp[zav,h3,g3],fun σ hσ => ?_⟩
  obtain⟨h5,h6⟩:=h4 σ hσ.left
  obtain⟨g5,g6⟩:=g4 σ (by have:=hσ.right;rwa [h3] at this)
  exact⟨⟨h5,g5⟩,h6.append g6⟩
theorem ynt{t:TypeId}{p:Pm}(ht:pmOf P t=some p){b0:Nat}{v:Value}{d:DataW H}{ps:List MemPlace}(hval:Value.okWide P W .any b0 t v)(hd:DataW.Trod enc P W 0 (fun _=>true) true t v d ps):yxr W p v:=by
 obtain⟨fuel,hf⟩:=hd
 unfold pmOf at ht
 split at ht
 · rename_i fs hu
   rw[Option.map_eq_some_iff] at ht
   obtain⟨cs,hcs,rfl⟩:=ht
   obtain⟨vals,rfl,_⟩:=WideShapes.okWide_struct hu hval
   have hf':Tr enc P W fuel t vals.toList=some (d,ps):=by simpa[Value.cells] using hf
   obtain⟨x,h1,h2⟩:=(zs3 hcs hf').opens
   refine⟨x,h1,fun n => ?_⟩
   obtain⟨l,h3,h4⟩:=h2 n
   refine⟨l,h3,fun σ hσ => ?_⟩
   obtain⟨h5,h6⟩:=h4 σ hσ
   exact⟨⟨vals.toList,by simp,h5⟩,h6⟩
 · rename_i hu
   cases ht
   obtain⟨b,rfl⟩:=WideShapes.okWide_bool hu hval
   obtain⟨x,h1,h2⟩:=yrb (W:=W) b
   exact⟨x,h1,h2⟩
 · rename_i k hu
   cases ht
   obtain⟨m,rfl⟩:=WideShapes.okWide_int hu hval
   have hf':Tr enc P W fuel t [.int k m]=some (d,ps):=by simpa[Value.cells] using hf
   obtain⟨m',e,_,hw⟩:=DataW.trod_int hu hf'
   cases e
   obtain⟨x,h1,h2⟩:=yrc (W:=W) hw
   exact⟨x,h1,h2⟩
 · rename_i e hu
   split at ht
   case h_2=>cases ht
   rename_i sh he
   split at ht
   case isFalse=>cases ht
   rename_i hc
   cases ht
   obtain⟨a,len,cap,rfl⟩:=WideShapes.okWide_slice hu hval
   have hf':Tr enc P W fuel t [.slice a len cap]=some (d,ps):=by simpa[Value.cells] using hf
   obtain⟨v,e1,x,h1,h2⟩:=yid hu he hc.1 hc.2 hf'
   cases e1
   exact⟨x,h1,h2⟩
 · cases ht
theorem yao{b0:Nat}:∀{ts:List TypeId}{As:List Pm}{vs:List Value}{ds:List (DataW H)}{ps:List MemPlace},yij P ts=some As→(∀(j:Nat) t v,ts[j]? = some t→vs[j]? = some v→Value.okWide P W .any b0 t v)→DataW.TrodAll enc P W 0 (fun _=>true) true ts vs ds ps→zl3 W As vs
 | [],As,vs,ds,ps,h,_,hA=>by
  simp only[yij,Option.some.injEq] at h
  subst h
  obtain⟨rfl,_,_⟩:=ChangeShapes.trodAll_nil hA
  exact .nil
 | t::ts,As,vs,ds,ps,h,hval,hA=>by
  simp only[yij] at h
  split at h
  case h_2=>cases h
  rename_i p qs h1 h2
  cases h
  obtain⟨v,vs',d,ds',p',q',rfl,rfl,rfl,g1,g2⟩:=ChangeShapes.trodAll_cons hA
  exact zl3.cons (ynt h1 (hval 0 t v rfl rfl) g1) (yao h2 (fun j t v ht hv=>hval (j+1) t v (by simpa using ht) (by simpa using hv)) g2)
theorem Below_trodAll(hl:laidOutB P=true){W':World}(hb:Below W.heap.size W W'):∀{ts:List TypeId}{vs:List Value}{ds:List (DataW H)}{ps:List MemPlace},(∀t ∈ ts,P.readableRec t=true∧t<P.types.size)→DataW.TrodAll enc P W 0 (fun _=>true) true ts vs ds ps→DataW.TrodAll enc P W' 0 (fun b=>decide (b<W.heap.size)) true ts vs ds ps
 | [],vs,ds,ps,_,hA=>by
  obtain⟨rfl,rfl,rfl⟩:=ChangeShapes.trodAll_nil hA
  exact ChangeShapes.trodAll_mk0
 | t::ts,vs,ds,ps,hr,hA=>by
  obtain⟨v,vs',d,ds',p,q,rfl,rfl,rfl,g1,g2⟩:=ChangeShapes.trodAll_cons hA
  refine⟨p,q,Below.trod hl (hr t List.mem_cons_self).1 (hr t List.mem_cons_self).2 g1 hb ?_,Below_trodAll hl hb (fun u hu=>hr u (List.mem_cons_of_mem _ hu)) g2,rfl⟩
  obtain⟨m,hm⟩:=g1
  exact DataW.trod_lt m _ _ _ hm
end
def Canon(P:Program)(f:FuncId)(As R:List Pm)(req:PmT As→Prop)(g:PmT As→PmT R):Prop :=
 ∀x,req x→∀(σ:Env)(vs:List Value)(w:World),(∀σ',Agree (zav false As x 0).2.length σ σ'→RvL σ' (zav false As x 0).1 vs∧Rel σ' (zav false As x 0).2 w) →
  Calls P f vs.toArray w (Ends .returned σ (zav false As x 0).2 w (zin true R (g x) (zav false As x 0).2.length).1 ((zav false As x 0).2++(zin true R (g x) (zav false As x 0).2.length).2))
theorem ymk{P:Program}(hm:P.follows .mixedOrders=true){f:FuncId}{fn:Func}(hf:P.funcs[f]? = some fn)(hb:fn.body=some (zau fn)){As R:List Pm}{req:PmT As→Prop}{g:PmT As→PmT R}{D:Dict}(hD:DictOk P D)
 (h:∀x,req x→∃Ξ:Specs,(∀b ∈ zap (zau fn),∀k L,zbj b=some k→Ξ.loop k=some L→zbr P (zav false As x 0).2.length b L)∧zal P D Ξ fn As R x (g x)):Canon P f As R req g:=by
 intro x hx σ vs w hw
 obtain⟨Ξ,hL,hvc⟩:=h x hx
 unfold zal at hvc
 exact zmb hm hf hb hD hL hvc hw
theorem zwy{P:Program}(hm:P.follows .mixedOrders=true){f:FuncId}{fn:Func}(hf:P.funcs[f]? = some fn)(hb:fn.body=some (zau fn))(hl:zap (zau fn)=[]){As R:List Pm}{req:PmT As→Prop}{g:PmT As→PmT R}{D:Dict}(hD:DictOk P D)
 (h:∀x,req x→∃Ξ:Specs,zal P D Ξ fn As R x (g x)):Canon P f As R req g :=
 ymk hm hf hb hD (fun x hx=>let ⟨Ξ,hv⟩:=h x hx;⟨Ξ,by rw[hl];exact (fun b hb=>by cases hb),hv⟩)
theorem law_calls{H:Type}{enc:TypeId × Value→H}{P:Program}{f:FuncId}{As:List Pm}(h:Canon P f As [.one .b] (WfPs As) (fun _=>true)){ts:List TypeId}(ht:yij P ts=some As){b0:Nat}{W:World}{args:Array Value}{ds:List (DataW H)}{ps:List MemPlace}
 (hval:∀(j:Nat) t v,ts[j]? = some t→args[j]? = some v→Value.okWide P W .any b0 t v) (hA:DataW.TrodAll enc P W 0 (fun _=>true) true ts args.toList ds ps):Calls P f args W fun e W'=>e = .returned (.bool true)∧Below W.heap.size W W':=by
 obtain⟨x,h1,h2⟩:=yao ht (fun j t v ht hv=>hval j t v ht (by simpa using hv)) hA
 obtain⟨locs,hl,henc⟩:=h2 0
 generalize hH0:(zav false As x 0).2=H0 at *
 let σ:Env:=fun i=>(locs[i]?).getD none
 have hat:∀σ',Agree H0.length σ σ'→At σ' 0 locs:=by
  intro σ' hag i o hi
  have hlt:i<locs.length:=by
   rcases Nat.lt_or_ge i locs.length with q|q
   · exact q
   · simp[List.getElem?_eq_none q] at hi
  rw[Nat.zero_add,hag i (by omega)]
  simp only[σ,hi,Option.getD_some]
 have hown:∀(i:Nat)(b:Blk),H0[i]? = some b→b.own=false:=fun i b hi=>((henc σ (hat σ (Agree.refl _ _))).2 i b hi).1
 have hrel:∀σ',Agree H0.length σ σ'→Rel σ' H0 W:=by
  intro σ' hag
  have hb:=(henc σ' (hat σ' hag)).2
  refine⟨fun i b hi=>by have:=(hb i b hi).2.1;rwa [Nat.zero_add] at this,fun i j b c L M hi hj _ _ _ hoo => ?_,fun i b L hi _ hL=>(hb i b hi).2.2 L (by rw[Nat.zero_add];exact hL)⟩
  rw[hown i b hi,hown j c hj] at hoo
  rcases hoo with e|e<;>cases e
 have:=h x h1 σ args.toList W (fun σ' hag=>by rw[hH0] at hag ⊢;exact⟨(henc σ' (hat σ' hag)).1,hrel σ' hag⟩)
 rw[Array.toArray_toList] at this
 refine this.mono ?_
 rw[hH0]
 rintro e w' ⟨y,ρ1,rfl,_,k3,k4,_⟩
 have hy:=(k3 ρ1 (Agree.refl _ _)).1
 have hno:∀b,¬ owns σ H0 b:=by
  rintro b ⟨id,blk,L,g1,g2,_⟩
  rw[hown id blk g1] at g2
  cases g2
 refine⟨?_,k4.3.os,k4.3.tape,k4.3.output,k4.1,fun k hk=>k4.2 k hk (hno k)⟩
 exact congrArg _ hy
structure Out where
 pan:Bool
 v:Av
 H:Heap
 out:Prop
def yif(n0:Nat)(av:Av)(H:Heap)(o:Out):Prop:=match o.pan with|true=>False|false=>zf3 n0 [o.v] o.H [av] H∧o.out
def yrd(n0:Nat)(x:Value)(H:Heap)(o:Out):Prop:=match o.pan with|true=>zf3 n0 [o.v] o.H [.v x] H∧o.out|false=>False
def outK(P:Program)(fn:Func)(n0:Nat)(l:List Out):Post:=fun ex sl H =>
 match ex with
 | .ext _=>False
 | .pan x=>ymg (l.map (yrd n0 x H))
 | _=>match yqb P fn sl H with|some av=>ymg (l.map (yif n0 av H))|none=>False
def zku(P:Program)(D:Dict)(Ξ:Specs)(fn:Func)(args:List Av)(H:Heap)(l:List Out):Prop:=vcC P D Ξ H.length (zau fn) (outK P fn H.length l) (zc0 fn args) H
def zw7(b:Bool):Value→Ending:=match b with|true=>panics|false => .returned
theorem yfk{P:Program}(hm:P.follows .mixedOrders=true){f:FuncId}{fn:Func}(hf:P.funcs[f]? = some fn)(hb:fn.body=some (zau fn)){args:List Av}{H:Heap}{l:List Out}{D:Dict}{Ξ:Specs}(hD:DictOk P D)
 (hL:∀b ∈ zap (zau fn),∀k L,zbj b=some k→Ξ.loop k=some L→zbr P H.length b L) (hvc:zku P D Ξ fn args H l) {ρ:Env} {vs:List Value} {w:World}
 (hw:∀ρ',Agree H.length ρ ρ'→RvL ρ' args vs∧Rel ρ' H w):Calls P f vs.toArray w (fun e w'=>∃o ∈ l,o.out∧Ends (zw7 o.pan) ρ H w o.v o.H e w'):=by
 unfold zku at hvc
 refine znr hm hf hb hD hL hvc hw (fun ex sl H1 a w' hk hi => ?_)
 have main:∀av,yqb P fn sl H1=some av→ymg (l.map (yif H.length av H1))→a.defers=[]∧∃y,(results fn a.tmps).run P w' = .ok y w'∧∃o ∈ l,o.out∧Ends (zw7 o.pan) ρ H w o.v o.H (.returned y) w':=by
  intro av hav hany
  obtain⟨i1,i2,i3,ρ0,i4,i5,i6⟩:=id hi
  obtain⟨hs0,hr0⟩:=i5 ρ0 (Agree.refl _ _)
  obtain⟨y,hy1,_⟩:=zqi hav hs0 hr0
  obtain⟨p,h1,h2⟩:=zlj hany
  obtain⟨o,ho,rfl⟩:=List.mem_map.1 h1
  unfold yif at h2
  split at h2
  · exact h2.elim
  rename_i hpan
  obtain⟨hfit,hout⟩:=h2
  refine⟨i1,y,hy1,o,ho,hout, ?_⟩
  obtain⟨ρ1,g⟩:=zqy hi hfit (y:=y) (fun ρ hs hr=>by
   obtain⟨y2,hy2,hv⟩:=zqi hav hs hr
   rw[hy1] at hy2
   cases hy2
   exact hv)
  exact⟨y,ρ1,by rw[hpan];rfl,g⟩
 cases ex with
 | ext id=>exact hk.elim
 | nrm =>
  simp only[outK] at hk
  split at hk
  · rename_i av hav;exact main av hav hk
  · exact hk.elim
 | ret =>
  simp only[outK] at hk
  split at hk
  · rename_i av hav;exact main av hav hk
  · exact hk.elim
 | pan x =>
  obtain⟨p,h1,h2⟩:=zlj hk
  obtain⟨o,ho,rfl⟩:=List.mem_map.1 h1
  unfold yrd at h2
  split at h2
  case h_2=>exact h2.elim
  rename_i hpan
  obtain⟨hfit,hout⟩:=h2
  obtain⟨ρ1,g⟩:=zqy hi hfit (y:=x) (fun ρ _ _=>rfl)
  exact⟨hi.1,o,ho,hout,x,ρ1,by rw[hpan];rfl,g⟩
theorem zda{P:Program}(hm:P.follows .mixedOrders=true){D:Dict}(hD:DictOk P D){n0:Nat}{body:Code}{L:LoopS}(hl:zap body=[])(μ:L.α→Nat)(round:∀x,L.I x→∃Ξ,zam P D Ξ n0 body L μ x):zbr P n0 body L:=by
 refine zk3 hm hD μ (fun x hx => ?_)
 obtain⟨Ξ,h⟩:=round x hx
 unfold zam at h
 exact⟨Ξ,by rw[hl];exact (fun b hb=>by cases hb),h⟩
theorem zek{P:Program}(hm:P.follows .mixedOrders=true){f:FuncId}{fn:Func}(hf:P.funcs[f]? = some fn)(hb:fn.body=some (zau fn)){S:Sum}(pan:Bool){D:Dict}(hD:DictOk P D)
 (h:∀args H p v H',S args H=some (p,v,H')→Hold p→∃(Ξ:Specs)(l:List Out),(∀b ∈ zap (zau fn),∀k L,zbj b=some k→Ξ.loop k=some L→zbr P H.length b L)∧zku P D Ξ fn args H l∧∀o ∈ l,o.out→o.pan=pan∧o.v=v∧o.H=H'):zcp P (zw7 pan) f S:=by
 intro args H p v H' hs hp ρ vs w hw
 obtain⟨Ξ,l,hL,hvc,hl⟩:=h args H p v H' hs hp
 refine (yfk hm hf hb hD hL hvc hw).mono ?_
 rintro e w' ⟨o,ho,hout,hE⟩
 obtain⟨rfl,rfl,rfl⟩:=hl o ho hout
 exact hE
theorem zd5{P:Program}{fn:Func}(h:zap (zau fn)=[]){n:Nat}{Ξ:Specs}:∀b ∈ zap (zau fn),∀k L,zbj b=some k→Ξ.loop k=some L→zbr P n b L:=by rw[h];exact fun b hb=>by cases hb
theorem yht{P:Program}(hm:P.follows .mixedOrders=true){D:Dict}(hD:DictOk P D){fn:Func}{b:Code}{k:Nat}(hl:zap (zau fn)=[b])(hk:zbj b=some k)(hl0:zap b=[]){n:Nat}{Ξ:Specs}{L:LoopS}{μ:L.α→Nat}(h1:Ξ.loop k=some L)(h2:∀y,L.I y→zam P D Ξ n b L μ y) :
 ∀b ∈ zap (zau fn),∀k L,zbj b=some k→Ξ.loop k=some L→zbr P n b L:=by
 intro c hc k' M hk' hM
 rw[hl] at hc
 have e:=List.mem_singleton.1 hc
 subst e
 rw[hk] at hk'
 cases hk'
 rw[h1] at hM
 cases hM
 refine zdh (Ξ:=Ξ) hm hD (fun b hb=>by rw[hl0] at hb;cases hb) μ (fun y hy => ?_)
 have:=h2 y hy
 unfold zam at this
 exact this
def Specs.many(l:List (Nat × LoopS)):Specs:={ Specs.none with loop:=fun i=>match l.find? (fun p=>p.1==i) with|some p=>some p.2 | .none => .none }
attribute [irreducible] zku
structure DrawL where
 σ:Type
 β:Type
 sl:σ→List Av
 H:σ→Heap
 id:Nat
 fsl:β→List Av
 fH:β→Heap
def yyc(n0:Nat)(L:DrawL):L.σ ⊕ L.β→Post
 | .inl y,.nrm,sl,H=>zf3 n0 (L.sl y) (L.H y) sl H
 | .inr z,.ext k,sl,H=>k=L.id∧zf3 n0 (L.fsl z) (L.fH z) sl H
 | _,_,_,_=>False
def yak1(P:Program)(D:Dict)(Ξ:Specs)(n0:Nat)(body:Code)(L:DrawL)(x:L.σ)(y:L.σ):Prop:=vcC P D Ξ n0 body (yyc n0 L (.inl y)) (L.sl x) (L.H x)
def yv1(P:Program)(D:Dict)(Ξ:Specs)(n0:Nat)(body:Code)(L:DrawL)(x:L.σ)(z:L.β):Prop:=vcC P D Ξ n0 body (yyc n0 L (.inr z)) (L.sl x) (L.H x)
attribute [irreducible] yak1 yv1
def ztv(As R:List Pm)(req:PmT As→Option Prop)(g:PmT As→PmT R):Sum:=fun args H =>
 match zw3 H As args 0 with
 | some (ps,x,n)=>if n=H.length then some (yxy ps (req x),(zin true R (g x) n).1,H.map (fun _ => .dead)++(zin true R (g x) n).2) else none
 | none=>none
def zi2(P:Program)(D:Dict)(Ξ:Specs)(fn:Func)(As R:List Pm)(x:PmT As)(y:PmT R):Prop :=
 vcC P D Ξ (zav true As x 0).2.length (zau fn) (yrn P fn (zav true As x 0).2.length (zin true R y (zav true As x 0).2.length).1 ((zav true As x 0).2.map (fun _ => .dead)++(zin true R y (zav true As x 0).2.length).2)) (zc0 fn (zav true As x 0).1) (zav true As x 0).2
theorem yh4{P:Program}(hm:P.follows .mixedOrders=true){f:FuncId}{fn:Func}(hf:P.funcs[f]? = some fn)(hb:fn.body=some (zau fn)){As R:List Pm}{req:PmT As→Option Prop}{g:PmT As→PmT R}{D:Dict}(hD:DictOk P D)
 (h:∀x,Hold (req x)→∃Ξ:Specs,(∀b ∈ zap (zau fn),∀k L,zbj b=some k→Ξ.loop k=some L→zbr P (zav true As x 0).2.length b L)∧zi2 P D Ξ fn As R x (g x)):Sound P f (ztv As R req g):=by
 refine zlu hm hf hb (fun args H p v H' hs hp => ?_)
 unfold ztv at hs
 split at hs
 case h_2=>cases hs
 rename_i ps x n hd
 split at hs
 case isFalse=>cases hs
 rename_i hn
 simp only[Option.some.injEq,Prod.mk.injEq] at hs
 obtain⟨rfl,rfl,rfl⟩:=hs
 obtain⟨hps,hreq⟩:=zqj hp
 obtain⟨rfl,h2,h3⟩:=zqp hd hps
 rw[Nat.zero_add] at h2
 have hH:H=(zav true As x 0).2:=by
  refine List.ext_getElem? (fun i => ?_)
  rcases Nat.lt_or_ge i (zav true As x 0).2.length with q|q
  · have:=h3 i _ (List.getElem?_eq_getElem q)
    rw[Nat.zero_add] at this
    rw[this,List.getElem?_eq_getElem q]
  · rw[List.getElem?_eq_none (by omega),List.getElem?_eq_none q]
 subst hH
 obtain⟨Ξ,hL,hvc⟩:=h x hreq
 refine⟨D,Ξ,hD,hL, ?_⟩
 unfold zi2 at hvc
 rw[← h2] at hvc ⊢
 exact hvc
theorem zhk{P:Program}(hm:P.follows .mixedOrders=true){f:FuncId}{fn:Func}(hf:P.funcs[f]? = some fn)(hb:fn.body=some (zau fn))(hl:zap (zau fn)=[]){As R:List Pm}{req:PmT As→Option Prop}{g:PmT As→PmT R}{D:Dict}(hD:DictOk P D)
 (h:∀x,Hold (req x)→∃Ξ:Specs,zi2 P D Ξ fn As R x (g x)):Sound P f (ztv As R req g) :=
 yh4 hm hf hb hD (fun x hx=>let ⟨Ξ,hv⟩:=h x hx;⟨Ξ,by rw[hl];exact (fun b hb=>by cases hb),hv⟩)
attribute [irreducible] zi2
section
variable {α:Type} {A B J:α→Prop}
end
end Go.Proofs.YtfiddfbagbaofaaGreat.V
