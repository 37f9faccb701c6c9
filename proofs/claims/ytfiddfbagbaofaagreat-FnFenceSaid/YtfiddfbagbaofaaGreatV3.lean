/- A small machine of signs and its soundness, part 3: no program in sight. Conditions: those in each statement. -/
import Derived.Test.YtfiddfbagbaofaaGreatV2
import Derived.OpenShut
import Derived.Laws.BitsLemmas
import Derived.Laws.Bits64b
import Derived.IntWalk
import Derived.ChangeSlices
import Derived.ChangeOld
import Derived.Carry
namespace Go.Proofs.YtfiddfbagbaofaaGreat.V
open Go
inductive Ex where
 | nrm
 | ext (id:Nat)
 | ret
 | pan (v:Value)
def zil:Ex→Exit
 | .nrm => .normal
 | .ext id => .exit id
 | .ret => .ret
 | .pan v => .panic [{ v,recovered:=false }]
def Ex.same:Ex→Ex→Bool
 | .nrm,.nrm=>true
 | .ext i,.ext j=>i==j
 | .ret,.ret=>true
 | _,_=>false
theorem Ex.same_ok{a b:Ex}(h:a.same b=true):a=b:=by
 cases a<;>cases b<;>simp[Ex.same] at h ⊢
 exact h
abbrev Post:=Ex→List Av→Heap→Prop
def QK(B:Base)(K:Post)(e:Exit)(a:Act)(w:World):Prop:=∃ex sl H,e=zil ex∧Inv B sl H a w∧K ex sl H
theorem QK.mono{B:Base}{K K':Post}(h:∀ex sl H,K ex sl H→K' ex sl H){e:Exit}{a:Act}{w:World}:QK B K e a w→QK B K' e a w :=
 fun ⟨ex,sl,H,h1,h2,h3⟩=>⟨ex,sl,H,h1,h2,h _ _ _ h3⟩
def ΓP(D:Dict)(k:Nat):Sums:=fun g=>match D.pan g with
 | some m=>some (ylh (m.2 k))
 | none=>none
theorem sumsP{P:Program}{D:Dict}(h:DictOk P D)(k:Nat):∀g S,ΓP D k g=some S→callable P g=true∧zd7 P panics g S:=by
 intro g S hS
 unfold ΓP at hS
 split at hS
 · rename_i m hm
   simp only[Option.some.injEq] at hS
   subst hS
   obtain⟨h1,h2⟩:=h.pan g m.1 m.2 hm
   exact⟨h1,zps (h2 k)⟩
 · cases hS
def ypm(P:Program)(D:Dict)(o:Oper)(sl:List Av):Option (Nat × Nat) :=
 match zyr P sl o with
 | some g=>match D.mul g,D.pan g with
  | some m,some q=>some (m.1,q.1)
  | some m,none=>some (m.1,0)
  | none,some q=>some (1,q.1)
  | none,none=>none
 | none=>none
def yaw{α:Type}(f:Nat→Option α):Nat→Nat→Option (List α)
 | _,0=>some []
 | k,n+1=>match f k,yaw f (k+1) n with|some r,some rs=>some (r::rs)|_,_=>none
theorem zl9{α:Type}{f:Nat→Option α}:∀{n k:Nat}{rs:List α},yaw f k n=some rs→∀r ∈ rs,∃j,f j=some r
 | 0,k,rs,h,r,hr=>by simp only[yaw,Option.some.injEq] at h;subst h;cases hr
 | n+1,k,rs,h,r,hr=>by
  simp only[yaw] at h
  split at h
  · rename_i r0 rs0 h1 h2
    simp only[Option.some.injEq] at h
    subst h
    rcases List.mem_cons.1 hr with rfl|hr
    · exact⟨k,h1⟩
    · exact zl9 h2 r hr
  · cases h
def zvr(P:Program)(Γ:Sums)(o:Oper)(sl:List Av)(H:Heap):Option (Option Prop × Av × Heap) :=
 match o.op with
 | .call c=>ecall P Γ c sl H
 | _=>none
def ygf(K:Post)(sl:List Av)(H:Heap)(v:Av):Prop:=match zbz v with|some x=>K (.pan x) sl H|none=>False
def ylx(P:Program)(D:Dict):List Oper→Post→List Av→Heap→Prop
 | [],K,sl,H=>K .nrm sl H
 | o::ops,K,sl,H =>
  match o.op with
  | .panic x=>match evS sl x with | .ifc t a=>ygf K sl H (.ifc t a)|_=>False
  | _ =>
   match ypm P D o sl with
   | none=>match estep P (ΓK D 0) o sl H with
    | some (p,av,H')=>ytl p (ylx P D ops K (znc sl o.dst av) H')
    | none=>False
   | some (n,m) =>
    match yaw (fun k=>estep P (ΓK D k) o sl H) 0 n,yaw (fun k=>zvr P (ΓP D k) o sl H) 0 m with
    | some rs,some qs=>ylj (rs.map (·.1)++qs.map (·.1))∧zkq (rs.map (fun r=>impH r.1 (ylx P D ops K (znc sl o.dst r.2.1) r.2.2))++qs.map (fun r=>impH r.1 (ygf K sl r.2.2 r.2.1)))
    | _,_=>False
theorem zzc{K:Post}{sl:List Av}{H:Heap}{v:Av}(h:ygf K sl H v){ρ:Env}{y:Value}(hy:Rv ρ v y):K (.pan y) sl H:=by
 unfold ygf at h
 split at h
 · rename_i x hx;rw[zd4 hx hy];exact h
 · exact h.elim
theorem zws{P:Program}{D:Dict}(hD:DictOk P D){B:Base}{K:Post}{A:Array Oper}{Q:Exit→Act→World→Prop}(hQ:∀e a w,QK B K e a w→Q e a w):∀{ops:List Oper}{i:Nat}{sl:List Av}{H:Heap},(∀j,A[i+j]? = ops[j]?)→ops.all (fun o=>o.guard.isNone)=true →
 ylx P D ops K sl H→∀{a:Act}{w:World},Inv B sl H a w→wpOps P A Q (List.range' i ops.length) a w
 | [],i,sl,H,_,_,h,a,w,hi=>by
  simp only[List.length_nil,List.range'_zero,wpOps]
  exact hQ _ _ _ ⟨.nrm,sl,H,rfl,hi,h⟩
 | o::ops,i,sl,H,hA,hg,h,a,w,hi=>by
  rw[List.length_cons,List.range'_succ,wpOps_cons]
  have ho:A[i]? = some o:=by simpa using hA 0
  simp only[List.all_cons,Bool.and_eq_true] at hg
  have hwant:Region.wanted o (yielded A a.tmps)=true:=by
   have:o.guard=none:=by simpa using hg.1
   unfold Region.wanted
   rw[this]
  have hnext:∀{sl':List Av}{H':Heap}{a':Act}{w':World},ylx P D ops K sl' H'→Inv B sl' H' a' w'→wpOps P A Q (List.range' (i+1) ops.length) a' w':=by
   intro sl' H' a' w' hr hi'
   exact zws hD hQ (fun j=>by have:=hA (j+1);rw[show i+(j+1)=i+1+j by omega] at this;simpa using this) hg.2 hr hi'
  unfold wpOp
  simp only[ho,hwant,if_true]
  left
  obtain⟨i1,i2,i3,ρ,i4,i5,i6⟩:=id hi
  have one:∀(k:Nat)(r:Option Prop × Av × Heap),estep P (ΓK D k) o sl H=some r→Hold r.1→ylx P D ops K (znc sl o.dst r.2.1) r.2.2→o.wp P a w (wpOps P A Q (List.range' (i+1) ops.length)) Q:=by
   intro k r hs hp hr
   have hgo:=zkw (yme hD k) (p:=r.1) (av:=r.2.1) (H':=r.2.2) hs hp i5
   have hinv:∀y w',Eff ρ H w r.2.1 r.2.2 y w'→Inv B (znc sl o.dst r.2.1) r.2.2 (a.put o.dst y) w':=by
    intro y w' he
    obtain⟨k1,ρ1,k2,k3,k4,k5⟩:=he
    refine⟨by rw[zer];exact i1,i2.trans k4 (fun b hb hC => ?_),i3.trans k1,ρ1,i4.trans (k2.le i3.le),fun ρ' ha => ?_,fun id blk L hid hb hl hL => ?_⟩
    · obtain⟨id,blk,L,g1,g2,g3,rfl⟩:=hC
      rcases Nat.lt_or_ge id B.H.length with q|q
      · obtain⟨f1,_⟩:=i3.fl id _ blk (List.getElem?_eq_getElem q) g1
        exact⟨id,_,L,List.getElem?_eq_getElem q,f1 g2,by rw[← i4 id q];exact g3,rfl⟩
      · exact (i6 id blk L q g1 (zba g2) g3).resolve_right (by omega)
    · obtain⟨g1,g2⟩:=k3 ρ' ha
      have hρ':Agree H.length ρ ρ':=k2.trans (ha.le k1.le)
      exact⟨zje (i5 ρ' hρ').1 g1 o.dst,g2⟩
    · rcases Nat.lt_or_ge id H.length with q|q
      · have hlt:id<H.length:=q
        obtain⟨_,f2⟩:=k1.fl id _ blk (List.getElem?_eq_getElem hlt) hb
        exact i6 id _ L hid (List.getElem?_eq_getElem hlt) (f2 hl) (by rw[← k2 id hlt];exact hL)
      · rcases k5 id blk L q hb hl hL with ⟨id2,blk2,L2,g1,g2,g3,g4⟩|g
        · rw[← g4]
          rcases Nat.lt_or_ge id2 B.H.length with q2|q2
          · obtain⟨f1,_⟩:=i3.fl id2 _ blk2 (List.getElem?_eq_getElem q2) g1
            exact .inl ⟨id2,_,L2,List.getElem?_eq_getElem q2,f1 g2,by rw[← i4 id2 q2];exact g3,rfl⟩
          · exact i6 id2 blk2 L2 q2 g1 (zba g2) g3
        · exact .inr (Nat.le_trans i2.size g)
   exact Goes.wp hgo (fun y w' he=>hnext hr (hinv y w' he))
  have pan:∀(k:Nat)(r:Option Prop × Av × Heap),zvr P (ΓP D k) o sl H=some r→Hold r.1→ygf K sl r.2.2 r.2.1→o.wp P a w (wpOps P A Q (List.range' (i+1) ops.length)) Q:=by
   intro k r hs hp hr
   unfold zvr at hs
   split at hs
   case h_2=>cases hs
   rename_i c hop
   obtain⟨g,vs,h1,h2⟩:=zyx (E:=panics) (sumsP hD k) hop (p:=r.1) (av:=r.2.1) (H':=r.2.2) hs hp i5
   unfold Oper.wp
   rw[h1]
   simp only[Oper.upon]
   refine h2.mono ?_
   rintro e w' ⟨y,rfl,he⟩
   have hinv:Inv B sl r.2.2 a w'∧∃ρ',Rv ρ' r.2.1 y:=by
    obtain⟨k1,ρ1,k2,k3,k4,k5⟩:=he
    refine⟨⟨i1,i2.trans k4 (fun b hb hC => ?_),i3.trans k1,ρ1,i4.trans (k2.le i3.le),fun ρ' ha => ?_,fun id blk L hid hb hl hL => ?_⟩,ρ1,(k3 ρ1 (Agree.refl _ _)).1⟩
    · obtain⟨id,blk,L,g1,g2,g3,rfl⟩:=hC
      rcases Nat.lt_or_ge id B.H.length with q|q
      · obtain⟨f1,_⟩:=i3.fl id _ blk (List.getElem?_eq_getElem q) g1
        exact⟨id,_,L,List.getElem?_eq_getElem q,f1 g2,by rw[← i4 id q];exact g3,rfl⟩
      · exact (i6 id blk L q g1 (zba g2) g3).resolve_right (by omega)
    · obtain⟨g1,g2⟩:=k3 ρ' ha
      have hρ':Agree H.length ρ ρ':=k2.trans (ha.le k1.le)
      exact⟨(i5 ρ' hρ').1,g2⟩
    · rcases Nat.lt_or_ge id H.length with q|q
      · obtain⟨_,f2⟩:=k1.fl id _ blk (List.getElem?_eq_getElem q) hb
        exact i6 id _ L hid (List.getElem?_eq_getElem q) (f2 hl) (by rw[← k2 id q];exact hL)
      · rcases k5 id blk L q hb hl hL with ⟨id2,blk2,L2,g1,g2,g3,g4⟩|g
        · rw[← g4]
          rcases Nat.lt_or_ge id2 B.H.length with q2|q2
          · obtain⟨f1,_⟩:=i3.fl id2 _ blk2 (List.getElem?_eq_getElem q2) g1
            exact .inl ⟨id2,_,L2,List.getElem?_eq_getElem q2,f1 g2,by rw[← i4 id2 q2];exact g3,rfl⟩
          · exact i6 id2 blk2 L2 q2 g1 (zba g2) g3
        · exact .inr (Nat.le_trans i2.size g)
   obtain⟨hi2,ρ',hv⟩:=hinv
   exact hQ _ _ _ ⟨.pan y,sl,r.2.2,rfl,hi2,zzc hr hv⟩
  simp only[ylx] at h
  split at h
  · rename_i x hop
    have hx:=zco (i5 ρ (Agree.refl _ _)).1 x
    split at h
    · rename_i t b e
      rw[e] at hx
      have hk:=zzc h hx
      have hx2:=hx
      simp only[Rv] at hx2
      obtain⟨u,hu,_⟩:=hx2
      unfold Oper.wp
      have hrun:(execOp a.eval o).run P w = .halt (.panic (a.eval x)) w:=by
       simp[execOp,hop,hu,Instr.panic,goPanic]
      rw[hrun]
      exact hQ _ _ _ ⟨.pan (a.eval x),sl,H,rfl,hi,hk⟩
    · exact h.elim
  · split at h
    · split at h
      · rename_i p av H' hs
        obtain⟨hp,hr⟩:=zld h
        exact one 0 (p,av,H') hs hp hr
      · exact h.elim
    · rename_i n m hw
      split at h
      · rename_i rs qs hrs hqs
        obtain⟨h1,h2⟩:=h
        obtain⟨p,hp1,hp2⟩:=zmk h1
        rw[zbp] at h2
        rcases List.mem_append.1 hp1 with hp1|hp1
        · obtain⟨r,hr,rfl⟩:=List.mem_map.1 hp1
          obtain⟨k,hk⟩:=zl9 hrs r hr
          exact one k r hk hp2 (zv3 (h2 _ (List.mem_append_left _ (List.mem_map.2 ⟨r,hr,rfl⟩))) hp2)
        · obtain⟨r,hr,rfl⟩:=List.mem_map.1 hp1
          obtain⟨k,hk⟩:=zl9 hqs r hr
          exact pan k r hk hp2 (zv3 (h2 _ (List.mem_append_right _ (List.mem_map.2 ⟨r,hr,rfl⟩))) hp2)
      · exact h.elim
def yld(c:Bool):List Av→List Av→List Av
 | a::as,b::bs=>mrg c a b::yld c as bs
 | _,_=>[]
def ytm(c:Bool):Blk→Blk→Blk
 | .fix cs o ty,.fix ds o' ty'=>if cs.length=ds.length∧ty=ty' then .fix (yld c cs ds) (o&&o') ty else .dead
 | .arr sh xs o,.arr sh' ys o'=>if h:sh'=sh then .arr sh (cond c xs (h ▸ ys)) (o&&o') else .dead
 | _,_ => .dead
def yax(c:Bool):Heap→Heap→Heap
 | a::as,b::bs=>ytm c a b::yax c as bs
 | [],bs=>bs.map fun _ => .dead
 | as,[]=>as.map fun _ => .dead
theorem zmf{ρ:Env}:∀{as bs:List Av}{vs:List Value},as.length=bs.length→RvL ρ as vs→RvL ρ (yld true as bs) vs
 | [],[],_,_,h=>h
 | [],_::_,_,hl,_=>by simp at hl
 | _::_,[],_,hl,_=>by simp at hl
 | a::as,b::bs,[],_,h=>by simp[RvL] at h
 | a::as,b::bs,v::vs,hl,h=>⟨mrg_true h.1,zmf (by simpa using hl) h.2⟩
theorem zjs{ρ:Env}:∀{as bs:List Av}{vs:List Value},as.length=bs.length→RvL ρ bs vs→RvL ρ (yld false as bs) vs
 | [],[],_,_,h=>h
 | [],_::_,_,hl,_=>by simp at hl
 | _::_,[],_,hl,_=>by simp at hl
 | a::as,b::bs,[],_,h=>by simp[RvL] at h
 | a::as,b::bs,v::vs,hl,h=>⟨mrg_false h.1,zjs (by simpa using hl) h.2⟩
theorem ze2(c:Bool):∀{as bs:List Av},as.length=bs.length→(yld c as bs).length=as.length
 | [],[],_=>rfl
 | [],_::_,hl=>by simp at hl
 | _::_,[],hl=>by simp at hl
 | a::as,b::bs,hl=>by simp only[yld,List.length_cons];rw[ze2 c (by simpa using hl)]
theorem zh4(c:Bool):∀(as bs:Heap),(yax c as bs).length=max as.length bs.length
 | [],bs=>by simp[yax]
 | a::as,[]=>by simp[yax]
 | a::as,b::bs=>by simp only[yax,List.length_cons];rw[zh4 c as bs];omega
theorem zpr(c:Bool):∀{as bs:Heap}{i:Nat}{b:Blk},(yax c as bs)[i]? = some b→b.live=true→∃x y,as[i]? = some x∧bs[i]? = some y∧b=ytm c x y
 | [],bs,i,b,h,hl=>by
  simp only[yax,List.getElem?_map] at h
  cases hb:bs[i]? with
  | none=>rw[hb] at h;cases h
  | some y=>rw[hb] at h;simp only[Option.map_some,Option.some.injEq] at h;rw[← h] at hl;cases hl
 | a::as,[],i,b,h,hl=>by
  simp only[yax,List.getElem?_map] at h
  cases hb:(a::as)[i]? with
  | none=>rw[hb] at h;cases h
  | some y=>rw[hb] at h;simp only[Option.map_some,Option.some.injEq] at h;rw[← h] at hl;cases hl
 | a::as,d::bs,0,b,h,_=>by simp[yax] at h;exact⟨a,d,rfl,rfl,h.symm⟩
 | a::as,d::bs,i+1,b,h,hl=>by
  simp only[yax,List.getElem?_cons_succ] at h
  exact zpr c (as:=as) (bs:=bs) (i:=i) h hl
theorem yf5{ρ:Env}{w:World}{id:Nat}{c:Bool}{x y:Blk}(hl:(ytm c x y).live=true)(h:Rb ρ w id (cond c x y)):Rb ρ w id (ytm c x y)∧((ytm c x y).own=true→(cond c x y).own=true)∧(cond c x y).live=true:=by
 unfold ytm at hl ⊢
 split at hl
 · rename_i cs o ty ds o' ty'
   split at hl
   · rename_i hc
     obtain⟨hlen,rfl⟩:=hc
     rw[if_pos ⟨hlen,rfl⟩]
     cases c with
     | true =>
      obtain⟨L,vs,h1,h2,h3,h4,h5⟩:=h
      refine⟨⟨L,vs,h1,zmf hlen h2,h3,fun ho j hj=>h4 ?_ j ?_,h5.1,by rw[ze2 true hlen];exact h5.2⟩,fun ho => ?_,rfl⟩
      · simp only[Bool.and_eq_true] at ho;exact ho.1
      · rw[ze2 true hlen] at hj;exact hj
      · simp only[Blk.own,Bool.and_eq_true] at ho;exact ho.1
     | false =>
      obtain⟨L,vs,h1,h2,h3,h4,h5⟩:=h
      refine⟨⟨L,vs,h1,zjs hlen h2,h3,fun ho j hj=>h4 ?_ j ?_,h5.1,by rw[ze2 false hlen,hlen];exact h5.2⟩,fun ho => ?_,rfl⟩
      · simp only[Bool.and_eq_true] at ho;exact ho.2
      · rw[ze2 false hlen] at hj;omega
      · simp only[Blk.own,Bool.and_eq_true] at ho;exact ho.2
   · cases hl
 · rename_i sh xs o sh' ys o'
   split at hl
   · rename_i hsh
     subst hsh
     rw[dif_pos rfl]
     cases c with
     | true =>
      refine⟨?_,fun ho => ?_,rfl⟩
      · rcases h with ⟨h1,h2⟩|⟨L,h1,h2,h3,h4⟩
        · exact .inl ⟨h1,h2⟩
        · exact .inr ⟨L,h1,h2,h3,fun ho=>h4 (by simp only[Bool.and_eq_true] at ho;exact ho.1)⟩
      · simp only[Blk.own,Bool.and_eq_true] at ho;exact ho.1
     | false =>
      refine⟨?_,fun ho => ?_,rfl⟩
      · rcases h with ⟨h1,h2⟩|⟨L,h1,h2,h3,h4⟩
        · exact .inl ⟨h1,h2⟩
        · exact .inr ⟨L,h1,h2,h3,fun ho=>h4 (by simp only[Bool.and_eq_true] at ho;exact ho.2)⟩
      · simp only[Blk.own,Bool.and_eq_true] at ho;exact ho.2
   · cases hl
 · cases hl
theorem Inv.less{B:Base}{sl sl2:List Av}{H H2:Heap}{a:Act}{w:World}(h:Inv B sl H a w)(hs:∀ρ,RvL ρ sl a.tmps.toList→RvL ρ sl2 a.tmps.toList)(hlen:H.length≤H2.length)
 (hb:∀(i:Nat)(b:Blk),H2[i]? = some b→b.live=true→∃c:Blk,H[i]? = some c∧c.live=true∧(b.own=true→c.own=true)∧∀ρ,Rb ρ w i c→Rb ρ w i b):Inv B sl2 H2 a w:=by
 obtain⟨h1,h2,h3,ρ,h4,h5,h6⟩:=h
 refine⟨h1,h2,⟨Nat.le_trans h3.le hlen,fun i b c hbb hc => ?_⟩,ρ,h4,fun ρ' ha => ?_,fun id blk L hid hbb hl hL => ?_⟩
 · cases hcl:c.live with
   | false=>cases c<;>simp[Blk.live] at hcl;exact⟨fun h=>(by cases h),fun h=>(by cases h)⟩
   | true =>
    obtain⟨d,g1,g2,g3,_⟩:=hb i c hc hcl
    obtain⟨f1,f2⟩:=h3.fl i b d hbb g1
    exact⟨fun h=>f1 (g3 h),fun _=>f2 g2⟩
 · obtain⟨q1,q2⟩:=h5 ρ' (ha.le hlen)
   refine⟨hs ρ' q1,fun i b hi => ?_,fun i j b c L M hi hj hne hbl hcl hoo hL hM => ?_,fun i b L hi hl hL => ?_⟩
   · cases hl:b.live with
     | false=>cases b<;>simp[Blk.live] at hl;trivial
     | true=>obtain⟨d,g1,_,_,g4⟩:=hb i b hi hl;exact g4 ρ' (q2.blk i d g1)
   · obtain⟨d,g1,g2,g3,_⟩:=hb i b hi hbl
     obtain⟨e,k1,k2,k3,_⟩:=hb j c hj hcl
     exact q2.sep i j d e L M g1 k1 hne g2 k2 (hoo.imp g3 k3) hL hM
   · obtain⟨d,g1,g2,_,_⟩:=hb i b hi hl
     exact q2.inb i d L g1 g2 hL
 · obtain⟨d,g1,g2,_,_⟩:=hb id blk hbb hl
   exact h6 id d L hid g1 g2 hL
theorem Inv.mrg_true{B:Base}{sl1 sl2:List Av}{H1 H2:Heap}{a:Act}{w:World}(h:Inv B sl1 H1 a w)(hl:sl1.length=sl2.length):Inv B (yld true sl1 sl2) (yax true H1 H2) a w:=by
 refine h.less (fun ρ hs=>zmf hl hs) (by rw[zh4];omega) (fun i b hi hbl => ?_)
 obtain⟨x,y,h1,h2,rfl⟩:=zpr true hi hbl
 have hsrc:∀ρ,Rb ρ w i x→_:=fun ρ hx=>yf5 (c:=true) (x:=x) (y:=y) (ρ:=ρ) (w:=w) (id:=i) hbl hx
 refine⟨x,h1, ?_,fun ho => ?_,fun ρ hx=>(hsrc ρ hx).1⟩
 · obtain⟨_,_,_,ρ,_,h5,_⟩:=h
   exact (hsrc ρ ((h5 ρ (Agree.refl _ _)).2.blk i x h1)).2.2
 · obtain⟨_,_,_,ρ,_,h5,_⟩:=h
   exact (hsrc ρ ((h5 ρ (Agree.refl _ _)).2.blk i x h1)).2.1 ho
theorem Inv.mrg_false{B:Base}{sl1 sl2:List Av}{H1 H2:Heap}{a:Act}{w:World}(h:Inv B sl2 H2 a w)(hl:sl1.length=sl2.length):Inv B (yld false sl1 sl2) (yax false H1 H2) a w:=by
 refine h.less (fun ρ hs=>zjs hl hs) (by rw[zh4];omega) (fun i b hi hbl => ?_)
 obtain⟨x,y,h1,h2,rfl⟩:=zpr false hi hbl
 have hsrc:∀ρ,Rb ρ w i y→_:=fun ρ hx=>yf5 (c:=false) (x:=x) (y:=y) (ρ:=ρ) (w:=w) (id:=i) hbl hx
 refine⟨y,h2, ?_,fun ho => ?_,fun ρ hx=>(hsrc ρ hx).1⟩
 · obtain⟨_,_,_,ρ,_,h5,_⟩:=h
   exact (hsrc ρ ((h5 ρ (Agree.refl _ _)).2.blk i y h2)).2.2
 · obtain⟨_,_,_,ρ,_,h5,_⟩:=h
   exact (hsrc ρ ((h5 ρ (Agree.refl _ _)).2.blk i y h2)).2.1 ho
def and2:Option Prop→Option Prop→Option Prop
 | none,q=>q
 | some p,none=>some p
 | some p,some q=>some (p∧q)
theorem ydp{p q:Option Prop}(h:Hold (and2 p q)):Hold p∧Hold q:=by
 cases p<;>cases q<;>simp only[and2] at h<;>first|exact⟨trivial,h⟩|exact⟨h,trivial⟩|exact h
def if2(x:Bool):Option Prop→Option Prop→Option Prop
 | none,none=>none
 | some p,none=>some (x=true→p)
 | none,some q=>some (x=false→q)
 | some p,some q=>some ((x=true→p)∧(x=false→q))
theorem yvb{x:Bool}{p q:Option Prop}(h:Hold (if2 x p q)):(x=true→Hold p)∧(x=false→Hold q):=by
 cases p<;>cases q<;>simp only[if2] at h
 · exact⟨fun _=>trivial,fun _=>trivial⟩
 · exact⟨fun _=>trivial,h⟩
 · exact⟨h,fun _=>trivial⟩
 · exact h
def yvv(P:Program)(D:Dict):List Oper→List Av→Heap→Option (Option Prop × List Av × Heap)
 | [],sl,H=>some (none,sl,H)
 | o::ops,sl,H =>
  match o.op with
  | .panic _=>none
  | _=>match ypm P D o sl with
   | none=>match estep P (ΓK D 0) o sl H with
    | some (p,av,H')=>match yvv P D ops (znc sl o.dst av) H' with
     | some (q,sl2,H2)=>some (and2 p q,sl2,H2)
     | none=>none
    | none=>none
   | some _=>none
theorem zy7{P:Program}{D:Dict}{K:Post}:∀{ops:List Oper}{sl:List Av}{H:Heap}{p:Option Prop}{sl2:List Av}{H2:Heap},yvv P D ops sl H=some (p,sl2,H2)→Hold p→K .nrm sl2 H2→ylx P D ops K sl H
 | [],sl,H,p,sl2,H2,h,_,hk=>by
  simp only[yvv,Option.some.injEq,Prod.mk.injEq] at h
  obtain⟨_,rfl,rfl⟩:=h
  exact hk
 | o::ops,sl,H,p,sl2,H2,h,hp,hk=>by
  simp only[yvv] at h
  split at h
  · cases h
  · rename_i hne
    split at h
    · rename_i hw
      split at h
      · rename_i q av H' hs
        split at h
        · rename_i q2 s2 h2 hl
          simp only[Option.some.injEq,Prod.mk.injEq] at h
          obtain⟨rfl,rfl,rfl⟩:=h
          obtain⟨h1,h2'⟩:=ydp hp
          have ih:=zy7 (K:=K) hl h2' hk
          unfold ylx
          split
          · rename_i x hx;exact absurd hx (hne x)
          · rw[hw,hs]
            simp only
            cases q with
            | none=>exact ih
            | some q=>exact⟨h1,ih⟩
        · cases h
      · cases h
    · cases h
def lin(P:Program)(D:Dict):Code→List Av→Heap→Option (Option Prop × List Av × Heap)
 | .skip,sl,H=>some (none,sl,H)
 | .label _,sl,H=>some (none,sl,H)
 | .region _ ops draw,sl,H =>
  match !draw&&ops.toList.all (fun o=>o.guard.isNone) with
  | true=>yvv P D ops.toList sl H
  | false=>zp2 P (fun _=>ΓK D 0) ops.toList draw sl H
 | .seq a b,sl,H=>match lin P D a sl H with
  | some (p,s1,h1)=>match lin P D b s1 h1 with
   | some (q,s2,h2)=>some (and2 p q,s2,h2)
   | none=>none
  | none=>none
 | .cond c a b,sl,H =>
  match evS sl c with
  | .tt=>lin P D a sl H
  | .ff=>lin P D b sl H
  | .v (.bool x)=>match lin P D a sl H,lin P D b sl H with
   | some (p,s1,h1),some (q,s2,h2)=>if s1.length=s2.length then some (if2 x p q,yld x s1 s2,yax x h1 h2) else none
   | _,_=>none
  | _=>none
 | _,_,_=>none
theorem zl8{P:Program}(hm:P.follows .mixedOrders=true){D:Dict}(hD:DictOk P D){B:Base}:∀{c:Code}{sl:List Av}{H:Heap}{p:Option Prop}{sl2:List Av}{H2:Heap},lin P D c sl H=some (p,sl2,H2)→Hold p→∀{a:Act}{w:World},Inv B sl H a w →
 c.wp P (fun e a' w'=>e = .normal∧Inv B sl2 H2 a' w') a w
 | .skip,sl,H,p,sl2,H2,h,_,a,w,hi=>by
  simp only[lin,Option.some.injEq,Prod.mk.injEq] at h
  obtain⟨_,rfl,rfl⟩:=h
  exact wp_skip ⟨rfl,hi⟩
 | .label _,sl,H,p,sl2,H2,h,_,a,w,hi=>by
  simp only[lin,Option.some.injEq,Prod.mk.injEq] at h
  obtain⟨_,rfl,rfl⟩:=h
  exact wp_label ⟨rfl,hi⟩
 | .region id ops draw,sl,H,p,sl2,H2,h,hp,a,w,hi=>by
  simp only[lin] at h
  split at h
  · rename_i hc
    simp only[Bool.and_eq_true,Bool.not_eq_true'] at hc
    obtain⟨hd,hg⟩:=hc
    subst hd
    refine wp_region ?_
    have hr:=zy7 (K:=fun ex s h=>ex = .nrm∧s=sl2∧h=H2) h hp ⟨rfl,rfl,rfl⟩
    have:=zws hD (A:=ops) (Q:=fun e a' w'=>e = .normal∧Inv B sl2 H2 a' w') (by
     rintro e a' w' ⟨ex,s,h,rfl,hi',rfl,rfl,rfl⟩
     exact⟨rfl,hi'⟩) (i:=0) (fun j=>by simp) hg hr hi
    rw[List.range_eq_range',show ops.size=ops.toList.length by simp]
    exact this
  · have:=zs0 hm (Γ:=fun _=>ΓK D 0) (fun _=>yme hD 0) h hp (B:=B) hi.2.2.1.le (Q:=fun e a' w'=>e = .normal∧Inv B sl2 H2 a' w') (fun a w hi'=>⟨rfl,hi'⟩) hi id
    rwa [Array.toArray_toList] at this
 | .seq x y,sl,H,p,sl2,H2,h,hp,a,w,hi=>by
  simp only[lin] at h
  split at h
  case h_2=>cases h
  rename_i p1 s1 h1 hx
  split at h
  case h_2=>cases h
  rename_i q s2 h2 hy
  simp only[Option.some.injEq,Prod.mk.injEq] at h
  obtain⟨rfl,rfl,rfl⟩:=h
  obtain⟨g1,g2⟩:=ydp hp
  refine wp_seq (wp_mono (zl8 hm hD (c:=x) hx g1 hi) ?_)
  rintro e a' w' ⟨rfl,hi'⟩
  exact zl8 hm hD (c:=y) hy g2 hi'
 | .cond c x y,sl,H,p,sl2,H2,h,hp,a,w,hi=>by
  obtain⟨_,_,_,ρ,_,hs,_⟩:=id hi
  have hev:=zco (hs ρ (Agree.refl _ _)).1 c
  simp only[lin] at h
  split at h
  · rename_i e;rw[e] at hev
    exact wp_cond_true hev (zl8 hm hD (c:=x) h hp hi)
  · rename_i e;rw[e] at hev
    exact wp_cond_false hev (zl8 hm hD (c:=y) h hp hi)
  · rename_i t e;rw[e] at hev
    split at h
    case h_2=>cases h
    rename_i p1 s1 h1 q s2 h2 hx hy
    split at h
    case isFalse=>cases h
    rename_i hl
    simp only[Option.some.injEq,Prod.mk.injEq] at h
    obtain⟨rfl,rfl,rfl⟩:=h
    obtain⟨g1,g2⟩:=yvb hp
    refine wp_cond_split hev (fun ht => ?_) (fun ht => ?_)
    · subst ht
      refine wp_mono (zl8 hm hD (c:=x) hx (g1 rfl) hi) ?_
      rintro e a' w' ⟨rfl,hi'⟩
      exact⟨rfl,hi'.mrg_true hl⟩
    · subst ht
      refine wp_mono (zl8 hm hD (c:=y) hy (g2 rfl) hi) ?_
      rintro e a' w' ⟨rfl,hi'⟩
      exact⟨rfl,hi'.mrg_false hl⟩
  · cases h
 | .exit _,_,_,_,_,_,h,_,_,_,_=>by simp[lin] at h
 | .ret,_,_,_,_,_,h,_,_,_,_=>by simp[lin] at h
 | .block _ _,_,_,_,_,_,h,_,_,_,_=>by simp[lin] at h
 | .loop _,_,_,_,_,_,h,_,_,_,_=>by simp[lin] at h
 | .goto _,_,_,_,_,_,h,_,_,_,_=>by simp[lin] at h
 | .rangeFunc ..,_,_,_,_,_,h,_,_,_,_=>by simp[lin] at h
 | .scope _,_,_,_,_,_,h,_,_,_,_=>by simp[lin] at h
 | .refuse _,_,_,_,_,_,h,_,_,_,_=>by simp[lin] at h
def zsr:Nat→Av→Av→List (Nat × Option Nat)
 | 0,_,_=>[]
 | _+1,.ptr i _,.ptr j _=>[(i,some j)]
 | _+1,.eptr i _ _ _,.eptr j _ _ _=>[(i,some j)]
 | _+1,.sl i _ _ _,.sl j _ _ _=>[(i,some j)]
 | _+1,.sl i _ _ _,.v (.slice _ 0 0)=>[(i,none)]
 | n+1,.agg cs,.agg ds=>(cs.zip ds).flatMap fun p=>zsr n p.1 p.2
 | n+1,.tup cs,.tup ds=>(cs.zip ds).flatMap fun p=>zsr n p.1 p.2
 | n+1,.fn _ cs,.fn _ ds=>(cs.zip ds).flatMap fun p=>zsr n p.1 p.2
 | n+1,.ifc _ x,.ifc _ y=>zsr n x y
 | _,_,_=>[]
def yoz(cs ds:List Av):List (Nat × Option Nat):=(cs.zip ds).flatMap fun p=>zsr 8 p.1 p.2
def yv3:Blk→Blk→List (Nat × Option Nat)
 | .fix cs _ _,.fix ds _ _=>yoz cs ds
 | _,_=>[]
def phi:Nat→Nat→Heap→Heap→List Nat→Ren→List (Nat × Option Nat)→Ren
 | 0,_,_,_,_,φ,_=>φ
 | _+1,_,_,_,_,φ,[]=>φ
 | n+1,n0,H2,H1,seen,φ,(i,o)::todo =>
  match seen.contains i with
  | true=>phi n n0 H2 H1 seen φ todo
  | false =>
   let more:=match o with|some j=>yv3 (H2.getD i .dead) (H1.getD j .dead)|none=>[]
   phi n n0 H2 H1 (i::seen) (if i<n0 then φ else (i,o)::φ) (more++todo)
def yv4(n0:Nat)(sl2:List Av)(H2:Heap)(sl1:List Av)(H1:Heap):Ren:=phi 300 n0 H2 H1 [] [] ((List.range n0).map (fun i=>(i,some i))++yoz sl2 sl1)
def zgs(n0:Nat)(sl2:List Av)(H2:Heap)(sl1:List Av)(H1:Heap):Prop:=match yum n0 (yv4 n0 sl2 H2 sl1 H1) sl2 H2 sl1 H1 with|some ps=>zkq ps|none=>False
theorem zgs.inv{B:Base}{sl1 sl2:List Av}{H1 H2:Heap}{a:Act}{w:World}(hf:zgs B.H.length sl2 H2 sl1 H1)(h:Inv B sl1 H1 a w):Inv B sl2 H2 a w:=by
 unfold zgs at hf
 split at hf
 · rename_i ps hp;exact h.recast ⟨ps,hp,hf⟩
 · exact hf.elim
structure Fam (α:Type) where
 β:Type
 out:α→β→Prop
 ex:Ex
 pv:β→Value:=fun _=>undef
 sl:β→List Av
 H:β→Heap
def Fam.exAt{α:Type}(f:Fam α)(z:f.β):Ex:=match f.ex with | .pan _ => .pan (f.pv z)|e=>e
structure LoopS where
 α:Type
 I:α→Prop
 sl:α→List Av
 H:α→Heap
 fams:List (Fam α)
structure CutS where
 β:Type
 sl:β→List Av
 H:β→Heap
structure Specs where
 loop:Nat→Option LoopS
 cond:Nat→Option CutS
 blk:Nat→Option CutS
 join:Nat→Bool
 cut:Nat→Option CutS
 pick:Nat→Option Bool:=fun _ => .none
def Specs.none:Specs:=⟨fun _ => .none,fun _ => .none,fun _ => .none,fun _=>false,fun _ => .none,fun _ => .none⟩
def Specs.joins:Specs:=⟨fun _ => .none,fun _ => .none,fun _ => .none,fun _=>true,fun _ => .none,fun _ => .none⟩
def zbh:Code→Option Nat
 | .region id _ _=>some id
 | .seq a b=>match zbh a with|some k=>some k|none=>zbh b
 | .cond _ a b=>match zbh a with|some k=>some k|none=>zbh b
 | .block _ c=>zbh c
 | .loop c=>zbh c
 | _=>none
def zak:Code→List Code
 | .seq a b=>zak a++zak b
 | .cond _ a b=>zak a++zak b
 | .block _ c=>zak c
 | .loop c=>c::zak c
 | _=>[]
def thenK(K1:List Av→Heap→Prop)(K:Post):Post
 | .nrm,sl,H=>K1 sl H
 | e,sl,H=>K e sl H
def yn4(id:Nat)(K:Post):Post
 | .ext j,sl,H=>match j==id with|true=>K .nrm sl H|false=>K (.ext j) sl H
 | e,sl,H=>K e sl H
def cutK(n0:Nat)(C:CutS)(J:C.β→Prop)(K:Post):Post
 | .nrm,sl,H=>∃z,zgs n0 (C.sl z) (C.H z) sl H∧J z
 | e,sl,H=>K e sl H
def famsP{α:Type}(fs:List (Fam α))(x:α)(K:Post):Prop:=zkq (fs.map fun f=>∀z,f.out x z→K (f.exAt z) (f.sl z) (f.H z))
def meet(n0:Nat)(C:Option CutS)(K:Post)(body:Post→Prop):Prop :=
 match C with
 | none=>body K
 | some C=>∃J:C.β→Prop,body (cutK n0 C J K)∧∀z,J z→K .nrm (C.sl z) (C.H z)
def ywe(P:Program)(D:Dict)(ops:Array Oper)(draw:Bool)(K:Post)(sl:List Av)(H:Heap):Prop:=match !draw&&ops.toList.all (fun o=>o.guard.isNone) with
 | true=>ylx P D ops.toList K sl H
 | false=>ygr P D ops.toList draw sl H (K .nrm)
def vcC(P:Program)(D:Dict)(Ξ:Specs)(n0:Nat):Code→Post→List Av→Heap→Prop
 | .skip,K,sl,H=>K .nrm sl H
 | .label _,K,sl,H=>K .nrm sl H
 | .exit id,K,sl,H=>K (.ext id) sl H
 | .ret,K,sl,H=>K .ret sl H
 | .region id ops draw,K,sl,H=>match Ξ.cut id with
  | none=>ywe P D ops draw K sl H
  | some C=>∃z,zgs n0 (C.sl z) (C.H z) sl H∧ywe P D ops draw K (C.sl z) (C.H z)
 | .seq a b,K,sl,H=>vcC P D Ξ n0 a (thenK (fun sl H=>vcC P D Ξ n0 b K sl H) K) sl H
 | .cond c a b,K,sl,H =>
  match (match (match zbh a with|some k=>Ξ.join k|none=>match zbh b with|some k=>Ξ.join k|none=>false) with
   | true=>lin P D (.cond c a b) sl H
   | false=>none) with
  | some (p,s2,H2)=>ytl p (K .nrm s2 H2)
  | none =>
   match evS sl c with
   | .tt=>vcC P D Ξ n0 a K sl H
   | .ff=>vcC P D Ξ n0 b K sl H
   | .v (.bool x) =>
    match (match zbh a with|some k=>Ξ.pick k|none=>match zbh b with|some k=>Ξ.pick k|none=>none) with
    | some true=>x=true∧vcC P D Ξ n0 a K sl H
    | some false=>x=false∧vcC P D Ξ n0 b K sl H
    | none=>meet n0 (match zbh a with|some k=>Ξ.cond k|none=>match zbh b with|some k=>Ξ.cond k|none=>none) K fun K'=>(x=true→vcC P D Ξ n0 a K' sl H)∧(x=false→vcC P D Ξ n0 b K' sl H)
   | .q p=>(p→vcC P D Ξ n0 a K sl H)∧vcC P D Ξ n0 b K sl H
   | _=>False
 | .block id c,K,sl,H=>meet n0 (Ξ.blk id) K fun K'=>vcC P D Ξ n0 c (yn4 id K') sl H
 | .loop body,K,sl,H =>
  match zbh body with
  | some k=>match Ξ.loop k with
   | some L=>∃x:L.α,zgs n0 (L.sl x) (L.H x) sl H∧L.I x∧famsP L.fams x K
   | none=>False
  | none=>False
 | _,_,_,_=>False
def zpg{α:Type}(fs:List (Fam α))(x:α)(ex:Ex)(sl:List Av)(H:Heap):Prop:=∃f ∈ fs,∃z,f.out x z∧f.exAt z=ex∧f.sl z=sl∧f.H z=H
def zch(P:Program)(n0:Nat)(body:Code)(L:LoopS):Prop :=
 ∀(B:Base),B.H.length=n0→∀x,L.I x→∀a w,Inv B (L.sl x) (L.H x) a w→(Code.loop body).wp P (QK B (zpg L.fams x)) a w
theorem yf2{P:Program}{n0:Nat}{C:Option CutS}{K:Post}{body:Post→Prop}(h:meet n0 C K body){B:Base}(hB:B.H.length=n0){c:Code}{a:Act}{w:World}(hb:∀K',body K'→c.wp P (QK B K') a w):c.wp P (QK B K) a w:=by
 unfold meet at h
 split at h
 · exact hb K h
 · rename_i C
   obtain⟨J,h1,h2⟩:=h
   refine wp_mono (hb _ h1) ?_
   rintro e a' w' ⟨ex,sl,H,rfl,hi,hk⟩
   cases ex with
   | nrm =>
    obtain⟨z,hf,hJ⟩:=hk
    exact⟨.nrm,_,_,rfl,zgs.inv (hB ▸ hf) hi,h2 z hJ⟩
   | ext id=>exact⟨.ext id,sl,H,rfl,hi,hk⟩
   | ret=>exact⟨.ret,sl,H,rfl,hi,hk⟩
   | pan v=>exact⟨.pan v,sl,H,rfl,hi,hk⟩
theorem zwo{P:Program}(hm:P.follows .mixedOrders=true){D:Dict}(hD:DictOk P D){B:Base}{ops:Array Oper}{draw:Bool}{K:Post}{sl:List Av}{H:Heap}(h:ywe P D ops draw K sl H){a:Act}{w:World}(hi:Inv B sl H a w)(id:Nat):(Code.region id ops draw).wp P (QK B K) a w:=by
 unfold ywe at h
 split at h
 · rename_i hc
   simp only[Bool.and_eq_true,Bool.not_eq_true'] at hc
   obtain⟨hd,hg⟩:=hc
   subst hd
   refine wp_region ?_
   have:=zws hD (A:=ops) (Q:=QK B K) (fun _ _ _ h=>h) (i:=0) (fun j=>by simp) hg h hi
   rw[List.range_eq_range',show ops.size=ops.toList.length by simp]
   exact this
 have:=ya6 hm hD h (B:=B) hi.2.2.1.le (Q:=QK B K) (fun sl' H' hk a w hi'=>⟨.nrm,sl',H',rfl,hi',hk⟩) hi id
 rwa [Array.toArray_toList] at this
theorem zj3{P:Program}(hm:P.follows .mixedOrders=true){D:Dict}(hD:DictOk P D){Ξ:Specs}{n0:Nat}{B:Base}(hB:B.H.length=n0):∀{c:Code}{K:Post}{sl:List Av}{H:Heap},(∀b ∈ zak c,∀k L,zbh b=some k→Ξ.loop k=some L→zch P n0 b L) →
    vcC P D Ξ n0 c K sl H→∀{a:Act}{w:World},Inv B sl H a w→c.wp P (QK B K) a w
  | .skip,K,sl,H,_,h,a,w,hi=>wp_skip ⟨.nrm,sl,H,rfl,hi,h⟩
  | .label _,K,sl,H,_,h,a,w,hi=>wp_label ⟨.nrm,sl,H,rfl,hi,h⟩
  | .exit id,K,sl,H,_,h,a,w,hi=>wp_exit ⟨.ext id,sl,H,rfl,hi,h⟩
  | .ret,K,sl,H,_,h,a,w,hi=>wp_ret ⟨.ret,sl,H,rfl,hi,h⟩
  | .region id ops draw,K,sl,H,_,h,a,w,hi=>by
    simp only[vcC] at h
    split at h
    · exact zwo hm hD h hi id
    · obtain⟨z,hf,h⟩:=h
      exact zwo hm hD h (zgs.inv (hB ▸ hf) hi) id
  | .seq x y,K,sl,H,hl,h,a,w,hi=>by
    refine wp_seq (wp_mono (zj3 hm hD hB (c:=x) (fun b hb=>hl b (by simp[zak,hb])) h hi) ?_)
    rintro e a' w' ⟨ex,sl',H',rfl,hi',hk⟩
    cases ex with
    | nrm=>exact zj3 hm hD hB (c:=y) (fun b hb=>hl b (by simp[zak,hb])) hk hi'
    | ext id=>exact⟨.ext id,sl',H',rfl,hi',hk⟩
    | ret=>exact⟨.ret,sl',H',rfl,hi',hk⟩
    | pan v=>exact⟨.pan v,sl',H',rfl,hi',hk⟩
  | .cond c x y,K,sl,H,hl,h,a,w,hi=>by
    have hla:∀b ∈ zak x,∀k L,zbh b=some k→Ξ.loop k=some L→zch P n0 b L:=fun b hb=>hl b (by simp[zak,hb])
    have hlb:∀b ∈ zak y,∀k L,zbh b=some k→Ξ.loop k=some L→zch P n0 b L:=fun b hb=>hl b (by simp[zak,hb])
    obtain⟨_,_,_,ρ,_,hs,_⟩:=id hi
    have hev:=zco (hs ρ (Agree.refl _ _)).1 c
    simp only[vcC] at h
    split at h
    · rename_i p s2 H2 hlin
      split at hlin
      · obtain⟨hp,hk⟩:=zld h
        refine wp_mono (zl8 hm hD hlin hp hi) ?_
        rintro e a' w' ⟨rfl,hi'⟩
        exact⟨.nrm,s2,H2,rfl,hi',hk⟩
      · cases hlin
    split at h
    · rename_i e;rw[e] at hev
      exact wp_cond_true hev (zj3 hm hD hB hla h hi)
    · rename_i e;rw[e] at hev
      exact wp_cond_false hev (zj3 hm hD hB hlb h hi)
    · rename_i t e;rw[e] at hev
      split at h
      · obtain⟨rfl,h⟩:=h
        exact wp_cond_true hev (zj3 hm hD hB hla h hi)
      · obtain⟨rfl,h⟩:=h
        exact wp_cond_false hev (zj3 hm hD hB hlb h hi)
      refine yf2 h hB (fun K' hk => ?_)
      exact wp_cond_split hev (fun ht=>zj3 hm hD hB hla (hk.1 ht) hi) (fun ht=>zj3 hm hD hB hlb (hk.2 ht) hi)
    · rename_i p e;rw[e] at hev
      simp only[Rv] at hev
      obtain⟨b,hb,hbp⟩:=hev
      cases b
      · exact wp_cond_false hb (zj3 hm hD hB hlb h.2 hi)
      · exact wp_cond_true hb (zj3 hm hD hB hla (h.1 (hbp rfl)) hi)
    · exact h.elim
  | .block id c,K,sl,H,hl,h,a,w,hi=>by
    simp only[vcC] at h
    refine yf2 h hB (fun K' hk=>wp_block (wp_mono (zj3 hm hD hB (c:=c) (fun b hb=>hl b (by simpa[zak] using hb)) hk hi) ?_))
    rintro e a' w' ⟨ex,sl',H',rfl,hi',hk'⟩
    cases ex with
    | nrm=>exact⟨.nrm,sl',H',rfl,hi',hk'⟩
    | ret=>exact⟨.ret,sl',H',rfl,hi',hk'⟩
    | pan v=>exact⟨.pan v,sl',H',rfl,hi',hk'⟩
    | ext j =>
      simp only[zil,Exit.inBlock]
      simp only[yn4] at hk'
      split at hk'
      · rename_i e
        have:j=id:=by simpa using e
        rw[if_pos this]
        exact⟨.nrm,sl',H',rfl,hi',hk'⟩
      · rename_i e
        have:¬ j=id:=by simpa using e
        rw[if_neg this]
        exact⟨.ext j,sl',H',rfl,hi',hk'⟩
  | .loop body,K,sl,H,hl,h,a,w,hi=>by
    simp only[vcC] at h
    split at h
    case h_2=>exact h.elim
    rename_i k hk
    split at h
    case h_2=>exact h.elim
    rename_i L hL
    obtain⟨x,h1,h2,h3⟩:=h
    refine wp_mono (hl body (by simp[zak]) k L hk hL B hB x h2 a w (zgs.inv (hB ▸ h1) hi)) ?_
    rintro e a' w' ⟨ex,sl',H',rfl,hi',f,hf,z,g1,rfl,rfl,rfl⟩
    exact⟨_,_,_,rfl,hi',zbp.1 h3 _ (List.mem_map.2 ⟨f,hf,rfl⟩) z g1⟩
  | .goto _,_,_,_,_,h,_,_,_=>h.elim
  | .rangeFunc ..,_,_,_,_,h,_,_,_=>h.elim
  | .scope _,_,_,_,_,h,_,_,_=>h.elim
  | .refuse _,_,_,_,_,h,_,_,_=>h.elim
def ydt:List Prop→Prop
 | []=>False
 | [p]=>p
 | p::q::r=>p∨ydt (q::r)
theorem zhk:∀{ps:List Prop},ydt ps→∃p ∈ ps,p
 | [],h=>h.elim
 | [p],h=>⟨p,List.mem_cons_self,h⟩
 | p::q::r,h=>by
  rcases h with h|h
  · exact⟨p,List.mem_cons_self,h⟩
  · obtain⟨x,h1,h2⟩:=zhk h
    exact⟨x,List.mem_cons_of_mem _ h1,h2⟩
def zzk(n0:Nat)(L:LoopS)(μ:L.α→Nat)(x:L.α):Post
 | .nrm,sl,H=>∃y,zgs n0 (L.sl y) (L.H y) sl H∧L.I y∧μ y<μ x∧zkq (L.fams.map fun f=>∀z,f.out y z→f.out x z)
 | ex,sl,H=>ydt ((L.fams.filter fun f=>f.ex.same ex).map fun f=>∃z,zgs n0 (f.sl z) (f.H z) sl H∧(match ex with | .pan v=>f.pv z=v∧f.out x z|_=>f.out x z))
theorem zq3{P:Program}{c:Code}{α:Type}(I:α→Act→World→Prop)(μ:α→Nat)(Q:α→Exit→Act→World→Prop)
 (round:∀x a w,I x a w→c.wp P (Exit.then (fun a' w'=>∃y,I y a' w'∧μ y<μ x∧∀e a w,Q y e a w→Q x e a w) (Q x)) a w) {x:α} {a:Act} {w:World} (h:I x a w):(Code.loop c).wp P (Q x) a w:=by
 intro b k cs
 have key:∀n x a w,μ x=n→I x a w→∃e a' w',Q x e a' w'∧Arrives P (lone (b.at a (.code c :: .inLoop c::k)) cs w) b k cs e a' w':=by
  intro n
  induction n using Nat.strongRecOn with
  | _ n ih =>
   intro x a w hn hI
   obtain⟨e,a1,w1,hq,harr⟩:=round x a w hI b (.inLoop c::k) cs
   cases e with
   | normal =>
    obtain⟨y,hy,hlt,himp⟩:=hq
    obtain⟨e2,a2,w2,hq2,harr2⟩:=ih (μ y) (hn ▸ hlt) y a1 w1 rfl hy
    exact⟨e2,a2,w2,himp _ _ _ hq2,.of_steps (Steps.trans harr (.one step_inLoop)) harr2⟩
   | exit id=>exact⟨_,a1,w1,hq,.pass (x := .inLoop c) rfl (fun _ _ => .inl (by simp)) harr⟩
   | goto l=>exact⟨_,a1,w1,hq,.pass (x := .inLoop c) rfl (fun _ _ => .inl (by simp)) harr⟩
   | ret=>exact⟨_,a1,w1,hq,.pass (x := .inLoop c) rfl (fun _ _ => .inl (by simp)) harr⟩
   | panic ch=>exact⟨_,a1,w1,hq,.pass (x := .inLoop c) rfl (fun _ _ => .inl (by simp)) harr⟩
   | outgrown=>exact⟨_,a1,w1,hq,.pass (x := .inLoop c) rfl (fun _ _ => .inl (by simp)) harr⟩
 obtain⟨e,a',w',hq,harr⟩:=key _ x a w rfl h
 exact⟨e,a',w',hq,.of_steps (.one step_loop) harr⟩
theorem zj9{P:Program}(hm:P.follows .mixedOrders=true){D:Dict}(hD:DictOk P D){n0:Nat}{body:Code}{L:LoopS}(μ:L.α→Nat)
 (round:∀x,L.I x→∃Ξ:Specs,(∀b ∈ zak body,∀k L,zbh b=some k→Ξ.loop k=some L→zch P n0 b L)∧vcC P D Ξ n0 body (zzk n0 L μ x) (L.sl x) (L.H x)):zch P n0 body L:=by
 intro B hB x hx a w hi
 refine zq3 (fun x a w=>L.I x∧Inv B (L.sl x) (L.H x) a w) μ (fun x=>QK B (zpg L.fams x)) (fun x a w hx => ?_) ⟨hx,hi⟩
 obtain⟨Ξ,hl,hvc⟩:=round x hx.1
 refine wp_mono (zj3 hm hD hB hl hvc hx.2) ?_
 rintro e a' w' ⟨ex,sl,H,rfl,hi',hk⟩
 have out:∀ex,ex ≠ .nrm→zzk n0 L μ x ex sl H→QK B (zpg L.fams x) (zil ex) a' w':=by
  intro ex hne hk
  have hk':ydt ((L.fams.filter fun f=>f.ex.same ex).map fun f=>∃z,zgs n0 (f.sl z) (f.H z) sl H∧(match ex with | .pan v=>f.pv z=v∧f.out x z|_=>f.out x z)):=by
   cases ex with
   | nrm=>exact absurd rfl hne
   | ext id=>exact hk
   | ret=>exact hk
   | pan v=>exact hk
  obtain⟨p,h1,h2⟩:=zhk hk'
  obtain⟨f,hf,rfl⟩:=List.mem_map.1 h1
  obtain⟨z,hz,ho⟩:=h2
  obtain⟨hf1,hf2⟩:=List.mem_filter.1 hf
  have hat:f.exAt z=ex∧f.out x z:=by
   unfold Fam.exAt
   cases hfe:f.ex<;>rw[hfe] at hf2<;>cases ex<;>simp[Ex.same] at hf2<;>first
    | exact absurd rfl hne
    | (subst hf2;exact⟨rfl,ho⟩)
    | exact⟨rfl,ho⟩
    | exact⟨congrArg Ex.pan ho.1,ho.2⟩
  exact⟨ex,f.sl z,f.H z,rfl,zgs.inv (hB ▸ hz) hi',f,hf1,z,hat.2,hat.1,rfl,rfl⟩
 cases ex with
 | nrm =>
  obtain⟨y,h1,h2,h3,h4⟩:=hk
  refine⟨y,⟨h2,zgs.inv (hB ▸ h1) hi'⟩,h3,fun e a w hq=>QK.mono ?_ hq⟩
  rintro ex sl H ⟨f,hf,z,g1,g2⟩
  exact⟨f,hf,z,zbp.1 h4 _ (List.mem_map.2 ⟨f,hf,rfl⟩) z g1,g2⟩
 | ext id=>exact out _ (by simp) hk
 | ret=>exact out _ (by simp) hk
 | pan v=>exact out _ (by simp) hk
theorem zeq{P:Program}(hm:P.follows .mixedOrders=true){D:Dict}(hD:DictOk P D){Ξ:Specs}{n0:Nat}{body:Code}{L:LoopS}(hl:∀b ∈ zak body,∀k L,zbh b=some k→Ξ.loop k=some L→zch P n0 b L)(μ:L.α→Nat)
 (round:∀x,L.I x→vcC P D Ξ n0 body (zzk n0 L μ x) (L.sl x) (L.H x)):zch P n0 body L:=zj9 hm hD μ (fun x hx=>⟨Ξ,hl,round x hx⟩)
def zo5(P:Program)(sl:List Av)(H:Heap):ResultVar→Option Av
 | .tmp t=>some (sl.getD t .any)
 | .cell x t=>match sl.getD x .any with
  | .ptr id sub=>match zz7 P t H (.ptr id sub) with|some (none,av)=>some av|_=>none
  | _=>none
def zjh(P:Program)(sl:List Av)(H:Heap):List ResultVar→Option (List Av)
 | []=>some []
 | r::rs=>match zo5 P sl H r,zjh P sl H rs with|some a,some as=>some (a::as)|_,_=>none
def yjq(P:Program)(fn:Func)(sl:List Av)(H:Heap):Option Av :=
 match zjh P sl H fn.results.toList with
 | some [a]=>some a
 | some as=>some (.tup as)
 | none=>none
theorem yel{ρ:Env}{sl:List Av}{a:Act}(h:RvL ρ sl a.tmps.toList)(t:Nat):Rv ρ (sl.getD t .any) (a.tmps.getD t undef):=zco h (.tmp t)
theorem zz8{P:Program}{sl:List Av}{H:Heap}{r:ResultVar}{av:Av}(h:zo5 P sl H r=some av){ρ:Env}{a:Act}{w:World}(hs:RvL ρ sl a.tmps.toList)(hr:Rel ρ H w) :
 ∃y,((match r with | .tmp t=>pure (a.tmps.getD t undef) | .cell x t=>do loadVar t (← asAddr (a.tmps.getD x undef)):Sem Value)).run P w = .ok y w∧Rv ρ av y:=by
 cases r with
 | tmp t =>
  simp only[zo5,Option.some.injEq] at h
  subst h
  exact⟨_,rfl,yel hs t⟩
 | cell x t =>
  simp only[zo5] at h
  have hx:=yel hs x
  split at h
  case h_2=>cases h
  rename_i id sub e
  rw[e] at hx
  split at h
  case h_2=>cases h
  rename_i av' hl
  simp only[Option.some.injEq] at h
  subst h
  have hx2:=hx
  obtain⟨L,_,hy⟩:=hx2
  obtain⟨v,h1,h2⟩:=zyk hl trivial hr hx
  refine⟨v, ?_,h2⟩
  simp only[hy] at h1 ⊢
  exact h1
theorem znx{P:Program}{sl:List Av}{H:Heap}{ρ:Env}{a:Act}{w:World}(hs:RvL ρ sl a.tmps.toList)(hr:Rel ρ H w):∀{rs:List ResultVar}{as:List Av},zjh P sl H rs=some as →
 ∃ys:List Value,(rs.mapM (m:=Sem) fun r=>match r with | .tmp t=>pure (a.tmps.getD t undef) | .cell x t=>do loadVar t (← asAddr (a.tmps.getD x undef))).run P w = .ok ys w∧RvL ρ as ys
 | [],as,h=>by
  simp only[zjh,Option.some.injEq] at h
  subst h
  exact⟨[],by simp,trivial⟩
 | r::rs,as,h=>by
  simp only[zjh] at h
  split at h
  case h_2=>cases h
  rename_i b bs h1 h2
  simp only[Option.some.injEq] at h
  subst h
  obtain⟨y,g1,g2⟩:=zz8 h1 hs hr
  obtain⟨ys,g3,g4⟩:=znx hs hr h2
  refine⟨y::ys, ?_,g2,g4⟩
  rw[List.mapM_cons,Sem.run_bind,g1,Result.andThen_ok,Sem.run_bind,g3,Result.andThen_ok]
  rfl
theorem zgx{P:Program}{fn:Func}{sl:List Av}{H:Heap}{av:Av}(h:yjq P fn sl H=some av){ρ:Env}{a:Act}{w:World}(hs:RvL ρ sl a.tmps.toList)(hr:Rel ρ H w):∃y,(results fn a.tmps).run P w = .ok y w∧Rv ρ av y:=by
 unfold yjq at h
 have key:∀as,zjh P sl H fn.results.toList=some as→∃ys:List Value,(results fn a.tmps).run P w = .ok (if h:ys.toArray.size=1 then ys.toArray[0] else .tuple ys.toArray) w∧RvL ρ as ys:=by
  intro as has
  obtain⟨ys,h1,h2⟩:=znx hs hr has
  refine⟨ys, ?_,h2⟩
  unfold results
  rw[Array.mapM_eq_mapM_toList,Sem.run_bind,map_eq_pure_bind,Sem.run_bind]
  erw [h1]
  rfl
 split at h
 · rename_i x has
   simp only[Option.some.injEq] at h
   subst h
   obtain⟨ys,h1,h2⟩:=key _ has
   match ys,h2 with
   | [y],h2=>exact⟨y,by rw[h1];rfl,h2.1⟩
   | [],h2=>simp[RvL] at h2
   | _::_::_,h2=>simp[RvL] at h2
 · rename_i as hne has
   simp only[Option.some.injEq] at h
   subst h
   obtain⟨ys,h1,h2⟩:=key _ has
   refine⟨.tuple ys.toArray, ?_,ys,rfl,h2⟩
   rw[h1]
   have hl:=zbc h2
   have:¬ ys.toArray.size=1:=by
    intro e
    have e1:as.length=1:=by rw[hl];simpa using e
    obtain⟨x,rfl⟩:=List.length_eq_one_iff.1 e1
    exact hne x rfl
   rw[dif_neg this]
 · cases h
def yo3(P:Program)(fn:Func)(n0:Nat)(v:Av)(H':Heap):Post:=fun ex sl H =>
 match ex with
 | .ext _=>False
 | .pan _=>False
 | _=>match yjq P fn sl H with|some av=>zgs n0 [v] H' [av] H|none=>False
def zat(fn:Func):Code:=match fn.body with|some c=>c|none => .skip
def zei(fn:Func)(args:List Av):List Av:=args++List.replicate (fn.ntmps-args.length) .any
theorem zmy{P:Program}(hm:P.follows .mixedOrders=true){f:FuncId}{fn:Func}(hf:P.funcs[f]? = some fn)(hb:fn.body=some (zat fn)){R:Ending→World→Prop}{K:Post}{args:List Av}{H:Heap}{D:Dict}{Ξ:Specs}(hD:DictOk P D)
 (hL:∀b ∈ zak (zat fn),∀k L,zbh b=some k→Ξ.loop k=some L→zch P H.length b L) (hvc:vcC P D Ξ H.length (zat fn) K (zei fn args) H) {ρ:Env} {vs:List Value} {w:World}
 (hw:∀ρ',Agree H.length ρ ρ'→RvL ρ' args vs∧Rel ρ' H w)
 (hK:∀(ex:Ex)(sl:List Av)(H1:Heap)(a:Act)(w':World),K ex sl H1→Inv ⟨ρ,H,w,[]⟩ sl H1 a w'→bodyPost P fn R (zil ex) a w'):Calls P f vs.toArray w R:=by
 let B:Base:=⟨ρ,H,w,[]⟩
 have hlen:args.length=vs.length:=zbc (hw ρ (Agree.refl _ _)).1
 have hrep:∀(ρ':Env)(n:Nat),RvL ρ' (List.replicate n .any) (List.replicate n undef):=by
  intro ρ' n
  induction n with
  | zero=>trivial
  | succ n ih=>exact⟨trivial,ih⟩
 have hi:Inv B (zei fn args) H { tmps:=vs.toArray++Array.replicate (fn.ntmps-vs.toArray.size) undef,defers:=[] } w:=by
  refine⟨rfl,Fr.refl _ _,KeepsP.refl _,ρ,Agree.refl _ _,fun ρ' hag=>⟨?_,(hw ρ' hag).2⟩,fun id blk L hid hb' => ?_⟩
  · have:=zdu (hw ρ' hag).1 (hrep ρ' (fn.ntmps-args.length))
    simp only[zei,Array.toList_append,Array.toList_replicate,List.size_toArray]
    rw[← hlen]
    exact this
  · rw[List.getElem?_eq_none hid] at hb';cases hb'
 have hwp:=zj3 hm hD (B:=B) rfl hL hvc hi
 refine calls_of_wp hf hb (wp_mono hwp ?_)
 rintro e a' w' ⟨ex,sl,H1,rfl,hi',hk⟩
 exact hK ex sl H1 a' w' hk hi'
theorem zlv{B:Base}{sl:List Av}{H1:Heap}{a:Act}{w:World}(hi:Inv B sl H1 a w){v av:Av}{H':Heap}(hfit:zgs B.H.length [v] H' [av] H1){y:Value}(hy:∀ρ,RvL ρ sl a.tmps.toList→Rel ρ H1 w→Rv ρ av y) :
 ∃ρ1,Agree B.H.length B.ρ ρ1∧(∀ρ',Agree H'.length ρ1 ρ'→Rv ρ' v y∧Rel ρ' H' w)∧Fr (owns B.ρ B.H) B.w w∧∀id blk L,B.H.length≤id→H'[id]? = some blk→blk.live=true→ρ1 id=some L→owns B.ρ B.H L.b∨B.w.heap.size≤L.b:=by
 obtain⟨i1,i2,i3,ρ0,i4,i5,i6⟩:=hi
 obtain⟨hs0,hr0⟩:=i5 ρ0 (Agree.refl _ _)
 unfold zgs at hfit
 split at hfit
 case h_2=>exact hfit.elim
 rename_i ps hps
 generalize yv4 B.H.length [v] H' [av] H1=φ at hps
 unfold yum at hps
 split at hps
 case isFalse=>cases hps
 rename_i hk'
 simp only[Bool.and_eq_true,decide_eq_true_eq] at hk'
 obtain⟨p1,p2,h1,h2,rfl⟩:=zgy hps
 rw[zbp] at hfit
 have hpH:∀p ∈ p2,p:=fun p hp=>hfit p (by simp[hp])
 obtain⟨k1,_⟩:=zl6 hk'.2
 refine⟨zs1 ρ0 B.H.length φ,fun i hi => ?_,fun ρ' hag => ?_,i2,fun id blk L hid hb' hl hL' => ?_⟩
 · unfold zs1
   rw[ze0 hi]
   exact i4 i hi
 · obtain⟨hφ,hrel⟩:=zh6 hk'.2 hk'.1 h2 hpH hr0 hag
   have:=zg1 hφ h1 (fun p hp=>hfit p (by simp[hp])) (ys:=[y]) ⟨hy ρ0 hs0 hr0,trivial⟩
   exact⟨this.1,hrel⟩
 · rcases zdj h2 hpH id blk hb' hl with ⟨j,d,qs,g1,g2,g3,g4⟩|⟨g1,_⟩
   · rw[Nat.zero_add] at g1
     unfold zs1 at hL'
     rw[g1] at hL'
     rw[zg6 hid] at g1
     rcases zmg ((k1 id _ g1).2.2 j rfl) with g|⟨_,g⟩
     · exact i6 j d L g g2 ((zbn g3).2 hl) hL'
     · rcases Nat.lt_or_ge j B.H.length with q|q
       · left
         refine⟨j,B.H[j],L,List.getElem?_eq_getElem q,(i3.fl j _ d (List.getElem?_eq_getElem q) g2).1 (g d g2), ?_,rfl⟩
         rw[← i4 j q];exact hL'
       · exact i6 j d L q g2 ((zbn g3).2 hl) hL'
   · rw[Nat.zero_add] at g1
     unfold zs1 at hL'
     rw[g1] at hL'
     cases hL'
theorem zrj{P:Program}(hm:P.follows .mixedOrders=true){f:FuncId}{fn:Func}(hf:P.funcs[f]? = some fn)(hb:fn.body=some (zat fn)){args:List Av}{H:Heap}{v:Av}{H':Heap}{D:Dict}{Ξ:Specs}(hD:DictOk P D)
 (hL:∀b ∈ zak (zat fn),∀k L,zbh b=some k→Ξ.loop k=some L→zch P H.length b L) (hvc:vcC P D Ξ H.length (zat fn) (yo3 P fn H.length v H') (zei fn args) H) {ρ:Env} {vs:List Value} {w:World}
 (hw:∀ρ',Agree H.length ρ ρ'→RvL ρ' args vs∧Rel ρ' H w):Calls P f vs.toArray w (Ends .returned ρ H w v H'):=by
 refine zmy hm hf hb hD hL hvc hw (fun ex sl H1 a w' hk hi => ?_)
 have main:∀av,yjq P fn sl H1=some av→zgs H.length [v] H' [av] H1→a.defers=[]∧∃y,(results fn a.tmps).run P w' = .ok y w'∧Ends .returned ρ H w v H' (.returned y) w':=by
  intro av hav hfit
  obtain⟨i1,i2,i3,ρ0,i4,i5,i6⟩:=id hi
  obtain⟨hs0,hr0⟩:=i5 ρ0 (Agree.refl _ _)
  obtain⟨y,hy1,_⟩:=zgx hav hs0 hr0
  refine⟨i1,y,hy1, ?_⟩
  obtain⟨ρ1,g⟩:=zlv hi hfit (y:=y) (fun ρ hs hr=>by
   obtain⟨y2,hy2,hv⟩:=zgx hav hs hr
   rw[hy1] at hy2
   cases hy2
   exact hv)
  exact⟨y,ρ1,rfl,g⟩
 cases ex with
 | ext id=>exact hk.elim
 | pan v=>exact hk.elim
 | nrm =>
  simp only[yo3] at hk
  split at hk
  · rename_i av hav;exact main av hav hk
  · exact hk.elim
 | ret =>
  simp only[yo3] at hk
  split at hk
  · rename_i av hav;exact main av hav hk
  · exact hk.elim
theorem zp9{P:Program}(hm:P.follows .mixedOrders=true){f:FuncId}{fn:Func}(hf:P.funcs[f]? = some fn)(hb:fn.body=some (zat fn)){S:Sum}
 (h:∀args H p v H',S args H=some (p,v,H')→Hold p→∃(D:Dict)(Ξ:Specs),DictOk P D∧(∀b ∈ zak (zat fn),∀k L,zbh b=some k→Ξ.loop k=some L→zch P H.length b L) ∧
  vcC P D Ξ H.length (zat fn) (yo3 P fn H.length v H') (zei fn args) H):Sound P f S:=by
 intro args H p v H' hs hp ρ vs w hw
 obtain⟨D,Ξ,hD,hL,hvc⟩:=h args H p v H' hs hp
 exact zrj hm hf hb hD hL hvc hw
inductive Cs where
 | i (k:IntKind)
 | b
 | sl (sh:List Ty)
 | sub (sh:List Ty)
@[reducible] def Cs.T:Cs→Type
 | .i _=>Int
 | .b=>Bool
 | .sl sh=>List (El sh)
 | .sub sh=>List (El sh)
@[reducible] def CsT:List Cs→Type
 | []=>Unit
 | [c]=>c.T
 | c::d::cs=>c.T × CsT (d::cs)
inductive Pm where
 | one (c:Cs)
 | st (cs:List Cs)
@[reducible] def Pm.T:Pm→Type
 | .one d=>d.T
 | .st cs=>CsT cs
@[reducible] def PmT:List Pm→Type
 | []=>Unit
 | [p]=>p.T
 | p::q::ps=>p.T × PmT (q::ps)
def zc7(own:Bool):(c:Cs)→c.T→Nat→Av × Heap
 | .i k,x,_=>(.v (.int k x),[])
 | .b,x,_=>(.v (.bool x),[])
 | .sl sh,xs,n=>(.sl n sh.length 0 xs.length,[.arr sh xs own])
 | .sub sh,xs,n=>(.sl n sh.length 0 xs.length,[.arr sh xs own])
def zci(own:Bool):(cs:List Cs)→CsT cs→Nat→List Av × Heap
 | [],_,_=>([],[])
 | [c],x,n=>([(zc7 own c x n).1],(zc7 own c x n).2)
 | c::d::cs,x,n=>((zc7 own c x.1 n).1::(zci own (d::cs) x.2 (n+(zc7 own c x.1 n).2.length)).1,(zc7 own c x.1 n).2++(zci own (d::cs) x.2 (n+(zc7 own c x.1 n).2.length)).2)
def zg2(own:Bool):(p:Pm)→p.T→Nat→Av × Heap
 | .one c,x,n=>zc7 own c x n
 | .st cs,x,n=>(.agg (zci own cs x n).1,(zci own cs x n).2)
def zap(own:Bool):(ps:List Pm)→PmT ps→Nat→List Av × Heap
 | [],_,_=>([],[])
 | [p],x,n=>([(zg2 own p x n).1],(zg2 own p x n).2)
 | p::q::ps,x,n=>((zg2 own p x.1 n).1::(zap own (q::ps) x.2 (n+(zg2 own p x.1 n).2.length)).1,(zg2 own p x.1 n).2++(zap own (q::ps) x.2 (n+(zg2 own p x.1 n).2.length)).2)
def ymh:List Av→Av
 | [a]=>a
 | as => .tup as
def zfb(own:Bool)(ps:List Pm)(x:PmT ps)(n:Nat):Av × Heap:=(ymh (zap own ps x n).1,(zap own ps x n).2)
def ydm(H:Heap):(c:Cs)→Av→Option (List Prop × c.T)
 | .i k,a=>match a with | .v (.int j x)=>if j=k then some ([],x) else none|_=>none
 | .b,a=>match a with | .v (.bool x)=>some ([],x)|_=>none
 | .sl sh,a=>match a with
  | .sl id z lo len=>(match H[id]? with
   | some (.arr sh' xs _)=>if h:sh'=sh then (if z=sh.length∧lo=0 then some ([len=xs.length],(h ▸ xs:List (El sh))) else none) else none
   | _=>none)
  | .v (.slice none 0 0)=>some ([],[])
  | _=>none
 | .sub sh,a=>match a with
  | .sl id z lo len=>(match H[id]? with
   | some (.arr sh' xs _)=>if h:sh'=sh then (if z=sh.length then some ([lo+len≤xs.length],((h ▸ xs:List (El sh)).drop lo).take len) else none) else none
   | _=>none)
  | .v (.slice none 0 0)=>some ([],[])
  | _=>none
def zz9(H:Heap):(cs:List Cs)→List Av→Option (List Prop × CsT cs)
 | [],as=>match as with|[]=>some ([],())|_=>none
 | [c],as=>match as with|[a]=>ydm H c a|_=>none
 | c::d::cs,as=>match as with
  | a::as=>(match ydm H c a with|some (p,x)=>(match zz9 H (d::cs) as with|some (q,y)=>some (p++q,(x,y))|none=>none)|none=>none)
  | []=>none
def absP(H:Heap):(p:Pm)→Av→Option (List Prop × p.T)
 | .one c,a=>ydm H c a
 | .st cs,a=>match a with | .agg as=>zz9 H cs as|_=>none
def zo6(H:Heap):(ps:List Pm)→List Av→Option (List Prop × PmT ps)
 | [],as=>match as with|[]=>some ([],())|_=>none
 | [p],as=>match as with|[a]=>absP H p a|_=>none
 | p::q::ps,as=>match as with
  | a::as=>(match absP H p a with|some (c,x)=>(match zo6 H (q::ps) as with|some (d,y)=>some (c++d,(x,y))|none=>none)|none=>none)
  | []=>none
def ytk(ps:List Prop)(r:Option Prop):Option Prop :=
 match ps,r with
 | [],r=>r
 | p::ps,none=>some (zkq (p::ps))
 | p::ps,some r=>some (zkq (p::ps++[r]))
theorem zo7{ps:List Prop}{r:Option Prop}(h:Hold (ytk ps r)):(∀p ∈ ps,p)∧Hold r:=by
 cases ps with
 | nil=>exact⟨fun p hp=>by (cases hp),h⟩
 | cons q ps =>
  cases r with
  | none=>exact⟨zbp.1 (show zkq (q::ps) from h),trivial⟩
  | some r =>
   have h':=zbp.1 (show zkq (q::ps++[r]) from h)
   exact⟨fun p hp=>h' p (List.mem_append_left _ hp),h' r (by simp)⟩
def zag(As R:List Pm)(req:PmT As→Option Prop)(g:PmT As→PmT R):Sum:=fun args H =>
 match zo6 H As args with
 | some (ps,x)=>some (ytk ps (req x),(zfb true R (g x) H.length).1,H++(zfb true R (g x) H.length).2)
 | none=>none
def zfw(σ:Env)(w:World)(n:Nat)(bs:Heap):Prop:=∀i b,bs[i]? = some b→b.own=false∧Rb σ w (n+i) b∧∀L,σ (n+i)=some L→L.b<w.heap.size
theorem zfw.append{σ:Env}{w:World}{n:Nat}{bs cs:Heap}(h:zfw σ w n bs)(g:zfw σ w (n+bs.length) cs):zfw σ w n (bs++cs):=by
 intro i b hi
 rcases Nat.lt_or_ge i bs.length with q|q
 · rw[List.getElem?_append_left q] at hi;exact h i b hi
 · rw[List.getElem?_append_right q] at hi
   have:=g (i-bs.length) b hi
   rwa [show n+bs.length+(i-bs.length)=n+i by omega] at this
def At(σ:Env)(n:Nat)(locs:List (Option Loc)):Prop:=∀i o,locs[i]? = some o→σ (n+i)=o
theorem At.left{σ:Env}{n:Nat}{l m:List (Option Loc)}(h:At σ n (l++m)):At σ n l:=fun i o hi=>by
 refine h i o ?_
 rw[List.getElem?_append_left (by rcases Nat.lt_or_ge i l.length with q|q;exact q;simp[List.getElem?_eq_none q] at hi)]
 exact hi
theorem At.right{σ:Env}{n:Nat}{l m:List (Option Loc)}(h:At σ n (l++m)):At σ (n+l.length) m:=fun i o hi=>by
 have:=h (l.length+i) o (by rw[List.getElem?_append_right (by omega),show l.length+i-l.length=i by omega];exact hi)
 rwa [← Nat.add_assoc] at this
theorem yj5{H:Heap}{sh:List Ty}{a:Av}{ps:List Prop}{x:List (El sh)}(h:ydm H (.sl sh) a=some (ps,x))(hp:∀p ∈ ps,p):∃qs,ydm H (.sub sh) a=some (qs,x)∧∀q ∈ qs,q:=by
 simp only[ydm] at h ⊢
 split at h
 · rename_i id z lo len
   split at h
   · rename_i sh' xs own hb
     split at h
     · rename_i hsh
       subst hsh
       split at h
       · rename_i hz
         obtain⟨rfl,rfl⟩:=hz
         simp only[Option.some.injEq,Prod.mk.injEq] at h
         obtain⟨rfl,rfl⟩:=h
         have hl:len=xs.length:=hp _ List.mem_cons_self
         subst hl
         exact⟨[0+xs.length≤xs.length],by simp,fun q hq=>by rw[List.mem_singleton.1 hq];omega⟩
       · cases h
     · cases h
   · cases h
 · simp only[Option.some.injEq,Prod.mk.injEq] at h
   obtain⟨rfl,rfl⟩:=h
   exact⟨[],rfl,fun q hq=>by cases hq⟩
 · cases h
theorem zrf{ρ:Env}{H:Heap}{w:World}(hr:Rel ρ H w){sh:List Ty}{a:Av}{ps:List Prop}{x:List (El sh)}(h:ydm H (.sub sh) a=some (ps,x))(hp:∀p ∈ ps,p){y:Value}(hy:Rv ρ a y)(n:Nat):∃locs:List (Option Loc),locs.length=(zc7 false (.sub sh) x n).2.length∧∀σ,At σ n locs→Rv σ (zc7 false (.sub sh) x n).1 y∧zfw σ w n (zc7 false (.sub sh) x n).2:=by
 simp only[ydm] at h
 split at h
 · rename_i id z lo len
   split at h
   · rename_i sh' xs own hb
     split at h
     · rename_i hsh
       subst hsh
       split at h
       · rename_i hz
         subst hz
         simp only[Option.some.injEq,Prod.mk.injEq] at h
         obtain⟨rfl,rfl⟩:=h
         have hle:lo+len≤xs.length:=hp _ List.mem_cons_self
         have hlen:((xs.drop lo).take len).length=len:=by simp;omega
         simp only[Rv] at hy
         rcases hy with ⟨hno,rfl,rfl,q,rfl⟩|⟨L,o,hL,hcap,ho,rfl⟩
         · refine⟨[none],rfl,fun σ hσ => ?_⟩
           have h0:σ n=none:=by simpa using hσ 0 none rfl
           refine⟨?_,fun i b hi => ?_⟩
           · simp only[zc7,Rv]
             exact .inl ⟨h0,by simp,by simp,q,by simp⟩
           · cases i with
             | succ i=>simp[zc7] at hi
             | zero =>
              simp only[zc7,List.getElem?_cons_zero,Option.some.injEq] at hi
              subst hi
              exact⟨rfl,.inl ⟨by simpa using h0,by simp⟩,fun L hL=>by rw[Nat.add_zero,h0] at hL;cases hL⟩
         · refine⟨[some ⟨L.b,L.off+o*sh'.length,L.cap-lo,{}⟩],rfl,fun σ hσ => ?_⟩
           have h0:σ n=some ⟨L.b,L.off+o*sh'.length,L.cap-lo,{}⟩:=by simpa using hσ 0 _ rfl
           refine⟨?_,fun i b hi => ?_⟩
           · simp only[zc7,Rv]
             refine .inr ⟨_,0,h0,by simp only[hlen];omega,.inl rfl, ?_⟩
             rw[hlen]
             simp
           · cases i with
             | succ i=>simp[zc7] at hi
             | zero =>
              simp only[zc7,List.getElem?_cons_zero,Option.some.injEq] at hi
              subst hi
              refine⟨rfl,.inr ⟨_,by simpa using h0,by simp only[hlen];omega,fun i x hx j v hj => ?_,fun e=>by cases e⟩,fun M hM => ?_⟩
              · rw[List.getElem?_take] at hx
                split at hx
                case isFalse=>cases hx
                rename_i hil
                rw[List.getElem?_drop] at hx
                have ho':o=lo:=by
                 rcases ho with g|g
                 · exact g
                 · omega
                subst ho'
                rcases hr.blk id _ hb with ⟨hno,_⟩|⟨M,hM,_,hc,_⟩
                · rw[hL] at hno;cases hno
                · rw[hL] at hM;cases hM
                  have:=hc (o+i) x hx j v hj
                  rw[Nat.add_mul] at this
                  simp only[Nat.add_assoc] at this ⊢
                  exact this
              · rw[Nat.add_zero,h0] at hM
                cases hM
                exact hr.inb id _ L hb rfl hL
       · cases h
     · cases h
   · cases h
 · simp only[Option.some.injEq,Prod.mk.injEq] at h
   obtain⟨rfl,rfl⟩:=h
   have e:y = .slice none 0 0:=hy
   subst e
   refine⟨[none],rfl,fun σ hσ => ?_⟩
   have h0:σ n=none:=by simpa using hσ 0 none rfl
   refine⟨?_,fun i b hi => ?_⟩
   · simp only[zc7,Rv]
     exact .inl ⟨h0,by simp,by simp,none,by simp⟩
   · cases i with
     | succ i=>simp[zc7] at hi
     | zero =>
      simp only[zc7,List.getElem?_cons_zero,Option.some.injEq] at hi
      subst hi
      exact⟨rfl,.inl ⟨by simpa using h0,rfl⟩,fun L hL=>by rw[Nat.add_zero,h0] at hL;cases hL⟩
 · cases h
theorem zvh{ρ:Env}{H:Heap}{w:World}(hr:Rel ρ H w):∀{c:Cs}{a:Av}{ps:List Prop}{x:c.T},ydm H c a=some (ps,x)→(∀p ∈ ps,p)→∀{y:Value},Rv ρ a y→∀n,∃locs:List (Option Loc),locs.length=(zc7 false c x n).2.length∧∀σ,At σ n locs→Rv σ (zc7 false c x n).1 y∧zfw σ w n (zc7 false c x n).2
 | .i k,a,ps,x,h,_,y,hy,n=>by
  simp only[ydm] at h
  split at h
  · split at h
    · rename_i e
      simp only[Option.some.injEq,Prod.mk.injEq] at h
      obtain⟨rfl,rfl⟩:=h
      subst e
      exact⟨[],rfl,fun σ _=>⟨hy,fun i b hi=>by simp[zc7] at hi⟩⟩
    · cases h
  · cases h
 | .b,a,ps,x,h,_,y,hy,n=>by
  simp only[ydm] at h
  split at h
  · simp only[Option.some.injEq,Prod.mk.injEq] at h
    obtain⟨rfl,rfl⟩:=h
    exact⟨[],rfl,fun σ _=>⟨hy,fun i b hi=>by simp[zc7] at hi⟩⟩
  · cases h
 | .sl sh,a,ps,x,h,hp,y,hy,n=>by
  obtain⟨qs,h1,h2⟩:=yj5 h hp
  exact zrf hr h1 h2 hy n
 | .sub _,_,_,_,h,hp,_,hy,n=>zrf hr h hp hy n
theorem zyl{ρ:Env}{H:Heap}{w:World}(hr:Rel ρ H w):∀{cs:List Cs}{as:List Av}{ps:List Prop}{x:CsT cs},zz9 H cs as=some (ps,x)→(∀p ∈ ps,p)→∀{ys:List Value},RvL ρ as ys→∀n,∃locs:List (Option Loc),locs.length=(zci false cs x n).2.length∧∀σ,At σ n locs→RvL σ (zci false cs x n).1 ys∧zfw σ w n (zci false cs x n).2
 | [],as,ps,x,h,_,ys,hy,n=>by
  simp only[zz9] at h
  split at h
  · cases ys with
    | nil=>exact⟨[],rfl,fun σ _=>⟨trivial,fun i b hi=>by simp[zci] at hi⟩⟩
    | cons _ _=>simp[RvL] at hy
  · cases h
 | [c],as,ps,x,h,hp,ys,hy,n=>by
  simp only[zz9] at h
  split at h
  · rename_i a
    match ys,hy with
    | [y],hy =>
     obtain⟨locs,h1,h2⟩:=zvh hr h hp hy.1 n
     exact⟨locs,h1,fun σ hσ=>⟨⟨(h2 σ hσ).1,trivial⟩,(h2 σ hσ).2⟩⟩
    | [],hy=>simp[RvL] at hy
    | _::_::_,hy=>simp[RvL] at hy
  · cases h
 | c::d::cs,as,ps,x,h,hp,ys,hy,n=>by
  simp only[zz9] at h
  split at h
  · rename_i a as
    split at h
    · rename_i p x1 h1
      split at h
      · rename_i q y1 h2
        simp only[Option.some.injEq,Prod.mk.injEq] at h
        obtain⟨rfl,rfl⟩:=h
        match ys,hy with
        | y::ys,hy =>
         obtain⟨l1,g1,g2⟩:=zvh hr h1 (fun z hz=>hp z (by simp[hz])) hy.1 n
         obtain⟨l2,g3,g4⟩:=zyl hr h2 (fun z hz=>hp z (by simp[hz])) hy.2 (n+(zc7 false c x1 n).2.length)
         refine⟨l1++l2,by simp[zci,g1,g3],fun σ hσ => ?_⟩
         obtain⟨k1,k2⟩:=g2 σ hσ.left
         obtain⟨k3,k4⟩:=g4 σ (by have:=hσ.right;rwa [g1] at this)
         exact⟨⟨k1,k3⟩,k2.append k4⟩
        | [],hy=>simp[RvL] at hy
      · cases h
    · cases h
  · cases h
theorem ydn{ρ:Env}{H:Heap}{w:World}(hr:Rel ρ H w):∀{p:Pm}{a:Av}{ps:List Prop}{x:p.T},absP H p a=some (ps,x)→(∀p ∈ ps,p)→∀{y:Value},Rv ρ a y→∀n,∃locs:List (Option Loc),locs.length=(zg2 false p x n).2.length∧∀σ,At σ n locs→Rv σ (zg2 false p x n).1 y∧zfw σ w n (zg2 false p x n).2
 | .one c,a,ps,x,h,hp,y,hy,n=>zvh hr (c:=c) h hp hy n
 | .st cs,a,ps,x,h,hp,y,hy,n=>by
  simp only[absP] at h
  split at h
  · simp only[Rv] at hy
    obtain⟨vs,rfl,hv⟩:=hy
    obtain⟨locs,h1,h2⟩:=zyl hr h hp hv n
    exact⟨locs,h1,fun σ hσ=>⟨⟨vs,rfl,(h2 σ hσ).1⟩,(h2 σ hσ).2⟩⟩
  · cases h
theorem zym{ρ:Env}{H:Heap}{w:World}(hr:Rel ρ H w):∀{cs:List Pm}{as:List Av}{ps:List Prop}{x:PmT cs},zo6 H cs as=some (ps,x)→(∀p ∈ ps,p)→∀{ys:List Value},RvL ρ as ys→∀n,∃locs:List (Option Loc),locs.length=(zap false cs x n).2.length∧∀σ,At σ n locs→RvL σ (zap false cs x n).1 ys∧zfw σ w n (zap false cs x n).2
 | [],as,ps,x,h,_,ys,hy,n=>by
  simp only[zo6] at h
  split at h
  · cases ys with
    | nil=>exact⟨[],rfl,fun σ _=>⟨trivial,fun i b hi=>by simp[zap] at hi⟩⟩
    | cons _ _=>simp[RvL] at hy
  · cases h
 | [c],as,ps,x,h,hp,ys,hy,n=>by
  simp only[zo6] at h
  split at h
  · rename_i a
    match ys,hy with
    | [y],hy =>
     obtain⟨locs,h1,h2⟩:=ydn hr h hp hy.1 n
     exact⟨locs,h1,fun σ hσ=>⟨⟨(h2 σ hσ).1,trivial⟩,(h2 σ hσ).2⟩⟩
    | [],hy=>simp[RvL] at hy
    | _::_::_,hy=>simp[RvL] at hy
  · cases h
 | c::d::cs,as,ps,x,h,hp,ys,hy,n=>by
  simp only[zo6] at h
  split at h
  · rename_i a as
    split at h
    · rename_i p x1 h1
      split at h
      · rename_i q y1 h2
        simp only[Option.some.injEq,Prod.mk.injEq] at h
        obtain⟨rfl,rfl⟩:=h
        match ys,hy with
        | y::ys,hy =>
         obtain⟨l1,g1,g2⟩:=ydn hr h1 (fun z hz=>hp z (by simp[hz])) hy.1 n
         obtain⟨l2,g3,g4⟩:=zym hr h2 (fun z hz=>hp z (by simp[hz])) hy.2 (n+(zg2 false c x1 n).2.length)
         refine⟨l1++l2,by simp[zap,g1,g3],fun σ hσ => ?_⟩
         obtain⟨k1,k2⟩:=g2 σ hσ.left
         obtain⟨k3,k4⟩:=g4 σ (by have:=hσ.right;rwa [g1] at this)
         exact⟨⟨k1,k3⟩,k2.append k4⟩
        | [],hy=>simp[RvL] at hy
      · cases h
    · cases h
  · cases h
theorem zkv(own:Bool):∀(c:Cs)(x:c.T)(n m:Nat),(zc7 own c x n).2=(zc7 own c x m).2
 | .i _,_,_,_=>rfl
 | .b,_,_,_=>rfl
 | .sl _,_,_,_=>rfl
 | .sub _,_,_,_=>rfl
theorem zrt(own:Bool):∀(cs:List Cs)(x:CsT cs)(n m:Nat),(zci own cs x n).2=(zci own cs x m).2
 | [],_,_,_=>rfl
 | [c],x,n,m=>zkv own c x n m
 | c::d::cs,x,n,m=>by simp only[zci];rw[zkv own c x.1 n m,zrt own (d::cs) x.2 _ (m+(zc7 own c x.1 m).2.length)]
theorem zpd(own:Bool):∀(p:Pm)(x:p.T)(n m:Nat),(zg2 own p x n).2=(zg2 own p x m).2
 | .one c,x,n,m=>zkv own c x n m
 | .st cs,x,n,m=>zrt own cs x n m
theorem zru(own:Bool):∀(cs:List Pm)(x:PmT cs)(n m:Nat),(zap own cs x n).2=(zap own cs x m).2
 | [],_,_,_=>rfl
 | [c],x,n,m=>zpd own c x n m
 | c::d::cs,x,n,m=>by simp only[zap];rw[zpd own c x.1 n m,zru own (d::cs) x.2 _ (m+(zg2 own c x.1 m).2.length)]
def Shift(σ τ:Env)(n m k:Nat):Prop:=∀i,i<k→τ (m+i)=σ (n+i)
theorem Shift.left{σ τ:Env}{n m k l:Nat}(h:Shift σ τ n m (k+l)):Shift σ τ n m k:=fun i hi=>h i (by omega)
theorem Shift.right{σ τ:Env}{n m k l:Nat}(h:Shift σ τ n m (k+l)):Shift σ τ (n+k) (m+k) l:=fun i hi=>by
 have:=h (k+i) (by omega)
 rwa [← Nat.add_assoc, ← Nat.add_assoc] at this
theorem zjm(own:Bool){σ τ:Env}:∀(c:Cs)(x:c.T)(n m:Nat)(y:Value),Shift σ τ n m (zc7 own c x n).2.length→Rv σ (zc7 own c x n).1 y→Rv τ (zc7 own c x m).1 y
 | .i _,_,_,_,_,_,h=>h
 | .b,_,_,_,_,_,h=>h
 | .sl sh,xs,n,m,y,hs,h=>by
  have e:τ m=σ n:=by simpa using hs 0 (by simp[zc7])
  simp only[zc7,Rv] at h ⊢
  rw[e]
  exact h
 | .sub sh,xs,n,m,y,hs,h=>by
  have e:τ m=σ n:=by simpa using hs 0 (by simp[zc7])
  simp only[zc7,Rv] at h ⊢
  rw[e]
  exact h
theorem zlp(own:Bool){σ τ:Env}:∀(cs:List Cs)(x:CsT cs)(n m:Nat)(ys:List Value),Shift σ τ n m (zci own cs x n).2.length→RvL σ (zci own cs x n).1 ys→RvL τ (zci own cs x m).1 ys
 | [],_,_,_,ys,_,h=>by cases ys with|nil=>trivial|cons _ _=>simp[zci,RvL] at h
 | [c],x,n,m,ys,hs,h=>by
  match ys,h with
  | [y],h=>exact⟨zjm own c x n m y hs h.1,trivial⟩
  | [],h=>simp[zci,RvL] at h
  | _::_::_,h=>simp[zci,RvL] at h
 | c::d::cs,x,n,m,ys,hs,h=>by
  match ys,h with
  | y::ys,h =>
   simp only[zci,List.length_append] at hs
   refine⟨zjm own c x.1 n m y hs.left h.1, ?_⟩
   have e:=congrArg List.length (zkv own c x.1 n m)
   have:=zlp own (d::cs) x.2 _ (m+(zc7 own c x.1 n).2.length) ys hs.right h.2
   rw[e] at this
   exact this
  | [],h=>simp[zci,RvL] at h
theorem zjn(own:Bool){σ τ:Env}:∀(p:Pm)(x:p.T)(n m:Nat)(y:Value),Shift σ τ n m (zg2 own p x n).2.length→Rv σ (zg2 own p x n).1 y→Rv τ (zg2 own p x m).1 y
 | .one c,x,n,m,y,hs,h=>zjm own c x n m y hs h
 | .st cs,x,n,m,y,hs,h=>by
  simp only[zg2,Rv] at h ⊢
  obtain⟨vs,h1,h2⟩:=h
  exact⟨vs,h1,zlp own cs x n m vs hs h2⟩
theorem zlq(own:Bool){σ τ:Env}:∀(cs:List Pm)(x:PmT cs)(n m:Nat)(ys:List Value),Shift σ τ n m (zap own cs x n).2.length→RvL σ (zap own cs x n).1 ys→RvL τ (zap own cs x m).1 ys
 | [],_,_,_,ys,_,h=>by cases ys with|nil=>trivial|cons _ _=>simp[zap,RvL] at h
 | [c],x,n,m,ys,hs,h=>by
  match ys,h with
  | [y],h=>exact⟨zjn own c x n m y hs h.1,trivial⟩
  | [],h=>simp[zap,RvL] at h
  | _::_::_,h=>simp[zap,RvL] at h
 | c::d::cs,x,n,m,ys,hs,h=>by
  match ys,h with
  | y::ys,h =>
   simp only[zap,List.length_append] at hs
   refine⟨zjn own c x.1 n m y hs.left h.1, ?_⟩
   have e:=congrArg List.length (zpd own c x.1 n m)
   have:=zlq own (d::cs) x.2 _ (m+(zg2 own c x.1 n).2.length) ys hs.right h.2
   rw[e] at this
   exact this
  | [],h=>simp[zap,RvL] at h
theorem zg3(own:Bool):∀(cs:List Pm)(x:PmT cs)(n:Nat),(zap own cs x n).1.length=cs.length
 | [],_,_=>rfl
 | [_],_,_=>rfl
 | _::d::cs,x,n=>by simp only[zap,List.length_cons];rw[zg3 own (d::cs) x.2];rfl
theorem yag(own:Bool){σ τ:Env}(cs:List Pm)(x:PmT cs)(n m:Nat)(y:Value)(hs:Shift σ τ n m (zfb own cs x n).2.length)(h:Rv σ (zfb own cs x n).1 y):Rv τ (zfb own cs x m).1 y:=by
 have hl:=zg3 own cs x n
 have hl':=zg3 own cs x m
 simp only[zfb] at h ⊢
 match cs,x,hs,h,hl,hl' with
 | [],x,hs,h,_,_ =>
  simp only[zap,ymh,Rv] at h ⊢
  obtain⟨vs,h1,h2⟩:=h
  refine⟨vs,h1, ?_⟩
  cases vs with
  | nil=>trivial
  | cons _ _=>simp[RvL] at h2
 | [p],x,hs,h,_,_ =>
  simp only[zap,ymh] at h ⊢
  exact zjn own p x n m y hs h
 | p::q::ps,x,hs,h,hl,hl' =>
  have key:∀l:List Av,l.length=(p::q::ps).length→ymh l = .tup l:=by
   intro l hl
   match l,hl with
   | _::_::_,_=>rfl
  rw[key _ hl] at h
  rw[key _ hl']
  simp only[Rv] at h ⊢
  obtain⟨vs,h1,h2⟩:=h
  exact⟨vs,h1,zlq own (p::q::ps) x n m vs hs h2⟩
theorem zsw{As R:List Pm}{H:Heap}{args:List Av}{ps:List Prop}{x:PmT As}(habs:zo6 H As args=some (ps,x))(hp':∀p ∈ ps,p){ρ:Env}{vs:List Value}{w:World}(hw:∀ρ',Agree H.length ρ ρ'→RvL ρ' args vs∧Rel ρ' H w) :
 ∃σ:Env,(∀σ',Agree (zap false As x 0).2.length σ σ'→RvL σ' (zap false As x 0).1 vs∧Rel σ' (zap false As x 0).2 w)∧∀(z:PmT R)(e:Ending)(w':World),
  Ends .returned σ (zap false As x 0).2 w (zfb true R z (zap false As x 0).2.length).1 ((zap false As x 0).2++(zfb true R z (zap false As x 0).2.length).2) e w'→Ends .returned ρ H w (zfb true R z H.length).1 (H++(zfb true R z H.length).2) e w':=by
 obtain⟨hv,hr⟩:=hw ρ (Agree.refl _ _)
 obtain⟨locs,hl,henc⟩:=zym hr habs hp' hv 0
 generalize hH0:(zap false As x 0).2=H0 at *
 let σ:Env:=fun i=>(locs[i]?).getD none
 have hat:∀σ',Agree H0.length σ σ'→At σ' 0 locs:=by
  intro σ' hag i o hi
  have hlt:i<locs.length:=by
   rcases Nat.lt_or_ge i locs.length with q|q
   · exact q
   · simp[List.getElem?_eq_none q] at hi
  rw[Nat.zero_add,hag i (by omega)]
  simp only[σ,hi,Option.getD_some]
 have hrel:∀σ',Agree H0.length σ σ'→Rel σ' H0 w:=by
  intro σ' hag
  have hb:=(henc σ' (hat σ' hag)).2
  refine⟨fun i b hi=>by have:=(hb i b hi).2.1;rwa [Nat.zero_add] at this,fun i j b c L M hi hj _ _ _ hoo => ?_,fun i b L hi _ hL=>(hb i b hi).2.2 L (by rw[Nat.zero_add];exact hL)⟩
  rw[(hb i b hi).1,(hb j c hj).1] at hoo
  rcases hoo with e|e<;>cases e
 refine⟨σ,fun σ' hag=>⟨(henc σ' (hat σ' hag)).1,hrel σ' hag⟩,fun z e w' => ?_⟩
 rintro⟨y,ρ1,rfl,k2,k3,k4,k5⟩
 have hno:∀b,¬ owns σ H0 b:=by
  rintro b ⟨id,blk,L,g1,g2,_⟩
  rw[((henc σ (hat σ (Agree.refl _ _))).2 id blk g1).1] at g2
  cases g2
 have hfr:Fr (fun _=>False) w w':=⟨k4.1,fun b hb _=>k4.2 b hb (hno b),k4.3⟩
 have hblk:∀n m,(zfb true R z n).2=(zfb true R z m).2:=fun n m=>zru true R z n m
 generalize hbs:(zfb true R z H0.length).2=bs at *
 have hbs':(zfb true R z H.length).2=bs:=by rw[hblk H.length H0.length,hbs]
 rw[hbs']
 refine⟨y,fun id=>if id<H.length then ρ id else ρ1 (H0.length+(id-H.length)),rfl,fun i hi=>by simp[hi],fun ρ' hag => ?_,⟨hfr.1,fun b hb _=>hfr.2 b hb id,hfr.3⟩,fun id blk L hid hb hl' hL => ?_⟩
 · let σ':Env:=fun k=>if k<H0.length then ρ1 k else ρ' (H.length+(k-H0.length))
   have hσ':Agree (H0++bs).length ρ1 σ':=by
    intro k hk
    simp only[σ']
    split
    · rfl
    · rename_i hge
      rw[hag _ (by simp at hk ⊢;omega)]
      show (if H.length+(k-H0.length)<H.length then _ else _)=_
      rw[if_neg (by omega),show H.length+(k-H0.length)-H.length=k-H0.length by omega,show H0.length+(k-H0.length)=k by omega]
   obtain⟨q1,q2⟩:=k3 σ' hσ'
   have hsh:Shift σ' ρ' H0.length H.length (zfb true R z H0.length).2.length:=by
    intro i _
    simp only[σ']
    rw[if_neg (by omega),show H.length+(H0.length+i-H0.length)=H.length+i by omega]
   refine⟨yag true R z H0.length H.length y hsh q1, ?_⟩
   have hold:Rel ρ' H w':=zko (hw ρ' (fun i hi=>by rw[hag i (by simp;omega)];simp[hi])).2 hfr
   have hold0:Rel ρ' H w:=(hw ρ' (fun i hi=>by rw[hag i (by simp;omega)];simp[hi])).2
   have get:∀i b,(H++bs)[i]? = some b→(i<H.length∧H[i]? = some b)∨∃j,i=H.length+j∧(H0++bs)[H0.length+j]? = some b∧ρ' i=σ' (H0.length+j):=by
    intro i b hi
    rcases Nat.lt_or_ge i H.length with z|z
    · rw[List.getElem?_append_left z] at hi;exact .inl ⟨z,hi⟩
    · rw[List.getElem?_append_right z] at hi
      refine .inr ⟨i-H.length,by omega, ?_, ?_⟩
      · rw[List.getElem?_append_right (by omega),show H0.length+(i-H.length)-H0.length=i-H.length by omega];exact hi
      · simp only[σ']
        rw[if_neg (by omega),show H.length+(H0.length+(i-H.length)-H0.length)=i by omega]
   have fresh:∀j b L,(H0++bs)[H0.length+j]? = some b→b.live=true→σ' (H0.length+j)=some L→w.heap.size≤L.b:=by
    intro j b L hb hbl hL
    have hlt:H0.length+j<(H0++bs).length:=by
     rcases Nat.lt_or_ge (H0.length+j) (H0++bs).length with z|z
     · exact z
     · simp[List.getElem?_eq_none z] at hb
    rw[hσ' _ hlt] at hL
    exact (k5 _ b L (by omega) hb hbl hL).resolve_left (hno _)
   refine⟨fun i b hi => ?_,fun i j b c L M hi hj hne hbl hcl hoo hL hM => ?_,fun i b L hi hbl hL => ?_⟩
   · rcases get i b hi with ⟨_,h1⟩|⟨k,rfl,h1,h2⟩
     · exact hold.blk i b h1
     · have:=q2.blk _ b h1
       cases b with
       | dead=>trivial
       | fix cs o ty =>
        exfalso
        have hmem:Blk.fix cs o ty ∈ bs:=by
         rw[List.getElem?_append_right (by omega)] at h1
         exact List.mem_of_getElem? h1
        have harr:∀(cs:List Pm)(x:PmT cs)(n:Nat),∀b ∈ (zap true cs x n).2,∃sh xs,b = .arr sh xs true:=by
         have hC:∀(c:Cs)(x:c.T)(n:Nat),∀b ∈ (zc7 true c x n).2,∃sh xs,b = .arr sh xs true:=by
          intro c x n b hb
          cases c with
          | i _=>simp[zc7] at hb
          | b=>simp[zc7] at hb
          | sl sh=>simp[zc7] at hb;exact⟨_,_,hb⟩
          | sub sh=>simp[zc7] at hb;exact⟨_,_,hb⟩
         have hCs:∀(cs:List Cs)(x:CsT cs)(n:Nat),∀b ∈ (zci true cs x n).2,∃sh xs,b = .arr sh xs true:=by
          intro cs
          induction cs with
          | nil=>intro x n b hb;simp[zci] at hb
          | cons c cs ih =>
           intro x n b hb
           cases cs with
           | nil=>exact hC c x n b hb
           | cons d cs =>
            simp only[zci] at hb
            rcases List.mem_append.1 hb with hb|hb
            · exact hC c x.1 n b hb
            · exact ih x.2 _ b hb
         have hP:∀(p:Pm)(x:p.T)(n:Nat),∀b ∈ (zg2 true p x n).2,∃sh xs,b = .arr sh xs true:=by
          intro p x n b hb
          cases p with
          | one c=>exact hC c x n b hb
          | st cs=>exact hCs cs x n b hb
         intro cs
         induction cs with
         | nil=>intro x n b hb;simp[zap] at hb
         | cons c cs ih =>
          intro x n b hb
          cases cs with
          | nil=>exact hP c x n b hb
          | cons d cs =>
           simp only[zap] at hb
           rcases List.mem_append.1 hb with hb|hb
           · exact hP c x.1 n b hb
           · exact ih x.2 _ b hb
        rw[← hbs] at hmem
        obtain⟨_,_,e⟩:=harr R z _ _ hmem
        cases e
       | arr sh xs o =>
        simp only[Rb] at this ⊢
        rw[h2]
        exact this
   · rcases get i b hi with ⟨_,h1⟩|⟨k,rfl,h1,h2⟩<;>rcases get j c hj with ⟨_,g1⟩|⟨l,rfl,g1,g2⟩
     · exact hold.sep i j b c L M h1 g1 hne hbl hcl hoo hL hM
     · have:=hold0.inb i b L h1 hbl hL
       rw[g2] at hM
       have:=fresh l c M g1 hcl hM
       omega
     · have:=hold0.inb j c M g1 hcl hM
       rw[h2] at hL
       have:=fresh k b L h1 hbl hL
       omega
     · rw[h2] at hL
       rw[g2] at hM
       exact q2.sep _ _ b c L M h1 g1 (by omega) hbl hcl hoo hL hM
   · rcases get i b hi with ⟨_,h1⟩|⟨k,rfl,h1,h2⟩
     · exact hold.inb i b L h1 hbl hL
     · rw[h2] at hL
       exact q2.inb _ b L h1 hbl hL
 · simp only at hL
   rw[if_neg (by omega)] at hL
   rw[List.getElem?_append_right hid] at hb
   right
   have h1:(H0++bs)[H0.length+(id-H.length)]? = some blk:=by
    rw[List.getElem?_append_right (by omega),show H0.length+(id-H.length)-H0.length=id-H.length by omega];exact hb
   exact (k5 _ blk L (by omega) h1 hl' hL).resolve_left (hno _)
theorem ya4{P:Program}{f:FuncId}{As R:List Pm}{req:PmT As→Option Prop}{g:PmT As→PmT R}
 (h:∀x,Hold (req x)→∀(σ:Env)(vs:List Value)(w:World),(∀σ',Agree (zap false As x 0).2.length σ σ'→RvL σ' (zap false As x 0).1 vs∧Rel σ' (zap false As x 0).2 w) →
  Calls P f vs.toArray w (Ends .returned σ (zap false As x 0).2 w (zfb true R (g x) (zap false As x 0).2.length).1 ((zap false As x 0).2++(zfb true R (g x) (zap false As x 0).2.length).2))):Sound P f (zag As R req g):=by
 intro args H p v H' hs hp ρ vs w hw
 unfold zag at hs
 split at hs
 case h_2=>cases hs
 rename_i ps x habs
 simp only[Option.some.injEq,Prod.mk.injEq] at hs
 obtain⟨rfl,rfl,rfl⟩:=hs
 obtain⟨hp',hreq⟩:=zo7 hp
 obtain⟨σ,h1,h2⟩:=zsw (R:=R) habs hp' hw
 exact (h x hreq σ vs w h1).mono (fun e w' he=>h2 (g x) e w' he)
theorem zea{P:Program}{f:FuncId}{As R:List Pm}{req req':PmT As→Option Prop}{g:PmT As→PmT R}(h:Sound P f (zag As R req g))(hr:∀x,Hold (req' x)→Hold (req x)):Sound P f (zag As R req' g):=by
 intro args H p v H' hs hp
 unfold zag at hs
 split at hs
 case h_2=>cases hs
 rename_i ps x habs
 simp only[Option.some.injEq,Prod.mk.injEq] at hs
 obtain⟨rfl,rfl,rfl⟩:=hs
 obtain⟨h1,h2⟩:=zo7 hp
 refine h args H (ytk ps (req x)) _ _ (by unfold zag;rw[habs]) ?_
 have h3:=hr x h2
 cases ps with
 | nil=>exact h3
 | cons q ps =>
  cases hq:req x with
  | none=>exact zbp.2 h1
  | some r =>
   rw[hq] at h3
   refine zbp.2 (fun p hp => ?_)
   rcases List.mem_append.1 hp with hp|hp
   · exact h1 p hp
   · rw[List.mem_singleton.1 hp];exact h3
def zal(P:Program)(D:Dict)(Ξ:Specs)(fn:Func)(As R:List Pm)(x:PmT As)(y:PmT R):Prop :=
 vcC P D Ξ (zap false As x 0).2.length (zat fn) (yo3 P fn (zap false As x 0).2.length (zfb true R y (zap false As x 0).2.length).1 ((zap false As x 0).2++(zfb true R y (zap false As x 0).2.length).2)) (zei fn (zap false As x 0).1) (zap false As x 0).2
def zax(P:Program)(D:Dict)(Ξ:Specs)(n0:Nat)(body:Code)(L:LoopS)(μ:L.α→Nat)(x:L.α):Prop:=vcC P D Ξ n0 body (zzk n0 L μ x) (L.sl x) (L.H x)
def slots(n:Nat)(l:List (Nat × Av)):List Av:=(List.range n).map fun i=>(l.lookup i).getD .any
def zai(fn:Func)(i:Nat):Code:=(zak (zat fn)).getD i .skip
theorem zjv{P:Program}(hm:P.follows .mixedOrders=true){f:FuncId}{fn:Func}(hf:P.funcs[f]? = some fn)(hb:fn.body=some (zat fn)){As R:List Pm}{req:PmT As→Option Prop}{g:PmT As→PmT R}{D:Dict}(hD:DictOk P D)
 (h:∀x,Hold (req x)→∃Ξ:Specs,(∀b ∈ zak (zat fn),∀k L,zbh b=some k→Ξ.loop k=some L→zch P (zap false As x 0).2.length b L)∧zal P D Ξ fn As R x (g x)):Sound P f (zag As R req g):=by
 refine ya4 (fun x hx σ vs w hw => ?_)
 obtain⟨Ξ,hL,hvc⟩:=h x hx
 exact zrj hm hf hb hD hL hvc hw
theorem zad{P:Program}(hm:P.follows .mixedOrders=true){f:FuncId}{fn:Func}(hf:P.funcs[f]? = some fn)(hb:fn.body=some (zat fn))(hl:zak (zat fn)=[]){As R:List Pm}{req:PmT As→Option Prop}{g:PmT As→PmT R}{D:Dict}(hD:DictOk P D)
 (h:∀x,Hold (req x)→zal P D .none fn As R x (g x)):Sound P f (zag As R req g) :=
 zjv hm hf hb hD (fun x hx=>⟨.none,by rw[hl];exact (fun b hb=>by cases hb),h x hx⟩)
theorem ya3{P:Program}(hm:P.follows .mixedOrders=true){f:FuncId}{fn:Func}(hf:P.funcs[f]? = some fn)(hb:fn.body=some (zat fn))(hl:zak (zat fn)=[]){As R:List Pm}{req:PmT As→Option Prop}{g:PmT As→PmT R}{D:Dict}(hD:DictOk P D)
 (h:∀x,Hold (req x)→zal P D .joins fn As R x (g x)):Sound P f (zag As R req g) :=
 zjv hm hf hb hD (fun x hx=>⟨.joins,by rw[hl];exact (fun b hb=>by cases hb),h x hx⟩)
theorem zk5{P:Program}(hm:P.follows .mixedOrders=true){f:FuncId}{fn:Func}(hf:P.funcs[f]? = some fn)(hb:fn.body=some (zat fn))(hl:zak (zat fn)=[]){As R:List Pm}{req:PmT As→Option Prop}{g:PmT As→PmT R}{D:Dict}(hD:DictOk P D)
 (h:∀x,Hold (req x)→∃Ξ:Specs,zal P D Ξ fn As R x (g x)):Sound P f (zag As R req g) :=
 zjv hm hf hb hD (fun x hx=>let ⟨Ξ,hv⟩:=h x hx;⟨Ξ,by rw[hl];exact (fun b hb=>by cases hb),hv⟩)
def mkD(l:List (FuncId × Sum))(m:List (FuncId × (Nat × (Nat→Sum))))(q:List (FuncId × (Nat × (Nat→Sum)))):Dict:=⟨fun g=>l.lookup g,fun g=>m.lookup g,fun g=>q.lookup g⟩
def zay(P:Program)(l:List (FuncId × Sum)):Prop:=∀p ∈ l,callable P p.1=true∧Sound P p.1 p.2
def znv(P:Program)(l:List (FuncId × (Nat × (Nat→Sum)))):Prop:=∀p ∈ l,callable P p.1=true∧∀k,Sound P p.1 (p.2.2 k)
def znw(P:Program)(l:List (FuncId × (Nat × (Nat→Sum)))):Prop:=∀p ∈ l,callable P p.1=true∧∀k,zd7 P panics p.1 (p.2.2 k)
theorem zay.nil{P:Program}:zay P []:=fun p hp=>by cases hp
theorem znv.nil{P:Program}:znv P []:=fun p hp=>by cases hp
theorem znw.nil{P:Program}:znw P []:=fun p hp=>by cases hp
theorem zay.cons{P:Program}{g:FuncId}{S:Sum}{l:List (FuncId × Sum)}(hc:callable P g=true)(hs:Sound P g S)(h:zay P l):zay P ((g,S)::l):=fun p hp=>by
 rcases List.mem_cons.1 hp with rfl|hp
 · exact⟨hc,hs⟩
 · exact h p hp
theorem znv.cons{P:Program}{g:FuncId}{n:Nat}{S:Nat→Sum}{l:List (FuncId × (Nat × (Nat→Sum)))}(hc:callable P g=true)(hs:∀k,Sound P g (S k))(h:znv P l):znv P ((g,(n,S))::l):=fun p hp=>by
 rcases List.mem_cons.1 hp with rfl|hp
 · exact⟨hc,hs⟩
 · exact h p hp
theorem znw.cons{P:Program}{g:FuncId}{n:Nat}{S:Nat→Sum}{l:List (FuncId × (Nat × (Nat→Sum)))}(hc:callable P g=true)(hs:∀k,zd7 P panics g (S k))(h:znw P l):znw P ((g,(n,S))::l):=fun p hp=>by
 rcases List.mem_cons.1 hp with rfl|hp
 · exact⟨hc,hs⟩
 · exact h p hp
theorem za1{P:Program}{l:List (FuncId × Sum)}{m q:List (FuncId × (Nat × (Nat→Sum)))}(hl:zay P l)(hm:znv P m)(hq:znw P q):DictOk P (mkD l m q) where
 det g S h:=hl (g,S) (zdy h)
 mul g n S h:=hm (g,(n,S)) (zdy h)
 pan g n S h:=hq (g,(n,S)) (zdy h)
attribute [irreducible] zal zax
theorem zah{A F:Prop}(e:A=F)(h:F):A:=e ▸ h
def Specs.one(k:Nat)(L:LoopS):Specs:={ Specs.none with loop:=fun i=>if i=k then some L else .none }
theorem zby(k:Nat)(L:LoopS):(Specs.one k L).loop k=some L:=if_pos rfl
theorem zcr{P:Program}(hm:P.follows .mixedOrders=true){f:FuncId}{fn:Func}(hf:P.funcs[f]? = some fn)(hb:fn.body=some (zat fn)){b:Code}{k:Nat}(hl:zak (zat fn)=[b])(hk:zbh b=some k)(hl0:zak b=[]){As R:List Pm}{req:PmT As→Option Prop}{g:PmT As→PmT R}{D:Dict}(hD:DictOk P D)
 (h:∀x,Hold (req x)→∃(Ξ:Specs)(L:LoopS)(μ:L.α→Nat),Ξ.loop k=some L∧(∀y,L.I y→zax P D Ξ (zap false As x 0).2.length b L μ y)∧zal P D Ξ fn As R x (g x)):Sound P f (zag As R req g):=by
 refine zjv hm hf hb hD (fun x hx => ?_)
 obtain⟨Ξ,L,μ,h1,h2,h3⟩:=h x hx
 refine⟨Ξ,fun c hc k' M hk' hM => ?_,h3⟩
 rw[hl] at hc
 have e:=List.mem_singleton.1 hc
 subst e
 rw[hk] at hk'
 cases hk'
 rw[h1] at hM
 cases hM
 refine zeq (Ξ:=Ξ) hm hD (fun b hb=>by rw[hl0] at hb;cases hb) μ (fun y hy => ?_)
 have:=h2 y hy
 unfold zax at this
 exact this
def Specs.two(k:Nat)(L:LoopS)(k2:Nat)(L2:LoopS):Specs:={ Specs.none with loop:=fun i=>if i=k then some L else if i=k2 then some L2 else .none }
theorem ztc(k:Nat)(L:LoopS)(k2:Nat)(L2:LoopS):(Specs.two k L k2 L2).loop k=some L:=if_pos rfl
theorem ztd(k:Nat)(L:LoopS)(k2:Nat)(L2:LoopS)(h:k2≠k):(Specs.two k L k2 L2).loop k2=some L2:=by
 show (if k2=k then some L else if k2=k2 then some L2 else .none)=_
 rw[if_neg h,if_pos rfl]
theorem ygl{P:Program}(hm:P.follows .mixedOrders=true){f:FuncId}{fn:Func}(hf:P.funcs[f]? = some fn)(hb:fn.body=some (zat fn)){b1 b2:Code}{k1 k2:Nat}(hl:zak (zat fn)=[b1,b2])(h1:zak b1=[b2])(h2:zak b2=[])(hk1:zbh b1=some k1)(hk2:zbh b2=some k2)
 {As R:List Pm} {req:PmT As→Option Prop} {g:PmT As→PmT R} {D:Dict} (hD:DictOk P D)
 (h:∀x,Hold (req x)→∃(Ξ:Specs)(L1:LoopS)(μ1:L1.α→Nat)(L2:LoopS)(μ2:L2.α→Nat),Ξ.loop k1=some L1∧Ξ.loop k2=some L2∧(∀y,L2.I y→zax P D Ξ (zap false As x 0).2.length b2 L2 μ2 y)∧(∀y,L1.I y→zax P D Ξ (zap false As x 0).2.length b1 L1 μ1 y)∧zal P D Ξ fn As R x (g x)):Sound P f (zag As R req g):=by
 refine zjv hm hf hb hD (fun x hx => ?_)
 obtain⟨Ξ,L1,μ1,L2,μ2,e1,e2,r2,r1,h3⟩:=h x hx
 have ok2:zch P (zap false As x 0).2.length b2 L2:=by
  refine zeq (Ξ:=Ξ) hm hD (fun b hb=>by rw[h2] at hb;cases hb) μ2 (fun y hy => ?_)
  have:=r2 y hy
  unfold zax at this
  exact this
 have ok1:zch P (zap false As x 0).2.length b1 L1:=by
  refine zeq (Ξ:=Ξ) hm hD (fun b hb k L hk hL => ?_) μ1 (fun y hy => ?_)
  · rw[h1] at hb
    have e:=List.mem_singleton.1 hb
    subst e
    rw[hk2] at hk
    cases hk
    rw[e2] at hL
    cases hL
    exact ok2
  · have:=r1 y hy
    unfold zax at this
    exact this
 refine⟨Ξ,fun c hc k' M hk' hM => ?_,h3⟩
 rw[hl] at hc
 rcases List.mem_cons.1 hc with rfl|hc
 · rw[hk1] at hk'
   cases hk'
   rw[e1] at hM
   cases hM
   exact ok1
 · have e:=List.mem_singleton.1 hc
   subst e
   rw[hk2] at hk'
   cases hk'
   rw[e2] at hM
   cases hM
   exact ok2
def yn8(H:Heap):(c:Cs)→Av→Nat→Option (List Prop × c.T × Nat)
 | .i k,a,n=>match a with | .v (.int j x)=>if j=k then some ([],x,n) else none|_=>none
 | .b,a,n=>match a with | .v (.bool x)=>some ([],x,n)|_=>none
 | .sl sh,a,n=>match a with
  | .sl id z lo len=>if id=n∧z=sh.length∧lo=0 then (match H[n]? with
   | some (.arr sh' xs true)=>if h:sh'=sh then some ([len=xs.length],(h ▸ xs:List (El sh)),n+1) else none
   | _=>none) else none
  | _=>none
 | .sub _,_,_=>none
def yaf(H:Heap):(cs:List Cs)→List Av→Nat→Option (List Prop × CsT cs × Nat)
 | [],as,n=>match as with|[]=>some ([],(),n)|_=>none
 | [c],as,n=>match as with|[a]=>yn8 H c a n|_=>none
 | c::d::cs,as,n=>match as with
  | a::as=>(match yn8 H c a n with|some (p,x,n)=>(match yaf H (d::cs) as n with|some (q,y,n)=>some (p++q,(x,y),n)|none=>none)|none=>none)
  | []=>none
def decP(H:Heap):(p:Pm)→Av→Nat→Option (List Prop × p.T × Nat)
 | .one c,a,n=>yn8 H c a n
 | .st cs,a,n=>match a with | .agg as=>yaf H cs as n|_=>none
def zkg(H:Heap):(ps:List Pm)→List Av→Nat→Option (List Prop × PmT ps × Nat)
 | [],as,n=>match as with|[]=>some ([],(),n)|_=>none
 | [p],as,n=>match as with|[a]=>decP H p a n|_=>none
 | p::q::ps,as,n=>match as with
  | a::as=>(match decP H p a n with|some (c,x,n)=>(match zkg H (q::ps) as n with|some (d,y,n)=>some (c++d,(x,y),n)|none=>none)|none=>none)
  | []=>none
def Has(H:Heap)(n:Nat)(bs:Heap):Prop:=∀i b,bs[i]? = some b→H[n+i]? = some b
theorem Has.append{H:Heap}{n:Nat}{bs cs:Heap}(h:Has H n bs)(g:Has H (n+bs.length) cs):Has H n (bs++cs):=by
 intro i b hi
 rcases Nat.lt_or_ge i bs.length with q|q
 · rw[List.getElem?_append_left q] at hi;exact h i b hi
 · rw[List.getElem?_append_right q] at hi
   have:=g (i-bs.length) b hi
   rwa [show n+bs.length+(i-bs.length)=n+i by omega] at this
theorem Has.nil{H:Heap}{n:Nat}:Has H n []:=fun i b h=>by simp at h
theorem zvp{H:Heap}:∀{c:Cs}{a:Av}{n m:Nat}{ps:List Prop}{x:c.T},yn8 H c a n=some (ps,x,m)→(∀p ∈ ps,p)→a=(zc7 true c x n).1∧m=n+(zc7 true c x n).2.length∧Has H n (zc7 true c x n).2
 | .i k,a,n,m,ps,x,h,_=>by
  simp only[yn8] at h
  split at h
  · split at h
    · rename_i e
      simp only[Option.some.injEq,Prod.mk.injEq] at h
      obtain⟨rfl,rfl,rfl⟩:=h
      subst e
      exact⟨rfl,rfl,.nil⟩
    · cases h
  · cases h
 | .b,a,n,m,ps,x,h,_=>by
  simp only[yn8] at h
  split at h
  · simp only[Option.some.injEq,Prod.mk.injEq] at h
    obtain⟨rfl,rfl,rfl⟩:=h
    exact⟨rfl,rfl,.nil⟩
  · cases h
 | .sl sh,a,n,m,ps,x,h,hp=>by
  simp only[yn8] at h
  split at h
  · split at h
    · rename_i he
      obtain⟨rfl,rfl,rfl⟩:=he
      split at h
      · rename_i sh' xs hb
        split at h
        · rename_i hsh
          subst hsh
          simp only[Option.some.injEq,Prod.mk.injEq] at h
          obtain⟨rfl,rfl,rfl⟩:=h
          have:=hp _ List.mem_cons_self
          subst this
          refine⟨rfl,rfl,fun i b hi => ?_⟩
          cases i with
          | zero=>simp only[zc7,List.getElem?_cons_zero,Option.some.injEq] at hi;subst hi;exact hb
          | succ i=>simp[zc7] at hi
        · cases h
      · cases h
    · cases h
  · cases h
 | .sub _,_,_,_,_,_,h,_=>by simp[yn8] at h
theorem zyu{H:Heap}:∀{cs:List Cs}{as:List Av}{n m:Nat}{ps:List Prop}{x:CsT cs},yaf H cs as n=some (ps,x,m)→(∀p ∈ ps,p)→as=(zci true cs x n).1∧m=n+(zci true cs x n).2.length∧Has H n (zci true cs x n).2
 | [],as,n,m,ps,x,h,_=>by
  simp only[yaf] at h
  split at h
  · simp only[Option.some.injEq,Prod.mk.injEq] at h
    obtain⟨rfl,_,rfl⟩:=h
    exact⟨rfl,rfl,.nil⟩
  · cases h
 | [c],as,n,m,ps,x,h,hp=>by
  simp only[yaf] at h
  split at h
  · obtain⟨h1,h2,h3⟩:=zvp h hp
    exact⟨by rw[h1];rfl,h2,h3⟩
  · cases h
 | c::d::cs,as,n,m,ps,x,h,hp=>by
  simp only[yaf] at h
  split at h
  · split at h
    · rename_i p x1 n1 e1
      split at h
      · rename_i q y n2 e2
        simp only[Option.some.injEq,Prod.mk.injEq] at h
        obtain⟨rfl,rfl,rfl⟩:=h
        obtain⟨h1,rfl,h3⟩:=zvp e1 (fun z hz=>hp z (by simp[hz]))
        obtain⟨g1,rfl,g3⟩:=zyu e2 (fun z hz=>hp z (by simp[hz]))
        exact⟨by rw[h1,g1];rfl,by simp[zci,Nat.add_assoc],h3.append g3⟩
      · cases h
    · cases h
  · cases h
theorem yd7{H:Heap}:∀{p:Pm}{a:Av}{n m:Nat}{ps:List Prop}{x:p.T},decP H p a n=some (ps,x,m)→(∀p ∈ ps,p)→a=(zg2 true p x n).1∧m=n+(zg2 true p x n).2.length∧Has H n (zg2 true p x n).2
 | .one c,a,n,m,ps,x,h,hp=>zvp (c:=c) h hp
 | .st cs,a,n,m,ps,x,h,hp=>by
  simp only[decP] at h
  split at h
  · obtain⟨h1,h2,h3⟩:=zyu h hp
    exact⟨by rw[h1];rfl,h2,h3⟩
  · cases h
theorem zhl{H:Heap}:∀{cs:List Pm}{as:List Av}{n m:Nat}{ps:List Prop}{x:PmT cs},zkg H cs as n=some (ps,x,m)→(∀p ∈ ps,p)→as=(zap true cs x n).1∧m=n+(zap true cs x n).2.length∧Has H n (zap true cs x n).2
 | [],as,n,m,ps,x,h,_=>by
  simp only[zkg] at h
  split at h
  · simp only[Option.some.injEq,Prod.mk.injEq] at h
    obtain⟨rfl,_,rfl⟩:=h
    exact⟨rfl,rfl,.nil⟩
  · cases h
 | [c],as,n,m,ps,x,h,hp=>by
  simp only[zkg] at h
  split at h
  · obtain⟨h1,h2,h3⟩:=yd7 h hp
    exact⟨by rw[h1];rfl,h2,h3⟩
  · cases h
 | c::d::cs,as,n,m,ps,x,h,hp=>by
  simp only[zkg] at h
  split at h
  · split at h
    · rename_i p x1 n1 e1
      split at h
      · rename_i q y n2 e2
        simp only[Option.some.injEq,Prod.mk.injEq] at h
        obtain⟨rfl,rfl,rfl⟩:=h
        obtain⟨h1,rfl,h3⟩:=yd7 e1 (fun z hz=>hp z (by simp[hz]))
        obtain⟨g1,rfl,g3⟩:=zhl e2 (fun z hz=>hp z (by simp[hz]))
        exact⟨by rw[h1,g1];rfl,by simp[zap,Nat.add_assoc],h3.append g3⟩
      · cases h
    · cases h
  · cases h
def vcMut(P:Program)(D:Dict)(Ξ:Specs)(fn:Func)(As R:List Pm)(x:PmT As)(y:PmT As × PmT R):Prop :=
 vcC P D Ξ (zap true As x 0).2.length (zat fn) (yo3 P fn (zap true As x 0).2.length (zfb true R y.2 (zap true As x 0).2.length).1 ((zap true As y.1 0).2++(zfb true R y.2 (zap true As x 0).2.length).2)) (zei fn (zap true As x 0).1) (zap true As x 0).2
def znh(P:Program)(D:Dict)(Ξ:Specs)(fn:Func)(args:List Av)(H:Heap)(v:Av)(H':Heap):Prop:=vcC P D Ξ H.length (zat fn) (yo3 P fn H.length v H') (zei fn args) H
theorem zgb{P:Program}(hm:P.follows .mixedOrders=true){f:FuncId}{fn:Func}(hf:P.funcs[f]? = some fn)(hb:fn.body=some (zat fn)){b:Code}{k:Nat}(hl:zak (zat fn)=[b])(hk:zbh b=some k)(hl0:zak b=[]){S:Sum}{D:Dict}(hD:DictOk P D)
 (h:∀args H p v H',S args H=some (p,v,H')→Hold p→∃(Ξ:Specs)(L:LoopS)(μ:L.α→Nat),Ξ.loop k=some L∧(∀y,L.I y→zax P D Ξ H.length b L μ y)∧znh P D Ξ fn args H v H'):Sound P f S:=by
 refine zp9 hm hf hb (fun args H p v H' hs hp => ?_)
 obtain⟨Ξ,L,μ,h1,h2,h3⟩:=h args H p v H' hs hp
 refine⟨D,Ξ,hD,fun c hc k' M hk' hM => ?_,h3⟩
 rw[hl] at hc
 have e:=List.mem_singleton.1 hc
 subst e
 rw[hk] at hk'
 cases hk'
 rw[h1] at hM
 cases hM
 refine zeq (Ξ:=Ξ) hm hD (fun b hb=>by rw[hl0] at hb;cases hb) μ (fun y hy => ?_)
 have:=h2 y hy
 unfold zax at this
 exact this
theorem zde{P:Program}(hm:P.follows .mixedOrders=true){f:FuncId}{fn:Func}(hf:P.funcs[f]? = some fn)(hb:fn.body=some (zat fn))(hl:zak (zat fn)=[]){S:Sum}{D:Dict}(hD:DictOk P D)
 (h:∀args H p v H',S args H=some (p,v,H')→Hold p→∃Ξ:Specs,znh P D Ξ fn args H v H'):Sound P f S:=by
 refine zp9 hm hf hb (fun args H p v H' hs hp => ?_)
 obtain⟨Ξ,h3⟩:=h args H p v H' hs hp
 exact⟨D,Ξ,hD,by rw[hl];exact (fun b hb=>by cases hb),h3⟩
attribute [irreducible] vcMut znh
theorem zar{n:Int}(h₀:0≤n)(h₁:n<18446744073709551616):IntKind.u64.wrap n=n:=by rw[IntKind.wrap_u64];omega
theorem zaa{n:Int}(h₀ : -9223372036854775808≤n)(h₁:n<9223372036854775808):IntKind.i64.wrap n=n:=IntWalk.i64_in n ⟨h₀,by omega⟩
theorem wraps64(n:Int)(h₀:0≤n)(h₁:n<2 ^ 64):IntKind.u64.wrap n=n:=zar h₀ (by omega)
theorem zyn{x:Int}(i:Nat)(hi:i≤64)(h₀:0≤x)(h₁:x<18446744073709551616):bits .and .u64 x (2 ^ i-1)=x % 2 ^ i :=
 bits_mask .u64 64 (by decide) wraps64 i hi x h₀ (by omega)
theorem zfq{x:Int}(i:Nat)(c d:Int)(hi:i≤64)(hc:c=2 ^ i-1)(hd:d=2 ^ i)(h₀:0≤x)(h₁:x<18446744073709551616):bits .and .u64 x c=x % d:=by
 rw[hc,hd]
 exact zyn i hi h₀ h₁
theorem yf6(x i:Nat)(_hi:i≤64)(hx:x<2 ^ 64) :
 (BitVec.ofNat 64 x &&& ~~~ (BitVec.ofNat 64 (2 ^ i-1))).toNat=x-x % 2 ^ i:=by
 have e:x-x % 2 ^ i=(x >>> i) <<< i:=by
  rw[Nat.shiftLeft_eq,Nat.shiftRight_eq_div_pow]
  have:=Nat.div_add_mod x (2 ^ i)
  rw[Nat.mul_comm] at this
  omega
 rw[e]
 have hlt:(x >>> i) <<< i<2 ^ 64:=by rw[← e];omega
 have:BitVec.ofNat 64 x &&& ~~~ (BitVec.ofNat 64 (2 ^ i-1))=BitVec.ofNat 64 ((x >>> i) <<< i):=by
  apply BitVec.eq_of_getLsbD_eq
  intro j hj
  simp only[BitVec.getLsbD_and,BitVec.getLsbD_not,BitVec.getLsbD_ofNat,hj,decide_true,Bool.true_and,Nat.testBit_two_pow_sub_one,Nat.testBit_shiftLeft,Nat.testBit_shiftRight]
  by_cases h:j<i
  · simp[h,Nat.not_le.2 h]
  · have h':i≤j:=Nat.le_of_not_lt h
    simp[h,h',Nat.add_sub_cancel' h']
 rw[this,BitVec.toNat_ofNat]
 exact Nat.mod_eq_of_lt hlt
theorem zvi{x:Int}(i:Nat)(hi:i≤64)(h₀:0≤x)(h₁:x<18446744073709551616):bits .andNot .u64 x (2 ^ i-1)=x-x % 2 ^ i:=by
 obtain⟨a,rfl⟩:=Int.eq_ofNat_of_zero_le h₀
 have ha:a<2 ^ 64:=by omega
 have hpos:0<2 ^ i:=Nat.two_pow_pos i
 have hc:((2:Int) ^ i-1)=((2 ^ i-1:Nat):Int):=by rw[Int.natCast_sub hpos];simp
 rw[hc]
 show IntKind.u64.wrap ((BitVec.ofInt 64 (a:Int) &&& ~~~ (BitVec.ofInt 64 ((2 ^ i-1:Nat):Int))).toNat:Int)=_
 rw[BitVec.ofInt_natCast,BitVec.ofInt_natCast,yf6 a i hi ha]
 have hm:a % 2 ^ i≤a:=Nat.mod_le _ _
 rw[zar (Int.natCast_nonneg _) (by omega),Int.natCast_sub hm]
 simp
theorem ygc{x y:Int}(i:Nat)(hx₀:0≤x)(hx:x % 2 ^ i=0)(hx₁:x<18446744073709551616)(hy₀:0≤y)(hy:y<2 ^ i)(hy₁:y<18446744073709551616) :
 bits .or .u64 x y=x+y :=
 bits_join .u64 64 (by decide) wraps64 i x y hx₀ hx (by omega) hy₀ hy (by omega)
theorem pow_pos(n:Nat):(0:Int)<2 ^ n:=Int.pow_pos (by decide)
theorem ygj{m n:Nat}(h:m≤n):(2:Int) ^ m≤2 ^ n:=by
 have:=Nat.pow_le_pow_right (n:=2) (by decide) h
 exact_mod_cast this
theorem yd8{x:Int}(n:Nat)(h0:0≤x):0≤x/2 ^ n∧x/2 ^ n≤x:=⟨Int.ediv_nonneg h0 (Int.le_of_lt (pow_pos n)),Int.ediv_le_self _ h0⟩
theorem zsl(x:Int)(n:Nat):0≤x % 2 ^ n∧x % 2 ^ n<2 ^ n:=⟨Int.emod_nonneg _ (Int.ne_of_gt (pow_pos n)),Int.emod_lt_of_pos _ (pow_pos n)⟩
theorem zeo{x y:Int}(h:0≤x):x.tdiv y=x/y:=Int.tdiv_eq_ediv_of_nonneg h
theorem zcq{x y:Int}(h:0≤x):x.tmod y=x % y:=Int.tmod_eq_emod_of_nonneg h
open Go Go.RowKit
def WfTy:(t:Ty)→t.T→Prop
 | .b,_=>True
 | .i k,n=>(Lit.int k n).wf=true
 | .sv,_=>False
def yn1:(sh:List Ty)→El sh→Prop
 | [],_=>True
 | [t],x=>WfTy t x
 | t::u::ts,x=>WfTy t x.1∧yn1 (u::ts) x.2
def WfC:(c:Cs)→c.T→Prop
 | .i k,n=>(Lit.int k n).wf=true
 | .b,_=>True
 | .sl sh,xs=>xs.length≤maxLen∧∀y ∈ xs,yn1 sh y
 | .sub sh,xs=>xs.length≤maxLen∧∀y ∈ xs,yn1 sh y
def WfCs:(cs:List Cs)→CsT cs→Prop
 | [],_=>True
 | [c],x=>WfC c x
 | c::d::cs,x=>WfC c x.1∧WfCs (d::cs) x.2
def WfP:(p:Pm)→p.T→Prop
 | .one c,x=>WfC c x
 | .st cs,x=>WfCs cs x
def yud:(ps:List Pm)→PmT ps→Prop
 | [],_=>True
 | [p],x=>WfP p x
 | p::q::ps,x=>WfP p x.1∧yud (q::ps) x.2
def El.cons{t:Ty}:{ts:List Ty}→t.T→El ts→El (t::ts)
 | [],x,_=>x
 | _::_,x,y=>(x,y)
theorem El.cons_vals{t:Ty}:∀{ts:List Ty}(x:t.T)(y:El ts),El.vals (t::ts) (El.cons x y)=t.val x::El.vals ts y
 | [],_,_=>rfl
 | _::_,_,_=>rfl
theorem El.cons_wf{t:Ty}:∀{ts:List Ty}{x:t.T}{y:El ts},WfTy t x→yn1 ts y→yn1 (t::ts) (El.cons x y)
 | [],_,_,h,_=>h
 | _::_,_,_,h,g=>⟨h,g⟩
def yrm(P:Program)(t:TypeId):Option Ty:=match P.underlying t with|some .bool=>some .b|some (.int k)=>some (.i k)|_=>none
def zsv(P:Program):List Field→Nat→Option (List Ty)
 | [],_=>some []
 | f::fs,i=>if f.offset=i∧P.cellsOf f.type=1 then (match yrm P f.type,zsv P fs (i+1) with|some t,some ts=>some (t::ts)|_,_=>none) else none
def yuy(P:Program)(e:TypeId):Option (List Ty):=match P.underlying e with
 | some (.struct fs)=>match zsv P fs.toList 0 with|some ts=>if P.cellsOf e=ts.length then some ts else none|none=>none
 | some .bool=>some [.b]
 | some (.int k)=>some [.i k]
 | _=>none
def flds(F:TypeId→Option (List Cs))(P:Program):List Field→Nat→Option (List Cs)
 | [],_=>some []
 | f::fs,i=>match F f.type with
  | some cs=>if f.offset=i∧P.cellsOf f.type=cs.length then (match flds F P fs (i+cs.length) with|some ds=>some (cs++ds)|none=>none) else none
  | none=>none
def yur(P:Program):Nat→TypeId→Option (List Cs)
 | 0,_=>none
 | n+1,t=>match P.underlying t with
  | some .bool=>some [.b]
  | some (.int k)=>some [.i k]
  | some (.slice e)=>match yuy P e with|some sh=>if P.cellsOf e=sh.length∧0<sh.length then some [.sl sh] else none|none=>none
  | some (.struct fs)=>match flds (yur P n) P fs.toList 0 with|some cs=>if P.cellsOf t=cs.length then some cs else none|none=>none
  | _=>none
def pmOf(P:Program)(t:TypeId):Option Pm:=match P.underlying t with
 | some (.struct _)=>(yur P 6 t).map .st
 | some .bool=>some (.one .b)
 | some (.int k)=>some (.one (.i k))
 | some (.slice e)=>match yuy P e with|some sh=>if P.cellsOf e=sh.length∧0<sh.length then some (.one (.sl sh)) else none|none=>none
 | _=>none
def ygi(P:Program):List TypeId→Option (List Pm)
 | []=>some []
 | t::ts=>match pmOf P t,ygi P ts with|some p,some ps=>some (p::ps)|_,_=>none
section
variable {H:Type} {enc:TypeId × Value→H} {P:Program} {W:World}
abbrev Tr(enc:TypeId × Value→H)(P:Program)(W:World)(fuel:Nat)(t:TypeId)(cs:List Value):=DataW.trod enc P W 0 (fun _=>true) true fuel t cs
theorem ysh{t:TypeId}{s:Ty}(ht:yrm P t=some s){fuel:Nat}{cs:List Value}{x:DataW H × List MemPlace}(h:Tr enc P W fuel t cs=some x):∃y:s.T,cs=[s.val y]∧WfTy s y:=by
 unfold yrm at ht
 split at ht
 · rename_i e
   cases ht
   obtain⟨b,rfl,_⟩:=DataW.trod_bool e h
   exact⟨b,rfl,trivial⟩
 · rename_i k e
   cases ht
   obtain⟨n,rfl,_,hw⟩:=DataW.trod_int e h
   exact⟨n,rfl,hw⟩
 · cases ht
theorem zzt{n:Nat}{cs:List Value}:∀{fs:List Field}{i:Nat}{ts:List Ty},zsv P fs i=some ts→(∀f ∈ fs,∃x,Tr enc P W n f.type ((cs.drop f.offset).take (P.cellsOf f.type))=some x)→cs.length=i+ts.length→∃y:El ts,cs.drop i=El.vals ts y∧yn1 ts y
 | [],i,ts,h,_,hl=>by
  simp only[zsv,Option.some.injEq] at h
  subst h
  refine⟨(), ?_,trivial⟩
  simp at hl
  simp[El.vals,hl]
 | f::fs,i,ts,h,hf,hl=>by
  simp only[zsv] at h
  split at h
  case isFalse=>cases h
  rename_i ho
  split at h
  case h_2=>cases h
  rename_i t ts' h1 h2
  simp only[Option.some.injEq] at h
  subst h
  obtain⟨x,hx⟩:=hf f List.mem_cons_self
  rw[ho.1,ho.2] at hx
  obtain⟨y,e,hy⟩:=ysh h1 hx
  obtain⟨z,e2,hz⟩:=zzt h2 (fun g hg=>hf g (List.mem_cons_of_mem _ hg)) (by simp at hl;omega)
  refine⟨El.cons y z, ?_,El.cons_wf hy hz⟩
  have hi:i<cs.length:=by rw[hl];simp
  rw[El.cons_vals, ← e2]
  have e3:=List.drop_eq_getElem_cons hi
  rw[e3] at e
  simp only[List.take_succ_cons,List.take_zero,List.cons.injEq,and_true] at e
  rw[e3,e]
theorem zlt{fs:Array Field}{xs:List (DataW H × List MemPlace)}{n:Nat}{cs:List Value}(hl:xs.length=fs.size)
 (h:∀(i:Nat)(f:Field),fs[i]? = some f→Tr enc P W n f.type ((cs.drop f.offset).take (P.cellsOf f.type))=xs[i]?):∀f ∈ fs.toList,∃x,Tr enc P W n f.type ((cs.drop f.offset).take (P.cellsOf f.type))=some x:=by
 intro f hf
 obtain⟨i,hi⟩:=List.getElem?_of_mem hf
 have hi':fs[i]? = some f:=by simpa using hi
 have hlt:i<xs.length:=by
  rw[hl]
  exact (Array.getElem?_eq_some_iff.1 hi').1
 exact⟨xs[i],by rw[h i f hi',List.getElem?_eq_getElem hlt]⟩
theorem yqf{e:TypeId}{sh:List Ty}(he:yuy P e=some sh){fuel:Nat}{cs:List Value}{x:DataW H × List MemPlace}(h:Tr enc P W fuel e cs=some x):∃y:El sh,cs=El.vals sh y∧yn1 sh y:=by
 unfold yuy at he
 split at he
 · rename_i fs hu
   split at he
   case h_2=>cases he
   rename_i ts hts
   split at he
   case isFalse=>cases he
   rename_i hc
   cases he
   obtain⟨xs,n,rfl,rfl,h1,h2,h3⟩:=DataW.trod_struct hu h
   obtain⟨y,e1,hy⟩:=zzt hts (zlt h2 h3) (by rw[h1,hc,Nat.zero_add])
   exact⟨y,by simpa using e1,hy⟩
 · rename_i hu
   cases he
   obtain⟨b,rfl,_⟩:=DataW.trod_bool hu h
   exact⟨b,rfl,trivial⟩
 · rename_i k hu
   cases he
   obtain⟨n,rfl,_,hw⟩:=DataW.trod_int hu h
   exact⟨n,rfl,hw⟩
 · cases he
theorem zls{α:Type}{p:Nat→α→Prop}:∀(n:Nat),(∀i,i<n→∃y,p i y)→∃xs:List α,xs.length=n∧∀i y,xs[i]? = some y→p i y
 | 0,_=>⟨[],rfl,fun i y h=>by simp at h⟩
 | n+1,h=>by
  obtain⟨xs,h1,h2⟩:=zls n (fun i hi=>h i (by omega))
  obtain⟨y,hy⟩:=h n (by omega)
  refine⟨xs++[y],by simp[h1],fun i z hz => ?_⟩
  rcases Nat.lt_or_ge i n with q|q
  · rw[List.getElem?_append_left (by omega)] at hz;exact h2 i z hz
  · rw[List.getElem?_append_right (by omega),h1] at hz
    cases hi:i-n with
    | zero =>
     rw[hi] at hz
     simp at hz
     subst hz
     have:i=n:=by omega
     subst this
     exact hy
    | succ k=>rw[hi] at hz;simp at hz
def zz1(W:World)(c:Cs)(v:Value):Prop:=∃x:c.T,WfC c x∧∀n,∃locs:List (Option Loc),locs.length=(zc7 false c x n).2.length∧∀σ,At σ n locs→Rv σ (zc7 false c x n).1 v∧zfw σ W n (zc7 false c x n).2
def zlb(W:World)(cs:List Cs)(vs:List Value):Prop:=∃x:CsT cs,WfCs cs x∧∀n,∃locs:List (Option Loc),locs.length=(zci false cs x n).2.length∧∀σ,At σ n locs→RvL σ (zci false cs x n).1 vs∧zfw σ W n (zci false cs x n).2
theorem zlb.nil:zlb W [] []:=⟨(),trivial,fun _=>⟨[],rfl,fun σ _=>⟨trivial,fun i b h=>by simp[zci] at h⟩⟩⟩
theorem zlb.cons{c:Cs}{v:Value}(h:zz1 W c v):∀{cs:List Cs}{vs:List Value},zlb W cs vs→zlb W (c::cs) (v::vs)
 | [],vs,g=>by
  obtain⟨x,h1,h2⟩:=h
  obtain⟨_,_,g2⟩:=g
  obtain⟨locs,_,g3⟩:=g2 0
  refine⟨x,h1,fun n => ?_⟩
  obtain⟨l,h3,h4⟩:=h2 n
  refine⟨l,h3,fun σ hσ => ?_⟩
  obtain⟨h5,h6⟩:=h4 σ hσ
  have hv:vs=[]:=by
   have:At (fun i=>(locs[i]?).getD none) 0 locs:=fun i o hi=>by simp[hi]
   have:=(g3 _ this).1
   cases vs with
   | nil=>rfl
   | cons _ _=>simp[zci,RvL] at this
  subst hv
  exact⟨⟨h5,trivial⟩,h6⟩
 | d::cs,vs,g=>by
  obtain⟨x,h1,h2⟩:=h
  obtain⟨y,g1,g2⟩:=g
  refine⟨(x,y),⟨h1,g1⟩,fun n => ?_⟩
  obtain⟨l,h3,h4⟩:=h2 n
  obtain⟨m,g3,g4⟩:=g2 (n+(zc7 false c x n).2.length)
  refine⟨l++m,by simp[zci,h3,g3],fun σ hσ => ?_⟩
  obtain⟨h5,h6⟩:=h4 σ hσ.left
  obtain⟨g5,g6⟩:=g4 σ (by have:=hσ.right;rwa [h3] at this)
  exact⟨⟨h5,g5⟩,h6.append g6⟩
def zh1(W:World):List Cs→List Value→Prop
 | [],[]=>True
 | c::cs,v::vs=>zz1 W c v∧zh1 W cs vs
 | _,_=>False
theorem zh1.append:∀{as:List Cs}{vs:List Value}{bs:List Cs}{ws:List Value},zh1 W as vs→zh1 W bs ws→zh1 W (as++bs) (vs++ws)
 | [],[],_,_,_,g=>g
 | [],_::_,_,_,h,_=>h.elim
 | _::_,[],_,_,h,_=>h.elim
 | _::_,_::_,_,_,h,g=>⟨h.1,zh1.append h.2 g⟩
theorem zh1.opens:∀{as:List Cs}{vs:List Value},zh1 W as vs→zlb W as vs
 | [],[],_ => .nil
 | [],_::_,h=>h.elim
 | _::_,[],h=>h.elim
 | _::_,_::_,h=>zlb.cons h.1 (zh1.opens h.2)
theorem zh1.length:∀{as:List Cs}{vs:List Value},zh1 W as vs→vs.length=as.length
 | [],[],_=>rfl
 | [],_::_,h=>h.elim
 | _::_,[],h=>h.elim
 | _::_,_::_,h=>by simp[zh1.length h.2]
theorem yov(b:Bool):zz1 W .b (.bool b):=⟨b,trivial,fun n=>⟨[],rfl,fun σ _=>⟨rfl,fun i c h=>by simp[zc7] at h⟩⟩⟩
theorem yow{k:IntKind}{m:Int}(h:(Lit.int k m).wf=true):zz1 W (.i k) (.int k m):=⟨m,h,fun n=>⟨[],rfl,fun σ _=>⟨rfl,fun i c h=>by simp[zc7] at h⟩⟩⟩
theorem yn3{a:Addr}(h:a.spot=none)(n:Nat):a.add n=⟨a.block,a.off+n,none⟩:=by
 unfold Addr.add
 split
 · rename_i e
   subst e
   cases a
   simp only at h
   subst h
   rfl
 · rfl
theorem yd3{w:World}{a:Addr}{v:Value}(h:w.cell? a=some v):a.spot=none∧a.block<w.heap.size:=by
 unfold World.cell? at h
 split at h
 · rename_i c t f hb
   split at h
   · cases h
   · rename_i hs
     refine⟨by cases e:a.spot with|none=>rfl|some x=>rw[e] at hs;exact absurd rfl hs, ?_⟩
     rcases Nat.lt_or_ge a.block w.heap.size with q|q
     · exact q
     · simp[Array.getElem?_eq_none q] at hb
 · cases h
theorem ygb{t e:TypeId}{sh:List Ty}(hu:P.underlying t=some (.slice e))(he:yuy P e=some sh)(hc:P.cellsOf e=sh.length)(hpos:0<sh.length){fuel:Nat}{cs:List Value}{x:DataW H × List MemPlace}(h:Tr enc P W fuel t cs=some x) :
 ∃v,cs=[v]∧zz1 W (.sl sh) v:=by
 have none_case:∀p:Option Addr,zz1 W (.sl sh) (.slice p 0 0):=by
  intro p
  refine⟨[],⟨Nat.zero_le _,fun y hy=>by cases hy⟩,fun n=>⟨[none],rfl,fun σ hσ => ?_⟩⟩
  have h0:σ n=none:=by simpa using hσ 0 none rfl
  refine⟨?_,fun i b hi => ?_⟩
  · simp only[zc7,Rv]
    exact .inl ⟨h0,by simp,by simp,p,by simp⟩
  · cases i with
    | succ i=>simp[zc7] at hi
    | zero =>
     simp only[zc7,List.getElem?_cons_zero,Option.some.injEq] at hi
     subst hi
     exact⟨rfl,.inl ⟨by simpa using h0,rfl⟩,fun L hL=>by rw[Nat.add_zero,h0] at hL;cases hL⟩
 rcases DataW.trod_slice hu h with ⟨rfl,_⟩|⟨a,len,cap,elems,rest,n,_,rfl,rfl,_,hl,hm,hlen,hel,hsp,_⟩
 · exact⟨_,rfl,none_case none⟩
 refine⟨_,rfl, ?_⟩
 obtain⟨hrl,hr⟩:=hsp rfl
 rcases Nat.eq_zero_or_pos cap with hz|hz
 · have:len=0:=by omega
   subst this
   subst hz
   exact none_case (some a)
 have each:∀i,i<cap→∃cs',W.cells? 0 (a.add (i*sh.length)) sh.length=some cs'∧∃y,Tr enc P W n e cs'=some y:=by
  intro i hi
  have:∃y,(W.cells? 0 (a.add (i*P.cellsOf e)) (P.cellsOf e)).bind (DataW.trod enc P W 0 (fun _=>true) true n e)=some y:=by
   rcases Nat.lt_or_ge i len with q|q
   · exact⟨elems[i],by rw[hel i q,List.getElem?_eq_getElem (by omega)]⟩
   · have:=hr (i-len) (by omega)
     rw[show len+(i-len)=i by omega] at this
     exact⟨rest[i-len],by rw[this,List.getElem?_eq_getElem (by omega)]⟩
  obtain⟨y,hy⟩:=this
  rw[hc,Option.bind_eq_some_iff] at hy
  obtain⟨cs',h1,h2⟩:=hy
  exact⟨cs',h1,y,h2⟩
 obtain⟨cs0,g1,_⟩:=each 0 hz
 obtain⟨_,g2,g3⟩:=World.cells?_some g1
 have hcell:=g3 0 hpos
 rw[List.getElem?_eq_getElem (by omega)] at hcell
 rw[Nat.zero_mul] at hcell
 have hadd:(a.add 0).add 0=a:=by simp[Addr.add]
 rw[hadd] at hcell
 obtain⟨hspot,hblk⟩:=yd3 hcell
 have cells:∀i,i<cap→∃y:El sh,yn1 sh y∧∀j v,(El.vals sh y)[j]? = some v→W.cell? ⟨a.block,a.off+i*sh.length+j,none⟩=some v:=by
  intro i hi
  obtain⟨cs',h1,y,h2⟩:=each i hi
  obtain⟨z,rfl,hz⟩:=yqf he h2
  obtain⟨_,k2,k3⟩:=World.cells?_some h1
  refine⟨z,hz,fun j v hj => ?_⟩
  have hlt:j<sh.length:=by
   rw[← k2]
   rcases Nat.lt_or_ge j (El.vals sh z).length with q|q
   · exact q
   · simp[List.getElem?_eq_none q] at hj
  have:=k3 j hlt
  rw[hj,yn3 hspot,yn3 rfl] at this
  exact this
 obtain⟨xs,hx1,hx2⟩:=zls len (fun i hi=>cells i (by omega))
 refine⟨xs,⟨by omega,fun y hy => ?_⟩,fun m=>⟨[some ⟨a.block,a.off,cap,{}⟩],rfl,fun σ hσ => ?_⟩⟩
 · obtain⟨i,hi⟩:=List.getElem?_of_mem hy
   exact (hx2 i y hi).1
 · have h0:σ m=some ⟨a.block,a.off,cap,{}⟩:=by simpa using hσ 0 _ rfl
   refine⟨?_,fun i b hi => ?_⟩
   · simp only[zc7,Rv]
     refine .inr ⟨_,0,h0,by simp only;omega,.inl rfl, ?_⟩
     rw[hx1]
     cases a
     simp only at hspot
     subst hspot
     simp
   · cases i with
     | succ i=>simp[zc7] at hi
     | zero =>
      simp only[zc7,List.getElem?_cons_zero,Option.some.injEq] at hi
      subst hi
      refine⟨rfl,.inr ⟨_,by simpa using h0,by simp only;omega,fun i x hx j v hj=>(hx2 i x hx).2 j v hj,fun e=>by cases e⟩,fun M hM => ?_⟩
      rw[Nat.add_zero,h0] at hM
      cases hM
      exact hblk
theorem zr2{F:TypeId→Option (List Cs)}{n:Nat}{vals:List Value}(hF:∀{t:TypeId} {cs:List Cs} {vs:List Value} {x:DataW H × List MemPlace},F t=some cs→Tr enc P W n t vs=some x→zh1 W cs vs) :
 ∀{fs:List Field}{i:Nat}{cs:List Cs},flds F P fs i=some cs→(∀f ∈ fs,∃x,Tr enc P W n f.type ((vals.drop f.offset).take (P.cellsOf f.type))=some x)→vals.length=i+cs.length→zh1 W cs (vals.drop i)
 | [],i,cs,h,_,hl=>by
  simp only[flds,Option.some.injEq] at h
  subst h
  have:vals.drop i=[]:=by rw[List.drop_eq_nil_iff];rw[hl];simp
  rw[this]
  trivial
 | f::fs,i,cs,h,hf,hl=>by
  simp only[flds] at h
  split at h
  case h_2=>cases h
  rename_i c1 h1
  split at h
  case isFalse=>cases h
  rename_i ho
  split at h
  case h_2=>cases h
  rename_i c2 h2
  simp only[Option.some.injEq] at h
  subst h
  obtain⟨x,hx⟩:=hf f List.mem_cons_self
  rw[ho.1,ho.2] at hx
  have k1:=hF h1 hx
  have k2:=zr2 hF h2 (fun g hg=>hf g (List.mem_cons_of_mem _ hg)) (by simp at hl;omega)
  have:=k1.append k2
  rwa [show (vals.drop i).take c1.length++vals.drop (i+c1.length)=vals.drop i by rw[← List.drop_drop,List.take_append_drop]] at this
theorem zrn:∀{k:Nat}{t:TypeId}{cs:List Cs},yur P k t=some cs→∀{fuel:Nat}{vals:List Value}{x:DataW H × List MemPlace},Tr enc P W fuel t vals=some x→zh1 W cs vals
 | 0,_,_,h,_,_,_,_=>by simp[yur] at h
 | k+1,t,cs,h,fuel,vals,x,hx=>by
  simp only[yur] at h
  split at h
  · rename_i hu
    cases h
    obtain⟨b,rfl,_⟩:=DataW.trod_bool hu hx
    exact⟨yov b,trivial⟩
  · rename_i kk hu
    cases h
    obtain⟨m,rfl,_,hw⟩:=DataW.trod_int hu hx
    exact⟨yow hw,trivial⟩
  · rename_i e hu
    split at h
    case h_2=>cases h
    rename_i sh he
    split at h
    case isFalse=>cases h
    rename_i hc
    cases h
    obtain⟨v,rfl,hv⟩:=ygb hu he hc.1 hc.2 hx
    exact⟨hv,trivial⟩
  · rename_i fs hu
    split at h
    case h_2=>cases h
    rename_i c hc
    split at h
    case isFalse=>cases h
    rename_i hl
    cases h
    obtain⟨xs,n,rfl,rfl,h1,h2,h3⟩:=DataW.trod_struct hu hx
    have:=zr2 (W:=W) (fun h g=>zrn h g) hc (zlt h2 h3) (by rw[h1,hl,Nat.zero_add])
    simpa using this
  · cases h
def yt8(W:World)(p:Pm)(v:Value):Prop:=∃x:p.T,WfP p x∧∀n,∃locs:List (Option Loc),locs.length=(zg2 false p x n).2.length∧∀σ,At σ n locs→Rv σ (zg2 false p x n).1 v∧zfw σ W n (zg2 false p x n).2
def zlc(W:World)(ps:List Pm)(vs:List Value):Prop:=∃x:PmT ps,yud ps x∧∀n,∃locs:List (Option Loc),locs.length=(zap false ps x n).2.length∧∀σ,At σ n locs→RvL σ (zap false ps x n).1 vs∧zfw σ W n (zap false ps x n).2
theorem zlc.nil:zlc W [] []:=⟨(),trivial,fun _=>⟨[],rfl,fun σ _=>⟨trivial,fun i b h=>by simp[zap] at h⟩⟩⟩
theorem zlc.cons{c:Pm}{v:Value}(h:yt8 W c v):∀{cs:List Pm}{vs:List Value},zlc W cs vs→zlc W (c::cs) (v::vs)
 | [],vs,g=>by
  obtain⟨x,h1,h2⟩:=h
  obtain⟨_,_,g2⟩:=g
  obtain⟨locs,_,g3⟩:=g2 0
  refine⟨x,h1,fun n => ?_⟩
  obtain⟨l,h3,h4⟩:=h2 n
  refine⟨l,h3,fun σ hσ => ?_⟩
  obtain⟨h5,h6⟩:=h4 σ hσ
  have hv:vs=[]:=by
   have:At (fun i=>(locs[i]?).getD none) 0 locs:=fun i o hi=>by simp[hi]
   have:=(g3 _ this).1
   cases vs with
   | nil=>rfl
   | cons _ _=>simp[zap,RvL] at this
  subst hv
  exact⟨⟨h5,trivial⟩,h6⟩
 | d::cs,vs,g=>by
  obtain⟨x,h1,h2⟩:=h
  obtain⟨y,g1,g2⟩:=g
  refine⟨(x,y),⟨h1,g1⟩,fun n => ?_⟩
  obtain⟨l,h3,h4⟩:=h2 n
  obtain⟨m,g3,g4⟩:=g2 (n+(zg2 false c x n).2.length)
  refine⟨l++m,by simp[zap,h3,g3],fun σ hσ => ?_⟩
  obtain⟨h5,h6⟩:=h4 σ hσ.left
  obtain⟨g5,g6⟩:=g4 σ (by have:=hσ.right;rwa [h3] at this)
  exact⟨⟨h5,g5⟩,h6.append g6⟩
theorem ylk{t:TypeId}{p:Pm}(ht:pmOf P t=some p){b0:Nat}{v:Value}{d:DataW H}{ps:List MemPlace}(hval:Value.okWide P W .any b0 t v)(hd:DataW.Trod enc P W 0 (fun _=>true) true t v d ps):yt8 W p v:=by
 obtain⟨fuel,hf⟩:=hd
 unfold pmOf at ht
 split at ht
 · rename_i fs hu
   rw[Option.map_eq_some_iff] at ht
   obtain⟨cs,hcs,rfl⟩:=ht
   obtain⟨vals,rfl,_⟩:=WideShapes.okWide_struct hu hval
   have hf':Tr enc P W fuel t vals.toList=some (d,ps):=by simpa[Value.cells] using hf
   obtain⟨x,h1,h2⟩:=(zrn hcs hf').opens
   refine⟨x,h1,fun n => ?_⟩
   obtain⟨l,h3,h4⟩:=h2 n
   refine⟨l,h3,fun σ hσ => ?_⟩
   obtain⟨h5,h6⟩:=h4 σ hσ
   exact⟨⟨vals.toList,by simp,h5⟩,h6⟩
 · rename_i hu
   cases ht
   obtain⟨b,rfl⟩:=WideShapes.okWide_bool hu hval
   obtain⟨x,h1,h2⟩:=yov (W:=W) b
   exact⟨x,h1,h2⟩
 · rename_i k hu
   cases ht
   obtain⟨m,rfl⟩:=WideShapes.okWide_int hu hval
   have hf':Tr enc P W fuel t [.int k m]=some (d,ps):=by simpa[Value.cells] using hf
   obtain⟨m',e,_,hw⟩:=DataW.trod_int hu hf'
   cases e
   obtain⟨x,h1,h2⟩:=yow (W:=W) hw
   exact⟨x,h1,h2⟩
 · rename_i e hu
   split at ht
   case h_2=>cases ht
   rename_i sh he
   split at ht
   case isFalse=>cases ht
   rename_i hc
   cases ht
   obtain⟨a,len,cap,rfl⟩:=WideShapes.okWide_slice hu hval
   have hf':Tr enc P W fuel t [.slice a len cap]=some (d,ps):=by simpa[Value.cells] using hf
   obtain⟨v,e1,x,h1,h2⟩:=ygb hu he hc.1 hc.2 hf'
   cases e1
   exact⟨x,h1,h2⟩
 · cases ht
theorem zzb{b0:Nat}:∀{ts:List TypeId}{As:List Pm}{vs:List Value}{ds:List (DataW H)}{ps:List MemPlace},ygi P ts=some As→(∀(j:Nat) t v,ts[j]? = some t→vs[j]? = some v→Value.okWide P W .any b0 t v)→DataW.TrodAll enc P W 0 (fun _=>true) true ts vs ds ps→zlc W As vs
 | [],As,vs,ds,ps,h,_,hA=>by
  simp only[ygi,Option.some.injEq] at h
  subst h
  obtain⟨rfl,_,_⟩:=ChangeShapes.trodAll_nil hA
  exact .nil
 | t::ts,As,vs,ds,ps,h,hval,hA=>by
  simp only[ygi] at h
  split at h
  case h_2=>cases h
  rename_i p qs h1 h2
  cases h
  obtain⟨v,vs',d,ds',p',q',rfl,rfl,rfl,g1,g2⟩:=ChangeShapes.trodAll_cons hA
  exact zlc.cons (ylk h1 (hval 0 t v rfl rfl) g1) (zzb h2 (fun j t v ht hv=>hval (j+1) t v (by simpa using ht) (by simpa using hv)) g2)
theorem Below_trodAll(hl:laidOutB P=true){W':World}(hb:Below W.heap.size W W'):∀{ts:List TypeId}{vs:List Value}{ds:List (DataW H)}{ps:List MemPlace},(∀t ∈ ts,P.readableRec t=true∧t<P.types.size)→DataW.TrodAll enc P W 0 (fun _=>true) true ts vs ds ps→DataW.TrodAll enc P W' 0 (fun b=>decide (b<W.heap.size)) true ts vs ds ps
 | [],vs,ds,ps,_,hA=>by
  obtain⟨rfl,rfl,rfl⟩:=ChangeShapes.trodAll_nil hA
  exact ChangeShapes.trodAll_mk0
 | t::ts,vs,ds,ps,hr,hA=>by
  obtain⟨v,vs',d,ds',p,q,rfl,rfl,rfl,g1,g2⟩:=ChangeShapes.trodAll_cons hA
  refine⟨p,q,Below.trod hl (hr t List.mem_cons_self).1 (hr t List.mem_cons_self).2 g1 hb ?_,Below_trodAll hl hb (fun u hu=>hr u (List.mem_cons_of_mem _ hu)) g2,rfl⟩
  obtain⟨m,hm⟩:=g1
  exact DataW.trod_lt m _ _ _ hm
end
def Canon(P:Program)(f:FuncId)(As R:List Pm)(req:PmT As→Prop)(g:PmT As→PmT R):Prop :=
 ∀x,req x→∀(σ:Env)(vs:List Value)(w:World),(∀σ',Agree (zap false As x 0).2.length σ σ'→RvL σ' (zap false As x 0).1 vs∧Rel σ' (zap false As x 0).2 w) →
  Calls P f vs.toArray w (Ends .returned σ (zap false As x 0).2 w (zfb true R (g x) (zap false As x 0).2.length).1 ((zap false As x 0).2++(zfb true R (g x) (zap false As x 0).2.length).2))
theorem law_calls{H:Type}{enc:TypeId × Value→H}{P:Program}{f:FuncId}{As:List Pm}(h:Canon P f As [.one .b] (yud As) (fun _=>true)){ts:List TypeId}(ht:ygi P ts=some As){b0:Nat}{W:World}{args:Array Value}{ds:List (DataW H)}{ps:List MemPlace}
 (hval:∀(j:Nat) t v,ts[j]? = some t→args[j]? = some v→Value.okWide P W .any b0 t v) (hA:DataW.TrodAll enc P W 0 (fun _=>true) true ts args.toList ds ps):Calls P f args W fun e W'=>e = .returned (.bool true)∧Below W.heap.size W W':=by
 obtain⟨x,h1,h2⟩:=zzb ht (fun j t v ht hv=>hval j t v ht (by simpa using hv)) hA
 obtain⟨locs,hl,henc⟩:=h2 0
 generalize hH0:(zap false As x 0).2=H0 at *
 let σ:Env:=fun i=>(locs[i]?).getD none
 have hat:∀σ',Agree H0.length σ σ'→At σ' 0 locs:=by
  intro σ' hag i o hi
  have hlt:i<locs.length:=by
   rcases Nat.lt_or_ge i locs.length with q|q
   · exact q
   · simp[List.getElem?_eq_none q] at hi
  rw[Nat.zero_add,hag i (by omega)]
  simp only[σ,hi,Option.getD_some]
 have hown:∀(i:Nat)(b:Blk),H0[i]? = some b→b.own=false:=fun i b hi=>((henc σ (hat σ (Agree.refl _ _))).2 i b hi).1
 have hrel:∀σ',Agree H0.length σ σ'→Rel σ' H0 W:=by
  intro σ' hag
  have hb:=(henc σ' (hat σ' hag)).2
  refine⟨fun i b hi=>by have:=(hb i b hi).2.1;rwa [Nat.zero_add] at this,fun i j b c L M hi hj _ _ _ hoo => ?_,fun i b L hi _ hL=>(hb i b hi).2.2 L (by rw[Nat.zero_add];exact hL)⟩
  rw[hown i b hi,hown j c hj] at hoo
  rcases hoo with e|e<;>cases e
 have:=h x h1 σ args.toList W (fun σ' hag=>by rw[hH0] at hag ⊢;exact⟨(henc σ' (hat σ' hag)).1,hrel σ' hag⟩)
 rw[Array.toArray_toList] at this
 refine this.mono ?_
 rw[hH0]
 rintro e w' ⟨y,ρ1,rfl,_,k3,k4,_⟩
 have hy:=(k3 ρ1 (Agree.refl _ _)).1
 have hno:∀b,¬ owns σ H0 b:=by
  rintro b ⟨id,blk,L,g1,g2,_⟩
  rw[hown id blk g1] at g2
  cases g2
 refine⟨?_,k4.3.os,k4.3.tape,k4.3.output,k4.1,fun k hk=>k4.2 k hk (hno k)⟩
 exact congrArg _ hy
structure Out where
 pan:Bool
 v:Av
 H:Heap
 out:Prop
def ygd(n0:Nat)(av:Av)(H:Heap)(o:Out):Prop:=match o.pan with|true=>False|false=>zgs n0 [o.v] o.H [av] H∧o.out
def yoy(n0:Nat)(x:Value)(H:Heap)(o:Out):Prop:=match o.pan with|true=>zgs n0 [o.v] o.H [.v x] H∧o.out|false=>False
def outK(P:Program)(fn:Func)(n0:Nat)(l:List Out):Post:=fun ex sl H =>
 match ex with
 | .ext _=>False
 | .pan x=>ydt (l.map (yoy n0 x H))
 | _=>match yjq P fn sl H with|some av=>ydt (l.map (ygd n0 av H))|none=>False
def zwx(P:Program)(D:Dict)(Ξ:Specs)(fn:Func)(args:List Av)(H:Heap)(l:List Out):Prop:=vcC P D Ξ H.length (zat fn) (outK P fn H.length l) (zei fn args) H
def yqg(b:Bool):Value→Ending:=match b with|true=>panics|false => .returned
theorem ydy{P:Program}(hm:P.follows .mixedOrders=true){f:FuncId}{fn:Func}(hf:P.funcs[f]? = some fn)(hb:fn.body=some (zat fn)){args:List Av}{H:Heap}{l:List Out}{D:Dict}{Ξ:Specs}(hD:DictOk P D)
 (hL:∀b ∈ zak (zat fn),∀k L,zbh b=some k→Ξ.loop k=some L→zch P H.length b L) (hvc:zwx P D Ξ fn args H l) {ρ:Env} {vs:List Value} {w:World}
 (hw:∀ρ',Agree H.length ρ ρ'→RvL ρ' args vs∧Rel ρ' H w):Calls P f vs.toArray w (fun e w'=>∃o ∈ l,o.out∧Ends (yqg o.pan) ρ H w o.v o.H e w'):=by
 unfold zwx at hvc
 refine zmy hm hf hb hD hL hvc hw (fun ex sl H1 a w' hk hi => ?_)
 have main:∀av,yjq P fn sl H1=some av→ydt (l.map (ygd H.length av H1))→a.defers=[]∧∃y,(results fn a.tmps).run P w' = .ok y w'∧∃o ∈ l,o.out∧Ends (yqg o.pan) ρ H w o.v o.H (.returned y) w':=by
  intro av hav hany
  obtain⟨i1,i2,i3,ρ0,i4,i5,i6⟩:=id hi
  obtain⟨hs0,hr0⟩:=i5 ρ0 (Agree.refl _ _)
  obtain⟨y,hy1,_⟩:=zgx hav hs0 hr0
  obtain⟨p,h1,h2⟩:=zhk hany
  obtain⟨o,ho,rfl⟩:=List.mem_map.1 h1
  unfold ygd at h2
  split at h2
  · exact h2.elim
  rename_i hpan
  obtain⟨hfit,hout⟩:=h2
  refine⟨i1,y,hy1,o,ho,hout, ?_⟩
  obtain⟨ρ1,g⟩:=zlv hi hfit (y:=y) (fun ρ hs hr=>by
   obtain⟨y2,hy2,hv⟩:=zgx hav hs hr
   rw[hy1] at hy2
   cases hy2
   exact hv)
  exact⟨y,ρ1,by rw[hpan];rfl,g⟩
 cases ex with
 | ext id=>exact hk.elim
 | nrm =>
  simp only[outK] at hk
  split at hk
  · rename_i av hav;exact main av hav hk
  · exact hk.elim
 | ret =>
  simp only[outK] at hk
  split at hk
  · rename_i av hav;exact main av hav hk
  · exact hk.elim
 | pan x =>
  obtain⟨p,h1,h2⟩:=zhk hk
  obtain⟨o,ho,rfl⟩:=List.mem_map.1 h1
  unfold yoy at h2
  split at h2
  case h_2=>exact h2.elim
  rename_i hpan
  obtain⟨hfit,hout⟩:=h2
  obtain⟨ρ1,g⟩:=zlv hi hfit (y:=x) (fun ρ _ _=>rfl)
  exact⟨hi.1,o,ho,hout,x,ρ1,by rw[hpan];rfl,g⟩
theorem zgl{P:Program}(hm:P.follows .mixedOrders=true){D:Dict}(hD:DictOk P D){n0:Nat}{body:Code}{L:LoopS}(hl:zak body=[])(μ:L.α→Nat)(round:∀x,L.I x→∃Ξ,zax P D Ξ n0 body L μ x):zch P n0 body L:=by
 refine zj9 hm hD μ (fun x hx => ?_)
 obtain⟨Ξ,h⟩:=round x hx
 unfold zax at h
 exact⟨Ξ,by rw[hl];exact (fun b hb=>by cases hb),h⟩
theorem zs8{P:Program}(hm:P.follows .mixedOrders=true){f:FuncId}{fn:Func}(hf:P.funcs[f]? = some fn)(hb:fn.body=some (zat fn)){S:Sum}(pan:Bool){D:Dict}(hD:DictOk P D)
 (h:∀args H p v H',S args H=some (p,v,H')→Hold p→∃(Ξ:Specs)(l:List Out),(∀b ∈ zak (zat fn),∀k L,zbh b=some k→Ξ.loop k=some L→zch P H.length b L)∧zwx P D Ξ fn args H l∧∀o ∈ l,o.out→o.pan=pan∧o.v=v∧o.H=H'):zd7 P (yqg pan) f S:=by
 intro args H p v H' hs hp ρ vs w hw
 obtain⟨Ξ,l,hL,hvc,hl⟩:=h args H p v H' hs hp
 refine (ydy hm hf hb hD hL hvc hw).mono ?_
 rintro e w' ⟨o,ho,hout,hE⟩
 obtain⟨rfl,rfl,rfl⟩:=hl o ho hout
 exact hE
theorem zoc{P:Program}{fn:Func}(h:zak (zat fn)=[]){n:Nat}{Ξ:Specs}:∀b ∈ zak (zat fn),∀k L,zbh b=some k→Ξ.loop k=some L→zch P n b L:=by rw[h];exact fun b hb=>by cases hb
theorem yfz{P:Program}(hm:P.follows .mixedOrders=true){D:Dict}(hD:DictOk P D){fn:Func}{b:Code}{k:Nat}(hl:zak (zat fn)=[b])(hk:zbh b=some k)(hl0:zak b=[]){n:Nat}{Ξ:Specs}{L:LoopS}{μ:L.α→Nat}(h1:Ξ.loop k=some L)(h2:∀y,L.I y→zax P D Ξ n b L μ y) :
 ∀b ∈ zak (zat fn),∀k L,zbh b=some k→Ξ.loop k=some L→zch P n b L:=by
 intro c hc k' M hk' hM
 rw[hl] at hc
 have e:=List.mem_singleton.1 hc
 subst e
 rw[hk] at hk'
 cases hk'
 rw[h1] at hM
 cases hM
 refine zeq (Ξ:=Ξ) hm hD (fun b hb=>by rw[hl0] at hb;cases hb) μ (fun y hy => ?_)
 have:=h2 y hy
 unfold zax at this
 exact this
def Specs.many(l:List (Nat × LoopS)):Specs:={ Specs.none with loop:=fun i=>match l.find? (fun p=>p.1==i) with|some p=>some p.2 | .none => .none }
attribute [irreducible] zwx
structure DrawL where
 σ:Type
 β:Type
 sl:σ→List Av
 H:σ→Heap
 id:Nat
 fsl:β→List Av
 fH:β→Heap
def yuu(n0:Nat)(L:DrawL):L.σ ⊕ L.β→Post
 | .inl y,.nrm,sl,H=>zgs n0 (L.sl y) (L.H y) sl H
 | .inr z,.ext k,sl,H=>k=L.id∧zgs n0 (L.fsl z) (L.fH z) sl H
 | _,_,_,_=>False
def ywy(P:Program)(D:Dict)(Ξ:Specs)(n0:Nat)(body:Code)(L:DrawL)(x:L.σ)(y:L.σ):Prop:=vcC P D Ξ n0 body (yuu n0 L (.inl y)) (L.sl x) (L.H x)
def ysl(P:Program)(D:Dict)(Ξ:Specs)(n0:Nat)(body:Code)(L:DrawL)(x:L.σ)(z:L.β):Prop:=vcC P D Ξ n0 body (yuu n0 L (.inr z)) (L.sl x) (L.H x)
attribute [irreducible] ywy ysl
def zsm(As R:List Pm)(req:PmT As→Option Prop)(g:PmT As→PmT R):Sum:=fun args H =>
 match zkg H As args 0 with
 | some (ps,x,n)=>if n=H.length then some (ytk ps (req x),(zfb true R (g x) n).1,H.map (fun _ => .dead)++(zfb true R (g x) n).2) else none
 | none=>none
def zic(P:Program)(D:Dict)(Ξ:Specs)(fn:Func)(As R:List Pm)(x:PmT As)(y:PmT R):Prop :=
 vcC P D Ξ (zap true As x 0).2.length (zat fn) (yo3 P fn (zap true As x 0).2.length (zfb true R y (zap true As x 0).2.length).1 ((zap true As x 0).2.map (fun _ => .dead)++(zfb true R y (zap true As x 0).2.length).2)) (zei fn (zap true As x 0).1) (zap true As x 0).2
theorem yf4{P:Program}(hm:P.follows .mixedOrders=true){f:FuncId}{fn:Func}(hf:P.funcs[f]? = some fn)(hb:fn.body=some (zat fn)){As R:List Pm}{req:PmT As→Option Prop}{g:PmT As→PmT R}{D:Dict}(hD:DictOk P D)
 (h:∀x,Hold (req x)→∃Ξ:Specs,(∀b ∈ zak (zat fn),∀k L,zbh b=some k→Ξ.loop k=some L→zch P (zap true As x 0).2.length b L)∧zic P D Ξ fn As R x (g x)):Sound P f (zsm As R req g):=by
 refine zp9 hm hf hb (fun args H p v H' hs hp => ?_)
 unfold zsm at hs
 split at hs
 case h_2=>cases hs
 rename_i ps x n hd
 split at hs
 case isFalse=>cases hs
 rename_i hn
 simp only[Option.some.injEq,Prod.mk.injEq] at hs
 obtain⟨rfl,rfl,rfl⟩:=hs
 obtain⟨hps,hreq⟩:=zo7 hp
 obtain⟨rfl,h2,h3⟩:=zhl hd hps
 rw[Nat.zero_add] at h2
 have hH:H=(zap true As x 0).2:=by
  refine List.ext_getElem? (fun i => ?_)
  rcases Nat.lt_or_ge i (zap true As x 0).2.length with q|q
  · have:=h3 i _ (List.getElem?_eq_getElem q)
    rw[Nat.zero_add] at this
    rw[this,List.getElem?_eq_getElem q]
  · rw[List.getElem?_eq_none (by omega),List.getElem?_eq_none q]
 subst hH
 obtain⟨Ξ,hL,hvc⟩:=h x hreq
 refine⟨D,Ξ,hD,hL, ?_⟩
 unfold zic at hvc
 rw[← h2] at hvc ⊢
 exact hvc
theorem zg8{P:Program}(hm:P.follows .mixedOrders=true){f:FuncId}{fn:Func}(hf:P.funcs[f]? = some fn)(hb:fn.body=some (zat fn))(hl:zak (zat fn)=[]){As R:List Pm}{req:PmT As→Option Prop}{g:PmT As→PmT R}{D:Dict}(hD:DictOk P D)
 (h:∀x,Hold (req x)→∃Ξ:Specs,zic P D Ξ fn As R x (g x)):Sound P f (zsm As R req g) :=
 yf4 hm hf hb hD (fun x hx=>let ⟨Ξ,hv⟩:=h x hx;⟨Ξ,by rw[hl];exact (fun b hb=>by cases hb),hv⟩)
attribute [irreducible] zic
section
variable {α:Type} {A B J:α→Prop}
end
structure RelS where
 β:Type
 d:β
 S:β→Sum
 Q:β→List Av→Heap→Prop
def zcm(P:Program)(f:FuncId)(r:RelS):Prop :=
 ∀(args:List Av)(H:Heap)(p:Option Prop)(v:Av)(H':Heap),r.S r.d args H=some (p,v,H')→Hold p→∀(ρ:Env)(vs:List Value)(w:World),(∀ρ',Agree H.length ρ ρ'→RvL ρ' args vs∧Rel ρ' H w) →
  Calls P f vs.toArray w fun e w'=>∃(z:r.β)(p':Option Prop)(v':Av)(H2:Heap),r.S z args H=some (p',v',H2)∧r.Q z args H∧Ends .returned ρ H w v' H2 e w'
abbrev Fz:=Option Addr × Nat × Nat→List Int→Prop
def Fz.none:Fz:=fun _ _=>False
def zra(B:Base)(ρ:Env)(H:Heap)(w:World)(y:Option Addr × Nat × Nat)(xs:List Int):Prop :=
 (xs=[]∧y.2.1=0∧y.2.2=0)∨∃b o,y.1=some ⟨b,o,Option.none⟩∧y.2.1=xs.length∧b<w.heap.size∧¬ owns ρ H b∧xs.length≤y.2.2∧(owns B.ρ B.H b∨B.w.heap.size≤b)∧∀(j:Nat)(v:Int),xs[j]? = some v→w.cell? ⟨b,o+j,Option.none⟩=some (.int .u8 v)
def zdf(B:Base)(sl:List Av)(H:Heap)(F:Fz)(a:Act)(w:World):Prop :=
 a.defers=B.ds∧Fr (owns B.ρ B.H) B.w w∧KeepsP B.H H ∧
 ∃ρ,Agree B.H.length B.ρ ρ∧(∀ρ',Agree H.length ρ ρ'→RvL ρ' sl a.tmps.toList∧Rel ρ' H w) ∧
  (∀id blk L,B.H.length≤id→H[id]? = some blk→blk.live=true→ρ id=some L→owns B.ρ B.H L.b∨B.w.heap.size≤L.b) ∧
  ∀y xs,F y xs→zra B ρ H w y xs
theorem zdf.inv{B:Base}{sl:List Av}{H:Heap}{F:Fz}{a:Act}{w:World}(h:zdf B sl H F a w):Inv B sl H a w:=by
 obtain⟨h1,h2,h3,ρ,h4,h5,h6,_⟩:=h
 exact⟨h1,h2,h3,ρ,h4,h5,h6⟩
theorem zdf.sub{B:Base}{sl:List Av}{H:Heap}{F G:Fz}{a:Act}{w:World}(h:zdf B sl H F a w)(hg:∀y xs,G y xs→F y xs):zdf B sl H G a w:=by
 obtain⟨h1,h2,h3,ρ,h4,h5,h6,h7⟩:=h
 exact⟨h1,h2,h3,ρ,h4,h5,h6,fun y xs hy=>h7 y xs (hg y xs hy)⟩
theorem zdf.start{B:Base}{sl:List Av}{H:Heap}{a:Act}{w:World}(h:Inv B sl H a w):zdf B sl H Fz.none a w:=by
 obtain⟨h1,h2,h3,ρ,h4,h5,h6⟩:=h
 exact⟨h1,h2,h3,ρ,h4,h5,h6,fun y xs hy=>hy.elim⟩
theorem yge{ρ ρ':Env}{H H':Heap}{w:World}(hk:KeepsP H H')(ha:Agree H.length ρ ρ')(hf:∀id blk L,H.length≤id→H'[id]? = some blk→blk.live=true→ρ' id=some L→owns ρ H L.b∨w.heap.size≤L.b){b:Nat}(h:owns ρ' H' b):owns ρ H b∨w.heap.size≤b:=by
 obtain⟨id,blk,L,g1,g2,g3,rfl⟩:=h
 rcases Nat.lt_or_ge id H.length with q|q
 · obtain⟨f1,_⟩:=hk.fl id _ blk (List.getElem?_eq_getElem q) g1
   exact .inl ⟨id,_,L,List.getElem?_eq_getElem q,f1 g2,by rw[← ha id q];exact g3,rfl⟩
 · exact hf id blk L q g1 (zba g2) g3
theorem zra.frame{B:Base}{ρ ρ':Env}{H H':Heap}{w w':World}{y:Option Addr × Nat × Nat}{xs:List Int}(h:zra B ρ H w y xs)(hfr:Fr (owns ρ H) w w')(hk:KeepsP H H')(ha:Agree H.length ρ ρ')
 (hf:∀id blk L,H.length≤id→H'[id]? = some blk→blk.live=true→ρ' id=some L→owns ρ H L.b∨w.heap.size≤L.b):zra B ρ' H' w' y xs:=by
 rcases h with h|⟨b,o,h1,h2,h3,h4,h5,hb,h6⟩
 · exact .inl h
 · refine .inr ⟨b,o,h1,h2,Nat.lt_of_lt_of_le h3 hfr.1,fun ho => ?_,h5,hb,fun j v hj => ?_⟩
   · rcases yge (w:=w) hk ha hf ho with q|q
     · exact h4 q
     · omega
   · rw[zcz (a:=⟨b,o+j,Option.none⟩) (hfr.2 b h3 h4)]
     exact h6 j v hj
theorem zdf.move{B:Base}{sl:List Av}{H:Heap}{F:Fz}{a:Act}{w:World}(h:zdf B sl H F a w){R:List Av→Heap→Act→World→Prop}{c:(List Av→Heap→Act→World→Prop)→Prop}
 (mono:∀R R',(∀sl H a w,R sl H a w→R' sl H a w)→c R→c R') (hc:∀ρ,Inv ⟨ρ,H,w,a.defers⟩ sl H a w→c (fun sl' H' a' w'=>Inv ⟨ρ,H,w,a.defers⟩ sl' H' a' w'∧R sl' H' a' w')):c (fun sl' H' a' w'=>zdf B sl' H' F a' w'∧R sl' H' a' w'):=by
 obtain⟨i1,i2,i3,ρ,i4,i5,i6,i7⟩:=h
 have h0:Inv ⟨ρ,H,w,a.defers⟩ sl H a w:=by
  refine⟨rfl,Fr.refl _ _,KeepsP.refl _,ρ,Agree.refl _ _,i5,fun id blk L hid hb _ _ => ?_⟩
  rw[List.getElem?_eq_none hid] at hb
  cases hb
 refine mono _ _ (fun sl' H' a' w' hh => ?_) (hc ρ h0)
 obtain⟨⟨k1,k2,k3,ρ',k4,k5,k6⟩,hR⟩:=hh
 have k1:a'.defers=a.defers:=k1
 have k2:Fr (owns ρ H) w w':=k2
 have k3:KeepsP H H':=k3
 have k4:Agree H.length ρ ρ':=k4
 have k6:∀id blk L,H.length≤id→H'[id]? = some blk→blk.live=true→ρ' id=some L→owns ρ H L.b∨w.heap.size≤L.b:=k6
 refine⟨⟨k1.trans i1,i2.trans k2 (fun b hb hC => ?_),i3.trans k3,ρ',i4.trans (k4.le i3.le),k5,fun id blk L hid hb hl hL => ?_,fun y xs hy=>(i7 y xs hy).frame k2 k3 k4 k6⟩,hR⟩
 · obtain⟨id,blk,L,g1,g2,g3,rfl⟩:=hC
   rcases Nat.lt_or_ge id B.H.length with q|q
   · obtain⟨f1,_⟩:=i3.fl id _ blk (List.getElem?_eq_getElem q) g1
     exact⟨id,_,L,List.getElem?_eq_getElem q,f1 g2,by rw[← i4 id q];exact g3,rfl⟩
   · exact (i6 id blk L q g1 (zba g2) g3).resolve_right (by omega)
 · rcases Nat.lt_or_ge id H.length with q|q
   · obtain⟨_,f2⟩:=k3.fl id _ blk (List.getElem?_eq_getElem q) hb
     exact i6 id _ L hid (List.getElem?_eq_getElem q) (f2 hl) (by rw[← k4 id q];exact hL)
   · rcases k6 id blk L q hb hl hL with ⟨id2,blk2,L2,g1,g2,g3,g4⟩|g
     · rw[← g4]
       rcases Nat.lt_or_ge id2 B.H.length with q2|q2
       · obtain⟨f1,_⟩:=i3.fl id2 _ blk2 (List.getElem?_eq_getElem q2) g1
         exact .inl ⟨id2,_,L2,List.getElem?_eq_getElem q2,f1 g2,by rw[← i4 id2 q2];exact g3,rfl⟩
       · exact i6 id2 blk2 L2 q2 g1 (zba g2) g3
     · exact .inr (Nat.le_trans i2.size g)
inductive Gh where
 | std
 | freeze (t:Nat)
 | thaw (t:Nat)
def Gh.pre(g:Gh)(k:List Av→Heap→Fz→Prop)(sl:List Av)(H:Heap)(F:Fz):Prop :=
 match g with
 | .freeze t=>match sl.getD t .any with
  | .sl id 1 lo len=>match H[id]? with
   | some (.arr sh xs true)=>if e:sh=[.i .u8] then (lo+len≤(e ▸ xs:List (El [.i .u8])).length∧∀y:Option Addr × Nat × Nat,k (sl.set t (.v (.slice y.1 y.2.1 y.2.2))) (H.set id .dead) (fun y' xs'=>F y' xs'∨(y'=y∧xs'=((e ▸ xs:List (El [.i .u8])).drop lo).take len))) else False
   | _=>False
  | _=>False
 | _=>k sl H F
def Gh.post(g:Gh)(k:List Av→Heap→Fz→Prop)(sl:List Av)(H:Heap)(F:Fz):Prop :=
 match g with
 | .thaw t=>match sl.getD t .any with
  | .v (.slice a n c)=>∃xs:List (El [.i .u8]),F (a,n,c) xs∧k (sl.set t (.sl H.length 1 0 xs.length)) (H++[.arr [.i .u8] xs false]) F
  | _=>False
 | _=>k sl H F
theorem zgw{ρ:Env}:∀{sl:List Av}{vs:List Value},RvL ρ sl vs→∀(t:Nat){x:Av}{v:Value},vs[t]? = some v→Rv ρ x v→RvL ρ (sl.set t x) vs
 | [],[],h,_,_,_,_,_=>h
 | [],_::_,h,_,_,_,_,_=>h.elim
 | _::_,[],h,_,_,_,_,_=>h.elim
 | a::as,b::bs,h,0,x,v,hv,hx=>by
  simp at hv
  subst hv
  exact⟨hx,h.2⟩
 | a::as,b::bs,h,t+1,x,v,hv,hx=>⟨h.1,zgw h.2 t (by simpa using hv) hx⟩
theorem zsp{ρ:Env}{H:Heap}{id b:Nat}(h:owns ρ (H.set id .dead) b):owns ρ H b∧∃j blk L,j≠id∧H[j]? = some blk∧blk.own=true∧ρ j=some L∧L.b=b:=by
 obtain⟨j,blk,L,g1,g2,g3,g4⟩:=h
 rcases zfh g1 with rfl|⟨hne,g1⟩
 · cases g2
 · exact⟨⟨j,blk,L,g1,g2,g3,g4⟩,j,blk,L,Ne.symm hne,g1,g2,g3,g4⟩
theorem getD_some{α:Type}{l:List α}{t:Nat}{d x:α}(h:l.getD t d=x)(hx:x≠d):l[t]? = some x:=by
 rw[List.getD_eq_getElem?_getD] at h
 cases e:l[t]? with
 | none=>rw[e] at h;exact absurd h.symm hx
 | some y=>rw[e] at h;simp at h;rw[h]
theorem zdf.freeze{B:Base}{sl:List Av}{H:Heap}{F:Fz}{a:Act}{w:World}(h:zdf B sl H F a w){t id lo len:Nat}{xs:List (El [.i .u8])}(ht:sl[t]? = some (.sl id 1 lo len))(hid:H[id]? = some (.arr [.i .u8] xs true))(hl:lo+len≤xs.length) :
 ∃y:Option Addr × Nat × Nat,zdf B (sl.set t (.v (.slice y.1 y.2.1 y.2.2))) (H.set id .dead) (fun y' xs'=>F y' xs'∨(y'=y∧xs'=(xs.drop lo).take len)) a w:=by
 obtain⟨i1,i2,i3,ρ,i4,i5,i6,i7⟩:=h
 obtain⟨hs,hr⟩:=i5 ρ (Agree.refl _ _)
 obtain⟨v,hv,hrv⟩:=zeu hs ht
 have hlen:((xs.drop lo).take len).length=len:=by simp;omega
 have hidl:id<H.length:=by
  rcases Nat.lt_or_ge id H.length with q|q
  · exact q
  · simp[List.getElem?_eq_none q] at hid
 have main:∃y:Option Addr × Nat × Nat,v = .slice y.1 y.2.1 y.2.2∧zra B ρ (H.set id .dead) w y ((xs.drop lo).take len):=by
  simp only[Rv] at hrv
  rcases hrv with ⟨hno,rfl,rfl,q,rfl⟩|⟨L,o,hL,hcap,ho,rfl⟩
  · exact⟨(q,0,0),rfl,.inl ⟨by simp,rfl,rfl⟩⟩
  · refine⟨(some ⟨L.b,L.off+o*1,Option.none⟩,len,L.cap-lo),rfl,.inr ⟨L.b,L.off+o*1,rfl,hlen.symm,hr.inb id _ L hid rfl hL,fun hown => ?_,by rw[hlen];show len≤L.cap-lo;omega, ?_,fun j x hj => ?_⟩⟩
    · obtain⟨_,k,blk,M,hne,g1,g2,g3,g4⟩:=zsp hown
      exact hr.sep k id blk _ M L g1 hid hne (zba g2) rfl (.inl g2) g3 hL g4
    · rcases Nat.lt_or_ge id B.H.length with q|q
      · left
        exact⟨id,B.H[id],L,List.getElem?_eq_getElem q,(i3.fl id _ _ (List.getElem?_eq_getElem q) hid).1 rfl,by rw[← i4 id q];exact hL,rfl⟩
      · exact i6 id _ L q hid rfl hL
    · have hjl:j<len:=by
       rcases Nat.lt_or_ge j ((xs.drop lo).take len).length with q|q
       · omega
       · rw[List.getElem?_eq_none q] at hj;cases hj
      rw[List.getElem?_take,if_pos hjl,List.getElem?_drop] at hj
      have ho':o=lo:=by omega
      subst ho'
      rcases hr.blk id _ hid with ⟨hno,_⟩|⟨M,hM,_,hc,_⟩
      · rw[hL] at hno;cases hno
      · rw[hL] at hM;cases hM
        have:=hc (o+j) x hj 0 (.int .u8 x) rfl
        rw[show L.off+(o+j)*[Ty.i IntKind.u8].length+0=L.off+o*1+j by simp;omega] at this
        exact this
 obtain⟨y,rfl,hk⟩:=main
 refine⟨y,i1,i2,i3.kill id,ρ,i4,fun ρ' ha => ?_,fun k blk L hid' hb hl' hL => ?_,fun y' xs' hy => ?_⟩
 · obtain⟨q1,q2⟩:=i5 ρ' (by simpa using ha)
   exact⟨zgw q1 t hv rfl,zyi q2 id⟩
 · rcases zfh hb with rfl|⟨_,hb⟩
   · cases hl'
   · exact i6 k blk L hid' hb hl' hL
 · rcases hy with hy|⟨rfl,rfl⟩
   · rcases i7 y' xs' hy with g|⟨b,o,g1,g2,g3,g4,g5,g6,g7⟩
     · exact .inl g
     · exact .inr ⟨b,o,g1,g2,g3,fun ho=>g4 (zsp ho).1,g5,g6,g7⟩
   · exact hk
theorem zdf.thaw{B:Base}{sl:List Av}{H:Heap}{F:Fz}{a:Act}{w:World}(h:zdf B sl H F a w){t:Nat}{y:Option Addr × Nat × Nat}{xs:List (El [.i .u8])}(ht:sl[t]? = some (.v (.slice y.1 y.2.1 y.2.2)))(hy:F y xs) :
 zdf B (sl.set t (.sl H.length 1 0 xs.length)) (H++[.arr [.i .u8] xs false]) F a w:=by
 obtain⟨i1,i2,i3,ρ,i4,i5,i6,i7⟩:=h
 obtain⟨hs,hr⟩:=i5 ρ (Agree.refl _ _)
 obtain⟨v,hv,hrv⟩:=zeu hs ht
 have ev:v = .slice y.1 y.2.1 y.2.2:=hrv
 subst ev
 have hnl:(H++[Blk.arr [Ty.i IntKind.u8] xs false]).length=H.length+1:=by simp
 have get:∀i b,(H++[Blk.arr [Ty.i IntKind.u8] xs false])[i]? = some b→(i=H.length∧b = .arr [.i .u8] xs false)∨(i≠H.length∧H[i]? = some b):=by
  intro i b hi
  rcases Nat.lt_or_ge i H.length with g|g
  · rw[List.getElem?_append_left g] at hi;exact .inr ⟨by omega,hi⟩
  · rw[List.getElem?_append_right g] at hi
    have:i-H.length=0:=by
     rcases Nat.eq_zero_or_pos (i-H.length) with e|e
     · exact e
     · rw[List.getElem?_eq_none (by simp;omega)] at hi;cases hi
    rw[this] at hi;simp at hi
    exact .inl ⟨by omega,hi.symm⟩
 have noown:∀(σ:Env) b,Agree H.length ρ σ→owns σ (H++[Blk.arr [Ty.i IntKind.u8] xs false]) b→owns ρ H b:=by
  intro σ b ha ho
  obtain⟨j,blk,L,g1,g2,g3,g4⟩:=ho
  rcases get j blk g1 with ⟨rfl,rfl⟩|⟨hne,g1⟩
  · cases g2
  · have hj:j<H.length:=by
     rcases Nat.lt_or_ge j H.length with q|q
     · exact q
     · rw[List.getElem?_eq_none q] at g1;cases g1
    exact⟨j,blk,L,g1,g2,by rw[← ha j hj];exact g3,g4⟩
 have hkeep:KeepsP B.H (H++[Blk.arr [Ty.i IntKind.u8] xs false]):=i3.trans (KeepsP.append _ _)
 rcases i7 y xs hy with ⟨rfl,h0,h1⟩|⟨b,o,g1,g2,g3,g4,g5,g6,g7⟩
 · refine⟨i1,i2,hkeep,upd ρ H.length Option.none,i4.trans ((zca ρ H.length _).le i3.le),fun ρ' ha => ?_,fun k blk L hid' hb hl' hL => ?_,fun y' xs' hy' => ?_⟩
   · have ha':Agree H.length ρ ρ':=(zca ρ H.length _).trans (ha.le (by simp))
     have he:ρ' H.length=Option.none:=by rw[ha H.length (by simp),zh0]
     obtain⟨q1,q2⟩:=i5 ρ' ha'
     refine⟨zgw q1 t hv (.inl ⟨he,rfl,rfl,y.1,by rw[h0,h1]⟩),zu9 q2 (Nat.le_refl _) q2.blk (fun L hL _=>by rw[he] at hL;cases hL) (.inl ⟨he,rfl⟩)⟩
   · rcases get k blk hb with ⟨rfl,rfl⟩|⟨hne,hb⟩
     · rw[zh0] at hL;cases hL
     · have hk:k<H.length:=by
        rcases Nat.lt_or_ge k H.length with q|q
        · exact q
        · rw[List.getElem?_eq_none q] at hb;cases hb
       exact i6 k blk L hid' hb hl' (by rw[← zca ρ H.length Option.none k hk];exact hL)
   · rcases i7 y' xs' hy' with g|⟨b,o,g1,g2,g3,g4,g5,g6,g7⟩
     · exact .inl g
     · exact .inr ⟨b,o,g1,g2,g3,fun ho=>g4 (noown _ b (zca ρ H.length _) ho),g5,g6,g7⟩
 · obtain⟨ya,yn,yc⟩:=y
   dsimp only at g1 g2 g5
   subst g1 g2
   refine⟨i1,i2,hkeep,upd ρ H.length (some ⟨b,o,yc,{}⟩),i4.trans ((zca ρ H.length _).le i3.le),fun ρ' ha => ?_,fun k blk L hid' hb hl' hL => ?_,fun y' xs' hy' => ?_⟩
   · have ha':Agree H.length ρ ρ':=(zca ρ H.length _).trans (ha.le (by simp))
     have he:ρ' H.length=some ⟨b,o,yc,{}⟩:=by rw[ha H.length (by simp),zh0]
     obtain⟨q1,q2⟩:=i5 ρ' ha'
     refine⟨zgw q1 t hv (.inr ⟨⟨b,o,yc,{}⟩,0,he,by show 0+xs.length≤yc;omega,.inl rfl,by simp⟩),⟨fun i c hi => ?_,fun i j c d L M hi hj hne hcl hdl hoo hL hM => ?_,fun i c L hi hl hL => ?_⟩⟩
     · rcases get i c hi with ⟨rfl,rfl⟩|⟨_,hi⟩
       · refine .inr ⟨⟨b,o,yc,{}⟩,he,g5,fun i x hx j u hj => ?_,fun e=>by cases e⟩
         cases j with
         | zero =>
          simp[El.vals,Ty.val] at hj
          subst hj
          have:=g7 i x hx
          simpa using this
         | succ j=>simp[El.vals] at hj
       · exact q2.blk i c hi
     · have own:∀(k:Nat)(c:Blk)(L:Loc),H[k]? = some c→c.own=true→ρ' k=some L→L.b≠b:=by
        intro k c L hk hc hL e
        have hkl:k<H.length:=by
         rcases Nat.lt_or_ge k H.length with q|q
         · exact q
         · rw[List.getElem?_eq_none q] at hk;cases hk
        exact g4 ⟨k,c,L,hk,hc,by rw[← ha' k hkl];exact hL,e⟩
       rcases get i c hi with ⟨rfl,rfl⟩|⟨_,hi⟩
       · rcases get j d hj with ⟨rfl,rfl⟩|⟨_,hj⟩
         · exact absurd rfl hne
         · rw[he] at hL;cases hL
           exact fun e=>own j d M hj (hoo.resolve_left (by simp[Blk.own])) hM e.symm
       · rcases get j d hj with ⟨rfl,rfl⟩|⟨_,hj⟩
         · rw[he] at hM;cases hM
           exact own i c L hi (hoo.resolve_right (by simp[Blk.own])) hL
         · exact q2.sep i j c d L M hi hj hne hcl hdl hoo hL hM
     · rcases get i c hi with ⟨rfl,rfl⟩|⟨_,hi⟩
       · rw[he] at hL;cases hL;exact g3
       · exact q2.inb i c L hi hl hL
   · rcases get k blk hb with ⟨rfl,rfl⟩|⟨hne,hb⟩
     · rw[zh0] at hL;cases hL;exact g6
     · have hk:k<H.length:=by
        rcases Nat.lt_or_ge k H.length with q|q
        · exact q
        · rw[List.getElem?_eq_none q] at hb;cases hb
       exact i6 k blk L hid' hb hl' (by rw[← zca ρ H.length (some ⟨b,o,yc,{}⟩) k hk];exact hL)
   · rcases i7 y' xs' hy' with g|⟨b',o',k1,k2,k3,k4,k5,k6,k7⟩
     · exact .inl g
     · exact .inr ⟨b',o',k1,k2,k3,fun ho=>k4 (noown _ b' (zca ρ H.length _) ho),k5,k6,k7⟩
theorem Gh.pre_ok{g:Gh}{k:List Av→Heap→Fz→Prop}{sl:List Av}{H:Heap}{F:Fz}(h:g.pre k sl H F){B:Base}{a:Act}{w:World}(hi:zdf B sl H F a w):∃sl' H' F',zdf B sl' H' F' a w∧k sl' H' F':=by
 unfold Gh.pre at h
 split at h
 · rename_i t
   split at h
   case h_2=>exact h.elim
   rename_i id lo len e
   split at h
   case h_2=>exact h.elim
   rename_i sh xs hid
   split at h
   case isFalse=>exact h.elim
   rename_i hsh
   subst hsh
   obtain⟨hl,h⟩:=h
   obtain⟨y,hi'⟩:=hi.freeze (getD_some e (by simp)) hid hl
   exact⟨_,_,_,hi',h y⟩
 · exact⟨_,_,_,hi,h⟩
theorem Gh.post_ok{g:Gh}{k:List Av→Heap→Fz→Prop}{sl:List Av}{H:Heap}{F:Fz}(h:g.post k sl H F){B:Base}{a:Act}{w:World}(hi:zdf B sl H F a w):∃sl' H' F',zdf B sl' H' F' a w∧k sl' H' F':=by
 unfold Gh.post at h
 split at h
 · rename_i t
   split at h
   case h_2=>exact h.elim
   rename_i x n c e
   obtain⟨xs,h1,h2⟩:=h
   exact⟨_,_,_,hi.thaw (y:=(x,n,c)) (getD_some e (by simp)) h1,h2⟩
 · exact⟨_,_,_,hi,h⟩
end Go.Proofs.YtfiddfbagbaofaaGreat.V
