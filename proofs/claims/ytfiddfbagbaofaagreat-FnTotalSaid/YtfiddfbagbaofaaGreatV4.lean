/- A small machine of signs and its soundness, part 4: no program in sight. Conditions: those in each statement. -/
import Derived.Test.YtfiddfbagbaofaaGreatV3
import Derived.Recover
namespace Go.Proofs.YtfiddfbagbaofaaGreat.V
open Go
structure RelS where
 β:Type
 d:β
 S:β→Sum
 Q:β→List Av→Heap→Prop
def yp8(P:Program)(f:FuncId)(r:RelS):Prop :=
 ∀(args:List Av)(H:Heap)(p:Option Prop)(v:Av)(H':Heap),r.S r.d args H=some (p,v,H')→Hold p→∀(ρ:Env)(vs:List Value)(w:World),(∀ρ',Agree H.length ρ ρ'→RvL ρ' args vs∧Rel ρ' H w) →
  Calls P f vs.toArray w fun e w'=>∃(z:r.β)(p':Option Prop)(v':Av)(H2:Heap),r.S z args H=some (p',v',H2)∧r.Q z args H∧Ends .returned ρ H w v' H2 e w'
abbrev Fz:=Option Addr × Nat × Nat→List Int→Prop
def Fz.none:Fz:=fun _ _=>False
def zsr(B:Base)(ρ:Env)(H:Heap)(w:World)(y:Option Addr × Nat × Nat)(xs:List Int):Prop :=
 (xs=[]∧y.2.1=0∧y.2.2=0)∨∃b o,y.1=some ⟨b,o,Option.none⟩∧y.2.1=xs.length∧b<w.heap.size∧¬ owns ρ H b∧xs.length≤y.2.2∧(owns B.ρ B.H b∨B.w.heap.size≤b)∧∀(j:Nat)(v:Int),xs[j]? = some v→w.cell? ⟨b,o+j,Option.none⟩=some (.int .u8 v)
def zj3(B:Base)(sl:List Av)(H:Heap)(F:Fz)(a:Act)(w:World):Prop :=
 a.defers=B.ds∧Fr (owns B.ρ B.H) B.w w∧KeepsP B.H H ∧
 ∃ρ,Agree B.H.length B.ρ ρ∧(∀ρ',Agree H.length ρ ρ'→RvL ρ' sl a.tmps.toList∧Rel ρ' H w) ∧
  (∀id blk L,B.H.length≤id→H[id]? = some blk→blk.live=true→ρ id=some L→owns B.ρ B.H L.b∨B.w.heap.size≤L.b) ∧
  ∀y xs,F y xs→zsr B ρ H w y xs
theorem zj3.inv{B:Base}{sl:List Av}{H:Heap}{F:Fz}{a:Act}{w:World}(h:zj3 B sl H F a w):Inv B sl H a w:=by
 obtain⟨h1,h2,h3,ρ,h4,h5,h6,_⟩:=h
 exact⟨h1,h2,h3,ρ,h4,h5,h6⟩
theorem zj3.sub{B:Base}{sl:List Av}{H:Heap}{F G:Fz}{a:Act}{w:World}(h:zj3 B sl H F a w)(hg:∀y xs,G y xs→F y xs):zj3 B sl H G a w:=by
 obtain⟨h1,h2,h3,ρ,h4,h5,h6,h7⟩:=h
 exact⟨h1,h2,h3,ρ,h4,h5,h6,fun y xs hy=>h7 y xs (hg y xs hy)⟩
theorem zj3.start{B:Base}{sl:List Av}{H:Heap}{a:Act}{w:World}(h:Inv B sl H a w):zj3 B sl H Fz.none a w:=by
 obtain⟨h1,h2,h3,ρ,h4,h5,h6⟩:=h
 exact⟨h1,h2,h3,ρ,h4,h5,h6,fun y xs hy=>hy.elim⟩
theorem yig{ρ ρ':Env}{H H':Heap}{w:World}(hk:KeepsP H H')(ha:Agree H.length ρ ρ')(hf:∀id blk L,H.length≤id→H'[id]? = some blk→blk.live=true→ρ' id=some L→owns ρ H L.b∨w.heap.size≤L.b){b:Nat}(h:owns ρ' H' b):owns ρ H b∨w.heap.size≤b:=by
 obtain⟨id,blk,L,g1,g2,g3,rfl⟩:=h
 rcases Nat.lt_or_ge id H.length with q|q
 · obtain⟨f1,_⟩:=hk.fl id _ blk (List.getElem?_eq_getElem q) g1
   exact .inl ⟨id,_,L,List.getElem?_eq_getElem q,f1 g2,by rw[← ha id q];exact g3,rfl⟩
 · exact hf id blk L q g1 (za8 g2) g3
theorem zsr.frame{B:Base}{ρ ρ':Env}{H H':Heap}{w w':World}{y:Option Addr × Nat × Nat}{xs:List Int}(h:zsr B ρ H w y xs)(hfr:Fr (owns ρ H) w w')(hk:KeepsP H H')(ha:Agree H.length ρ ρ')
 (hf:∀id blk L,H.length≤id→H'[id]? = some blk→blk.live=true→ρ' id=some L→owns ρ H L.b∨w.heap.size≤L.b):zsr B ρ' H' w' y xs:=by
 rcases h with h|⟨b,o,h1,h2,h3,h4,h5,hb,h6⟩
 · exact .inl h
 · refine .inr ⟨b,o,h1,h2,Nat.lt_of_lt_of_le h3 hfr.1,fun ho => ?_,h5,hb,fun j v hj => ?_⟩
   · rcases yig (w:=w) hk ha hf ho with q|q
     · exact h4 q
     · omega
   · rw[zcv (a:=⟨b,o+j,Option.none⟩) (hfr.2 b h3 h4)]
     exact h6 j v hj
theorem zj3.move{B:Base}{sl:List Av}{H:Heap}{F:Fz}{a:Act}{w:World}(h:zj3 B sl H F a w){R:List Av→Heap→Act→World→Prop}{c:(List Av→Heap→Act→World→Prop)→Prop}
 (mono:∀R R',(∀sl H a w,R sl H a w→R' sl H a w)→c R→c R') (hc:∀ρ,Inv ⟨ρ,H,w,a.defers⟩ sl H a w→c (fun sl' H' a' w'=>Inv ⟨ρ,H,w,a.defers⟩ sl' H' a' w'∧R sl' H' a' w')):c (fun sl' H' a' w'=>zj3 B sl' H' F a' w'∧R sl' H' a' w'):=by
 obtain⟨i1,i2,i3,ρ,i4,i5,i6,i7⟩:=h
 have h0:Inv ⟨ρ,H,w,a.defers⟩ sl H a w:=by
  refine⟨rfl,Fr.refl _ _,KeepsP.refl _,ρ,Agree.refl _ _,i5,fun id blk L hid hb _ _ => ?_⟩
  rw[List.getElem?_eq_none hid] at hb
  cases hb
 refine mono _ _ (fun sl' H' a' w' hh => ?_) (hc ρ h0)
 obtain⟨⟨k1,k2,k3,ρ',k4,k5,k6⟩,hR⟩:=hh
 have k1:a'.defers=a.defers:=k1
 have k2:Fr (owns ρ H) w w':=k2
 have k3:KeepsP H H':=k3
 have k4:Agree H.length ρ ρ':=k4
 have k6:∀id blk L,H.length≤id→H'[id]? = some blk→blk.live=true→ρ' id=some L→owns ρ H L.b∨w.heap.size≤L.b:=k6
 refine⟨⟨k1.trans i1,i2.trans k2 (fun b hb hC => ?_),i3.trans k3,ρ',i4.trans (k4.le i3.le),k5,fun id blk L hid hb hl hL => ?_,fun y xs hy=>(i7 y xs hy).frame k2 k3 k4 k6⟩,hR⟩
 · obtain⟨id,blk,L,g1,g2,g3,rfl⟩:=hC
   rcases Nat.lt_or_ge id B.H.length with q|q
   · obtain⟨f1,_⟩:=i3.fl id _ blk (List.getElem?_eq_getElem q) g1
     exact⟨id,_,L,List.getElem?_eq_getElem q,f1 g2,by rw[← i4 id q];exact g3,rfl⟩
   · exact (i6 id blk L q g1 (za8 g2) g3).resolve_right (by omega)
 · rcases Nat.lt_or_ge id H.length with q|q
   · obtain⟨_,f2⟩:=k3.fl id _ blk (List.getElem?_eq_getElem q) hb
     exact i6 id _ L hid (List.getElem?_eq_getElem q) (f2 hl) (by rw[← k4 id q];exact hL)
   · rcases k6 id blk L q hb hl hL with ⟨id2,blk2,L2,g1,g2,g3,g4⟩|g
     · rw[← g4]
       rcases Nat.lt_or_ge id2 B.H.length with q2|q2
       · obtain⟨f1,_⟩:=i3.fl id2 _ blk2 (List.getElem?_eq_getElem q2) g1
         exact .inl ⟨id2,_,L2,List.getElem?_eq_getElem q2,f1 g2,by rw[← i4 id2 q2];exact g3,rfl⟩
       · exact i6 id2 blk2 L2 q2 g1 (za8 g2) g3
     · exact .inr (Nat.le_trans i2.size g)
inductive Gh where
 | std
 | freeze (t:Nat)
 | thaw (t:Nat)
def Gh.pre(g:Gh)(k:List Av→Heap→Fz→Prop)(sl:List Av)(H:Heap)(F:Fz):Prop :=
 match g with
 | .freeze t=>match sl.getD t .any with
  | .sl id 1 lo len=>match H[id]? with
   | some (.arr sh xs true)=>if e:sh=[.i .u8] then (lo+len≤(e ▸ xs:List (El [.i .u8])).length∧∀y:Option Addr × Nat × Nat,k (sl.set t (.v (.slice y.1 y.2.1 y.2.2))) (H.set id .dead) (fun y' xs'=>F y' xs'∨(y'=y∧xs'=((e ▸ xs:List (El [.i .u8])).drop lo).take len))) else False
   | _=>False
  | _=>False
 | _=>k sl H F
def Gh.post(g:Gh)(k:List Av→Heap→Fz→Prop)(sl:List Av)(H:Heap)(F:Fz):Prop :=
 match g with
 | .thaw t=>match sl.getD t .any with
  | .v (.slice a n c)=>∃xs:List (El [.i .u8]),F (a,n,c) xs∧k (sl.set t (.sl H.length 1 0 xs.length)) (H++[.arr [.i .u8] xs false]) F
  | _=>False
 | _=>k sl H F
theorem zi6{ρ:Env}:∀{sl:List Av}{vs:List Value},RvL ρ sl vs→∀(t:Nat){x:Av}{v:Value},vs[t]? = some v→Rv ρ x v→RvL ρ (sl.set t x) vs
 | [],[],h,_,_,_,_,_=>h
 | [],_::_,h,_,_,_,_,_=>h.elim
 | _::_,[],h,_,_,_,_,_=>h.elim
 | a::as,b::bs,h,0,x,v,hv,hx=>by
  simp at hv
  subst hv
  exact⟨hx,h.2⟩
 | a::as,b::bs,h,t+1,x,v,hv,hx=>⟨h.1,zi6 h.2 t (by simpa using hv) hx⟩
theorem zt0{ρ:Env}{H:Heap}{id b:Nat}(h:owns ρ (H.set id .dead) b):owns ρ H b∧∃j blk L,j≠id∧H[j]? = some blk∧blk.own=true∧ρ j=some L∧L.b=b:=by
 obtain⟨j,blk,L,g1,g2,g3,g4⟩:=h
 rcases zfp g1 with rfl|⟨hne,g1⟩
 · cases g2
 · exact⟨⟨j,blk,L,g1,g2,g3,g4⟩,j,blk,L,Ne.symm hne,g1,g2,g3,g4⟩
theorem getD_some{α:Type}{l:List α}{t:Nat}{d x:α}(h:l.getD t d=x)(hx:x≠d):l[t]? = some x:=by
 rw[List.getD_eq_getElem?_getD] at h
 cases e:l[t]? with
 | none=>rw[e] at h;exact absurd h.symm hx
 | some y=>rw[e] at h;simp at h;rw[h]
theorem zj3.freeze{B:Base}{sl:List Av}{H:Heap}{F:Fz}{a:Act}{w:World}(h:zj3 B sl H F a w){t id lo len:Nat}{xs:List (El [.i .u8])}(ht:sl[t]? = some (.sl id 1 lo len))(hid:H[id]? = some (.arr [.i .u8] xs true))(hl:lo+len≤xs.length) :
 ∃y:Option Addr × Nat × Nat,zj3 B (sl.set t (.v (.slice y.1 y.2.1 y.2.2))) (H.set id .dead) (fun y' xs'=>F y' xs'∨(y'=y∧xs'=(xs.drop lo).take len)) a w:=by
 obtain⟨i1,i2,i3,ρ,i4,i5,i6,i7⟩:=h
 obtain⟨hs,hr⟩:=i5 ρ (Agree.refl _ _)
 obtain⟨v,hv,hrv⟩:=zfz hs ht
 have hlen:((xs.drop lo).take len).length=len:=by simp;omega
 have hidl:id<H.length:=by
  rcases Nat.lt_or_ge id H.length with q|q
  · exact q
  · simp[List.getElem?_eq_none q] at hid
 have main:∃y:Option Addr × Nat × Nat,v = .slice y.1 y.2.1 y.2.2∧zsr B ρ (H.set id .dead) w y ((xs.drop lo).take len):=by
  simp only[Rv] at hrv
  rcases hrv with ⟨hno,rfl,rfl,q,rfl⟩|⟨L,o,hL,hcap,ho,rfl⟩
  · exact⟨(q,0,0),rfl,.inl ⟨by simp,rfl,rfl⟩⟩
  · refine⟨(some ⟨L.b,L.off+o*1,Option.none⟩,len,L.cap-lo),rfl,.inr ⟨L.b,L.off+o*1,rfl,hlen.symm,hr.inb id _ L hid rfl hL,fun hown => ?_,by rw[hlen];show len≤L.cap-lo;omega, ?_,fun j x hj => ?_⟩⟩
    · obtain⟨_,k,blk,M,hne,g1,g2,g3,g4⟩:=zt0 hown
      exact hr.sep k id blk _ M L g1 hid hne (za8 g2) rfl (.inl g2) g3 hL g4
    · rcases Nat.lt_or_ge id B.H.length with q|q
      · left
        exact⟨id,B.H[id],L,List.getElem?_eq_getElem q,(i3.fl id _ _ (List.getElem?_eq_getElem q) hid).1 rfl,by rw[← i4 id q];exact hL,rfl⟩
      · exact i6 id _ L q hid rfl hL
    · have hjl:j<len:=by
       rcases Nat.lt_or_ge j ((xs.drop lo).take len).length with q|q
       · omega
       · rw[List.getElem?_eq_none q] at hj;cases hj
      rw[List.getElem?_take,if_pos hjl,List.getElem?_drop] at hj
      have ho':o=lo:=by omega
      subst ho'
      rcases hr.blk id _ hid with ⟨hno,_⟩|⟨M,hM,_,hc,_⟩
      · rw[hL] at hno;cases hno
      · rw[hL] at hM;cases hM
        have:=hc (o+j) x hj 0 (.int .u8 x) rfl
        rw[show L.off+(o+j)*[Ty.i IntKind.u8].length+0=L.off+o*1+j by simp;omega] at this
        exact this
 obtain⟨y,rfl,hk⟩:=main
 refine⟨y,i1,i2,i3.kill id,ρ,i4,fun ρ' ha => ?_,fun k blk L hid' hb hl' hL => ?_,fun y' xs' hy => ?_⟩
 · obtain⟨q1,q2⟩:=i5 ρ' (by simpa using ha)
   exact⟨zi6 q1 t hv rfl,zzs q2 id⟩
 · rcases zfp hb with rfl|⟨_,hb⟩
   · cases hl'
   · exact i6 k blk L hid' hb hl' hL
 · rcases hy with hy|⟨rfl,rfl⟩
   · rcases i7 y' xs' hy with g|⟨b,o,g1,g2,g3,g4,g5,g6,g7⟩
     · exact .inl g
     · exact .inr ⟨b,o,g1,g2,g3,fun ho=>g4 (zt0 ho).1,g5,g6,g7⟩
   · exact hk
theorem zj3.thaw{B:Base}{sl:List Av}{H:Heap}{F:Fz}{a:Act}{w:World}(h:zj3 B sl H F a w){t:Nat}{y:Option Addr × Nat × Nat}{xs:List (El [.i .u8])}(ht:sl[t]? = some (.v (.slice y.1 y.2.1 y.2.2)))(hy:F y xs) :
 zj3 B (sl.set t (.sl H.length 1 0 xs.length)) (H++[.arr [.i .u8] xs false]) F a w:=by
 obtain⟨i1,i2,i3,ρ,i4,i5,i6,i7⟩:=h
 obtain⟨hs,hr⟩:=i5 ρ (Agree.refl _ _)
 obtain⟨v,hv,hrv⟩:=zfz hs ht
 have ev:v = .slice y.1 y.2.1 y.2.2:=hrv
 subst ev
 have hnl:(H++[Blk.arr [Ty.i IntKind.u8] xs false]).length=H.length+1:=by simp
 have get:∀i b,(H++[Blk.arr [Ty.i IntKind.u8] xs false])[i]? = some b→(i=H.length∧b = .arr [.i .u8] xs false)∨(i≠H.length∧H[i]? = some b):=by
  intro i b hi
  rcases Nat.lt_or_ge i H.length with g|g
  · rw[List.getElem?_append_left g] at hi;exact .inr ⟨by omega,hi⟩
  · rw[List.getElem?_append_right g] at hi
    have:i-H.length=0:=by
     rcases Nat.eq_zero_or_pos (i-H.length) with e|e
     · exact e
     · rw[List.getElem?_eq_none (by simp;omega)] at hi;cases hi
    rw[this] at hi;simp at hi
    exact .inl ⟨by omega,hi.symm⟩
 have noown:∀(σ:Env) b,Agree H.length ρ σ→owns σ (H++[Blk.arr [Ty.i IntKind.u8] xs false]) b→owns ρ H b:=by
  intro σ b ha ho
  obtain⟨j,blk,L,g1,g2,g3,g4⟩:=ho
  rcases get j blk g1 with ⟨rfl,rfl⟩|⟨hne,g1⟩
  · cases g2
  · have hj:j<H.length:=by
     rcases Nat.lt_or_ge j H.length with q|q
     · exact q
     · rw[List.getElem?_eq_none q] at g1;cases g1
    exact⟨j,blk,L,g1,g2,by rw[← ha j hj];exact g3,g4⟩
 have hkeep:KeepsP B.H (H++[Blk.arr [Ty.i IntKind.u8] xs false]):=i3.trans (KeepsP.append _ _)
 rcases i7 y xs hy with ⟨rfl,h0,h1⟩|⟨b,o,g1,g2,g3,g4,g5,g6,g7⟩
 · refine⟨i1,i2,hkeep,upd ρ H.length Option.none,i4.trans ((zb9 ρ H.length _).le i3.le),fun ρ' ha => ?_,fun k blk L hid' hb hl' hL => ?_,fun y' xs' hy' => ?_⟩
   · have ha':Agree H.length ρ ρ':=(zb9 ρ H.length _).trans (ha.le (by simp))
     have he:ρ' H.length=Option.none:=by rw[ha H.length (by simp),zij]
     obtain⟨q1,q2⟩:=i5 ρ' ha'
     refine⟨zi6 q1 t hv (.inl ⟨he,rfl,rfl,y.1,by rw[h0,h1]⟩),zwk q2 (Nat.le_refl _) q2.blk (fun L hL _=>by rw[he] at hL;cases hL) (.inl ⟨he,rfl⟩)⟩
   · rcases get k blk hb with ⟨rfl,rfl⟩|⟨hne,hb⟩
     · rw[zij] at hL;cases hL
     · have hk:k<H.length:=by
        rcases Nat.lt_or_ge k H.length with q|q
        · exact q
        · rw[List.getElem?_eq_none q] at hb;cases hb
       exact i6 k blk L hid' hb hl' (by rw[← zb9 ρ H.length Option.none k hk];exact hL)
   · rcases i7 y' xs' hy' with g|⟨b,o,g1,g2,g3,g4,g5,g6,g7⟩
     · exact .inl g
     · exact .inr ⟨b,o,g1,g2,g3,fun ho=>g4 (noown _ b (zb9 ρ H.length _) ho),g5,g6,g7⟩
 · obtain⟨ya,yn,yc⟩:=y
   dsimp only at g1 g2 g5
   subst g1 g2
   refine⟨i1,i2,hkeep,upd ρ H.length (some ⟨b,o,yc,{}⟩),i4.trans ((zb9 ρ H.length _).le i3.le),fun ρ' ha => ?_,fun k blk L hid' hb hl' hL => ?_,fun y' xs' hy' => ?_⟩
   · have ha':Agree H.length ρ ρ':=(zb9 ρ H.length _).trans (ha.le (by simp))
     have he:ρ' H.length=some ⟨b,o,yc,{}⟩:=by rw[ha H.length (by simp),zij]
     obtain⟨q1,q2⟩:=i5 ρ' ha'
     refine⟨zi6 q1 t hv (.inr ⟨⟨b,o,yc,{}⟩,0,he,by show 0+xs.length≤yc;omega,.inl rfl,by simp⟩),⟨fun i c hi => ?_,fun i j c d L M hi hj hne hcl hdl hoo hL hM => ?_,fun i c L hi hl hL => ?_⟩⟩
     · rcases get i c hi with ⟨rfl,rfl⟩|⟨_,hi⟩
       · refine .inr ⟨⟨b,o,yc,{}⟩,he,g5,fun i x hx j u hj => ?_,fun e=>by cases e⟩
         cases j with
         | zero =>
          simp[El.vals,Ty.val] at hj
          subst hj
          have:=g7 i x hx
          simpa using this
         | succ j=>simp[El.vals] at hj
       · exact q2.blk i c hi
     · have own:∀(k:Nat)(c:Blk)(L:Loc),H[k]? = some c→c.own=true→ρ' k=some L→L.b≠b:=by
        intro k c L hk hc hL e
        have hkl:k<H.length:=by
         rcases Nat.lt_or_ge k H.length with q|q
         · exact q
         · rw[List.getElem?_eq_none q] at hk;cases hk
        exact g4 ⟨k,c,L,hk,hc,by rw[← ha' k hkl];exact hL,e⟩
       rcases get i c hi with ⟨rfl,rfl⟩|⟨_,hi⟩
       · rcases get j d hj with ⟨rfl,rfl⟩|⟨_,hj⟩
         · exact absurd rfl hne
         · rw[he] at hL;cases hL
           exact fun e=>own j d M hj (hoo.resolve_left (by simp[Blk.own])) hM e.symm
       · rcases get j d hj with ⟨rfl,rfl⟩|⟨_,hj⟩
         · rw[he] at hM;cases hM
           exact own i c L hi (hoo.resolve_right (by simp[Blk.own])) hL
         · exact q2.sep i j c d L M hi hj hne hcl hdl hoo hL hM
     · rcases get i c hi with ⟨rfl,rfl⟩|⟨_,hi⟩
       · rw[he] at hL;cases hL;exact g3
       · exact q2.inb i c L hi hl hL
   · rcases get k blk hb with ⟨rfl,rfl⟩|⟨hne,hb⟩
     · rw[zij] at hL;cases hL;exact g6
     · have hk:k<H.length:=by
        rcases Nat.lt_or_ge k H.length with q|q
        · exact q
        · rw[List.getElem?_eq_none q] at hb;cases hb
       exact i6 k blk L hid' hb hl' (by rw[← zb9 ρ H.length (some ⟨b,o,yc,{}⟩) k hk];exact hL)
   · rcases i7 y' xs' hy' with g|⟨b',o',k1,k2,k3,k4,k5,k6,k7⟩
     · exact .inl g
     · exact .inr ⟨b',o',k1,k2,k3,fun ho=>k4 (noown _ b' (zb9 ρ H.length _) ho),k5,k6,k7⟩
abbrev zf5:=Ex→List Av→Heap→Fz→Prop
def QW(B:Base)(K:zf5)(e:Exit)(a:Act)(w:World):Prop:=∃ex sl H F,e=zta ex∧zj3 B sl H F a w∧K ex sl H F
theorem QW.mono{B:Base}{K K':zf5}(h:∀ex sl H F,K ex sl H F→K' ex sl H F){e:Exit}{a:Act}{w:World}:QW B K e a w→QW B K' e a w :=
 fun ⟨ex,sl,H,F,h1,h2,h3⟩=>⟨ex,sl,H,F,h1,h2,h _ _ _ _ h3⟩
abbrev Rels:=FuncId→Option RelS
def yp7(P:Program)(R:Rels):Prop:=∀g r,R g=some r→callable P g=true∧yp8 P g r
def relOf(P:Program)(R:Rels)(sl:List Av)(o:Oper):Option (RelS × List Av) :=
 match o.op with
 | .call c=>match callee P sl c with
  | some (g,vs)=>match R g with|some r=>some (r,zko vs)|none=>none
  | none=>none
 | _=>none
def yaa1(P:Program)(D:Dict)(R:Rels)(o:Oper)(k:List Av→Heap→Fz→Prop)(sl:List Av)(H:Heap)(F:Fz):Prop :=
 match relOf P R sl o with
 | some (r,vs)=>match zql (r.S r.d) vs H with
  | some (p,_,_)=>yw5 p (∀z:r.β,match zql (r.S z) vs H with|some (_,av,H')=>(match keeps H H' with|true=>(r.Q z (yn0 vs H) (yck vs H)→k (zps sl o.dst av) H' F)|false=>False)|none=>False)
  | none=>False
 | none=>match estep P (ΓK D 0) o sl H with
  | some (p,av,H')=>yw5 p (k (zps sl o.dst av) H' F)
  | none=>False
def yqo(all:List Oper)(o:Oper)(go skip:List Av→Prop)(sl:List Av):Prop :=
 match o.guard with
 | none=>go sl
 | some (j,b)=>match (all[j]?).bind (·.dst) with
  | some d=>match sl.getD d .any with
   | .tt=>(match b with|true=>go sl|false=>skip sl)
   | .ff=>(match b with|true=>skip sl|false=>go sl)
   | .v (.bool x)=>(x=true→(match b with|true=>go (sl.set d .tt)|false=>skip (sl.set d .tt)))∧(x=false→(match b with|true=>skip (sl.set d .ff)|false=>go (sl.set d .ff)))
   | .v (.tuple _)=>skip sl
   | _=>False
  | none=>False
def runW(P:Program)(D:Dict)(R:Rels)(plan:Nat→Gh)(all:List Oper):Nat→List Oper→zf5→List Av→Heap→Fz→Prop
 | _,[],K,sl,H,F=>K .nrm sl H F
 | i,o::ops,K,sl,H,F=>yqo all o (fun sl=>(plan i).pre (yaa1 P D R o ((plan i).post (runW P D R plan all (i+1) ops K))) sl H F)
  (fun sl=>runW P D R plan all (i+1) ops K (zps sl o.dst (.v undef)) H F) sl
theorem zj3.skip{B:Base}{sl:List Av}{H:Heap}{F:Fz}{a:Act}{w:World}(h:zj3 B sl H F a w)(d:Option Tmp):zj3 B (zps sl d (.v undef)) H F (a.put d undef) w:=by
 obtain⟨h1,h2,h3,ρ,h4,h5,h6,h7⟩:=h
 exact⟨(zgc ..).trans h1,h2,h3,ρ,h4,fun ρ' hag=>⟨zl5 (h5 ρ' hag).1 (show Rv ρ' (.v undef) undef from rfl) d,(h5 ρ' hag).2⟩,h6,h7⟩
theorem zj3.slot{B:Base}{sl:List Av}{H:Heap}{F:Fz}{a:Act}{w:World}(h:zj3 B sl H F a w){d:Nat}{x:Av}(hd:sl.getD d .any=x)(hx:x ≠ .any):∃ρ v,a.tmps[d]? = some v∧Rv ρ x v:=by
 obtain⟨h1,h2,h3,ρ,h4,h5,h6,h7⟩:=h
 have hs:=(h5 ρ (Agree.refl _ _)).1
 have:sl[d]? = some x:=by
  rw[List.getD_eq_getElem?_getD] at hd
  cases hh:sl[d]? with
  | none=>rw[hh] at hd;exact absurd hd.symm hx
  | some z=>rw[hh] at hd;exact congrArg some hd
 obtain⟨v,e1,e2⟩:=zfz hs this
 exact⟨ρ,v,by simpa using e1,e2⟩
def yzs(all:List Oper)(left:List Nat):List Nat:=left.filter fun i=>match all[i]? with
 | some o=>o.after.toList.all fun e => !Region.binds .any e || !left.contains e.on
 | none=>false
def yye(P:Program)(o:Oper)(sl:List Av):Bool :=
 o.guard.isNone&&(match o.op with
 | .move _=>true
 | .fieldAddr s x f=>(match zey P s f (evS sl x) with|some (_,.ptr _ _)=>true|some (_,.eptr _ _ _ _)=>true|_=>false)
 | _=>false)
def freeL(all:List Oper)(left:List Nat)(i:Nat):Bool:=match all[i]? with
 | some o=>left.all fun j=>j==i||(match all[j]? with
  | some p=>p.after.any (fun e=>Region.binds .any e&&e.on==i)||o.apart all.toArray p
  | none=>true)
 | none=>false
def yql(P:Program)(all:List Oper)(left:List Nat)(sl:List Av):List Nat→Option Nat
 | []=>none
 | i::is=>match (match all[i]? with|some o=>yye P o sl&&freeL all left i|none=>false) with|true=>some i|false=>yql P all left sl is
def anyW(P:Program)(D:Dict)(R:Rels)(all:List Oper):Nat→List Nat→zf5→List Av→Heap→Fz→Prop
 | _,[],K,sl,H,F=>K .nrm sl H F
 | 0,_::_,_,_,_,_=>False
 | n+1,j::left,K,sl,H,F=>match yzs all (j::left) with
  | []=>False
  | r::rs=>zsy ((match yql P all (j::left) sl (r::rs) with|some i=>[i]|none=>r::rs).map fun i=>match all[i]? with
   | some o=>yqo all o (fun sl=>yaa1 P D R o (fun sl H F=>anyW P D R all n ((j::left).filter fun k => !(k==i)) K sl H F) sl H F)
    (fun sl=>anyW P D R all n ((j::left).filter fun k => !(k==i)) K (zps sl o.dst (.v undef)) H F) sl
   | none=>False)
theorem zj3.world{B:Base}{sl:List Av}{H:Heap}{F:Fz}{a:Act}{w w':World}(h:zj3 B sl H F a w)(hf:Fr (fun _=>False) w w'):zj3 B sl H F a w':=by
 obtain⟨h1,h2,h3,ρ,h4,h5,h6,h7⟩:=h
 refine⟨h1,h2.trans hf (fun _ _ e=>e.elim),h3,ρ,h4,fun ρ' ha=>⟨(h5 ρ' ha).1,zlh (h5 ρ' ha).2 hf⟩,h6,fun y xs hy => ?_⟩
 rcases h7 y xs hy with g|⟨b,o,g1,g2,g3,g4,g5,g6,g7⟩
 · exact .inl g
 · exact .inr ⟨b,o,g1,g2,Nat.lt_of_lt_of_le g3 hf.1,g4,g5,g6,fun j v hj=>by rw[zcv (a:=⟨b,o+j,none⟩) (hf.2 b g3 id)];exact g7 j v hj⟩
def ytf(all:List Oper):Bool:=all.all fun o=>o.after.toList.all fun e => !Region.binds .any e||decide (e.on<all.length)
def yyd(P:Program)(D:Dict)(R:Rels)(ops:Array Oper)(K:zf5)(sl:List Av)(H:Heap)(F:Fz):Prop:=match ytf ops.toList&&Region.noSelect ops with|true=>anyW P D R ops.toList ops.toList.length (List.range ops.toList.length) K sl H F|false=>False
structure FamW (α:Type) where
 β:Type
 out:α→β→Prop
 ex:Ex
 sl:β→List Av
 H:β→Heap
 F:β→Fz:=fun _=>Fz.none
structure LoopW where
 α:Type
 I:α→Prop
 sl:α→List Av
 H:α→Heap
 F:α→Fz:=fun _=>Fz.none
 fams:List (FamW α)
structure CutW where
 β:Type
 sl:β→List Av
 H:β→Heap
 F:β→Fz:=fun _=>Fz.none
structure SpecW where
 loop:Nat→Option LoopW:=fun _=>none
 cond:Nat→Option CutW:=fun _=>none
 cut:Nat→Option CutW:=fun _=>none
 plan:Nat→Option (Nat→Gh):=fun _=>none
 fin:Nat→Option CutW:=fun _=>none
def yvo(F G:Fz):Prop:=∀y xs,F y xs→G y xs
def thenW(K1:List Av→Heap→Fz→Prop)(K:zf5):zf5
 | .nrm,sl,H,F=>K1 sl H F
 | e,sl,H,F=>K e sl H F
def yx0(id:Nat)(K:zf5):zf5
 | .ext j,sl,H,F=>match j==id with|true=>K .nrm sl H F|false=>K (.ext j) sl H F
 | e,sl,H,F=>K e sl H F
def cutKW(n0:Nat)(C:CutW)(J:C.β→Prop)(K:zf5):zf5
 | .nrm,sl,H,F=>∃z,zf3 n0 (C.sl z) (C.H z) sl H∧yvo (C.F z) F∧J z
 | e,sl,H,F=>K e sl H F
def famsW{α:Type}(fs:List (FamW α))(x:α)(K:zf5):Prop:=zsy (fs.map fun f=>∀z,f.out x z→K f.ex (f.sl z) (f.H z) (f.F z))
def yze(n0:Nat)(C:Option CutW)(K:zf5)(body:zf5→Prop):Prop :=
 match C with
 | none=>body K
 | some C=>∃J:C.β→Prop,body (cutKW n0 C J K)∧∀z,J z→K .nrm (C.sl z) (C.H z) (C.F z)
def regW(P:Program)(D:Dict)(R:Rels)(plan:Option (Nat→Gh))(ops:Array Oper)(draw:Bool)(K:zf5)(sl:List Av)(H:Heap)(F:Fz):Prop :=
 match plan with
 | some plan=>(match !draw with|true=>runW P D R plan ops.toList 0 ops.toList K sl H F|false=>yyd P D R ops K sl H F)
 | none=>yzt P D ops draw (fun ex sl H=>K ex sl H F) sl H
def vcW(P:Program)(D:Dict)(R:Rels)(Ξ:SpecW)(n0:Nat):Code→zf5→List Av→Heap→Fz→Prop
 | .skip,K,sl,H,F=>K .nrm sl H F
 | .label _,K,sl,H,F=>K .nrm sl H F
 | .exit id,K,sl,H,F=>K (.ext id) sl H F
 | .ret,K,sl,H,F=>K .ret sl H F
 | .region id ops draw,K,sl,H,F=>yze n0 (Ξ.fin id) K fun K=>match Ξ.cut id with
  | none=>regW P D R (Ξ.plan id) ops draw K sl H F
  | some C=>∃J:C.β→Prop,(∃z,zf3 n0 (C.sl z) (C.H z) sl H∧yvo (C.F z) F∧J z)∧∀z,J z→regW P D R (Ξ.plan id) ops draw K (C.sl z) (C.H z) (C.F z)
 | .seq a b,K,sl,H,F=>vcW P D R Ξ n0 a (thenW (fun sl H F=>vcW P D R Ξ n0 b K sl H F) K) sl H F
 | .cond c a b,K,sl,H,F =>
  match evS sl c with
  | .tt=>vcW P D R Ξ n0 a K sl H F
  | .ff=>vcW P D R Ξ n0 b K sl H F
  | .v (.bool x)=>yze n0 (match zbj a with|some k=>Ξ.cond k|none=>match zbj b with|some k=>Ξ.cond k|none=>none) K fun K'=>(x=true→vcW P D R Ξ n0 a K' sl H F)∧(x=false→vcW P D R Ξ n0 b K' sl H F)
  | _=>False
 | .block id c,K,sl,H,F=>vcW P D R Ξ n0 c (yx0 id K) sl H F
 | .loop body,K,sl,H,F =>
  match zbj body with
  | some k=>match Ξ.loop k with
   | some L=>∃x:L.α,zf3 n0 (L.sl x) (L.H x) sl H∧yvo (L.F x) F∧L.I x∧famsW L.fams x K
   | none=>False
  | none=>False
 | _,_,_,_,_=>False
theorem zj3.recast{B:Base}{φ:Ren}{sl1 sl2:List Av}{H1 H2:Heap}{F:Fz}{a:Act}{w:World}(h:zj3 B sl1 H1 F a w)(hf:Fit B φ sl2 H2 sl1 H1):zj3 B sl2 H2 F a w:=by
 obtain⟨ps,hc,hps⟩:=hf.ok
 rw[zcu] at hps
 unfold yx3 at hc
 split at hc
 case isFalse=>cases hc
 rename_i hk
 simp only[Bool.and_eq_true,decide_eq_true_eq] at hk
 obtain⟨p1,p2,h1,h2,rfl⟩:=zg9 hc
 obtain⟨i1,i2,i3,ρ,i4,i5,i6,i7⟩:=h
 obtain⟨hs,hr⟩:=i5 ρ (Agree.refl _ _)
 have hpH:∀p ∈ p2,p:=fun p hp=>hps p (by simp[hp])
 obtain⟨k1,_⟩:=zm0 hk.2
 have hown:∀b,owns (zub ρ B.H.length φ) H2 b→owns ρ H1 b:=by
  rintro b ⟨id,blk,L,g1,g2,g3,g4⟩
  rcases zdn h2 hpH id blk g1 (za8 g2) with ⟨j,d,qs,e1,e2,e3,e4⟩|⟨e1,_⟩
  · rw[Nat.zero_add] at e1
    unfold zub at g3
    rw[e1] at g3
    exact⟨j,d,L,e2,(zbm e3).1 g2,g3,g4⟩
  · rw[Nat.zero_add] at e1
    unfold zub at g3
    rw[e1] at g3
    cases g3
 refine⟨i1,i2,⟨hk.1,fun i b c hb hc' => ?_⟩,zub ρ B.H.length φ,fun i hi => ?_,fun ρ' hag => ?_,fun id blk L hid hb hl hL => ?_,fun y xs hy => ?_⟩
 · have hlt:i<B.H.length:=by
    rcases Nat.lt_or_ge i B.H.length with q|q
    · exact q
    · simp[List.getElem?_eq_none q] at hb
   cases hl:c.live with
   | false=>cases c<;>simp[Blk.live] at hl;exact⟨fun h=>(by cases h),fun h=>(by cases h)⟩
   | true =>
    rcases zdn h2 hpH i c hc' hl with ⟨j,d,qs,g1,g2,g3,g4⟩|⟨g1,_⟩
    · rw[Nat.zero_add,zfb hlt] at g1
      simp only[Option.some.injEq] at g1
      subst g1
      obtain⟨f1,f2⟩:=i3.fl i b d hb g2
      obtain⟨e1,e2⟩:=zbm g3
      exact⟨fun h=>f1 (e1 h),fun _=>f2 (e2 hl)⟩
    · rw[Nat.zero_add,zfb hlt] at g1;simp at g1
 · unfold zub
   rw[zfb hi]
   exact i4 i hi
 · obtain⟨hφ,hrel⟩:=ziv hk.2 hk.1 h2 hpH hr hag
   exact⟨zhc hφ h1 (fun p hp=>hps p (by simp[hp])) hs,hrel⟩
 · rcases zdn h2 hpH id blk hb hl with ⟨j,d,qs,g1,g2,g3,g4⟩|⟨g1,_⟩
   · rw[Nat.zero_add] at g1
     unfold zub at hL
     rw[g1] at hL
     rw[zhh hid] at g1
     rcases zne ((k1 id _ g1).2.2 j rfl) with g|⟨_,g⟩
     · exact i6 j d L g g2 ((zbm g3).2 hl) hL
     · rcases Nat.lt_or_ge j B.H.length with q|q
       · left
         refine⟨j,B.H[j],L,List.getElem?_eq_getElem q,(i3.fl j _ d (List.getElem?_eq_getElem q) g2).1 (g d g2), ?_,rfl⟩
         rw[← i4 j q];exact hL
       · exact i6 j d L q g2 ((zbm g3).2 hl) hL
   · rw[Nat.zero_add] at g1
     unfold zub at hL
     rw[g1] at hL
     cases hL
 · rcases i7 y xs hy with g|⟨b,o,g1,g2,g3,g4,g5,g6,g7⟩
   · exact .inl g
   · exact .inr ⟨b,o,g1,g2,g3,fun ho=>g4 (hown b ho),g5,g6,g7⟩
def yu2(n0:Nat)(L:LoopW)(μ:L.α→Nat)(x:L.α):zf5
 | .nrm,sl,H,F=>∃y,zf3 n0 (L.sl y) (L.H y) sl H∧yvo (L.F y) F∧L.I y∧μ y<μ x∧zsy (L.fams.map fun f=>∀z,f.out y z→f.out x z)
 | ex,sl,H,F=>ymg ((L.fams.filter fun f=>f.ex.same ex).map fun f=>∃z,zf3 n0 (f.sl z) (f.H z) sl H∧yvo (f.F z) F∧f.out x z)
def you(P:Program)(D:Dict)(R:Rels)(Ξ:SpecW)(n0:Nat)(body:Code)(L:LoopW)(μ:L.α→Nat)(x:L.α):Prop:=vcW P D R Ξ n0 body (yu2 n0 L μ x) (L.sl x) (L.H x) (L.F x)
def retR(P:Program)(fn:Func)(r:RelS)(args:List Av)(H0:Heap):zf5:=fun ex sl H _ =>
 match ex with
 | .ext _=>False
 | .pan _=>False
 | _=>match yqb P fn sl H with
  | some av=>∃z:r.β,(match r.S z args H0 with|some (_,v,H')=>zf3 H0.length [v] H' [av] H|none=>False)∧r.Q z args H0
  | none=>False
def vcR(P:Program)(D:Dict)(R:Rels)(Ξ:SpecW)(fn:Func)(r:RelS)(args:List Av)(H:Heap):Prop:=vcW P D R Ξ H.length (zau fn) (retR P fn r args H) (zc0 fn args) H Fz.none
attribute [irreducible] you vcR
def Rels.of(l:List (FuncId × RelS)):Rels:=fun g=>l.lookup g
theorem Rels.nil{P:Program}:yp7 P (Rels.of []):=fun g r h=>by cases h
theorem zm6{β:Type 1}:∀{l:List (FuncId × β)}{g:FuncId}{r:β},l.lookup g=some r→(g,r) ∈ l
 | [],g,r,h=>by cases h
 | (k,v)::l,g,r,h=>by
  simp only[List.lookup_cons] at h
  split at h
  · rename_i e
    have e':g=k:=by simpa using e
    simp only[Option.some.injEq] at h
    subst e' h
    exact List.mem_cons_self
  · exact List.mem_cons_of_mem _ (zm6 h)
theorem Rels.ok{P:Program}{l:List (FuncId × RelS)}(h:∀p ∈ l,callable P p.1=true∧yp8 P p.1 p.2):yp7 P (Rels.of l):=fun g r hr=>h (g,r) (zm6 hr)
def Low(H0 H:Heap):Prop:=H0.length=H.length∧∀(i:Nat)(b:Blk),H0[i]? = some b→∃c,H[i]? = some c∧(b=c∨b=roB c)
theorem Low.rel{H0 H:Heap}(h:Low H0 H){ρ:Env}{w:World}(g:Rel ρ H w):Rel ρ H0 w:=by
 have live:∀{b c:Blk},(b=c∨b=roB c)→b.live=true→c.live=true:=by
  rintro b c (rfl|rfl) hl
  · exact hl
  · rwa [zls] at hl
 have own:∀{b c:Blk},(b=c∨b=roB c)→b.own=true→c.own=true:=by
  rintro b c (rfl|rfl) hl
  · exact hl
  · rw[zix] at hl;cases hl
 refine⟨fun i b hi => ?_,fun i j b c L M hi hj hne hb hc hoo hL hM => ?_,fun i b L hi hb hL => ?_⟩
 · obtain⟨c,hc,rfl|rfl⟩:=h.2 i b hi
   · exact g.blk i _ hc
   · exact yxu (g.blk i c hc)
 · obtain⟨b',hb1,hb2⟩:=h.2 i b hi
   obtain⟨c',hc1,hc2⟩:=h.2 j c hj
   exact g.sep i j b' c' L M hb1 hc1 hne (live hb2 hb) (live hc2 hc) (hoo.imp (own hb2) (own hc2)) hL hM
 · obtain⟨b',hb1,hb2⟩:=h.2 i b hi
   exact g.inb i b' L hb1 (live hb2 hb) hL
theorem Low.owns{H0 H:Heap}(h:Low H0 H){ρ:Env}{b:Nat}(g:owns ρ H0 b):owns ρ H b:=by
 obtain⟨id,blk,L,g1,g2,g3,g4⟩:=g
 obtain⟨c,hc,rfl|rfl⟩:=h.2 id blk g1
 · exact⟨id,_,L,hc,g2,g3,g4⟩
 · rw[zix] at g2;cases g2
def retP(P:Program)(fn:Func)(n0:Nat)(H0:Heap)(Rs:List Pm)(kind:PmT Rs→Prop):zf5:=fun ex sl H _ =>
 match ex with
 | .ext _=>False
 | .pan _=>False
 | _=>match yqb P fn sl H with
  | some av=>∃z:PmT Rs,zf3 n0 [(zin true Rs z n0).1] (H0++(zin true Rs z n0).2) [av] H∧kind z
  | none=>False
def vcP(P:Program)(D:Dict)(R:Rels)(Ξ:SpecW)(fn:Func)(As Rs:List Pm)(x:PmT As)(kind:PmT Rs→Prop):Prop:=vcW P D R Ξ (zav false As x 0).2.length (zau fn) (retP P fn (zav false As x 0).2.length (zav false As x 0).2 Rs kind) (zc0 fn (zav false As x 0).1) (zav false As x 0).2 Fz.none
attribute [irreducible] vcP
def yu1(n0:Nat)(L:LoopW)(μ:L.α→Nat){β:Type}(e:β→L.α)(x:L.α):zf5
 | .nrm,sl,H,F=>∃y:β,zf3 n0 (L.sl (e y)) (L.H (e y)) sl H∧yvo (L.F (e y)) F∧L.I (e y)∧μ (e y)<μ x∧zsy (L.fams.map fun f=>∀z,f.out (e y) z→f.out x z)
 | ex,sl,H,F=>ymg ((L.fams.filter fun f=>f.ex.same ex).map fun f=>∃z,zf3 n0 (f.sl z) (f.H z) sl H∧yvo (f.F z) F∧f.out x z)
def yot(P:Program)(D:Dict)(R:Rels)(Ξ:SpecW)(n0:Nat)(body:Code)(L:LoopW)(μ:L.α→Nat){β:Type}(e:β→L.α)(x:L.α):Prop:=vcW P D R Ξ n0 body (yu1 n0 L μ e x) (L.sl x) (L.H x) (L.F x)
attribute [irreducible] yot
mutual
def inA(i k:Nat):Av→Bool
 | .ptr id sub => !(id==i)||decide (k≤sub)
 | .eptr id _ _ _ => !(id==i)
 | .sl id _ _ _ => !(id==i)
 | .agg cs=>inL i k cs
 | .tup cs=>inL i k cs
 | .fn _ cs=>inL i k cs
 | .ifc _ x=>inA i k x
 | .opq ids _ => !ids.contains i
 | _=>true
def inL(i k:Nat):List Av→Bool
 | []=>true
 | a::as=>inA i k a&&inL i k as
end
mutual
def mvA(i:Nat)(f:Nat→Nat):Av→Av
 | .ptr id sub=>match id==i with|true => .ptr id (f sub)|false => .ptr id sub
 | .agg cs => .agg (mvL i f cs)
 | .tup cs => .tup (mvL i f cs)
 | .fn g cs => .fn g (mvL i f cs)
 | .ifc t x => .ifc t (mvA i f x)
 | .eptr id sz j sub => .eptr id sz j sub
 | .sl id sz lo len => .sl id sz lo len
 | .any => .any
 | .q p => .q p
 | .zp => .zp
 | .opq ids X => .opq ids X
 | .tt => .tt
 | .ff => .ff
 | .v x => .v x
def mvL(i:Nat)(f:Nat→Nat):List Av→List Av
 | []=>[]
 | a::as=>mvA i f a::mvL i f as
end
def zkl(ρ:Env)(i k:Nat)(hid:Hid):Env:=fun j=>if j=i then (ρ i).map (fun L=>⟨L.b,L.off+k,L.cap,hid⟩) else ρ j
theorem zc3{ρ:Env}{i k j:Nat}{hid:Hid}(h:j≠i):zkl ρ i k hid j=ρ j:=by unfold zkl;rw[if_neg h]
theorem zjm{ρ:Env}{i k:Nat}{hid:Hid}{ids:List Nat}(h:(!ids.contains i)=true):ids.map (spot (zkl ρ i k hid))=ids.map (spot ρ):=zgv ids (fun j hj=>zc3 (fun e=>by subst e;simp[hj] at h))
mutual
theorem zxp{ρ:Env}{i k:Nat}{hid:Hid}:∀(a:Av)(y:Value),inA i k a=true→(Rv ρ a y↔Rv (zkl ρ i k hid) (mvA i (· - k) a) y)
 | .ptr id sub,y,h=>by
  simp only[inA,Bool.or_eq_true,Bool.not_eq_true',beq_eq_false_iff_ne,decide_eq_true_eq] at h
  simp only[mvA]
  by_cases e:id=i
  · subst e
    have hk:k≤sub:=h.resolve_left (fun q=>q rfl)
    simp only[beq_self_eq_true,Rv,zkl,if_true]
    constructor
    · rintro⟨L,h1,rfl⟩
      exact⟨_,by rw[h1];rfl,by simp only;rw[show L.off+k+(sub-k)=L.off+sub by omega]⟩
    · rintro⟨L,h1,rfl⟩
      cases hL:ρ id with
      | none=>rw[hL] at h1;cases h1
      | some M =>
       rw[hL] at h1
       cases h1
       exact⟨M,rfl,by simp only;rw[show M.off+k+(sub-k)=M.off+sub by omega]⟩
  · rw[show (id==i)=false by simpa using e]
    simp only[Rv,zkl,if_neg e]
 | .eptr id _ _ _,y,h=>by
  have e:id≠i:=by simpa[inA] using h
  simp only[mvA,Rv,zkl,if_neg e]
 | .sl id _ _ _,y,h=>by
  have e:id≠i:=by simpa[inA] using h
  simp only[mvA,Rv,zkl,if_neg e]
 | .agg cs,y,h=>by
  simp only[inA] at h
  simp only[mvA,Rv]
  exact⟨fun ⟨vs,e,g⟩=>⟨vs,e,(zd8 cs vs h).1 g⟩,fun ⟨vs,e,g⟩=>⟨vs,e,(zd8 cs vs h).2 g⟩⟩
 | .tup cs,y,h=>by
  simp only[inA] at h
  simp only[mvA,Rv]
  exact⟨fun ⟨vs,e,g⟩=>⟨vs,e,(zd8 cs vs h).1 g⟩,fun ⟨vs,e,g⟩=>⟨vs,e,(zd8 cs vs h).2 g⟩⟩
 | .fn _ cs,y,h=>by
  simp only[inA] at h
  simp only[mvA,Rv]
  exact⟨fun ⟨vs,e,g⟩=>⟨vs,e,(zd8 cs vs h).1 g⟩,fun ⟨vs,e,g⟩=>⟨vs,e,(zd8 cs vs h).2 g⟩⟩
 | .ifc _ x,y,h=>by
  simp only[inA] at h
  simp only[mvA,Rv]
  exact⟨fun ⟨u,e,g⟩=>⟨u,e,(zxp x u h).1 g⟩,fun ⟨u,e,g⟩=>⟨u,e,(zxp x u h).2 g⟩⟩
 | .any,_,_=>Iff.rfl
 | .q _,_,_=>Iff.rfl
 | .zp,_,_=>Iff.rfl
 | .opq ids X,y,h=>by
  simp only[inA] at h
  simp only[mvA,Rv]
  rw[zjm h]
 | .tt,_,_=>Iff.rfl
 | .ff,_,_=>Iff.rfl
 | .v _,_,_=>Iff.rfl
theorem zd8{ρ:Env}{i k:Nat}{hid:Hid}:∀(as:List Av)(ys:List Value),inL i k as=true→(RvL ρ as ys↔RvL (zkl ρ i k hid) (mvL i (· - k) as) ys)
 | [],[],_=>Iff.rfl
 | [],_::_,_=>Iff.rfl
 | _::_,[],_=>Iff.rfl
 | a::as,y::ys,h=>by
  simp only[inL,Bool.and_eq_true] at h
  simp only[mvL,RvL]
  rw[zxp a y h.1,zd8 as ys h.2]
end
mutual
theorem yno{ρ:Env}{i k:Nat}{hid:Hid}:∀(a:Av)(y:Value),inA i 0 a=true→(Rv (zkl ρ i k hid) a y↔Rv ρ (mvA i (· + k) a) y)
 | .ptr id sub,y,h=>by
  simp only[mvA]
  by_cases e:id=i
  · subst e
    simp only[beq_self_eq_true,Rv,zkl,if_true]
    constructor
    · rintro⟨L,h1,rfl⟩
      cases hL:ρ id with
      | none=>rw[hL] at h1;cases h1
      | some M =>
       rw[hL] at h1
       cases h1
       exact⟨M,rfl,by simp only;rw[show M.off+k+sub=M.off+(sub+k) by omega]⟩
    · rintro⟨L,h1,rfl⟩
      exact⟨_,by rw[h1];rfl,by simp only;rw[show L.off+k+sub=L.off+(sub+k) by omega]⟩
  · rw[show (id==i)=false by simpa using e]
    simp only[Rv,zkl,if_neg e]
 | .eptr id _ _ _,y,h=>by
  have e:id≠i:=by simpa[inA] using h
  simp only[mvA,Rv,zkl,if_neg e]
 | .sl id _ _ _,y,h=>by
  have e:id≠i:=by simpa[inA] using h
  simp only[mvA,Rv,zkl,if_neg e]
 | .agg cs,y,h=>by
  simp only[inA] at h
  simp only[mvA,Rv]
  exact⟨fun ⟨vs,e,g⟩=>⟨vs,e,(zjp cs vs h).1 g⟩,fun ⟨vs,e,g⟩=>⟨vs,e,(zjp cs vs h).2 g⟩⟩
 | .tup cs,y,h=>by
  simp only[inA] at h
  simp only[mvA,Rv]
  exact⟨fun ⟨vs,e,g⟩=>⟨vs,e,(zjp cs vs h).1 g⟩,fun ⟨vs,e,g⟩=>⟨vs,e,(zjp cs vs h).2 g⟩⟩
 | .fn _ cs,y,h=>by
  simp only[inA] at h
  simp only[mvA,Rv]
  exact⟨fun ⟨vs,e,g⟩=>⟨vs,e,(zjp cs vs h).1 g⟩,fun ⟨vs,e,g⟩=>⟨vs,e,(zjp cs vs h).2 g⟩⟩
 | .ifc _ x,y,h=>by
  simp only[inA] at h
  simp only[mvA,Rv]
  exact⟨fun ⟨u,e,g⟩=>⟨u,e,(yno x u h).1 g⟩,fun ⟨u,e,g⟩=>⟨u,e,(yno x u h).2 g⟩⟩
 | .any,_,_=>Iff.rfl
 | .q _,_,_=>Iff.rfl
 | .zp,_,_=>Iff.rfl
 | .opq ids X,y,h=>by
  simp only[inA] at h
  simp only[mvA,Rv]
  rw[zjm h]
 | .tt,_,_=>Iff.rfl
 | .ff,_,_=>Iff.rfl
 | .v _,_,_=>Iff.rfl
theorem zjp{ρ:Env}{i k:Nat}{hid:Hid}:∀(as:List Av)(ys:List Value),inL i 0 as=true→(RvL (zkl ρ i k hid) as ys↔RvL ρ (mvL i (· + k) as) ys)
 | [],[],_=>Iff.rfl
 | [],_::_,_=>Iff.rfl
 | _::_,[],_=>Iff.rfl
 | a::as,y::ys,h=>by
  simp only[inL,Bool.and_eq_true] at h
  simp only[mvL,RvL]
  rw[yno a y h.1,zjp as ys h.2]
end
theorem zdi(i:Nat)(f:Nat→Nat):∀l:List Av,(mvL i f l).length=l.length
 | []=>rfl
 | _::l=>by simp[mvL,zdi i f l]
def mvB(i:Nat)(f:Nat→Nat):Blk→Blk
 | .fix cs o ty => .fix (mvL i f cs) o ty
 | .arr sh xs o => .arr sh xs o
 | .ob o ids s R => .ob o ids s R
 | .dead => .dead
def yty(i k:Nat):Blk→Bool
 | .fix cs _ _=>inL i k cs
 | .ob _ ids _ _ => !ids.contains i
 | _=>true
theorem zxo(i:Nat)(f:Nat→Nat)(b:Blk):(mvB i f b).own=b.own:=by cases b<;>rfl
theorem zjo(i:Nat)(f:Nat→Nat)(b:Blk):(mvB i f b).live=b.live:=by cases b<;>rfl
theorem zgp{ρ:Env}{i k:Nat}{hid:Hid}{L:Loc}(h:ρ i=some L):zkl ρ i k hid i=some ⟨L.b,L.off+k,L.cap,hid⟩:=by unfold zkl;rw[if_pos rfl,h];rfl
theorem yss{ρ:Env}{i k id:Nat}{hid:Hid}{w:World}{b:Blk}(hne:id≠i)(hin:yty i k b=true)(h:Rb ρ w id b):Rb (zkl ρ i k hid) w id (mvB i (· - k) b):=by
 cases b with
 | dead=>trivial
 | arr sh xs o=>simp only[mvB,Rb,zc3 hne] at h ⊢;exact h
 | ob o ids s R =>
  simp only[yty] at hin
  have e:spot (zkl ρ i k hid) id=spot ρ id:=by unfold spot;rw[zc3 hne]
  simp only[mvB,Rb,zc3 hne,zjm hin,e] at h ⊢
  exact h
 | fix cs o ty =>
  obtain⟨L,vs,h1,h2,h3,h4,h5,h6⟩:=h
  exact⟨L,vs,by rw[zc3 hne];exact h1,(zd8 cs vs hin).1 h2,h3,by rw[zdi];exact h4,h5,by rw[zdi];exact h6⟩
theorem Rb_up{ρ:Env}{i k id:Nat}{hid:Hid}{w:World}{b:Blk}(hne:id≠i)(hin:yty i 0 b=true)(h:Rb (zkl ρ i k hid) w id b):Rb ρ w id (mvB i (· + k) b):=by
 cases b with
 | dead=>trivial
 | arr sh xs o=>simp only[mvB,Rb,zc3 hne] at h ⊢;exact h
 | ob o ids s R =>
  simp only[yty] at hin
  have e:spot (zkl ρ i k hid) id=spot ρ id:=by unfold spot;rw[zc3 hne]
  simp only[mvB,Rb,zc3 hne,zjm hin,e] at h ⊢
  exact h
 | fix cs o ty =>
  obtain⟨L,vs,h1,h2,h3,h4,h5,h6⟩:=h
  exact⟨L,vs,by rw[← zc3 (ρ:=ρ) (k:=k) (hid:=hid) hne];exact h1,(zjp cs vs hin).1 h2,h3,by rw[zdi];exact h4,h5,by rw[zdi];exact h6⟩
def ygt(L:Loc)(us:List Value)(k n:Nat)(s:Option (TypeId × Nat)):Hid:=⟨(us.zipIdx.filter fun p=>decide (p.2<k)||decide (k+n≤p.2)).map (fun p=>(L.off+p.2,p.1))++L.hid.cs,s⟩
theorem ygu{L:Loc}{us:List Value}{k n:Nat}{s:Option (TypeId × Nat)}{j:Nat}{v:Value}(h:us[j]? = some v)(hj:j<k∨k+n≤j):(L.off+j,v) ∈ (ygt L us k n s).cs:=by
 unfold ygt
 refine List.mem_append_left _ (List.mem_map.2 ⟨(v,j),List.mem_filter.2 ⟨List.mem_zipIdx_iff_getElem?.2 h, ?_⟩,rfl⟩)
 simp only[Bool.or_eq_true,decide_eq_true_eq]
 exact hj
theorem ygv{L:Loc}{us:List Value}{k n:Nat}{s:Option (TypeId × Nat)}{p:Nat × Value}(h:p ∈ L.hid.cs):p ∈ (ygt L us k n s).cs:=List.mem_append_right _ h
theorem zxf{L:Loc}{us:List Value}{k n:Nat}{s:Option (TypeId × Nat)}{p:Nat × Value}(h:p ∈ (ygt L us k n s).cs):(∃j,us[j]? = some p.2∧p.1=L.off+j∧(j<k∨k+n≤j))∨p ∈ L.hid.cs:=by
 rcases List.mem_append.1 h with g|g
 · obtain⟨q,q1,rfl⟩:=List.mem_map.1 g
   obtain⟨q2,q3⟩:=List.mem_filter.1 q1
   simp only[Bool.or_eq_true,decide_eq_true_eq] at q3
   exact .inl ⟨q.2,List.mem_zipIdx_iff_getElem?.1 q2,rfl,q3⟩
 · exact .inr g
def view(i k n:Nat)(T:Sum):Sum:=fun args H =>
 match H[i]? with
 | some (.fix cells true ty) =>
  match decide (k+n≤cells.length)&&inL i k args&&inL i k ((cells.drop k).take n)&&(H.set i .dead).all (yty i k)&&(zof cells).all (fun j=>decide (j<H.length)) with
  | true =>
   match T (mvL i (· - k) args) ((H.map (mvB i (· - k))).set i (.fix (mvL i (· - k) ((cells.drop k).take n)) true none)) with
   | some (p,v,H') =>
    match H'[i]? with
    | some (.fix cells' true none) =>
     match decide (cells'.length=n)&&decide (H.length≤H'.length)&&inA i 0 v&&inL i 0 cells'&&H'.all (yty i 0) with
     | true=>some (p,mvA i (· + k) v,(H'.map (mvB i (· + k))).set i (.fix (cells.take k++(mvL i (· + k) cells'++cells.drop (k+n))) true ty))
     | false=>none
    | _=>none
   | none=>none
  | false=>none
 | _=>none
theorem ywx{P:Program}{E:Value→Ending}{f:FuncId}{i k n:Nat}{T:Sum}(hT:zcp P E f T):zcp P E f (view i k n T):=by
 intro args H p v H' h hp ρ vs w hw
 unfold view at h
 split at h
 case h_2=>cases h
 rename_i cells ty hb
 split at h
 case h_2=>cases h
 rename_i hc
 simp only[Bool.and_eq_true,decide_eq_true_eq,List.all_eq_true] at hc
 obtain⟨⟨⟨⟨hlen,hia⟩,him⟩,hiH⟩,hids⟩:=hc
 split at h
 case h_2=>cases h
 rename_i p0 v0 H0' hTs
 split at h
 case h_2=>cases h
 rename_i cells' hb'
 split at h
 case h_2=>cases h
 rename_i hc'
 simp only[Bool.and_eq_true,decide_eq_true_eq,List.all_eq_true] at hc'
 obtain⟨⟨⟨⟨hlen',hle⟩,hiv⟩,hic⟩,hiH'⟩:=hc'
 simp only[Option.some.injEq,Prod.mk.injEq] at h
 obtain⟨rfl,rfl,rfl⟩:=h
 have hi:i<H.length:=by
  rcases Nat.lt_or_ge i H.length with q|q
  · exact q
  · rw[List.getElem?_eq_none q] at hb;cases hb
 have hi':i<H0'.length:=Nat.lt_of_lt_of_le hi hle
 obtain⟨hargs,hrel⟩:=hw ρ (Agree.refl _ _)
 obtain⟨L,us,hL,hv,hcl,hfz,hty,hkp⟩:=hrel.blk i _ hb
 have hul:=zbf hv
 have inOther:∀(id:Nat)(b:Blk),id≠i→H[id]? = some b→yty i k b=true:=fun id b hne hid=>hiH b (by
  have:(H.set i .dead)[id]? = some b:=by rw[List.getElem?_set_ne (Ne.symm hne)];exact hid
  exact List.mem_of_getElem? this)
 generalize hhid:ygt L us k n (w.shape? L.b)=HD
 generalize hHd:(H.map (mvB i (· - k))).set i (.fix (mvL i (· - k) ((cells.drop k).take n)) true none)=Hd at hTs
 have hHdl:Hd.length=H.length:=by rw[← hHd];simp
 have getd:∀(id:Nat)(b:Blk),Hd[id]? = some b→(id=i∧b = .fix (mvL i (· - k) ((cells.drop k).take n)) true none)∨(id≠i∧∃c,H[id]? = some c∧b=mvB i (· - k) c):=by
  intro id b hid
  rw[← hHd] at hid
  by_cases e:i=id
  · subst e
    rw[List.getElem?_set_self (by simpa using hi)] at hid
    exact .inl ⟨rfl,by simpa using hid.symm⟩
  · rw[List.getElem?_set_ne e,List.getElem?_map] at hid
    cases hh:H[id]? with
    | none=>rw[hh] at hid;cases hid
    | some c=>rw[hh] at hid;exact .inr ⟨Ne.symm e,c,rfl,by simpa using hid.symm⟩
 have hown_d:∀b,owns (zkl ρ i k HD) Hd b→owns ρ H b:=by
  rintro b ⟨id,blk,M,g1,g2,g3,rfl⟩
  rcases getd id blk g1 with ⟨rfl,rfl⟩|⟨hne,c,g4,rfl⟩
  · rw[zgp hL] at g3
    cases g3
    exact⟨id,_,L,hb,rfl,hL,rfl⟩
  · rw[zc3 hne] at g3
    rw[zxo] at g2
    exact⟨id,c,M,g4,g2,g3,rfl⟩
 have hwd:∀ρ'',Agree Hd.length (zkl ρ i k HD) ρ''→RvL ρ'' (mvL i (· - k) args) vs∧Rel ρ'' Hd w:=by
  intro ρ'' hag
  rw[hHdl] at hag
  let σ:Env:=fun j=>if j=i then ρ i else ρ'' j
  have hσ:Agree H.length ρ σ:=by
   intro j hj
   by_cases e:j=i
   · simp only[σ,e,if_true]
   · simp only[σ,if_neg e]
     rw[hag j hj,zc3 e]
  have hlow:zkl σ i k HD=ρ'':=by
   funext j
   by_cases e:j=i
   · subst e
     rw[hag j hi]
     unfold zkl
     simp only[σ,if_true]
   · rw[zc3 e]
     simp only[σ,if_neg e]
  obtain⟨ha,hr⟩:=hw σ hσ
  have hσi:σ i=some L:=by simp only[σ,if_true];exact hL
  refine⟨by rw[← hlow];exact (zd8 args vs hia).1 ha,⟨fun id b hid => ?_,fun x y b c M N hx hy hne hbl hcl2 hoo hM hN => ?_,fun id b M hid hbl hM => ?_⟩⟩
  · rcases getd id b hid with ⟨rfl,rfl⟩|⟨hne,c,g4,rfl⟩
    · have hvσ:RvL σ cells us:=zdm cells us (fun j hj=>hσ j (by simpa using hids j hj)) hv
      refine⟨⟨L.b,L.off+k,L.cap,HD⟩,(us.drop k).take n, ?_, ?_,fun j z hj => ?_,fun _ j hj => ?_,fun t ht=>(by cases ht), ?_⟩
      · rw[hag id hi];exact zgp hL
      · rw[← hlow]
        exact (zd8 _ _ him).1 (zht n (zhs k hvσ))
      · rw[List.getElem?_take] at hj
        split at hj
        · rw[List.getElem?_drop] at hj
          show w.cell? ⟨L.b,L.off+k+j,none⟩=_
          rw[Nat.add_assoc]
          exact hcl _ z hj
        · cases hj
      · rw[zdi,List.length_take,List.length_drop] at hj
        show w.frozen? ⟨L.b,L.off+k+j,none⟩=_
        rw[Nat.add_assoc]
        exact hfz rfl _ (by omega)
      · rw[zdi,List.length_take,List.length_drop]
        refine⟨fun s hs => ?_,fun q hq => ?_⟩
        · rw[← hhid] at hs
          exact hs
        · rw[← hhid] at hq
          show (q.1<L.off+k∨L.off+k+_≤q.1)∧_
          rcases zxf hq with ⟨j,h1,h2,h3⟩|h1
          · have hjl:j<us.length:=by
             rcases Nat.lt_or_ge j us.length with q|q
             · exact q
             · rw[List.getElem?_eq_none q] at h1;cases h1
            refine⟨by omega,by rw[h2];exact hcl j _ h1,by rw[h2];exact hfz rfl j (by omega)⟩
          · obtain⟨a1,a2,a3⟩:=hkp.2 q h1
            exact⟨by omega,a2,a3⟩
    · rw[← hlow]
      exact yss hne (inOther id c hne g4) (hr.blk id c g4)
  · have conv:∀(x:Nat)(b:Blk)(M:Loc),Hd[x]? = some b→ρ'' x=some M→∃c N,H[x]? = some c∧σ x=some N∧N.b=M.b∧c.own=b.own∧c.live=b.live:=by
     intro x b M hx hM
     rcases getd x b hx with ⟨rfl,rfl⟩|⟨hne,c,g4,rfl⟩
     · rw[hag x hi,zgp hL] at hM
       cases hM
       exact⟨_,L,hb,hσi,rfl,rfl,rfl⟩
     · exact⟨c,M,g4,by simp only[σ,if_neg hne];exact hM,rfl,(zxo _ _ _).symm,(zjo _ _ _).symm⟩
    obtain⟨c1,M1,a1,a2,a3,a4,a5⟩:=conv x b M hx hM
    obtain⟨c2,M2,b1,b2,b3,b4,b5⟩:=conv y c N hy hN
    rw[← a3, ← b3]
    exact hr.sep x y c1 c2 M1 M2 a1 b1 hne (by rw[a5];exact hbl) (by rw[b5];exact hcl2) (by rw[a4,b4];exact hoo) a2 b2
  · rcases getd id b hid with ⟨rfl,rfl⟩|⟨hne,c,g4,rfl⟩
    · rw[hag id hi,zgp hL] at hM
      cases hM
      exact hr.inb id _ L hb rfl hσi
    · rw[zjo] at hbl
      exact hr.inb id c M g4 hbl (by simp only[σ,if_neg hne];exact hM)
 refine (hT _ _ _ _ _ hTs hp _ vs w hwd).mono ?_
 rintro e w' ⟨y,ρ1,rfl,hag,hpost,hfr,hnew⟩
 rw[hHdl] at hag hnew
 let ρn:Env:=fun j=>if j=i then ρ i else ρ1 j
 have hagn:Agree H.length ρ ρn:=by
  intro j hj
  by_cases e:j=i
  · simp only[ρn,e,if_true]
  · simp only[ρn,if_neg e]
    rw[hag j hj,zc3 e]
 have getn:∀(id:Nat)(b:Blk),((H0'.map (mvB i (· + k))).set i (.fix (cells.take k++(mvL i (· + k) cells'++cells.drop (k+n))) true ty))[id]? = some b →
  (id=i∧b = .fix (cells.take k++(mvL i (· + k) cells'++cells.drop (k+n))) true ty)∨(id≠i∧∃c,H0'[id]? = some c∧b=mvB i (· + k) c):=by
  intro id b hid
  by_cases e:i=id
  · subst e
    rw[List.getElem?_set_self (by simpa using hi')] at hid
    exact .inl ⟨rfl,by simpa using hid.symm⟩
  · rw[List.getElem?_set_ne e,List.getElem?_map] at hid
    cases hh:H0'[id]? with
    | none=>rw[hh] at hid;cases hid
    | some c=>rw[hh] at hid;exact .inr ⟨Ne.symm e,c,rfl,by simpa using hid.symm⟩
 refine⟨y,ρn,rfl,hagn,fun σ hσ => ?_,⟨hfr.1,fun b hbs hno=>hfr.2 b hbs (fun g=>hno (hown_d b g)),hfr.3⟩,fun id blk M hid hb2 hbl hM => ?_⟩
 · rw[List.length_set,List.length_map] at hσ
   have hσH:Agree H.length ρ σ:=fun j hj=>by rw[hσ j (Nat.lt_of_lt_of_le hj hle),hagn j hj]
   have hσi:σ i=some L:=by rw[hσH i hi];exact hL
   have hτ:Agree H0'.length ρ1 (zkl σ i k HD):=by
    intro j hj
    by_cases e:j=i
    · subst e
      rw[zgp hσi,hag j hi,zgp hL]
    · rw[zc3 e,hσ j hj]
      simp only[ρn,if_neg e]
   obtain⟨hv1,hr1⟩:=hpost _ hτ
   refine⟨(yno v0 y hiv).1 hv1,⟨fun id b hid => ?_,fun x y b c M N hx hy hne hbl hcl2 hoo hM hN => ?_,fun id b M hid hbl hM => ?_⟩⟩
   · rcases getn id b hid with ⟨rfl,rfl⟩|⟨hne,c,g4,rfl⟩
     · obtain⟨L',us',hL',hv',hcl',hfz', -,hkp'⟩:=hr1.blk id _ hb'
       rw[zgp hσi] at hL'
       cases hL'
       have hul':=zbf hv'
       have hvσ:RvL σ cells us:=zdm cells us (fun j hj=>hσH j (by simpa using hids j hj)) hv
       have out:∀j z,us[j]? = some z→(j<k∨k+n≤j)→w'.cell? ⟨L.b,L.off+j,none⟩=some z∧w'.frozen? ⟨L.b,L.off+j,none⟩=false:=by
        intro j z hz hj
        have:=hkp'.2 (L.off+j,z) (by show _ ∈ HD.cs;rw[← hhid];exact ygu hz hj)
        exact this.2
       have hall:(cells.take k++(mvL id (· + k) cells'++cells.drop (k+n))).length=cells.length:=by
        simp only[List.length_append,List.length_take,List.length_drop,zdi]
        omega
       refine⟨L,us.take k++(us'++us.drop (k+n)),hσi,zex (zht k hvσ) (zex ((zjp cells' us' hic).1 hv') (zhs (k+n) hvσ)),fun j z hj => ?_,fun _ j hj => ?_,fun t ht => ?_, ?_⟩
       · rcases Nat.lt_or_ge j k with q|q
         · rw[List.getElem?_append_left (by rw[List.length_take];omega),List.getElem?_take,if_pos q] at hj
           exact (out j z hj (.inl q)).1
         · rw[List.getElem?_append_right (by rw[List.length_take];omega),List.length_take,show min k us.length=k by omega] at hj
           rcases Nat.lt_or_ge (j-k) us'.length with q2|q2
           · rw[List.getElem?_append_left q2] at hj
             have:=hcl' _ z hj
             rwa [show L.off+k+(j-k)=L.off+j by omega] at this
           · rw[List.getElem?_append_right q2,List.getElem?_drop,show k+n+(j-k-us'.length)=j by omega] at hj
             exact (out j z hj (.inr (by omega))).1
       · rw[hall] at hj
         rcases Nat.lt_or_ge j k with q|q
         · exact (out j _ (List.getElem?_eq_getElem (by omega)) (.inl q)).2
         · rcases Nat.lt_or_ge (j-k) n with q2|q2
           · have:=hfz' rfl (j-k) (by omega)
             rwa [show L.off+k+(j-k)=L.off+j by omega] at this
           · exact (out j _ (List.getElem?_eq_getElem (by omega)) (.inr (by omega))).2
       · obtain⟨t1,m,t2⟩:=hty t ht
         exact⟨t1,m,hkp'.1 _ (by show HD.shp=_;rw[← hhid];exact t2)⟩
       · rw[hall]
         refine⟨fun s hs=>hkp'.1 _ (by show HD.shp=_;rw[← hhid];exact hkp.1 s hs),fun q hq => ?_⟩
         have:=hkp'.2 q (by show _ ∈ HD.cs;rw[← hhid];exact ygv hq)
         exact⟨(hkp.2 q hq).1,this.2⟩
     · exact Rb_up hne (hiH' c (List.mem_of_getElem? g4)) (hr1.blk id c g4)
   · have conv:∀(x:Nat)(b:Blk)(M:Loc),((H0'.map (mvB i (· + k))).set i (.fix (cells.take k++(mvL i (· + k) cells'++cells.drop (k+n))) true ty))[x]? = some b→σ x=some M→∃c N,H0'[x]? = some c∧zkl σ i k HD x=some N∧N.b=M.b∧c.own=b.own∧c.live=b.live:=by
      intro x b M hx hM
      rcases getn x b hx with ⟨rfl,rfl⟩|⟨hne,c,g4,rfl⟩
      · rw[hσi] at hM
        cases hM
        exact⟨_,_,hb',zgp hσi,rfl,rfl,rfl⟩
      · exact⟨c,M,g4,by rw[zc3 hne];exact hM,rfl,(zxo _ _ _).symm,(zjo _ _ _).symm⟩
     obtain⟨c1,M1,a1,a2,a3,a4,a5⟩:=conv x b M hx hM
     obtain⟨c2,M2,b1,b2,b3,b4,b5⟩:=conv y c N hy hN
     rw[← a3, ← b3]
     exact hr1.sep x y c1 c2 M1 M2 a1 b1 hne (by rw[a5];exact hbl) (by rw[b5];exact hcl2) (by rw[a4,b4];exact hoo) a2 b2
   · rcases getn id b hid with ⟨rfl,rfl⟩|⟨hne,c,g4,rfl⟩
     · rw[hσi] at hM
       cases hM
       exact hr1.inb id _ ⟨L.b,L.off+k,L.cap,HD⟩ hb' rfl (zgp hσi)
     · rw[zjo] at hbl
       exact hr1.inb id c M g4 hbl (by rw[zc3 hne];exact hM)
 · rcases getn id blk hb2 with ⟨rfl,rfl⟩|⟨hne,c,g4,rfl⟩
   · omega
   · rw[zjo] at hbl
     have hM:ρ1 id=some M:=by simpa only[ρn,if_neg hne] using hM
     exact (hnew id c M hid g4 hbl hM).imp (hown_d _) (fun q=>q)
def yax1(k n:Nat)(T:Sum):Sum:=view 0 k n (zql T)
theorem yps{P:Program}{E:Value→Ending}{f:FuncId}{k n:Nat}{T:Sum}(hT:zcp P E f T):zcp P E f (yax1 k n T):=ywx (zqm hT)
def zn9(n:Nat)(T:Sum):Sum:=fun args H=>match args with
 | .ptr _ k::_=>yax1 k n T args H
 | _=>none
theorem zew{P:Program}{E:Value→Ending}{f:FuncId}{n:Nat}{T:Sum}(hT:zcp P E f T):zcp P E f (zn9 n T):=by
 intro args H p v H' h
 unfold zn9 at h
 split at h
 · exact yps hT _ H p v H' h
 · cases h
def zq9(l:List Nat):Nat→Heap→Heap
 | _,[]=>[]
 | k,b::bs=>(match l.contains k with|true=>roB b|false=>b)::zq9 l (k+1) bs
def upK(l:List Nat):Nat→Heap→Heap→Heap
 | _,[],cs=>cs
 | _,_::_,[]=>[]
 | k,b::bs,c::cs=>(match l.contains k with|true=>b|false=>c)::upK l (k+1) bs cs
theorem ziq(l:List Nat):∀(k:Nat)(H:Heap),(zq9 l k H).length=H.length
 | _,[]=>rfl
 | k,_::bs=>by simp[zq9,ziq l (k+1) bs]
theorem zlp(l:List Nat):∀(k:Nat)(H:Heap)(i:Nat)(b:Blk),(zq9 l k H)[i]? = some b→∃c,H[i]? = some c∧b=(match l.contains (k+i) with|true=>roB c|false=>c)
 | _,[],i,b,h=>by simp[zq9] at h
 | k,c::cs,0,b,h=>by simp only[zq9,List.getElem?_cons_zero,Option.some.injEq] at h;exact⟨c,rfl,h.symm⟩
 | k,c::cs,i+1,b,h=>by
  simp only[zq9,List.getElem?_cons_succ] at h
  obtain⟨d,h1,h2⟩:=zlp l (k+1) cs i b h
  exact⟨d,by simpa using h1,by rw[h2,show k+1+i=k+(i+1) by omega]⟩
theorem zx9(l:List Nat):∀(k:Nat)(H H':Heap)(i:Nat)(b:Blk),(upK l k H H')[i]? = some b→H'[i]? = some b∨(H[i]? = some b∧l.contains (k+i)=true)
 | _,[],cs,i,b,h => .inl h
 | _,_::_,[],i,b,h=>by simp[upK] at h
 | k,d::ds,c::cs,0,b,h=>by
  simp only[upK,List.getElem?_cons_zero,Option.some.injEq] at h
  split at h
  · rename_i e;subst h;exact .inr ⟨rfl,by simpa using e⟩
  · subst h;exact .inl rfl
 | k,d::ds,c::cs,i+1,b,h=>by
  simp only[upK,List.getElem?_cons_succ] at h
  rcases zx9 l (k+1) ds cs i b h with g|⟨g1,g2⟩
  · exact .inl (by simpa using g)
  · exact .inr ⟨by simpa using g1,by rw[show k+(i+1)=k+1+i by omega];exact g2⟩
theorem zp4(l:List Nat):∀(k:Nat)(H H':Heap),(upK l k H H').length=H'.length
 | _,[],_=>rfl
 | _,_::_,[]=>rfl
 | k,_::bs,_::cs=>by simp[upK,zp4 l (k+1) bs cs]
def lowS(l:List Nat)(S:Sum):Sum:=fun args H=>match S args (zq9 l 0 H) with
 | some (p,v,H')=>(match keeps (zq9 l 0 H) H' with|true=>some (p,v,upK l 0 H H')|false=>none)
 | none=>none
theorem yum{P:Program}{E:Value→Ending}{f:FuncId}{l:List Nat}{S:Sum}(hS:zcp P E f S):zcp P E f (lowS l S):=by
 intro args H p v H' h hp ρ vs w hw
 unfold lowS at h
 split at h
 case h_2=>cases h
 rename_i p0 v0 H0 hs
 split at h
 case h_2=>cases h
 rename_i hk
 simp only[Option.some.injEq,Prod.mk.injEq] at h
 obtain⟨rfl,rfl,rfl⟩:=h
 have hlow:Low (zq9 l 0 H) H:=by
  refine⟨ziq l 0 H,fun i b hb => ?_⟩
  obtain⟨c,h1,h2⟩:=zlp l 0 H i b hb
  refine⟨c,h1, ?_⟩
  split at h2
  · exact .inr h2
  · exact .inl h2
 have hlen:(zq9 l 0 H).length=H.length:=ziq l 0 H
 obtain⟨kl,kf⟩:=zhg hk
 refine (hS args (zq9 l 0 H) p0 v0 H0 hs hp ρ vs w (fun ρ' ha=>⟨(hw ρ' (by rwa [hlen] at ha)).1,hlow.rel (hw ρ' (by rwa [hlen] at ha)).2⟩)).mono ?_
 rintro e w' ⟨y,ρ1,rfl,g1,g2,g3,g4⟩
 rw[hlen] at g1 g4 kl
 refine⟨y,ρ1,rfl,g1,fun ρ' ha => ?_,⟨g3.1,fun b hb hn=>g3.2 b hb (fun q=>hn (hlow.owns q)),g3.3⟩,fun id blk L hid hb hl hL => ?_⟩
 · rw[zp4] at ha
   obtain⟨q1,q2⟩:=g2 ρ' ha
   refine⟨q1, ?_⟩
   have hag:Agree H.length ρ ρ':=g1.trans (ha.le kl)
   have hown:∀b,owns ρ' (zq9 l 0 H) b→owns ρ (zq9 l 0 H) b:=by
    rintro b ⟨id,blk,L,o1,o2,o3,o4⟩
    have hlt:id<H.length:=by
     rw[← hlen]
     rcases Nat.lt_or_ge id (zq9 l 0 H).length with z|z
     · exact z
     · simp[List.getElem?_eq_none z] at o1
    exact⟨id,blk,L,o1,o2,by rw[← hag id hlt];exact o3,o4⟩
   have hown':∀b,owns ρ (zq9 l 0 H) b→owns ρ' (zq9 l 0 H) b:=by
    rintro b ⟨id,blk,L,o1,o2,o3,o4⟩
    have hlt:id<H.length:=by
     rw[← hlen]
     rcases Nat.lt_or_ge id (zq9 l 0 H).length with z|z
     · exact z
     · simp[List.getElem?_eq_none z] at o1
    exact⟨id,blk,L,o1,o2,by rw[hag id hlt];exact o3,o4⟩
   refine zst (H:=H) (HT:=zq9 l 0 H) (H1:=H0) (hw ρ' hag).2 q2 (fun x b hb hl => ?_) (zl1 hk) ⟨g3.1,fun b hb hn=>g3.2 b hb (fun q=>hn (hown' b q)),g3.3⟩ (fun id blk L hid hb hl hL => ?_) (fun x b hb hl => ?_)
   · obtain⟨c,h1,h2⟩:=zlp l 0 H x b hb
     split at h2
     · subst h2
       exact⟨c,h1,by rw[zls] at hl;exact hl,fun q=>by rw[zix] at q;cases q⟩
     · subst h2;exact⟨b,h1,hl,id⟩
   · rw[hlen] at hid
     have hlt:id<H0.length:=by
      rcases Nat.lt_or_ge id H0.length with z|z
      · exact z
      · simp[List.getElem?_eq_none z] at hb
     exact (g4 id blk L hid hb hl (by rw[← ha id hlt];exact hL)).imp (hown' _) (fun q=>q)
   · rcases zx9 l 0 H H0 x b hb with g|⟨g,hc⟩
     · exact .inl g
     · refine .inr ⟨g,fun c hcx => ?_⟩
       obtain⟨d,h1,h2⟩:=zlp l 0 H x c hcx
       rw[hc] at h2
       rw[h2]
       exact zix d
 · rcases zx9 l 0 H H0 id blk hb with g|⟨g,_⟩
   · exact (g4 id blk L hid g hl hL).imp hlow.owns (fun q=>q)
   · rw[List.getElem?_eq_none hid] at g;cases g
mutual
def spotty:Av→Bool
 | .sl .. => false
 | .eptr .. => false
 | .agg cs=>zkt cs
 | .tup cs=>zkt cs
 | .fn _ cs=>zkt cs
 | .ifc _ x=>spotty x
 | _=>true
def zkt:List Av→Bool
 | []=>true
 | a::as=>spotty a&&zkt as
end
mutual
theorem zwm{ρ ρ':Env}:∀(a:Av)(y:Value),spotty a=true→(∀i ∈ zcr a,spot ρ' i=spot ρ i)→Rv ρ a y→Rv ρ' a y
 | .ptr id sub,y,_,h,g=>by
  obtain⟨L,h1,rfl⟩:=g
  have e:=h id (by simp[zcr])
  unfold spot at e
  rw[h1] at e
  cases hL:ρ' id with
  | none=>rw[hL] at e;cases e
  | some M =>
   rw[hL] at e
   simp only[Option.map_some,Option.some.injEq,Prod.mk.injEq] at e
   exact⟨M,hL,by rw[e.1,e.2]⟩
 | .agg cs,y,hs,h,g=>by simp only[Rv] at g ⊢;obtain⟨vs,h1,h2⟩:=g;exact⟨vs,h1,zli cs vs (by simpa[spotty] using hs) (by simpa[zcr] using h) h2⟩
 | .tup cs,y,hs,h,g=>by simp only[Rv] at g ⊢;obtain⟨vs,h1,h2⟩:=g;exact⟨vs,h1,zli cs vs (by simpa[spotty] using hs) (by simpa[zcr] using h) h2⟩
 | .fn _ cs,y,hs,h,g=>by simp only[Rv] at g ⊢;obtain⟨vs,h1,h2⟩:=g;exact⟨vs,h1,zli cs vs (by simpa[spotty] using hs) (by simpa[zcr] using h) h2⟩
 | .ifc _ x,y,hs,h,g=>by simp only[Rv] at g ⊢;obtain⟨u,h1,h2⟩:=g;exact⟨u,h1,zwm x u (by simpa[spotty] using hs) (by simpa[zcr] using h) h2⟩
 | .opq ids X,y,_,h,g=>by
  simp only[Rv] at g ⊢
  have e:ids.map (spot ρ')=ids.map (spot ρ):=List.map_congr_left (fun i hi=>h i (by simpa[zcr] using hi))
  rw[e]
  exact g
 | .sl ..,_,hs,_,_=>by simp[spotty] at hs
 | .eptr ..,_,hs,_,_=>by simp[spotty] at hs
 | .any,_,_,_,_=>trivial
 | .q _,_,_,_,g=>g
 | .zp,_,_,_,g=>g
 | .tt,_,_,_,g=>g
 | .ff,_,_,_,g=>g
 | .v _,_,_,_,g=>g
theorem zli{ρ ρ':Env}:∀(as:List Av)(ys:List Value),zkt as=true→(∀i ∈ zof as,spot ρ' i=spot ρ i)→RvL ρ as ys→RvL ρ' as ys
 | [],[],_,_,_=>trivial
 | [],_::_,_,_,g=>g
 | _::_,[],_,_,g=>g
 | a::as,y::ys,hs,h,g=>by
  simp only[zkt,Bool.and_eq_true] at hs
  simp only[RvL] at g ⊢
  exact⟨zwm a y hs.1 (fun i hi=>h i (by simp[zof,hi])) g.1,zli as ys hs.2 (fun i hi=>h i (by simp[zof,hi])) g.2⟩
end
def zxg(ids:List Nat)(a:Av):List (Option (Nat × Nat))→Value→Prop:=fun l y=>∃ρ:Env,l=ids.map (spot ρ)∧Rv ρ a y
theorem ytv{ρ:Env}{ids:List Nat}{t:TypeId}{a:Av}{y:Value}(h:Rv ρ (.ifc t a) y):Rv ρ (.opq ids (zxg ids (.ifc t a))) y:=by
 simp only[Rv]
 refine⟨?_,ρ,rfl,h⟩
 simp only[Rv] at h
 obtain⟨u,e,_⟩:=h
 exact⟨t,u,e⟩
theorem ym5{ρ:Env}{ids:List Nat}{a:Av}{y:Value}(hs:spotty a=true)(hi:(zcr a).all ids.contains=true){js:List Nat}(hj:js.length=ids.length)(h:Rv ρ (.opq js (zxg ids a)) y):Rv ρ (ren (fun i=>js.getD (ids.idxOf i) 0) a) y:=by
 simp only[Rv] at h
 obtain⟨_,ρ2,h1,h2⟩:=h
 rw[← zud]
 refine zwm a y hs (fun i him => ?_) h2
 have hc:i ∈ ids:=by simpa using List.all_eq_true.1 hi i him
 have hx:ids.idxOf i<ids.length:=List.idxOf_lt_length_of_mem hc
 have e:=congrArg (fun l=>l[ids.idxOf i]?) h1
 simp only[List.getElem?_map] at e
 rw[List.getElem?_eq_getElem hx,List.getElem?_eq_getElem (by omega)] at e
 simp only[Option.map_some,Option.some.injEq] at e
 rw[List.getElem_idxOf hx] at e
 rw[← e]
 have e2:js.getD (ids.idxOf i) 0=js[ids.idxOf i]:=by rw[List.getD_eq_getElem?_getD,List.getElem?_eq_getElem (by omega)];rfl
 unfold spot
 simp only[e2]
def dumb(ids:List Nat):Blk := .ob true ids [] (fun _ _ _=>True)
def yl3(H:Heap):Heap:=H++[dumb [H.length+1],dumb []]
def padS(S:Sum):Sum:=fun args H=>match S args (yl3 H) with
 | some (p,v,H')=>(match decide (H'.length=H.length+2)&&(zcr v).all (fun i=>decide (i<H.length))&&(H'.take H.length).all (fun b=>(yeb b).all fun i=>decide (i<H.length)) with|true=>some (p,v,H'.take H.length)|false=>none)
 | none=>none
theorem yur{P:Program}{E:Value→Ending}{f:FuncId}{S:Sum}(hS:zcp P E f S):zcp P E f (padS S):=by
 intro args H p v H' h hp ρ vs w hw
 unfold padS at h
 split at h
 case h_2=>cases h
 rename_i p0 v0 H0 hs
 split at h
 case h_2=>cases h
 rename_i hlen
 simp only[Bool.and_eq_true,decide_eq_true_eq,List.all_eq_true] at hlen
 obtain⟨⟨hlen,hv⟩,hbs⟩:=hlen
 simp only[Option.some.injEq,Prod.mk.injEq] at h
 obtain⟨rfl,rfl,rfl⟩:=h
 let ρ0:Env:=fun i=>if i<H.length then ρ i else none
 have hpl:(yl3 H).length=H.length+2:=by simp[yl3]
 have get:∀i b,(yl3 H)[i]? = some b→(i<H.length∧H[i]? = some b)∨(H.length≤i∧i<H.length+2∧∃ids,b=dumb ids):=by
  intro i b hi
  rcases Nat.lt_or_ge i H.length with z|z
  · unfold yl3 at hi;rw[List.getElem?_append_left z] at hi;exact .inl ⟨z,hi⟩
  · refine .inr ⟨z, ?_, ?_⟩
    · rw[← hpl]
      rcases Nat.lt_or_ge i (yl3 H).length with q|q
      · exact q
      · simp[List.getElem?_eq_none q] at hi
    · unfold yl3 at hi
      rw[List.getElem?_append_right z] at hi
      have:=List.mem_of_getElem? hi
      simp at this
      rcases this with rfl|rfl
      · exact⟨_,rfl⟩
      · exact⟨_,rfl⟩
 have h0:∀ρ',Agree (yl3 H).length ρ0 ρ'→Agree H.length ρ ρ'∧∀i,H.length≤i→i<H.length+2→ρ' i=none:=by
  intro ρ' ha
  refine⟨fun i hi => ?_,fun i h1 h2 => ?_⟩
  · rw[ha i (by omega)];simp[ρ0,hi]
  · rw[ha i (by omega)];simp[ρ0,Nat.not_lt.2 h1]
 refine (hS args (yl3 H) p0 v0 H0 hs hp ρ0 vs w (fun ρ' ha => ?_)).mono ?_
 · obtain⟨a1,a2⟩:=h0 ρ' ha
   obtain⟨q1,q2⟩:=hw ρ' a1
   refine⟨q1,⟨fun i b hi => ?_,fun i j b c L M hi hj hne hbl hcl hoo hL hM => ?_,fun i b L hi hl hL => ?_⟩⟩
   · rcases get i b hi with ⟨_,g⟩|⟨_,_,ids,rfl⟩
     · exact q2.blk i b g
     · trivial
   · rcases get i b hi with ⟨_,g⟩|⟨z1,z2,_⟩
     · rcases get j c hj with ⟨_,k⟩|⟨z1,z2,_⟩
       · exact q2.sep i j b c L M g k hne hbl hcl hoo hL hM
       · rw[a2 j z1 z2] at hM;cases hM
     · rw[a2 i z1 z2] at hL;cases hL
   · rcases get i b hi with ⟨_,g⟩|⟨z1,z2,_⟩
     · exact q2.inb i b L g hl hL
     · rw[a2 i z1 z2] at hL;cases hL
 · rintro e w' ⟨y,ρ1,rfl,g1,g2,g3,g4⟩
   obtain⟨a1,a2⟩:=h0 ρ1 g1
   have own0:∀b,owns ρ0 (yl3 H) b→owns ρ H b:=by
    rintro b ⟨id,blk,L,o1,o2,o3,o4⟩
    rcases get id blk o1 with ⟨z,g⟩|⟨z1,_,_⟩
    · exact⟨id,blk,L,g,o2,by simpa[ρ0,z] using o3,o4⟩
    · simp[ρ0,Nat.not_lt.2 z1] at o3
   have htl:(H0.take H.length).length=H.length:=by simp[hlen]
   refine⟨y,ρ1,rfl,a1,fun ρ' ha => ?_,⟨g3.1,fun b hb hn=>g3.2 b hb (fun q=>hn (own0 b q)),g3.3⟩,fun id blk L hid hb hl hL => ?_⟩
   · rw[htl] at ha
     obtain⟨q1,q2⟩:=g2 ρ1 (Agree.refl _ _)
     have hR:Rel ρ1 (H0.take H.length) w':=by
      have tk:∀(i:Nat)(b:Blk),(H0.take H.length)[i]? = some b→H0[i]? = some b:=fun i b h=>by
       rw[List.getElem?_take] at h
       split at h
       · exact h
       · cases h
      exact⟨fun i b hi=>q2.blk i b (tk i b hi),fun i j b c L M hi hj=>q2.sep i j b c L M (tk i b hi) (tk j c hj),fun i b L hi=>q2.inb i b L (tk i b hi)⟩
     refine⟨zhu _ y (fun i hi=>ha i (hv i hi)) q1,zl4 (ρ:=ρ1) (fun id b hb hl => ?_) hR⟩
     have hlt:id<H.length:=by
      rw[← htl]
      rcases Nat.lt_or_ge id (H0.take H.length).length with z|z
      · exact z
      · simp[List.getElem?_eq_none z] at hb
     exact⟨ha id hlt,fun i hi=>ha i (hbs b (List.mem_of_getElem? hb) i hi)⟩
   · rw[List.getElem?_eq_none (by omega)] at hb;cases hb
def fitK(n0:Nat)(sl2:List Av)(H2:Heap):Post:=fun ex sl H=>match ex with
 | .nrm=>zf3 n0 sl2 H2 sl H
 | _=>False
def endK(n0:Nat)(rc:Nat)(bc:Nat)(pan:Bool)(X:Av)(HR:Heap):Post:=fun ex sl H=>match pan,ex with
 | false,.ret=>zf3 n0 [.ptr bc 0] HR [sl.getD rc .any] H
 | true,.pan x=>zbx X=some x∧zf3 n0 [.ptr bc 0] HR [sl.getD rc .any] H
 | _,_=>False
def yta(n0:Nat)(H2:Heap):Post:=fun ex _ H=>match ex with
 | .nrm=>zf3 n0 [.any] H2 [.any] H
 | _=>False
theorem Inv.base{B:Base}{sl:List Av}{H:Heap}{a:Act}{w:World}(h:Inv B sl H a w):∃ρ,Agree B.H.length B.ρ ρ∧(∀ds,Inv ⟨ρ,H,w,ds⟩ sl H { a with defers:=ds } w)∧(∀ρ',Agree H.length ρ ρ'→RvL ρ' sl a.tmps.toList∧Rel ρ' H w) ∧
 (∀id blk L,B.H.length≤id→H[id]? = some blk→blk.live=true→ρ id=some L→owns B.ρ B.H L.b∨B.w.heap.size≤L.b):=by
 obtain⟨h1,h2,h3,ρ,h4,h5,h6⟩:=h
 refine⟨ρ,h4,fun ds=>⟨rfl,Fr.refl _ _,KeepsP.refl _,ρ,Agree.refl _ _,h5,fun id blk L hid hb => ?_⟩,h5,h6⟩
 rw[List.getElem?_eq_none hid] at hb
 cases hb
theorem Inv.then{B:Base}{H:Heap}{w:World}(h2:Fr (owns B.ρ B.H) B.w w)(h3:KeepsP B.H H){ρ:Env}(h4:Agree B.H.length B.ρ ρ)(h6:∀id blk L,B.H.length≤id→H[id]? = some blk→blk.live=true→ρ id=some L→owns B.ρ B.H L.b∨B.w.heap.size≤L.b)
 {v:Av} {H':Heap} {y:Value} {w':World} (k1:KeepsP H H') {ρ1:Env} (k2:Agree H.length ρ ρ1) (k3:∀ρ',Agree H'.length ρ1 ρ'→Rv ρ' v y∧Rel ρ' H' w') (k4:Fr (owns ρ H) w w')
 (k5:∀id blk L,H.length≤id→H'[id]? = some blk→blk.live=true→ρ1 id=some L→owns ρ H L.b∨w.heap.size≤L.b):Inv ⟨B.ρ,B.H,B.w,[]⟩ [v] H' { tmps := #[y],defers:=[] } w':=by
 have own_base:∀b,owns ρ H b→owns B.ρ B.H b∨B.w.heap.size≤b:=by
  rintro b ⟨id,blk,L,g1,g2,g3,rfl⟩
  rcases Nat.lt_or_ge id B.H.length with q|q
  · left
    obtain⟨f1,_⟩:=h3.fl id _ blk (List.getElem?_eq_getElem q) g1
    exact⟨id,_,L,List.getElem?_eq_getElem q,f1 g2,by rw[← h4 id q];exact g3,rfl⟩
  · exact h6 id blk L q g1 (za8 g2) g3
 refine⟨rfl,h2.trans k4 (fun b hb hC=>(own_base b hC).resolve_right (by omega)),h3.trans k1,ρ1,h4.trans (k2.le h3.le),fun ρ' ha=>⟨⟨(k3 ρ' ha).1,trivial⟩,(k3 ρ' ha).2⟩,fun id blk L hid hb hl hL => ?_⟩
 rcases Nat.lt_or_ge id H.length with q|q
 · obtain⟨_,f2⟩:=k1.fl id _ blk (List.getElem?_eq_getElem q) hb
   exact h6 id _ L hid (List.getElem?_eq_getElem q) (f2 hl) (by rw[← k2 id q];exact hL)
 · rcases k5 id blk L q hb hl hL with g|g
   · exact own_base _ g
   · exact .inr (Nat.le_trans h2.1 g)
theorem zui{fn:Func}{args:List Av}{H:Heap}{ρ:Env}{vs:List Value}{w:World}(hw:∀ρ',Agree H.length ρ ρ'→RvL ρ' args vs∧Rel ρ' H w) :
 Inv ⟨ρ,H,w,[]⟩ (zc0 fn args) H { tmps:=vs.toArray++Array.replicate (fn.ntmps-vs.toArray.size) undef,defers:=[] } w:=by
 have hlen:args.length=vs.length:=zbf (hw ρ (Agree.refl _ _)).1
 have hrep:∀(ρ':Env)(n:Nat),RvL ρ' (List.replicate n .any) (List.replicate n undef):=by
  intro ρ' n
  induction n with
  | zero=>trivial
  | succ n ih=>exact⟨trivial,ih⟩
 refine⟨rfl,Fr.refl _ _,KeepsP.refl _,ρ,Agree.refl _ _,fun ρ' hag=>⟨?_,(hw ρ' hag).2⟩,fun id blk L hid hb' => ?_⟩
 · have:=zex (hw ρ' hag).1 (hrep ρ' (fn.ntmps-args.length))
   simp only[zc0,Array.toList_append,Array.toList_replicate,List.size_toArray]
   rw[← hlen]
   exact this
 · rw[List.getElem?_eq_none hid] at hb';cases hb'
def yrl(pan:Bool)(X:Av):Av:=match pan with|true=>X|false => .v .nilIface
theorem Inv.one{B:Base}{sl:List Av}{H:Heap}{a:Act}{w:World}(h:Inv B sl H a w)(t:Nat):Inv B [sl.getD t .any] H { tmps := #[a.tmps.getD t undef],defers:=a.defers } w:=by
 obtain⟨h1,h2,h3,ρ,h4,h5,h6⟩:=h
 exact⟨h1,h2,h3,ρ,h4,fun ρ' ha=>⟨⟨zxc (h5 ρ' ha).1 t,trivial⟩,(h5 ρ' ha).2⟩,h6⟩
theorem Inv.bare{B:Base}{sl:List Av}{H:Heap}{a:Act}{w:World}(h:Inv B sl H a w):Inv B [.any] H { tmps := #[undef],defers:=a.defers } w:=by
 obtain⟨h1,h2,h3,ρ,h4,h5,h6⟩:=h
 exact⟨h1,h2,h3,ρ,h4,fun ρ' ha=>⟨⟨trivial,trivial⟩,(h5 ρ' ha).2⟩,h6⟩
def zoo(P:Program)(D:Dict)(n0:Nat)(c:Code)(K:Post)(sl:List Av)(H:Heap):Prop:=vcC P D .none n0 c K sl H
structure Rec1 (P:Program) (fn gn:Func) (g:FuncId) (A B R T:Code) (cid gid:Nat) (o1 o2 p1 p2:Oper) (d1 i j e1 e2 rc:Nat) (rt:TypeId):Prop where
 hb:fn.body=some (.seq A (.seq B (.seq (.region cid #[o1,o2] false) R)))
 hres:fn.results = #[.cell rc rt]
 o1d:o1.dst=some d1
 o1o:o1.op = .makeFunc (.func g) #[] #[.tmp i,.tmp j]
 o1g:o1.guard=none
 o2d:o2.dst=none
 o2o:∃ts,o2.op = .defer { callee := .value (.tmp d1),args := #[],argTypes:=ts }
 o2g:o2.guard=none
 hg:P.funcs[g]? = some gn
 hc:callable P g=true
 gb:gn.body=some (.seq (.region gid #[p1,p2] false) T)
 gres:gn.results = #[]
 p1d:p1.dst=some e1
 p1o:∃ts,p1.op = .call { callee := .builtin .recover,args := #[],argTypes:=ts }
 p1g:p1.guard=none
 p2d:p2.dst=some e2
 p2o:p2.op = .assign (.tmp e1)
 p2g:p2.guard=none
 lA:zap A=[]
 lB:zap B=[]
 lR:zap R=[]
 lT:zap T=[]
theorem noloop{P:Program}{n:Nat}{c:Code}(h:zap c=[]){Ξ:Specs}:∀b ∈ zap c,∀k L,zbj b=some k→Ξ.loop k=some L→zbr P n b L:=by rw[h];exact fun b hb=>by cases hb
theorem yu0{P:Program}{fn:Func}{rc:Nat}{rt:TypeId}(hres:fn.results = #[.cell rc rt]){tmps:Array Value}{p:Addr}(hp:tmps.getD rc undef = .pointer (some p)){y:Value}{w:World}(h:(Instr.loadAt rt (tmps.getD rc undef)).run P w = .ok y w):(results fn tmps).run P w = .ok y w:=by
 have h1:(([ResultVar.cell rc rt]:List ResultVar).mapM (m:=Sem) fun r=>match r with | .tmp t=>pure (tmps.getD t undef) | .cell x t=>do loadVar t (← asAddr (tmps.getD x undef))).run P w = .ok [y] w:=by
  rw[hp] at h
  simp only[List.mapM_cons,List.mapM_nil,Sem.run_bind,Sem.run_pure,Result.andThen_ok,hp]
  simp only[Instr.loadAt,Instr.sureAddr,Sem.run_bind,Sem.run_pure,Result.andThen_ok] at h
  simp only[asAddr,Sem.run_pure,Result.andThen_ok,h]
 unfold results
 rw[hres,Array.mapM_eq_mapM_toList,Sem.run_bind,map_eq_pure_bind,Sem.run_bind]
 erw [h1]
 rfl
theorem zi8{P:Program}(hm:P.follows .mixedOrders=true){f:FuncId}{fn gn:Func}(hf:P.funcs[f]? = some fn){g:FuncId}{A B R T:Code}{cid gid:Nat}{o1 o2 p1 p2:Oper}{d1 i j e1 e2 rc:Nat}{rt:TypeId}
 (hr:Rec1 P fn gn g A B R T cid gid o1 o2 p1 p2 d1 i j e1 e2 rc rt) {D:Dict} (hD:DictOk P D) {args slD:List Av} {H HD HR HC H':Heap} {bi bj:Nat} {pan:Bool} {X av v:Av}
 (hA:zoo P D H.length A (yvu (fun sl H1=>vcC P D .none H.length B (fitK H.length slD HD) sl H1) (fitK H.length slD HD)) (zc0 fn args) H)
 (hi:evS slD (.tmp i) = .ptr bi 0) (hj:evS slD (.tmp j) = .ptr bj 0) (hbi:bi<HD.length) (hbj:bj<HD.length) (hd1:evS (slD.set d1 (.fn g [.ptr bi 0,.ptr bj 0])) (.tmp d1) = .fn g [.ptr bi 0,.ptr bj 0])
 (hR:zoo P D HD.length R (endK HD.length rc bi pan X HR) (slD.set d1 (.fn g [.ptr bi 0,.ptr bj 0])) HD)
 (hT:zoo P D HR.length T (yta HR.length HC) (((zc0 gn [.ptr bi 0,.ptr bj 0]).set e1 (yrl pan X)).set e2 (yrl pan X)) HR)
 (he:evS ((zc0 gn [.ptr bi 0,.ptr bj 0]).set e1 (yrl pan X)) (.tmp e1)=(yrl pan X))
 (hl:zws P rt HC (.ptr bi 0)=some (none,av)) (hF:zf3 H.length [v] H' [av] HC) {ρ:Env} {vs:List Value} {w:World} (hw:∀ρ',Agree H.length ρ ρ'→RvL ρ' args vs∧Rel ρ' H w) :
 Calls P f vs.toArray w (Ends .returned ρ H w v H'):=by
 unfold zoo at hA hR hT
 let Bs:Base:=⟨ρ,H,w,[]⟩
 have hi0:Inv Bs (zc0 fn args) H _ w:=zui hw
 refine calls_of_wp_defers hf hr.hb (wp_seq (wp_mono (zhr hm hD (B:=Bs) rfl (noloop hr.lA) hA hi0) ?_))
 rintro e a1 w1 ⟨ex,sl,H1,rfl,hinv,hk⟩
 cases ex with
 | ext id=>exact hk.elim
 | ret=>exact hk.elim
 | pan v=>exact hk.elim
 | nrm =>
 refine wp_seq (wp_mono (zhr hm hD (B:=Bs) rfl (noloop hr.lB) hk hinv) ?_)
 rintro e a2 w2 ⟨ex,sl2,H2,rfl,hinv2,hk2⟩
 cases ex with
 | ext id=>exact hk2.elim
 | ret=>exact hk2.elim
 | pan v=>exact hk2.elim
 | nrm =>
 have hI:Inv Bs slD HD a2 w2:=zf3.inv (B:=Bs) hk2 hinv2
 clear hinv hk hinv2 hk2 hi0
 -- the closure is made and deferred
 have hps:pstep P o1 slD HD=some (none,.fn g [.ptr bi 0,.ptr bj 0]):=by
  unfold pstep
  rw[hr.o1o]
  simp[hi,hj]
 obtain⟨v1,hv1,hI1⟩:=hI.pure hps trivial
 have hI1:Inv Bs (slD.set d1 (.fn g [.ptr bi 0,.ptr bj 0])) HD (a2.put (some d1) v1) w2:=by
  have:=hI1
  rw[hr.o1d] at this
  exact this
 obtain⟨ρ1,b1,b2,b3,b4⟩:=hI1.base
 have hI2:=hI1.2.1
 have hI3:=hI1.2.2.1
 have hfn:=zcb (b3 ρ1 (Agree.refl _ _)).1 (.tmp d1)
 rw[hd1] at hfn
 simp only[Rv] at hfn
 obtain⟨us,hus,hus2⟩:=hfn
 have hdef0:(a2.put (some d1) v1).defers=[]:=hI1.1
 generalize hd:({ target := .fn (.func g) us.toArray,args := #[] }:Deferred)=d
 have hdef:(execOp (a2.put (some d1) v1).eval o2).run P w2 = .ok (.defer d) w2:=by
  obtain⟨ts,ho⟩:=hr.o2o
  rw[← hd]
  simp[execOp,ho,resolve,hus,Deferred.ofValue]
 refine wp_seq (wp_region ?_)
 have hsz:List.range (#[o1,o2]:Array Oper).size=[0,1]:=rfl
 rw[hsz,wpOps_cons]
 have w1t:∀f,Region.wanted o1 f=true:=fun f=>by unfold Region.wanted;rw[hr.o1g]
 have w2t:∀f,Region.wanted o2 f=true:=fun f=>by unfold Region.wanted;rw[hr.o2g]
 unfold wpOp
 simp only[show (#[o1,o2]:Array Oper)[0]? = some o1 from rfl,w1t,if_true]
 left
 unfold Oper.wp
 rw[hv1]
 simp only[Oper.upon]
 rw[hr.o1d,wpOps_cons]
 unfold wpOp
 simp only[show (#[o1,o2]:Array Oper)[1]? = some o2 from rfl,w2t,if_true]
 left
 unfold Oper.wp
 rw[hdef]
 simp only[Oper.upon]
 rw[hr.o2d,hdef0]
 show (Exit.then (R.wp P (bodyPostD P fn (Ends .returned ρ H w v H'))) _) .normal { a2.put (some d1) v1 with defers:=[d] } w2
 simp only[Exit.then]
 -- the rest of the body
 refine wp_mono (zhr hm hD (B:=⟨ρ1,HD,w2,[d]⟩) rfl (noloop hr.lR) hR (b2 [d])) ?_
 rintro e a3 w3 ⟨ex,sl3,H3,rfl,hinv3,hk3⟩
 have hdef3:a3.defers=[d]:=hinv3.1
 have go:∀(u u1:FrameMode)(x:Value),u ≠ .run→(∀(c:Frame)(cs:List Frame),c.mode=u→∃cs',(recoverD (c::cs)=some (x,cs')∧cs'={ c with mode:=u1 }::cs)∨(recoverD (c::cs)=none∧x = .nilIface∧u1=u∧cs'=c::cs))→settle u1 = .returning →
  (∀ρ',Rv ρ' (yrl pan X) x)→zf3 HD.length [.ptr bi 0] HR [sl3.getD rc .any] H3→Leaves P fn a3.tmps (Ends .returned ρ H w v H') [d] u w3:=by
  intro u u1 x hu hrec hset hx hfit
  have hI3':=zf3.inv (B:=⟨ρ1,HD,w2,[d]⟩) hfit (hinv3.one rc)
  obtain⟨-,c3,ck,ρ2,c1,c2,c4⟩:=hI3'
  have c1:Agree HD.length ρ1 ρ2:=c1
  have hus3:∀ρ',Agree HR.length ρ2 ρ'→RvL ρ' [.ptr bi 0,.ptr bj 0] us:=fun ρ' ha=>by
   refine zdm (ρ:=ρ1) _ _ (fun k hk => ?_) hus2
   have hk:k=bi∨k=bj:=by simpa[zof,zcr] using hk
   have hlt:k<HD.length:=by rcases hk with rfl|rfl<;>assumption
   rw[ha k (Nat.lt_of_lt_of_le hlt ck.1),c1 k hlt]
  subst hd
  have hw3:∀ρ',Agree HR.length ρ2 ρ'→RvL ρ' [.ptr bi 0,.ptr bj 0] us∧Rel ρ' HR w3:=fun ρ' ha=>⟨hus3 ρ' ha,(c2 ρ' ha).2⟩
  have hrc3:∀ρ',Agree HR.length ρ2 ρ'→Rv ρ' (.ptr bi 0) (a3.tmps.getD rc undef):=fun ρ' ha=>(c2 ρ' ha).1.1
  refine leaves_cons hu (f:=g) (args:=us.toArray) (by simp[invoke,zfv hr.hc]) ?_
  refine callsD_of_wpS hr.hg hr.gb (fun c₀ cs hc0 => ?_)
  obtain⟨cs',hcs⟩:=hrec c₀ cs hc0
  have hcs2:cs'={ c₀ with mode:=u1 }::cs:=by
   rcases hcs with ⟨_,h⟩|⟨_,_,h1,h2⟩
   · exact h
   · rw[h2,h1, ← hc0]
  refine wpS_seq (wpS_region ?_)
  have hp1:∀(a:Act)(w:World),(execOp a.eval p1).run P w = .ok .recover w:=fun a w=>by
   obtain⟨ts,ho⟩:=hr.p1o
   simp[execOp,ho,resolve,invoke,builtin]
  have hp2:∀(a:Act)(w:World),(execOp a.eval p2).run P w = .ok (.value (a.eval (.tmp e1))) w:=fun a w=>by
   simp[execOp,hr.p2o]
  have wt1:∀f,Region.wanted p1 f=true:=fun f=>by unfold Region.wanted;rw[hr.p1g]
  have wt2:∀f,Region.wanted p2 f=true:=fun f=>by unfold Region.wanted;rw[hr.p2g]
  have hsz2:List.range (#[p1,p2]:Array Oper).size=[0,1]:=rfl
  rw[hsz2]
  simp only[wpOpsS,show (#[p1,p2]:Array Oper)[0]? = some p1 from rfl,show (#[p1,p2]:Array Oper)[1]? = some p2 from rfl,wt1,wt2,if_true,hp1,hp2]
  have key:∀Q:Act→List Frame→Prop,(∀ds,Q (({ tmps:=us.toArray++Array.replicate (gn.ntmps-us.toArray.size) undef,defers:=ds }:Act).put (some e1) x) cs')→True:=fun _ _=>trivial
  have hs0:Inv ⟨ρ2,HR,w3,[]⟩ (zc0 gn [.ptr bi 0,.ptr bj 0]) HR { tmps:=us.toArray++Array.replicate (gn.ntmps-us.toArray.size) undef,defers:=[] } w3:=zui hw3
  have hs1:=hs0.val (fun ρ' _ _=>hx ρ') (some e1)
  have hs2:=hs1.val (av:=yrl pan X) (v:=_) (fun ρ' h _=>by
   have:=zcb h (.tmp e1)
   have he':evS (zps (zc0 gn [.ptr bi 0,.ptr bj 0]) (some e1) (yrl pan X)) (.tmp e1)=yrl pan X:=he
   rw[he'] at this
   exact this) (some e2)
  have fin:T.wpS P (bodyPostS P gn c₀ cs (fun e u' w'=>match e with
   | .returned _=>Leaves P fn a3.tmps (Ends .returned ρ H w v H') [] (settle u') w'
   | .panicked chain=>Leaves P fn a3.tmps (Ends .returned ρ H w v H') [] (raised u' chain) w'
   | .outgrown=>Ends .returned ρ H w v H' .outgrown w')) ((({ tmps:=us.toArray++Array.replicate (gn.ntmps-us.toArray.size) undef,defers:=[] }:Act).put (some e1) x).put (some e2) ((({ tmps:=us.toArray++Array.replicate (gn.ntmps-us.toArray.size) undef,defers:=[] }:Act).put (some e1) x).eval (.tmp e1))) cs' w3:=by
   refine wpS_of_wp (wp_mono (zhr hm hD (B:=⟨ρ2,HR,w3,[]⟩) rfl (noloop hr.lT) hT hs2) ?_)
   rintro e a4 w4 ⟨ex,sl4,H4,rfl,hinv4,hk4⟩
   cases ex with
   | ext id=>exact hk4.elim
   | ret=>exact hk4.elim
   | pan v=>exact hk4.elim
   | nrm =>
   have hI4:=zf3.inv (B:=⟨ρ2,HR,w3,[]⟩) hk4 hinv4.bare
   obtain⟨-,q3,qk,ρ3,q1,q2,q4⟩:=hI4
   have hrc4:∀ρ',Agree HC.length ρ3 ρ'→Rv ρ' (.ptr bi 0) (a3.tmps.getD rc undef):=fun ρ' ha=>by
    refine zhu (ρ:=ρ2) _ _ (fun k hk => ?_) (hrc3 ρ2 (Agree.refl _ _))
    have hk:k=bi:=by simpa[zcr] using hk
    have hlt:k<HR.length:=by rw[hk];exact Nat.lt_of_lt_of_le hbi ck.1
    rw[ha k (Nat.lt_of_lt_of_le hlt qk.1),q1 k hlt]
   have hload:∀ρ',Agree HC.length ρ3 ρ'→∃y,(results fn a3.tmps).run P w4 = .ok y w4∧Rv ρ' av y:=fun ρ' ha=>by
    obtain⟨y,h1,h2⟩:=zqg hl trivial (q2 ρ' ha).2 (hrc4 ρ' ha)
    refine⟨y, ?_,h2⟩
    obtain⟨L,_,hy⟩:=hrc4 ρ' ha
    exact yu0 hr.hres hy h1
   obtain⟨y,hy1, -⟩:=hload ρ3 (Agree.refl _ _)
   refine⟨hinv4.1,u1,hcs2,.tuple #[],by simp[results,hr.gres], ?_⟩
   show Leaves P fn a3.tmps (Ends .returned ρ H w v H') [] (settle u1) w4
   rw[hset]
   refine⟨y,hy1, ?_⟩
   have e2:=Inv.then (B:=⟨ρ1,HD,w2,[]⟩) (v:=av) (y:=y) c3 ck c1 c4 qk q1 (fun ρ' ha=>⟨by
    obtain⟨y2,g1,g2⟩:=hload ρ' ha
    rw[hy1] at g1
    cases g1
    exact g2,(q2 ρ' ha).2⟩) q3 q4
   obtain⟨-,z3,zk,ρ4,z1,z2,z4⟩:=e2
   have e3:=Inv.then (B:=Bs) (v:=av) (y:=y) hI2 hI3 b1 b4 zk z1 (fun ρ' ha=>⟨(z2 ρ' ha).1.1,(z2 ρ' ha).2⟩) z3 z4
   obtain⟨ρ5,g⟩:=zqy e3 hF (y:=y) (fun ρ h _=>h.1)
   exact⟨y,ρ5,rfl,g⟩
  clear key
  rcases hcs with ⟨h1,_⟩|⟨h1,h2,_,h4⟩
  · simp only[h1,hr.p1d,hr.p2d,Oper.upon,Exit.thenS]
    exact fin
  · subst h2
    rw[h4] at fin
    simp only[h1,hr.p1d,hr.p2d,Oper.upon,Exit.thenS]
    exact fin
 cases ex with
 | ext id=>cases pan<;>exact hk3.elim
 | nrm=>cases pan<;>exact hk3.elim
 | ret =>
  cases pan with
  | true=>exact hk3.elim
  | false =>
   show Leaves P fn a3.tmps _ a3.defers .returning w3
   rw[hdef3]
   exact go .returning .returning .nilIface (by simp) (fun c cs hc=>⟨_,.inr ⟨by simp[recoverD,hc],rfl,rfl,rfl⟩⟩) rfl (fun _=>rfl) hk3
 | pan x =>
  cases pan with
  | false=>exact hk3.elim
  | true =>
   show Leaves P fn a3.tmps _ a3.defers (.panicking [{ v:=x,recovered:=false }]) w3
   rw[hdef3]
   exact go (.panicking [{ v:=x,recovered:=false }]) (.panicking [{ v:=x,recovered:=true }]) x (by simp) (fun c cs hc=>⟨_,.inl ⟨by simp[recoverD,hc],rfl⟩⟩) rfl (fun _=>zlv hk3.1) hk3.2
attribute [irreducible] zoo
end Go.Proofs.YtfiddfbagbaofaaGreat.V
