/- A small machine of signs and its soundness, part 4: no program in sight. Conditions: those in each statement. -/
import Derived.Test.YtfiddfbagbaofaaGreatV3
namespace Go.Proofs.YtfiddfbagbaofaaGreat.V
open Go
abbrev zdi:=Ex→List Av→Heap→Fz→Prop
def QW(B:Base)(K:zdi)(e:Exit)(a:Act)(w:World):Prop:=∃ex sl H F,e=zil ex∧zdf B sl H F a w∧K ex sl H F
theorem QW.mono{B:Base}{K K':zdi}(h:∀ex sl H F,K ex sl H F→K' ex sl H F){e:Exit}{a:Act}{w:World}:QW B K e a w→QW B K' e a w :=
 fun ⟨ex,sl,H,F,h1,h2,h3⟩=>⟨ex,sl,H,F,h1,h2,h _ _ _ _ h3⟩
abbrev Rels:=FuncId→Option RelS
def zb7(P:Program)(R:Rels):Prop:=∀g r,R g=some r→callable P g=true∧zcm P g r
def ywf(P:Program)(R:Rels)(sl:List Av)(o:Oper):Option (RelS × List Av) :=
 match o.op with
 | .call c=>match callee P sl c with
  | some (g,vs)=>match R g with|some r=>some (r,zhv vs)|none=>none
  | none=>none
 | _=>none
def ymd(P:Program)(D:Dict)(R:Rels)(o:Oper)(k:List Av→Heap→Fz→Prop)(sl:List Av)(H:Heap)(F:Fz):Prop :=
 match ywf P R sl o with
 | some (r,vs)=>match zri (r.S r.d) vs H with
  | some (p,_,_)=>ytl p (∀z:r.β,match zri (r.S z) vs H with|some (_,av,H')=>(match keeps H H' with|true=>(r.Q z (ygn vs H) (zwm vs H)→k (znc sl o.dst av) H' F)|false=>False)|none=>False)
  | none=>False
 | none=>match estep P (ΓK D 0) o sl H with
  | some (p,av,H')=>ytl p (k (znc sl o.dst av) H' F)
  | none=>False
def zr7(all:List Oper)(o:Oper)(go skip:List Av→Prop)(sl:List Av):Prop :=
 match o.guard with
 | none=>go sl
 | some (j,b)=>match (all[j]?).bind (·.dst) with
  | some d=>match sl.getD d .any with
   | .tt=>(match b with|true=>go sl|false=>skip sl)
   | .ff=>(match b with|true=>skip sl|false=>go sl)
   | .v (.bool x)=>(x=true→(match b with|true=>go (sl.set d .tt)|false=>skip (sl.set d .tt)))∧(x=false→(match b with|true=>skip (sl.set d .ff)|false=>go (sl.set d .ff)))
   | .v (.tuple _)=>skip sl
   | _=>False
  | none=>False
def ywg(P:Program)(D:Dict)(R:Rels)(plan:Nat→Gh)(all:List Oper):Nat→List Oper→zdi→List Av→Heap→Fz→Prop
 | _,[],K,sl,H,F=>K .nrm sl H F
 | i,o::ops,K,sl,H,F=>zr7 all o (fun sl=>(plan i).pre (ymd P D R o ((plan i).post (ywg P D R plan all (i+1) ops K))) sl H F)
  (fun sl=>ywg P D R plan all (i+1) ops K (znc sl o.dst (.v undef)) H F) sl
theorem zqb{P:Program}{D:Dict}(hD:DictOk P D){R:Rels}(hR:zb7 P R){o:Oper}{k:List Av→Heap→Fz→Prop}{sl:List Av}{H:Heap}{F:Fz}(h:ymd P D R o k sl H F){B:Base}{a:Act}{w:World}(hi:zdf B sl H F a w) :
 o.wp P a w (fun a' w'=>∃sl' H' F',zdf B sl' H' F' a' w'∧k sl' H' F') (fun _ _ _=>False):=by
 have hw:∀ρ:Env,Inv ⟨ρ,H,w,a.defers⟩ sl H a w→∀ρ',Agree H.length ρ ρ'→RvL ρ' sl a.tmps.toList∧Rel ρ' H w:=by
  rintro ρ ⟨_,_,_,ρ2,e4,e5,_⟩ ρ' ha
  exact e5 ρ' (fun i hi=>by rw[ha i hi];exact (e4 i hi).symm)
 have back:∀(ρ:Env),Inv ⟨ρ,H,w,a.defers⟩ sl H a w→∀(av:Av)(H1:Heap)(y:Value)(w':World),Eff ρ H w av H1 y w'→Inv ⟨ρ,H,w,a.defers⟩ (znc sl o.dst av) H1 (a.put o.dst y) w':=by
  rintro ρ h0 av H1 y w' ⟨k1,ρ1,k2,k3,k4,k5⟩
  exact⟨zer ..,k4,k1,ρ1,k2,fun ρ' ha=>⟨zje (hw ρ h0 ρ' (k2.trans (ha.le k1.le))).1 (k3 ρ' ha).1 o.dst,(k3 ρ' ha).2⟩,k5⟩
 unfold ymd at h
 split at h
 · rename_i r vs hrel
   unfold ywf at hrel
   split at hrel
   case h_2=>cases hrel
   rename_i c hop
   split at hrel
   case h_2=>cases hrel
   rename_i g vs' hc
   split at hrel
   case h_2=>cases hrel
   rename_i r' hr
   simp only[Option.some.injEq,Prod.mk.injEq] at hrel
   obtain⟨rfl,rfl⟩:=hrel
   obtain⟨hcall,hsnd⟩:=hR g _ hr
   split at h
   case h_2=>exact h.elim
   rename_i p v0 H00 hd
   obtain⟨hp,h⟩:=zld h
   have:=hi.move (R:=fun _ _ _ _=>True) (c:=fun T=>o.wp P a w (fun a' w'=>∃z q av H1,zri (r'.S z) (zhv vs') H=some (q,av,H1)∧r'.Q z (ygn (zhv vs') H) (zwm (zhv vs') H)∧T (znc sl o.dst av) H1 a' w') (fun _ _ _=>False))
    (fun T T' hh hc=>Oper.wp_mono (fun a' w'=>fun ⟨z,q,av,H1,e1,e2,e3⟩=>⟨z,q,av,H1,e1,e2,hh _ _ _ _ e3⟩) hc) (fun ρ h0 => ?_)
   · refine Oper.wp_mono (fun a' w' => ?_) this
     rintro⟨z,q,av,H1,e1,e2,e3,_⟩
     have hz:=h z
     rw[e1] at hz
     simp only at hz
     split at hz
     · exact⟨_,_,_,e3,hz e2⟩
     · exact hz.elim
   · have hw':=hw ρ h0
     have hag:Agree H.length ρ ρ:=Agree.refl _ _
     obtain⟨us,h1,_⟩:=zig hc hcall (hw' ρ hag).1 hop
     have h2:∀ρ',Agree H.length ρ ρ'→RvL ρ' (zhv vs') us∧Rel ρ' H w:=by
      intro ρ' ha
      obtain⟨us',h1',h2'⟩:=zig hc hcall (hw' ρ' ha).1 hop
      have e:=(h1 w).symm.trans (h1' w)
      simp only[Result.ok.injEq,Next.enter.injEq,true_and,and_true] at e
      have e3:us=us':=by simpa using congrArg Array.toList e
      subst e3
      exact⟨(zdp vs' us).2 h2',(hw' ρ' ha).2⟩
     obtain⟨v1,H1',s1,s2,_⟩:=zh3 hd h2
     have hcl:=hsnd _ _ p v1 H1' s1 hp _ us w s2
     unfold Oper.wp
     rw[h1 w]
     simp only[Oper.upon]
     refine hcl.mono ?_
     rintro e w' ⟨z,p',v',H2,t1,t2,t3⟩
     have hz:=h z
     split at hz
     case h_2=>exact hz.elim
     rename_i q av H1 hcz
     split at hz
     case h_2=>exact hz.elim
     rename_i hkeep
     obtain⟨v2,H2',u1,_,u3⟩:=zh3 hcz h2
     rw[t1] at u1
     simp only[Option.some.injEq,Prod.mk.injEq] at u1
     obtain⟨_,rfl,rfl⟩:=u1
     obtain⟨y,ρ1,rfl,g1,g2,g3,g4⟩:=u3 _ _ _ t3
     exact⟨z,q,av,H1,hcz,t2,back ρ h0 av H1 y w' ⟨zq9 hkeep,ρ1,g1,g2,g3,g4⟩,trivial⟩
 · split at h
   case h_2=>exact h.elim
   rename_i p av H1 hs
   obtain⟨hp,h⟩:=zld h
   have:=hi.move (R:=fun _ _ _ _=>True) (c:=fun T=>o.wp P a w (fun a' w'=>T (znc sl o.dst av) H1 a' w') (fun _ _ _=>False)) (fun T T' hh hc=>Oper.wp_mono (fun a' w' h=>hh _ _ _ _ h) hc) (fun ρ h0 => ?_)
   · exact Oper.wp_mono (fun a' w' h'=>⟨_,_,_,h'.1,h⟩) this
   · have hgo:=zkw (yme hD 0) hs hp (hw ρ h0)
     unfold Goes at hgo
     refine Oper.wp_mono (fun a' w' => ?_) hgo
     rintro⟨y,rfl,he⟩
     exact⟨back ρ h0 av H1 y w' he,trivial⟩
theorem Oper.wp_any{P:Program}{o:Oper}{a:Act}{w:World}{K:Act→World→Prop}{Q:Exit→Act→World→Prop}(hh:o.wp P a w K (fun _ _ _=>False)):o.wp P a w K Q:=by
 unfold Oper.wp at *
 generalize (execOp a.eval o).run P w=r at *
 cases r with
 | ok n w' =>
  cases n<;>simp only[Oper.upon] at hh ⊢ <;>
   first
    | exact hh
    | exact hh.elim
    | exact Calls.mono hh (fun e w'' he=>by cases e<;>first|exact he|exact he.elim|(obtain⟨_,_,he⟩:=he;exact he.elim))
    | exact Rows.mono hh (fun _ _ he=>he)
 | halt x w'=>cases x<;>simp only[Oper.upon] at hh ⊢ <;> first|exact hh.elim|exact hh
theorem zdf.told{B:Base}{sl:List Av}{H:Heap}{F:Fz}{a:Act}{w:World}(h:zdf B sl H F a w){d:Nat}{x y:Av}(hd:sl.getD d .any=x)(hx:x ≠ .any)(hxy:∀ρ v,Rv ρ x v→Rv ρ y v):zdf B (sl.set d y) H F a w:=by
 obtain⟨h1,h2,h3,ρ,h4,h5,h6,h7⟩:=h
 refine⟨h1,h2,h3,ρ,h4,fun ρ' hag=>⟨?_,(h5 ρ' hag).2⟩,h6,h7⟩
 have hs:=(h5 ρ' hag).1
 have:sl[d]? = some x:=by
  rw[List.getD_eq_getElem?_getD] at hd
  cases hh:sl[d]? with
  | none=>rw[hh] at hd;exact absurd hd.symm hx
  | some z=>rw[hh] at hd;exact congrArg some hd
 obtain⟨v,e1,e2⟩:=zeu hs this
 exact zgw hs d e1 (hxy _ _ e2)
theorem zdf.skip{B:Base}{sl:List Av}{H:Heap}{F:Fz}{a:Act}{w:World}(h:zdf B sl H F a w)(d:Option Tmp):zdf B (znc sl d (.v undef)) H F (a.put d undef) w:=by
 obtain⟨h1,h2,h3,ρ,h4,h5,h6,h7⟩:=h
 exact⟨(zer ..).trans h1,h2,h3,ρ,h4,fun ρ' hag=>⟨zje (h5 ρ' hag).1 (show Rv ρ' (.v undef) undef from rfl) d,(h5 ρ' hag).2⟩,h6,h7⟩
theorem zdf.slot{B:Base}{sl:List Av}{H:Heap}{F:Fz}{a:Act}{w:World}(h:zdf B sl H F a w){d:Nat}{x:Av}(hd:sl.getD d .any=x)(hx:x ≠ .any):∃ρ v,a.tmps[d]? = some v∧Rv ρ x v:=by
 obtain⟨h1,h2,h3,ρ,h4,h5,h6,h7⟩:=h
 have hs:=(h5 ρ (Agree.refl _ _)).1
 have:sl[d]? = some x:=by
  rw[List.getD_eq_getElem?_getD] at hd
  cases hh:sl[d]? with
  | none=>rw[hh] at hd;exact absurd hd.symm hx
  | some z=>rw[hh] at hd;exact congrArg some hd
 obtain⟨v,e1,e2⟩:=zeu hs this
 exact⟨ρ,v,by simpa using e1,e2⟩
def isB(b:Bool):Value→Bool
 | .bool x=>x==b
 | _=>false
theorem zjb{A:Array Oper}{o:Oper}{a:Act}{j:Nat}{b:Bool}{d:Tmp}{v:Value}(hg:o.guard=some (j,b))(hd:(A[j]?).bind (·.dst)=some d)(hv:a.tmps[d]? = some v) :
 Region.wanted o (yielded A a.tmps)=isB b v:=by
 unfold Region.wanted yielded
 rw[hg]
 simp only
 rw[hd]
 simp only[Option.bind_some]
 rw[hv]
 cases v<;>rfl
theorem zr8{A:Array Oper}{all:List Oper}(hall:∀j:Nat,A[j]? = all[j]?){o:Oper}{go skip:List Av→Prop}{sl:List Av}{B:Base}{H:Heap}{F:Fz}{a:Act}{w:World}(h:zr7 all o go skip sl)(hi:zdf B sl H F a w) :
 (Region.wanted o (yielded A a.tmps)=true∧∃sl',zdf B sl' H F a w∧go sl')∨(Region.wanted o (yielded A a.tmps)=false∧∃sl',zdf B sl' H F a w∧skip sl'):=by
 unfold zr7 at h
 split at h
 · rename_i hg
   exact .inl ⟨by unfold Region.wanted;rw[hg],sl,hi,h⟩
 rename_i j b hg
 split at h
 case h_2=>exact h.elim
 rename_i d hd
 rw[← hall] at hd
 split at h
 · rename_i hs
   obtain⟨ρ,v,e1,e2⟩:=hi.slot hs (by intro h;cases h)
   have e2:v = .bool true:=e2
   subst e2
   have:=zjb hg hd e1
   cases b
   · exact .inr ⟨this,sl,hi,h⟩
   · exact .inl ⟨this,sl,hi,h⟩
 · rename_i hs
   obtain⟨ρ,v,e1,e2⟩:=hi.slot hs (by intro h;cases h)
   have e2:v = .bool false:=e2
   subst e2
   have:=zjb hg hd e1
   cases b
   · exact .inl ⟨this,sl,hi,h⟩
   · exact .inr ⟨this,sl,hi,h⟩
 · rename_i x hs
   obtain⟨ρ,v,e1,e2⟩:=hi.slot hs (by intro h;cases h)
   have e2:v = .bool x:=e2
   subst e2
   have:=zjb hg hd e1
   have told:∀y,(∀ρ,Rv ρ y (.bool x))→zdf B (sl.set d y) H F a w:=fun y hy=>hi.told hs (by intro h;cases h) (fun ρ v hv=>by
    have hv:v = .bool x:=hv
    subst hv
    exact hy ρ)
   cases x
   · have h:=h.2 rfl
     cases b
     · exact .inl ⟨this,sl.set d .ff,told .ff (fun _=>rfl),h⟩
     · exact .inr ⟨this,sl.set d .ff,told .ff (fun _=>rfl),h⟩
   · have h:=h.1 rfl
     cases b
     · exact .inr ⟨this,sl.set d .tt,told .tt (fun _=>rfl),h⟩
     · exact .inl ⟨this,sl.set d .tt,told .tt (fun _=>rfl),h⟩
 · rename_i x hs
   obtain⟨ρ,v,e1,e2⟩:=hi.slot hs (by intro h;cases h)
   have e2:v = .tuple x:=e2
   subst e2
   exact .inr ⟨zjb hg hd e1,sl,hi,h⟩
 · exact h.elim
theorem zwt{P:Program}{D:Dict}(hD:DictOk P D){R:Rels}(hR:zb7 P R){plan:Nat→Gh}{B:Base}{K:zdi}{A:Array Oper}{all:List Oper}(hall:∀j:Nat,A[j]? = all[j]?):∀{ops:List Oper}{i:Nat}{sl:List Av}{H:Heap}{F:Fz},(∀j,A[i+j]? = ops[j]?) →
 ywg P D R plan all i ops K sl H F→∀{a:Act}{w:World},zdf B sl H F a w→wpOps P A (QW B K) (List.range' i ops.length) a w
 | [],i,sl,H,F,_,h,a,w,hi=>by
  simp only[List.length_nil,List.range'_zero,wpOps]
  exact⟨.nrm,sl,H,F,rfl,hi,h⟩
 | o::ops,i,sl,H,F,hA,h,a,w,hi=>by
  rw[List.length_cons,List.range'_succ,wpOps_cons]
  have ho:A[i]? = some o:=by simpa using hA 0
  have hnext:∀j,A[i+1+j]? = ops[j]? := fun j=>by have:=hA (j+1);rw[show i+(j+1)=i+1+j by omega] at this;simpa using this
  simp only[ywg] at h
  unfold wpOp
  simp only[ho]
  rcases zr8 hall h hi with ⟨hw,sl0,hi,h⟩|⟨hw,sl0,hi,h⟩
  · rw[hw]
    simp only[if_true]
    left
    obtain⟨sl1,H1,F1,hi1,h1⟩:=Gh.pre_ok h hi
    have hs:=zqb hD hR h1 hi1
    have hgo:o.wp P a w (wpOps P A (QW B K) (List.range' (i+1) ops.length)) (fun _ _ _=>False):=by
     refine Oper.wp_mono (fun a' w' => ?_) hs
     rintro⟨sl2,H2,F2,hi2,h2⟩
     obtain⟨sl3,H3,F3,hi3,h3⟩:=Gh.post_ok h2 hi2
     exact zwt hD hR hall hnext h3 hi3
    exact Oper.wp_any hgo
  · rw[hw]
    simp only[Bool.false_eq_true,if_false]
    exact zwt hD hR hall hnext h (hi.skip o.dst)
def zzg(all:List Oper)(left:List Nat):List Nat:=left.filter fun i=>match all[i]? with
 | some o=>o.after.toList.all fun e => !Region.binds .any e || !left.contains e.on
 | none=>false
def zyw(P:Program)(o:Oper)(sl:List Av):Bool :=
 o.guard.isNone&&(match o.op with
 | .move _=>true
 | .fieldAddr s x f=>(match zdv P s f (evS sl x) with|some (_,.ptr _ _)=>true|some (_,.eptr _ _ _ _)=>true|_=>false)
 | _=>false)
def ykl(all:List Oper)(left:List Nat)(i:Nat):Bool:=match all[i]? with
 | some o=>left.all fun j=>j==i||(match all[j]? with
  | some p=>p.after.any (fun e=>Region.binds .any e&&e.on==i)||o.apart all.toArray p
  | none=>true)
 | none=>false
def zyv(P:Program)(all:List Oper)(left:List Nat)(sl:List Av):List Nat→Option Nat
 | []=>none
 | i::is=>match (match all[i]? with|some o=>zyw P o sl&&ykl all left i|none=>false) with|true=>some i|false=>zyv P all left sl is
def yug(P:Program)(D:Dict)(R:Rels)(all:List Oper):Nat→List Nat→zdi→List Av→Heap→Fz→Prop
 | _,[],K,sl,H,F=>K .nrm sl H F
 | 0,_::_,_,_,_,_=>False
 | n+1,j::left,K,sl,H,F=>match zzg all (j::left) with
  | []=>False
  | r::rs=>zkq ((match zyv P all (j::left) sl (r::rs) with|some i=>[i]|none=>r::rs).map fun i=>match all[i]? with
   | some o=>zr7 all o (fun sl=>ymd P D R o (fun sl H F=>yug P D R all n ((j::left).filter fun k => !(k==i)) K sl H F) sl H F)
    (fun sl=>yug P D R all n ((j::left).filter fun k => !(k==i)) K (znc sl o.dst (.v undef)) H F) sl
   | none=>False)
theorem zdf.world{B:Base}{sl:List Av}{H:Heap}{F:Fz}{a:Act}{w w':World}(h:zdf B sl H F a w)(hf:Fr (fun _=>False) w w'):zdf B sl H F a w':=by
 obtain⟨h1,h2,h3,ρ,h4,h5,h6,h7⟩:=h
 refine⟨h1,h2.trans hf (fun _ _ e=>e.elim),h3,ρ,h4,fun ρ' ha=>⟨(h5 ρ' ha).1,zko (h5 ρ' ha).2 hf⟩,h6,fun y xs hy => ?_⟩
 rcases h7 y xs hy with g|⟨b,o,g1,g2,g3,g4,g5,g6,g7⟩
 · exact .inl g
 · exact .inr ⟨b,o,g1,g2,Nat.lt_of_lt_of_le g3 hf.1,g4,g5,g6,fun j v hj=>by rw[zcz (a:=⟨b,o+j,none⟩) (hf.2 b g3 id)];exact g7 j v hj⟩
theorem zhp{all:List Oper}{left:List Nat}{listed:Array Bool}(hsz:listed.size=all.length)(hl:∀j,j<all.length→(listed.getD j false=false↔j ∈ left))(hlt:∀j ∈ left,j<all.length){i:Nat}(hedge:∀(o:Oper),all[i]? = some o→∀e ∈ o.after,Region.binds .any e=true→e.on<all.length) :
 i ∈ zzg all left↔i ∈ Region.ready .any all.toArray listed:=by
 rw[mem_ready]
 unfold zzg
 rw[List.mem_filter]
 have hget:∀(j:Nat),j<all.length→listed.getD j true=listed.getD j false:=by
  intro j hj
  simp[Array.getD,hsz,hj]
 constructor
 · rintro⟨h1,h2⟩
   have hi:=hlt i h1
   have ho:all[i]? = some all[i]:=List.getElem?_eq_getElem hi
   rw[ho] at h2
   simp only[List.all_eq_true,Bool.or_eq_true,Bool.not_eq_true'] at h2
   refine⟨by rw[hget i hi];exact (hl i hi).2 h1,all[i],by simp[hi],fun e he hb => ?_⟩
   rcases h2 e (by simpa using he) with g|g
   · rw[hb] at g;cases g
   · have hlt':=hedge _ ho e he hb
     cases hv:listed.getD e.on false with
     | true=>rfl
     | false =>
      have:=(hl e.on hlt').1 hv
      have g':¬ e.on ∈ left:=by simpa using g
      exact absurd this g'
 · rintro⟨h0,o,ho,h2⟩
   have ho':all[i]? = some o:=by simpa using ho
   have hi:i<all.length:=by
    rcases Nat.lt_or_ge i all.length with q|q
    · exact q
    · rw[List.getElem?_eq_none q] at ho';cases ho'
   rw[hget i hi] at h0
   refine⟨(hl i hi).1 h0, ?_⟩
   rw[ho']
   simp only[List.all_eq_true,Bool.or_eq_true,Bool.not_eq_true']
   intro e he
   cases hb:Region.binds .any e with
   | false=>exact .inl rfl
   | true =>
    right
    have h3:=h2 e (by simpa using he) hb
    have hlt':=hedge o ho' e (by simpa using he) hb
    cases hc:left.contains e.on with
    | false=>rfl
    | true =>
     have:e.on ∈ left:=by simpa using hc
     rw[(hl e.on hlt').2 this] at h3
     cases h3
theorem yj6{α:Type}{f:α→Prop}{l:List α}(h:zkq (l.map f)){x:α}(hx:x ∈ l):f x:=zbp.1 h _ (List.mem_map.2 ⟨x,hx,rfl⟩)
def yv1(K:zdi):zdi
 | .nrm,sl,H,F=>K .nrm sl H F
 | _,_,_,_=>False
theorem zrr{P:Program}{all:List Oper}{left:List Nat}{sl:List Av}:∀{is:List Nat}{i:Nat},zyv P all left sl is=some i→i ∈ is∧∃o,all[i]? = some o∧zyw P o sl=true∧ykl all left i=true
 | [],i,h=>by cases h
 | k::is,i,h=>by
  simp only[zyv] at h
  split at h
  · rename_i hk
    simp only[Option.some.injEq] at h
    subst h
    split at hk
    · rename_i o ho
      simp only[Bool.and_eq_true] at hk
      exact⟨List.mem_cons_self,o,ho,hk.1,hk.2⟩
    · cases hk
  · obtain⟨h1,h2⟩:=zrr h
    exact⟨List.mem_cons_of_mem _ h1,h2⟩
theorem ykm{all:List Oper}{left:List Nat}{listed:Array Bool}(hsz:listed.size=all.length)(hl:∀j,j<all.length→(listed.getD j false=false↔j ∈ left)){i:Nat}(h:ykl all left i=true):Region.free .any all.toArray listed i=true:=by
 unfold ykl at h
 unfold Region.free
 split at h
 case h_2=>cases h
 rename_i o ho
 have ho':all.toArray[i]? = some o:=by simpa using ho
 simp only[ho',List.all_eq_true,List.mem_range,List.size_toArray] at h ⊢
 intro j hj
 cases hv:listed.getD j true with
 | true=>simp
 | false =>
  have hv':listed.getD j false=false:=by rw[← hv];simp[Array.getD,hsz,hj]
  have:=h j ((hl j hj).1 hv')
  simp only[List.getElem?_toArray,Bool.or_false] at this ⊢
  cases hp:all[j]? with
  | none=>simp
  | some p=>rw[hp] at this;exact this
theorem zvq{P:Program}{o:Oper}{sl:List Av}(h:zyw P o sl=true){B:Base}{H:Heap}{F:Fz}{a:Act}{w:World}(hi:zdf B sl H F a w):o.guard=none∧∃v,∀w',(execOp a.eval o).run P w' = .ok (.value v) w':=by
 unfold zyw at h
 simp only[Bool.and_eq_true] at h
 obtain⟨hg,h⟩:=h
 refine⟨by simpa using hg, ?_⟩
 obtain⟨_,_,_,ρ,_,hs,_⟩:=hi.inv
 have hs:=(hs ρ (Agree.refl _ _)).1
 split at h
 · rename_i x hop
   exact⟨a.eval x,fun w'=>by simp[execOp,hop]⟩
 · rename_i s x f hop
   have main:∀(p:Option Prop)(av:Av),zdv P s f (evS sl x)=some (p,av)→(∀v v',Rv ρ av v→Rv ρ av v'→v=v')→∃v,∀w',(execOp a.eval o).run P w' = .ok (.value v) w':=by
    intro p av he hu
    obtain⟨v,h1,h2⟩:=zge he (zco hs x) w
    refine⟨v,fun w' => ?_⟩
    obtain⟨v',h1',h2'⟩:=zge he (zco hs x) w'
    rw[hu v v' h2 h2']
    simp[execOp,hop,h1']
   split at h
   · rename_i p id sub he
     refine main p _ he (fun v v' h1 h2 => ?_)
     simp only[Rv] at h1 h2
     obtain⟨L,e1,rfl⟩:=h1
     obtain⟨M,e2,rfl⟩:=h2
     rw[e1] at e2;cases e2;rfl
   · rename_i p id sz i sub he
     refine main p _ he (fun v v' h1 h2 => ?_)
     simp only[Rv] at h1 h2
     obtain⟨L,e1,rfl⟩:=h1
     obtain⟨M,e2,rfl⟩:=h2
     rw[e1] at e2;cases e2;rfl
   · cases h
 · cases h
theorem yp1{P:Program}{D:Dict}(hD:DictOk P D){R:Rels}(hR:zb7 P R){B:Base}{K:zdi}{all:List Oper}(hsel:Region.noSelect all.toArray=true)(hedge:∀(i:Nat) (o:Oper),all[i]? = some o→∀e ∈ o.after,Region.binds .any e=true→e.on<all.length):∀(n:Nat)(left:List Nat)(listed:Array Bool){sl:List Av}{H:Heap}{F:Fz}{a:Act}{w:World},listed.size=all.length →
 (∀j,j<all.length→(listed.getD j false=false↔j ∈ left))→(∀j ∈ left,j<all.length)→yug P D R all n left K sl H F→zdf B sl H F a w→wpAny P .any all.toArray (QW B (yv1 K)) n listed a w:=by
 have empty:∀(listed:Array Bool),listed.size=all.length→(∀j,j<all.length→(listed.getD j false=false↔j ∈ ([]:List Nat)))→Region.ready .any all.toArray listed=[]:=by
  intro listed hsz hl
  refine List.eq_nil_iff_forall_not_mem.2 (fun i hi => ?_)
  have:=(zhp hsz hl (by simp) (hedge i)).2 hi
  simp[zzg] at this
 intro n
 induction n with
 | zero =>
  intro left listed sl H F a w hsz hl hlt h hi
  cases left with
  | nil=>exact⟨empty listed hsz hl,.nrm,sl,H,F,rfl,hi,h⟩
  | cons _ _=>exact h.elim
 | succ n ih =>
  intro left listed sl H F a w hsz hl hlt h hi
  cases left with
  | nil =>
   have he:=empty listed hsz hl
   exact⟨fun _=>⟨.nrm,sl,H,F,rfl,hi,h⟩,fun i hi'=>by rw[he] at hi';cases hi'⟩
  | cons j left =>
   simp only[yug] at h
   split at h
   · exact h.elim
   rename_i r rs hr
   have setl:∀(i:Nat),i<all.length→(listed.setIfInBounds i true).size=all.length∧(∀k,k<all.length→((listed.setIfInBounds i true).getD k false=false↔k ∈ (j::left).filter fun k => !(k==i)))∧∀k ∈ (j::left).filter (fun k => !(k==i)),k<all.length:=by
    intro i hil2
    have hlset:∀k,(listed.setIfInBounds i true).getD k false=if k=i then true else listed.getD k false:=by
     intro k
     by_cases e:k=i
     · subst e
       simp[Array.getD,hsz,hil2]
     · rw[if_neg e,getD_set_ne false (fun h=>e h.symm)]
    refine⟨by simpa using hsz,fun k hk => ?_,fun k hk=>hlt k (List.mem_filter.1 hk).1⟩
    rw[hlset,List.mem_filter]
    by_cases e:k=i
    · simp[e]
    · rw[if_neg e,hl k hk];simp[e]
   split at h
   · rename_i i he
     obtain⟨hmem,o,ho,heasy,hfree⟩:=zrr he
     rw[← hr] at hmem
     have hil2:=hlt i (List.mem_filter.1 hmem).1
     obtain⟨hsz',hl',hlt'⟩:=setl i hil2
     simp only[List.map_cons,List.map_nil,zkq,ho] at h
     obtain⟨hg,v,hv⟩:=zvq heasy hi
     have hwant:Region.wanted o (yielded all.toArray a.tmps)=true:=by unfold Region.wanted;rw[hg]
     unfold zr7 at h
     rw[hg] at h
     simp only at h
     have hs:=zqb hD hR h hi
     unfold Oper.wp at hs
     rw[hv w] at hs
     obtain⟨sl2,H2,F2,hi2,h2⟩:=hs
     refine wpAny_take (i:=i) (oi:=o) (v:=v) (by simpa using ho) hsel (ykm hsz hl hfree) (by simpa using (zhp hsz hl hlt (hedge i)).1 hmem) (fun c a w hq => ?_) (.inl ⟨hwant,hv⟩) (ih _ _ hsz' hl' hlt' h2 hi2)
     obtain⟨ex,sl,H,F,e1,_,e3⟩:=hq
     cases ex with
     | pan v=>exact e3.elim
     | nrm=>cases e1
     | ext _=>cases e1
     | ret=>cases e1
   refine⟨fun hnil => ?_,fun i hi' => ?_⟩
   · have:r ∈ Region.ready .any all.toArray listed:=(zhp hsz hl hlt (hedge r)).1 (by rw[hr];exact List.mem_cons_self)
     rw[hnil] at this
     cases this
   · have hmem:=(zhp hsz hl hlt (hedge i)).2 hi'
     have hil2:=hlt i (List.mem_filter.1 hmem).1
     rw[hr] at hmem
     have h:=yj6 h hmem
     have ho:all[i]? = some all[i]:=List.getElem?_eq_getElem hil2
     generalize all[i]=o at ho
     rw[ho] at h
     simp only at h
     obtain⟨hsz',hl',hlt'⟩:=setl i hil2
     unfold wpOp
     have ho':all.toArray[i]? = some o:=by simpa using ho
     simp only[ho']
     rcases zr8 (A:=all.toArray) (all:=all) (fun j=>by simp) h hi with ⟨hw,sl0,hi,h⟩|⟨hw,sl0,hi,h⟩
     · rw[hw]
       simp only[if_true]
       left
       refine Oper.wp_any (Oper.wp_mono (fun a' w' => ?_) (zqb hD hR h hi))
       rintro⟨sl2,H2,F2,hi2,h2⟩
       exact ih _ _ hsz' hl' hlt' h2 hi2
     · rw[hw]
       simp only[Bool.false_eq_true,if_false]
       exact ih _ _ hsz' hl' hlt' h (hi.skip o.dst)
def yec(all:List Oper):Bool:=all.all fun o=>o.after.toList.all fun e => !Region.binds .any e||decide (e.on<all.length)
theorem yke{all:List Oper}(h:yec all=true):∀(i:Nat)(o:Oper),all[i]? = some o→∀e ∈ o.after,Region.binds .any e=true→e.on<all.length:=by
 intro i o ho e he hb
 have h1:=List.all_eq_true.1 (List.all_eq_true.1 h o (List.mem_of_getElem? ho)) e (by simpa using he)
 simpa[hb] using h1
def yd9(P:Program)(D:Dict)(R:Rels)(ops:Array Oper)(K:zdi)(sl:List Av)(H:Heap)(F:Fz):Prop:=match yec ops.toList&&Region.noSelect ops with|true=>yug P D R ops.toList ops.toList.length (List.range ops.toList.length) K sl H F|false=>False
theorem yea{P:Program}(hm:P.follows .mixedOrders=true){D:Dict}(hD:DictOk P D){R:Rels}(hR:zb7 P R){B:Base}{ops:Array Oper}{K:zdi}{sl:List Av}{H:Heap}{F:Fz}(h:yd9 P D R ops K sl H F){a:Act}{w:World}(hi:zdf B sl H F a w)(id:Nat):(Code.region id ops true).wp P (QW B K) a w:=by
 unfold yd9 at h
 split at h
 case h_2=>exact h.elim
 rename_i he
 simp only[Bool.and_eq_true] at he
 refine wp_mono (wp_region_any hm ?_) (fun e a' w' hq=>QW.mono (K:=yv1 K) (fun ex sl H F hk => ?_) hq)
 case refine_2=>cases ex<;>first|exact hk|exact hk.elim
 have:=yp1 hD hR (all:=ops.toList) (K:=K) (by simpa using he.2) (yke he.1) ops.toList.length (List.range ops.toList.length) (Array.replicate ops.size false) (by simp) (fun j hj=>by simp at hj;simp[hj]) (fun j hj=>by simpa using hj) h
  (hi.world (w':={ w with drawn:=w.drawn+1 }) ⟨Nat.le_refl _,fun _ _ _=>rfl,rfl,rfl,rfl⟩)
 simpa using this
structure FamW (α:Type) where
 β:Type
 out:α→β→Prop
 ex:Ex
 sl:β→List Av
 H:β→Heap
 F:β→Fz:=fun _=>Fz.none
structure LoopW where
 α:Type
 I:α→Prop
 sl:α→List Av
 H:α→Heap
 F:α→Fz:=fun _=>Fz.none
 fams:List (FamW α)
structure CutW where
 β:Type
 sl:β→List Av
 H:β→Heap
 F:β→Fz:=fun _=>Fz.none
structure SpecW where
 loop:Nat→Option LoopW:=fun _=>none
 cond:Nat→Option CutW:=fun _=>none
 cut:Nat→Option CutW:=fun _=>none
 plan:Nat→Option (Nat→Gh):=fun _=>none
 fin:Nat→Option CutW:=fun _=>none
def zj1(F G:Fz):Prop:=∀y xs,F y xs→G y xs
def thenW(K1:List Av→Heap→Fz→Prop)(K:zdi):zdi
 | .nrm,sl,H,F=>K1 sl H F
 | e,sl,H,F=>K e sl H F
def yn5(id:Nat)(K:zdi):zdi
 | .ext j,sl,H,F=>match j==id with|true=>K .nrm sl H F|false=>K (.ext j) sl H F
 | e,sl,H,F=>K e sl H F
def cutKW(n0:Nat)(C:CutW)(J:C.β→Prop)(K:zdi):zdi
 | .nrm,sl,H,F=>∃z,zgs n0 (C.sl z) (C.H z) sl H∧zj1 (C.F z) F∧J z
 | e,sl,H,F=>K e sl H F
def famsW{α:Type}(fs:List (FamW α))(x:α)(K:zdi):Prop:=zkq (fs.map fun f=>∀z,f.out x z→K f.ex (f.sl z) (f.H z) (f.F z))
def ylc(n0:Nat)(C:Option CutW)(K:zdi)(body:zdi→Prop):Prop :=
 match C with
 | none=>body K
 | some C=>∃J:C.β→Prop,body (cutKW n0 C J K)∧∀z,J z→K .nrm (C.sl z) (C.H z) (C.F z)
def regW(P:Program)(D:Dict)(R:Rels)(plan:Option (Nat→Gh))(ops:Array Oper)(draw:Bool)(K:zdi)(sl:List Av)(H:Heap)(F:Fz):Prop :=
 match plan with
 | some plan=>(match !draw with|true=>ywg P D R plan ops.toList 0 ops.toList K sl H F|false=>yd9 P D R ops K sl H F)
 | none=>ywe P D ops draw (fun ex sl H=>K ex sl H F) sl H
def vcW(P:Program)(D:Dict)(R:Rels)(Ξ:SpecW)(n0:Nat):Code→zdi→List Av→Heap→Fz→Prop
 | .skip,K,sl,H,F=>K .nrm sl H F
 | .label _,K,sl,H,F=>K .nrm sl H F
 | .exit id,K,sl,H,F=>K (.ext id) sl H F
 | .ret,K,sl,H,F=>K .ret sl H F
 | .region id ops draw,K,sl,H,F=>ylc n0 (Ξ.fin id) K fun K=>match Ξ.cut id with
  | none=>regW P D R (Ξ.plan id) ops draw K sl H F
  | some C=>∃J:C.β→Prop,(∃z,zgs n0 (C.sl z) (C.H z) sl H∧zj1 (C.F z) F∧J z)∧∀z,J z→regW P D R (Ξ.plan id) ops draw K (C.sl z) (C.H z) (C.F z)
 | .seq a b,K,sl,H,F=>vcW P D R Ξ n0 a (thenW (fun sl H F=>vcW P D R Ξ n0 b K sl H F) K) sl H F
 | .cond c a b,K,sl,H,F =>
  match evS sl c with
  | .tt=>vcW P D R Ξ n0 a K sl H F
  | .ff=>vcW P D R Ξ n0 b K sl H F
  | .v (.bool x)=>ylc n0 (match zbh a with|some k=>Ξ.cond k|none=>match zbh b with|some k=>Ξ.cond k|none=>none) K fun K'=>(x=true→vcW P D R Ξ n0 a K' sl H F)∧(x=false→vcW P D R Ξ n0 b K' sl H F)
  | _=>False
 | .block id c,K,sl,H,F=>vcW P D R Ξ n0 c (yn5 id K) sl H F
 | .loop body,K,sl,H,F =>
  match zbh body with
  | some k=>match Ξ.loop k with
   | some L=>∃x:L.α,zgs n0 (L.sl x) (L.H x) sl H∧zj1 (L.F x) F∧L.I x∧famsW L.fams x K
   | none=>False
  | none=>False
 | _,_,_,_,_=>False
theorem zdf.recast{B:Base}{φ:Ren}{sl1 sl2:List Av}{H1 H2:Heap}{F:Fz}{a:Act}{w:World}(h:zdf B sl1 H1 F a w)(hf:Fit B φ sl2 H2 sl1 H1):zdf B sl2 H2 F a w:=by
 obtain⟨ps,hc,hps⟩:=hf.ok
 rw[zbp] at hps
 unfold yum at hc
 split at hc
 case isFalse=>cases hc
 rename_i hk
 simp only[Bool.and_eq_true,decide_eq_true_eq] at hk
 obtain⟨p1,p2,h1,h2,rfl⟩:=zgy hc
 obtain⟨i1,i2,i3,ρ,i4,i5,i6,i7⟩:=h
 obtain⟨hs,hr⟩:=i5 ρ (Agree.refl _ _)
 have hpH:∀p ∈ p2,p:=fun p hp=>hps p (by simp[hp])
 obtain⟨k1,_⟩:=zl6 hk.2
 have hown:∀b,owns (zs1 ρ B.H.length φ) H2 b→owns ρ H1 b:=by
  rintro b ⟨id,blk,L,g1,g2,g3,g4⟩
  rcases zdj h2 hpH id blk g1 (zba g2) with ⟨j,d,qs,e1,e2,e3,e4⟩|⟨e1,_⟩
  · rw[Nat.zero_add] at e1
    unfold zs1 at g3
    rw[e1] at g3
    exact⟨j,d,L,e2,(zbn e3).1 g2,g3,g4⟩
  · rw[Nat.zero_add] at e1
    unfold zs1 at g3
    rw[e1] at g3
    cases g3
 refine⟨i1,i2,⟨hk.1,fun i b c hb hc' => ?_⟩,zs1 ρ B.H.length φ,fun i hi => ?_,fun ρ' hag => ?_,fun id blk L hid hb hl hL => ?_,fun y xs hy => ?_⟩
 · have hlt:i<B.H.length:=by
    rcases Nat.lt_or_ge i B.H.length with q|q
    · exact q
    · simp[List.getElem?_eq_none q] at hb
   cases hl:c.live with
   | false=>cases c<;>simp[Blk.live] at hl;exact⟨fun h=>(by cases h),fun h=>(by cases h)⟩
   | true =>
    rcases zdj h2 hpH i c hc' hl with ⟨j,d,qs,g1,g2,g3,g4⟩|⟨g1,_⟩
    · rw[Nat.zero_add,ze0 hlt] at g1
      simp only[Option.some.injEq] at g1
      subst g1
      obtain⟨f1,f2⟩:=i3.fl i b d hb g2
      obtain⟨e1,e2⟩:=zbn g3
      exact⟨fun h=>f1 (e1 h),fun _=>f2 (e2 hl)⟩
    · rw[Nat.zero_add,ze0 hlt] at g1;simp at g1
 · unfold zs1
   rw[ze0 hi]
   exact i4 i hi
 · obtain⟨hφ,hrel⟩:=zh6 hk.2 hk.1 h2 hpH hr hag
   exact⟨zg1 hφ h1 (fun p hp=>hps p (by simp[hp])) hs,hrel⟩
 · rcases zdj h2 hpH id blk hb hl with ⟨j,d,qs,g1,g2,g3,g4⟩|⟨g1,_⟩
   · rw[Nat.zero_add] at g1
     unfold zs1 at hL
     rw[g1] at hL
     rw[zg6 hid] at g1
     rcases zmg ((k1 id _ g1).2.2 j rfl) with g|⟨_,g⟩
     · exact i6 j d L g g2 ((zbn g3).2 hl) hL
     · rcases Nat.lt_or_ge j B.H.length with q|q
       · left
         refine⟨j,B.H[j],L,List.getElem?_eq_getElem q,(i3.fl j _ d (List.getElem?_eq_getElem q) g2).1 (g d g2), ?_,rfl⟩
         rw[← i4 j q];exact hL
       · exact i6 j d L q g2 ((zbn g3).2 hl) hL
   · rw[Nat.zero_add] at g1
     unfold zs1 at hL
     rw[g1] at hL
     cases hL
 · rcases i7 y xs hy with g|⟨b,o,g1,g2,g3,g4,g5,g6,g7⟩
   · exact .inl g
   · exact .inr ⟨b,o,g1,g2,g3,fun ho=>g4 (hown b ho),g5,g6,g7⟩
theorem zdf.fit{B:Base}{sl1 sl2:List Av}{H1 H2:Heap}{F:Fz}{a:Act}{w:World}(hf:zgs B.H.length sl2 H2 sl1 H1)(h:zdf B sl1 H1 F a w):zdf B sl2 H2 F a w:=by
 unfold zgs at hf
 split at hf
 · rename_i ps hp;exact h.recast ⟨ps,hp,hf⟩
 · exact hf.elim
def zg4{α:Type}(fs:List (FamW α))(x:α)(ex:Ex)(sl:List Av)(H:Heap)(F:Fz):Prop:=∃f ∈ fs,∃z,f.out x z∧f.ex=ex∧f.sl z=sl∧f.H z=H∧f.F z=F
def zb3(P:Program)(n0:Nat)(body:Code)(L:LoopW):Prop :=
 ∀(B:Base),B.H.length=n0→∀x,L.I x→∀a w,zdf B (L.sl x) (L.H x) (L.F x) a w→(Code.loop body).wp P (QW B (zg4 L.fams x)) a w
theorem ygq{P:Program}(hm:P.follows .mixedOrders=true){D:Dict}(hD:DictOk P D){R:Rels}(hR:zb7 P R){B:Base}{plan:Option (Nat→Gh)}{ops:Array Oper}{draw:Bool}{K:zdi}{sl:List Av}{H:Heap}{F:Fz}(h:regW P D R plan ops draw K sl H F){a:Act}{w:World}(hi:zdf B sl H F a w)(id:Nat):(Code.region id ops draw).wp P (QW B K) a w:=by
 unfold regW at h
 split at h
 · rename_i plan
   split at h
   · rename_i hc
     have hd:draw=false:=by simpa using hc
     subst hd
     refine wp_region ?_
     have:=zwt hD hR (A:=ops) (all:=ops.toList) (fun j=>by simp) (i:=0) (fun j=>by simp) h hi
     rw[List.range_eq_range',show ops.size=ops.toList.length by simp]
     exact this
   · rename_i hc
     have hd:draw=true:=by simpa using hc
     subst hd
     exact yea hm hD hR h hi id
 · have:=hi.move (R:=fun _ _ _ _=>True) (c:=fun T=>(Code.region id ops draw).wp P (fun e a' w'=>∃ex sl' H',e=zil ex∧K ex sl' H' F∧T sl' H' a' w') a w)
    (fun T T' hh hc=>wp_mono hc (fun e a' w'=>fun ⟨ex,sl',H',e1,e2,e3⟩=>⟨ex,sl',H',e1,e2,hh _ _ _ _ e3⟩)) (fun ρ h0 => ?_)
   · refine wp_mono this ?_
     rintro e a' w' ⟨ex,sl',H',rfl,e2,e3,_⟩
     exact⟨ex,sl',H',F,rfl,e3,e2⟩
   · refine wp_mono (zwo hm hD h h0 id) ?_
     rintro e a' w' ⟨ex,sl',H',rfl,e2,e3⟩
     exact⟨ex,sl',H',rfl,e3,e2,trivial⟩
theorem zy9{P:Program}{n0:Nat}{C:Option CutW}{K:zdi}{body:zdi→Prop}(h:ylc n0 C K body){B:Base}(hB:B.H.length=n0){c:Code}{a:Act}{w:World}(hb:∀K',body K'→c.wp P (QW B K') a w):c.wp P (QW B K) a w:=by
 unfold ylc at h
 split at h
 · exact hb K h
 · rename_i C
   obtain⟨J,h1,h2⟩:=h
   refine wp_mono (hb _ h1) ?_
   rintro e a' w' ⟨ex,sl,H,F,rfl,hi,hk⟩
   cases ex with
   | nrm =>
    obtain⟨z,hf,hs,hJ⟩:=hk
    exact⟨.nrm,_,_,_,rfl,(zdf.fit (hB ▸ hf) hi).sub hs,h2 z hJ⟩
   | ext id=>exact⟨.ext id,sl,H,F,rfl,hi,hk⟩
   | ret=>exact⟨.ret,sl,H,F,rfl,hi,hk⟩
   | pan v=>exact⟨.pan v,sl,H,F,rfl,hi,hk⟩
theorem zhg{P:Program}(hm:P.follows .mixedOrders=true){D:Dict}(hD:DictOk P D){R:Rels}(hR:zb7 P R){Ξ:SpecW}{n0:Nat}{B:Base}(hB:B.H.length=n0):∀{c:Code}{K:zdi}{sl:List Av}{H:Heap}{F:Fz},(∀b ∈ zak c,∀k L,zbh b=some k→Ξ.loop k=some L→zb3 P n0 b L) →
 vcW P D R Ξ n0 c K sl H F→∀{a:Act}{w:World},zdf B sl H F a w→c.wp P (QW B K) a w
 | .skip,K,sl,H,F,_,h,a,w,hi=>wp_skip ⟨.nrm,sl,H,F,rfl,hi,h⟩
 | .label _,K,sl,H,F,_,h,a,w,hi=>wp_label ⟨.nrm,sl,H,F,rfl,hi,h⟩
 | .exit id,K,sl,H,F,_,h,a,w,hi=>wp_exit ⟨.ext id,sl,H,F,rfl,hi,h⟩
 | .ret,K,sl,H,F,_,h,a,w,hi=>wp_ret ⟨.ret,sl,H,F,rfl,hi,h⟩
 | .region id ops draw,K,sl,H,F,_,h,a,w,hi=>by
  simp only[vcW] at h
  refine zy9 h hB (fun K' h => ?_)
  split at h
  · exact ygq hm hD hR h hi id
  · obtain⟨J,⟨z,hf,hs,hJ⟩,h⟩:=h
    exact ygq hm hD hR (h z hJ) ((zdf.fit (hB ▸ hf) hi).sub hs) id
 | .seq x y,K,sl,H,F,hl,h,a,w,hi=>by
  refine wp_seq (wp_mono (zhg hm hD hR hB (c:=x) (fun b hb=>hl b (by simp[zak,hb])) h hi) ?_)
  rintro e a' w' ⟨ex,sl',H',F',rfl,hi',hk⟩
  cases ex with
  | nrm=>exact zhg hm hD hR hB (c:=y) (fun b hb=>hl b (by simp[zak,hb])) hk hi'
  | ext id=>exact⟨.ext id,sl',H',F',rfl,hi',hk⟩
  | ret=>exact⟨.ret,sl',H',F',rfl,hi',hk⟩
  | pan v=>exact⟨.pan v,sl',H',F',rfl,hi',hk⟩
 | .cond c x y,K,sl,H,F,hl,h,a,w,hi=>by
  have hla:∀b ∈ zak x,∀k L,zbh b=some k→Ξ.loop k=some L→zb3 P n0 b L:=fun b hb=>hl b (by simp[zak,hb])
  have hlb:∀b ∈ zak y,∀k L,zbh b=some k→Ξ.loop k=some L→zb3 P n0 b L:=fun b hb=>hl b (by simp[zak,hb])
  obtain⟨_,_,_,ρ,_,hs,_⟩:=hi.inv
  have hev:=zco (hs ρ (Agree.refl _ _)).1 c
  simp only[vcW] at h
  split at h
  · rename_i e;rw[e] at hev
    exact wp_cond_true hev (zhg hm hD hR hB hla h hi)
  · rename_i e;rw[e] at hev
    exact wp_cond_false hev (zhg hm hD hR hB hlb h hi)
  · rename_i t e;rw[e] at hev
    refine zy9 h hB (fun K' hk => ?_)
    exact wp_cond_split hev (fun ht=>zhg hm hD hR hB hla (hk.1 ht) hi) (fun ht=>zhg hm hD hR hB hlb (hk.2 ht) hi)
  · exact h.elim
 | .block id c,K,sl,H,F,hl,h,a,w,hi=>by
  simp only[vcW] at h
  refine wp_block (wp_mono (zhg hm hD hR hB (c:=c) (fun b hb=>hl b (by simpa[zak] using hb)) h hi) ?_)
  rintro e a' w' ⟨ex,sl',H',F',rfl,hi',hk'⟩
  cases ex with
  | nrm=>exact⟨.nrm,sl',H',F',rfl,hi',hk'⟩
  | ret=>exact⟨.ret,sl',H',F',rfl,hi',hk'⟩
  | pan v=>exact⟨.pan v,sl',H',F',rfl,hi',hk'⟩
  | ext j =>
   simp only[zil,Exit.inBlock]
   simp only[yn5] at hk'
   split at hk'
   · rename_i e
     have:j=id:=by simpa using e
     rw[if_pos this]
     exact⟨.nrm,sl',H',F',rfl,hi',hk'⟩
   · rename_i e
     have:¬ j=id:=by simpa using e
     rw[if_neg this]
     exact⟨.ext j,sl',H',F',rfl,hi',hk'⟩
 | .loop body,K,sl,H,F,hl,h,a,w,hi=>by
  simp only[vcW] at h
  split at h
  case h_2=>exact h.elim
  rename_i k hk
  split at h
  case h_2=>exact h.elim
  rename_i L hL
  obtain⟨x,h1,h4,h2,h3⟩:=h
  refine wp_mono (hl body (by simp[zak]) k L hk hL B hB x h2 a w ((zdf.fit (hB ▸ h1) hi).sub h4)) ?_
  rintro e a' w' ⟨ex,sl',H',F',rfl,hi',f,hf,z,g1,rfl,rfl,rfl,rfl⟩
  exact⟨_,_,_,_,rfl,hi',zbp.1 h3 _ (List.mem_map.2 ⟨f,hf,rfl⟩) z g1⟩
 | .goto _,_,_,_,_,_,h,_,_,_=>h.elim
 | .rangeFunc ..,_,_,_,_,_,h,_,_,_=>h.elim
 | .scope _,_,_,_,_,_,h,_,_,_=>h.elim
 | .refuse _,_,_,_,_,_,h,_,_,_=>h.elim
def ygx(n0:Nat)(L:LoopW)(μ:L.α→Nat)(x:L.α):zdi
 | .nrm,sl,H,F=>∃y,zgs n0 (L.sl y) (L.H y) sl H∧zj1 (L.F y) F∧L.I y∧μ y<μ x∧zkq (L.fams.map fun f=>∀z,f.out y z→f.out x z)
 | ex,sl,H,F=>ydt ((L.fams.filter fun f=>f.ex.same ex).map fun f=>∃z,zgs n0 (f.sl z) (f.H z) sl H∧zj1 (f.F z) F∧f.out x z)
def zd5(P:Program)(D:Dict)(R:Rels)(Ξ:SpecW)(n0:Nat)(body:Code)(L:LoopW)(μ:L.α→Nat)(x:L.α):Prop:=vcW P D R Ξ n0 body (ygx n0 L μ x) (L.sl x) (L.H x) (L.F x)
theorem zdd{P:Program}(hm:P.follows .mixedOrders=true){D:Dict}(hD:DictOk P D){R:Rels}(hR:zb7 P R){n0:Nat}{body:Code}{L:LoopW}(μ:L.α→Nat)
 (round:∀x,L.I x→∃Ξ:SpecW,(∀b ∈ zak body,∀k L,zbh b=some k→Ξ.loop k=some L→zb3 P n0 b L)∧zd5 P D R Ξ n0 body L μ x):zb3 P n0 body L:=by
 intro B hB x hx a w hi
 refine zq3 (fun x a w=>L.I x∧zdf B (L.sl x) (L.H x) (L.F x) a w) μ (fun x=>QW B (zg4 L.fams x)) (fun x a w hx => ?_) ⟨hx,hi⟩
 obtain⟨Ξ,hl,hvc⟩:=round x hx.1
 unfold zd5 at hvc
 refine wp_mono (zhg hm hD hR hB hl hvc hx.2) ?_
 rintro e a' w' ⟨ex,sl,H,F,rfl,hi',hk⟩
 have out:∀ex,ex ≠ .nrm→ygx n0 L μ x ex sl H F→QW B (zg4 L.fams x) (zil ex) a' w':=by
  intro ex hne hk
  have hk':ydt ((L.fams.filter fun f=>f.ex.same ex).map fun f=>∃z,zgs n0 (f.sl z) (f.H z) sl H∧zj1 (f.F z) F∧f.out x z):=by
   cases ex with
   | nrm=>exact absurd rfl hne
   | ext id=>exact hk
   | ret=>exact hk
   | pan v=>exact hk
  obtain⟨p,h1,h2⟩:=zhk hk'
  obtain⟨f,hf,rfl⟩:=List.mem_map.1 h1
  obtain⟨z,hz,hs,ho⟩:=h2
  obtain⟨hf1,hf2⟩:=List.mem_filter.1 hf
  exact⟨ex,f.sl z,f.H z,f.F z,rfl,(zdf.fit (hB ▸ hz) hi').sub hs,f,hf1,z,ho,Ex.same_ok hf2,rfl,rfl,rfl⟩
 cases ex with
 | nrm =>
  obtain⟨y,h1,hs,h2,h3,h4⟩:=hk
  refine⟨y,⟨h2,(zdf.fit (hB ▸ h1) hi').sub hs⟩,h3,fun e a w hq=>QW.mono ?_ hq⟩
  rintro ex sl H F ⟨f,hf,z,g1,g2⟩
  exact⟨f,hf,z,zbp.1 h4 _ (List.mem_map.2 ⟨f,hf,rfl⟩) z g1,g2⟩
 | ext id=>exact out _ (by simp) hk
 | ret=>exact out _ (by simp) hk
 | pan v=>exact out _ (by simp) hk
def retR(P:Program)(fn:Func)(r:RelS)(args:List Av)(H0:Heap):zdi:=fun ex sl H _ =>
 match ex with
 | .ext _=>False
 | .pan _=>False
 | _=>match yjq P fn sl H with
  | some av=>∃z:r.β,(match r.S z args H0 with|some (_,v,H')=>zgs H0.length [v] H' [av] H|none=>False)∧r.Q z args H0
  | none=>False
def vcR(P:Program)(D:Dict)(R:Rels)(Ξ:SpecW)(fn:Func)(r:RelS)(args:List Av)(H:Heap):Prop:=vcW P D R Ξ H.length (zat fn) (retR P fn r args H) (zei fn args) H Fz.none
theorem zs7{P:Program}(hm:P.follows .mixedOrders=true){f:FuncId}{fn:Func}(hf:P.funcs[f]? = some fn)(hb:fn.body=some (zat fn)){r:RelS}{D:Dict}(hD:DictOk P D){R:Rels}(hR:zb7 P R)
 {args:List Av} {H:Heap} {Ξ:SpecW} (hL:∀b ∈ zak (zat fn),∀k L,zbh b=some k→Ξ.loop k=some L→zb3 P H.length b L) (hvc:vcR P D R Ξ fn r args H)
 (ρ:Env) (vs:List Value) (w:World) (hw:∀ρ',Agree H.length ρ ρ'→RvL ρ' args vs∧Rel ρ' H w) :
 Calls P f vs.toArray w fun e w'=>∃(z:r.β)(p':Option Prop)(v':Av)(H2:Heap),r.S z args H=some (p',v',H2)∧r.Q z args H∧Ends .returned ρ H w v' H2 e w':=by
 unfold vcR at hvc
 let B:Base:=⟨ρ,H,w,[]⟩
 have hlen:args.length=vs.length:=zbc (hw ρ (Agree.refl _ _)).1
 have hrep:∀(ρ':Env)(n:Nat),RvL ρ' (List.replicate n .any) (List.replicate n undef):=by
  intro ρ' n
  induction n with
  | zero=>trivial
  | succ n ih=>exact⟨trivial,ih⟩
 have hi:Inv B (zei fn args) H { tmps:=vs.toArray++Array.replicate (fn.ntmps-vs.toArray.size) undef,defers:=[] } w:=by
  refine⟨rfl,Fr.refl _ _,KeepsP.refl _,ρ,Agree.refl _ _,fun ρ' hag=>⟨?_,(hw ρ' hag).2⟩,fun id blk L hid hb' => ?_⟩
  · have:=zdu (hw ρ' hag).1 (hrep ρ' (fn.ntmps-args.length))
    simp only[zei,Array.toList_append,Array.toList_replicate,List.size_toArray]
    rw[← hlen]
    exact this
  · rw[List.getElem?_eq_none hid] at hb';cases hb'
 have hwp:=zhg hm hD hR (B:=B) rfl hL hvc (zdf.start hi)
 refine calls_of_wp hf hb (wp_mono hwp ?_)
 rintro e a w' ⟨ex,sl,H1,F,rfl,hiw,hk⟩
 have hi:=hiw.inv
 have main:∀av,yjq P fn sl H1=some av→(∃z:r.β,(match r.S z args H with|some (_,v,H')=>zgs H.length [v] H' [av] H1|none=>False)∧r.Q z args H)→a.defers=[]∧∃y,(results fn a.tmps).run P w' = .ok y w' ∧
  ∃(z:r.β)(p':Option Prop)(v':Av)(H2:Heap),r.S z args H=some (p',v',H2)∧r.Q z args H∧Ends .returned ρ H w v' H2 (.returned y) w':=by
  rintro av hav ⟨z,hz,hq⟩
  obtain⟨i1,i2,i3,ρ0,i4,i5,i6⟩:=id hi
  obtain⟨hs0,hr0⟩:=i5 ρ0 (Agree.refl _ _)
  obtain⟨y,hy1,_⟩:=zgx hav hs0 hr0
  refine⟨i1,y,hy1,z, ?_⟩
  split at hz
  case h_2=>exact hz.elim
  rename_i q v' H2 hsz
  obtain⟨ρ1,g⟩:=zlv hi hz (y:=y) (fun ρ hs hr=>by
   obtain⟨y2,hy2,hv⟩:=zgx hav hs hr
   rw[hy1] at hy2
   cases hy2
   exact hv)
  exact⟨q,v',H2,hsz,hq,y,ρ1,rfl,g⟩
 cases ex with
 | ext id=>exact hk.elim
 | pan v=>exact hk.elim
 | nrm =>
  simp only[retR] at hk
  split at hk
  · rename_i av hav;exact main av hav hk
  · exact hk.elim
 | ret =>
  simp only[retR] at hk
  split at hk
  · rename_i av hav;exact main av hav hk
  · exact hk.elim
attribute [irreducible] zd5 vcR
theorem yha{P:Program}(hm:P.follows .mixedOrders=true){f:FuncId}{fn:Func}(hf:P.funcs[f]? = some fn)(hb:fn.body=some (zat fn)){r:RelS}{D:Dict}(hD:DictOk P D){R:Rels}(hR:zb7 P R)
 (h:∀args H p v H',r.S r.d args H=some (p,v,H')→Hold p→∃Ξ:SpecW,(∀b ∈ zak (zat fn),∀k L,zbh b=some k→Ξ.loop k=some L→zb3 P H.length b L)∧vcR P D R Ξ fn r args H):zcm P f r:=by
 intro args H p v H' hs hp ρ vs w hw
 obtain⟨Ξ,hL,hvc⟩:=h args H p v H' hs hp
 exact zs7 hm hf hb hD hR hL hvc ρ vs w hw
def Rels.of(l:List (FuncId × RelS)):Rels:=fun g=>l.lookup g
theorem Rels.nil{P:Program}:zb7 P (Rels.of []):=fun g r h=>by cases h
theorem zma{β:Type 1}:∀{l:List (FuncId × β)}{g:FuncId}{r:β},l.lookup g=some r→(g,r) ∈ l
 | [],g,r,h=>by cases h
 | (k,v)::l,g,r,h=>by
  simp only[List.lookup_cons] at h
  split at h
  · rename_i e
    have e':g=k:=by simpa using e
    simp only[Option.some.injEq] at h
    subst e' h
    exact List.mem_cons_self
  · exact List.mem_cons_of_mem _ (zma h)
theorem Rels.ok{P:Program}{l:List (FuncId × RelS)}(h:∀p ∈ l,callable P p.1=true∧zcm P p.1 p.2):zb7 P (Rels.of l):=fun g r hr=>h (g,r) (zma hr)
def rwB:Blk→Blk
 | .dead => .dead
 | .fix cs _ ty => .fix cs true ty
 | .arr sh xs _ => .arr sh xs true
def Low(H0 H:Heap):Prop:=H0.length=H.length∧∀(i:Nat)(b:Blk),H0[i]? = some b→∃c,H[i]? = some c∧(b=c∨b=roB c)
theorem Low.rel{H0 H:Heap}(h:Low H0 H){ρ:Env}{w:World}(g:Rel ρ H w):Rel ρ H0 w:=by
 have live:∀{b c:Blk},(b=c∨b=roB c)→b.live=true→c.live=true:=by
  rintro b c (rfl|rfl) hl
  · exact hl
  · rwa [zp3] at hl
 have own:∀{b c:Blk},(b=c∨b=roB c)→b.own=true→c.own=true:=by
  rintro b c (rfl|rfl) hl
  · exact hl
  · rw[zjw] at hl;cases hl
 refine⟨fun i b hi => ?_,fun i j b c L M hi hj hne hb hc hoo hL hM => ?_,fun i b L hi hb hL => ?_⟩
 · obtain⟨c,hc,rfl|rfl⟩:=h.2 i b hi
   · exact g.blk i _ hc
   · exact yt9 (g.blk i c hc)
 · obtain⟨b',hb1,hb2⟩:=h.2 i b hi
   obtain⟨c',hc1,hc2⟩:=h.2 j c hj
   exact g.sep i j b' c' L M hb1 hc1 hne (live hb2 hb) (live hc2 hc) (hoo.imp (own hb2) (own hc2)) hL hM
 · obtain⟨b',hb1,hb2⟩:=h.2 i b hi
   exact g.inb i b' L hb1 (live hb2 hb) hL
theorem Low.owns{H0 H:Heap}(h:Low H0 H){ρ:Env}{b:Nat}(g:owns ρ H0 b):owns ρ H b:=by
 obtain⟨id,blk,L,g1,g2,g3,g4⟩:=g
 obtain⟨c,hc,rfl|rfl⟩:=h.2 id blk g1
 · exact⟨id,_,L,hc,g2,g3,g4⟩
 · rw[zjw] at g2;cases g2
theorem zy8(K rest:Heap):Low (K++rest.map roB) (K++rest):=by
 refine⟨by simp,fun i b hi => ?_⟩
 rcases Nat.lt_or_ge i K.length with q|q
 · rw[List.getElem?_append_left q] at hi ⊢
   exact⟨b,hi,.inl rfl⟩
 · rw[List.getElem?_append_right q] at hi ⊢
   rw[List.getElem?_map] at hi
   cases hr:rest[i-K.length]? with
   | none=>rw[hr] at hi;cases hi
   | some c=>rw[hr] at hi;simp only[Option.map_some,Option.some.injEq] at hi;exact⟨c,rfl,.inr hi.symm⟩
theorem yhk{c a:Blk}{l:Heap}{i:Nat}{b:Blk}(h:([c,a]++l)[i]? = some b):(i=0∧b=c)∨(i=1∧b=a)∨∃k,i=k+2∧l[k]? = some b:=by
 match i with
 | 0=>simp at h;exact .inl ⟨rfl,h.symm⟩
 | 1=>simp at h;exact .inr (.inl ⟨rfl,h.symm⟩)
 | k+2=>exact .inr (.inr ⟨k,rfl,by simpa using h⟩)
theorem ycw{E:Value→Ending}{ρ:Env}{w w':World}{v:Av}{e:Ending}{c0 a0 c1:Blk}{rest new:Heap}(ha:a0.own=false)(hc0:c0.own=true∧c0.live=true)(hw:∀ρ',Agree ([c0,a0]++rest).length ρ ρ'→Rel ρ' ([c0,a0]++rest) w)
 (h:Ends E ρ ([c0,a0]++rest.map roB) w v ([c1,a0]++rest.map roB++new) e w'):Ends E ρ ([c0,a0]++rest) w v ([c1,a0]++rest++new) e w':=by
 obtain⟨y,ρ1,he,hag,hend,hfr,hnew⟩:=h
 have hlow:=zy8 [c0,a0] rest
 have hlen:([c0,a0]++rest.map roB).length=([c0,a0]++rest).length:=hlow.1
 have hlen2:([c1,a0]++rest.map roB++new).length=([c1,a0]++rest++new).length:=by simp
 have hlt:([c0,a0]++rest).length≤([c1,a0]++rest++new).length:=by simp
 rw[hlen] at hag hnew
 have own0:∀b,owns ρ ([c0,a0]++rest.map roB) b→∃L,ρ 0=some L∧L.b=b:=by
  rintro b ⟨id,blk,L,g1,g2,g3,g4⟩
  rcases yhk g1 with ⟨rfl,rfl⟩|⟨rfl,rfl⟩|⟨k,rfl,g5⟩
  · exact⟨L,g3,g4⟩
  · rw[ha] at g2;cases g2
  · rw[List.getElem?_map] at g5
    cases hr:rest[k]? with
    | none=>rw[hr] at g5;cases g5
    | some c=>rw[hr] at g5;simp only[Option.map_some,Option.some.injEq] at g5;rw[← g5,zjw] at g2;cases g2
 refine⟨y,ρ1,he,hag,fun ρ' hρ => ?_,⟨hfr.1,fun b hb hn=>hfr.2 b hb (fun g=>hn (hlow.owns g)),hfr.3⟩,fun id blk L hid hb hl hL => ?_⟩
 · rw[← hlen2] at hρ
   obtain⟨q1,q2⟩:=hend ρ' hρ
   have hρ0:Agree ([c0,a0]++rest).length ρ ρ':=fun i hi=>by rw[hρ i (by rw[hlen2];omega),hag i hi]
   have r0:=hw ρ' hρ0
   have row:∀k b,rest[k]? = some b→([c0,a0]++rest)[k+2]? = some b:=fun k b hk=>by simpa using hk
   have apart:∀k b L,rest[k]? = some b→b.live=true→ρ' (k+2)=some L→¬ owns ρ ([c0,a0]++rest.map roB) L.b:=by
    intro k b L hk hb hL g
    obtain⟨M,hM,hM2⟩:=own0 _ g
    have hM':ρ' 0=some M:=by rw[← hM];exact hρ0 0 (by simp)
    exact r0.sep 0 (k+2) c0 b M L (by simp) (row k b hk) (by omega) hc0.2 hb (.inl hc0.1) hM' hL hM2
   have fresh:∀k b L,new[k]? = some b→b.live=true→ρ' (2+rest.length+k)=some L→owns ρ ([c0,a0]++rest.map roB) L.b∨w.heap.size≤L.b:=by
    intro k b L hk hb hL
    have hkl:k<new.length:=by
     rcases Nat.lt_or_ge k new.length with q|q
     · exact q
     · simp[List.getElem?_eq_none q] at hk
    rw[hρ _ (by simp;omega)] at hL
    refine hnew (2+rest.length+k) b L (by simp;omega) ?_ hb hL
    rw[List.getElem?_append_right (by simp;omega)]
    simpa[show 2+rest.length+k-(rest.length+2)=k by omega] using hk
   have get:∀i b,([c1,a0]++rest++new)[i]? = some b→(∃k,i=k+2∧rest[k]? = some b)∨(([c1,a0]++rest.map roB++new)[i]? = some b∧(i<2∨∃k,i=2+rest.length+k∧new[k]? = some b)):=by
    intro i b hi
    rw[List.append_assoc] at hi
    rcases yhk hi with ⟨rfl,rfl⟩|⟨rfl,rfl⟩|⟨k,rfl,g5⟩
    · exact .inr ⟨by simp,.inl (by omega)⟩
    · exact .inr ⟨by simp,.inl (by omega)⟩
    · rcases Nat.lt_or_ge k rest.length with q|q
      · rw[List.getElem?_append_left q] at g5
        exact .inl ⟨k,rfl,g5⟩
      · rw[List.getElem?_append_right q] at g5
        refine .inr ⟨?_,.inr ⟨k-rest.length,by omega,g5⟩⟩
        rw[List.getElem?_append_right (by simp;omega)]
        simpa[show k+2-(rest.length+2)=k-rest.length by omega] using g5
   have cross:∀k b L j c M,rest[k]? = some b→b.live=true→ρ' (k+2)=some L→([c1,a0]++rest.map roB++new)[j]? = some c→(j<2∨∃l,j=2+rest.length+l∧new[l]? = some c)→c.live=true→ρ' j=some M→(b.own=true∨c.own=true)→L.b≠M.b:=by
    intro k b L j c M hk hb hL hj hj2 hc hM hoo
    rcases hj2 with hj2|⟨l,rfl,hl⟩
    · match j,hj2 with
      | 0,_=>exact r0.sep (k+2) 0 b c0 L M (row k b hk) (by simp) (by omega) hb hc0.2 (.inr hc0.1) hL hM
      | 1,_ =>
       have e:c=a0:=by simpa using hj.symm
       subst e
       exact r0.sep (k+2) 1 b c L M (row k b hk) (by simp) (by omega) hb hc (.inl (hoo.resolve_right (by rw[ha];decide))) hL hM
    · intro hLM
      rcases fresh l c M hl hc hM with g|g
      · exact apart k b L hk hb hL (hLM ▸ g)
      · have:=r0.inb _ b L (row k b hk) hb hL
        omega
   refine⟨q1,fun i b hi => ?_,fun i j b c L M hi hj hne hb hc hoo hL hM => ?_,fun i b L hi hb hL => ?_⟩
   · rcases get i b hi with ⟨k,rfl,hk⟩|⟨h1,_⟩
     · exact zo1 (fun L hL hl=>hfr.2 L.b (r0.inb _ b L (row k b hk) hl hL) (apart k b L hk hl hL)) (r0.blk _ b (row k b hk))
     · exact q2.blk i b h1
   · rcases get i b hi with ⟨k,rfl,hk⟩|⟨h1,hi2⟩
     · rcases get j c hj with ⟨l,rfl,hl⟩|⟨h2,hj2⟩
       · exact r0.sep _ _ b c L M (row k b hk) (row l c hl) hne hb hc hoo hL hM
       · exact cross k b L j c M hk hb hL h2 hj2 hc hM hoo
     · rcases get j c hj with ⟨l,rfl,hl⟩|⟨h2,hj2⟩
       · exact fun e=>cross l c M i b L hl hc hM h1 hi2 hb hL hoo.symm e.symm
       · exact q2.sep i j b c L M h1 h2 hne hb hc hoo hL hM
   · rcases get i b hi with ⟨k,rfl,hk⟩|⟨h1,_⟩
     · exact Nat.lt_of_lt_of_le (r0.inb _ b L (row k b hk) hb hL) hfr.1
     · exact q2.inb i b L h1 hb hL
 · refine (hnew id blk L hid ?_ hl hL).imp (fun g=>hlow.owns g) (fun g=>g)
   rw[List.getElem?_append_right (by simpa using hid)] at hb ⊢
   simpa using hb
theorem rw_ro(b:Blk):rwB (roB b)=rwB b:=by cases b<;>rfl
theorem ro_rw(b:Blk):roB (rwB b)=roB b:=by cases b<;>rfl
theorem zvv:∀(c:Cs)(x:c.T)(n:Nat),(zc7 true c x n).1=(zc7 false c x n).1∧(zc7 true c x n).2.map roB=(zc7 false c x n).2
 | .i _,_,_=>⟨rfl,rfl⟩
 | .b,_,_=>⟨rfl,rfl⟩
 | .sl _,_,_=>⟨rfl,rfl⟩
 | .sub _,_,_=>⟨rfl,rfl⟩
theorem zyz:∀(cs:List Cs)(x:CsT cs)(n:Nat),(zci true cs x n).1=(zci false cs x n).1∧(zci true cs x n).2.map roB=(zci false cs x n).2
 | [],_,_=>⟨rfl,rfl⟩
 | [c],x,n=>by
  obtain⟨a,b⟩:=zvv c x n
  exact⟨by simp only[zci,a],by simp only[zci,b]⟩
 | c::d::cs,x,n=>by
  obtain⟨a,b⟩:=zvv c x.1 n
  have hl:(zc7 true c x.1 n).2.length=(zc7 false c x.1 n).2.length:=by rw[← b,List.length_map]
  obtain⟨a',b'⟩:=zyz (d::cs) x.2 (n+(zc7 true c x.1 n).2.length)
  rw[hl] at a' b'
  exact⟨by simp only[zci,a,hl,a'],by simp only[zci,List.map_append,b,hl,b']⟩
theorem yef:∀(p:Pm)(x:p.T)(n:Nat),(zg2 true p x n).1=(zg2 false p x n).1∧(zg2 true p x n).2.map roB=(zg2 false p x n).2
 | .one c,x,n=>zvv c x n
 | .st cs,x,n=>by
  obtain⟨a,b⟩:=zyz cs x n
  exact⟨by simp only[zg2,a],by simp only[zg2,b]⟩
theorem zy0:∀(ps:List Pm)(x:PmT ps)(n:Nat),(zap true ps x n).1=(zap false ps x n).1∧(zap true ps x n).2.map roB=(zap false ps x n).2
 | [],_,_=>⟨rfl,rfl⟩
 | [p],x,n=>by
  obtain⟨a,b⟩:=yef p x n
  exact⟨by simp only[zap,a],by simp only[zap,b]⟩
 | p::q::ps,x,n=>by
  obtain⟨a,b⟩:=yef p x.1 n
  have hl:(zg2 true p x.1 n).2.length=(zg2 false p x.1 n).2.length:=by rw[← b,List.length_map]
  obtain⟨a',b'⟩:=zy0 (q::ps) x.2 (n+(zg2 true p x.1 n).2.length)
  rw[hl] at a' b'
  exact⟨by simp only[zap,a,hl,a'],by simp only[zap,List.map_append,b,hl,b']⟩
theorem ylw{c0 a0:Blk}{rest:Heap}{As:List Pm}{av:List Av}{ps:List Prop}{x:PmT As}{n:Nat}(h:zkg (([c0,a0]++rest).map rwB) As av 2=some (ps,x,n))(hp:∀p ∈ ps,p)(hn:n=([c0,a0]++rest).length) :
 av=(zap false As x 2).1∧rest.map roB=(zap false As x 2).2:=by
 obtain⟨h1,h2,h3⟩:=zhl h hp
 obtain⟨r1,r2⟩:=zy0 As x 2
 refine⟨h1.trans r1, ?_⟩
 have hl:rest.length=(zap true As x 2).2.length:=by simp at hn;omega
 have:rest.map rwB=(zap true As x 2).2:=by
  refine List.ext_getElem? (fun i => ?_)
  rcases Nat.lt_or_ge i rest.length with q|q
  · have hi:=h3 i _ (List.getElem?_eq_getElem (by omega:i<(zap true As x 2).2.length))
    rw[List.map_append,List.getElem?_append_right (by simp)] at hi
    simp only[List.map_cons,List.map_nil,List.length_cons,List.length_nil,Nat.zero_add,Nat.reduceAdd,Nat.add_sub_cancel_left] at hi
    rw[hi,List.getElem?_eq_getElem (by omega:i<(zap true As x 2).2.length)]
  · rw[List.getElem?_eq_none (by simpa using q),List.getElem?_eq_none (by omega)]
 rw[← r2, ← this,List.map_map]
 exact List.map_congr_left (fun b _=>(ro_rw b).symm)
def ygk(As Rs:List Pm)(d:PmT Rs)(req:PmT As→Prop)(kind:PmT As→PmT Rs→Prop):RelS where
 β:=PmT Rs × Unit
 d:=(d,())
 S z:=fun args H=>match zo6 H As args with
  | some (ps,x)=>some (ytk ps (some (req x)),(zfb true Rs z.1 H.length).1,H++(zfb true Rs z.1 H.length).2)
  | none=>none
 Q z:=fun args H=>match zo6 H As args with
  | some (_,x)=>kind x z.1
  | none=>False
def retP(P:Program)(fn:Func)(n0:Nat)(H0:Heap)(Rs:List Pm)(kind:PmT Rs→Prop):zdi:=fun ex sl H _ =>
 match ex with
 | .ext _=>False
 | .pan _=>False
 | _=>match yjq P fn sl H with
  | some av=>∃z:PmT Rs,zgs n0 [(zfb true Rs z n0).1] (H0++(zfb true Rs z n0).2) [av] H∧kind z
  | none=>False
def vcP(P:Program)(D:Dict)(R:Rels)(Ξ:SpecW)(fn:Func)(As Rs:List Pm)(x:PmT As)(kind:PmT Rs→Prop):Prop:=vcW P D R Ξ (zap false As x 0).2.length (zat fn) (retP P fn (zap false As x 0).2.length (zap false As x 0).2 Rs kind) (zei fn (zap false As x 0).1) (zap false As x 0).2 Fz.none
theorem zrk{P:Program}(hm:P.follows .mixedOrders=true){f:FuncId}{fn:Func}(hf:P.funcs[f]? = some fn)(hb:fn.body=some (zat fn)){As Rs:List Pm}{D:Dict}(hD:DictOk P D){R:Rels}(hR:zb7 P R){x:PmT As}{kind:PmT Rs→Prop}{Ξ:SpecW}
 (hL:∀b ∈ zak (zat fn),∀k L,zbh b=some k→Ξ.loop k=some L→zb3 P (zap false As x 0).2.length b L) (hvc:vcP P D R Ξ fn As Rs x kind) (σ:Env) (vs:List Value) (w:World)
 (hw:∀σ',Agree (zap false As x 0).2.length σ σ'→RvL σ' (zap false As x 0).1 vs∧Rel σ' (zap false As x 0).2 w) :
 Calls P f vs.toArray w fun e w'=>∃z:PmT Rs,kind z∧Ends .returned σ (zap false As x 0).2 w (zfb true Rs z (zap false As x 0).2.length).1 ((zap false As x 0).2++(zfb true Rs z (zap false As x 0).2.length).2) e w':=by
 unfold vcP at hvc
 generalize (zap false As x 0).1=args at *
 generalize (zap false As x 0).2=H at *
 let B:Base:=⟨σ,H,w,[]⟩
 have hlen:args.length=vs.length:=zbc (hw σ (Agree.refl _ _)).1
 have hrep:∀(ρ':Env)(n:Nat),RvL ρ' (List.replicate n .any) (List.replicate n undef):=by
  intro ρ' n
  induction n with
  | zero=>trivial
  | succ n ih=>exact⟨trivial,ih⟩
 have hi:Inv B (zei fn args) H { tmps:=vs.toArray++Array.replicate (fn.ntmps-vs.toArray.size) undef,defers:=[] } w:=by
  refine⟨rfl,Fr.refl _ _,KeepsP.refl _,σ,Agree.refl _ _,fun ρ' hag=>⟨?_,(hw ρ' hag).2⟩,fun id blk L hid hb' => ?_⟩
  · have:=zdu (hw ρ' hag).1 (hrep ρ' (fn.ntmps-args.length))
    simp only[zei,Array.toList_append,Array.toList_replicate,List.size_toArray]
    rw[← hlen]
    exact this
  · rw[List.getElem?_eq_none hid] at hb';cases hb'
 have hwp:=zhg hm hD hR (B:=B) rfl hL hvc (zdf.start hi)
 refine calls_of_wp hf hb (wp_mono hwp ?_)
 rintro e a w' ⟨ex,sl,H1,F,rfl,hiw,hk⟩
 have hi:=hiw.inv
 have main:∀av,yjq P fn sl H1=some av→(∃z:PmT Rs,zgs H.length [(zfb true Rs z H.length).1] (H++(zfb true Rs z H.length).2) [av] H1∧kind z)→a.defers=[]∧∃y,(results fn a.tmps).run P w' = .ok y w' ∧
  ∃z:PmT Rs,kind z∧Ends .returned σ H w (zfb true Rs z H.length).1 (H++(zfb true Rs z H.length).2) (.returned y) w':=by
  rintro av hav ⟨z,hz,hq⟩
  obtain⟨i1,i2,i3,ρ0,i4,i5,i6⟩:=id hi
  obtain⟨hs0,hr0⟩:=i5 ρ0 (Agree.refl _ _)
  obtain⟨y,hy1,_⟩:=zgx hav hs0 hr0
  refine⟨i1,y,hy1,z,hq, ?_⟩
  obtain⟨ρ1,g⟩:=zlv hi hz (y:=y) (fun ρ hs hr=>by
   obtain⟨y2,hy2,hv⟩:=zgx hav hs hr
   rw[hy1] at hy2
   cases hy2
   exact hv)
  exact⟨y,ρ1,rfl,g⟩
 cases ex with
 | ext id=>exact hk.elim
 | pan v=>exact hk.elim
 | nrm =>
  simp only[retP] at hk
  split at hk
  · rename_i av hav;exact main av hav hk
  · exact hk.elim
 | ret =>
  simp only[retP] at hk
  split at hk
  · rename_i av hav;exact main av hav hk
  · exact hk.elim
attribute [irreducible] vcP
theorem ylr{P:Program}(hm:P.follows .mixedOrders=true){f:FuncId}{fn:Func}(hf:P.funcs[f]? = some fn)(hb:fn.body=some (zat fn)){As Rs:List Pm}{d:PmT Rs}{req:PmT As→Prop}{kind:PmT As→PmT Rs→Prop}{D:Dict}(hD:DictOk P D){R:Rels}(hR:zb7 P R)
 (h:∀x,req x→∃Ξ:SpecW,(∀b ∈ zak (zat fn),∀k L,zbh b=some k→Ξ.loop k=some L→zb3 P (zap false As x 0).2.length b L)∧vcP P D R Ξ fn As Rs x (kind x)):zcm P f (ygk As Rs d req kind):=by
 intro args H p v H' hs hp ρ vs w hw
 unfold ygk at hs
 simp only at hs
 split at hs
 case h_2=>cases hs
 rename_i ps x habs
 simp only[Option.some.injEq,Prod.mk.injEq] at hs
 obtain⟨rfl, -, -⟩:=hs
 obtain⟨hp',hreq⟩:=zo7 hp
 obtain⟨σ,h1,h2⟩:=zsw (R:=Rs) habs hp' hw
 obtain⟨Ξ,hL,hvc⟩:=h x hreq
 refine (zrk hm hf hb hD hR hL hvc σ vs w h1).mono ?_
 rintro e w' ⟨z,hz,he⟩
 refine⟨(z,()),ytk ps (some (req x)),_,_, ?_, ?_,h2 z e w' he⟩
 · unfold ygk
   simp only[habs]
 · unfold ygk
   simp only[habs]
   exact hz
theorem ydz{P:Program}(hm:P.follows .mixedOrders=true){f:FuncId}{fn:Func}(hf:P.funcs[f]? = some fn)(hb:fn.body=some (zat fn)){As:List Pm}{req:PmT As→Prop}{D:Dict}(hD:DictOk P D){R:Rels}(hR:zb7 P R)
 (h:∀x,req x→∃Ξ:SpecW,(∀b ∈ zak (zat fn),∀k L,zbh b=some k→Ξ.loop k=some L→zb3 P (zap false As x 0).2.length b L)∧vcP P D R Ξ fn As [.one .b] x (fun z=>z=true)):Canon P f As [.one .b] req (fun _=>true):=by
 intro x hx σ vs w hw
 obtain⟨Ξ,hL,hvc⟩:=h x hx
 refine (zrk hm hf hb hD hR hL hvc σ vs w hw).mono ?_
 rintro e w' ⟨z,rfl,he⟩
 exact he
def ygw(n0:Nat)(L:LoopW)(μ:L.α→Nat){β:Type}(e:β→L.α)(x:L.α):zdi
 | .nrm,sl,H,F=>∃y:β,zgs n0 (L.sl (e y)) (L.H (e y)) sl H∧zj1 (L.F (e y)) F∧L.I (e y)∧μ (e y)<μ x∧zkq (L.fams.map fun f=>∀z,f.out (e y) z→f.out x z)
 | ex,sl,H,F=>ydt ((L.fams.filter fun f=>f.ex.same ex).map fun f=>∃z,zgs n0 (f.sl z) (f.H z) sl H∧zj1 (f.F z) F∧f.out x z)
def zi7(P:Program)(D:Dict)(R:Rels)(Ξ:SpecW)(n0:Nat)(body:Code)(L:LoopW)(μ:L.α→Nat){β:Type}(e:β→L.α)(x:L.α):Prop:=vcW P D R Ξ n0 body (ygw n0 L μ e x) (L.sl x) (L.H x) (L.F x)
theorem zwa{P:Program}(hm:P.follows .mixedOrders=true){D:Dict}(hD:DictOk P D){R:Rels}(hR:zb7 P R){n0:Nat}{body:Code}{L:LoopW}(μ:L.α→Nat){β:Type}(e:β→L.α)
 (round:∀x,L.I x→∃Ξ:SpecW,(∀b ∈ zak body,∀k L,zbh b=some k→Ξ.loop k=some L→zb3 P n0 b L)∧zi7 P D R Ξ n0 body L μ e x):zb3 P n0 body L:=by
 intro B hB x hx a w hi
 refine zq3 (fun x a w=>L.I x∧zdf B (L.sl x) (L.H x) (L.F x) a w) μ (fun x=>QW B (zg4 L.fams x)) (fun x a w hx => ?_) ⟨hx,hi⟩
 obtain⟨Ξ,hl,hvc⟩:=round x hx.1
 unfold zi7 at hvc
 refine wp_mono (zhg hm hD hR hB hl hvc hx.2) ?_
 rintro e0 a' w' ⟨ex,sl,H,F,rfl,hi',hk⟩
 have out:∀ex,ex ≠ .nrm→ygw n0 L μ e x ex sl H F→QW B (zg4 L.fams x) (zil ex) a' w':=by
  intro ex hne hk
  have hk':ydt ((L.fams.filter fun f=>f.ex.same ex).map fun f=>∃z,zgs n0 (f.sl z) (f.H z) sl H∧zj1 (f.F z) F∧f.out x z):=by
   cases ex with
   | nrm=>exact absurd rfl hne
   | ext id=>exact hk
   | ret=>exact hk
   | pan v=>exact hk
  obtain⟨p,h1,h2⟩:=zhk hk'
  obtain⟨f,hf,rfl⟩:=List.mem_map.1 h1
  obtain⟨z,hz,hs,ho⟩:=h2
  obtain⟨hf1,hf2⟩:=List.mem_filter.1 hf
  exact⟨ex,f.sl z,f.H z,f.F z,rfl,(zdf.fit (hB ▸ hz) hi').sub hs,f,hf1,z,ho,Ex.same_ok hf2,rfl,rfl,rfl⟩
 cases ex with
 | nrm =>
  obtain⟨y,h1,hs,h2,h3,h4⟩:=hk
  refine⟨e y,⟨h2,(zdf.fit (hB ▸ h1) hi').sub hs⟩,h3,fun e0 a w hq=>QW.mono ?_ hq⟩
  rintro ex sl H F ⟨f,hf,z,g1,g2⟩
  exact⟨f,hf,z,zbp.1 h4 _ (List.mem_map.2 ⟨f,hf,rfl⟩) z g1,g2⟩
 | ext id=>exact out _ (by simp) hk
 | ret=>exact out _ (by simp) hk
 | pan v=>exact out _ (by simp) hk
attribute [irreducible] zi7
mutual
def inA(i k:Nat):Av→Bool
 | .ptr id sub => !(id==i)||decide (k≤sub)
 | .eptr id _ _ _ => !(id==i)
 | .sl id _ _ _ => !(id==i)
 | .agg cs=>inL i k cs
 | .tup cs=>inL i k cs
 | .fn _ cs=>inL i k cs
 | .ifc _ x=>inA i k x
 | _=>true
def inL(i k:Nat):List Av→Bool
 | []=>true
 | a::as=>inA i k a&&inL i k as
end
mutual
def mvA(i:Nat)(f:Nat→Nat):Av→Av
 | .ptr id sub=>match id==i with|true => .ptr id (f sub)|false => .ptr id sub
 | .agg cs => .agg (mvL i f cs)
 | .tup cs => .tup (mvL i f cs)
 | .fn g cs => .fn g (mvL i f cs)
 | .ifc t x => .ifc t (mvA i f x)
 | .eptr id sz j sub => .eptr id sz j sub
 | .sl id sz lo len => .sl id sz lo len
 | .any => .any
 | .q p => .q p
 | .zp => .zp
 | .tt => .tt
 | .ff => .ff
 | .v x => .v x
def mvL(i:Nat)(f:Nat→Nat):List Av→List Av
 | []=>[]
 | a::as=>mvA i f a::mvL i f as
end
def zk0(ρ:Env)(i k:Nat)(hid:Hid):Env:=fun j=>if j=i then (ρ i).map (fun L=>⟨L.b,L.off+k,L.cap,hid⟩) else ρ j
mutual
theorem zwc{ρ:Env}{i k:Nat}{hid:Hid}:∀(a:Av)(y:Value),inA i k a=true→(Rv ρ a y↔Rv (zk0 ρ i k hid) (mvA i (· - k) a) y)
 | .ptr id sub,y,h=>by
  simp only[inA,Bool.or_eq_true,Bool.not_eq_true',beq_eq_false_iff_ne,decide_eq_true_eq] at h
  simp only[mvA]
  by_cases e:id=i
  · subst e
    have hk:k≤sub:=h.resolve_left (fun q=>q rfl)
    simp only[beq_self_eq_true,Rv,zk0,if_true]
    constructor
    · rintro⟨L,h1,rfl⟩
      exact⟨_,by rw[h1];rfl,by simp only;rw[show L.off+k+(sub-k)=L.off+sub by omega]⟩
    · rintro⟨L,h1,rfl⟩
      cases hL:ρ id with
      | none=>rw[hL] at h1;cases h1
      | some M =>
       rw[hL] at h1
       cases h1
       exact⟨M,rfl,by simp only;rw[show M.off+k+(sub-k)=M.off+sub by omega]⟩
  · rw[show (id==i)=false by simpa using e]
    simp only[Rv,zk0,if_neg e]
 | .eptr id _ _ _,y,h=>by
  have e:id≠i:=by simpa[inA] using h
  simp only[mvA,Rv,zk0,if_neg e]
 | .sl id _ _ _,y,h=>by
  have e:id≠i:=by simpa[inA] using h
  simp only[mvA,Rv,zk0,if_neg e]
 | .agg cs,y,h=>by
  simp only[inA] at h
  simp only[mvA,Rv]
  exact⟨fun ⟨vs,e,g⟩=>⟨vs,e,(zd0 cs vs h).1 g⟩,fun ⟨vs,e,g⟩=>⟨vs,e,(zd0 cs vs h).2 g⟩⟩
 | .tup cs,y,h=>by
  simp only[inA] at h
  simp only[mvA,Rv]
  exact⟨fun ⟨vs,e,g⟩=>⟨vs,e,(zd0 cs vs h).1 g⟩,fun ⟨vs,e,g⟩=>⟨vs,e,(zd0 cs vs h).2 g⟩⟩
 | .fn _ cs,y,h=>by
  simp only[inA] at h
  simp only[mvA,Rv]
  exact⟨fun ⟨vs,e,g⟩=>⟨vs,e,(zd0 cs vs h).1 g⟩,fun ⟨vs,e,g⟩=>⟨vs,e,(zd0 cs vs h).2 g⟩⟩
 | .ifc _ x,y,h=>by
  simp only[inA] at h
  simp only[mvA,Rv]
  exact⟨fun ⟨u,e,g⟩=>⟨u,e,(zwc x u h).1 g⟩,fun ⟨u,e,g⟩=>⟨u,e,(zwc x u h).2 g⟩⟩
 | .any,_,_=>Iff.rfl
 | .q _,_,_=>Iff.rfl
 | .zp,_,_=>Iff.rfl
 | .tt,_,_=>Iff.rfl
 | .ff,_,_=>Iff.rfl
 | .v _,_,_=>Iff.rfl
theorem zd0{ρ:Env}{i k:Nat}{hid:Hid}:∀(as:List Av)(ys:List Value),inL i k as=true→(RvL ρ as ys↔RvL (zk0 ρ i k hid) (mvL i (· - k) as) ys)
 | [],[],_=>Iff.rfl
 | [],_::_,_=>Iff.rfl
 | _::_,[],_=>Iff.rfl
 | a::as,y::ys,h=>by
  simp only[inL,Bool.and_eq_true] at h
  simp only[mvL,RvL]
  rw[zwc a y h.1,zd0 as ys h.2]
end
mutual
theorem ylf{ρ:Env}{i k:Nat}{hid:Hid}:∀(a:Av)(y:Value),inA i 0 a=true→(Rv (zk0 ρ i k hid) a y↔Rv ρ (mvA i (· + k) a) y)
 | .ptr id sub,y,h=>by
  simp only[mvA]
  by_cases e:id=i
  · subst e
    simp only[beq_self_eq_true,Rv,zk0,if_true]
    constructor
    · rintro⟨L,h1,rfl⟩
      cases hL:ρ id with
      | none=>rw[hL] at h1;cases h1
      | some M =>
       rw[hL] at h1
       cases h1
       exact⟨M,rfl,by simp only;rw[show M.off+k+sub=M.off+(sub+k) by omega]⟩
    · rintro⟨L,h1,rfl⟩
      exact⟨_,by rw[h1];rfl,by simp only;rw[show L.off+k+sub=L.off+(sub+k) by omega]⟩
  · rw[show (id==i)=false by simpa using e]
    simp only[Rv,zk0,if_neg e]
 | .eptr id _ _ _,y,h=>by
  have e:id≠i:=by simpa[inA] using h
  simp only[mvA,Rv,zk0,if_neg e]
 | .sl id _ _ _,y,h=>by
  have e:id≠i:=by simpa[inA] using h
  simp only[mvA,Rv,zk0,if_neg e]
 | .agg cs,y,h=>by
  simp only[inA] at h
  simp only[mvA,Rv]
  exact⟨fun ⟨vs,e,g⟩=>⟨vs,e,(zix cs vs h).1 g⟩,fun ⟨vs,e,g⟩=>⟨vs,e,(zix cs vs h).2 g⟩⟩
 | .tup cs,y,h=>by
  simp only[inA] at h
  simp only[mvA,Rv]
  exact⟨fun ⟨vs,e,g⟩=>⟨vs,e,(zix cs vs h).1 g⟩,fun ⟨vs,e,g⟩=>⟨vs,e,(zix cs vs h).2 g⟩⟩
 | .fn _ cs,y,h=>by
  simp only[inA] at h
  simp only[mvA,Rv]
  exact⟨fun ⟨vs,e,g⟩=>⟨vs,e,(zix cs vs h).1 g⟩,fun ⟨vs,e,g⟩=>⟨vs,e,(zix cs vs h).2 g⟩⟩
 | .ifc _ x,y,h=>by
  simp only[inA] at h
  simp only[mvA,Rv]
  exact⟨fun ⟨u,e,g⟩=>⟨u,e,(ylf x u h).1 g⟩,fun ⟨u,e,g⟩=>⟨u,e,(ylf x u h).2 g⟩⟩
 | .any,_,_=>Iff.rfl
 | .q _,_,_=>Iff.rfl
 | .zp,_,_=>Iff.rfl
 | .tt,_,_=>Iff.rfl
 | .ff,_,_=>Iff.rfl
 | .v _,_,_=>Iff.rfl
theorem zix{ρ:Env}{i k:Nat}{hid:Hid}:∀(as:List Av)(ys:List Value),inL i 0 as=true→(RvL (zk0 ρ i k hid) as ys↔RvL ρ (mvL i (· + k) as) ys)
 | [],[],_=>Iff.rfl
 | [],_::_,_=>Iff.rfl
 | _::_,[],_=>Iff.rfl
 | a::as,y::ys,h=>by
  simp only[inL,Bool.and_eq_true] at h
  simp only[mvL,RvL]
  rw[ylf a y h.1,zix as ys h.2]
end
theorem zdh(i:Nat)(f:Nat→Nat):∀l:List Av,(mvL i f l).length=l.length
 | []=>rfl
 | _::l=>by simp[mvL,zdh i f l]
def mvB(i:Nat)(f:Nat→Nat):Blk→Blk
 | .fix cs o ty => .fix (mvL i f cs) o ty
 | .arr sh xs o => .arr sh xs o
 | .dead => .dead
def yvf(i k:Nat):Blk→Bool
 | .fix cs _ _=>inL i k cs
 | _=>true
theorem zwb(i:Nat)(f:Nat→Nat)(b:Blk):(mvB i f b).own=b.own:=by cases b<;>rfl
theorem ziw(i:Nat)(f:Nat→Nat)(b:Blk):(mvB i f b).live=b.live:=by cases b<;>rfl
theorem ze1{ρ:Env}{i k j:Nat}{hid:Hid}(h:j≠i):zk0 ρ i k hid j=ρ j:=by unfold zk0;rw[if_neg h]
theorem zgm{ρ:Env}{i k:Nat}{hid:Hid}{L:Loc}(h:ρ i=some L):zk0 ρ i k hid i=some ⟨L.b,L.off+k,L.cap,hid⟩:=by unfold zk0;rw[if_pos rfl,h];rfl
theorem ypv{ρ:Env}{i k id:Nat}{hid:Hid}{w:World}{b:Blk}(hne:id≠i)(hin:yvf i k b=true)(h:Rb ρ w id b):Rb (zk0 ρ i k hid) w id (mvB i (· - k) b):=by
 cases b with
 | dead=>trivial
 | arr sh xs o=>simp only[mvB,Rb,ze1 hne] at h ⊢;exact h
 | fix cs o ty =>
  obtain⟨L,vs,h1,h2,h3,h4,h5,h6⟩:=h
  exact⟨L,vs,by rw[ze1 hne];exact h1,(zd0 cs vs hin).1 h2,h3,by rw[zdh];exact h4,h5,by rw[zdh];exact h6⟩
theorem Rb_up{ρ:Env}{i k id:Nat}{hid:Hid}{w:World}{b:Blk}(hne:id≠i)(hin:yvf i 0 b=true)(h:Rb (zk0 ρ i k hid) w id b):Rb ρ w id (mvB i (· + k) b):=by
 cases b with
 | dead=>trivial
 | arr sh xs o=>simp only[mvB,Rb,ze1 hne] at h ⊢;exact h
 | fix cs o ty =>
  obtain⟨L,vs,h1,h2,h3,h4,h5,h6⟩:=h
  exact⟨L,vs,by rw[← ze1 (ρ:=ρ) (k:=k) (hid:=hid) hne];exact h1,(zix cs vs hin).1 h2,h3,by rw[zdh];exact h4,h5,by rw[zdh];exact h6⟩
def yev(L:Loc)(us:List Value)(k n:Nat)(s:Option (TypeId × Nat)):Hid:=⟨(us.zipIdx.filter fun p=>decide (p.2<k)||decide (k+n≤p.2)).map (fun p=>(L.off+p.2,p.1))++L.hid.cs,s⟩
theorem yew{L:Loc}{us:List Value}{k n:Nat}{s:Option (TypeId × Nat)}{j:Nat}{v:Value}(h:us[j]? = some v)(hj:j<k∨k+n≤j):(L.off+j,v) ∈ (yev L us k n s).cs:=by
 unfold yev
 refine List.mem_append_left _ (List.mem_map.2 ⟨(v,j),List.mem_filter.2 ⟨List.mem_zipIdx_iff_getElem?.2 h, ?_⟩,rfl⟩)
 simp only[Bool.or_eq_true,decide_eq_true_eq]
 exact hj
theorem yex{L:Loc}{us:List Value}{k n:Nat}{s:Option (TypeId × Nat)}{p:Nat × Value}(h:p ∈ L.hid.cs):p ∈ (yev L us k n s).cs:=List.mem_append_right _ h
theorem zv2{L:Loc}{us:List Value}{k n:Nat}{s:Option (TypeId × Nat)}{p:Nat × Value}(h:p ∈ (yev L us k n s).cs):(∃j,us[j]? = some p.2∧p.1=L.off+j∧(j<k∨k+n≤j))∨p ∈ L.hid.cs:=by
 rcases List.mem_append.1 h with g|g
 · obtain⟨q,q1,rfl⟩:=List.mem_map.1 g
   obtain⟨q2,q3⟩:=List.mem_filter.1 q1
   simp only[Bool.or_eq_true,decide_eq_true_eq] at q3
   exact .inl ⟨q.2,List.mem_zipIdx_iff_getElem?.1 q2,rfl,q3⟩
 · exact .inr g
def view(i k n:Nat)(T:Sum):Sum:=fun args H =>
 match H[i]? with
 | some (.fix cells true ty) =>
  match decide (k+n≤cells.length)&&inL i k args&&inL i k ((cells.drop k).take n)&&(H.set i .dead).all (yvf i k)&&(zq5 cells).all (fun j=>decide (j<H.length)) with
  | true =>
   match T (mvL i (· - k) args) ((H.map (mvB i (· - k))).set i (.fix (mvL i (· - k) ((cells.drop k).take n)) true none)) with
   | some (p,v,H') =>
    match H'[i]? with
    | some (.fix cells' true none) =>
     match decide (cells'.length=n)&&decide (H.length≤H'.length)&&inA i 0 v&&inL i 0 cells'&&H'.all (yvf i 0) with
     | true=>some (p,mvA i (· + k) v,(H'.map (mvB i (· + k))).set i (.fix (cells.take k++(mvL i (· + k) cells'++cells.drop (k+n))) true ty))
     | false=>none
    | _=>none
   | none=>none
  | false=>none
 | _=>none
theorem yte{P:Program}{E:Value→Ending}{f:FuncId}{i k n:Nat}{T:Sum}(hT:zd7 P E f T):zd7 P E f (view i k n T):=by
 intro args H p v H' h hp ρ vs w hw
 unfold view at h
 split at h
 case h_2=>cases h
 rename_i cells ty hb
 split at h
 case h_2=>cases h
 rename_i hc
 simp only[Bool.and_eq_true,decide_eq_true_eq,List.all_eq_true] at hc
 obtain⟨⟨⟨⟨hlen,hia⟩,him⟩,hiH⟩,hids⟩:=hc
 split at h
 case h_2=>cases h
 rename_i p0 v0 H0' hTs
 split at h
 case h_2=>cases h
 rename_i cells' hb'
 split at h
 case h_2=>cases h
 rename_i hc'
 simp only[Bool.and_eq_true,decide_eq_true_eq,List.all_eq_true] at hc'
 obtain⟨⟨⟨⟨hlen',hle⟩,hiv⟩,hic⟩,hiH'⟩:=hc'
 simp only[Option.some.injEq,Prod.mk.injEq] at h
 obtain⟨rfl,rfl,rfl⟩:=h
 have hi:i<H.length:=by
  rcases Nat.lt_or_ge i H.length with q|q
  · exact q
  · rw[List.getElem?_eq_none q] at hb;cases hb
 have hi':i<H0'.length:=Nat.lt_of_lt_of_le hi hle
 obtain⟨hargs,hrel⟩:=hw ρ (Agree.refl _ _)
 obtain⟨L,us,hL,hv,hcl,hfz,hty,hkp⟩:=hrel.blk i _ hb
 have hul:=zbc hv
 have inOther:∀(id:Nat)(b:Blk),id≠i→H[id]? = some b→yvf i k b=true:=fun id b hne hid=>hiH b (by
  have:(H.set i .dead)[id]? = some b:=by rw[List.getElem?_set_ne (Ne.symm hne)];exact hid
  exact List.mem_of_getElem? this)
 generalize hhid:yev L us k n (w.shape? L.b)=HD
 generalize hHd:(H.map (mvB i (· - k))).set i (.fix (mvL i (· - k) ((cells.drop k).take n)) true none)=Hd at hTs
 have hHdl:Hd.length=H.length:=by rw[← hHd];simp
 have getd:∀(id:Nat)(b:Blk),Hd[id]? = some b→(id=i∧b = .fix (mvL i (· - k) ((cells.drop k).take n)) true none)∨(id≠i∧∃c,H[id]? = some c∧b=mvB i (· - k) c):=by
  intro id b hid
  rw[← hHd] at hid
  by_cases e:i=id
  · subst e
    rw[List.getElem?_set_self (by simpa using hi)] at hid
    exact .inl ⟨rfl,by simpa using hid.symm⟩
  · rw[List.getElem?_set_ne e,List.getElem?_map] at hid
    cases hh:H[id]? with
    | none=>rw[hh] at hid;cases hid
    | some c=>rw[hh] at hid;exact .inr ⟨Ne.symm e,c,rfl,by simpa using hid.symm⟩
 have hown_d:∀b,owns (zk0 ρ i k HD) Hd b→owns ρ H b:=by
  rintro b ⟨id,blk,M,g1,g2,g3,rfl⟩
  rcases getd id blk g1 with ⟨rfl,rfl⟩|⟨hne,c,g4,rfl⟩
  · rw[zgm hL] at g3
    cases g3
    exact⟨id,_,L,hb,rfl,hL,rfl⟩
  · rw[ze1 hne] at g3
    rw[zwb] at g2
    exact⟨id,c,M,g4,g2,g3,rfl⟩
 have hwd:∀ρ'',Agree Hd.length (zk0 ρ i k HD) ρ''→RvL ρ'' (mvL i (· - k) args) vs∧Rel ρ'' Hd w:=by
  intro ρ'' hag
  rw[hHdl] at hag
  let σ:Env:=fun j=>if j=i then ρ i else ρ'' j
  have hσ:Agree H.length ρ σ:=by
   intro j hj
   by_cases e:j=i
   · simp only[σ,e,if_true]
   · simp only[σ,if_neg e]
     rw[hag j hj,ze1 e]
  have hlow:zk0 σ i k HD=ρ'':=by
   funext j
   by_cases e:j=i
   · subst e
     rw[hag j hi]
     unfold zk0
     simp only[σ,if_true]
   · rw[ze1 e]
     simp only[σ,if_neg e]
  obtain⟨ha,hr⟩:=hw σ hσ
  have hσi:σ i=some L:=by simp only[σ,if_true];exact hL
  refine⟨by rw[← hlow];exact (zd0 args vs hia).1 ha,⟨fun id b hid => ?_,fun x y b c M N hx hy hne hbl hcl2 hoo hM hN => ?_,fun id b M hid hbl hM => ?_⟩⟩
  · rcases getd id b hid with ⟨rfl,rfl⟩|⟨hne,c,g4,rfl⟩
    · have hvσ:RvL σ cells us:=zd6 cells us (fun j hj=>hσ j (by simpa using hids j hj)) hv
      refine⟨⟨L.b,L.off+k,L.cap,HD⟩,(us.drop k).take n, ?_, ?_,fun j z hj => ?_,fun _ j hj => ?_,fun t ht=>(by cases ht), ?_⟩
      · rw[hag id hi];exact zgm hL
      · rw[← hlow]
        exact (zd0 _ _ him).1 (zhj n (zhi k hvσ))
      · rw[List.getElem?_take] at hj
        split at hj
        · rw[List.getElem?_drop] at hj
          show w.cell? ⟨L.b,L.off+k+j,none⟩=_
          rw[Nat.add_assoc]
          exact hcl _ z hj
        · cases hj
      · rw[zdh,List.length_take,List.length_drop] at hj
        show w.frozen? ⟨L.b,L.off+k+j,none⟩=_
        rw[Nat.add_assoc]
        exact hfz rfl _ (by omega)
      · rw[zdh,List.length_take,List.length_drop]
        refine⟨fun s hs => ?_,fun q hq => ?_⟩
        · rw[← hhid] at hs
          exact hs
        · rw[← hhid] at hq
          show (q.1<L.off+k∨L.off+k+_≤q.1)∧_
          rcases zv2 hq with ⟨j,h1,h2,h3⟩|h1
          · have hjl:j<us.length:=by
             rcases Nat.lt_or_ge j us.length with q|q
             · exact q
             · rw[List.getElem?_eq_none q] at h1;cases h1
            refine⟨by omega,by rw[h2];exact hcl j _ h1,by rw[h2];exact hfz rfl j (by omega)⟩
          · obtain⟨a1,a2,a3⟩:=hkp.2 q h1
            exact⟨by omega,a2,a3⟩
    · rw[← hlow]
      exact ypv hne (inOther id c hne g4) (hr.blk id c g4)
  · have conv:∀(x:Nat)(b:Blk)(M:Loc),Hd[x]? = some b→ρ'' x=some M→∃c N,H[x]? = some c∧σ x=some N∧N.b=M.b∧c.own=b.own∧c.live=b.live:=by
     intro x b M hx hM
     rcases getd x b hx with ⟨rfl,rfl⟩|⟨hne,c,g4,rfl⟩
     · rw[hag x hi,zgm hL] at hM
       cases hM
       exact⟨_,L,hb,hσi,rfl,rfl,rfl⟩
     · exact⟨c,M,g4,by simp only[σ,if_neg hne];exact hM,rfl,(zwb _ _ _).symm,(ziw _ _ _).symm⟩
    obtain⟨c1,M1,a1,a2,a3,a4,a5⟩:=conv x b M hx hM
    obtain⟨c2,M2,b1,b2,b3,b4,b5⟩:=conv y c N hy hN
    rw[← a3, ← b3]
    exact hr.sep x y c1 c2 M1 M2 a1 b1 hne (by rw[a5];exact hbl) (by rw[b5];exact hcl2) (by rw[a4,b4];exact hoo) a2 b2
  · rcases getd id b hid with ⟨rfl,rfl⟩|⟨hne,c,g4,rfl⟩
    · rw[hag id hi,zgm hL] at hM
      cases hM
      exact hr.inb id _ L hb rfl hσi
    · rw[ziw] at hbl
      exact hr.inb id c M g4 hbl (by simp only[σ,if_neg hne];exact hM)
 refine (hT _ _ _ _ _ hTs hp _ vs w hwd).mono ?_
 rintro e w' ⟨y,ρ1,rfl,hag,hpost,hfr,hnew⟩
 rw[hHdl] at hag hnew
 let ρn:Env:=fun j=>if j=i then ρ i else ρ1 j
 have hagn:Agree H.length ρ ρn:=by
  intro j hj
  by_cases e:j=i
  · simp only[ρn,e,if_true]
  · simp only[ρn,if_neg e]
    rw[hag j hj,ze1 e]
 have getn:∀(id:Nat)(b:Blk),((H0'.map (mvB i (· + k))).set i (.fix (cells.take k++(mvL i (· + k) cells'++cells.drop (k+n))) true ty))[id]? = some b →
  (id=i∧b = .fix (cells.take k++(mvL i (· + k) cells'++cells.drop (k+n))) true ty)∨(id≠i∧∃c,H0'[id]? = some c∧b=mvB i (· + k) c):=by
  intro id b hid
  by_cases e:i=id
  · subst e
    rw[List.getElem?_set_self (by simpa using hi')] at hid
    exact .inl ⟨rfl,by simpa using hid.symm⟩
  · rw[List.getElem?_set_ne e,List.getElem?_map] at hid
    cases hh:H0'[id]? with
    | none=>rw[hh] at hid;cases hid
    | some c=>rw[hh] at hid;exact .inr ⟨Ne.symm e,c,rfl,by simpa using hid.symm⟩
 refine⟨y,ρn,rfl,hagn,fun σ hσ => ?_,⟨hfr.1,fun b hbs hno=>hfr.2 b hbs (fun g=>hno (hown_d b g)),hfr.3⟩,fun id blk M hid hb2 hbl hM => ?_⟩
 · rw[List.length_set,List.length_map] at hσ
   have hσH:Agree H.length ρ σ:=fun j hj=>by rw[hσ j (Nat.lt_of_lt_of_le hj hle),hagn j hj]
   have hσi:σ i=some L:=by rw[hσH i hi];exact hL
   have hτ:Agree H0'.length ρ1 (zk0 σ i k HD):=by
    intro j hj
    by_cases e:j=i
    · subst e
      rw[zgm hσi,hag j hi,zgm hL]
    · rw[ze1 e,hσ j hj]
      simp only[ρn,if_neg e]
   obtain⟨hv1,hr1⟩:=hpost _ hτ
   refine⟨(ylf v0 y hiv).1 hv1,⟨fun id b hid => ?_,fun x y b c M N hx hy hne hbl hcl2 hoo hM hN => ?_,fun id b M hid hbl hM => ?_⟩⟩
   · rcases getn id b hid with ⟨rfl,rfl⟩|⟨hne,c,g4,rfl⟩
     · obtain⟨L',us',hL',hv',hcl',hfz', -,hkp'⟩:=hr1.blk id _ hb'
       rw[zgm hσi] at hL'
       cases hL'
       have hul':=zbc hv'
       have hvσ:RvL σ cells us:=zd6 cells us (fun j hj=>hσH j (by simpa using hids j hj)) hv
       have out:∀j z,us[j]? = some z→(j<k∨k+n≤j)→w'.cell? ⟨L.b,L.off+j,none⟩=some z∧w'.frozen? ⟨L.b,L.off+j,none⟩=false:=by
        intro j z hz hj
        have:=hkp'.2 (L.off+j,z) (by show _ ∈ HD.cs;rw[← hhid];exact yew hz hj)
        exact this.2
       have hall:(cells.take k++(mvL id (· + k) cells'++cells.drop (k+n))).length=cells.length:=by
        simp only[List.length_append,List.length_take,List.length_drop,zdh]
        omega
       refine⟨L,us.take k++(us'++us.drop (k+n)),hσi,zdu (zhj k hvσ) (zdu ((zix cells' us' hic).1 hv') (zhi (k+n) hvσ)),fun j z hj => ?_,fun _ j hj => ?_,fun t ht => ?_, ?_⟩
       · rcases Nat.lt_or_ge j k with q|q
         · rw[List.getElem?_append_left (by rw[List.length_take];omega),List.getElem?_take,if_pos q] at hj
           exact (out j z hj (.inl q)).1
         · rw[List.getElem?_append_right (by rw[List.length_take];omega),List.length_take,show min k us.length=k by omega] at hj
           rcases Nat.lt_or_ge (j-k) us'.length with q2|q2
           · rw[List.getElem?_append_left q2] at hj
             have:=hcl' _ z hj
             rwa [show L.off+k+(j-k)=L.off+j by omega] at this
           · rw[List.getElem?_append_right q2,List.getElem?_drop,show k+n+(j-k-us'.length)=j by omega] at hj
             exact (out j z hj (.inr (by omega))).1
       · rw[hall] at hj
         rcases Nat.lt_or_ge j k with q|q
         · exact (out j _ (List.getElem?_eq_getElem (by omega)) (.inl q)).2
         · rcases Nat.lt_or_ge (j-k) n with q2|q2
           · have:=hfz' rfl (j-k) (by omega)
             rwa [show L.off+k+(j-k)=L.off+j by omega] at this
           · exact (out j _ (List.getElem?_eq_getElem (by omega)) (.inr (by omega))).2
       · obtain⟨t1,m,t2⟩:=hty t ht
         exact⟨t1,m,hkp'.1 _ (by show HD.shp=_;rw[← hhid];exact t2)⟩
       · rw[hall]
         refine⟨fun s hs=>hkp'.1 _ (by show HD.shp=_;rw[← hhid];exact hkp.1 s hs),fun q hq => ?_⟩
         have:=hkp'.2 q (by show _ ∈ HD.cs;rw[← hhid];exact yex hq)
         exact⟨(hkp.2 q hq).1,this.2⟩
     · exact Rb_up hne (hiH' c (List.mem_of_getElem? g4)) (hr1.blk id c g4)
   · have conv:∀(x:Nat)(b:Blk)(M:Loc),((H0'.map (mvB i (· + k))).set i (.fix (cells.take k++(mvL i (· + k) cells'++cells.drop (k+n))) true ty))[x]? = some b→σ x=some M→∃c N,H0'[x]? = some c∧zk0 σ i k HD x=some N∧N.b=M.b∧c.own=b.own∧c.live=b.live:=by
      intro x b M hx hM
      rcases getn x b hx with ⟨rfl,rfl⟩|⟨hne,c,g4,rfl⟩
      · rw[hσi] at hM
        cases hM
        exact⟨_,_,hb',zgm hσi,rfl,rfl,rfl⟩
      · exact⟨c,M,g4,by rw[ze1 hne];exact hM,rfl,(zwb _ _ _).symm,(ziw _ _ _).symm⟩
     obtain⟨c1,M1,a1,a2,a3,a4,a5⟩:=conv x b M hx hM
     obtain⟨c2,M2,b1,b2,b3,b4,b5⟩:=conv y c N hy hN
     rw[← a3, ← b3]
     exact hr1.sep x y c1 c2 M1 M2 a1 b1 hne (by rw[a5];exact hbl) (by rw[b5];exact hcl2) (by rw[a4,b4];exact hoo) a2 b2
   · rcases getn id b hid with ⟨rfl,rfl⟩|⟨hne,c,g4,rfl⟩
     · rw[hσi] at hM
       cases hM
       exact hr1.inb id _ ⟨L.b,L.off+k,L.cap,HD⟩ hb' rfl (zgm hσi)
     · rw[ziw] at hbl
       exact hr1.inb id c M g4 hbl (by rw[ze1 hne];exact hM)
 · rcases getn id blk hb2 with ⟨rfl,rfl⟩|⟨hne,c,g4,rfl⟩
   · omega
   · rw[ziw] at hbl
     have hM:ρ1 id=some M:=by simpa only[ρn,if_neg hne] using hM
     exact (hnew id c M hid g4 hbl hM).imp (hown_d _) (fun q=>q)
def yxa(k n:Nat)(T:Sum):Sum:=view 0 k n (zri T)
theorem ynm{P:Program}{E:Value→Ending}{f:FuncId}{k n:Nat}{T:Sum}(hT:zd7 P E f T):zd7 P E f (yxa k n T):=yte (zyq hT)
def zx8(n:Nat)(T:Sum):Sum:=fun args H=>match args with
 | .ptr _ k::_=>yxa k n T args H
 | _=>none
theorem zi9{P:Program}{E:Value→Ending}{f:FuncId}{n:Nat}{T:Sum}(hT:zd7 P E f T):zd7 P E f (zx8 n T):=by
 intro args H p v H' h
 unfold zx8 at h
 split at h
 · exact ynm hT _ H p v H' h
 · cases h
end Go.Proofs.YtfiddfbagbaofaaGreat.V
