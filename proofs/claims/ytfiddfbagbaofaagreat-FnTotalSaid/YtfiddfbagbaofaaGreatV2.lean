/- A small machine of signs and its soundness, part 2: no program in sight. Conditions: those in each statement. -/
import Derived.Test.YtfiddfbagbaofaaGreatV1
import Derived.Deep.Upon
import Derived.Orders
namespace Go.Proofs.YtfiddfbagbaofaaGreat.V
open Go
theorem zuf(b:Nat):∀(vs:List Value)(o:Nat)(w:World),w.setCells b o vs=setCells w ⟨b,o,none⟩ vs 0:=by
 have key:∀(vs:List Value)(o i:Nat)(w:World),w.setCells b (o+i) vs=setCells w ⟨b,o,none⟩ vs i:=by
  intro vs
  induction vs with
  | nil=>intro o i w;rfl
  | cons v vs ih=>intro o i w;simp only[World.setCells,setCells,zcm];rw[← ih o (i+1)];rfl
 intro vs o w
 exact key vs o 0 w
theorem KeepsP.kill{H H':Heap}(h:KeepsP H H')(id:Nat):KeepsP H (H'.set id .dead):=⟨by simpa using h.le,fun i b c hb hc=>by
 by_cases e:id=i
 · subst e
   rcases Nat.lt_or_ge id H'.length with q|q
   · rw[List.getElem?_set_self q] at hc;cases hc;exact⟨fun h=>(by cases h),fun h=>(by cases h)⟩
   · rw[List.getElem?_eq_none (by simpa using q)] at hc;cases hc
 · rw[List.getElem?_set_ne e] at hc;exact h.fl i b c hb hc⟩
theorem zfp{H:Heap}{id i:Nat}{b:Blk}(h:(H.set id .dead)[i]? = some b):b = .dead∨(id≠i∧H[i]? = some b):=by
 by_cases e:id=i
 · subst e
   rcases Nat.lt_or_ge id H.length with q|q
   · rw[List.getElem?_set_self q] at h;cases h;exact .inl rfl
   · rw[List.getElem?_eq_none (by simpa using q)] at h;cases h
 · rw[List.getElem?_set_ne e] at h;exact .inr ⟨e,h⟩
theorem zzs{ρ:Env}{H:Heap}{w:World}(h:Rel ρ H w)(id:Nat):Rel ρ (H.set id .dead) w:=by
 refine⟨fun i b hi => ?_,fun i j b c L M hi hj hne hbl hcl hoo hL hM => ?_,fun i b L hi hl hL => ?_⟩
 · rcases zfp hi with rfl|⟨_,hi⟩
   · trivial
   · exact h.blk i b hi
 · rcases zfp hi with rfl|⟨_,hi⟩
   · cases hbl
   · rcases zfp hj with rfl|⟨_,hj⟩
     · cases hcl
     · exact h.sep i j b c L M hi hj hne hbl hcl hoo hL hM
 · rcases zfp hi with rfl|⟨_,hi⟩
   · cases hl
   · exact h.inb i b L hi hl hL
theorem Eff.kill{ρ:Env}{H H':Heap}{w w':World}{av:Av}{y:Value}(h:Eff ρ H w av H' y w')(id:Nat):Eff ρ H w av (H'.set id .dead) y w':=by
 obtain⟨h1,ρ1,h2,h3,h4,h5⟩:=h
 refine⟨h1.kill id,ρ1,h2,fun ρ' ha=>⟨(h3 ρ' (by simpa using ha)).1,zzs (h3 ρ' (by simpa using ha)).2 id⟩,h4,fun i b L hi hb hl hL => ?_⟩
 rcases zfp hb with rfl|⟨_,hb⟩
 · cases hl
 · exact h5 i b L hi hb hl hL
theorem zz4{ρ:Env}{H:Heap}{w:World}(sh:List Ty)(q:Option Addr)(hw:∀ρ',Agree H.length ρ ρ'→Rel ρ' H w):Eff ρ H w (.sl H.length sh.length 0 0) (H++[.arr sh [] true]) (.slice q 0 0) w:=by
 refine⟨KeepsP.append _ _,upd ρ H.length none,zb9 _ _ _,fun ρ' hag => ?_,Fr.refl _ _,fun id b L hid hbl hl hL => ?_⟩
 · have ha:Agree H.length ρ ρ':=(zb9 ρ H.length _).trans (hag.le (by simp))
   have he:ρ' H.length=none:=by rw[hag H.length (by simp),zij]
   refine⟨.inl ⟨he,rfl,rfl,q,rfl⟩,zwk (hw ρ' ha) (Nat.le_refl _) (hw ρ' ha).blk (fun L hL _=>by rw[he] at hL;cases hL) (.inl ⟨he,rfl⟩)⟩
 · have e:id=H.length:=by
    rcases Nat.lt_or_ge id (H++[Blk.arr sh [] true]).length with q|q
    · simp at q;omega
    · simp[List.getElem?_eq_none q] at hbl
   subst e
   rw[zij] at hL
   cases hL
theorem ymb{ρ:Env}{H:Heap}{w w':World}{id:Nat}{L:Loc}{blk blk':Blk}(h:Rel ρ H w)(hid:H[id]? = some blk)(hown:blk.own=true)(hL:ρ id=some L)(ho:OnlyB L.b w w')
 (hn:ρ H.length=some L) (hb:Rb ρ w' H.length blk'):Rel ρ ((H.set id .dead)++[blk']) w':=by
 have get:∀i b,((H.set id .dead)++[blk'])[i]? = some b→(i=H.length∧b=blk')∨b = .dead∨(id≠i∧H[i]? = some b):=by
  intro i b hi
  rcases Nat.lt_or_ge i H.length with g|g
  · rw[List.getElem?_append_left (by simpa using g)] at hi;exact .inr (zfp hi)
  · rw[List.getElem?_append_right (by simpa using g),List.length_set] at hi
    have:i-H.length=0:=by
     rcases Nat.eq_zero_or_pos (i-H.length) with e|e
     · exact e
     · rw[List.getElem?_eq_none (by simp;omega)] at hi;cases hi
    rw[this] at hi;simp at hi
    exact .inl ⟨by omega,hi.symm⟩
 refine⟨fun i b hi => ?_,fun i j b c M N hi hj hne hbl hcl hoo hM hN => ?_,fun i b M hi hbl hM => ?_⟩
 · rcases get i b hi with ⟨rfl,rfl⟩|rfl|⟨hne,hi⟩
   · exact hb
   · trivial
   · exact yer ho (fun M hM hl=>h.sep i id b blk M L hi hid (Ne.symm hne) hl (za8 hown) (.inr hown) hM hL) (h.blk i b hi)
 · rcases get i b hi with ⟨rfl,rfl⟩|rfl|⟨hi1,hi2⟩
   · rcases get j c hj with ⟨rfl,rfl⟩|rfl|⟨hj1,hj2⟩
     · exact absurd rfl hne
     · cases hcl
     · rw[hn] at hM;cases hM
       exact h.sep id j blk c L N hid hj2 hj1 (za8 hown) hcl (.inl hown) hL hN
   · cases hbl
   · rcases get j c hj with ⟨rfl,rfl⟩|rfl|⟨hj1,hj2⟩
     · rw[hn] at hN;cases hN
       exact h.sep i id b blk M L hi2 hid (Ne.symm hi1) hbl (za8 hown) (.inr hown) hM hL
     · cases hcl
     · exact h.sep i j b c M N hi2 hj2 hne hbl hcl hoo hM hN
 · rw[ho.size]
   rcases get i b hi with ⟨rfl,rfl⟩|rfl|⟨_,hi⟩
   · rw[hn] at hM;cases hM;exact h.inb id blk L hid (za8 hown) hL
   · cases hbl
   · exact h.inb i b M hi hbl hM
theorem ymt{ρ:Env}{H:Heap}{w w':World}{av:Av}{y:Value}{id:Nat}{L:Loc}{blk blk':Blk}(hw:∀ρ',Agree H.length ρ ρ'→Rel ρ' H w)(hid:H[id]? = some blk)(hown:blk.own=true)(hL:ρ id=some L)(ho:OnlyB L.b w w')
 (hb:∀ρ',Agree H.length ρ ρ'→ρ' H.length=some L→Rb ρ' w' H.length blk'∧Rv ρ' av y):Eff ρ H w av ((H.set id .dead)++[blk']) y w':=by
 have hlt:id<H.length:=by
  rcases Nat.lt_or_ge id H.length with g|g
  · exact g
  · simp[List.getElem?_eq_none g] at hid
 refine⟨((KeepsP.refl H).kill id).trans (KeepsP.append _ _),upd ρ H.length (some L),zb9 _ _ _,fun ρ' hag => ?_,zwi ho ⟨id,blk,L,hid,hown,hL,rfl⟩,fun i b M hi hbl hl hM => ?_⟩
 · have ha:Agree H.length ρ ρ':=(zb9 ρ H.length _).trans (hag.le (by simp))
   have he:ρ' H.length=some L:=by rw[hag H.length (by simp),zij]
   obtain⟨h1,h2⟩:=hb ρ' ha he
   exact⟨h2,ymb (hw ρ' ha) hid hown (by rw[ha id hlt];exact hL) ho he h1⟩
 · have e:i=H.length:=by
    rcases Nat.lt_or_ge i ((H.set id .dead)++[blk']).length with q|q
    · simp at q;omega
    · simp[List.getElem?_eq_none q] at hbl
   subst e
   rw[zij] at hM
   cases hM
   exact .inl ⟨id,blk,L,hid,hown,hL,rfl⟩
def yvi(sh:List Ty)(H:Heap):Av→Option (Option Prop × List (El sh) × Option Nat)
 | .v (.slice none 0 0)=>some (none,[],none)
 | .sl id sz lo len =>
  match H[id]? with
  | some (.arr sh2 ys _)=>if h:sh2=sh then (if sz=sh.length then some (some (lo+len≤ys.length),((h ▸ ys:List (El sh)).drop lo).take len,some id) else none) else none
  | _=>none
 | _=>none
theorem ya6{P:Program}{sh:List Ty}{H:Heap}{y:Av}{p:Option Prop}{ys:List (El sh)}{io:Option Nat}(h:yvi sh H y=some (p,ys,io))(hp:Hold p){tx e':TypeId}(hk:P.underlying tx=some (.slice e')){ρ:Env}{w:World}{v:Value}
 (hr:Rel ρ H w) (hy:Rv ρ y v):Src P sh.length tx v ys.length (flat sh ys) w:=by
 unfold yvi at h
 split at h
 · simp only[Option.some.injEq,Prod.mk.injEq] at h
   obtain⟨_,rfl,_⟩:=h
   have e:v = .slice none 0 0:=hy
   subst e
   exact Src.ofNil w hk 0
 · rename_i id sz lo len
   split at h
   case h_2=>cases h
   rename_i sh2 ys2 o hb
   split at h
   case isFalse=>cases h
   rename_i hsh
   subst hsh
   split at h
   case isFalse=>cases h
   rename_i hsz
   subst hsz
   simp only[Option.some.injEq,Prod.mk.injEq] at h
   obtain⟨rfl,rfl,_⟩:=h
   have hp':lo+len≤ys2.length:=hp
   have hlen:((ys2.drop lo).take len).length=len:=by simp;omega
   simp only[Rv] at hy
   rcases hy with ⟨hno,rfl,rfl,q,rfl⟩|⟨L,o',hL,hcap,ho,rfl⟩
   · have e:(ys2.drop 0).take 0=[]:=by simp
     rw[e]
     cases q with
     | none=>exact Src.ofNil w hk 0
     | some a=>exact Src.ofSlice w hk a 0 0 [] (by simp) (fun j u hj=>by simp at hj) (fun u hu=>by cases hu)
   · have key:Src P sh2.length tx (.slice (some ⟨L.b,L.off+o'*sh2.length,none⟩) len (L.cap-lo)) len (flat sh2 ((ys2.drop lo).take len)) w:=by
      refine Src.ofSlice w hk _ len _ _ (by rw[zca,hlen]) (fun j u hj => ?_) (zte _)
      rcases hr.blk id _ hb with ⟨hno,_⟩|⟨M,hM,hcap2,hc,_⟩
      · rw[hL] at hno;cases hno
      · rw[hL] at hM;cases hM
        rw[zcm]
        have hlt:j<(flat sh2 ((ys2.drop lo).take len)).length:=by
         rcases Nat.lt_or_ge j (flat sh2 ((ys2.drop lo).take len)).length with q|q
         · exact q
         · simp[List.getElem?_eq_none q] at hj
        rw[zca,hlen] at hlt
        have hpos:0<len:=by
         rcases Nat.eq_zero_or_pos len with q|q
         · subst q;omega
         · exact q
        have ho':o'=lo:=by
         rcases ho with q|q
         · exact q
         · omega
        subst ho'
        refine zf8 (C:=fun j=>w.cell? ⟨L.b,L.off+o'*sh2.length+j,none⟩) (fun i x hi k v hk => ?_) j u hj
        rw[List.getElem?_take] at hi
        split at hi
        case isFalse=>cases hi
        rw[List.getElem?_drop] at hi
        have:=hc (o'+i) x hi k v hk
        rw[Nat.add_mul,show L.off+(o'*sh2.length+i*sh2.length)+k=L.off+o'*sh2.length+(i*sh2.length+k) by omega] at this
        exact this
     rw[hlen]
     exact key
 · cases h
def zwn(P:Program)(t tx:TypeId)(x y:Av)(H:Heap):Option (Option Prop × Av × Heap) :=
 match zks P t,zks P tx with
 | some sh,some _ =>
  match yvi sh H y with
  | some (p,ys,io) =>
   match x with
   | .v (.slice none 0 0)=>some (some (Hold p∧ys.length≤1073741824),.sl H.length sh.length 0 ys.length,H++[.arr sh ys true])
   | .sl id sz 0 len =>
    match H[id]? with
    | some (.arr sh1 xs true) =>
     if h:sh1=sh then
      (if sz=sh.length∧io≠some id then some (some (Hold p∧len≤xs.length∧len+ys.length≤1073741824),.sl H.length sh.length 0 (len+ys.length),(H.set id .dead)++[.arr sh ((h ▸ xs:List (El sh)).take len++ys) true]) else none)
     else none
    | _=>none
   | _=>none
  | none=>none
 | _,_=>none
theorem ygl{sh:List Ty}{z:Array Value}(hz:z.size=sh.length)(olds news:List Value)(need cap:Nat)(hl:(olds++news).length=need*sh.length)(hc:need≤cap) :
 ((olds++news).toArray++Builtin.zeroCells z (cap-need)).size=cap*sh.length:=by
 rw[Array.size_append,List.size_toArray,hl,size_zeroCells,hz, ← Nat.add_mul]
 congr 1
 omega
theorem zq2{P:Program}{t tx ty:TypeId}{sh:List Ty}{e:TypeId}{i:TypeInfo}{z:Value}(hu:P.underlying t=some (.slice e))(hi:P.info? e=some i)(hz:i.zero=some z)(hzc:z.cells.toList=El.vals sh (El.zero sh))(hs:i.size=sh.length)(hb:i.bytes≤4096)
 {ρ:Env} {H:Heap} {w:World} (hw:∀ρ',Agree H.length ρ ρ'→Rel ρ' H w) {base:Option Addr} {sCap:Nat} {xs ys:List (El sh)} {v:Value}
 (hold:(Builtin.firstCells sh.length xs.length (.slice base xs.length sCap)).run P w.drew = .ok (flat sh xs).toArray w.drew) (hsrc:Src P sh.length tx v ys.length (flat sh ys) w)
 (hg:sCap<xs.length+ys.length) (hsm:xs.length+ys.length≤1073741824) :
 ∃r w',(Builtin.append_ #[t,tx] ty #[.slice base xs.length sCap,v]).run P w = .ok r w'∧Eff ρ H w (.sl H.length sh.length 0 (xs.length+ys.length)) (H++[.arr sh (xs++ys) true]) r w':=by
 have hbytes:(xs.length+ys.length)*i.bytes≤140737488355328:=by
  have:=Nat.mul_le_mul hsm hb
  omega
 have hrun:=run_append_grow_src (P:=P) w t tx ty e i z hu hi hz base xs.length sCap (flat sh xs) (by rw[hs];exact hold) v ys.length (flat sh ys) (by rw[hs];exact hsrc) hg (by omega) (growslice_fits hg hbytes)
 refine⟨_,_,hrun, ?_⟩
 have hge:=grownCap_ge w (xs.length+ys.length) sCap e
 have hzs:z.cells.size=sh.length:=by rw[← Array.length_toList,hzc,El.vals_length]
 have hl:(flat sh xs++flat sh ys).length=(xs.length+ys.length)*sh.length:=by rw[← zgk,zca,List.length_append]
 have:=zw6 (ρ:=ρ) (H:=H) (w:=w.drew) (xs++ys) ((flat sh xs++flat sh ys).toArray++Builtin.zeroCells z.cells (grownCap w (xs.length+ys.length) sCap e-(xs.length+ys.length))) e (grownCap w (xs.length+ys.length) sCap e)
  (fun ρ' ha=>zlh (hw ρ' ha) ⟨Nat.le_refl _,fun _ _ _=>rfl,⟨rfl,rfl,rfl⟩⟩) (ygl hzs _ _ _ _ hl hge) (by simpa using hge) (fun j u hj=>by
   rw[zgk] at hj
   have hlt:j<(flat sh xs++flat sh ys).length:=by
    rcases Nat.lt_or_ge j (flat sh xs++flat sh ys).length with q|q
    · exact q
    · simp only[List.getElem?_eq_none q] at hj;cases hj
   rw[Array.getElem?_append_left (by simpa using hlt)]
   simpa using hj)
 simp only[List.length_append] at this
 obtain⟨k1,ρ1,k2,k3,k4,k5⟩:=this
 exact⟨k1,ρ1,k2,k3,⟨k4.1,k4.2,⟨k4.3.os,k4.3.tape,k4.3.output⟩⟩,k5⟩
theorem zrp(b o:Nat)(vs:List Value)(w:World)(x:Addr)(h:(w.cell? x).isSome=true):∀i,((setCells w ⟨b,o,none⟩ vs i).cell? x).isSome=true:=by
 induction vs generalizing w with
 | nil=>exact fun _=>h
 | cons v vs ih =>
  intro i
  simp only[setCells]
  refine ih _ ?_ _
  rw[zcm]
  by_cases e:(⟨b,o+i,none⟩:Addr)=x
  · subst e
    obtain⟨y,hy⟩:=Option.isSome_iff_exists.1 h
    rw[World.cell?_setCell_same _ _ _ hy];rfl
  · rw[World.cell?_setCell_other _ _ _ _ e];exact h
theorem yn1{P:Program}{t tx ty:TypeId}{sh:List Ty}{e:TypeId}{i:TypeInfo}(hu:P.underlying t=some (.slice e))(hi:P.info? e=some i)(hs:i.size=sh.length)
 {ρ:Env} {H:Heap} {w:World} (hw:∀ρ',Agree H.length ρ ρ'→Rel ρ' H w) {id:Nat} {xs:List (El sh)} (hid:H[id]? = some (.arr sh xs true)) {L:Loc} (hL:ρ id=some L) {len o:Nat} {ys:List (El sh)} {v:Value}
 (ho:o=0∨L.cap=0) (hlen:len≤xs.length) (hsrc:Src P sh.length tx v ys.length (flat sh ys) w) (hroom:len+ys.length≤L.cap) :
 ∃r w',(Builtin.append_ #[t,tx] ty #[.slice (some ⟨L.b,L.off+o*sh.length,none⟩) len L.cap,v]).run P w = .ok r w' ∧
  Eff ρ H w (.sl H.length sh.length 0 (len+ys.length)) ((H.set id .dead)++[.arr sh (xs.take len++ys) true]) r w':=by
 have hag:Agree H.length ρ ρ:=Agree.refl _ _
 rcases (hw ρ hag).blk id _ hid with ⟨hno,_⟩|⟨M,hM,hcap,hc,hf⟩
 · rw[hL] at hno;cases hno
 rw[hL] at hM;cases hM
 have hfo:=hf rfl
 have hfl:=zca ys
 have hroomn:(len+ys.length)*sh.length≤L.cap*sh.length:=Nat.mul_le_mul_right _ hroom
 rw[Nat.add_mul] at hroomn
 -- where it writes
 have hoff:∀j,j<(flat sh ys).length→L.off+o*sh.length+len*sh.length+j=L.off+(len*sh.length+j):=by
  intro j hj
  rcases ho with rfl|q
  · omega
  · have:ys.length=0:=by omega
    rw[hfl,this] at hj
    omega
 have hrun:=run_append_room_src (P:=P) w t tx ty e i hu hi L.b (L.off+o*sh.length) len L.cap v ys.length (flat sh ys) (by rw[hs];exact hsrc) hroom
  (fun j hj=>by rw[hs,hoff j hj];exact (hfo _ (by omega)).1) (fun j hj=>by rw[hs,hoff j hj];exact (hfo _ (by omega)).2)
 rw[zuf,hs] at hrun
 have honly:=zgt L.b (L.off+o*sh.length+len*sh.length) (flat sh ys) 0 w
 have hwr:∀j u,(flat sh ys)[j]? = some u→(setCells w ⟨L.b,L.off+o*sh.length+len*sh.length,none⟩ (flat sh ys) 0).cell? ⟨L.b,L.off+(len*sh.length+j),none⟩=some u:=by
  intro j u hj
  have hjl:j<(flat sh ys).length:=by
   rcases Nat.lt_or_ge j (flat sh ys).length with q|q
   · exact q
   · simp[List.getElem?_eq_none q] at hj
  have:=zfg L.b (L.off+o*sh.length+len*sh.length) (flat sh ys) 0 w (fun j hj=>by rw[Nat.zero_add,hoff j hj];exact (hfo _ (by omega)).1) j u hj
  rwa [Nat.zero_add,hoff j hjl] at this
 refine⟨_,_,hrun,ymt hw hid rfl hL honly (fun ρ' ha he=>⟨?_, ?_⟩)⟩
 · refine .inr ⟨L,he,by simp only[List.length_append,List.length_take];omega,fun k x hk j u hj => ?_,fun _ j hj=>⟨?_, ?_⟩⟩
   · have hall:∀j u,(flat sh (xs.take len++ys))[j]? = some u→(setCells w ⟨L.b,L.off+o*sh.length+len*sh.length,none⟩ (flat sh ys) 0).cell? ⟨L.b,L.off+j,none⟩=some u:=by
      intro j u hj
      rw[zgk] at hj
      have htl:(flat sh (xs.take len)).length=len*sh.length:=by rw[zca,List.length_take,Nat.min_eq_left hlen]
      by_cases g:j<(flat sh (xs.take len)).length
      · rw[List.getElem?_append_left g] at hj
        rw[zbp L.b _ _ (flat sh ys) 0 w (fun l hl e=>by
         injection e with _ e2
         have:=hoff l hl
         omega)]
        refine zf8 (C:=fun j=>w.cell? ⟨L.b,L.off+j,none⟩) (fun q x hq k v hk => ?_) j u hj
        rw[List.getElem?_take] at hq
        split at hq
        case isFalse=>cases hq
        have:=hc q x hq k v hk
        rwa [Nat.add_assoc] at this
      · rw[List.getElem?_append_right (by omega)] at hj
        have:=hwr _ _ hj
        rwa [show len*sh.length+(j-(flat sh (xs.take len)).length)=j by omega] at this
     have:=hall _ _ (zqz hk hj)
     rwa [← Nat.add_assoc] at this
   · exact zrp _ _ _ _ _ (hfo j hj).1 0
   · rw[honly.froz];exact (hfo j hj).2
 · simp only[Rv]
   exact .inr ⟨L,o,he,by omega,ho,by rw[Nat.sub_zero]⟩
theorem ybk{P:Program}{t tx ty:TypeId}{x y:Av}{H H':Heap}{p:Option Prop}{av:Av}(h:zwn P t tx x y H=some (p,av,H'))(hp:Hold p){ρ:Env}{w:World}{u v:Value}
 (hw:∀ρ',Agree H.length ρ ρ'→Rel ρ' H w) (hx:Rv ρ x u) (hy:Rv ρ y v):∃r w',(Builtin.append_ #[t,tx] ty #[u,v]).run P w = .ok r w'∧Eff ρ H w av H' r w':=by
 unfold zwn at h
 split at h
 case h_2=>cases h
 rename_i sh sh' hsh hsh'
 obtain⟨e,i,z,hu,hi,hz,hzc,hs,hpos,hb⟩:=zfw hsh
 obtain⟨e',_,_,hk,_⟩:=zfw hsh'
 split at h
 case h_2=>cases h
 rename_i q ys io hys
 have hag:Agree H.length ρ ρ:=Agree.refl _ _
 split at h
 · simp only[Option.some.injEq,Prod.mk.injEq] at h
   obtain⟨rfl,rfl,rfl⟩:=h
   obtain⟨hq,hsm⟩:=hp
   have hsrc:=ya6 hys hq hk (hw ρ hag) hy
   have e1:u = .slice none 0 0:=hx
   subst e1
   by_cases h0:ys.length=0
   · have:ys=[]:=List.eq_nil_of_length_eq_zero h0
     subst this
     exact⟨_,_,run_append_nothing w t tx ty e i hu hi none 0 0 (Nat.le_refl _) v (by rw[hs];exact hsrc),zz4 sh none hw⟩
   · have:=zq2 (ty:=ty) (xs:=([]:List (El sh))) (base:=none) (sCap:=0) hu hi hz hzc hs hb hw (run_firstCells_none _ _ _ _ _) hsrc (by simp;omega) (by simpa using hsm)
     simpa using this
 · rename_i id sz len
   split at h
   case h_2=>cases h
   rename_i sh1 xs hid
   split at h
   case isFalse=>cases h
   rename_i hsh1
   subst hsh1
   split at h
   case isFalse=>cases h
   rename_i hc
   obtain⟨rfl,_⟩:=hc
   simp only[Option.some.injEq,Prod.mk.injEq] at h
   obtain⟨rfl,rfl,rfl⟩:=h
   obtain⟨hq,hlen,hsm⟩:=hp
   have hsrc:=ya6 hys hq hk (hw ρ hag) hy
   have hidl:id<H.length:=by
    rcases Nat.lt_or_ge id H.length with q|q
    · exact q
    · simp[List.getElem?_eq_none q] at hid
   have htl:(xs.take len).length=len:=by rw[List.length_take];omega
   have hset:(H++[Blk.arr sh1 (xs.take len++ys) true]).set id .dead=(H.set id .dead)++[Blk.arr sh1 (xs.take len++ys) true]:=List.set_append_left _ _ hidl
   simp only[Rv] at hx
   rcases hx with ⟨hno,_,rfl,q,rfl⟩|⟨L,o,hL,hcap,ho,rfl⟩
   · by_cases h0:ys.length=0
     · have:ys=[]:=List.eq_nil_of_length_eq_zero h0
       subst this
       refine⟨_,_,run_append_nothing w t tx ty e i hu hi q 0 0 (Nat.le_refl _) v (by rw[hs];exact hsrc), ?_⟩
       have:=(zz4 (ρ:=ρ) sh1 q hw).kill id
       rw[List.set_append_left _ _ hidl] at this
       simpa using this
     · have hfc:(Builtin.firstCells sh1.length ([]:List (El sh1)).length (.slice q ([]:List (El sh1)).length 0)).run P w.drew = .ok (flat sh1 ([]:List (El sh1))).toArray w.drew:=by
        cases q with
        | none=>exact run_firstCells_none _ _ _ _ _
        | some a=>exact run_firstCells_some _ _ _ _ _ _ _ (by simp[flat]) (fun j u hj=>by simp[flat] at hj)
       have:=zq2 (ty:=ty) (xs:=([]:List (El sh1))) (base:=q) (sCap:=0) hu hi hz hzc hs hb hw hfc hsrc (by simp;omega) (by simpa using hsm)
       obtain⟨r,w',hr,he⟩:=this
       refine⟨r,w',by simpa using hr, ?_⟩
       have:=he.kill id
       rw[List.set_append_left _ _ hidl] at this
       simpa using this
   · rw[Nat.sub_zero]
     by_cases hroom:len+ys.length≤L.cap
     · exact yn1 hu hi hs hw hid hL ho hlen hsrc hroom
     · have hold:(Builtin.firstCells sh1.length (xs.take len).length (.slice (some ⟨L.b,L.off+o*sh1.length,none⟩) (xs.take len).length L.cap)).run P w.drew = .ok (flat sh1 (xs.take len)).toArray w.drew:=by
        refine run_firstCells_some _ _ _ _ _ _ _ (zca _) (fun j u' hj => ?_)
        rcases (hw ρ hag).blk id _ hid with ⟨hno,_⟩|⟨M,hM,_,hc,_⟩
        · rw[hL] at hno;cases hno
        rw[hL] at hM;cases hM
        have hlt:j<(flat sh1 (xs.take len)).length:=by
         rcases Nat.lt_or_ge j (flat sh1 (xs.take len)).length with q|q
         · exact q
         · simp[List.getElem?_eq_none q] at hj
        rw[zca,htl] at hlt
        have ho':o=0:=by
         rcases ho with q|q
         · exact q
         · have:len=0:=by omega
           subst this
           omega
        subst ho'
        rw[zcm,Nat.zero_mul,Nat.add_zero]
        refine zf8 (C:=fun j=>w.cell? ⟨L.b,L.off+j,none⟩) (fun q x hq k v hk => ?_) j u' hj
        rw[List.getElem?_take] at hq
        split at hq
        case isFalse=>cases hq
        have:=hc q x hq k v hk
        rwa [Nat.add_assoc] at this
       obtain⟨r,w',hr,he⟩:=zq2 (ty:=ty) (xs:=xs.take len) hu hi hz hzc hs hb hw hold hsrc (by rw[htl];omega) (by rw[htl];exact hsm)
       rw[htl] at hr he
       refine⟨r,w',hr, ?_⟩
       rw[← hset]
       exact he.kill id
 · cases h
theorem zqq{ρ:Env}{H:Heap}{w:World}{av:Av}{y:Value}(h:∀ρ',Agree H.length ρ ρ'→Rv ρ' av y∧Rel ρ' H w):Eff ρ H w av H y w:=by
 refine⟨KeepsP.refl H,ρ,Agree.refl _ _,h,Fr.refl _ _,fun id b L hid hb _ _ => ?_⟩
 rw[List.getElem?_eq_none hid] at hb
 cases hb
def zxy(o:Oper)(sl:List Av):Option (Option Prop × Av) :=
 match o.op with
 | .binOp op _ x y _=>match evS sl x,evS sl y with
  | .v (.int k m),.v (.int j n)=>if k=j then (match op with
   | .and=>some (none,.v (.int k (bits .and k m n)))
   | .or=>some (none,.v (.int k (bits .or k m n)))
   | .xor=>some (none,.v (.int k (bits .xor k m n)))
   | .andNot=>some (none,.v (.int k (bits .andNot k m n)))
   | _=>none) else none
  | _,_=>none
 | _=>none
theorem ych{P:Program}{o:Oper}{sl:List Av}{p:Option Prop}{av:Av}(h:zxy o sl=some (p,av)){ρ:Env}{a:Act}{w:World}
 (hs:RvL ρ sl a.tmps.toList):∃v,(execOp a.eval o).run P w = .ok (.value v) w∧Rv ρ av v:=by
 unfold zxy at h
 split at h
 case h_2=>cases h
 rename_i op t x y ty hop
 have hx:=zcb hs x
 have hy:=zcb hs y
 split at h
 case h_2=>cases h
 rename_i k m j n e1 e2
 rw[e1] at hx
 rw[e2] at hy
 have hx':a.eval x = .int k m:=hx
 have hy':a.eval y = .int j n:=hy
 split at h
 case isFalse=>cases h
 rename_i hk
 subst hk
 unfold execOp
 simp only[hop,hx',hy']
 split at h<;>(first|(cases h;done)|simp only[Option.some.injEq,Prod.mk.injEq] at h)
 · obtain⟨rfl,rfl⟩:=h;exact⟨_,by simp[eqGuard,binOp,intBits_and],rfl⟩
 · obtain⟨rfl,rfl⟩:=h;exact⟨_,by simp[eqGuard,binOp,intBits_or],rfl⟩
 · obtain⟨rfl,rfl⟩:=h;exact⟨_,by simp[eqGuard,binOp,intBits_xor],rfl⟩
 · obtain⟨rfl,rfl⟩:=h;exact⟨_,by simp[eqGuard,binOp,intBits_andNot],rfl⟩
def pure2(P:Program)(o:Oper)(sl:List Av)(H:Heap):Option (Option Prop × Av):=match zxy o sl with|some r=>some r|none=>match pstep P o sl H with|some r=>some r|none=>extra P o sl H
theorem yar{P:Program}{o:Oper}{sl:List Av}{H:Heap}{p:Option Prop}{av:Av}(h:pure2 P o sl H=some (p,av))(hp:Hold p){ρ:Env}{a:Act}{w:World}
 (hs:RvL ρ sl a.tmps.toList) (hr:Rel ρ H w):∃v,(execOp a.eval o).run P w = .ok (.value v) w∧Rv ρ av v:=by
 unfold pure2 at h
 split at h
 · rename_i r hr'
   simp only[Option.some.injEq] at h
   subst h
   exact ych hr' hs
 · split at h
   · rename_i r hr'
     simp only[Option.some.injEq] at h
     subst h
     exact zrk hr' hp hs hr
   · exact ymx h hp hs hr
def ecall(P:Program)(Γ:Sums)(c:Call)(sl:List Av)(H:Heap):Option (Option Prop × Av × Heap) :=
 match callee P sl c with
 | some (g,vs)=>match Γ g with
  | some S=>match zql S vs H with
   | some (p,av,H')=>if keeps H H' then some (p,av,H') else none
   | none=>none
  | none=>none
 | none=>none
def estep(P:Program)(Γ:Sums)(o:Oper)(sl:List Av)(H:Heap):Option (Option Prop × Av × Heap) :=
 match o.op with
 | .alloc t=>match zeroCells P t with|some z=>some (none,.ptr H.length 0,H++[.fix z true (some t)])|none=>none
 | .box t x=>match cellsOf (evS sl x) with|some cs=>some (none,.ptr H.length 0,H++[.fix cs true (some t)])|none=>none
 | .store t x y=>match ye3 P t H (evS sl x) (evS sl y) with|some (p,H')=>some (p,.any,H')|none=>none
 | .buildSlice t len ps=>match zqd P t len (ps.toList.map fun p=>(p.1,evS sl p.2)) H with|some r=>some r|none=>zqc P t len (ps.toList.map fun p=>(p.1,evS sl p.2)) H
 | .makeSlice t l c=>ysv P t (evS sl l) (evS sl c) H
 | .slice t x lo hi none=>match ye2 P t (evS sl x) (lo.map (evS sl)) (hi.map (evS sl)) with|some (p,av)=>some (p,av,H)|none=>none
 | .call { callee := .builtin .append,args:=as,argTypes:=ts } =>
  match as.toList,ts.toList with
  | [x,y],[t,tx]=>zwn P t tx (evS sl x) (evS sl y) H
  | _,_=>none
 | .call { callee := .value f,args:=as,argTypes:=ts }=>ecall P Γ { callee := .value f,args:=as,argTypes:=ts } sl H
 | .call { callee := .invoke r m,args:=as,argTypes:=ts }=>ecall P Γ { callee := .invoke r m,args:=as,argTypes:=ts } sl H
 | _=>match pure2 P o sl H with|some (p,av)=>some (p,av,H)|none=>none
def Goes(P:Program)(o:Oper)(a:Act)(w:World)(R:Value→World→Prop):Prop:=o.wp P a w (fun a' w'=>∃y,a'=a.put o.dst y∧R y w') (fun _ _ _=>False)
theorem Goes.value{P:Program}{o:Oper}{a:Act}{w w':World}{R:Value→World→Prop}{v:Value}(h:(execOp a.eval o).run P w = .ok (.value v) w')(hR:R v w'):Goes P o a w R:=by
 unfold Goes Oper.wp
 rw[h]
 exact⟨v,rfl,hR⟩
theorem Goes.skip{P:Program}{o:Oper}{a:Act}{w w':World}{R:Value→World→Prop}(h:(execOp a.eval o).run P w = .ok .skip w')(hR:R undef w'):Goes P o a w R:=by
 unfold Goes Oper.wp
 rw[h]
 exact⟨undef,rfl,hR⟩
theorem Goes.mono{P:Program}{o:Oper}{a:Act}{w:World}{R R':Value→World→Prop}(h:Goes P o a w R)(hR:∀y w',R y w'→R' y w'):Goes P o a w R' :=
 Oper.wp_mono (fun _ _ ⟨y,e,hr⟩=>⟨y,e,hR _ _ hr⟩) h
theorem zl1{H H':Heap}(h:keeps H H'=true):KeepsP H H':=⟨(zhg h).1,(zhg h).2⟩
theorem yby{P:Program}{o:Oper}{sl:List Av}{H H':Heap}{p:Option Prop}{av:Av}(h:(match pure2 P o sl H with|some (p,av)=>some (p,av,H)|none=>none)=some (p,av,H'))(hp:Hold p){ρ:Env}{a:Act}{w:World}
 (hw:∀ρ',Agree H.length ρ ρ'→RvL ρ' sl a.tmps.toList∧Rel ρ' H w):Goes P o a w (Eff ρ H w av H'):=by
 split at h
 case h_2=>cases h
 rename_i p' av' hs
 simp only[Option.some.injEq,Prod.mk.injEq] at h
 obtain⟨rfl,rfl,rfl⟩:=h
 obtain⟨g1,g2⟩:=hw ρ (Agree.refl _ _)
 obtain⟨v,hv,_⟩:=yar hs hp g1 g2
 refine Goes.value hv (zqq fun ρ' ha => ?_)
 obtain⟨q1,q2⟩:=hw ρ' ha
 obtain⟨v',hv',hr⟩:=yar hs hp q1 q2
 rw[hv] at hv'
 cases hv'
 exact⟨hr,q2⟩
theorem zz3{P:Program}{E:Value→Ending}{Γ:Sums}(hΓ:∀g S,Γ g=some S→zfm P E g S){o:Oper}{c:Call}(hop:o.op = .call c){sl:List Av}{H H':Heap}{p:Option Prop}{av:Av}(h:ecall P Γ c sl H=some (p,av,H'))(hp:Hold p){ρ:Env}{a:Act}{w:World}
 (hw:∀ρ',Agree H.length ρ ρ'→RvL ρ' sl a.tmps.toList∧Rel ρ' H w):∃g vs,(execOp a.eval o).run P w = .ok (.enter g vs) w∧Calls P g vs w fun e w'=>∃y,e=E y∧Eff ρ H w av H' y w':=by
 have hag:Agree H.length ρ ρ:=Agree.refl _ _
 unfold ecall at h
 split at h
 case h_2=>cases h
 rename_i g vs hc
 split at h
 case h_2=>cases h
 rename_i S hS
 split at h
 case h_2=>cases h
 rename_i p' av' H2 hcs
 split at h
 case isFalse=>cases h
 rename_i hk
 simp only[Option.some.injEq,Prod.mk.injEq] at h
 obtain⟨rfl,rfl,rfl⟩:=h
 rcases hΓ g S hS with ⟨hcall,hsnd⟩|⟨hb,hsnd⟩
 rotate_left
 · obtain⟨us,h1,h2⟩:=ybs hc hb hop
   have hcl:=yfj (C:=zgy P g) (fun h hr=>zgy.mono h hr) hsnd vs H p' av' H2 hcs hp ρ us w (fun ρ' ha=>⟨h1 ρ' (hw ρ' ha).1,(hw ρ' ha).2⟩)
   obtain⟨f,fs,h3,h4⟩:=h2 w _ hcl
   refine⟨f,fs,h3,h4.mono ?_⟩
   rintro e w' ⟨y,ρ1,rfl,g1,g2,g3,g4⟩
   exact⟨y,rfl,zl1 hk,ρ1,g1,g2,g3,g4⟩
 obtain⟨us,h1,_⟩:=zs2 hc hcall (hw ρ hag).1 hop
 have h2:∀ρ',Agree H.length ρ ρ'→RvL ρ' vs us∧Rel ρ' H w:=by
  intro ρ' ha
  obtain⟨us',h1',h2'⟩:=zs2 hc hcall (hw ρ' ha).1 hop
  have e:=(h1 w).symm.trans (h1' w)
  simp only[Result.ok.injEq,Next.enter.injEq,true_and,and_true] at e
  have e3:us=us':=by simpa using congrArg Array.toList e
  subst e3
  exact⟨h2',(hw ρ' ha).2⟩
 have hcl:=zqm hsnd vs H p' av' H2 hcs hp ρ us w h2
 refine⟨g,us.toArray,h1 w,hcl.mono ?_⟩
 rintro e w' ⟨y,ρ1,rfl,g1,g2,g3,g4⟩
 exact⟨y,rfl,zl1 hk,ρ1,g1,g2,g3,g4⟩
theorem zpc{P:Program}{Γ:Sums}(hΓ:zib P Γ){o:Oper}{c:Call}(hop:o.op = .call c){sl:List Av}{H H':Heap}{p:Option Prop}{av:Av}(h:ecall P Γ c sl H=some (p,av,H'))(hp:Hold p){ρ:Env}{a:Act}{w:World}
 (hw:∀ρ',Agree H.length ρ ρ'→RvL ρ' sl a.tmps.toList∧Rel ρ' H w):Goes P o a w (Eff ρ H w av H'):=by
 obtain⟨g,vs,h1,h2⟩:=zz3 (E := .returned) hΓ hop h hp hw
 unfold Goes Oper.wp
 rw[h1]
 simp only[Oper.upon]
 refine h2.mono ?_
 rintro e w' ⟨y,rfl,he⟩
 exact⟨y,rfl,he⟩
theorem zqu{P:Program}{Γ:Sums}(hΓ:zib P Γ){o:Oper}{sl:List Av}{H H':Heap}{p:Option Prop}{av:Av}(h:estep P Γ o sl H=some (p,av,H'))(hp:Hold p){ρ:Env}{a:Act}{w:World}
 (hw:∀ρ',Agree H.length ρ ρ'→RvL ρ' sl a.tmps.toList∧Rel ρ' H w):Goes P o a w (Eff ρ H w av H'):=by
 have hag:Agree H.length ρ ρ:=Agree.refl _ _
 have ev:=fun x=>zcb (hw ρ hag).1 x
 have hrel:∀ρ',Agree H.length ρ ρ'→Rel ρ' H w:=fun ρ' ha=>(hw ρ' ha).2
 unfold estep at h
 split at h
 · rename_i t hop
   split at h
   case h_2=>cases h
   rename_i z hz
   simp only[Option.some.injEq,Prod.mk.injEq] at h
   obtain⟨_,rfl,rfl⟩:=h
   obtain⟨zv,h1,h2⟩:=zj2 hz w
   refine Goes.value (v := .pointer (some ⟨w.heap.size,0,none⟩)) (w':=w.alloc (.cells zv.cells t)) ?_ (yfv t hrel fun ρ' _=>h2 ρ')
   simp[execOp,hop,Instr.alloc,h1,newVar,newRow]
 · rename_i t x hop
   split at h
   case h_2=>cases h
   rename_i cs hcs
   simp only[Option.some.injEq,Prod.mk.injEq] at h
   obtain⟨_,rfl,rfl⟩:=h
   refine Goes.value (v := .pointer (some ⟨w.heap.size,0,none⟩)) (w':=w.alloc (.cells (a.eval x).cells t)) ?_ (yfv t hrel fun ρ' ha=>zka hcs (zcb (hw ρ' ha).1 x))
   simp[execOp,hop,Instr.box,newVar,newRow]
 · rename_i t x y hop
   split at h
   case h_2=>cases h
   rename_i p' H2 hst
   simp only[Option.some.injEq,Prod.mk.injEq] at h
   obtain⟨rfl,rfl,rfl⟩:=h
   obtain⟨w',h1,h2⟩:=ye4 hst hp (fun ρ' ha=>⟨(hw ρ' ha).2,zcb (hw ρ' ha).1 x,zcb (hw ρ' ha).1 y⟩)
   refine Goes.skip (w':=w') ?_ (h2 .any undef fun _=>trivial)
   simp[execOp,hop,h1]
 · rename_i t len ps hop
   have hq:∀ρ',Agree H.length ρ ρ'→∀(j:Nat)(p:Nat × Av)(q:Nat × Value),(ps.toList.map fun p=>(p.1,evS sl p.2))[j]? = some p→(ps.map fun (i,x)=>(i,a.eval x)).toList[j]? = some q→p.1=q.1∧Rv ρ' p.2 q.2:=by
    intro ρ' ha j p q hp' hq'
    simp only[List.getElem?_map,Array.toList_map] at hp' hq'
    cases hj:ps.toList[j]? with
    | none=>simp[hj] at hp'
    | some r =>
     simp only[hj,Option.map_some,Option.some.injEq] at hp' hq'
     subst hp' hq'
     exact⟨rfl,zcb (hw ρ' ha).1 r.2⟩
   split at h
   · rename_i r0 hs0
     simp only[Option.some.injEq] at h
     subst h
     obtain⟨r,w',h1,h2⟩:=zwq hs0 hrel (qs:=ps.map fun (i,x)=>(i,a.eval x)) (by simp) (hq ρ hag)
     refine Goes.value (v:=r) (w':=w') ?_ h2
     simp only[execOp,hop,Sem.run_bind]
     rw[h1]
     rfl
   · obtain⟨r,w',h1,h2⟩:=zwp h hrel (qs:=ps.map fun (i,x)=>(i,a.eval x)) (by simp) hq
     refine Goes.value (v:=r) (w':=w') ?_ h2
     simp only[execOp,hop,Sem.run_bind]
     rw[h1]
     rfl
 · rename_i t l c hop
   obtain⟨r,w',h1,h2⟩:=ymd h hp hrel (ev l) (ev c)
   refine Goes.value (v:=r) (w':=w') ?_ h2
   simp[execOp,hop,h1]
 · rename_i t x lo hi hop
   split at h
   case h_2=>cases h
   rename_i p' av' hs
   simp only[Option.some.injEq,Prod.mk.injEq] at h
   obtain⟨rfl,rfl,rfl⟩:=h
   have opt:∀(ρ':Env),Agree H.length ρ ρ'→∀(x:Option Operand),(x.map (evS sl)=none∧x.map a.eval=none)∨∃b v,x.map (evS sl)=some b∧x.map a.eval=some v∧Rv ρ' b v:=by
    intro ρ' ha x
    cases x with
    | none=>exact .inl ⟨rfl,rfl⟩
    | some x=>exact .inr ⟨_,_,rfl,rfl,zcb (hw ρ' ha).1 x⟩
   obtain⟨r,h1,_⟩:=zsv hs hp (ev x) (opt ρ hag lo) (opt ρ hag hi) w
   refine Goes.value (v:=r) (w':=w) (by simp[execOp,hop,h1]) (zqq fun ρ' ha => ?_)
   obtain⟨r',h1',h2'⟩:=zsv hs hp (zcb (hw ρ' ha).1 x) (opt ρ' ha lo) (opt ρ' ha hi) w
   rw[h1] at h1'
   cases h1'
   exact⟨h2',(hw ρ' ha).2⟩
 · rename_i as ts hop
   split at h
   case h_2=>cases h
   rename_i x y t tx has hts
   have e1:as = #[x,y]:=by apply Array.ext';simpa using has
   have e2:ts = #[t,tx]:=by apply Array.ext';simpa using hts
   subst e1 e2
   obtain⟨r,w',h1,h2⟩:=ybk (ty:=o.type) h hp hrel (ev x) (ev y)
   refine Goes.value (v:=r) (w':=w') ?_ h2
   simp[execOp,hop,resolve,invoke,builtin,h1]
 · rename_i f as ts hop
   exact zpc hΓ hop h hp hw
 · rename_i r m as ts hop
   exact zpc hΓ hop h hp hw
 · exact yby h hp hw
def last{α:Type}(W:Nat→List (Nat × α))(S:Nat→Bool)(x:Nat):Nat→Option α
 | 0=>none
 | n+1=>match S n,(W n).lookup x with|true,some v=>some v|_,_=>last W S x n
theorem zd3{α:Type}{W:Nat→List (Nat × α)}{S S':Nat→Bool}{x:Nat}:∀{n:Nat},(∀i,i<n→∀v,(W i).lookup x=some v→S i=S' i)→last W S x n=last W S' x n
 | 0,_=>rfl
 | n+1,h=>by
  have ih:=zd3 (n:=n) (fun i hi=>h i (by omega))
  simp only[last]
  cases hv:(W n).lookup x with
  | none=>cases S n<;>cases S' n<;>exact ih
  | some v =>
   rw[h n (by omega) v hv]
   cases S' n
   · exact ih
   · rfl
theorem zjk{α:Type}{W:Nat→List (Nat × α)}{S:Nat→Bool}{x n:Nat}:∀{m:Nat},n≤m→(∀i,n≤i→i<m→∀v,(W i).lookup x=some v→S i=false)→last W S x m=last W S x n
  | 0,h,_=>by have:n=0:=by omega
              subst this;rfl
  | m+1,h,hs=>by
    by_cases e:n=m+1
    · subst e;rfl
    · have ih:=zjk (n:=n) (m:=m) (by omega) (fun i h1 h2=>hs i h1 (by omega))
      simp only[last]
      cases hv:(W m).lookup x with
      | none=>cases S m<;>exact ih
      | some v=>rw[hs m (by omega) (by omega) v hv];exact ih
theorem yhp{α:Type}{W:Nat→List (Nat × α)}{S:Nat→Bool}{x i m:Nat}{v:α}(hi:i<m)(hS:S i=true)(hv:(W i).lookup x=some v)(hs:∀j,i<j→j<m→∀u,(W j).lookup x=some u→S j=false):last W S x m=some v:=by
 rw[zjk (n:=i+1) (by omega) (fun j h1 h2=>hs j (by omega) h2)]
 simp only[last,hS,hv]
theorem zst{ρ:Env}{H HT H1 Hn:Heap}{w w':World}(hH:Rel ρ H w)(h1:Rel ρ H1 w')(hT:∀(x:Nat) (b:Blk),HT[x]? = some b→b.live=true→∃c:Blk,H[x]? = some c∧c.live=true∧(b.own=true→c.own=true))(hk:KeepsP HT H1)(hfr:Fr (owns ρ HT) w w')
 (hnew:∀(id:Nat)(blk:Blk)(L:Loc),HT.length≤id→H1[id]? = some blk→blk.live=true→ρ id=some L→owns ρ HT L.b∨w.heap.size≤L.b)
 (hn:∀(x:Nat)(b:Blk),Hn[x]? = some b→b.live=true→H1[x]? = some b∨(H[x]? = some b∧∀c:Blk,HT[x]? = some c→c.own=false)):Rel ρ Hn w':=by
 have notowned:∀(x:Nat)(b:Blk)(L:Loc),H[x]? = some b→b.live=true→(∀c:Blk,HT[x]? = some c→c.own=false)→ρ x=some L→¬ owns ρ HT L.b:=by
  rintro x b L hx hl hc hL ⟨z,d,M,hz,hdo,hM,e⟩
  obtain⟨c,g1,g2,g3⟩:=hT z d hz (za8 hdo)
  have hne:z≠x:=fun e2=>by subst e2;rw[hc d hz] at hdo;cases hdo
  exact hH.sep z x c b M L g1 hx hne g2 hl (.inl (g3 hdo)) hM hL e
 have mixed:∀(x y:Nat)(b c:Blk)(L M:Loc),H1[x]? = some b→b.live=true→(H[y]? = some c∧∀d:Blk,HT[y]? = some d→d.own=false)→c.live=true→x≠y→(b.own=true∨c.own=true)→ρ x=some L→ρ y=some M→L.b≠M.b:=by
  intro x y b c L M hx hbl hy hcl hne hoo hL hM
  rcases Nat.lt_or_ge x HT.length with q|q
  · obtain⟨f1,f2⟩:=hk.fl x _ b (List.getElem?_eq_getElem q) hx
    obtain⟨c',g1,g2,g3⟩:=hT x _ (List.getElem?_eq_getElem q) (f2 hbl)
    exact hH.sep x y c' c L M g1 hy.1 hne g2 hcl (hoo.imp (fun h=>g3 (f1 h)) (fun h=>h)) hL hM
  · have hin:=hH.inb y c M hy.1 hcl hM
    rcases hnew x b L q hx hbl hL with ho|hf
    · intro e
      exact notowned y c M hy.1 hcl hy.2 hM (e ▸ ho)
    · omega
 refine⟨fun x b hx => ?_,fun x y b c L M hx hy hne hbl hcl hoo hL hM => ?_,fun x b L hx hl hL => ?_⟩
 · cases hl:b.live with
   | false=>cases b<;>simp[Blk.live] at hl;trivial
   | true =>
    rcases hn x b hx hl with g|⟨g1,g2⟩
    · exact h1.blk x b g
    · exact zwj (fun L hL hl=>hfr.2 L.b (hH.inb x b L g1 hl hL) (notowned x b L g1 hl g2 hL)) (hH.blk x b g1)
 · rcases hn x b hx hbl with g|g<;>rcases hn y c hy hcl with k|k
   · exact h1.sep x y b c L M g k hne hbl hcl hoo hL hM
   · exact mixed x y b c L M g hbl k hcl hne hoo hL hM
   · exact fun e=>mixed y x c b M L k hcl g hbl (Ne.symm hne) hoo.symm hM hL e.symm
   · exact hH.sep x y b c L M g.1 k.1 hne hbl hcl hoo hL hM
 · rcases hn x b hx hl with g|⟨g1,_⟩
   · exact h1.inb x b L g hl hL
   · exact Nat.lt_of_lt_of_le (hH.inb x b L g1 hl hL) hfr.1
theorem zgv{ρ ρ':Env}:∀(l:List Nat),(∀i ∈ l,ρ' i=ρ i)→l.map (spot ρ')=l.map (spot ρ)
 | [],_=>rfl
 | i::l,h=>by simp only[List.map_cons];rw[zgv l (fun j hj=>h j (by simp[hj]))];unfold spot;rw[h i (by simp)]
mutual
theorem zhu{ρ ρ':Env}:∀(a:Av)(y:Value),(∀i ∈ zcr a,ρ' i=ρ i)→Rv ρ a y→Rv ρ' a y
 | .ptr id _,_,h,g=>by simp only[Rv] at g ⊢;rwa [h id (by simp[zcr])]
 | .eptr id _ _ _,_,h,g=>by simp only[Rv] at g ⊢;rwa [h id (by simp[zcr])]
 | .sl id _ _ _,_,h,g=>by simp only[Rv] at g ⊢;rwa [h id (by simp[zcr])]
 | .agg cs,y,h,g=>by simp only[Rv] at g ⊢;obtain⟨vs,h1,h2⟩:=g;exact⟨vs,h1,zdm cs vs (by simpa[zcr] using h) h2⟩
 | .tup cs,y,h,g=>by simp only[Rv] at g ⊢;obtain⟨vs,h1,h2⟩:=g;exact⟨vs,h1,zdm cs vs (by simpa[zcr] using h) h2⟩
 | .fn _ cs,y,h,g=>by simp only[Rv] at g ⊢;obtain⟨vs,h1,h2⟩:=g;exact⟨vs,h1,zdm cs vs (by simpa[zcr] using h) h2⟩
 | .ifc _ x,y,h,g=>by simp only[Rv] at g ⊢;obtain⟨u,h1,h2⟩:=g;exact⟨u,h1,zhu x u (by simpa[zcr] using h) h2⟩
 | .any,_,_,_=>trivial
 | .q _,_,_,g=>g
 | .zp,_,_,g=>g
 | .opq ids X,y,h,g=>by
  simp only[Rv] at g ⊢
  rwa [zgv ids (fun i hi=>h i (by simpa[zcr] using hi))]
 | .tt,_,_,g=>g
 | .ff,_,_,g=>g
 | .v _,_,_,g=>g
theorem zdm{ρ ρ':Env}:∀(as:List Av)(ys:List Value),(∀i ∈ zof as,ρ' i=ρ i)→RvL ρ as ys→RvL ρ' as ys
 | [],[],_,_=>trivial
 | [],_::_,_,g=>g
 | _::_,[],_,g=>g
 | a::as,y::ys,h,g=>by
  simp only[RvL] at g ⊢
  exact⟨zhu a y (fun i hi=>h i (by simp[zof,hi])) g.1,zdm as ys (fun i hi=>h i (by simp[zof,hi])) g.2⟩
end
theorem yl9{ρ ρ':Env}{w:World}{id:Nat}{b:Blk}(h0:b.live=true→ρ' id=ρ id)(h:∀i ∈ yeb b,ρ' i=ρ i)(g:Rb ρ w id b):Rb ρ' w id b:=by
 cases b with
 | dead=>trivial
 | fix cells own ty =>
  obtain⟨L,vs,h1,h2,h3,h4,h5⟩:=g
  exact⟨L,vs,by rw[h0 rfl];exact h1,zdm cells vs (by simpa[yeb] using h) h2,h3,h4,h5⟩
 | arr sh xs own =>
  simp only[Rb] at g ⊢
  rwa [h0 rfl]
 | ob own ids s R =>
  simp only[Rb] at g ⊢
  have e:spot ρ' id=spot ρ id:=by unfold spot;rw[h0 rfl]
  rw[zgv ids (fun i hi=>h i (by simpa[yeb] using hi)),h0 rfl,e]
  exact g
theorem zl4{ρ ρ':Env}{H:Heap}{w:World}(h:∀(id:Nat) (b:Blk),H[id]? = some b→b.live=true→ρ' id=ρ id∧∀i ∈ yeb b,ρ' i=ρ i)(g:Rel ρ H w):Rel ρ' H w:=by
 refine⟨fun i b hi => ?_,fun i j b c L M hi hj hne hbl hcl hoo hL hM => ?_,fun i b L hi hl hL => ?_⟩
 · cases hl:b.live with
   | false=>cases b<;>simp[Blk.live] at hl;trivial
   | true=>exact yl9 (fun _=>(h i b hi hl).1) (h i b hi hl).2 (g.blk i b hi)
 · rw[(h i b hi hbl).1] at hL
   rw[(h j c hj hcl).1] at hM
   exact g.sep i j b c L M hi hj hne hbl hcl hoo hL hM
 · rw[(h i b hi hl).1] at hL
   exact g.inb i b L hi hl hL
abbrev Grd:=Nat × Bool
structure Rec where
 g:Option Grd
 w:Bool
 off:Bool
 b:Option Bool
 lit:Option Bool
 dst:Option Tmp
 val:Av
 p:Option Prop
 rd:List Nat
 F:List Nat
 wr:List (Nat × Blk)
 n:Nat
 nw:List Blk
abbrev Recs:=List Rec
abbrev SC:=Av × Option Nat
abbrev HC:=Blk × Option Nat
def zha:Av→Option Bool
 | .tt=>some true
 | .ff=>some false
 | .v (.bool d)=>some d
 | _=>none
def eqb(d:Bool):Bool→Bool
 | true=>d
 | false => !d
def andb:Bool→Bool→Bool
 | true,y=>y
 | false,_=>false
def ze8(R:Recs):Nat→Option Grd→List Grd
 | 0,_=>[]
 | _,none=>[]
 | n+1,some g=>g::ze8 R n (match R[g.1]? with|some r=>r.g|none=>none)
def wOf(R:Recs):Option Grd→Option Bool
 | none=>some true
 | some (j,b)=>match R[j]? with|some r=>(match r.b with|some d=>some (andb r.w (eqb d b))|none=>none)|none=>none
def ynr(R:Recs):Option Grd→Bool
 | none=>false
 | some (j,b)=>match R[j]? with|some r=>r.off||(r.lit==some (!b))|none=>false
def zle(C:List Grd)(R:Recs):Option Nat→Bool
 | none=>true
 | some m=>match R[m]? with|some r=>(match r.g with|some g=>C.contains g|none=>true)|none=>false
def zg6(C:List Grd)(R:Recs)(ts:List Nat):Nat→List SC→List Av
 | _,[]=>[]
 | k,c::cs=>(if ts.contains k&&zle C R c.2 then c.1 else .any)::zg6 C R ts (k+1) cs
def zoj(C:List Grd)(R:Recs)(F:List Nat):Nat→List HC→Heap
 | _,[]=>[]
 | k,c::cs=>(if F.contains k&&zle C R c.2 then c.1 else .dead)::zoj C R F (k+1) cs
def zg3:List Operand→List Nat
 | []=>[]
 | .tmp t::xs=>t::zg3 xs
 | _::xs=>zg3 xs
def znp{α:Type}(l:List (α × Option Nat))(tag:Option Nat):List (Nat × α)→List (α × Option Nat)
 | []=>l
 | (x,a)::ws=>(znp l tag ws).set x (a,tag)
def yqn(C:List Grd)(R:Recs)(o:Oper)(sl:List Av)(H:List HC):List Nat :=
 let ids:=zof (o.op.operands.toList.map (evS sl))
 match o.op with
 | .call { callee := .value f,.. }=>reach 200 (H.map fun c=>if zle C R c.2 then c.1 else .dead) [] (zcr (evS sl f)++ids)
 | .call { callee := .invoke _ _,.. }=>reach 200 (H.map fun c=>if zle C R c.2 then c.1 else .dead) [] ids
 | .store _ x _=>zcr (evS sl x)
 | .move _=>[]
 | .assign _=>[]
 | .build _ _=>[]
 | .extract _ _=>[]
 | _=>ids
structure RS where
 sl:List SC
 H:List HC
 R:Recs
def zxw(C:List Grd)(R:Recs)(sl:List SC)(c a b:Operand):Option Av :=
 let ts:=zg3 [c,a,b]
 let under(d:Bool):List Grd:=match c with | .tmp t=>(match (sl.getD t (.any,none)).2 with|some k=>(k,d)::C|none=>C)|_=>C
 match evS (zg6 C R ts 0 sl) c with
 | .tt=>some (evS (zg6 (under true) R ts 0 sl) a)
 | .ff=>some (evS (zg6 (under false) R ts 0 sl) b)
 | .v (.bool d)=>some (mrg d (evS (zg6 (under true) R ts 0 sl) a) (evS (zg6 (under false) R ts 0 sl) b))
 | _=>none
def zs9(P:Program)(Γ:Nat→Sums)(C:List Grd)(o:Oper)(s:RS):Option (Av × Option Prop × List Nat × List (Nat × Blk) × List Blk) :=
 match o.op with
 | .pick c a b=>match zxw C s.R s.sl c a b with|some v=>some (v,none,[],[],[])|none=>none
 | _ =>
  let sl:=zg6 C s.R (zg3 (o.op.operands.toList)) 0 s.sl
  let F:=yqn C s.R o sl s.H
  let HT:=zoj C s.R F 0 s.H
  if (zof sl).all (fun x=>decide (x<s.H.length))&&HT.all (fun b=>(yeb b).all fun x=>decide (x<s.H.length)) then
   match estep P (Γ s.R.length) o sl (HT.map roB) with
   | some (p,v,H1)=>some (v,p,F,[],H1.drop s.H.length)
   | none =>
    if o.guard.isNone then
     match estep P (Γ s.R.length) o sl HT with
     | some (p,v,H1)=>some (v,p,F,(F.filter (· < s.H.length)).map (fun x=>(x,H1.getD x .dead)),H1.drop s.H.length)
     | none=>none
    else none
  else none
def ytc(g:Option Grd)(w:Bool):Option Prop→Option Prop
 | none=>none
 | some p=>match g with|none=>some p|some _=>some (w=true→p)
def zms(ops:List Oper):Option Grd→List Nat
 | none=>[]
 | some (j,_)=>match ops[j]? with|some o=>o.dst.toList|none=>[]
def zxe(ops:List Oper)(sl:List SC):Option Grd→Bool
 | none=>true
 | some (j,_)=>match ops[j]? with|some o=>(match o.dst with|some d=>(match sl[d]? with|some c=>c.2==some j|none=>false)|none=>false)|none=>false
def zlc(P:Program)(Γ:Nat→Sums)(ops:List Oper)(o:Oper)(s:RS):Option Rec :=
 let C:=ze8 s.R 50 o.guard
 let rd:=zms ops o.guard++zg3 o.op.operands.toList
 if zxe ops s.sl o.guard then
  match wOf s.R o.guard with
  | some w =>
   if ynr s.R o.guard then some { g:=o.guard,w:=w,off:=true,b:=some false,lit:=none,dst:=o.dst,val := .any,p:=none,rd:=rd,F:=[],wr:=[],n:=s.H.length,nw:=[] }
   else match zs9 P Γ C o s with
    | some (v,p,F,wr,nw)=>some { g:=o.guard,w:=w,off:=false,b:=zha v,lit:=zji v,dst:=o.dst,val:=v,p:=ytc o.guard w p,rd:=rd,F:=F,wr:=wr,n:=s.H.length,nw:=nw }
    | none=>none
  | none=>none
 else none
def RS.add(s:RS)(r:Rec):RS :=
 let tag:=some s.R.length
 { sl:=match r.dst with|some d=>s.sl.set d (r.val,tag)|none=>s.sl,
   H:=znp s.H tag r.wr++r.nw.map (·,tag),
   R:=s.R++[r] }
def zx6(P:Program)(Γ:Nat→Sums)(all:List Oper):List Oper→RS→Option RS
 | [],s=>some s
 | o::ops,s=>match zlc P Γ all o s with|some r=>zx6 P Γ all ops (s.add r)|none=>none
def zep:Recs→Option Prop
 | []=>none
 | r::rs=>match r.p,zep rs with|none,q=>q|some p,none=>some p|some p,some q=>some (p∧q)
def yre(R:Recs)(l:List SC):List Av:=l.map fun c=>if zle [] R c.2 then c.1 else .any
def ynu(R:Recs)(l:List HC):Heap:=l.map fun c=>if zle [] R c.2 then c.1 else .dead
def zg8:List Oper→List Nat→Option (List Nat)
 | [],acc=>some acc
 | o::ops,acc =>
  if o.after.toList.all (fun e => !Region.binds .any e||decide (e.on<acc.length)) then
   zg8 ops (acc++[(o.after.toList.filter (Region.binds .any)).foldl (fun m e=>m ||| (acc.getD e.on 0) ||| (1 <<< e.on)) 0])
  else none
def ylx(r:Rec):List Nat:=r.wr.map (·.1)++(List.range r.nw.length).map (r.n + ·)
def zi7(x y:Rec):Bool :=
 (ylx x).all (fun i => !(y.F.contains i) && !((ylx y).contains i))&&(ylx y).all (fun i => !(x.F.contains i)) &&
 x.dst.toList.all (fun d => !(y.rd.contains d) && !(y.dst.toList.contains d))&&y.dst.toList.all (fun d => !(x.rd.contains d))
def zjg(r:Rec):List Nat:=zcr r.val++r.wr.map (·.1)++r.wr.flatMap (fun x=>yeb x.2)++r.nw.flatMap yeb
def zpm:Recs→Nat→Nat→Option Nat
 | [],_,_=>none
 | r::rs,k,x=>if r.n≤x∧x<r.n+r.nw.length then some k else zpm rs (k+1) x
def yrr(R:Recs)(n0:Nat)(anc:Nat)(r:Rec):Bool :=
 (zjg r).all fun x=>decide (x<n0)||(decide (r.n≤x)&&decide (x<r.n+r.nw.length))||(match zpm R 0 x with|some k=>decide (x<r.n)&&anc.testBit k|none=>false)
def zni(R:Recs):Nat→Recs→List Nat→Bool
 | _,[],_=>true
 | j,y::ys,anc::ancs=>((R.take j).zipIdx.all fun (x,i)=>anc.testBit i||zi7 x y)&&zni R (j+1) ys ancs
 | _,_::_,[]=>false
def zic(ops:List Oper)(R:Recs)(n0:Nat):Bool :=
 match zg8 ops [] with
 | some ancs=>zni R 0 R ancs&&((R.zip ancs).all fun (r,a)=>yrr R n0 a r)
 | none=>false
def ya9(R:Recs):Bool:=R.all fun r=>(zjg r).all fun x=>decide (x<r.n+r.nw.length)
def ziw(P:Program)(Γ:Nat→Sums)(ops:List Oper)(draw:Bool)(sl:List Av)(H:Heap):Option (Option Prop × List Av × Heap) :=
 match zx6 P Γ ops ops { sl:=sl.map (·,none),H:=H.map (·,none),R:=[] } with
 | some s=>if (if draw then zic ops s.R H.length else ya9 s.R) then some (zep s.R,yre s.R s.sl,ynu s.R s.H) else none
 | none=>none
def sw(R:Recs)(i:Nat):List (Nat × SC) :=
 match R[i]? with
 | some r=>match r.dst with|some d=>[(d,(r.val,some i))]|none=>[]
 | none=>[]
def hw(R:Recs)(i:Nat):List (Nat × HC) :=
 match R[i]? with
 | some r=>r.wr.map (fun x=>(x.1,(x.2,some i)))++(r.nw.zipIdx r.n).map (fun bk=>(bk.2,(bk.1,some i)))
 | none=>[]
def every:Nat→Bool:=fun _=>true
theorem zjj{α:Type}{W W':Nat→List (Nat × α)}{S:Nat→Bool}{x:Nat}:∀{n:Nat},(∀i,i<n→W i=W' i)→last W S x n=last W' S x n
 | 0,_=>rfl
 | n+1,h=>by
  have ih:=zjj (S:=S) (x:=x) (n:=n) (fun i hi=>h i (by omega))
  simp only[last,h n (by omega),ih]
theorem zuj{R Q:Recs}{i:Nat}(h:i<R.length):sw (R++Q) i=sw R i:=by unfold sw;rw[List.getElem?_append_left h]
theorem zmv{R Q:Recs}{i:Nat}(h:i<R.length):hw (R++Q) i=hw R i:=by unfold hw;rw[List.getElem?_append_left h]
theorem zb8{α:Type}(l:List (α × Option Nat))(tag:Option Nat):∀ws:List (Nat × α),(znp l tag ws).length=l.length
 | []=>rfl
 | (x,a)::ws=>by simp[znp,zb8 l tag ws]
theorem zpz{α:Type}(l:List (α × Option Nat))(tag:Option Nat)(x:Nat)(hx:x<l.length):∀ws:List (Nat × α),(znp l tag ws)[x]? = some (((ws.map fun y=>(y.1,(y.2,tag))).lookup x).getD (l[x]'hx))
 | []=>by simp[znp]
 | (y,a)::ws=>by
  simp only[znp,List.map_cons,List.lookup_cons]
  by_cases e:x=y
  · subst e
    rw[List.getElem?_set_self (by rw[zb8];exact hx)]
    simp
  · rw[List.getElem?_set_ne (fun e2=>e e2.symm),zpz l tag x hx ws]
    have:(x==y)=false:=by simpa using e
    rw[this]
theorem zgo{α:Type}(x:Nat):∀(l m:List (Nat × α)),(l++m).lookup x=(l.lookup x).or (m.lookup x)
 | [],m=>by simp
 | (y,a)::l,m=>by
  simp only[List.cons_append,List.lookup_cons]
  cases x==y
  · exact zgo x l m
  · rfl
theorem zm7{α:Type}{x:Nat}:∀{l:List (Nat × α)},(∀y ∈ l,y.1≠x)→l.lookup x=none
 | [],_=>rfl
 | (y,a)::l,h=>by
  simp only[List.lookup_cons]
  have:(x==y)=false:=by simpa using Ne.symm (h (y,a) (by simp))
  rw[this]
  exact zm7 (fun z hz=>h z (by simp[hz]))
theorem zd4{α:Type}{x:Nat}{v:α}:∀{l:List (Nat × α)},l.lookup x=some v→(x,v) ∈ l
 | [],h=>by simp at h
 | (y,a)::l,h=>by
  simp only[List.lookup_cons] at h
  cases e:x==y
  · rw[e] at h;exact List.mem_cons_of_mem _ (zd4 h)
  · rw[e] at h
    simp only[Option.some.injEq] at h
    subst h
    have:x=y:=by simpa using e
    subst this
    exact List.mem_cons_self
theorem zkk{α β:Type}(f:α→β)(x:Nat):∀(l:List α)(n:Nat),((l.zipIdx n).map (fun bk=>(bk.2,f bk.1))).lookup x=if n≤x then (l[x-n]?).map f else none
 | [],n=>by simp
 | a::l,n=>by
  simp only[List.zipIdx_cons,List.map_cons,List.lookup_cons]
  by_cases e:x=n
  · subst e;simp
  · have:(x==n)=false:=by simpa using e
    rw[this]
    simp only
    rw[zkk f x l (n+1)]
    by_cases g:n+1≤x
    · rw[if_pos g,if_pos (by omega),show x-n=(x-(n+1))+1 by omega]
      simp
    · rw[if_neg g,if_neg (by omega)]
structure StOk (sl0:List Av) (H0:Heap) (s:RS):Prop where
 len:s.sl.length=sl0.length
 slot:∀(t:Nat)(a:Av),sl0[t]? = some a→s.sl[t]? = some ((last (sw s.R) every t s.R.length).getD (a,none))
 big:H0.length≤s.H.length
 blk:∀x,x<s.H.length→s.H[x]? = some ((last (hw s.R) every x s.R.length).getD (H0.getD x .dead,none))
 beyond:∀x i,s.H.length≤x→i<s.R.length→(hw s.R i).lookup x=none
theorem StOk.start(sl0:List Av)(H0:Heap):StOk sl0 H0 { sl:=sl0.map (·,none),H:=H0.map (·,none),R:=[] } where
 len:=by simp
 slot t a h:=by simp[last,h]
 big:=by simp
 blk x hx:=by
  have hx':x<H0.length:=by simpa using hx
  simp[last,List.getD_eq_getElem?_getD,List.getElem?_eq_getElem hx']
 beyond x i _ hi:=by simp at hi
structure RecFits (s:RS) (r:Rec):Prop where
 n:r.n=s.H.length
 wr:∀y ∈ r.wr,y.1<s.H.length
theorem StOk.add{sl0:List Av}{H0:Heap}{s:RS}{r:Rec}(h:StOk sl0 H0 s)(hr:RecFits s r):StOk sl0 H0 (s.add r):=by
 have e1:∀t,last (sw (s.R++[r])) every t s.R.length=last (sw s.R) every t s.R.length:=fun t=>zjj (fun i hi=>zuj hi)
 have e2:∀t,last (hw (s.R++[r])) every t s.R.length=last (hw s.R) every t s.R.length:=fun t=>zjj (fun i hi=>zmv hi)
 have g:(s.R++[r])[s.R.length]? = some r:=by simp
 have hl:(s.add r).H.length=s.H.length+r.nw.length:=by simp[RS.add,zb8]
 have hwx:∀x,(hw (s.R++[r]) s.R.length).lookup x=((r.wr.map fun y=>(y.1,(y.2,some s.R.length))).lookup x).or (if s.H.length≤x then (r.nw[x-s.H.length]?).map (fun b=>(b,some s.R.length)) else none):=by
  intro x
  unfold hw
  rw[g]
  simp only
  rw[zgo,zkk (fun b=>(b,some s.R.length)) x r.nw r.n,hr.n]
 have hwrn:∀x,s.H.length≤x→(r.wr.map fun y=>(y.1,(y.2,some s.R.length))).lookup x=none:=by
  intro x hx
  refine zm7 fun y hy => ?_
  obtain⟨z,hz,rfl⟩:=List.mem_map.1 hy
  have:=hr.wr z hz
  simp only
  omega
 refine⟨?_,fun t a ha => ?_, ?_,fun x hx => ?_,fun x i hx hi => ?_⟩
 · unfold RS.add
   cases r.dst with
   | none=>exact h.len
   | some d=>simpa using h.len
 · have hs:=h.slot t a ha
   show (RS.add s r).sl[t]? = some ((last (sw (s.R++[r])) every t (s.R++[r]).length).getD (a,none))
   simp only[List.length_append,List.length_singleton,last,every]
   have hsw:sw (s.R++[r]) s.R.length=match r.dst with|some d=>[(d,(r.val,some s.R.length))]|none=>[]:=by unfold sw;rw[g]
   rw[hsw,e1 t]
   unfold RS.add
   cases hd:r.dst with
   | none=>simpa using hs
   | some d =>
    simp only[List.lookup_cons,List.lookup_nil]
    by_cases e:t=d
    · subst e
      have hlt:t<s.sl.length:=by
       rcases Nat.lt_or_ge t s.sl.length with q|q
       · exact q
       · simp[List.getElem?_eq_none q] at hs
      rw[List.getElem?_set_self hlt]
      simp
    · have:(t==d)=false:=by simpa using e
      rw[this,List.getElem?_set_ne (fun e2=>e e2.symm)]
      exact hs
 · rw[hl];have:=h.big;omega
 · show (RS.add s r).H[x]? = some ((last (hw (s.R++[r])) every x (s.R++[r]).length).getD (H0.getD x .dead,none))
   simp only[List.length_append,List.length_singleton,last,every]
   rw[hwx x,e2 x]
   simp only[RS.add]
   rcases Nat.lt_or_ge x s.H.length with q|q
   · rw[List.getElem?_append_left (by rw[zb8];exact q),zpz _ _ _ q,if_neg (by omega)]
     have hb:=h.blk x q
     rw[List.getElem?_eq_getElem q] at hb
     simp only[Option.some.injEq] at hb
     rw[hb]
     cases hlk:(r.wr.map fun y=>(y.1,(y.2,some s.R.length))).lookup x with
     | none=>rfl
     | some v=>rfl
   · rw[hwrn x q,if_pos q,List.getElem?_append_right (by rw[zb8];exact q),zb8,List.getElem?_map]
     have hx':x-s.H.length<r.nw.length:=by rw[hl] at hx;omega
     rw[List.getElem?_eq_getElem hx']
     rfl
 · have hi':i<s.R.length+1:=by simpa[RS.add] using hi
   show (hw (s.R++[r]) i).lookup x=none
   rw[hl] at hx
   rcases Nat.lt_or_ge i s.R.length with q|q
   · rw[zmv q];exact h.beyond x i (by omega) q
   · have:i=s.R.length:=by omega
     subst this
     rw[hwx x,hwrn x (by omega),if_pos (by omega),List.getElem?_eq_none (by omega)]
     rfl
structure RecOk (P:Program) (Γ:Nat→Sums) (all:List Oper) (o:Oper) (s:RS) (r:Rec):Prop where
 fits:RecFits s r
 g:r.g=o.guard
 dst:r.dst=o.dst
 rd:r.rd=zms all o.guard++zg3 o.op.operands.toList
 guard:zxe all s.sl o.guard=true
 w:wOf s.R o.guard=some r.w
 how:(r.off=true∧ynr s.R o.guard=true∧r.b=some false∧r.lit=none∧r.val = .any∧r.p=none∧r.F=[]∧r.wr=[]∧r.nw=[]) ∨
  (r.off=false∧∃p wr,zs9 P Γ (ze8 s.R 50 o.guard) o s=some (r.val,p,r.F,wr,r.nw)∧r.wr=wr∧r.b=zha r.val∧r.lit=zji r.val∧r.p=ytc o.guard r.w p)
theorem yf2{P:Program}{Γ:Nat→Sums}{C:List Grd}{o:Oper}{s:RS}{v:Av}{p:Option Prop}{F:List Nat}{wr:List (Nat × Blk)}{nw:List Blk}(h:zs9 P Γ C o s=some (v,p,F,wr,nw)):∀y ∈ wr,y.1<s.H.length:=by
 unfold zs9 at h
 split at h
 · split at h
   · simp only[Option.some.injEq,Prod.mk.injEq] at h
     obtain⟨_,_,_,rfl,_⟩:=h
     intro y hy
     cases hy
   · cases h
 · simp only at h
   split at h
   case isFalse=>cases h
   split at h
   · simp only[Option.some.injEq,Prod.mk.injEq] at h
     obtain⟨_,_,_,rfl,_⟩:=h
     intro y hy
     cases hy
   · split at h
     · split at h
       · simp only[Option.some.injEq,Prod.mk.injEq] at h
         obtain⟨_,_,_,rfl,_⟩:=h
         intro y hy
         obtain⟨z,hz,rfl⟩:=List.mem_map.1 hy
         simpa using (List.mem_filter.1 hz).2
       · cases h
     · cases h
theorem yav{P:Program}{Γ:Nat→Sums}{all:List Oper}{o:Oper}{s:RS}{r:Rec}(h:zlc P Γ all o s=some r):RecOk P Γ all o s r:=by
 unfold zlc at h
 simp only at h
 split at h
 case isFalse=>cases h
 rename_i hg
 split at h
 case h_2=>cases h
 rename_i w hw
 split at h
 · rename_i hoff
   simp only[Option.some.injEq] at h
   subst h
   exact⟨⟨rfl,fun y hy=>by cases hy⟩,rfl,rfl,rfl,hg,hw,.inl ⟨rfl,hoff,rfl,rfl,rfl,rfl,rfl,rfl,rfl⟩⟩
 · split at h
   case h_2=>cases h
   rename_i v p F wr nw he
   simp only[Option.some.injEq] at h
   subst h
   exact⟨⟨rfl,yf2 he⟩,rfl,rfl,rfl,hg,hw,.inr ⟨rfl,p,wr,he,rfl,rfl,rfl,rfl⟩⟩
theorem yay{P:Program}{Γ:Nat→Sums}{all:List Oper}{sl0:List Av}{H0:Heap}:∀{ops:List Oper}{s sf:RS},zx6 P Γ all ops s=some sf→StOk sl0 H0 s →
 StOk sl0 H0 sf∧∃Q,sf.R=s.R++Q∧Q.length=ops.length∧s.H.length≤sf.H.length ∧
  ∀(i:Nat)(o:Oper),ops[i]? = some o→∃si r,StOk sl0 H0 si∧si.R=s.R++Q.take i∧RecOk P Γ all o si r∧Q[i]? = some r∧s.H.length≤si.H.length∧si.H.length+r.nw.length≤sf.H.length
 | [],s,sf,h,hs=>by
  simp only[zx6,Option.some.injEq] at h
  subst h
  exact⟨hs,[],by simp,rfl,Nat.le_refl _,fun i o ho=>by simp at ho⟩
 | o::ops,s,sf,h,hs=>by
  simp only[zx6] at h
  cases hr:zlc P Γ all o s with
  | none=>simp[hr] at h
  | some r =>
   simp only[hr] at h
   have hok:=yav hr
   obtain⟨h1,Q,h2,h3,h4,h5⟩:=yay h (hs.add hok.fits)
   have hl:(s.add r).H.length=s.H.length+r.nw.length:=by simp[RS.add,zb8]
   have hR:(s.add r).R=s.R++[r]:=rfl
   refine⟨h1,r::Q,by rw[h2,hR];simp,by simp[h3],by omega,fun i o' ho => ?_⟩
   cases i with
   | zero =>
    simp only[List.getElem?_cons_zero,Option.some.injEq] at ho
    subst ho
    exact⟨s,r,hs,by simp,hok,rfl,Nat.le_refl _,by omega⟩
   | succ i =>
    obtain⟨si,ri,g1,g2,g3,g4,g5,g6⟩:=h5 i o' (by simpa using ho)
    refine⟨si,ri,g1, ?_,g3,by simpa using g4,by omega,g6⟩
    rw[g2,hR]
    simp
def Wf(R:Recs)(m:Nat):Bool:=match R[m]? with|some r=>r.w|none=>false
theorem zp7{R Q:Recs}{g:Option Grd}{w:Bool}(h:wOf R g=some w):wOf (R++Q) g=some w:=by
 unfold wOf at *
 split at h
 · exact h
 · rename_i j b
   split at h
   · rename_i r hr
     have hlt:j<R.length:=by
      rcases Nat.lt_or_ge j R.length with q|q
      · exact q
      · simp[List.getElem?_eq_none q] at hr
     simp only[List.getElem?_append_left hlt,hr]
     exact h
   · cases h
theorem yfd{x y:Bool}(h:andb x y=true):x=true∧y=true:=by cases x<;>cases y<;>simp[andb] at h ⊢
theorem zmd{R:Recs}(hR:∀(m:Nat) (r:Rec),R[m]? = some r→wOf R r.g=some r.w):∀(n:Nat)(g0:Option Grd),wOf R g0=some true→∀g ∈ ze8 R n g0,wOf R (some g)=some true
 | 0,_,_,g,hg=>by simp[ze8] at hg
 | n+1,none,_,g,hg=>by simp[ze8] at hg
 | n+1,some g0,h,g,hg=>by
  simp only[ze8,List.mem_cons] at hg
  rcases hg with rfl|hg
  · exact h
  · refine zmd hR n _ ?_ g hg
    obtain⟨j,b⟩:=g0
    simp only[wOf] at h
    cases hj:R[j]? with
    | none=>simp[hj] at h
    | some r =>
     simp only[hj] at h ⊢
     cases hb:r.b with
     | none=>simp[hb] at h
     | some d =>
      simp only[hb,Option.some.injEq] at h
      rw[hR j r hj,(yfd h).1]
theorem zjx{R:Recs}(hR:∀(m:Nat) (r:Rec),R[m]? = some r→wOf R r.g=some r.w){C:List Grd}(hC:∀g ∈ C,wOf R (some g)=some true){t:Option Nat}(h:zle C R t=true):∀m,t=some m→Wf R m=true:=by
 rintro m rfl
 simp only[zle] at h
 unfold Wf
 cases hm:R[m]? with
 | none=>simp[hm] at h
 | some r =>
  simp only[hm] at h ⊢
  have hw:=hR m r hm
  cases hg:r.g with
  | none=>rw[hg] at hw;simpa[wOf] using hw.symm
  | some g =>
   simp only[hg] at h
   have:=hC g (by simpa using h)
   rw[hg,this] at hw
   simpa using hw.symm
def zqn(R:Recs)(sl0:List Av)(S:Nat→Bool)(t:Nat):SC:=(last (sw R) S t R.length).getD (sl0.getD t .any,none)
def ybu(R:Recs)(H0:Heap)(S:Nat→Bool)(x:Nat):HC:=(last (hw R) S x R.length).getD (H0.getD x .dead,none)
def yi0(R:Recs)(c:SC):Av:=match c.2 with|none=>c.1|some m=>match Wf R m with|true=>c.1|false => .any
def yrs(R:Recs)(c:HC):Blk:=match c.2 with|none=>c.1|some m=>match Wf R m with|true=>c.1|false => .dead
def slS(R:Recs)(sl0:List Av)(S:Nat→Bool):List Av:=(List.range sl0.length).map fun t=>yi0 R (zqn R sl0 S t)
def HS(R:Recs)(H0:Heap)(N:Nat)(S:Nat→Bool):Heap:=(List.range N).map fun x=>yrs R (ybu R H0 S x)
def cre(R:Recs)(n0:Nat)(S:Nat→Bool)(x:Nat):Prop:=x<n0∨∃i r,S i=true∧R[i]? = some r∧r.n≤x∧x<r.n+r.nw.length
def zod(S:Nat→Bool)(i:Nat):Nat→Bool:=fun j=>if j=i then true else S j
structure InvS (B:Base) (R:Recs) (sl0:List Av) (H0:Heap) (N:Nat) (S:Nat→Bool) (a:Act) (w:World):Prop where
 defers:a.defers=B.ds
 fr:Fr (owns B.ρ B.H) B.w w
 keeps:KeepsP B.H (HS R H0 N S)
 und:∀t m v,t<sl0.length→(zqn R sl0 S t).2=some m→Wf R m=false→a.tmps.toList[t]? = some v→v=undef
 env:∃ρ,Agree B.H.length B.ρ ρ∧(∀ρ',(∀x,cre R H0.length S x→ρ' x=ρ x)→RvL ρ' (slS R sl0 S) a.tmps.toList∧Rel ρ' (HS R H0 N S) w) ∧
  ∀id blk L,B.H.length≤id→(HS R H0 N S)[id]? = some blk→blk.live=true→ρ id=some L→owns B.ρ B.H L.b∨B.w.heap.size≤L.b
theorem zl0{R:Recs}{H0:Heap}{N:Nat}{S:Nat→Bool}{x:Nat}{b:Blk}:(HS R H0 N S)[x]? = some b↔x<N∧b=yrs R (ybu R H0 S x):=by
 unfold HS
 rw[List.getElem?_map]
 rcases Nat.lt_or_ge x N with q|q
 · rw[List.getElem?_range q]
   simp only[Option.map_some,Option.some.injEq]
   exact⟨fun h=>⟨q,h.symm⟩,fun h=>h.2.symm⟩
 · rw[List.getElem?_eq_none (by simpa using q)]
   simp only[Option.map_none]
   exact⟨fun h=>(by cases h),fun h=>(by omega)⟩
theorem ziz{R:Recs}{sl0:List Av}{S:Nat→Bool}{t:Nat}{b:Av}:(slS R sl0 S)[t]? = some b↔t<sl0.length∧b=yi0 R (zqn R sl0 S t):=by
 unfold slS
 rw[List.getElem?_map]
 rcases Nat.lt_or_ge t sl0.length with q|q
 · rw[List.getElem?_range q]
   simp only[Option.map_some,Option.some.injEq]
   exact⟨fun h=>⟨q,h.symm⟩,fun h=>h.2.symm⟩
 · rw[List.getElem?_eq_none (by simpa using q)]
   simp only[Option.map_none]
   exact⟨fun h=>(by cases h),fun h=>(by omega)⟩
def Pairs(R:Recs)(dep:Nat→Nat→Prop):Prop:=∀i j x y,i<j→R[i]? = some x→R[j]? = some y→dep i j∨zi7 x y=true
theorem zp2{R:Recs}{i t:Nat}{v:SC}(h:(sw R i).lookup t=some v):∃r,R[i]? = some r∧r.dst=some t∧v=(r.val,some i):=by
 unfold sw at h
 split at h
 · rename_i r hr
   split at h
   · rename_i d hd
     simp only[List.lookup_cons,List.lookup_nil] at h
     split at h
     · rename_i e
       simp only[Option.some.injEq] at h
       have:t=d:=by simpa using e
       subst this
       exact⟨r,hr,hd,h.symm⟩
     · cases h
   · simp at h
 · simp at h
theorem zpi{R:Recs}{i x:Nat}{v:HC}(h:(hw R i).lookup x=some v):∃r,R[i]? = some r∧x ∈ ylx r∧v.2=some i:=by
 unfold hw at h
 split at h
 · rename_i r hr
   have:=zd4 h
   simp only[List.mem_append,List.mem_map] at this
   refine⟨r,hr, ?_⟩
   unfold ylx
   rcases this with ⟨y,hy,e⟩|⟨y,hy,e⟩
   · simp only[Prod.mk.injEq] at e
     obtain⟨rfl,rfl⟩:=e
     exact⟨by simp only[List.mem_append,List.mem_map];exact .inl ⟨y,hy,rfl⟩,rfl⟩
   · simp only[Prod.mk.injEq] at e
     obtain⟨rfl,rfl⟩:=e
     obtain⟨h1,h2,_⟩:=List.mem_zipIdx hy
     exact⟨by simp only[List.mem_append,List.mem_map,List.mem_range];exact .inr ⟨y.2-r.n,by omega,by omega⟩,rfl⟩
 · simp at h
theorem yix{R:Recs}{dep:Nat→Nat→Prop}(hp:Pairs R dep){S:Nat→Bool}{i:Nat}{r:Rec}(hi:R[i]? = some r)(hb:∀j,dep j i→S j=true)(ha:∀j,dep i j→S j=false)(hS:S i=false){t:Nat}(ht:t ∈ r.rd) :
 last (sw R) S t R.length=last (sw R) every t i:=by
 have hil:i<R.length:=by
  rcases Nat.lt_or_ge i R.length with q|q
  · exact q
  · simp[List.getElem?_eq_none q] at hi
 rw[zjk (n:=i) (by omega) (fun j h1 h2 v hv => ?_)]
 · refine zd3 (fun j hj v hv => ?_)
   obtain⟨y,hy,hd,_⟩:=zp2 hv
   rcases hp j i y r hj hy hi with g|g
   · rw[hb j g];rfl
   · simp only[zi7,Bool.and_eq_true,List.all_eq_true] at g
     have:=(g.1.2) t (by simp[hd])
     have h3:=this.1
     simp[List.contains_eq_mem,ht] at h3
 · rcases Nat.lt_or_ge i j with q|q
   · obtain⟨y,hy,hd,_⟩:=zp2 hv
     rcases hp i j r y q hi hy with g|g
     · exact ha j g
     · simp only[zi7,Bool.and_eq_true,List.all_eq_true] at g
       have:=g.2 t (by simp[hd])
       simp[List.contains_eq_mem,ht] at this
   · have:j=i:=by omega
     subst this
     exact hS
theorem yn7{R:Recs}{dep:Nat→Nat→Prop}(hp:Pairs R dep){S:Nat→Bool}{i:Nat}{r:Rec}(hi:R[i]? = some r)(hb:∀j,dep j i→S j=true)(ha:∀j,dep i j→S j=false)(hS:S i=false){x:Nat}(hx:x ∈ r.F) :
 last (hw R) S x R.length=last (hw R) every x i:=by
 have hil:i<R.length:=by
  rcases Nat.lt_or_ge i R.length with q|q
  · exact q
  · simp[List.getElem?_eq_none q] at hi
 rw[zjk (n:=i) (by omega) (fun j h1 h2 v hv => ?_)]
 · refine zd3 (fun j hj v hv => ?_)
   obtain⟨y,hy,hd,_⟩:=zpi hv
   rcases hp j i y r hj hy hi with g|g
   · rw[hb j g];rfl
   · simp only[zi7,Bool.and_eq_true,List.all_eq_true] at g
     have:=(g.1.1.1) x hd
     have h3:=this.1
     simp[List.contains_eq_mem,hx] at h3
 · rcases Nat.lt_or_ge i j with q|q
   · obtain⟨y,hy,hd,_⟩:=zpi hv
     rcases hp i j r y q hi hy with g|g
     · exact ha j g
     · simp only[zi7,Bool.and_eq_true,List.all_eq_true] at g
       have:=g.1.1.2 x hd
       simp[List.contains_eq_mem,hx] at this
   · have:j=i:=by omega
     subst this
     exact hS
theorem zq7{α:Type}{W:Nat→List (Nat × α)}{S:Nat→Bool}{x:Nat}{v:α}:∀{n:Nat},last W S x n=some v→∃j,j<n∧S j=true∧(W j).lookup x=some v
 | 0,h=>by simp[last] at h
 | n+1,h=>by
  simp only[last] at h
  split at h
  · rename_i u h1 h2
    simp only[Option.some.injEq] at h
    subst h
    exact⟨n,by omega,h1,h2⟩
  · obtain⟨j,h1,h2⟩:=zq7 h
    exact⟨j,by omega,h2⟩
theorem zf7{ρ:Env}:∀{as bs:List Av}{vs:List Value},RvL ρ as vs→as.length=bs.length→(∀(t:Nat)(b:Av),bs[t]? = some b→b = .any∨as[t]? = some b)→RvL ρ bs vs
 | [],[],[],_,_,_=>trivial
 | [],[],_::_,h,_,_=>h
 | [],_::_,_,_,hl,_=>by simp at hl
 | _::_,[],_,_,hl,_=>by simp at hl
 | _::_,_::_,[],h,_,_=>by simp[RvL] at h
 | a::as,b::bs,v::vs,h,hl,hw=>by
  simp only[RvL] at h ⊢
  refine⟨?_,zf7 h.2 (by simpa using hl) (fun t c hc=>by simpa using hw (t+1) c (by simpa using hc))⟩
  rcases hw 0 b rfl with rfl|e
  · trivial
  · simp at e;subst e;exact h.1
theorem zf6{ρ:Env}{H H':Heap}{w:World}(h:Rel ρ H w)(hw:∀(x:Nat) (b:Blk),H'[x]? = some b→b.live=true→H[x]? = some b):Rel ρ H' w:=by
 refine⟨fun i b hi => ?_,fun i j b c L M hi hj hne hbl hcl hoo hL hM=>h.sep i j b c L M (hw i b hi hbl) (hw j c hj hcl) hne hbl hcl hoo hL hM,fun i b L hi hl hL=>h.inb i b L (hw i b hi hl) hl hL⟩
 cases hl:b.live with
 | false=>cases b<;>simp[Blk.live] at hl;trivial
 | true=>exact h.blk i b (hw i b hi hl)
theorem znb(C:List Grd)(R:Recs)(ts:List Nat):∀(cs:List SC)(k t:Nat),(zg6 C R ts k cs)[t]? = (cs[t]?).map fun c=>if ts.contains (k+t)&&zle C R c.2 then c.1 else .any
 | [],_,_=>by simp[zg6]
 | c::cs,k,0=>by simp[zg6]
 | c::cs,k,t+1=>by
  simp only[zg6,List.getElem?_cons_succ]
  rw[znb C R ts cs (k+1) t,show k+1+t=k+(t+1) by omega]
theorem ztt(C:List Grd)(R:Recs)(F:List Nat):∀(cs:List HC)(k t:Nat),(zoj C R F k cs)[t]? = (cs[t]?).map fun c=>if F.contains (k+t)&&zle C R c.2 then c.1 else .dead
 | [],_,_=>by simp[zoj]
 | c::cs,k,0=>by simp[zoj]
 | c::cs,k,t+1=>by
  simp only[zoj,List.getElem?_cons_succ]
  rw[ztt C R F cs (k+1) t,show k+1+t=k+(t+1) by omega]
theorem Goes.wp{P:Program}{o:Oper}{a:Act}{w:World}{R:Value→World→Prop}{K:Act→World→Prop}{Q:Exit→Act→World→Prop}(h:Goes P o a w R)(hK:∀y w',R y w'→K (a.put o.dst y) w'):o.wp P a w K Q:=by
 unfold Goes at h
 unfold Oper.wp at h ⊢
 generalize (execOp a.eval o).run P w=r at *
 have key:∀y w',(∃z,a.put o.dst y=a.put o.dst z∧R z w')→K (a.put o.dst y) w':=by
  rintro y w' ⟨z,e,hz⟩
  rw[e];exact hK z w' hz
 cases r with
 | ok n w' =>
  cases n<;>simp only[Oper.upon] at h ⊢
  case value v=>exact key v w' h
  case skip=>exact key undef w' h
  case defer d=>obtain⟨z,e,hz⟩:=h;rw[e];exact hK z w' hz
  case enter f args =>
   refine h.mono fun e w'' he => ?_
   cases e with
   | returned v=>exact key v w'' he
   | panicked c=>exact he.elim
   | outgrown=>obtain⟨_,_,hf⟩:=he;exact hf.elim
  case row row args=>exact Rows.mono h fun v w'' he=>key v w'' he
 | halt x w'=>cases x<;>simp only[Oper.upon] at h ⊢
theorem zlm{R:Recs}{sl0:List Av}{dep:Nat→Nat→Prop}(hp:Pairs R dep){S:Nat→Bool}{i:Nat}{r:Rec}(hi:R[i]? = some r)(ha:∀j,dep i j→S j=false)(t:Nat) :
 zqn R sl0 (zod S i) t=if r.dst=some t then (r.val,some i) else zqn R sl0 S t:=by
 have hil:i<R.length:=by
  rcases Nat.lt_or_ge i R.length with q|q
  · exact q
  · simp[List.getElem?_eq_none q] at hi
 unfold zqn
 split
 · rename_i hd
   rw[yhp (i:=i) (v:=(r.val,some i)) hil (by simp[zod]) (by unfold sw;simp[hi,hd]) (fun j h1 h2 u hu => ?_)]
   · rfl
   · obtain⟨y,hy,hyd,_⟩:=zp2 hu
     simp only[zod,show ¬ j=i by omega,if_false]
     rcases hp i j r y h1 hi hy with g|g
     · exact ha j g
     · simp only[zi7,Bool.and_eq_true,List.all_eq_true] at g
       have:=(g.1.2 t (by simp[hd])).2
       simp[hyd] at this
 · rename_i hd
   rw[zd3 (S':=S) (fun j hj v hv => ?_)]
   obtain⟨y,hy,hyd,_⟩:=zp2 hv
   have:j≠i:=fun e=>by subst e;rw[hi] at hy;cases hy;exact hd hyd
   simp[zod,this]
theorem zz0{R:Recs}{H0:Heap}{dep:Nat→Nat→Prop}(hp:Pairs R dep){S:Nat→Bool}{i:Nat}{r:Rec}(hi:R[i]? = some r)(ha:∀j,dep i j→S j=false)(x:Nat) :
 ybu R H0 (zod S i) x=((hw R i).lookup x).getD (ybu R H0 S x):=by
 have hil:i<R.length:=by
  rcases Nat.lt_or_ge i R.length with q|q
  · exact q
  · simp[List.getElem?_eq_none q] at hi
 unfold ybu
 cases hv:(hw R i).lookup x with
 | some v =>
  obtain⟨r',hr',hx,_⟩:=zpi hv
  rw[hi] at hr';cases hr'
  rw[yhp (i:=i) (v:=v) hil (by simp[zod]) hv (fun j h1 h2 u hu => ?_)]
  · rfl
  · obtain⟨y,hy,hyx,_⟩:=zpi hu
    simp only[zod,show ¬ j=i by omega,if_false]
    rcases hp i j r y h1 hi hy with g|g
    · exact ha j g
    · simp only[zi7,Bool.and_eq_true,List.all_eq_true] at g
      have:=(g.1.1.1 x hx).2
      simp[List.contains_eq_mem,hyx] at this
 | none =>
  rw[zd3 (S':=S) (fun j hj v hv' => ?_)]
  · rfl
  · have:j≠i:=fun e=>by subst e;rw[hv] at hv';cases hv'
    simp[zod,this]
structure RunOk (P:Program) (Γ:Nat→Sums) (ops:List Oper) (sl0:List Av) (H0:Heap) (R:Recs) (N:Nat):Prop where
 len:R.length=ops.length
 each:∀(i:Nat)(o:Oper),ops[i]? = some o→∃si r,StOk sl0 H0 si∧si.R=R.take i∧RecOk P Γ ops o si r∧R[i]? = some r∧H0.length≤si.H.length∧si.H.length+r.nw.length≤N
theorem zjy{R:Recs}{i j:Nat}{r:Rec}(h:(R.take i)[j]? = some r):R[j]? = some r∧j<i:=by
 rw[List.getElem?_take] at h
 split at h
 · exact⟨h,by assumption⟩
 · cases h
section
variable {P:Program} {Γ:Nat→Sums} {ops:List Oper} {sl0:List Av} {H0:Heap} {R:Recs} {N:Nat}
theorem RunOk.find(h:RunOk P Γ ops sl0 H0 R N){i:Nat}{r:Rec}(hi:R[i]? = some r):∃o si,ops[i]? = some o∧StOk sl0 H0 si∧si.R=R.take i∧RecOk P Γ ops o si r∧H0.length≤si.H.length∧si.H.length+r.nw.length≤N:=by
 have hil:i<ops.length:=by
  rw[← h.len]
  rcases Nat.lt_or_ge i R.length with q|q
  · exact q
  · simp[List.getElem?_eq_none q] at hi
 obtain⟨si,r',h1,h2,h3,h4,h5,h6⟩:=h.each i _ (List.getElem?_eq_getElem hil)
 rw[hi] at h4;cases h4
 exact⟨_,si,List.getElem?_eq_getElem hil,h1,h2,h3,h5,h6⟩
theorem RunOk.w(h:RunOk P Γ ops sl0 H0 R N){i:Nat}{r:Rec}(hi:R[i]? = some r):wOf R r.g=some r.w:=by
 obtain⟨o,si,h1,h2,h3,h4,_⟩:=h.find hi
 rw[h4.g]
 have:=h4.w
 rw[h3] at this
 have e:R=R.take i++R.drop i:=(List.take_append_drop i R).symm
 rw[e]
 exact zp7 this
theorem RunOk.off(h:RunOk P Γ ops sl0 H0 R N):∀(n i:Nat)(r:Rec),i<n→R[i]? = some r→(r.off=true∧r.w=false)∨(r.off=false∧r.b=zha r.val∧r.lit=zji r.val)
 | 0,_,_,hn,_=>by omega
 | n+1,i,r,hn,hi=>by
  obtain⟨o,si,h1,h2,h3,h4,_⟩:=h.find hi
  rcases h4.how with ⟨g1,g2,_⟩|⟨g1,p,wr,_,_,g3,g4,_⟩
  · refine .inl ⟨g1, ?_⟩
    have hw:=h4.w
    cases hg:o.guard with
    | none=>rw[hg] at g2;simp[ynr] at g2
    | some g =>
     obtain⟨j,b⟩:=g
     rw[hg] at g2 hw
     simp only[ynr] at g2
     simp only[wOf] at hw
     cases hj:si.R[j]? with
     | none=>simp[hj] at g2
     | some rj =>
      simp only[hj,Bool.or_eq_true,beq_iff_eq] at g2 hw
      have hj':=hj
      rw[h3] at hj'
      obtain⟨hjR,hji⟩:=zjy hj'
      cases hb:rj.b with
      | none=>simp[hb] at hw
      | some d =>
       simp only[hb,Option.some.injEq] at hw
       rcases h.off n j rj (by omega) hjR with ⟨k1,k2⟩|⟨k1,k2,k3⟩
       · rw[← hw,k2];rfl
       · rcases g2 with g2|g2
         · rw[k1] at g2;cases g2
         · rw[k3] at g2
           rw[k2] at hb
           have:d = !b:=by
            cases hv:rj.val<;>rw[hv] at g2 hb<;>simp[zji,zha] at g2 hb
            · rw[hb,g2];rfl
            · rw[hb,g2];rfl
           rw[← hw,this]
           cases b<;>cases rj.w<;>rfl
  · exact .inr ⟨g1,g3,g4⟩
theorem yaj{i:Nat}{r:Rec}(hi:R[i]? = some r):(R.take i).length=i:=by
 have:i<R.length:=by
  rcases Nat.lt_or_ge i R.length with q|q
  · exact q
  · simp[List.getElem?_eq_none q] at hi
 rw[List.length_take];omega
theorem zz1{dep:Nat→Nat→Prop}(hp:Pairs R dep){S:Nat→Bool}{i:Nat}{r:Rec}(hi:R[i]? = some r)(hb:∀j,dep j i→S j=true)(ha:∀j,dep i j→S j=false)(hS:S i=false){si:RS}(hst:StOk sl0 H0 si)(hR:si.R=R.take i)
 {t:Nat} (ht:t ∈ r.rd) {c:SC} (hc:si.sl[t]? = some c):t<sl0.length∧zqn R sl0 S t=c:=by
 have hlt:t<sl0.length:=by
  rw[← hst.len]
  rcases Nat.lt_or_ge t si.sl.length with q|q
  · exact q
  · simp[List.getElem?_eq_none q] at hc
 refine⟨hlt, ?_⟩
 have h1:=hst.slot t _ (List.getElem?_eq_getElem hlt)
 rw[hc] at h1
 simp only[Option.some.injEq] at h1
 have hl:=yaj hi
 rw[hR,hl] at h1
 have e:last (sw (R.take i)) every t i=last (sw R) every t i:=zjj (fun j hj=>by
  have:=zuj (R:=R.take i) (Q:=R.drop i) (i:=j) (by rw[hl];exact hj)
  rw[List.take_append_drop] at this
  exact this.symm)
 unfold zqn
 rw[yix hp hi hb ha hS ht,h1,e,List.getD_eq_getElem?_getD,List.getElem?_eq_getElem hlt]
 rfl
theorem ytb{dep:Nat→Nat→Prop}(hp:Pairs R dep){S:Nat→Bool}{i:Nat}{r:Rec}(hi:R[i]? = some r)(hb:∀j,dep j i→S j=true)(ha:∀j,dep i j→S j=false)(hS:S i=false){si:RS}(hst:StOk sl0 H0 si)(hR:si.R=R.take i)
 {x:Nat} (hx:x ∈ r.F) {c:HC} (hc:si.H[x]? = some c):x<si.H.length∧ybu R H0 S x=c:=by
 have hlt:x<si.H.length:=by
  rcases Nat.lt_or_ge x si.H.length with q|q
  · exact q
  · simp[List.getElem?_eq_none q] at hc
 refine⟨hlt, ?_⟩
 have h1:=hst.blk x hlt
 rw[hc] at h1
 simp only[Option.some.injEq] at h1
 have hl:=yaj hi
 rw[hR,hl] at h1
 have e:last (hw (R.take i)) every x i=last (hw R) every x i:=zjj (fun j hj=>by
  have:=zmv (R:=R.take i) (Q:=R.drop i) (i:=j) (by rw[hl];exact hj)
  rw[List.take_append_drop] at this
  exact this.symm)
 unfold ybu
 rw[yn7 hp hi hb ha hS hx,h1,e]
theorem ygm(h:RunOk P Γ ops sl0 H0 R N){dep:Nat→Nat→Prop}(hp:Pairs R dep){S:Nat→Bool}{i:Nat}{r:Rec}(hi:R[i]? = some r)(hb:∀j,dep j i→S j=true)(ha:∀j,dep i j→S j=false)(hS:S i=false){o:Oper}(ho:ops[i]? = some o)
 {ρ:Env} {a:Act} (hs:RvL ρ (slS R sl0 S) a.tmps.toList) (hu:∀t m v,t<sl0.length→(zqn R sl0 S t).2=some m→Wf R m=false→a.tmps.toList[t]? = some v→v=undef) :
 Region.wanted o (yielded ops.toArray a.tmps)=r.w:=by
 obtain⟨o',si,h1,h2,h3,h4,_⟩:=h.find hi
 rw[ho] at h1;cases h1
 have hg:=h4.guard
 have hw:=h4.w
 unfold Region.wanted
 cases hgo:o.guard with
 | none=>rw[hgo] at hw;simpa[wOf] using hw
 | some g =>
  obtain⟨j,b⟩:=g
  rw[hgo] at hg hw
  simp only[zxe] at hg
  cases hj:ops[j]? with
  | none=>simp[hj] at hg
  | some oj =>
   simp only[hj] at hg
   cases hd:oj.dst with
   | none=>simp[hd] at hg
   | some d =>
    simp only[hd] at hg
    cases hc:si.sl[d]? with
    | none=>simp[hc] at hg
    | some c =>
     simp only[hc,beq_iff_eq] at hg
     have hrd:d ∈ r.rd:=by rw[h4.rd,hgo];simp[zms,hj,hd]
     obtain⟨hdl,hcon⟩:=zz1 hp hi hb ha hS h2 h3 hrd hc
     have hlast:∃rj,R[j]? = some rj∧c.1=rj.val:=by
      have hc':=hcon
      unfold zqn at hc'
      cases hl:last (sw R) S d R.length with
      | none=>rw[hl] at hc';simp only[Option.getD_none] at hc';rw[← hc'] at hg;cases hg
      | some v =>
       rw[hl] at hc'
       simp only[Option.getD_some] at hc'
       subst hc'
       obtain⟨k,_,_,hk⟩:=zq7 hl
       obtain⟨rk,e1,_,e3⟩:=zp2 hk
       rw[e3] at hg
       simp only[Option.some.injEq] at hg
       subst hg
       exact⟨rk,e1,by rw[e3]⟩
     obtain⟨rj,hrj,hval⟩:=hlast
     simp only[wOf] at hw
     cases hj':si.R[j]? with
     | none=>simp[hj'] at hw
     | some rj' =>
      have hj2:=hj'
      rw[h3] at hj2
      have:=(zjy hj2).1
      rw[hrj] at this;cases this
      simp only[hj'] at hw
      cases hbj:rj.b with
      | none=>simp[hbj] at hw
      | some e =>
       simp only[hbj,Option.some.injEq] at hw
       obtain⟨y,hy,hry⟩:=zfz hs (ziz.2 ⟨hdl,rfl⟩:(slS R sl0 S)[d]? = some _)
       rw[hcon] at hry
       have hy':a.tmps[d]? = some y:=by simpa using hy
       have hyld:yielded ops.toArray a.tmps j=match y with | .bool b=>some b|_=>none:=by
        unfold yielded
        have:ops.toArray[j]? = some oj:=by simpa using hj
        rw[this]
        simp only[Option.bind_some,hd,hy']
        cases y<;>rfl
       rw[← hw]
       simp only
       rw[hyld]
       cases hwj:rj.w with
       | false =>
        have hwf:Wf R j=false:=by unfold Wf;rw[hrj];exact hwj
        have hun:=hu d j y hdl (by rw[hcon];exact hg) hwf hy
        subst hun
        simp only[andb]
        rfl
       | true =>
        have hwf:Wf R j=true:=by unfold Wf;rw[hrj];exact hwj
        have hsem:yi0 R c=rj.val:=by unfold yi0;rw[hg];simp only[hwf];exact hval
        rw[hsem] at hry
        rcases h.off (j+1) j rj (by omega) hrj with ⟨_,k2⟩|⟨_,k2,_⟩
        · rw[hwj] at k2;cases k2
        · rw[hbj] at k2
          have hyb:y = .bool e:=by
           cases hv:rj.val with
           | v x =>
            rw[hv] at k2 hry
            have e1:y=x:=hry
            cases x<;>simp[zha] at k2
            rw[e1,k2]
           | tt=>rw[hv] at k2 hry;simp[zha] at k2;rw[k2];exact hry
           | ff=>rw[hv] at k2 hry;simp[zha] at k2;rw[k2];exact hry
           | _=>rw[hv] at k2;simp[zha] at k2
          subst hyb
          cases e<;>cases b<;>rfl
end
def Mono(R:Recs)(n0:Nat):Prop:=(∀(j:Nat)(x:Rec),R[j]? = some x→n0≤x.n)∧∀(j k:Nat)(x y:Rec),j<k→R[j]? = some x→R[k]? = some y→x.n+x.nw.length≤y.n
section
variable {R:Recs} {n0:Nat} {S:Nat→Bool}
theorem ytd(hm:Mono R n0){i:Nat}{r:Rec}(hi:R[i]? = some r)(hS:S i=false){x:Nat}(hx:r.n≤x∧x<r.n+r.nw.length):¬ cre R n0 S x:=by
 rintro (h|⟨j,y,h1,h2,h3,h4⟩)
 · have:=hm.1 i r hi;omega
 · rcases Nat.lt_trichotomy i j with q|q|q
   · have:=hm.2 i j r y q hi h2;omega
   · subst q;rw[hS] at h1;cases h1
   · have:=hm.2 j i y r q h2 hi;omega
theorem zmg{i:Nat}{r:Rec}(hi:R[i]? = some r){x:Nat}:cre R n0 (zod S i) x↔(cre R n0 S x∨(r.n≤x∧x<r.n+r.nw.length)):=by
 constructor
 · rintro (h|⟨j,y,h1,h2,h3,h4⟩)
   · exact .inl (.inl h)
   · unfold zod at h1
     by_cases e:j=i
     · subst e;rw[hi] at h2;cases h2;exact .inr ⟨h3,h4⟩
     · rw[if_neg e] at h1;exact .inl (.inr ⟨j,y,h1,h2,h3,h4⟩)
 · rintro ((h|⟨j,y,h1,h2,h3,h4⟩)|h)
   · exact .inl h
   · exact .inr ⟨j,y,by unfold zod;split;rfl;exact h1,h2,h3,h4⟩
   · exact .inr ⟨i,r,by unfold zod;rw[if_pos rfl],hi,h.1,h.2⟩
end
def restrict(H:Heap)(keep:Nat→Bool):Heap:=(List.range H.length).map fun x=>match keep x with|true=>H.getD x .dead|false => .dead
theorem zhl(H:Heap)(keep:Nat→Bool):(restrict H keep).length=H.length:=by simp[restrict]
theorem zfu{H:Heap}{keep:Nat→Bool}{x:Nat}{b:Blk}(h:(restrict H keep)[x]? = some b)(hl:b.live=true):keep x=true∧H[x]? = some b:=by
 have hlt:x<H.length:=by
  rw[← zhl H keep]
  rcases Nat.lt_or_ge x (restrict H keep).length with q|q
  · exact q
  · simp[List.getElem?_eq_none q] at h
 unfold restrict at h
 rw[List.getElem?_map,List.getElem?_range hlt] at h
 simp only[Option.map_some,Option.some.injEq] at h
 cases hk:keep x with
 | false=>rw[hk] at h;subst h;cases hl
 | true =>
  rw[hk] at h
  simp only at h
  rw[List.getD_eq_getElem?_getD,List.getElem?_eq_getElem hlt] at h
  exact⟨rfl,by rw[List.getElem?_eq_getElem hlt];simpa using h⟩
theorem zx4{H:Heap}{keep:Nat→Bool}{x:Nat}{b:Blk}(hk:keep x=true)(h:H[x]? = some b):(restrict H keep)[x]? = some b:=by
 have hlt:x<H.length:=by
  rcases Nat.lt_or_ge x H.length with q|q
  · exact q
  · simp[List.getElem?_eq_none q] at h
 unfold restrict
 rw[List.getElem?_map,List.getElem?_range hlt]
 simp[hk,List.getD_eq_getElem?_getD,h]
theorem yg3{B:Base}{R:Recs}{sl0:List Av}{H0:Heap}{N:Nat}{dep:Nat→Nat→Prop}(hp:Pairs R dep)(hm:Mono R H0.length){S:Nat→Bool}{i:Nat}{r:Rec}(hi:R[i]? = some r)(ha:∀j,dep i j→S j=false)(hS:S i=false)
 (hw1:Wf R i=true) {a:Act} {w w':World} (hinv:InvS B R sl0 H0 N S a w) {HT H1:Heap} {y:Value} (hlen:HT.length=r.n) (hl1:H1.length=r.n+r.nw.length) (hnw:H1.drop r.n=r.nw)
 (hwr:∀(x:Nat)(b:Blk),(x,b) ∈ r.wr→x<r.n∧H1[x]? = some b) (hown:∀(x:Nat)(c:Blk),HT[x]? = some c→c.own=true→x ∈ r.wr.map (·.1))
 (hT:∀(x:Nat)(b:Blk),HT[x]? = some b→b.live=true→∃c:Blk,(HS R H0 N S)[x]? = some c∧c.live=true∧(b.own=true→c.own=true))
 (scope:∀x ∈ zjg r,(x<r.n∧cre R H0.length S x)∨(r.n≤x∧x<r.n+r.nw.length))
 {ρ:Env} (hag:Agree B.H.length B.ρ ρ) (hρ:∀ρ',(∀x,cre R H0.length S x→ρ' x=ρ x)→RvL ρ' (slS R sl0 S) a.tmps.toList∧Rel ρ' (HS R H0 N S) w)
 (hnb:∀id blk L,B.H.length≤id→(HS R H0 N S)[id]? = some blk→blk.live=true→ρ id=some L→owns B.ρ B.H L.b∨B.w.heap.size≤L.b)
 (hBn:B.H.length≤H0.length)
 (he:Eff ρ HT w r.val H1 y w'):InvS B R sl0 H0 N (zod S i) (a.put r.dst y) w':=by
 obtain⟨k1,ρ1,k2,k3,k4,k5⟩:=he
 have hn0:=hm.1 i r hi
 let ρn:Env:=fun x=>if r.n≤x∧x<r.n+r.nw.length then ρ1 x else ρ x
 have f2:∀ρ':Env,(∀x,cre R H0.length (zod S i) x→ρ' x=ρn x)→∀x,cre R H0.length S x→ρ' x=ρ x:=by
  intro ρ' h x hx
  rw[h x ((zmg hi).2 (.inl hx))]
  simp only[ρn]
  rw[if_neg (fun e=>ytd hm hi hS e hx)]
 let keep:Nat→Bool:=fun x=>decide (r.n≤x)||(r.wr.map (·.1)).contains x
 have hkeep:∀x,keep x=true→r.n≤x∨x ∈ r.wr.map (·.1):=by
  intro x hx
  simp only[keep,Bool.or_eq_true,decide_eq_true_eq] at hx
  exact hx.imp (fun h=>h) (fun h=>by simpa using h)
 have hk1:KeepsP HT (restrict H1 keep):=⟨by rw[zhl];omega,fun x b c hb hc=>by
  cases hl:c.live with
  | false=>cases c<;>simp[Blk.live] at hl;exact⟨fun h=>(by cases h),fun h=>(by cases h)⟩
  | true =>
   obtain⟨g1,g2⟩:=k1.fl x b c hb (zfu hc hl).2
   exact⟨g1,fun _=>g2 hl⟩⟩
 have wrid:∀x,x ∈ r.wr.map (·.1)→x<r.n∧cre R H0.length S x:=by
  intro x hx
  obtain⟨z,hz,rfl⟩:=List.mem_map.1 hx
  have hlt:=(hwr z.1 z.2 hz).1
  rcases scope z.1 (by unfold zjg;simp only[List.mem_append];exact .inl (.inl (.inr hx))) with h|h
  · exact h
  · omega
 have newblk:∀x b,r.n≤x→H1[x]? = some b→x<r.n+r.nw.length∧b ∈ r.nw:=by
  intro x b hx hb
  have hlt:x<H1.length:=by
   rcases Nat.lt_or_ge x H1.length with q|q
   · exact q
   · simp[List.getElem?_eq_none q] at hb
  refine⟨by omega, ?_⟩
  rw[← hnw]
  refine List.mem_iff_getElem?.2 ⟨x-r.n, ?_⟩
  rw[List.getElem?_drop,show r.n+(x-r.n)=x by omega]
  exact hb
 have wrblk:∀x b,x ∈ r.wr.map (·.1)→H1[x]? = some b→(x,b) ∈ r.wr:=by
  intro x b hx hb
  obtain⟨z,hz,rfl⟩:=List.mem_map.1 hx
  have:=(hwr z.1 z.2 hz).2
  rw[hb] at this
  simp only[Option.some.injEq] at this
  rw[this]
  exact hz
 -- what holds of the part, at every numbering that fits
 have part:∀ρ':Env,(∀x,cre R H0.length (zod S i) x→ρ' x=ρn x)→Rv ρ' r.val y∧Rel ρ' (restrict H1 keep) w':=by
  intro ρ' h
  let ρ2:Env:=fun x=>if x<r.n then ρ1 x else ρ' x
  have hag2:Agree H1.length ρ1 ρ2:=by
   intro x hx
   simp only[ρ2]
   split
   · rfl
   · rename_i hge
     rw[h x ((zmg hi).2 (.inr ⟨by omega,by omega⟩))]
     simp only[ρn]
     rw[if_pos ⟨by omega,by omega⟩]
  obtain⟨g1,g2⟩:=k3 ρ2 hag2
  have heq:∀x,(x<r.n∧cre R H0.length S x)∨(r.n≤x∧x<r.n+r.nw.length)→ρ' x=ρ2 x:=by
   intro x hx
   simp only[ρ2]
   rcases hx with ⟨hx,hc⟩|hx
   · rw[if_pos hx,f2 ρ' h x hc,k2 x (by omega)]
   · rw[if_neg (by omega)]
  refine⟨zhu _ _ (fun x hx=>heq x (scope x (by unfold zjg;simp only[List.mem_append];exact .inl (.inl (.inl hx))))) g1, ?_⟩
  have hsub:Rel ρ2 (restrict H1 keep) w':=zf6 g2 (fun x b hb hl=>(zfu hb hl).2)
  refine zl4 (fun x b hb hl => ?_) hsub
  obtain⟨hk,hb1⟩:=zfu hb hl
  rcases hkeep x hk with hx|hx
  · obtain⟨q1,q2⟩:=newblk x b hx hb1
    exact⟨heq x (.inr ⟨hx,q1⟩),fun z hz=>heq z (scope z (by unfold zjg;simp only[List.mem_append];exact .inr (List.mem_flatMap.2 ⟨b,q2,hz⟩)))⟩
  · have q:=wrblk x b hx hb1
    exact⟨heq x (.inl (wrid x hx)),fun z hz=>heq z (scope z (by unfold zjg;simp only[List.mem_append];exact .inl (.inr (List.mem_flatMap.2 ⟨(x,b),q,hz⟩))))⟩
 -- which blocks the operation laid
 have look:∀x,(hw R i).lookup x=((r.wr.map fun z=>(z.1,(z.2,some i))).lookup x).or (if r.n≤x then (r.nw[x-r.n]?).map (fun b=>(b,some i)) else none):=by
  intro x
  unfold hw
  rw[hi]
  simp only
  rw[zgo,zkk (fun b=>(b,some i)) x r.nw r.n]
 have laid:∀x v,(hw R i).lookup x=some v→v.2=some i∧H1[x]? = some v.1∧keep x=true∧(x ∈ r.wr.map (·.1)∨(r.n≤x∧x<r.n+r.nw.length)):=by
  intro x v hv
  obtain⟨_,_,_,h2⟩:=zpi hv
  rw[look x] at hv
  cases hl:(r.wr.map fun z=>(z.1,(z.2,some i))).lookup x with
  | some u =>
   rw[hl] at hv
   simp only[Option.some_or,Option.some.injEq] at hv
   subst hv
   obtain⟨z,hz,e⟩:=List.mem_map.1 (zd4 hl)
   simp only[Prod.mk.injEq] at e
   obtain⟨rfl,rfl⟩:=e
   have hm1:z.1 ∈ r.wr.map (·.1):=List.mem_map.2 ⟨z,hz,rfl⟩
   exact⟨rfl,(hwr z.1 z.2 hz).2,by simp only[keep,Bool.or_eq_true];exact .inr (by simpa using ⟨z.2,hz⟩),.inl hm1⟩
  | none =>
   rw[hl] at hv
   simp only[Option.none_or] at hv
   split at hv
   case isFalse=>cases hv
   rename_i hge
   cases hnx:r.nw[x-r.n]? with
   | none=>rw[hnx] at hv;cases hv
   | some b =>
    rw[hnx] at hv
    simp only[Option.map_some,Option.some.injEq] at hv
    subst hv
    have hlt:x-r.n<r.nw.length:=by
     rcases Nat.lt_or_ge (x-r.n) r.nw.length with q|q
     · exact q
     · simp[List.getElem?_eq_none q] at hnx
    refine⟨rfl, ?_,by simp[keep,hge],.inr ⟨hge,by omega⟩⟩
    rw[← hnw,List.getElem?_drop,show r.n+(x-r.n)=x by omega] at hnx
    exact hnx
 have unlaid:∀x,(hw R i).lookup x=none→x ∉ r.wr.map (·.1)∧¬ (r.n≤x∧x<r.n+r.nw.length):=by
  intro x hv
  rw[look x] at hv
  constructor
  · intro hx
    obtain⟨z,hz,rfl⟩:=List.mem_map.1 hx
    cases hl:(r.wr.map fun z=>(z.1,(z.2,some i))).lookup z.1 with
    | some u=>rw[hl] at hv;cases hv
    | none =>
     have:=List.lookup_eq_none_iff.1 hl (z.1,(z.2,some i)) (List.mem_map.2 ⟨z,hz,rfl⟩)
     simp at this
  · rintro⟨h1,h2⟩
    rw[if_pos h1,List.getElem?_eq_getElem (by omega)] at hv
    cases hl:(r.wr.map fun z=>(z.1,(z.2,some i))).lookup x<;>rw[hl] at hv<;>cases hv
 have whole:∀(x:Nat)(b:Blk),(HS R H0 N (zod S i))[x]? = some b→b.live=true→((restrict H1 keep)[x]? = some b∧H1[x]? = some b∧(x ∈ r.wr.map (·.1)∨(r.n≤x∧x<r.n+r.nw.length)))∨((HS R H0 N S)[x]? = some b∧(∀c:Blk,HT[x]? = some c→c.own=false)∧¬ (r.n≤x∧x<r.n+r.nw.length)):=by
  intro x b hx _
  obtain⟨hxN,rfl⟩:=zl0.1 hx
  rw[zz0 hp hi ha]
  cases hv:(hw R i).lookup x with
  | some v =>
   obtain⟨q1,q2,q3,q4⟩:=laid x v hv
   have e:yrs R v=v.1:=by unfold yrs;rw[q1];simp only[hw1]
   simp only[Option.getD_some,e]
   exact .inl ⟨zx4 q3 q2,q2,q4⟩
  | none =>
   obtain⟨q1,q2⟩:=unlaid x hv
   simp only[Option.getD_none]
   refine .inr ⟨zl0.2 ⟨hxN,rfl⟩,fun c hc => ?_,q2⟩
   cases ho:c.own with
   | false=>rfl
   | true=>exact absurd (hown x c hc ho) q1
 have own_base:∀b,owns ρ HT b→owns B.ρ B.H b∨B.w.heap.size≤b:=by
  rintro b ⟨id,blk,L,g1,g2,g3,rfl⟩
  obtain⟨c,q1,q2,q3⟩:=hT id blk g1 (za8 g2)
  rcases Nat.lt_or_ge id B.H.length with q|q
  · left
    obtain⟨f1,_⟩:=hinv.keeps.fl id _ c (List.getElem?_eq_getElem q) q1
    exact⟨id,_,L,List.getElem?_eq_getElem q,f1 (q3 g2),by rw[← hag id q];exact g3,rfl⟩
  · exact hnb id c L q q1 q2 g3
 have hln:∀T,(HS R H0 N T).length=N:=fun T=>by simp[HS]
 have backlive:∀x b,x<r.n→H1[x]? = some b→b.live=true→∃c:Blk,(HS R H0 N S)[x]? = some c∧c.live=true∧(b.own=true→c.own=true):=by
  intro x b hx hb hl
  obtain⟨f1,f2⟩:=k1.fl x _ b (List.getElem?_eq_getElem (by omega)) hb
  obtain⟨c,q1,q2,q3⟩:=hT x _ (List.getElem?_eq_getElem (by omega)) (f2 hl)
  exact⟨c,q1,q2,fun h=>q3 (f1 h)⟩
 refine⟨by rw[zgc];exact hinv.defers,hinv.fr.trans k4 (fun b hb hC=>(own_base b hC).resolve_right (by omega)),⟨?_,fun x b c hb hc => ?_⟩,fun t m v ht hc hm0 hv => ?_,ρn,fun x hx => ?_,fun ρ' h=>⟨?_, ?_⟩,fun id blk L hid hb hl hL => ?_⟩
 · rw[hln, ← hln S];exact hinv.keeps.le
 · have hxb:x<B.H.length:=by
    rcases Nat.lt_or_ge x B.H.length with q|q
    · exact q
    · simp[List.getElem?_eq_none q] at hb
   cases hl:c.live with
   | false=>cases c<;>simp[Blk.live] at hl;exact⟨fun h=>(by cases h),fun h=>(by cases h)⟩
   | true =>
    rcases whole x c hc hl with ⟨_,q2,_⟩|⟨q1,_⟩
    · obtain⟨d,d1,d2,d3⟩:=backlive x c (by omega) q2 hl
      obtain⟨f1,f2⟩:=hinv.keeps.fl x b d hb d1
      exact⟨fun h=>f1 (d3 h),fun _=>f2 d2⟩
    · obtain⟨f1,f2⟩:=hinv.keeps.fl x b c hb q1
      exact⟨f1,fun _=>f2 hl⟩
 · rw[zlm hp hi ha] at hc
   split at hc
   · simp only[Option.some.injEq] at hc;subst hc;rw[hw1] at hm0;cases hm0
   · rename_i hd
     refine hinv.und t m v ht hc hm0 ?_
     rw[← hv]
     cases hrd:r.dst with
     | none=>rfl
     | some d =>
      simp only[Act.put,Array.toList_setIfInBounds]
      rw[List.getElem?_set_ne (fun e=>hd (by rw[hrd,e]))]
 · simp only[ρn]
   rw[if_neg (by omega)]
   exact hag x hx
 · have hs:=(hρ ρ' (f2 ρ' h)).1
   refine zf7 (zl5 hs (part ρ' h).1 r.dst) ?_ (fun t b hb => .inr ?_)
   · cases r.dst<;>simp[zps,slS]
   · obtain⟨htl,rfl⟩:=ziz.1 hb
     rw[zlm hp hi ha]
     split
     · rename_i hd
       rw[hd]
       simp only[zps]
       rw[List.getElem?_set_self (by simpa[slS] using htl)]
       simp[yi0,hw1]
     · rename_i hd
       have:=(ziz (R:=R) (S:=S) (b:=yi0 R (zqn R sl0 S t))).2 ⟨htl,rfl⟩
       cases hrd:r.dst with
       | none=>exact this
       | some d=>simp only[zps];rw[List.getElem?_set_ne (fun e=>hd (by rw[hrd,e]))];exact this
 · have ownρ:∀b,owns ρ' HT b↔owns ρ HT b:=by
    intro b
    have key:∀id blk,HT[id]? = some blk→blk.own=true→ρ' id=ρ id:=fun id blk g1 g2=>f2 ρ' h id (wrid id (hown id blk g1 g2)).2
    constructor
    · rintro⟨id,blk,L,g1,g2,g3,g4⟩;exact⟨id,blk,L,g1,g2,by rw[← key id blk g1 g2];exact g3,g4⟩
    · rintro⟨id,blk,L,g1,g2,g3,g4⟩;exact⟨id,blk,L,g1,g2,by rw[key id blk g1 g2];exact g3,g4⟩
   refine zst (hρ ρ' (f2 ρ' h)).2 (part ρ' h).2 hT hk1 ⟨k4.1,fun b hb hn=>k4.2 b hb (fun e=>hn ((ownρ b).2 e)),k4.3⟩ (fun id blk L hid hb hl hL => ?_) (fun x b hx hl => ?_)
   · obtain⟨q1,q2⟩:=zfu hb hl
     have q3:=newblk id blk (by omega) q2
     rw[h id ((zmg hi).2 (.inr ⟨by omega,q3.1⟩))] at hL
     simp only[ρn] at hL
     rw[if_pos ⟨by omega,q3.1⟩] at hL
     exact (k5 id blk L hid q2 hl hL).imp (ownρ L.b).2 (fun h=>h)
   · rcases whole x b hx hl with ⟨q1,_⟩|⟨q1,q2,_⟩
     · exact .inl q1
     · exact .inr ⟨q1,q2⟩
 · rcases whole id blk hb hl with ⟨_,q2,q3⟩|⟨q1,_,q3⟩
   · rcases Nat.lt_or_ge id r.n with q|q
     · obtain⟨c,c1,c2,_⟩:=backlive id blk q q2 hl
       simp only[ρn] at hL
       rw[if_neg (by omega)] at hL
       exact hnb id c L hid c1 c2 hL
     · have q4:=newblk id blk q q2
       simp only[ρn] at hL
       rw[if_pos ⟨q,q4.1⟩] at hL
       rcases k5 id blk L (by omega) q2 hl hL with g|g
       · exact own_base _ g
       · exact .inr (Nat.le_trans hinv.fr.1 g)
   · simp only[ρn] at hL
     rw[if_neg q3] at hL
     exact hnb id blk L hid q1 hl hL
theorem ym9{B:Base}{R:Recs}{sl0:List Av}{H0:Heap}{N:Nat}{dep:Nat→Nat→Prop}(hp:Pairs R dep){S:Nat→Bool}{i:Nat}{r:Rec}(hi:R[i]? = some r)(ha:∀j,dep i j→S j=false)
 (hw0:Wf R i=false) {a:Act} {w:World} (hinv:InvS B R sl0 H0 N S a w):InvS B R sl0 H0 N (zod S i) (a.put r.dst undef) w:=by
 have whole:∀(x:Nat)(b:Blk),(HS R H0 N (zod S i))[x]? = some b→b.live=true→(HS R H0 N S)[x]? = some b:=by
  intro x b hx hl
  obtain⟨hxN,rfl⟩:=zl0.1 hx
  rw[zz0 hp hi ha] at hl ⊢
  cases hv:(hw R i).lookup x with
  | some v =>
   rw[hv] at hl
   obtain⟨_,_,_,h2⟩:=zpi hv
   simp only[Option.getD_some,yrs,h2,hw0] at hl
   cases hl
  | none=>exact zl0.2 ⟨hxN,rfl⟩
 obtain⟨ρ,hag,hρ,hnb⟩:=hinv.env
 refine⟨by rw[zgc];exact hinv.defers,hinv.fr,⟨?_,fun x b c hb hc => ?_⟩,fun t m v ht hc hm0 hv => ?_,ρ,hag,fun ρ' h=>⟨?_, ?_⟩,fun id blk L hid hb hl hL=>hnb id blk L hid (whole id blk hb hl) hl hL⟩
 · have:=hinv.keeps.le;simpa[HS] using this
 · cases hl:c.live with
   | false=>cases c<;>simp[Blk.live] at hl;exact⟨fun h=>(by cases h),fun h=>(by cases h)⟩
   | true=>obtain⟨f1,f2⟩:=hinv.keeps.fl x b c hb (whole x c hc hl);exact⟨f1,fun _=>f2 hl⟩
 · rw[zlm hp hi ha] at hc
   cases hrd:r.dst with
   | none =>
    rw[hrd] at hc hv
    exact hinv.und t m v ht (by simpa using hc) hm0 hv
   | some d =>
    rw[hrd] at hc hv
    simp only[Act.put,Array.toList_setIfInBounds] at hv
    by_cases e:d=t
    · subst e
      have hlt:d<a.tmps.toList.length:=by
       rcases Nat.lt_or_ge d a.tmps.toList.length with q|q
       · exact q
       · rw[List.getElem?_eq_none (by simpa using q)] at hv;cases hv
      rw[List.getElem?_set_self hlt] at hv
      simpa using hv.symm
    · rw[List.getElem?_set_ne e] at hv
      rw[if_neg (by simpa using e)] at hc
      exact hinv.und t m v ht hc hm0 hv
 · have hs:=(hρ ρ' (fun x hx=>h x ((zmg hi).2 (.inl hx)))).1
   refine zf7 (zl5 (av := .any) hs trivial r.dst) ?_ (fun t b hb => ?_)
   · cases r.dst<;>simp[zps,slS]
   · obtain⟨htl,rfl⟩:=ziz.1 hb
     rw[zlm hp hi ha]
     have this:=(ziz (R:=R) (S:=S) (b:=yi0 R (zqn R sl0 S t))).2 ⟨htl,rfl⟩
     split
     · left;simp[yi0,hw0]
     · rename_i hd
       right
       cases hrd:r.dst with
       | none=>exact this
       | some d=>simp only[zps];rw[List.getElem?_set_ne (fun e=>hd (by rw[hrd,e]))];exact this
 · exact zf6 (hρ ρ' (fun x hx=>h x ((zmg hi).2 (.inl hx)))).2 whole
section
variable {P:Program} {Γ:Nat→Sums} {ops:List Oper} {sl0:List Av} {H0:Heap} {R:Recs} {N:Nat}
theorem RunOk.w_take(h:RunOk P Γ ops sl0 H0 R N)(i m:Nat)(r:Rec)(hm:(R.take i)[m]? = some r):wOf (R.take i) r.g=some r.w:=by
 obtain⟨hmR,hmi⟩:=zjy hm
 obtain⟨o,si,h1,h2,h3,h4,_⟩:=h.find hmR
 rw[h4.g]
 have:=h4.w
 rw[h3] at this
 have e:R.take i=R.take m++(R.take i).drop m:=by
  have:=(List.take_append_drop m (R.take i)).symm
  rwa [List.take_take,Nat.min_eq_left (by omega)] at this
 rw[e]
 exact zp7 this
theorem yev{i m:Nat}(h:Wf (R.take i) m=true):Wf R m=true:=by
 unfold Wf at *
 cases hm:(R.take i)[m]? with
 | none=>rw[hm] at h;cases h
 | some r=>rw[hm] at h;rw[(zjy hm).1];exact h
theorem zpo{dep:Nat→Nat→Prop}(hp:Pairs R dep){S:Nat→Bool}{i:Nat}{r:Rec}(hi:R[i]? = some r)(hb:∀j,dep j i→S j=true)(ha:∀j,dep i j→S j=false)(hS:S i=false){si:RS}(hst:StOk sl0 H0 si)(hR:si.R=R.take i)
 (hrun:RunOk P Γ ops sl0 H0 R N) {C:List Grd} (hC:∀g ∈ C,wOf (R.take i) (some g)=some true) {ts:List Nat} (hts:∀t ∈ ts,t ∈ r.rd) {ρ:Env} {a:Act} (hs:RvL ρ (slS R sl0 S) a.tmps.toList) :
 RvL ρ (zg6 C si.R ts 0 si.sl) a.tmps.toList:=by
 have hlen:(zg6 C si.R ts 0 si.sl).length=si.sl.length:=by
  have hg:∀(cs:List SC)(k:Nat),(zg6 C si.R ts k cs).length=cs.length:=by
   intro cs
   induction cs with
   | nil=>intro k;rfl
   | cons c cs ih=>intro k;simp[zg6,ih]
  exact hg _ _
 refine zf7 hs (by rw[hlen,hst.len];simp[slS]) (fun t b hb' => ?_)
 rw[znb] at hb'
 cases hc:si.sl[t]? with
 | none=>rw[hc] at hb';cases hb'
 | some c =>
  rw[hc] at hb'
  simp only[Option.map_some,Option.some.injEq,Nat.zero_add] at hb'
  split at hb'
  case isFalse=>exact .inl hb'.symm
  rename_i hcond
  simp only[Bool.and_eq_true] at hcond
  obtain⟨h1,h2⟩:=hcond
  right
  have htr:t ∈ r.rd:=hts t (by simpa using h1)
  obtain⟨hlt,hcon⟩:=zz1 hp hi hb ha hS hst hR htr hc
  refine ziz.2 ⟨hlt, ?_⟩
  rw[hcon, ← hb']
  unfold yi0
  cases hm:c.2 with
  | none=>rfl
  | some m =>
   rw[hR] at h2
   have:=yev (zjx (hrun.w_take i) hC h2 m hm)
   simp only[this]
theorem yh2{dep:Nat→Nat→Prop}(hp:Pairs R dep){S:Nat→Bool}{i:Nat}{r:Rec}(hi:R[i]? = some r)(hb:∀j,dep j i→S j=true)(ha:∀j,dep i j→S j=false)(hS:S i=false){si:RS}(hst:StOk sl0 H0 si)(hR:si.R=R.take i)
 (hrun:RunOk P Γ ops sl0 H0 R N) (hN:si.H.length≤N) {C:List Grd} (hC:∀g ∈ C,wOf (R.take i) (some g)=some true) {F:List Nat} (hF:∀t ∈ F,t ∈ r.F) :
 ∀(x:Nat)(b:Blk),(zoj C si.R F 0 si.H)[x]? = some b→b.live=true→(HS R H0 N S)[x]? = some b∧x ∈ F∧x<si.H.length:=by
 intro x b hb' hl
 rw[ztt] at hb'
 cases hc:si.H[x]? with
 | none=>rw[hc] at hb';cases hb'
 | some c =>
  rw[hc] at hb'
  simp only[Option.map_some,Option.some.injEq,Nat.zero_add] at hb'
  split at hb'
  case isFalse=>rw[← hb'] at hl;cases hl
  rename_i hcond
  simp only[Bool.and_eq_true] at hcond
  obtain⟨h1,h2⟩:=hcond
  have hxF:x ∈ F:=by simpa using h1
  obtain⟨hlt,hcon⟩:=ytb hp hi hb ha hS hst hR (hF x hxF) hc
  refine⟨zl0.2 ⟨by omega, ?_⟩,hxF,hlt⟩
  rw[hcon, ← hb']
  unfold yrs
  cases hm:c.2 with
  | none=>rfl
  | some m =>
   rw[hR] at h2
   have:=yev (zjx (hrun.w_take i) hC h2 m hm)
   simp only[this]
theorem zk4(C:List Grd)(Q:Recs)(F:List Nat):∀(cs:List HC)(k:Nat),(zoj C Q F k cs).length=cs.length
 | [],_=>rfl
 | _::cs,k=>by simp[zoj,zk4 C Q F cs]
theorem zjh(n:Nat):∀(x:Nat)(b:Blk),(List.replicate n Blk.dead)[x]? = some b→b = .dead:=by
 intro x b h
 rw[List.getElem?_replicate] at h
 split at h
 · simpa using h.symm
 · cases h
theorem yma(ρ:Env)(w:World)(n:Nat):Rel ρ (List.replicate n .dead) w:=by
 refine⟨fun i b hi => ?_,fun i j b c L M hi _ _ hl => ?_,fun i b L hi hl => ?_⟩
 · rw[zjh n i b hi];trivial
 · rw[zjh n i b hi] at hl;cases hl
 · rw[zjh n i b hi] at hl;cases hl
theorem yor(h:RunOk P Γ ops sl0 H0 R N){i:Nat}{C:List Grd}(hC:∀g ∈ C,wOf (R.take i) (some g)=some true){si:RS}(hst:StOk sl0 H0 si)(hR:si.R=R.take i){t k:Nat}{c:SC}(hc:si.sl[t]? = some c)(hk:c.2=some k)(htag:zle C (R.take i) (some k)=true){d:Bool}(hv:zha c.1=some d) :
 ∀g ∈ (k,d)::C,wOf (R.take i) (some g)=some true:=by
 intro g hg
 simp only[List.mem_cons] at hg
 rcases hg with rfl|hg
 · have hw:=zjx (h.w_take i) hC htag k rfl
   unfold Wf at hw
   cases hr:(R.take i)[k]? with
   | none=>rw[hr] at hw;cases hw
   | some rk =>
    rw[hr] at hw
    have hw:rk.w=true:=hw
    simp only[wOf,hr]
    have hval:c.1=rk.val:=by
     have hlt:t<sl0.length:=by
      rw[← hst.len]
      rcases Nat.lt_or_ge t si.sl.length with q|q
      · exact q
      · simp[List.getElem?_eq_none q] at hc
     have h1:=hst.slot t _ (List.getElem?_eq_getElem hlt)
     rw[hc] at h1
     simp only[Option.some.injEq] at h1
     cases hl:last (sw si.R) every t si.R.length with
     | none=>rw[hl] at h1;rw[h1] at hk;cases hk
     | some v =>
      rw[hl] at h1
      simp only[Option.getD_some] at h1
      subst h1
      obtain⟨j,_,_,hj⟩:=zq7 hl
      obtain⟨rj,e1,_,e3⟩:=zp2 hj
      rw[e3] at hk
      simp only[Option.some.injEq] at hk
      subst hk
      rw[hR,hr] at e1
      cases e1
      rw[e3]
    rcases h.off (k+1) k rk (by omega) (zjy hr).1 with ⟨_,k2⟩|⟨_,k2,_⟩
    · rw[hw] at k2;cases k2
    · rw[k2, ← hval,hv]
      simp only[hw,andb]
      cases d<;>rfl
 · exact hC g hg
end
section
variable {P:Program} {Γ:Nat→Sums} {ops:List Oper} {sl0:List Av} {H0:Heap} {R:Recs} {N:Nat}
theorem yuu{dep:Nat→Nat→Prop}(hp:Pairs R dep){S:Nat→Bool}{i:Nat}{r:Rec}(hi:R[i]? = some r)(hb:∀j,dep j i→S j=true)(ha:∀j,dep i j→S j=false)(hS:S i=false){si:RS}(hst:StOk sl0 H0 si)(hR:si.R=R.take i)
 (hrun:RunOk P Γ ops sl0 H0 R N) {C:List Grd} (hC:∀g ∈ C,wOf (R.take i) (some g)=some true) {o:Oper} {c x y:Operand} (ho:o.op = .pick c x y) (hts:∀t ∈ zg3 [c,x,y],t ∈ r.rd) {ρ:Env} {a:Act} (hs:RvL ρ (slS R sl0 S) a.tmps.toList)
 {av:Av} (h:zxw C si.R si.sl c x y=some av) (w:World):∃v,(execOp a.eval o).run P w = .ok (.value v) w∧Rv ρ av v:=by
 unfold zxw at h
 simp only at h
 have mask:∀{D:List Grd},(∀g ∈ D,wOf (R.take i) (some g)=some true)→RvL ρ (zg6 D si.R (zg3 [c,x,y]) 0 si.sl) a.tmps.toList:=fun hD=>zpo hp hi hb ha hS hst hR hrun hD hts hs
 have hc:=zcb (mask hC) c
 unfold execOp
 simp only[ho]
 -- what the choice's own guard adds
 have und:∀d:Bool,zha (evS (zg6 C si.R (zg3 [c,x,y]) 0 si.sl) c)=some d →
  ∀g ∈ (match c with | .tmp t=>(match (si.sl.getD t (.any,none)).2 with|some k=>(k,d)::C|none=>C)|_=>C:List Grd),wOf (R.take i) (some g)=some true:=by
  intro d hd
  cases c with
  | tmp t =>
   simp only
   cases hk:(si.sl.getD t (.any,none)).2 with
   | none=>exact hC
   | some k =>
    simp only
    cases hct:si.sl[t]? with
    | none=>rw[List.getD_eq_getElem?_getD,hct] at hk;simp at hk
    | some ct =>
     rw[List.getD_eq_getElem?_getD,hct] at hk
     simp only[Option.getD_some] at hk
     simp only[evS] at hd
     rw[List.getD_eq_getElem?_getD,znb,hct] at hd
     simp only[Option.map_some,Option.getD_some,Nat.zero_add] at hd
     split at hd
     case isFalse=>simp[zha] at hd
     rename_i hcond
     simp only[Bool.and_eq_true] at hcond
     refine yor hrun hC hst hR hct hk ?_ hd
     have:=hcond.2
     rw[hk,hR] at this
     exact this
  | const v=>exact hC
  | global g=>exact hC
  | func f=>exact hC
 split at h
 · rename_i e
   rw[e] at hc und
   simp only[Option.some.injEq] at h
   subst h
   have hc':a.eval c = .bool true:=hc
   exact⟨_,by simp[hc',asBool],zcb (mask (und true rfl)) x⟩
 · rename_i e
   rw[e] at hc und
   simp only[Option.some.injEq] at h
   subst h
   have hc':a.eval c = .bool false:=hc
   exact⟨_,by simp[hc',asBool],zcb (mask (und false rfl)) y⟩
 · rename_i b e
   rw[e] at hc und
   simp only[Option.some.injEq] at h
   subst h
   have hc':a.eval c = .bool b:=hc
   cases b
   · exact⟨_,by simp[hc',asBool],mrg_false (zcb (mask (und false rfl)) y)⟩
   · exact⟨_,by simp[hc',asBool],mrg_true (zcb (mask (und true rfl)) x)⟩
 · cases h
theorem yst{ρ ρ':Env}{n:Nat}{HT:Heap}{w:World}(h:Agree n ρ ρ')(hl:HT.length≤n)(hid:HT.all (fun b=>(yeb b).all fun x=>decide (x<n))=true)(g:Rel ρ HT w):Rel ρ' HT w:=by
 refine zl4 (fun id b hb _ => ?_) g
 have hlt:id<HT.length:=by
  rcases Nat.lt_or_ge id HT.length with q|q
  · exact q
  · simp[List.getElem?_eq_none q] at hb
 refine⟨h id (by omega),fun x hx=>h x ?_⟩
 have h1:=List.all_eq_true.1 hid b (List.mem_of_getElem? hb)
 simpa using List.all_eq_true.1 h1 x hx
theorem yjd(hΓ:∀i,zib P (Γ i))(hrun:RunOk P Γ ops sl0 H0 R N){dep:Nat→Nat→Prop}(hp:Pairs R dep)(hm:Mono R H0.length){B:Base}(hBn:B.H.length≤H0.length){S:Nat→Bool}{i:Nat}{r:Rec}(hi:R[i]? = some r)
 (hb:∀j,dep j i→S j=true) (ha:∀j,dep i j→S j=false) (hS:S i=false) (scope:∀x ∈ zjg r,(x<r.n∧cre R H0.length S x)∨(r.n≤x∧x<r.n+r.nw.length)) (hold:Hold r.p)
 {Q:Exit→Act→World→Prop} {a:Act} {w:World} (hinv:InvS B R sl0 H0 N S a w):wpOp P ops.toArray Q i (InvS B R sl0 H0 N (zod S i)) a w:=by
 obtain⟨o,si,ho,hst,hR,hrec,hge,hN⟩:=hrun.find hi
 obtain⟨ρ,hag,hρ,hnb⟩:=hinv.env
 have hs0:=(hρ ρ (fun _ _=>rfl)).1
 have hH0:=(hρ ρ (fun _ _=>rfl)).2
 have hwant:=ygm hrun hp hi hb ha hS ho hs0 hinv.und
 have ho':ops.toArray[i]? = some o:=by simpa using ho
 unfold wpOp
 simp only[ho',hwant]
 cases hw:r.w with
 | false =>
  have hw0:Wf R i=false:=by unfold Wf;rw[hi];exact hw
  simp only[Bool.false_eq_true,if_false]
  rw[← hrec.dst]
  exact ym9 hp hi ha hw0 hinv
 | true =>
  have hw1:Wf R i=true:=by unfold Wf;rw[hi];exact hw
  simp only[if_true]
  left
  have hC:∀g ∈ ze8 si.R 50 o.guard,wOf (R.take i) (some g)=some true:=by
   have hwr:=hrec.w
   rw[hR,hw] at hwr
   rw[hR]
   exact zmd (hrun.w_take i) 50 o.guard hwr
  rcases hrec.how with ⟨g1,g2,g3,_⟩|⟨g1,p,wr,he,hwr,_,_,hcp⟩
  · rcases hrun.off (i+1) i r (by omega) hi with ⟨_,k2⟩|⟨k1,_⟩
    · rw[hw] at k2;cases k2
    · rw[g1] at k1;cases k1
  · have hpp:Hold p:=by
     rw[hcp,hw] at hold
     cases p with
     | none=>trivial
     | some p =>
      unfold ytc at hold
      cases hg:o.guard with
      | none=>rw[hg] at hold;exact hold
      | some g=>rw[hg] at hold;exact hold rfl
    have hrd:∀t ∈ zg3 o.op.operands.toList,t ∈ r.rd:=fun t ht=>by rw[hrec.rd];exact List.mem_append_right _ ht
    have hn:r.n=si.H.length:=hrec.fits.n
    unfold zs9 at he
    split at he
    · rename_i c x y hop
      split at he
      case h_2=>cases he
      rename_i v hv
      simp only[Option.some.injEq,Prod.mk.injEq] at he
      obtain⟨rfl,rfl,hF,rfl,hnw⟩:=he
      have hts:∀t ∈ zg3 [c,x,y],t ∈ r.rd:=fun t ht=>hrd t (by rw[hop];exact ht)
      obtain⟨y',h1,h2⟩:=yuu hp hi hb ha hS hst hR hrun hC hop hts hs0 hv w
      have hnw0:r.nw=[]:=hnw.symm
      refine Goes.wp (Goes.value h1 (R:=fun z w'=>z=y'∧w'=w) ⟨rfl,rfl⟩) ?_
      rintro z w' ⟨rfl,rfl⟩
      rw[← hrec.dst]
      refine yg3 hp hm hi ha hS hw1 hinv (HT:=List.replicate r.n .dead) (H1:=List.replicate r.n .dead) (by simp) (by simp[hnw0]) (by simp[hnw0]) (fun x b hxb => ?_) (fun x c hc ho => ?_) (fun x b hb' hl => ?_) scope hag hρ hnb hBn ?_
      · rw[hwr] at hxb;cases hxb
      · rw[zjh _ _ _ hc] at ho;cases ho
      · rw[zjh _ _ _ hb'] at hl;cases hl
      · refine zqq (fun ρ' hρ'=>⟨zhu _ _ (fun x hx=>hρ' x ?_) h2,yma _ _ _⟩)
        rw[List.length_replicate]
        rcases scope x (by unfold zjg;simp only[List.mem_append];exact .inl (.inl (.inl hx))) with q|q
        · exact q.1
        · rw[hnw0] at q;simp at q;omega
    · rename_i hnp
      simp only at he
      split at he
      case isFalse=>cases he
      rename_i hids
      simp only[Bool.and_eq_true] at hids
      generalize hsl:zg6 (ze8 si.R 50 o.guard) si.R (zg3 o.op.operands.toList) 0 si.sl=sl at he hids
      generalize hFt:yqn (ze8 si.R 50 o.guard) si.R o sl si.H=F at he hids
      generalize hHT:zoj (ze8 si.R 50 o.guard) si.R F 0 si.H=HT at he hids
      have hlenT:HT.length=si.H.length:=by rw[← hHT,zk4]
      have hsl0:RvL ρ sl a.tmps.toList:=by rw[← hsl];exact zpo hp hi hb ha hS hst hR hrun hC hrd hs0
      have main:F=r.F→(∀(x:Nat)(b:Blk),HT[x]? = some b→b.live=true→(HS R H0 N S)[x]? = some b∧x ∈ F∧x<si.H.length)∧∀ρ',Agree HT.length ρ ρ'→RvL ρ' sl a.tmps.toList∧Rel ρ' HT w:=by
       intro hF
       have hblk:∀(x:Nat)(b:Blk),HT[x]? = some b→b.live=true→(HS R H0 N S)[x]? = some b∧x ∈ F∧x<si.H.length:=by
        rw[← hHT]
        exact yh2 hp hi hb ha hS hst hR hrun (by omega) hC (fun t ht=>hF ▸ ht)
       refine⟨hblk,fun ρ' hρ'=>⟨zdm _ _ (fun x hx=>hρ' x ?_) hsl0,yst hρ' (Nat.le_refl _) (by rw[hlenT];exact hids.2) (zf6 hH0 (fun x b hb hl=>(hblk x b hb hl).1))⟩⟩
       rw[hlenT]
       simpa using List.all_eq_true.1 hids.1 x hx
      have fin:∀(HT' H1:Heap)(v:Av),HT'.length=HT.length→Goes P o a w (Eff ρ HT' w v H1)→v=r.val→H1.drop si.H.length=r.nw→(∀(x:Nat)(b:Blk),(x,b) ∈ r.wr→x<r.n∧∀(H:Heap),KeepsP HT' H→H=H1→H1[x]? = some b) →
       (∀(x:Nat)(c:Blk),HT'[x]? = some c→c.own=true→x ∈ r.wr.map (·.1))→(∀(x:Nat)(b:Blk),HT'[x]? = some b→b.live=true→∃c:Blk,(HS R H0 N S)[x]? = some c∧c.live=true∧(b.own=true→c.own=true)) →
       o.wp P a w (InvS B R sl0 H0 N (zod S i)) Q:=by
       intro HT' H1 v hl hgo hv hdrop hwr' hown hT
       refine Goes.wp hgo (fun y w' he' => ?_)
       rw[← hrec.dst]
       have hk:=he'.1
       have hle:=hk.le
       have hl1:H1.length=r.n+r.nw.length:=by
        rw[← hdrop,List.length_drop,hn]
        omega
       exact yg3 hp hm hi ha hS hw1 hinv (HT:=HT') (H1:=H1) (by omega) hl1 (by rw[hn];exact hdrop) (fun x b hxb=>⟨(hwr' x b hxb).1,(hwr' x b hxb).2 H1 hk rfl⟩) hown hT scope hag hρ hnb hBn (hv ▸ he')
      split at he
      · rename_i p1 v1 H1 hst1
        simp only[Option.some.injEq,Prod.mk.injEq] at he
        obtain⟨rfl,rfl,hF,rfl,hnw⟩:=he
        obtain⟨hblk,hall⟩:=main hF
        have hro:∀(x:Nat)(b:Blk),(HT.map roB)[x]? = some b→∃c,HT[x]? = some c∧b=roB c:=by
         intro x b hx
         rw[List.getElem?_map] at hx
         cases hc:HT[x]? with
         | none=>rw[hc] at hx;cases hx
         | some c=>rw[hc] at hx;simp only[Option.map_some,Option.some.injEq] at hx;exact⟨c,rfl,hx.symm⟩
        refine fin (HT.map roB) H1 _ (by simp) (zqu (hΓ _) hst1 hpp (fun ρ' hρ' => ?_)) rfl hnw (fun x b hxb => ?_) (fun x c hc ho => ?_) (fun x b hx hl => ?_)
        · obtain⟨q1,q2⟩:=hall ρ' (by simpa using hρ')
          exact⟨q1,yxv q2⟩
        · rw[hwr] at hxb;cases hxb
        · obtain⟨d,_,rfl⟩:=hro x c hc;rw[zix] at ho;cases ho
        · obtain⟨d,hd,rfl⟩:=hro x b hx
          rw[zls] at hl
          exact⟨d,(hblk x d hd hl).1,hl,fun h=>by rw[zix] at h;cases h⟩
      · split at he
        case isFalse=>cases he
        split at he
        case h_2=>cases he
        rename_i p1 v1 H1 hst1
        simp only[Option.some.injEq,Prod.mk.injEq] at he
        obtain⟨rfl,rfl,hF,hwrr,hnw⟩:=he
        obtain⟨hblk,hall⟩:=main hF
        rw[← hwrr] at hwr
        refine fin HT H1 _ rfl (zqu (hΓ _) hst1 hpp hall) rfl hnw (fun x b hxb => ?_) (fun x c hc ho => ?_) (fun x b hx hl=>⟨b,(hblk x b hx hl).1,hl,fun h=>h⟩)
        · rw[hwr] at hxb
          obtain⟨z,hz,e⟩:=List.mem_map.1 hxb
          simp only[Prod.mk.injEq] at e
          obtain⟨rfl,rfl⟩:=e
          have hzl:z<si.H.length:=by simpa using (List.mem_filter.1 hz).2
          refine⟨by omega,fun H hk hH => ?_⟩
          have:=hk.le
          rw[hH] at this
          rw[List.getD_eq_getElem?_getD,List.getElem?_eq_getElem (by omega)]
          rfl
        · obtain⟨_,q2,q3⟩:=hblk x c hc (za8 ho)
          rw[hwr]
          exact List.mem_map.2 ⟨(x,H1.getD x .dead),List.mem_map.2 ⟨x,List.mem_filter.2 ⟨q2,by simpa using q3⟩,rfl⟩,rfl⟩
end
structure Numb (s:RS) (n0:Nat):Prop where
 ge:n0≤s.H.length
 low:∀(j:Nat)(x:Rec),s.R[j]? = some x→n0≤x.n∧x.n+x.nw.length≤s.H.length
 inc:∀(j k:Nat)(x y:Rec),j<k→s.R[j]? = some x→s.R[k]? = some y→x.n+x.nw.length≤y.n
 all:∀y,n0≤y→y<s.H.length→∃(j:Nat)(x:Rec),s.R[j]? = some x∧x.n≤y∧y<x.n+x.nw.length
theorem Numb.add{s:RS}{n0:Nat}(h:Numb s n0){r:Rec}(hr:r.n=s.H.length):Numb (s.add r) n0:=by
 have hl:(s.add r).H.length=s.H.length+r.nw.length:=by simp[RS.add,zb8]
 have hg:∀(j:Nat)(x:Rec),(s.add r).R[j]? = some x→s.R[j]? = some x∨(j=s.R.length∧x=r):=by
  intro j x hx
  have hx':(s.R++[r])[j]? = some x:=hx
  rcases Nat.lt_or_ge j s.R.length with q|q
  · rw[List.getElem?_append_left q] at hx';exact .inl hx'
  · rw[List.getElem?_append_right q] at hx'
    rcases Nat.eq_zero_or_pos (j-s.R.length) with e|e
    · rw[e] at hx';simp at hx';exact .inr ⟨by omega,hx'.symm⟩
    · rw[List.getElem?_eq_none (by simp;omega)] at hx';cases hx'
 refine⟨by rw[hl];have:=h.ge;omega,fun j x hx => ?_,fun j k x y hjk hx hy => ?_,fun y hy1 hy2 => ?_⟩
 · rw[hl]
   rcases hg j x hx with q|⟨rfl,rfl⟩
   · have:=h.low j x q;omega
   · have:=h.ge;omega
 · rcases hg j x hx with q|⟨rfl,rfl⟩<;>rcases hg k y hy with q'|⟨rfl,rfl⟩
   · exact h.inc j k x y hjk q q'
   · have:=h.low j x q;omega
   · have:k<s.R.length:=by
      rcases Nat.lt_or_ge k s.R.length with z|z
      · exact z
      · simp[List.getElem?_eq_none z] at q'
     omega
   · omega
 · rw[hl] at hy2
   rcases Nat.lt_or_ge y s.H.length with q|q
   · obtain⟨j,x,h1,h2⟩:=h.all y hy1 q
     have hj:j<s.R.length:=by
      rcases Nat.lt_or_ge j s.R.length with z|z
      · exact z
      · simp[List.getElem?_eq_none z] at h1
     exact⟨j,x,by show (s.R++[r])[j]? = some x;rw[List.getElem?_append_left hj];exact h1,h2⟩
   · exact⟨s.R.length,r,by show (s.R++[r])[s.R.length]? = some r;simp,by omega,by omega⟩
theorem yaz{P:Program}{Γ:Nat→Sums}{all:List Oper}{n0:Nat}:∀{ops:List Oper}{s sf:RS},zx6 P Γ all ops s=some sf→Numb s n0→Numb sf n0
 | [],s,sf,h,hs=>by simp only[zx6,Option.some.injEq] at h;subst h;exact hs
 | o::ops,s,sf,h,hs=>by
  simp only[zx6] at h
  cases hr:zlc P Γ all o s with
  | none=>simp[hr] at h
  | some r =>
   simp only[hr] at h
   exact yaz h (hs.add (yav hr).fits.n)
theorem zkc:∀{R:Recs}{i:Nat}{r:Rec},Hold (zep R)→R[i]? = some r→Hold r.p
 | [],_,_,_,hi=>by simp at hi
 | q::R,i,r,h,hi=>by
  simp only[zep] at h
  cases i with
  | zero =>
   simp only[List.getElem?_cons_zero,Option.some.injEq] at hi
   subst hi
   cases hq:q.p with
   | none=>trivial
   | some p =>
    cases hc:zep R with
    | none=>rw[hq,hc] at h;exact h
    | some c=>rw[hq,hc] at h;exact h.1
  | succ i =>
   refine zkc (i:=i) ?_ (by simpa using hi)
   cases hq:q.p with
   | none=>rw[hq] at h;exact h
   | some p =>
    cases hc:zep R with
    | none=>trivial
    | some c=>rw[hq,hc] at h;exact h.2
structure Ran (P:Program) (Γ:Nat→Sums) (ops:List Oper) (sl0:List Av) (H0:Heap) (s:RS):Prop where
 run:RunOk P Γ ops sl0 H0 s.R s.H.length
 st:StOk sl0 H0 s
 numb:Numb s H0.length
theorem yrk{P:Program}{Γ:Nat→Sums}{ops:List Oper}{sl0:List Av}{H0:Heap}{s:RS}(h:zx6 P Γ ops ops { sl:=sl0.map (·,none),H:=H0.map (·,none),R:=[] }=some s):Ran P Γ ops sl0 H0 s:=by
 obtain⟨h1,Q,h2,h3,h4,h5⟩:=yay h (StOk.start sl0 H0)
 have e:s.R=Q:=by simpa using h2
 refine⟨⟨by rw[e];exact h3,fun i o ho => ?_⟩,h1,yaz h ⟨by simp,fun j x hx=>by simp at hx,fun j k x y _ hx=>by simp at hx,fun y h1 h2=>by simp at h2;omega⟩⟩
 obtain⟨si,r,g1,g2,g3,g4,g5,g6⟩:=h5 i o ho
 exact⟨si,r,g1,by rw[e];simpa using g2,g3,by rw[e];exact g4,by simpa using g5,g6⟩
section
variable {P:Program} {Γ:Nat→Sums} {ops:List Oper} {sl0:List Av} {H0:Heap} {s:RS}
theorem Ran.mono(h:Ran P Γ ops sl0 H0 s):Mono s.R H0.length:=⟨fun j x hx=>(h.numb.low j x hx).1,h.numb.inc⟩
theorem zmw{B:Base}{R:Recs}{N:Nat}(hN:H0.length≤N){a:Act}{w:World}(h:Inv B sl0 H0 a w):InvS B R sl0 H0 N (fun _=>false) a w:=by
 obtain⟨h1,h2,h3,ρ,h4,h5,h6⟩:=h
 have hlast:∀{α:Type}(W:Nat→List (Nat × α))(x n:Nat),last W (fun _=>false) x n=none:=by
  intro α W x n
  induction n with
  | zero=>rfl
  | succ n ih=>simp only[last];exact ih
 have hsl:slS R sl0 (fun _=>false)=sl0:=by
  apply List.ext_getElem?
  intro t
  unfold slS
  rw[List.getElem?_map]
  rcases Nat.lt_or_ge t sl0.length with q|q
  · rw[List.getElem?_range q,List.getElem?_eq_getElem q]
    simp[yi0,zqn,hlast,List.getD_eq_getElem?_getD,List.getElem?_eq_getElem q]
  · rw[List.getElem?_eq_none (by simpa using q),List.getElem?_eq_none q];rfl
 have hblk:∀(x:Nat)(b:Blk),(HS R H0 N (fun _=>false))[x]? = some b→b.live=true→H0[x]? = some b:=by
  intro x b hb hl
  obtain⟨_,rfl⟩:=zl0.1 hb
  simp only[yrs,ybu,hlast,Option.getD_none] at hl ⊢
  rw[List.getD_eq_getElem?_getD] at hl ⊢
  cases hc:H0[x]? with
  | none=>rw[hc] at hl;cases hl
  | some c=>rfl
 refine⟨h1,h2,⟨by have:=h3.le;simp[HS];omega,fun i b c hb hc => ?_⟩,fun t m v _ hc => ?_,ρ,h4,fun ρ' h => ?_,fun id blk L hid hb hl hL=>h6 id blk L hid (hblk id blk hb hl) hl hL⟩
 · cases hl:c.live with
   | false=>cases c<;>simp[Blk.live] at hl;exact⟨fun h=>(by cases h),fun h=>(by cases h)⟩
   | true=>obtain⟨f1,f2⟩:=h3.fl i b c hb (hblk i c hc hl);exact⟨f1,fun _=>f2 hl⟩
 · simp[zqn,hlast] at hc
 · obtain⟨q1,q2⟩:=h5 ρ' (fun x hx=>h x (.inl hx))
   rw[hsl]
   exact⟨q1,zf6 q2 hblk⟩
theorem InvS.congr{B:Base}{R:Recs}{N:Nat}{S T:Nat→Bool}(hR:∀j,j<R.length→S j=T j){a:Act}{w:World}(h:InvS B R sl0 H0 N S a w):InvS B R sl0 H0 N T a w:=by
 have e1:∀t,zqn R sl0 S t=zqn R sl0 T t:=fun t=>by unfold zqn;rw[zd3 (fun i hi _ _=>hR i hi)]
 have e2:∀t,ybu R H0 S t=ybu R H0 T t:=fun t=>by unfold ybu;rw[zd3 (fun i hi _ _=>hR i hi)]
 have e3:slS R sl0 S=slS R sl0 T:=by unfold slS;simp only[e1]
 have e4:HS R H0 N S=HS R H0 N T:=by unfold HS;simp only[e2]
 have e5:∀x,cre R H0.length S x↔cre R H0.length T x:=by
  intro x
  have key:∀(j:Nat)(r:Rec),R[j]? = some r→j<R.length:=fun j r hr=>by
   rcases Nat.lt_or_ge j R.length with q|q
   · exact q
   · simp[List.getElem?_eq_none q] at hr
  unfold cre
  constructor
  · rintro (h|⟨j,r,h1,h2,h3⟩)
    · exact .inl h
    · exact .inr ⟨j,r,by rw[← hR j (key j r h2)];exact h1,h2,h3⟩
  · rintro (h|⟨j,r,h1,h2,h3⟩)
    · exact .inl h
    · exact .inr ⟨j,r,by rw[hR j (key j r h2)];exact h1,h2,h3⟩
 obtain⟨h1,h2,h3,h4,ρ,h5,h6,h7⟩:=h
 refine⟨h1,h2,by rw[← e4];exact h3,fun t m v ht hc=>h4 t m v ht (by rw[e1];exact hc),ρ,h5,fun ρ' h => ?_,by rw[← e4];exact h7⟩
 rw[← e3, ← e4]
 exact h6 ρ' (fun x hx=>h x ((e5 x).1 hx))
theorem yg2(hr:Ran P Γ ops sl0 H0 s){B:Base}{a:Act}{w:World}(h:InvS B s.R sl0 H0 s.H.length every a w):Inv B (yre s.R s.sl) (ynu s.R s.H) a w:=by
 obtain⟨h1,h2,h3,_,ρ,h5,h6,h7⟩:=h
 have htag:∀t,zle [] s.R t=true→∀m,t=some m→Wf s.R m=true:=by
  intro t ht
  exact zjx (fun m r hm=>hr.run.w hm) (fun g hg=>by cases hg) ht
 have hS:∀(t:Nat)(b:Av),(yre s.R s.sl)[t]? = some b→b = .any∨(slS s.R sl0 every)[t]? = some b:=by
  intro t b hb
  unfold yre at hb
  rw[List.getElem?_map] at hb
  cases hc:s.sl[t]? with
  | none=>rw[hc] at hb;cases hb
  | some c =>
   rw[hc] at hb
   simp only[Option.map_some,Option.some.injEq] at hb
   split at hb
   case isFalse=>exact .inl hb.symm
   rename_i hok
   right
   have hlt:t<sl0.length:=by
    rw[← hr.st.len]
    rcases Nat.lt_or_ge t s.sl.length with q|q
    · exact q
    · simp[List.getElem?_eq_none q] at hc
   have h1:=hr.st.slot t _ (List.getElem?_eq_getElem hlt)
   rw[hc] at h1
   simp only[Option.some.injEq] at h1
   refine ziz.2 ⟨hlt, ?_⟩
   have e:zqn s.R sl0 every t=c:=by
    unfold zqn
    rw[h1,List.getD_eq_getElem?_getD,List.getElem?_eq_getElem hlt]
    rfl
   rw[e, ← hb]
   unfold yi0
   cases hm:c.2 with
   | none=>rfl
   | some m=>simp only[htag _ hok m hm]
 have hB:∀(x:Nat)(b:Blk),(ynu s.R s.H)[x]? = some b→b.live=true→(HS s.R H0 s.H.length every)[x]? = some b:=by
  intro x b hb hl
  unfold ynu at hb
  rw[List.getElem?_map] at hb
  cases hc:s.H[x]? with
  | none=>rw[hc] at hb;cases hb
  | some c =>
   rw[hc] at hb
   simp only[Option.map_some,Option.some.injEq] at hb
   split at hb
   case isFalse=>rw[← hb] at hl;cases hl
   rename_i hok
   have hlt:x<s.H.length:=by
    rcases Nat.lt_or_ge x s.H.length with q|q
    · exact q
    · simp[List.getElem?_eq_none q] at hc
   have h1:=hr.st.blk x hlt
   rw[hc] at h1
   simp only[Option.some.injEq] at h1
   refine zl0.2 ⟨hlt, ?_⟩
   have e:ybu s.R H0 every x=c:=by unfold ybu;rw[h1]
   rw[e, ← hb]
   unfold yrs
   cases hm:c.2 with
   | none=>rfl
   | some m=>simp only[htag _ hok m hm]
 have hl:(ynu s.R s.H).length=s.H.length:=by simp[ynu]
 have hl2:(HS s.R H0 s.H.length every).length=s.H.length:=by simp[HS]
 refine⟨h1,h2,⟨by rw[hl, ← hl2];exact h3.le,fun i b c hb hc => ?_⟩,ρ,h5,fun ρ' h => ?_,fun id blk L hid hb hl hL=>h7 id blk L hid (hB id blk hb hl) hl hL⟩
 · cases hcl:c.live with
   | false=>cases c<;>simp[Blk.live] at hcl;exact⟨fun h=>(by cases h),fun h=>(by cases h)⟩
   | true=>obtain⟨f1,f2⟩:=h3.fl i b c hb (hB i c hc hcl);exact⟨f1,fun _=>f2 hcl⟩
 · rw[hl] at h
   have key:∀x,cre s.R H0.length every x→x<s.H.length:=by
    rintro x (hx|⟨j,r,_,g2,g3,g4⟩)
    · have:=hr.st.big;omega
    · have:=(hr.numb.low j r g2).2;omega
   obtain⟨q1,q2⟩:=h6 ρ' (fun x hx=>h x (key x hx))
   exact⟨zf7 q1 (by simp[yre,slS,hr.st.len]) hS,zf6 q2 hB⟩
end
def zoi(ancs:List Nat)(k j:Nat):Prop:=(ancs.getD j 0).testBit k=true
theorem ztg(acc:List Nat):∀(es:List Edge)(m k:Nat),(es.foldl (fun m e=>m ||| (acc.getD e.on 0) ||| (1 <<< e.on)) m).testBit k=true↔m.testBit k=true∨∃e ∈ es,k=e.on∨(acc.getD e.on 0).testBit k=true
 | [],m,k=>by simp
 | e::es,m,k=>by
  rw[List.foldl_cons,ztg acc es]
  have hb:(m ||| acc.getD e.on 0 ||| 1 <<< e.on).testBit k=true↔m.testBit k=true∨(acc.getD e.on 0).testBit k=true∨k=e.on:=by
   rw[Nat.testBit_or,Nat.testBit_or,Nat.one_shiftLeft,Nat.testBit_two_pow]
   simp only[Bool.or_eq_true,decide_eq_true_eq]
   constructor
   · rintro ((h|h)|h)
     · exact .inl h
     · exact .inr (.inl h)
     · exact .inr (.inr h.symm)
   · rintro (h|h|h)
     · exact .inl (.inl h)
     · exact .inl (.inr h)
     · exact .inr h.symm
  rw[hb]
  simp only[List.mem_cons,exists_eq_or_imp]
  constructor
  · rintro ((h|h|h)|h)
    · exact .inl h
    · exact .inr (.inl (.inr h))
    · exact .inr (.inl (.inl h))
    · exact .inr (.inr h)
  · rintro (h|(h|h)|h)
    · exact .inl (.inl h)
    · exact .inl (.inr (.inr h))
    · exact .inl (.inr (.inl h))
    · exact .inr h
theorem zl6:∀{ops:List Oper}{acc ancs:List Nat},zg8 ops acc=some ancs→(∀j,j<acc.length→ancs[j]? = acc[j]?)∧ancs.length=acc.length+ops.length ∧
 ∀(i:Nat)(o:Oper),ops[i]? = some o→(∀e ∈ o.after.toList.filter (Region.binds .any),e.on<acc.length+i) ∧
  ∀k,zoi ancs k (acc.length+i)↔∃e ∈ o.after.toList.filter (Region.binds .any),k=e.on∨zoi ancs k e.on
 | [],acc,ancs,h=>by
  simp only[zg8,Option.some.injEq] at h
  subst h
  exact⟨fun _ _=>rfl,by simp,fun i o ho=>by simp at ho⟩
 | o::ops,acc,ancs,h=>by
  simp only[zg8] at h
  split at h
  case isFalse=>cases h
  rename_i hall
  obtain⟨h1,h2,h3⟩:=zl6 h
  have hall':∀e ∈ o.after.toList.filter (Region.binds .any),e.on<acc.length:=by
   intro e he
   obtain⟨h1,h2⟩:=List.mem_filter.1 he
   have:=List.all_eq_true.1 hall e h1
   simpa[h2] using this
  have hpre:∀j,j<acc.length→ancs[j]? = acc[j]? := fun j hj=>by rw[h1 j (by simp;omega),List.getElem?_append_left hj]
  refine⟨hpre,by rw[h2];simp;omega,fun i o' ho => ?_⟩
  cases i with
  | zero =>
   simp only[List.getElem?_cons_zero,Option.some.injEq] at ho
   subst ho
   refine⟨fun e he=>by rw[Nat.add_zero];exact hall' e he,fun k => ?_⟩
   have hself:ancs[acc.length]? = some ((o.after.toList.filter (Region.binds .any)).foldl (fun m e=>m ||| (acc.getD e.on 0) ||| (1 <<< e.on)) 0):=by
    rw[h1 acc.length (by simp)]
    simp
   unfold zoi
   simp only[Nat.add_zero]
   rw[List.getD_eq_getElem?_getD,hself,Option.getD_some,ztg]
   simp only[Nat.zero_testBit,Bool.false_eq_true,false_or]
   constructor
   · rintro⟨e,he,h⟩
     refine⟨e,he,h.imp id (fun h => ?_)⟩
     rw[List.getD_eq_getElem?_getD,hpre e.on (hall' e he), ← List.getD_eq_getElem?_getD]
     exact h
   · rintro⟨e,he,h⟩
     refine⟨e,he,h.imp id (fun h => ?_)⟩
     rw[List.getD_eq_getElem?_getD,hpre e.on (hall' e he), ← List.getD_eq_getElem?_getD] at h
     exact h
  | succ i =>
   obtain⟨q1,q2⟩:=h3 i o' (by simpa using ho)
   simp only[List.length_append,List.length_singleton] at q1 q2
   rw[show acc.length+(i+1)=acc.length+1+i by omega]
   exact⟨q1,q2⟩
theorem zm8:∀{R:Recs}{k x m:Nat},zpm R k x=some m→∃r,R[m-k]? = some r∧k≤m∧r.n≤x∧x<r.n+r.nw.length
 | [],_,_,_,h=>by simp[zpm] at h
 | r::rs,k,x,m,h=>by
  simp only[zpm] at h
  split at h
  · simp only[Option.some.injEq] at h
    subst h
    rename_i hc
    exact⟨r,by simp,Nat.le_refl _,hc⟩
  · obtain⟨r',h1,h2,h3⟩:=zm8 h
    refine⟨r', ?_,by omega,h3⟩
    rw[show m-k=(m-(k+1))+1 by omega]
    simpa using h1
theorem zk6{R:Recs}:∀{ys:Recs}{j:Nat}{ancs:List Nat},zni R j ys ancs=true→∀(m:Nat)(y:Rec)(anc:Nat),ys[m]? = some y→ancs[m]? = some anc→∀(i:Nat)(x:Rec),i<j+m→R[i]? = some x→anc.testBit i=true∨zi7 x y=true
 | [],_,_,_,m,y,anc,h1,_=>by simp at h1
 | y0::ys,j,[],h,_,_,_,_,_=>by simp[zni] at h
 | y0::ys,j,a0::ancs,h,m,y,anc,h1,h2=>by
  simp only[zni,Bool.and_eq_true] at h
  obtain⟨h3,h4⟩:=h
  intro i x hi hx
  cases m with
  | zero =>
   simp only[List.getElem?_cons_zero,Option.some.injEq] at h1 h2
   subst h1 h2
   have:=List.all_eq_true.1 h3 (x,i) (by
    refine List.mem_iff_getElem?.2 ⟨i, ?_⟩
    rw[List.getElem?_zipIdx,List.getElem?_take,if_pos (by omega),hx]
    simp)
   simpa using this
  | succ m=>exact zk6 h4 m y anc (by simpa using h1) (by simpa using h2) i x (by omega) hx
theorem yly{α β:Type}:∀{l:List α}{m:List β}{i:Nat}{a:α}{b:β},l[i]? = some a→m[i]? = some b→(a,b) ∈ l.zip m
 | [],_,_,_,_,h,_=>by simp at h
 | _::_,[],_,_,_,_,h=>by simp at h
 | a::l,b::m,0,_,_,h,g=>by simp at h g;subst h g;simp
 | a::l,b::m,i+1,_,_,h,g=>by
  simp only[List.zip_cons_cons,List.mem_cons]
  exact .inr (yly (by simpa using h) (by simpa using g))
theorem zmf:∀(l:List Bool)(i:Nat),l[i]? = some false→(l.set i true).countP (fun b => !b)+1=l.countP (fun b => !b)
 | [],_,h=>by simp at h
 | b::l,0,h=>by simp at h;subst h;simp
 | b::l,i+1,h=>by
  have:=zmf l i (by simpa using h)
  cases b<;>simp[List.set_cons_succ] at this ⊢ <;> omega
theorem zme:∀(l:List Bool),l.countP (fun b => !b)=0→∀(i:Nat)(b:Bool),l[i]? = some b→b=true
 | [],_,_,_,h=>by simp at h
 | c::l,h,i,b,hb=>by
  cases c with
  | false=>simp at h
  | true =>
   cases i with
   | zero=>simp at hb;exact hb
   | succ i=>exact zme l (by simpa using h) i b (by simpa using hb)
section
variable {P:Program} {Γ:Nat→Sums} {ops:List Oper} {sl0:List Av} {H0:Heap} {s:RS}
theorem yjm(hΓ:∀i,zib P (Γ i))(hr:Ran P Γ ops sl0 H0 s)(ht:ya9 s.R=true)(hold:Hold (zep s.R)){B:Base}(hBn:B.H.length≤H0.length){Q:Exit→Act→World→Prop}
 (hfin:∀a w,InvS B s.R sl0 H0 s.H.length every a w→Q .normal a w):∀(n i:Nat)(a:Act)(w:World),i+n=ops.length→InvS B s.R sl0 H0 s.H.length (fun j=>decide (j<i)) a w→wpOps P ops.toArray Q (List.range' i n) a w
 | 0,i,a,w,hn,h=>by
  simp only[List.range'_zero,wpOps]
  exact hfin a w (h.congr fun j hj=>by rw[hr.run.len] at hj;simp[every];omega)
 | n+1,i,a,w,hn,h=>by
  rw[List.range'_succ,wpOps_cons]
  have hil:i<s.R.length:=by rw[hr.run.len];omega
  have hi:=List.getElem?_eq_getElem hil
  generalize s.R[i]=r at hi
  refine wpOp_mono (fun a' w' h'=>yjm hΓ hr ht hold hBn hfin n (i+1) a' w' (by omega) (h'.congr fun j _ => ?cg)) (yjd hΓ hr.run (dep:=fun j k=>j<k) (fun i j x y hij _ _ => .inl hij) hr.mono hBn hi (fun j hj=>by simpa using hj) (fun j hj=>by simp;omega) (by simp) (fun x hx => ?sc) (zkc hold hi) h)
  case cg =>
   unfold zod
   by_cases e:j=i
   · simp[e]
   · rw[if_neg e]
     by_cases q:j<i
     · simp[q];omega
     · simp[q];omega
  case sc =>
   have h1:=List.all_eq_true.1 ht r (List.mem_of_getElem? hi)
   have h2:x<r.n+r.nw.length:=by simpa using List.all_eq_true.1 h1 x hx
   rcases Nat.lt_or_ge x r.n with q|q
   · refine .inl ⟨q, ?_⟩
     rcases Nat.lt_or_ge x H0.length with q2|q2
     · exact .inl q2
     · have:=(hr.numb.low i r hi).2
       obtain⟨j,y,g1,g2,g3⟩:=hr.numb.all x q2 (by omega)
       refine .inr ⟨j,y, ?_,g1,g2,g3⟩
       rcases Nat.lt_trichotomy j i with z|z|z
       · simpa using z
       · subst z;rw[hi] at g1;cases g1;omega
       · have:=hr.numb.inc i j r y z hi g1;omega
   · exact .inr ⟨q,h2⟩
theorem yqf(hΓ:∀i,zib P (Γ i))(hr:Ran P Γ ops sl0 H0 s)(hd:zic ops s.R H0.length=true)(hold:Hold (zep s.R)){B:Base}(hBn:B.H.length≤H0.length){Q:Exit→Act→World→Prop}
 (hfin:∀a w,InvS B s.R sl0 H0 s.H.length every a w→Q .normal a w) {ancs:List Nat} (han:zg8 ops []=some ancs):∀(fuel:Nat)(listed:Array Bool)(a:Act)(w:World),listed.size=ops.length→listed.toList.countP (fun b => !b)≤fuel →
  (∀j k,listed.getD j false=true→zoi ancs k j→listed.getD k false=true)→InvS B s.R sl0 H0 s.H.length (fun j=>listed.getD j false) a w→wpAny P .any ops.toArray Q fuel listed a w:=by
 obtain⟨_,hlen,hanc⟩:=zl6 han
 simp only[List.length_nil,Nat.zero_add] at hlen hanc
 unfold zic at hd
 rw[han] at hd
 simp only[Bool.and_eq_true] at hd
 obtain⟨hpairs,hscope⟩:=hd
 have hP:Pairs s.R (zoi ancs):=by
  intro i j x y hij hx hy
  have hjl:j<ancs.length:=by
   rw[hlen, ← hr.run.len]
   rcases Nat.lt_or_ge j s.R.length with q|q
   · exact q
   · simp[List.getElem?_eq_none q] at hy
  have:=zk6 hpairs j y _ hy (List.getElem?_eq_getElem hjl) i x (by omega) hx
  rcases this with h|h
  · left
    unfold zoi
    rw[List.getD_eq_getElem?_getD,List.getElem?_eq_getElem hjl]
    exact h
  · exact .inr h
 have allListed:∀(listed:Array Bool)(a:Act)(w:World),listed.size=ops.length→(∀j,j<ops.length→listed.getD j false=true)→InvS B s.R sl0 H0 s.H.length (fun j=>listed.getD j false) a w→Q .normal a w:=by
  intro listed a w _ hall h
  exact hfin a w (h.congr fun j hj=>by rw[hr.run.len] at hj;rw[hall j hj];rfl)
 have hget:∀(listed:Array Bool)(j:Nat)(d e:Bool),j<listed.size→listed.getD j d=listed.getD j e:=by
  intro listed j d e hj
  simp[Array.getD,hj]
 intro fuel
 induction fuel with
 | zero =>
  intro listed a w hsz hc hcl h
  have hall:∀j,j<ops.length→listed.getD j false=true:=by
   intro j hj
   refine zme listed.toList (by omega) j _ ?_
   simp[Array.getD,hsz,hj]
  refine⟨?_,allListed listed a w hsz hall h⟩
  refine List.eq_nil_iff_forall_not_mem.2 (fun i hi => ?_)
  obtain⟨h0,o,ho,_⟩:=mem_ready.1 hi
  have hil:i<ops.length:=by
   have:=(Array.getElem?_eq_some_iff.1 ho).1
   simpa using this
  rw[hget listed i true false (by omega),hall i hil] at h0
  cases h0
 | succ fuel ih =>
  intro listed a w hsz hc hcl h
  refine⟨fun hnil => ?_,fun i hi => ?_⟩
  · refine allListed listed a w hsz (fun j => ?_) h
    induction j using Nat.strongRecOn with
    | _ j ihj =>
     intro hj
     cases hv:listed.getD j false with
     | true=>rfl
     | false =>
      have:j ∈ Region.ready .any ops.toArray listed:=by
       refine mem_ready.2 ⟨by rw[hget listed j true false (by omega)];exact hv,ops[j],by simp[hj],fun e he hbd => ?_⟩
       obtain⟨q1,q2⟩:=hanc j _ (List.getElem?_eq_getElem hj)
       have:=q1 e (List.mem_filter.2 ⟨by simpa using he,hbd⟩)
       exact ihj e.on this (by omega)
      rw[hnil] at this
      cases this
  · obtain⟨h0,o,ho,haft⟩:=mem_ready.1 hi
    have hil:i<ops.length:=by
     have:=(Array.getElem?_eq_some_iff.1 ho).1
     simpa using this
    have hoi:ops[i]? = some o:=by simpa using ho
    rw[hget listed i true false (by omega)] at h0
    have hiR:i<s.R.length:=by rw[hr.run.len];exact hil
    have hri:=List.getElem?_eq_getElem hiR
    generalize s.R[i]=r at hri
    obtain⟨q1,q2⟩:=hanc i o hoi
    have hb:∀j,zoi ancs j i→listed.getD j false=true:=by
     intro j hj
     obtain⟨e,he,hje⟩:=(q2 j).1 hj
     obtain⟨he1,he2⟩:=List.mem_filter.1 he
     have hl:=haft e (by simpa using he1) he2
     rcases hje with rfl|hje
     · exact hl
     · exact hcl e.on j hl hje
    have hlset:∀j,(listed.setIfInBounds i true).getD j false=if j=i then true else listed.getD j false:=by
     intro j
     by_cases e:j=i
     · subst e
       simp[Array.getD,hsz,hil]
     · rw[if_neg e,getD_set_ne false (fun h=>e h.symm)]
    refine wpOp_mono (fun a' w' h'=>ih (listed.setIfInBounds i true) a' w' (by simpa using hsz) ?ct (fun j k hj hk => ?cl) (h'.congr fun j _ => ?cg)) (yjd hΓ hr.run hP hr.mono hBn hri hb (fun j hj => ?no) h0 (fun x hx => ?sc) (zkc hold hri) h)
    case ct =>
     have:=zmf listed.toList i (by
      have:listed.getD i false=listed[i]'(by omega):=by simp[Array.getD,hsz,hil]
      rw[this] at h0
      simp[hsz,hil,h0])
     simp only[Array.toList_setIfInBounds]
     omega
    case cl =>
     rw[hlset] at hj ⊢
     by_cases ek:k=i
     · rw[if_pos ek]
     · rw[if_neg ek]
       by_cases ej:j=i
       · subst ej;exact hb k hk
       · rw[if_neg ej] at hj;exact hcl j k hj hk
    case cg=>simp only[hlset,zod]
    case no =>
     cases hv:listed.getD j false with
     | false=>rfl
     | true =>
      have:=hcl j i hv hj
      rw[h0] at this
      cases this
    case sc =>
     have hal:i<ancs.length:=by omega
     have hs1:=List.all_eq_true.1 hscope _ (yly hri (List.getElem?_eq_getElem hal))
     simp only[yrr,List.all_eq_true,Bool.or_eq_true,Bool.and_eq_true,decide_eq_true_eq] at hs1
     have hn0:=(hr.numb.low i r hri).1
     rcases hs1 x hx with (h1|h1)|h1
     · exact .inl ⟨by omega,.inl h1⟩
     · exact .inr h1
     · cases hm:zpm s.R 0 x with
       | none=>rw[hm] at h1;cases h1
       | some k =>
        rw[hm] at h1
        simp only[Bool.and_eq_true,decide_eq_true_eq] at h1
        obtain⟨rk,g1,_,g3,g4⟩:=zm8 hm
        refine .inl ⟨h1.1,.inr ⟨k,rk,hb k ?_,by simpa using g1,g3,g4⟩⟩
        unfold zoi
        rw[List.getD_eq_getElem?_getD,List.getElem?_eq_getElem hal]
        exact h1.2
theorem zua(hm:P.follows .mixedOrders=true)(hΓ:∀i,zib P (Γ i)){draw:Bool}{p:Option Prop}{sl:List Av}{H:Heap}(h:ziw P Γ ops draw sl0 H0=some (p,sl,H))(hold:Hold p){B:Base}(hBn:B.H.length≤H0.length){Q:Exit→Act→World→Prop}
 (hfin:∀a w,Inv B sl H a w→Q .normal a w) {a:Act} {w:World} (hinv:Inv B sl0 H0 a w) (id:Nat):(Code.region id ops.toArray draw).wp P Q a w:=by
 unfold ziw at h
 split at h
 case h_2=>cases h
 rename_i s hrun
 cases hok:(if draw=true then zic ops s.R H0.length else ya9 s.R) with
 | false=>rw[hok] at h;simp at h
 | true =>
 rw[hok] at h
 simp only[if_true,Option.some.injEq,Prod.mk.injEq] at h
 obtain⟨rfl,rfl,rfl⟩:=h
 have hr:=yrk hrun
 have hfin':∀a w,InvS B s.R sl0 H0 s.H.length every a w→Q .normal a w:=fun a w h=>hfin a w (yg2 hr h)
 cases draw with
 | false =>
  refine wp_region ?_
  have:=yjm hΓ hr hok hold hBn hfin' ops.length 0 a w (by omega) ((zmw hr.st.big hinv).congr fun j _=>by simp)
  rw[show ops.toArray.size=ops.length by simp,List.range_eq_range']
  exact this
 | true =>
  have hinv':Inv B sl0 H0 a { w with drawn:=w.drawn+1 }:=hinv.world ⟨Nat.le_refl _,fun _ _ _=>rfl,rfl,rfl,rfl⟩
  refine wp_region_any hm ?_
  have han:∃ancs,zg8 ops []=some ancs:=by
   have hok':zic ops s.R H0.length=true:=hok
   unfold zic at hok'
   cases e:zg8 ops [] with
   | none=>rw[e] at hok';cases hok'
   | some x=>exact⟨x,rfl⟩
  obtain⟨ancs,han⟩:=han
  have hrep:∀(n j:Nat),(Array.replicate n false).getD j false=false:=by
   intro n j
   by_cases q:j<n<;>simp[Array.getD,q]
  rw[show ops.toArray.size=ops.length by simp]
  refine yqf hΓ hr hok hold hBn hfin' han ops.length (Array.replicate ops.length false) a _ (by simp) ?_ (fun j k hj _ => ?_) ((zmw hr.st.big hinv').congr fun j _=>(hrep _ _).symm)
  · refine Nat.le_trans List.countP_le_length (by simp)
  · rw[hrep] at hj;cases hj
end
def zsy:List Prop→Prop
 | []=>True
 | [p]=>p
 | p::q::r=>p∧zsy (q::r)
theorem zcu:∀{ps:List Prop},zsy ps↔∀p ∈ ps,p
 | []=>by simp[zsy]
 | [p]=>⟨fun h q hq=>by rw[List.mem_singleton.1 hq];exact h,fun h=>h p List.mem_cons_self⟩
 | p::q::r=>by
  constructor
  · rintro⟨h1,h2⟩ x hx
    rcases List.mem_cons.1 hx with rfl|hx
    · exact h1
    · exact zcu.1 h2 x hx
  · intro h
    exact⟨h p List.mem_cons_self,zcu.2 fun x hx=>h x (List.mem_cons_of_mem _ hx)⟩
abbrev Ren:=List (Nat × Option Nat)
def look(n0:Nat)(φ:Ren)(id:Nat):Option (Option Nat):=if id<n0 then some (some id) else φ.lookup id
def yw8(o:Option (Option Nat))(j:Nat):Bool:=match o with|some (some k)=>k==j|_=>false
def isNo(o:Option (Option Nat)):Bool:=match o with|some none=>true|_=>false
def yuj:Value→Value→List Prop
 | .int k m,.int j n=>if k=j then [m=n] else [False]
 | .bool x,.bool y=>[x=y]
 | x,y=>[x=y]
theorem ynj{x y:Value}(h:∀p ∈ yuj x y,p):x=y:=by
 unfold yuj at h
 split at h
 · split at h
   · rename_i e;have:=h _ List.mem_cons_self;subst e this;rfl
   · exact (h _ List.mem_cons_self).elim
 · have:=h _ List.mem_cons_self;subst this;rfl
 · exact h _ List.mem_cons_self
def app2(a b:Option (List Prop)):Option (List Prop):=match a with|some x=>(match b with|some y=>some (x++y)|none=>none)|none=>none
def clash:Value→Value→Bool
 | .nilIface,.iface _ _=>true
 | .iface _ _,.nilIface=>true
 | _,_=>false
def yqi(e a:Av):Option (List Prop):=match zbx e with|some x=>(match zbx a with|some y=>(match clash x y with|true=>none|false=>some (yuj x y))|none=>none)|none=>none
def zxh(n0:Nat)(φ:Ren):List Nat→List Nat→Bool
 | [],[]=>true
 | i::is,j::js=>yw8 (look n0 φ i) j&&zxh n0 φ is js
 | _,_=>false
mutual
def zv9(n0:Nat)(φ:Ren):Av→Av→Option (List Prop)
 | .any,_=>some []
 | .ptr id sub,a=>match a with | .ptr id' sub'=>if yw8 (look n0 φ id) id'&&sub==sub' then some [] else none|_=>none
 | .eptr id sz i sub,a=>match a with | .eptr id' sz' i' sub'=>if yw8 (look n0 φ id) id'&&sz==sz'&&sub==sub' then some [i=i'] else none|_=>none
 | .sl id sz lo len,a=>match a with
  | .sl id' sz' lo' len'=>if yw8 (look n0 φ id) id'&&sz==sz' then some [lo=lo',len=len'] else none
  | .v (.slice _ 0 0)=>if isNo (look n0 φ id) then some [lo=0,len=0] else none
  | _=>none
 | .agg cs,a=>match a with | .agg ds=>ymo n0 φ cs ds|a=>yqi (.agg cs) a
 | .tup cs,a=>match a with | .tup ds=>ymo n0 φ cs ds|a=>yqi (.tup cs) a
 | .fn f cs,a=>match a with | .fn g ds=>if f=g then ymo n0 φ cs ds else none|_=>none
 | .ifc t x,a=>match a with | .ifc u y=>if t=u then zv9 n0 φ x y else none|a=>yqi (.ifc t x) a
 | .tt,a=>yqi .tt a
 | .ff,a=>yqi .ff a
 | .v x,a=>yqi (.v x) a
 | .q _,_=>none
 | .zp,_=>none
 | .opq ids X,a=>match a with | .opq js Y=>if zxh n0 φ ids js then some [X=Y] else none|_=>none
def ymo(n0:Nat)(φ:Ren):List Av→List Av→Option (List Prop)
 | [],bs=>match bs with|[]=>some []|_=>none
 | e::es,bs=>match bs with|a::as=>app2 (zv9 n0 φ e a) (ymo n0 φ es as)|[]=>none
end
theorem zg9{a b:Option (List Prop)}{ps:List Prop}(h:app2 a b=some ps):∃x y,a=some x∧b=some y∧ps=x++y:=by
 unfold app2 at h
 split at h
 · split at h
   · simp only[Option.some.injEq] at h;exact⟨_,_,rfl,rfl,h.symm⟩
   · cases h
 · cases h
theorem zq5{o:Option (Option Nat)}{j:Nat}(h:yw8 o j=true):o=some (some j):=by
 unfold yw8 at h
 split at h
 · simp at h;rw[h]
 · cases h
theorem ytz{o:Option (Option Nat)}(h:isNo o=true):o=some none:=by
 unfold isNo at h
 split at h
 · rfl
 · cases h
theorem zq4{ρ ρ':Env}{n0:Nat}{φ:Ren}(hφ:∀id o,look n0 φ id=some o→ρ' id=o.bind ρ):∀{ids js:List Nat},zxh n0 φ ids js=true→ids.map (spot ρ')=js.map (spot ρ)
 | [],[],_=>rfl
 | [],_::_,h=>by simp[zxh] at h
 | _::_,[],h=>by simp[zxh] at h
 | i::is,j::js,h=>by
  simp only[zxh,Bool.and_eq_true] at h
  have e:=hφ i _ (zq5 h.1)
  simp only[List.map_cons]
  rw[zq4 hφ h.2]
  unfold spot
  rw[e]
  rfl
mutual
theorem zlv{ρ:Env}:∀{a:Av}{x:Value},zbx a=some x→Rv ρ a x
 | .tt,x,h=>by simp only[zbx,Option.some.injEq] at h;subst h;rfl
 | .ff,x,h=>by simp only[zbx,Option.some.injEq] at h;subst h;rfl
 | .v u,x,h=>by simp only[zbx,Option.some.injEq] at h;subst h;rfl
 | .agg cs,x,h=>by
  simp only[zbx] at h
  cases hc:zc7 cs with
  | none=>simp[hc] at h
  | some vs=>simp only[hc,Option.some.injEq] at h;subst h;exact⟨vs,rfl,zns hc⟩
 | .tup cs,x,h=>by
  simp only[zbx] at h
  cases hc:zc7 cs with
  | none=>simp[hc] at h
  | some vs=>simp only[hc,Option.some.injEq] at h;subst h;exact⟨vs,rfl,zns hc⟩
 | .ifc t a,x,h=>by
  simp only[zbx] at h
  cases hc:zbx a with
  | none=>simp[hc] at h
  | some u=>simp only[hc,Option.some.injEq] at h;subst h;exact⟨u,rfl,zlv hc⟩
 | .fn f [],x,h=>by simp only[zbx,Option.some.injEq] at h;subst h;exact⟨[],rfl,trivial⟩
 | .fn f (_::_),x,h=>by simp[zbx] at h
 | .any,_,h=>by simp[zbx] at h
 | .ptr _ _,_,h=>by simp[zbx] at h
 | .eptr ..,_,h=>by simp[zbx] at h
 | .sl ..,_,h=>by simp[zbx] at h
 | .q _,_,h=>by simp[zbx] at h
 | .zp,_,h=>by simp[zbx] at h
 | .opq _ _,_,h=>by simp[zbx] at h
theorem zns{ρ:Env}:∀{as:List Av}{xs:List Value},zc7 as=some xs→RvL ρ as xs
 | [],xs,h=>by simp only[zc7,Option.some.injEq] at h;subst h;trivial
 | a::as,xs,h=>by
  simp only[zc7] at h
  cases h1:zbx a with
  | none=>simp[h1] at h
  | some v =>
   cases h2:zc7 as with
   | none=>simp[h1,h2] at h
   | some vs=>simp only[h1,h2,Option.some.injEq] at h;subst h;exact⟨zlv h1,zns h2⟩
end
theorem zkb{ρ ρ':Env}{e a:Av}{ps:List Prop}(h:yqi e a=some ps)(hp:∀p ∈ ps,p){y:Value}(hy:Rv ρ a y):Rv ρ' e y:=by
 unfold yqi at h
 cases he:zbx e with
 | none=>simp[he] at h
 | some x =>
  cases ha:zbx a with
  | none=>simp[he,ha] at h
  | some z =>
   simp only[he,ha] at h
   split at h
   · cases h
   simp only[Option.some.injEq] at h
   subst h
   have e1:=zed ha hy
   have e2:=ynj hp
   subst e1 e2
   exact zlv he
mutual
theorem yfo{ρ ρ':Env}{n0:Nat}{φ:Ren}(hφ:∀id o,look n0 φ id=some o→ρ' id=o.bind ρ):∀{e a:Av}{ps:List Prop},zv9 n0 φ e a=some ps→(∀p ∈ ps,p)→∀{y:Value},Rv ρ a y→Rv ρ' e y
 | .any,_,_,_,_,_,_=>trivial
 | .ptr id sub,a,ps,h,hp,y,hy=>by
  simp only[zv9] at h
  split at h
  · split at h
    · rename_i id' sub' hc
      simp only[Bool.and_eq_true,beq_iff_eq] at hc
      obtain⟨h1,rfl⟩:=hc
      have:=hφ id _ (zq5 h1)
      simp only[Rv] at hy ⊢
      rw[this];exact hy
    · cases h
  · cases h
 | .eptr id sz i sub,a,ps,h,hp,y,hy=>by
  simp only[zv9] at h
  split at h
  · split at h
    · rename_i id' sz' i' sub' hc
      simp only[Bool.and_eq_true,beq_iff_eq] at hc
      obtain⟨⟨h1,rfl⟩,rfl⟩:=hc
      simp only[Option.some.injEq] at h
      subst h
      have e:i=i':=hp _ (by simp)
      subst e
      have:=hφ id _ (zq5 h1)
      simp only[Rv] at hy ⊢
      rw[this];exact hy
    · cases h
  · cases h
 | .sl id sz lo len,a,ps,h,hp,y,hy=>by
  simp only[zv9] at h
  split at h
  · split at h
    · rename_i id' sz' lo' len' hc
      simp only[Bool.and_eq_true,beq_iff_eq] at hc
      obtain⟨h1,rfl⟩:=hc
      simp only[Option.some.injEq] at h
      subst h
      have e1:lo=lo':=hp _ (by simp)
      have e2:len=len':=hp _ (by simp)
      subst e1 e2
      have:=hφ id _ (zq5 h1)
      simp only[Rv] at hy ⊢
      rw[this];exact hy
    · cases h
  · split at h
    · rename_i hc
      simp only[Option.some.injEq] at h
      subst h
      have e1:lo=0:=hp _ (by simp)
      have e2:len=0:=hp _ (by simp)
      have:=hφ id _ (ytz hc)
      simp only[Rv] at hy ⊢
      exact .inl ⟨this,e1,e2,_,hy⟩
    · cases h
  · cases h
 | .agg cs,a,ps,h,hp,y,hy=>by
  simp only[zv9] at h
  split at h
  · simp only[Rv] at hy ⊢
    obtain⟨vs,h1,h2⟩:=hy
    exact⟨vs,h1,zhc hφ h hp h2⟩
  · exact zkb h hp hy
 | .tup cs,a,ps,h,hp,y,hy=>by
  simp only[zv9] at h
  split at h
  · simp only[Rv] at hy ⊢
    obtain⟨vs,h1,h2⟩:=hy
    exact⟨vs,h1,zhc hφ h hp h2⟩
  · exact zkb h hp hy
 | .fn f cs,a,ps,h,hp,y,hy=>by
  simp only[zv9] at h
  split at h
  · split at h
    · rename_i hc
      subst hc
      simp only[Rv] at hy ⊢
      obtain⟨vs,h1,h2⟩:=hy
      exact⟨vs,h1,zhc hφ h hp h2⟩
    · cases h
  · cases h
 | .ifc t x,a,ps,h,hp,y,hy=>by
  simp only[zv9] at h
  split at h
  · split at h
    · rename_i hc
      subst hc
      simp only[Rv] at hy ⊢
      obtain⟨vs,h1,h2⟩:=hy
      exact⟨vs,h1,yfo hφ h hp h2⟩
    · cases h
  · exact zkb h hp hy
 | .tt,a,ps,h,hp,y,hy=>by simp only[zv9] at h;exact zkb h hp hy
 | .ff,a,ps,h,hp,y,hy=>by simp only[zv9] at h;exact zkb h hp hy
 | .v x,a,ps,h,hp,y,hy=>by simp only[zv9] at h;exact zkb h hp hy
 | .q _,a,ps,h,_,_,_=>by simp[zv9] at h
 | .zp,a,ps,h,_,_,_=>by simp[zv9] at h
 | .opq ids X,a,ps,h,hp,y,hy=>by
  simp only[zv9] at h
  split at h
  · rename_i js Y
    split at h
    · rename_i hc
      simp only[Option.some.injEq] at h
      subst h
      have e:X=Y:=hp _ (by simp)
      subst e
      simp only[Rv] at hy ⊢
      rw[zq4 hφ hc]
      exact hy
    · cases h
  · cases h
theorem zhc{ρ ρ':Env}{n0:Nat}{φ:Ren}(hφ:∀id o,look n0 φ id=some o→ρ' id=o.bind ρ):∀{es as:List Av}{ps:List Prop},ymo n0 φ es as=some ps→(∀p ∈ ps,p)→∀{ys:List Value},RvL ρ as ys→RvL ρ' es ys
 | [],as,ps,h,hp,ys,hy=>by
  simp only[ymo] at h
  split at h
  · cases ys with
    | nil=>trivial
    | cons _ _=>simp[RvL] at hy
  · cases h
 | e::es,as,ps,h,hp,ys,hy=>by
  simp only[ymo] at h
  split at h
  · obtain⟨p1,p2,h1,h2,rfl⟩:=zg9 h
    cases ys with
    | nil=>simp[RvL] at hy
    | cons y ys=>exact⟨yfo hφ h1 (fun p hp'=>hp p (by simp[hp'])) hy.1,zhc hφ h2 (fun p hp'=>hp p (by simp[hp'])) hy.2⟩
  · cases h
end
def yw7(a b:Bool):Bool := !a||b
def tyOk:Option TypeId→Option TypeId→Bool
 | none,_=>true
 | some t,some u=>t==u
 | _,_=>false
def yl1(n0:Nat)(φ:Ren):Blk→Blk→Option (List Prop)
 | .dead,_=>some []
 | .fix cs o ty,b=>match b with | .fix ds o' ty'=>if yw7 o o'&&tyOk ty ty' then ymo n0 φ cs ds else none|_=>none
 | .arr sh xs o,b=>match b with | .arr sh' ys o'=>if yw7 o o' then (if h:sh'=sh then some [xs=h ▸ ys] else none) else none|_=>none
 | .ob o ids s R,b=>match b with | .ob o' js s' S=>if yw7 o o'&&zxh n0 φ ids js then some [s=s',R=S] else none|_=>none
def chkN:Blk→Option (List Prop)
 | .arr _ xs _=>some [xs=[]]
 | .dead=>some []
 | _=>none
theorem zbm{n0:Nat}{φ:Ren}{e b:Blk}{ps:List Prop}(h:yl1 n0 φ e b=some ps):(e.own=true→b.own=true)∧(e.live=true→b.live=true):=by
 cases e with
 | dead=>exact⟨fun h=>(by cases h),fun h=>(by cases h)⟩
 | fix cs o ty =>
  simp only[yl1] at h
  split at h
  · split at h
    · rename_i o' _ hc
      simp only[Bool.and_eq_true] at hc
      exact⟨fun e=>by simp only[Blk.own] at e ⊢;subst e;simpa[yw7] using hc.1,fun _=>rfl⟩
    · cases h
  · cases h
 | arr sh xs o =>
  simp only[yl1] at h
  split at h
  · split at h
    · rename_i o' hc
      exact⟨fun e=>by simp only[Blk.own] at e ⊢;subst e;simpa[yw7] using hc,fun _=>rfl⟩
    · cases h
  · cases h
 | ob o ids s R =>
  simp only[yl1] at h
  split at h
  · split at h
    · rename_i o' _ _ _ hc
      simp only[Bool.and_eq_true] at hc
      exact⟨fun e=>by simp only[Blk.own] at e ⊢;subst e;simpa[yw7] using hc.1,fun _=>rfl⟩
    · cases h
  · cases h
theorem ys9{ρ ρ':Env}{n0:Nat}{φ:Ren}(hφ:∀id o,look n0 φ id=some o→ρ' id=o.bind ρ){e b:Blk}{ps:List Prop}(h:yl1 n0 φ e b=some ps)(hp:∀p ∈ ps,p){id j:Nat}(hid:ρ' id=ρ j){w:World}(hb:Rb ρ w j b):Rb ρ' w id e:=by
 have hfl:=(zbm h).1
 cases e with
 | dead=>trivial
 | fix cs o ty =>
  simp only[yl1] at h
  split at h
  · rename_i ds o' ty'
    split at h
    · rename_i hc
      simp only[Bool.and_eq_true] at hc
      obtain⟨L,vs,h1,h2,h3,h4,h5,h6⟩:=hb
      have hv:=zhc hφ h hp h2
      exact⟨L,vs,by rw[hid];exact h1,hv,h3,fun ho j hj=>h4 (hfl ho) j (by rw[zbf h2, ← zbf hv];exact hj),fun t ht=>h5 t (by
       subst ht
       have:=hc.2
       cases ty' with
       | none=>simp[tyOk] at this
       | some u=>simp[tyOk] at this;rw[this]),by rw[zbf hv, ← zbf h2];exact h6⟩
    · cases h
  · cases h
 | arr sh xs o =>
  simp only[yl1] at h
  split at h
  · rename_i sh' ys o'
    split at h
    · split at h
      · rename_i hsh
        subst hsh
        simp only[Option.some.injEq] at h
        subst h
        have e:xs=ys:=hp _ (by simp)
        subst e
        rcases hb with ⟨h1,h2⟩|⟨L,h1,h2,h3,h4⟩
        · exact .inl ⟨by rw[hid];exact h1,h2⟩
        · exact .inr ⟨L,by rw[hid];exact h1,h2,h3,fun ho=>h4 (hfl ho)⟩
      · cases h
    · cases h
  · cases h
 | ob o ids s R =>
  simp only[yl1] at h
  split at h
  · rename_i o' js s' S
    split at h
    · rename_i hc
      simp only[Bool.and_eq_true] at hc
      simp only[Option.some.injEq] at h
      subst h
      have e0:s=s':=hp _ (by simp)
      have e:R=S:=hp _ (by simp)
      subst e0 e
      simp only[Rb] at hb ⊢
      have e1:spot ρ' id=spot ρ j:=by unfold spot;rw[hid]
      rw[zq4 hφ hc.2,hid,e1]
      exact hb
    · cases h
  · cases h
def yx2(n0:Nat)(φ:Ren)(H1:Heap):Nat→Heap→Option (List Prop)
 | _,[]=>some []
 | id,b::bs =>
  app2 (match b with
   | .dead=>some []
   | b=>match look n0 φ id with
    | some (some j)=>(match H1[j]? with|some c=>yl1 n0 φ b c|none=>none)
    | some none=>chkN b
    | none=>none) (yx2 n0 φ H1 (id+1) bs)
def mvOk(n0:Nat)(H1 H2:Heap)(j:Nat):Bool:=decide (n0≤j)||(!(H2.getD j .dead).live&&(H1.getD j .dead).own)
def ztp(n0 n2:Nat)(mv:Nat→Bool):Ren→Bool
 | []=>true
 | (k,o)::φ=>decide (n0≤k)&&decide (k<n2)&&(match o with|some j=>mv j&&φ.all (fun p => !(p.2==some j))|none=>true)&&φ.all (fun p => !(p.1==k))&&ztp n0 n2 mv φ
def yx3(n0:Nat)(φ:Ren)(sl2:List Av)(H2:Heap)(sl1:List Av)(H1:Heap):Option (List Prop) :=
 if decide (n0≤H2.length)&&ztp n0 H2.length (mvOk n0 H1 H2) φ then app2 (ymo n0 φ sl2 sl1) (yx2 n0 φ H1 0 H2) else none
theorem zdn{n0:Nat}{φ:Ren}{H1:Heap}:∀{H2:Heap}{k:Nat}{ps:List Prop},yx2 n0 φ H1 k H2=some ps→(∀p ∈ ps,p)→∀(i:Nat)(b:Blk),H2[i]? = some b→b.live=true →
 (∃j c qs,look n0 φ (k+i)=some (some j)∧H1[j]? = some c∧yl1 n0 φ b c=some qs∧∀p ∈ qs,p)∨(look n0 φ (k+i)=some none∧∃sh o,b = .arr sh [] o)
 | [],_,_,_,_,i,b,hi,_=>by simp at hi
 | c::H2,k,ps,h,hp,i,b,hi,hl=>by
  simp only[yx2] at h
  obtain⟨p1,p2,h1,h2,rfl⟩:=zg9 h
  cases i with
  | succ i =>
   have:=zdn h2 (fun p hp'=>hp p (by simp[hp'])) i b (by simpa using hi) hl
   rwa [show k+1+i=k+(i+1) by omega] at this
  | zero =>
   simp only[List.getElem?_cons_zero,Option.some.injEq] at hi
   subst hi
   rw[Nat.add_zero]
   split at h1
   · cases hl
   · split at h1
     · rename_i j hj
       split at h1
       · rename_i d hd
         exact .inl ⟨j,d,p1,hj,hd,h1,fun p hp'=>hp p (by simp[hp'])⟩
       · cases h1
     · rename_i hj
       right
       refine⟨hj, ?_⟩
       unfold chkN at h1
       split at h1
       · rename_i sh xs o _
         simp only[Option.some.injEq] at h1
         subst h1
         have e:=hp _ List.mem_cons_self
         exact⟨sh,o,by rw[e]⟩
       · cases hl
       · cases h1
     · cases h1
theorem zne{n0:Nat}{H1 H2:Heap}{j:Nat}(h:mvOk n0 H1 H2 j=true):n0≤j∨((∀b,H2[j]? = some b→b.live=false)∧∀d,H1[j]? = some d→d.own=true):=by
 unfold mvOk at h
 simp only[Bool.or_eq_true,decide_eq_true_eq,Bool.and_eq_true,Bool.not_eq_true'] at h
 rcases h with h|⟨h,g⟩
 · exact .inl h
 · refine .inr ⟨fun b hb => ?_,fun d hd => ?_⟩
   · rw[List.getD_eq_getElem?_getD,hb] at h;exact h
   · rw[List.getD_eq_getElem?_getD,hd] at g;exact g
theorem zm0{n0 n2:Nat}{mv:Nat→Bool}:∀{φ:Ren},ztp n0 n2 mv φ=true→(∀k o,φ.lookup k=some o→n0≤k∧k<n2∧∀j,o=some j→mv j=true)∧∀k l j,φ.lookup k=some (some j)→φ.lookup l=some (some j)→k=l
 | [],_=>⟨fun k o h=>by simp at h,fun k l j h=>by simp at h⟩
 | (k0,o0)::φ,h=>by
  simp only[ztp,Bool.and_eq_true,decide_eq_true_eq] at h
  obtain⟨⟨⟨⟨h1,h2⟩,h3⟩,h4⟩,h5⟩:=h
  obtain⟨g1,g2⟩:=zm0 h5
  have hmem:∀(l j:Nat),φ.lookup l=some (some j)→o0=some j→False:=by
   intro l j hl ho
   subst ho
   simp only[Bool.and_eq_true] at h3
   have:=List.all_eq_true.1 h3.2 (l,some j) (zd4 hl)
   simp at this
  refine⟨fun k o hk => ?_,fun k l j hk hl => ?_⟩
  · simp only[List.lookup_cons] at hk
    split at hk
    · rename_i e
      simp only[Option.some.injEq] at hk
      have e':k=k0:=by simpa using e
      subst e' hk
      refine⟨h1,h2,fun j hj => ?_⟩
      subst hj
      simp only[Bool.and_eq_true] at h3
      exact h3.1
    · exact g1 k o hk
  · simp only[List.lookup_cons] at hk hl
    split at hk<;>split at hl
    · rename_i _ e1 _ e2
      have e1':k=k0:=by simpa using e1
      have e2':l=k0:=by simpa using e2
      rw[e1',e2']
    · simp only[Option.some.injEq] at hk;exact (hmem l j hl hk).elim
    · simp only[Option.some.injEq] at hl;exact (hmem k j hk hl).elim
    · exact g2 k l j hk hl
structure Fit (B:Base) (φ:Ren) (sl2:List Av) (H2:Heap) (sl1:List Av) (H1:Heap):Prop where
 ok:∃ps,yx3 B.H.length φ sl2 H2 sl1 H1=some ps∧zsy ps
theorem zfb{n0 id:Nat}{φ:Ren}(h:id<n0):look n0 φ id=some (some id):=by simp[look,h]
theorem zhh{n0 id:Nat}{φ:Ren}(h:n0≤id):look n0 φ id=φ.lookup id:=by simp[look,Nat.not_lt.2 h]
def zub(ρ:Env)(n0:Nat)(φ:Ren):Env:=fun id=>match look n0 φ id with|some (some j)=>ρ j|_=>none
theorem ziv{ρ:Env}{n0:Nat}{φ:Ren}{H1 H2:Heap}{w:World}(hk:ztp n0 H2.length (mvOk n0 H1 H2) φ=true)(hn:n0≤H2.length){ps:List Prop}(hH:yx2 n0 φ H1 0 H2=some ps)(hp:∀p ∈ ps,p)(hr:Rel ρ H1 w){ρ':Env}(hag:Agree H2.length (zub ρ n0 φ) ρ') :
 (∀id o,look n0 φ id=some o→ρ' id=o.bind ρ)∧Rel ρ' H2 w:=by
 obtain⟨k1,k2⟩:=zm0 hk
 have hφ:∀id o,look n0 φ id=some o→ρ' id=o.bind ρ:=by
  intro id o h
  have hlt:id<H2.length:=by
   rcases Nat.lt_or_ge id n0 with q|q
   · omega
   · rw[zhh q] at h;exact (k1 id o h).2.1
  rw[hag id hlt]
  unfold zub
  rw[h]
  cases o<;>rfl
 have inj:∀i j k b c,i≠j→H2[i]? = some b→H2[j]? = some c→b.live=true→c.live=true→look n0 φ i=some (some k)→look n0 φ j=some (some k)→False:=by
  intro i j k b c hne hbi hcj hbl hcl hi hj
  rcases Nat.lt_or_ge i n0 with q|q<;>rcases Nat.lt_or_ge j n0 with q'|q'
  · rw[zfb q] at hi;rw[zfb q'] at hj;simp at hi hj;omega
  · rw[zfb q] at hi;rw[zhh q'] at hj
    have hik:i=k:=by simpa using hi
    subst hik
    rcases zne ((k1 j _ hj).2.2 i rfl) with g|⟨g,_⟩
    · omega
    · rw[g b hbi] at hbl;cases hbl
  · rw[zhh q] at hi;rw[zfb q'] at hj
    have hjk:j=k:=by simpa using hj
    subst hjk
    rcases zne ((k1 i _ hi).2.2 j rfl) with g|⟨g,_⟩
    · omega
    · rw[g c hcj] at hcl;cases hcl
  · rw[zhh q] at hi;rw[zhh q'] at hj;exact hne (k2 i j k hi hj)
 refine⟨hφ,fun i b hi => ?_,fun i j b c L M hi hj hne hbl hcl hoo hL hM => ?_,fun i b L hi hl hL => ?_⟩
 · cases hl:b.live with
   | false=>cases b<;>simp[Blk.live] at hl;trivial
   | true =>
    rcases zdn hH hp i b hi hl with ⟨j,c,qs,h1,h2,h3,h4⟩|⟨h1,sh,o,rfl⟩
    · rw[Nat.zero_add] at h1
      exact ys9 hφ h3 h4 (hφ i _ h1) (hr.blk j c h2)
    · rw[Nat.zero_add] at h1
      exact .inl ⟨hφ i _ h1,rfl⟩
 · rcases zdn hH hp i b hi hbl with ⟨i',b',qs,h1,h2,h3,h4⟩|⟨h1,_⟩
   · rcases zdn hH hp j c hj hcl with ⟨j',c',qs',g1,g2,g3,g4⟩|⟨g1,_⟩
     · rw[Nat.zero_add] at h1 g1
       rw[hφ i _ h1] at hL
       rw[hφ j _ g1] at hM
       have hne':i'≠j':=fun e=>by subst e;exact inj i j i' b c hne hi hj hbl hcl h1 g1
       exact hr.sep i' j' b' c' L M h2 g2 hne' ((zbm h3).2 hbl) ((zbm g3).2 hcl) (hoo.imp (zbm h3).1 (zbm g3).1) hL hM
     · rw[Nat.zero_add] at g1;rw[hφ j _ g1] at hM;cases hM
   · rw[Nat.zero_add] at h1;rw[hφ i _ h1] at hL;cases hL
 · rcases zdn hH hp i b hi hl with ⟨i',b',qs,h1,h2,h3,h4⟩|⟨h1,_⟩
   · rw[Nat.zero_add] at h1
     rw[hφ i _ h1] at hL
     exact hr.inb i' b' L h2 ((zbm h3).2 hl) hL
   · rw[Nat.zero_add] at h1;rw[hφ i _ h1] at hL;cases hL
theorem Inv.recast{B:Base}{φ:Ren}{sl1 sl2:List Av}{H1 H2:Heap}{a:Act}{w:World}(h:Inv B sl1 H1 a w)(hf:Fit B φ sl2 H2 sl1 H1):Inv B sl2 H2 a w:=by
 obtain⟨ps,hc,hps⟩:=hf.ok
 rw[zcu] at hps
 unfold yx3 at hc
 split at hc
 case isFalse=>cases hc
 rename_i hk
 simp only[Bool.and_eq_true,decide_eq_true_eq] at hk
 obtain⟨p1,p2,h1,h2,rfl⟩:=zg9 hc
 obtain⟨i1,i2,i3,ρ,i4,i5,i6⟩:=h
 obtain⟨hs,hr⟩:=i5 ρ (Agree.refl _ _)
 have hpH:∀p ∈ p2,p:=fun p hp=>hps p (by simp[hp])
 obtain⟨k1,_⟩:=zm0 hk.2
 refine⟨i1,i2,⟨hk.1,fun i b c hb hc' => ?_⟩,zub ρ B.H.length φ,fun i hi => ?_,fun ρ' hag => ?_,fun id blk L hid hb hl hL => ?_⟩
 · have hlt:i<B.H.length:=by
    rcases Nat.lt_or_ge i B.H.length with q|q
    · exact q
    · simp[List.getElem?_eq_none q] at hb
   cases hl:c.live with
   | false=>cases c<;>simp[Blk.live] at hl;exact⟨fun h=>(by cases h),fun h=>(by cases h)⟩
   | true =>
    rcases zdn h2 hpH i c hc' hl with ⟨j,d,qs,g1,g2,g3,g4⟩|⟨g1,_⟩
    · rw[Nat.zero_add,zfb hlt] at g1
      simp only[Option.some.injEq] at g1
      subst g1
      obtain⟨f1,f2⟩:=i3.fl i b d hb g2
      obtain⟨e1,e2⟩:=zbm g3
      exact⟨fun h=>f1 (e1 h),fun _=>f2 (e2 hl)⟩
    · rw[Nat.zero_add,zfb hlt] at g1;simp at g1
 · unfold zub
   rw[zfb hi]
   exact i4 i hi
 · obtain⟨hφ,hrel⟩:=ziv hk.2 hk.1 h2 hpH hr hag
   exact⟨zhc hφ h1 (fun p hp=>hps p (by simp[hp])) hs,hrel⟩
 · rcases zdn h2 hpH id blk hb hl with ⟨j,d,qs,g1,g2,g3,g4⟩|⟨g1,_⟩
   · rw[Nat.zero_add] at g1
     unfold zub at hL
     rw[g1] at hL
     rw[zhh hid] at g1
     rcases zne ((k1 id _ g1).2.2 j rfl) with g|⟨_,g⟩
     · exact i6 j d L g g2 ((zbm g3).2 hl) hL
     · rcases Nat.lt_or_ge j B.H.length with q|q
       · left
         refine⟨j,B.H[j],L,List.getElem?_eq_getElem q,(i3.fl j _ d (List.getElem?_eq_getElem q) g2).1 (g d g2), ?_,rfl⟩
         rw[← i4 j q];exact hL
       · exact i6 j d L q g2 ((zbm g3).2 hl) hL
   · rw[Nat.zero_add] at g1
     unfold zub at hL
     rw[g1] at hL
     cases hL
end Go.Proofs.YtfiddfbagbaofaaGreat.V
