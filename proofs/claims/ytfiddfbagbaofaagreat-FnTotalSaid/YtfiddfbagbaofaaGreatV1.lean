/- A small machine of signs and its soundness, part 1: no program in sight. Conditions: those in each statement. -/
import Derived.WalkKit
import Derived.Laws.StructEq
import Derived.Laws.BytesString
import Derived.Deep.AppendSrc
import Derived.Laws.MakeOwn
import Derived.Great.BuildSlice
namespace Go.Proofs.YtfiddfbagbaofaaGreat.V
open Go
inductive Ty where
 | b
 | i (k:IntKind)
 | sv
deriving DecidableEq
@[reducible] def Ty.T:Ty→Type
 | .b=>Bool
 | .i _=>Int
 | .sv=>Option Addr × Nat × Nat
def Ty.val:(t:Ty)→t.T→Value
 | .b,x => .bool x
 | .i k,x => .int k x
 | .sv,x => .slice x.1 x.2.1 x.2.2
def Ty.zero:(t:Ty)→t.T
 | .b=>false
 | .i _=>(0:Int)
 | .sv=>(none,0,0)
@[reducible] def El:List Ty→Type
 | []=>Unit
 | [t]=>t.T
 | t::u::ts=>t.T × El (u::ts)
def El.vals:(sh:List Ty)→El sh→List Value
 | [],_=>[]
 | [t],x=>[t.val x]
 | t::u::ts,x=>t.val x.1::El.vals (u::ts) x.2
def El.zero:(sh:List Ty)→El sh
 | []=>()
 | [t]=>t.zero
 | t::u::ts=>(t.zero,El.zero (u::ts))
def Ty.get(t:Ty):Value→Option t.T :=
 match t with
 | .b=>fun | .bool x=>some x|_=>none
 | .i k=>fun | .int j n=>if j=k then some n else none|_=>none
 | .sv=>fun | .slice a n c=>some (a,n,c)|_=>none
def El.get:(sh:List Ty)→List Value→Option (El sh)
 | [],[]=>some ()
 | [t],[v]=>t.get v
 | t::u::ts,v::vs=>match t.get v,El.get (u::ts) vs with|some x,some y=>some (x,y)|_,_=>none
 | _,_=>none
theorem Ty.get_val{t:Ty}{v:Value}{x:t.T}(h:t.get v=some x):v=t.val x:=by
 cases t with
 | b=>cases v<;>simp[Ty.get] at h;subst h;rfl
 | i k =>
  cases v<;>simp[Ty.get] at h
  obtain⟨rfl,rfl⟩:=h
  rfl
 | sv =>
  cases v<;>simp[Ty.get] at h
  subst h
  rfl
theorem El.get_vals:∀{sh:List Ty}{vs:List Value}{x:El sh},El.get sh vs=some x→vs=El.vals sh x:=by
 intro sh
 induction sh with
 | nil=>intro vs x h;cases vs<;>simp[El.get] at h;rfl
 | cons t ts ih =>
  intro vs x h
  cases ts with
  | nil =>
   match vs,h with
   | [v],h=>simp only[El.get] at h;simp only[El.vals];rw[Ty.get_val h]
  | cons u us =>
   match vs,h with
   | [],h=>simp[El.get] at h
   | v::vs,h =>
    simp only[El.get] at h
    cases h1:t.get v with
    | none=>simp[h1] at h
    | some a =>
     cases h2:El.get (u::us) vs with
     | none=>simp[h1,h2] at h
     | some b =>
      simp[h1,h2] at h
      subst h
      simp only[El.vals]
      rw[← Ty.get_val h1, ← ih h2]
theorem El.vals_length:∀{sh:List Ty}(x:El sh),(El.vals sh x).length=sh.length:=by
 intro sh
 induction sh with
 | nil=>intro x;rfl
 | cons t ts ih=>cases ts with
  | nil=>intro x;rfl
  | cons u us=>intro x;simp only[El.vals,List.length_cons];have:=ih x.2;simp at this;omega
inductive Av where
 | any
 | tt
 | ff
 | v (x:Value)
 | ptr (id sub:Nat)
 | eptr (id sz i sub:Nat)
 | sl (id sz lo len:Nat)
 | agg (cs:List Av)
 | tup (cs:List Av)
 | fn (f:FuncId) (caps:List Av)
 | ifc (t:TypeId) (x:Av)
 | q (p:Prop)
 | zp
 | opq (ids:List Nat) (X:List (Option (Nat × Nat))→Value→Prop)
structure Hid where
 cs:List (Nat × Value):=[]
 shp:Option (TypeId × Nat):=none
structure Loc where
 b:Nat
 off:Nat
 cap:Nat
 hid:Hid:={}
def Loc.Kept(L:Loc)(w:World)(n:Nat):Prop:=(∀s,L.hid.shp=some s→w.shape? L.b=some s)∧∀p ∈ L.hid.cs,(p.1<L.off∨L.off+n≤p.1)∧w.cell? ⟨L.b,p.1,none⟩=some p.2∧w.frozen? ⟨L.b,p.1,none⟩=false
theorem Loc.kept_new(b off cap:Nat)(w:World)(n:Nat):(Loc.mk b off cap {}).Kept w n:=⟨fun s h=>(by cases h),fun p h=>(by cases h)⟩
theorem Loc.Kept.mono{L:Loc}{w w':World}{n:Nat}(h:L.Kept w n)(hs:w'.shape? L.b=w.shape? L.b)(hc:∀p ∈ L.hid.cs,w'.cell? ⟨L.b,p.1,none⟩=w.cell? ⟨L.b,p.1,none⟩)(hf:∀p ∈ L.hid.cs,w'.frozen? ⟨L.b,p.1,none⟩=w.frozen? ⟨L.b,p.1,none⟩):L.Kept w' n :=
 ⟨fun s e=>by rw[hs];exact h.1 s e,fun p hp=>⟨(h.2 p hp).1,by rw[hc p hp];exact (h.2 p hp).2.1,by rw[hf p hp];exact (h.2 p hp).2.2⟩⟩
abbrev Env:=Nat→Option Loc
def spot(ρ:Env)(i:Nat):Option (Nat × Nat):=(ρ i).map fun L=>(L.b,L.off)
mutual
def Rv(ρ:Env):Av→Value→Prop
 | .any,_=>True
 | .tt,y=>y = .bool true
 | .ff,y=>y = .bool false
 | .v x,y=>y=x
 | .ptr id sub,y=>∃L,ρ id=some L∧y = .pointer (some ⟨L.b,L.off+sub,none⟩)
 | .eptr id sz i sub,y=>∃L,ρ id=some L∧y = .pointer (some ⟨L.b,L.off+i*sz+sub,none⟩)
 | .sl id sz lo len,y=>(ρ id=none∧lo=0∧len=0∧∃p,y = .slice p 0 0) ∨
  ∃L o,ρ id=some L∧lo+len≤L.cap∧(o=lo∨L.cap=lo)∧y = .slice (some ⟨L.b,L.off+o*sz,none⟩) len (L.cap-lo)
 | .agg cs,y=>∃vs:List Value,y = .agg vs.toArray∧RvL ρ cs vs
 | .tup cs,y=>∃vs:List Value,y = .tuple vs.toArray∧RvL ρ cs vs
 | .fn f cs,y=>∃vs:List Value,y = .func (.func f) #[] vs.toArray∧RvL ρ cs vs
 | .ifc t x,y=>∃u,y = .iface t u∧Rv ρ x u
 | .q p,y=>∃b:Bool,y = .bool b∧(b=true→p)
 | .zp,y=>∃a,y = .pointer (some a)
 | .opq ids X,y=>(∃t u,y = .iface t u)∧X (ids.map (spot ρ)) y
def RvL(ρ:Env):List Av→List Value→Prop
 | [],[]=>True
 | a::as,v::vs=>Rv ρ a v∧RvL ρ as vs
 | _,_=>False
end
@[reducible] def Hold:Option Prop→Prop
 | none=>True
 | some p=>p
inductive Blk where
 | dead
 | fix (cells:List Av) (own:Bool) (ty:Option TypeId:=none)
 | arr (sh:List Ty) (xs:List (El sh)) (own:Bool)
 | ob (own:Bool) (ids:List Nat) (s:List (List Int)) (R:List (List Int)→List (Option (Nat × Nat))→Option Obj→Prop)
def Blk.own:Blk→Bool
 | .dead=>false
 | .fix _ o _=>o
 | .arr _ _ o=>o
 | .ob o _ _ _=>o
def Blk.live:Blk→Bool
 | .dead=>false
 | _=>true
abbrev Heap:=List Blk
def Rb(ρ:Env)(w:World)(id:Nat):Blk→Prop
 | .dead=>True
 | .fix cells own ty=>∃L vs,ρ id=some L∧RvL ρ cells vs∧(∀j v,vs[j]? = some v→w.cell? ⟨L.b,L.off+j,none⟩=some v)∧(own=true→∀j,j<cells.length→w.frozen? ⟨L.b,L.off+j,none⟩=false)∧(∀t,ty=some t→L.off=0∧∃n,w.shape? L.b=some (t,n))∧L.Kept w cells.length
 | .arr sh xs own=>(ρ id=none∧xs=[])∨∃L,ρ id=some L∧xs.length≤L.cap ∧
  (∀i x,xs[i]? = some x→∀j v,(El.vals sh x)[j]? = some v→w.cell? ⟨L.b,L.off+i*sh.length+j,none⟩=some v) ∧
  (own=true→∀j,j<L.cap*sh.length→(w.cell? ⟨L.b,L.off+j,none⟩).isSome=true∧w.frozen? ⟨L.b,L.off+j,none⟩=false)
 | .ob _ ids s R=>R s (spot ρ id::ids.map (spot ρ)) ((ρ id).bind fun L=>w.heap[L.b]?)
structure Rel (ρ:Env) (H:Heap) (w:World):Prop where
 blk:∀id b,H[id]? = some b→Rb ρ w id b
 sep:∀i j b c L M,H[i]? = some b→H[j]? = some c→i≠j→b.live=true→c.live=true→(b.own=true∨c.own=true)→ρ i=some L→ρ j=some M→L.b≠M.b
 inb:∀i b L,H[i]? = some b→b.live=true→ρ i=some L→L.b<w.heap.size
theorem zbf{ρ:Env}:∀{as:List Av}{vs:List Value},RvL ρ as vs→as.length=vs.length
 | [],[],_=>rfl
 | [],_::_,h=>by simp[RvL] at h
 | _::_,[],h=>by simp[RvL] at h
 | _::as,_::vs,h=>by simp only[RvL] at h;simp[zbf h.2]
theorem zfz{ρ:Env}:∀{as:List Av}{vs:List Value},RvL ρ as vs→∀{j:Nat}{a:Av},as[j]? = some a→∃v,vs[j]? = some v∧Rv ρ a v
 | [],[],_,j,a,hj=>by simp at hj
 | [],_::_,h,_,_,_=>by simp[RvL] at h
 | _::_,[],h,_,_,_=>by simp[RvL] at h
 | x::as,v::vs,h,j,a,hj=>by
  simp only[RvL] at h
  cases j with
  | zero=>simp at hj;subst hj;exact⟨v,rfl,h.1⟩
  | succ j=>simpa using zfz h.2 (by simpa using hj)
theorem zex{ρ:Env}:∀{as bs:List Av}{vs us:List Value},RvL ρ as vs→RvL ρ bs us→RvL ρ (as++bs) (vs++us)
 | [],_,[],_,_,h=>h
 | [],_,_::_,_,h,_=>by simp[RvL] at h
 | _::_,_,[],_,h,_=>by simp[RvL] at h
 | _::_,_,_::_,_,h,g=>by simp only[RvL] at h;exact⟨h.1,zex h.2 g⟩
theorem zwl{ρ:Env}:∀{as:List Av}{vs:List Value}(j:Nat){a:Av}{v:Value},RvL ρ as vs→Rv ρ a v→RvL ρ (as.set j a) (vs.set j v)
 | [],[],_,_,_,_,_=>by simp[RvL]
 | [],_::_,_,_,_,h,_=>by simp[RvL] at h
 | _::_,[],_,_,_,h,_=>by simp[RvL] at h
 | _::as,_::vs,0,_,_,h,g=>by simp only[RvL] at h;exact⟨g,h.2⟩
 | _::as,_::vs,j+1,_,_,h,g=>by simp only[RvL] at h;exact⟨h.1,zwl j h.2 g⟩
theorem zht{ρ:Env}:∀(n:Nat){as:List Av}{vs:List Value},RvL ρ as vs→RvL ρ (as.take n) (vs.take n)
 | 0,_,_,_=>by simp[RvL]
 | _+1,[],[],_=>by simp[RvL]
 | _+1,[],_::_,h=>by simp[RvL] at h
 | _+1,_::_,[],h=>by simp[RvL] at h
 | n+1,_::_,_::_,h=>by simp only[RvL] at h;exact⟨h.1,zht n h.2⟩
theorem zhs{ρ:Env}:∀(n:Nat){as:List Av}{vs:List Value},RvL ρ as vs→RvL ρ (as.drop n) (vs.drop n)
 | 0,_,_,h=>h
 | _+1,[],[],_=>by simp[RvL]
 | _+1,[],_::_,h=>by simp[RvL] at h
 | _+1,_::_,[],h=>by simp[RvL] at h
 | n+1,_::_,_::_,h=>by simp only[RvL] at h;exact zhs n h.2
theorem zgh{ρ:Env}:∀(vs:List Value),RvL ρ (vs.map .v) vs
 | []=>by simp[RvL]
 | _::vs=>⟨rfl,zgh vs⟩
theorem zcm(b o n:Nat):(⟨b,o,none⟩:Addr).add n=⟨b,o+n,none⟩:=Addr.add_lit b o n
def zdq(P:Program)(t:TypeId):Option (Option Nat) :=
 match P.underlying t with
 | none=>none
 | some (.struct _)|some (.array _ _)=>(P.info? t).map fun i=>some i.size
 | some _=>some none
theorem zff{P:Program}{t:TypeId}(h:zdq P t=some none){w:World}{a:Addr}{v:Value}(hc:w.cell? a=some v):(loadVar t a).run P w = .ok v w:=by
 unfold zdq at h
 cases hu:P.underlying t with
 | none=>simp[hu] at h
 | some d=>cases d<;>simp[hu] at h<;>simp[loadVar,isAgg,run_underlying hu,hc]
theorem zdb{P:Program}{t:TypeId}{n:Nat}(h:zdq P t=some (some n)){w:World}{a:Addr}{vs:List Value}(hl:vs.length=n)(hc:∀j v,vs[j]? = some v→w.cell? (a.add j)=some v) :
 (loadVar t a).run P w = .ok (.agg vs.toArray) w:=by
 have hr:=run_loadCells_list (P:=P) w a vs hc
 rw[hl] at hr
 unfold zdq at h
 cases hu:P.underlying t with
 | none=>simp[hu] at h
 | some d =>
  cases d<;>simp[hu] at h<;>(obtain⟨i,hi,rfl⟩:=h;simp[loadVar,isAgg,run_underlying hu,sizeOf,typeInfo,hi,hr])
def setCells(w:World)(a:Addr):List Value→Nat→World
 | [],_=>w
 | v::vs,i=>setCells (w.setCell (a.add i) v) a vs (i+1)
theorem zjv(a:Addr):∀(vs:List Value)(i:Nat)(w:World),(setCells w a vs i).heap.size=w.heap.size
 | [],_,_=>rfl
 | v::vs,i,w=>by simp only[setCells];rw[zjv a vs];simp
theorem zho(a x:Addr):∀(vs:List Value)(i:Nat)(w:World),(setCells w a vs i).frozen? x=w.frozen? x
 | [],_,_=>rfl
 | v::vs,i,w=>by simp only[setCells];rw[zho a x vs];simp
theorem zue(w:World)(a:Addr)(v:Value)(b:Nat)(h:b≠a.block):(w.setCell a v).heap[b]? = w.heap[b]? := by
 simp[World.setCell,Array.getElem?_modify,Ne.symm h]
theorem zju(bb o:Nat)(b:Nat)(h:b≠bb):∀(vs:List Value)(i:Nat)(w:World),(setCells w ⟨bb,o,none⟩ vs i).heap[b]? = w.heap[b]?
 | [],_,_=>rfl
 | v::vs,i,w=>by simp only[setCells];rw[zju bb o b h vs,zue _ _ _ _ (by rw[zcm];exact h)]
theorem zbp(b o:Nat)(x:Addr):∀(vs:List Value)(i:Nat)(w:World),(∀j,j<vs.length→x≠⟨b,o+(i+j),none⟩)→(setCells w ⟨b,o,none⟩ vs i).cell? x=w.cell? x
 | [],_,_,_=>rfl
 | v::vs,i,w,h=>by
  simp only[setCells]
  rw[zbp b o x vs (i+1) _ (fun j hj=>by have:=h (j+1) (by simp;omega);rwa [show i+1+j=i+(j+1) by omega])]
  rw[zcm]
  exact World.cell?_setCell_other _ _ _ _ (fun e=>h 0 (by simp) (by rw[← e];rfl))
theorem zfg(b o:Nat):∀(vs:List Value)(i:Nat)(w:World),(∀j,j<vs.length→(w.cell? ⟨b,o+(i+j),none⟩).isSome=true)→∀j v,vs[j]? = some v→(setCells w ⟨b,o,none⟩ vs i).cell? ⟨b,o+(i+j),none⟩=some v
 | [],_,_,_,j,v,hj=>by simp at hj
 | u::vs,i,w,h,j,v,hj=>by
  simp only[setCells]
  rw[zcm]
  have hs:∀x:Addr,(w.cell? x).isSome=true→((w.setCell ⟨b,o+i,none⟩ u).cell? x).isSome=true:=by
   intro x hx
   by_cases e:(⟨b,o+i,none⟩:Addr)=x
   · subst e
     obtain⟨y,hy⟩:=Option.isSome_iff_exists.1 hx
     rw[World.cell?_setCell_same _ _ _ hy];rfl
   · rw[World.cell?_setCell_other _ _ _ _ e];exact hx
  have h':∀j,j<vs.length→((w.setCell ⟨b,o+i,none⟩ u).cell? ⟨b,o+(i+1+j),none⟩).isSome=true:=by
   intro j hj
   have:=h (j+1) (by simp;omega)
   rw[show i+(j+1)=i+1+j by omega] at this
   exact hs _ this
  cases j with
  | zero =>
   simp at hj
   subst hj
   rw[zbp b o _ vs (i+1) _ (fun j _ e=>by injection e with _ e2;omega)]
   obtain⟨y,hy⟩:=Option.isSome_iff_exists.1 (h 0 (by simp))
   simp only[Nat.add_zero] at hy ⊢
   exact World.cell?_setCell_same _ _ _ hy
  | succ j =>
   have:=zfg b o vs (i+1) _ h' j v (by simpa using hj)
   rwa [show i+1+j=i+(j+1) by omega] at this
theorem zig{P:Program}(b o:Nat):∀(vs:List Value)(i:Nat)(w:World),(∀v ∈ vs,v.oneCell'=true)→(∀j,j<vs.length→(w.cell? ⟨b,o+(i+j),none⟩).isSome=true∧w.frozen? ⟨b,o+(i+j),none⟩=false) →
 (storeCells ⟨b,o,none⟩ vs i).run P w = .ok () (setCells w ⟨b,o,none⟩ vs i)
 | [],_,_,_,_=>rfl
 | v::vs,i,w,ho,h=>by
  obtain⟨h1,h2⟩:=h 0 (by simp)
  simp only[Nat.add_zero] at h1 h2
  obtain⟨y,hy⟩:=Option.isSome_iff_exists.1 h1
  simp only[storeCells,setCells,Sem.run_bind,zcm]
  rw[run_store P w _ v .plain (ho v (by simp)),hy]
  simp only[h2,Bool.false_eq_true,if_false,Result.andThen_ok]
  refine zig b o vs (i+1) _ (fun v hv=>ho v (by simp[hv])) (fun j hj => ?_)
  obtain⟨g1,g2⟩:=h (j+1) (by simp;omega)
  rw[show i+(j+1)=i+1+j by omega] at g1 g2
  refine⟨?_,by rw[World.frozen?_setCell];exact g2⟩
  rw[World.cell?_setCell_other _ _ _ _ (fun e=>by injection e with _ e2;omega)]
  exact g1
structure Streams (w w':World):Prop where
 os:w'.os=w.os
 tape:w'.tape=w.tape
 output:w'.output=w.output
theorem Streams.refl(w:World):Streams w w:=⟨rfl,rfl,rfl⟩
theorem Streams.trans{a b c:World}(h:Streams a b)(k:Streams b c):Streams a c:=⟨k.os.trans h.os,k.tape.trans h.tape,k.output.trans h.output⟩
theorem zg1(a:Addr):∀(vs:List Value)(i:Nat)(w:World),Streams w (setCells w a vs i)
 | [],_,w=>Streams.refl w
 | v::vs,i,w=>(⟨rfl,rfl,rfl⟩:Streams w (w.setCell (a.add i) v)).trans (zg1 a vs (i+1) _)
theorem zro(w:World)(a:Addr)(v:Value)(b:Nat):(w.setCell a v).shape? b=w.shape? b:=by
 unfold World.shape? World.setCell
 simp only[Array.getElem?_modify]
 by_cases e:a.block=b
 · simp only[e,if_true]
   cases w.heap[b]? with
   | none=>rfl
   | some o =>
    cases o with
    | cells c t f=>cases hs:a.spot.isSome<;>simp
    | _=>rfl
 · simp only[e,if_false]
theorem zih(a:Addr)(b:Nat):∀(vs:List Value)(i:Nat)(w:World),(setCells w a vs i).shape? b=w.shape? b
 | [],_,_=>rfl
 | v::vs,i,w=>by simp only[setCells];rw[zih a b vs,zro]
structure OnlyB (b:Nat) (w w':World):Prop where
 shape:∀x,w'.shape? x=w.shape? x
 size:w'.heap.size=w.heap.size
 cell:∀x:Addr,x.block≠b→w'.cell? x=w.cell? x
 froz:∀x:Addr,w'.frozen? x=w.frozen? x
 heap:∀c,c≠b→w'.heap[c]? = w.heap[c]?
 str:Streams w w'
theorem zgt(b o:Nat)(vs:List Value)(i:Nat)(w:World):OnlyB b w (setCells w ⟨b,o,none⟩ vs i) where
 shape x:=zih _ x _ _ _
 size:=zjv _ _ _ _
 cell x hx:=zbp b o x vs i w (fun _ _ e=>hx (by rw[e]))
 froz x:=zho _ _ _ _ _
 heap c hc:=zju b o c hc _ _ _
 str:=zg1 _ _ _ _
theorem yeq{ρ:Env}{w w':World}{id:Nat}{own:Bool}{ids:List Nat}{s:List (List Int)}{R:List (List Int)→List (Option (Nat × Nat))→Option Obj→Prop}(h:∀L,ρ id=some L→w'.heap[L.b]? = w.heap[L.b]?)(hb:Rb ρ w id (.ob own ids s R)):Rb ρ w' id (.ob own ids s R):=by
 simp only[Rb] at hb ⊢
 have e:((ρ id).bind fun L=>w'.heap[L.b]?)=(ρ id).bind fun L=>w.heap[L.b]? := by
  cases hL:ρ id with
  | none=>rfl
  | some L=>exact h L hL
 rw[e]
 exact hb
theorem yer{ρ:Env}{b:Nat}{w w':World}(h:OnlyB b w w'){id:Nat}{blk:Blk}(hne:∀L,ρ id=some L→blk.live=true→L.b≠b)(hb:Rb ρ w id blk):Rb ρ w' id blk:=by
 cases blk with
 | dead=>trivial
 | fix cells own ty =>
  obtain⟨L,vs,h1,h2,h3,h4,h5,h6⟩:=hb
  have hn:=hne L h1 rfl
  exact⟨L,vs,h1,h2,fun j v hj=>by rw[h.cell _ hn];exact h3 j v hj,fun ho j hj=>by rw[h.froz];exact h4 ho j hj,fun t ht=>by rw[h.shape];exact h5 t ht,h6.mono (h.shape _) (fun p _=>h.cell _ hn) (fun p _=>h.froz _)⟩
 | arr sh xs own =>
  rcases hb with hb|⟨L,h1,h2,h3,h4⟩
  · exact .inl hb
  · have hn:=hne L h1 rfl
    refine .inr ⟨L,h1,h2,fun i x hx j v hj => ?_,fun ho j hj => ?_⟩
    · rw[h.cell _ hn];exact h3 i x hx j v hj
    · rw[h.cell _ hn,h.froz];exact h4 ho j hj
 | ob own ids s R=>exact yeq (fun L hL=>h.heap _ (hne L hL rfl)) hb
theorem yes{ρ:Env}{H:Heap}{w w':World}{id:Nat}{L:Loc}{blk blk':Blk}(h:Rel ρ H w)(hid:H[id]? = some blk)(hown:blk.own=true)(hL:ρ id=some L)
 (ho:OnlyB L.b w w') (hown':blk'.own=true) (hb:Rb ρ w' id blk'):Rel ρ (H.set id blk') w':=by
 have live:∀{x:Blk},x.own=true→x.live=true:=by intro x hx;cases x<;>simp[Blk.own,Blk.live] at hx ⊢
 have hlt:id<H.length:=by
  rcases Nat.lt_or_ge id H.length with g|g
  · exact g
  · simp[List.getElem?_eq_none g] at hid
 have get:∀i b,(H.set id blk')[i]? = some b→(i=id∧b=blk')∨(i≠id∧H[i]? = some b):=by
  intro i b hi
  by_cases e:id=i
  · subst e;simp[hlt] at hi;exact .inl ⟨rfl,hi.symm⟩
  · rw[List.getElem?_set_ne e] at hi;exact .inr ⟨fun e2=>e e2.symm,hi⟩
 refine⟨fun i b hi => ?_,fun i j b c M N hi hj hne hbl hcl hoo hM hN => ?_,fun i b M hi hbl hM => ?_⟩
 · rcases get i b hi with ⟨rfl,rfl⟩|⟨hne,hi⟩
   · exact hb
   · exact yer ho (fun M hM hl=>h.sep i id b blk M L hi hid hne hl (live hown) (.inr hown) hM hL) (h.blk i b hi)
 · rcases get i b hi with ⟨rfl,rfl⟩|⟨hi1,hi2⟩<;>rcases get j c hj with ⟨rfl,rfl⟩|⟨hj1,hj2⟩
   · exact absurd rfl hne
   · exact h.sep i j blk c M N hid hj2 hne (live hown) hcl (.inl hown) hM hN
   · exact h.sep i j b blk M N hi2 hid hne hbl (live hown) (.inr hown) hM hN
   · exact h.sep i j b c M N hi2 hj2 hne hbl hcl hoo hM hN
 · rw[ho.size]
   rcases get i b hi with ⟨rfl,rfl⟩|⟨_,hi⟩
   · exact h.inb i blk M hid (live hown) hM
   · exact h.inb i b M hi hbl hM
def Agree(n:Nat)(ρ ρ':Env):Prop:=∀id,id<n→ρ' id=ρ id
theorem Agree.refl(n:Nat)(ρ:Env):Agree n ρ ρ:=fun _ _=>rfl
theorem Agree.trans{n:Nat}{ρ ρ' ρ'':Env}(h:Agree n ρ ρ')(g:Agree n ρ' ρ''):Agree n ρ ρ'':=fun i hi=>(g i hi).trans (h i hi)
theorem Agree.le{n m:Nat}{ρ ρ':Env}(h:Agree n ρ ρ')(hm:m≤n):Agree m ρ ρ':=fun i hi=>h i (Nat.lt_of_lt_of_le hi hm)
def upd(ρ:Env)(n:Nat)(L:Option Loc):Env:=fun i=>if i=n then L else ρ i
theorem zb9(ρ:Env)(n:Nat)(L:Option Loc):Agree n ρ (upd ρ n L):=fun i hi=>by simp[upd,Nat.ne_of_lt hi]
theorem zij(ρ:Env)(n:Nat)(L:Option Loc):upd ρ n L n=L:=by simp[upd]
theorem yl8{ρ:Env}{w:World}{o:Obj}{id:Nat}{blk:Blk}(hlt:∀L,ρ id=some L→blk.live=true→L.b<w.heap.size)(hb:Rb ρ w id blk):Rb ρ (w.alloc o) id blk:=by
 have hc:∀x:Addr,x.block<w.heap.size→(w.alloc o).cell? x=w.cell? x:=fun x hx=>World.cell?_alloc_lt w o x hx
 have hf:∀x:Addr,x.block<w.heap.size→(w.alloc o).frozen? x=w.frozen? x:=fun x hx=>World.frozen?_alloc_old w o x (Nat.ne_of_lt hx)
 cases blk with
 | dead=>trivial
 | fix cells own ty =>
  obtain⟨L,vs,h1,h2,h3,h4,h5,h6⟩:=hb
  have hn:=hlt L h1 rfl
  have hsh:(w.alloc o).shape? L.b=w.shape? L.b:=by
   unfold World.shape? World.alloc
   simp only[Array.getElem?_push]
   rw[if_neg (by omega)]
  exact⟨L,vs,h1,h2,fun j v hj=>by rw[hc _ hn];exact h3 j v hj,fun ho j hj=>by rw[hf _ hn];exact h4 ho j hj,fun t ht=>by rw[hsh];exact h5 t ht,h6.mono hsh (fun p _=>hc _ hn) (fun p _=>hf _ hn)⟩
 | arr sh xs own =>
  rcases hb with hb|⟨L,h1,h2,h3,h4⟩
  · exact .inl hb
  · have hn:=hlt L h1 rfl
    refine .inr ⟨L,h1,h2,fun i x hx j v hj => ?_,fun ho j hj => ?_⟩
    · rw[hc _ hn];exact h3 i x hx j v hj
    · rw[hc _ hn,hf _ hn];exact h4 ho j hj
 | ob own ids s R =>
  refine yeq (fun L hL => ?_) hb
  unfold World.alloc
  simp only[Array.getElem?_push]
  rw[if_neg (Nat.ne_of_lt (hlt L hL rfl))]
theorem zwk{ρ:Env}{H:Heap}{w w':World}{blk:Blk}(h:Rel ρ H w)(hsz:w.heap.size≤w'.heap.size)(hk:∀i b,H[i]? = some b→Rb ρ w' i b)
 (hn:∀L,ρ H.length=some L→blk.live=true→w.heap.size≤L.b∧L.b<w'.heap.size) (hb:Rb ρ w' H.length blk):Rel ρ (H++[blk]) w':=by
 have get:∀i b,(H++[blk])[i]? = some b→(i=H.length∧b=blk)∨(i≠H.length∧H[i]? = some b):=by
  intro i b hi
  rcases Nat.lt_or_ge i H.length with g|g
  · rw[List.getElem?_append_left g] at hi;exact .inr ⟨by omega,hi⟩
  · rw[List.getElem?_append_right g] at hi
    have:i-H.length=0:=by
     rcases Nat.eq_zero_or_pos (i-H.length) with e|e
     · exact e
     · rw[List.getElem?_eq_none (by simp;omega)] at hi;cases hi
    rw[this] at hi;simp at hi
    exact .inl ⟨by omega,hi.symm⟩
 refine⟨fun i b hi => ?_,fun i j b c M N hi hj hne hbl hcl hoo hM hN => ?_,fun i b M hi hbl hM => ?_⟩
 · rcases get i b hi with ⟨rfl,rfl⟩|⟨_,hi⟩
   · exact hb
   · exact hk i b hi
 · rcases get i b hi with ⟨rfl,rfl⟩|⟨hi1,hi2⟩<;>rcases get j c hj with ⟨rfl,rfl⟩|⟨hj1,hj2⟩
   · exact absurd rfl hne
   · have:=h.inb j c N hj2 hcl hN;have:=hn M hM hbl;omega
   · have:=h.inb i b M hi2 hbl hM;have:=hn N hN hcl;omega
   · exact h.sep i j b c M N hi2 hj2 hne hbl hcl hoo hM hN
 · rcases get i b hi with ⟨rfl,rfl⟩|⟨_,hi⟩
   · exact (hn M hM hbl).2
   · exact Nat.lt_of_lt_of_le (h.inb i b M hi hbl hM) hsz
def peval(P:Program){α:Type}:Sem α→Option α
 | .pure a=>some a
 | .program k=>peval P (k P)
 | .mark _ k=>peval P k
 | _=>none
theorem zgb{P:Program}{α:Type}:∀{s:Sem α}{a:α},peval P s=some a→∀w,s.run P w = .ok a w
 | .pure _,_,h,w=>by simp only[peval,Option.some.injEq] at h;subst h;rfl
 | .program k,_,h,w=>by simp only[peval] at h;exact zgb h w
 | .mark _ _,_,h,w=>by simp only[peval] at h;exact zgb h w
 | .load ..,_,h,_=>by simp[peval] at h
 | .store ..,_,h,_=>by simp[peval] at h
 | .new ..,_,h,_=>by simp[peval] at h
 | .shape ..,_,h,_=>by simp[peval] at h
 | .freeze ..,_,h,_=>by simp[peval] at h
 | .frozen ..,_,h,_=>by simp[peval] at h
 | .getObj ..,_,h,_=>by simp[peval] at h
 | .setObj ..,_,h,_=>by simp[peval] at h
 | .choose ..,_,h,_=>by simp[peval] at h
 | .sys ..,_,h,_=>by simp[peval] at h
 | .halt _,_,h,_=>by simp[peval] at h
mutual
def zbx:Av→Option Value
 | .tt=>some (.bool true)
 | .ff=>some (.bool false)
 | .v x=>some x
 | .agg cs=>match zc7 cs with|some vs=>some (.agg vs.toArray)|none=>none
 | .tup cs=>match zc7 cs with|some vs=>some (.tuple vs.toArray)|none=>none
 | .ifc t x=>match zbx x with|some u=>some (.iface t u)|none=>none
 | .fn f []=>some (.func (.func f) #[] #[])
 | _=>none
def zc7:List Av→Option (List Value)
 | []=>some []
 | a::as=>match zbx a,zc7 as with|some v,some vs=>some (v::vs)|_,_=>none
end
mutual
theorem zed{ρ:Env}:∀{a:Av}{x y:Value},zbx a=some x→Rv ρ a y→y=x
 | .tt,x,y,h,g=>by simp only[zbx,Option.some.injEq] at h;simp only[Rv] at g;rw[g,h]
 | .ff,x,y,h,g=>by simp only[zbx,Option.some.injEq] at h;simp only[Rv] at g;rw[g,h]
 | .v u,x,y,h,g=>by simp only[zbx,Option.some.injEq] at h;simp only[Rv] at g;rw[g,h]
 | .agg cs,x,y,h,g=>by
  simp only[zbx] at h
  cases hc:zc7 cs with
  | none=>simp[hc] at h
  | some vs =>
   simp only[hc,Option.some.injEq] at h
   simp only[Rv] at g
   obtain⟨us,rfl,hu⟩:=g
   rw[← h,zdv hc hu]
 | .tup cs,x,y,h,g=>by
  simp only[zbx] at h
  cases hc:zc7 cs with
  | none=>simp[hc] at h
  | some vs =>
   simp only[hc,Option.some.injEq] at h
   simp only[Rv] at g
   obtain⟨us,rfl,hu⟩:=g
   rw[← h,zdv hc hu]
 | .ifc t a,x,y,h,g=>by
  simp only[zbx] at h
  cases hc:zbx a with
  | none=>simp[hc] at h
  | some u =>
   simp only[hc,Option.some.injEq] at h
   simp only[Rv] at g
   obtain⟨u',rfl,hu⟩:=g
   rw[← h,zed hc hu]
 | .fn f [],x,y,h,g=>by
  simp only[zbx,Option.some.injEq] at h
  simp only[Rv] at g
  obtain⟨us,rfl,hu⟩:=g
  cases us with
  | nil=>exact h
  | cons _ _=>simp[RvL] at hu
 | .fn f (_::_),x,y,h,g=>by simp[zbx] at h
 | .any,_,_,h,_=>by simp[zbx] at h
 | .ptr _ _,_,_,h,_=>by simp[zbx] at h
 | .eptr ..,_,_,h,_=>by simp[zbx] at h
 | .sl ..,_,_,h,_=>by simp[zbx] at h
 | .q _,_,_,h,_=>by simp[zbx] at h
 | .zp,_,_,h,_=>by simp[zbx] at h
 | .opq _ _,_,_,h,_=>by simp[zbx] at h
theorem zdv{ρ:Env}:∀{as:List Av}{xs ys:List Value},zc7 as=some xs→RvL ρ as ys→ys=xs
 | [],xs,ys,h,g=>by
  simp only[zc7,Option.some.injEq] at h
  cases ys with
  | nil=>exact h
  | cons _ _=>simp[RvL] at g
 | a::as,xs,ys,h,g=>by
  simp only[zc7] at h
  cases h1:zbx a with
  | none=>simp[h1] at h
  | some v =>
   cases h2:zc7 as with
   | none=>simp[h1,h2] at h
   | some vs =>
    simp only[h1,h2,Option.some.injEq] at h
    cases ys with
    | nil=>simp[RvL] at g
    | cons y ys =>
     simp only[RvL] at g
     rw[← h,zed h1 g.1,zdv h2 g.2]
end
def ztx:Value→Av
 | .agg cs => .agg (cs.toList.map .v)
 | x => .v x
def zrd:Value→Av
 | .tuple cs => .tup (cs.toList.map ztx)
 | x=>ztx x
theorem zty(ρ:Env)(x:Value):Rv ρ (ztx x) x:=by
 unfold ztx
 split
 · exact⟨_,by simp,zgh _⟩
 · rfl
theorem zh2(ρ:Env)(x:Value):Rv ρ (zrd x) x:=by
 unfold zrd
 split
 · rename_i cs
   refine⟨cs.toList,by simp, ?_⟩
   have:∀l:List Value,RvL ρ (l.map ztx) l:=by
    intro l
    induction l with
    | nil=>simp[RvL]
    | cons a l ih=>exact⟨zty ρ a,ih⟩
   exact this _
 · exact zty ρ x
def mrg(c:Bool)(a b:Av):Av :=
 match a,b with
 | .v (.bool x),.v (.bool y) => .v (.bool (cond c x y))
 | .v (.bool x),.tt => .v (.bool (cond c x true))
 | .v (.bool x),.ff => .v (.bool (cond c x false))
 | .tt,.v (.bool y) => .v (.bool (cond c true y))
 | .ff,.v (.bool y) => .v (.bool (cond c false y))
 | .tt,.tt => .tt
 | .ff,.ff => .ff
 | .tt,.ff => .v (.bool c)
 | .ff,.tt => .v (.bool (!c))
 | .v (.int j m),.v (.int k n)=>if j=k then .v (.int j (cond c m n)) else .any
 | _,_=>match c with|true=>a|false=>b
theorem mrg_true{ρ:Env}{a b:Av}{y:Value}(h:Rv ρ a y):Rv ρ (mrg true a b) y:=by
 unfold mrg
 split<;>simp_all[Rv]
 split<;>simp_all[Rv]
theorem mrg_false{ρ:Env}{a b:Av}{y:Value}(h:Rv ρ b y):Rv ρ (mrg false a b) y:=by
 unfold mrg
 split<;>simp_all[Rv]
 split<;>simp_all[Rv]
def ye0(P:Program)(t:TypeId)(sub:Nat)(cells:List Av):Option (Option Prop × Av) :=
 match zdq P t with
 | some none=>match cells[sub]? with|some c=>some (none,c)|none=>none
 | some (some n)=>if sub+n≤cells.length then some (none,.agg ((cells.drop sub).take n)) else none
 | none=>none
theorem ye1{P:Program}{t:TypeId}{sub:Nat}{cells:List Av}{p:Option Prop}{av:Av}(h:ye0 P t sub cells=some (p,av)){ρ:Env}{w:World}{L:Loc}{vs:List Value}(hv:RvL ρ cells vs)(hc:∀j v,vs[j]? = some v→w.cell? ⟨L.b,L.off+j,none⟩=some v) :
 ∃v,(Instr.loadAt t (.pointer (some ⟨L.b,L.off+sub,none⟩))).run P w = .ok v w∧Rv ρ av v:=by
 unfold ye0 at h
 simp only[Instr.loadAt,Instr.sureAddr,Sem.run_bind,Sem.run_pure,Result.andThen_ok]
 cases hk:zdq P t with
 | none=>simp[hk] at h
 | some k =>
  cases k with
  | none =>
   simp only[hk] at h
   cases hs:cells[sub]? with
   | none=>simp[hs] at h
   | some c =>
    simp only[hs,Option.some.injEq,Prod.mk.injEq] at h
    obtain⟨_,rfl⟩:=h
    obtain⟨v,hv1,hv2⟩:=zfz hv hs
    exact⟨v,zff hk (hc sub v hv1),hv2⟩
  | some n =>
   simp only[hk] at h
   by_cases hle:sub+n≤cells.length
   · simp only[hle,if_true,Option.some.injEq,Prod.mk.injEq] at h
     obtain⟨_,rfl⟩:=h
     have hlen:=zbf hv
     refine⟨_,zdb (vs:=(vs.drop sub).take n) hk (by simp;omega) ?_, ?_⟩
     · intro j v hj
       rw[zcm,Nat.add_assoc]
       rw[List.getElem?_take] at hj
       split at hj
       · rw[List.getElem?_drop] at hj;exact hc _ v hj
       · cases hj
     · simp only[Rv]
       exact⟨_,rfl,zht n (zhs sub hv)⟩
   · simp[hle] at h
def zws(P:Program)(t:TypeId)(H:Heap):Av→Option (Option Prop × Av)
 | .ptr id sub =>
  match H[id]? with
  | some (.fix cells _ _) =>
   match zdq P t with
   | some none=>match cells[sub]? with|some c=>some (none,c)|none=>none
   | some (some n)=>if sub+n≤cells.length then some (none,.agg ((cells.drop sub).take n)) else none
   | none=>none
  | _=>none
 | .eptr id sz i sub =>
  match H[id]? with
  | some (.fix cells _ _)=>ye0 P t (i*sz+sub) cells
  | some (.arr sh xs _) =>
   if sz=sh.length then
    match zdq P t with
    | some none=>match (El.vals sh (xs.getD i (El.zero sh)))[sub]? with|some v=>some (some (i<xs.length),.v v)|none=>none
    | some (some n)=>if sub+n≤sh.length then some (some (i<xs.length),.agg ((((El.vals sh (xs.getD i (El.zero sh))).drop sub).take n).map .v)) else none
    | none=>none
   else none
  | _=>none
 | _=>none
theorem zxb{α:Type}{xs:List α}{i:Nat}{d:α}(h:i<xs.length):xs[i]? = some (xs.getD i d):=by
 simp[List.getD,List.getElem?_eq_getElem h]
theorem zqg{P:Program}{t:TypeId}{H:Heap}{x:Av}{p:Option Prop}{av:Av}(h:zws P t H x=some (p,av))(hp:Hold p){ρ:Env}{w:World}(hr:Rel ρ H w){y:Value}(hx:Rv ρ x y) :
 ∃v,(Instr.loadAt t y).run P w = .ok v w∧Rv ρ av v:=by
 cases x with
 | ptr id sub =>
  simp only[zws] at h
  simp only[Rv] at hx
  obtain⟨L,hL,rfl⟩:=hx
  simp only[Instr.loadAt,Instr.sureAddr,Sem.run_bind,Sem.run_pure,Result.andThen_ok]
  cases hb:H[id]? with
  | none=>simp[hb] at h
  | some b =>
   cases b with
   | dead=>simp[hb] at h
   | arr sh xs o=>simp[hb] at h
   | ob _ _ _ _=>simp[hb] at h
   | fix cells ow ty =>
    simp only[hb] at h
    obtain⟨M,vs,hM,hv,hc,_⟩:=hr.blk id _ hb
    rw[hL] at hM;cases hM
    cases hk:zdq P t with
    | none=>simp[hk] at h
    | some k =>
     cases k with
     | none =>
      simp only[hk] at h
      cases hs:cells[sub]? with
      | none=>simp[hs] at h
      | some c =>
       simp only[hs,Option.some.injEq,Prod.mk.injEq] at h
       obtain⟨_,rfl⟩:=h
       obtain⟨v,hv1,hv2⟩:=zfz hv hs
       exact⟨v,zff hk (hc sub v hv1),hv2⟩
     | some n =>
      simp only[hk] at h
      by_cases hle:sub+n≤cells.length
      · simp only[hle,if_true,Option.some.injEq,Prod.mk.injEq] at h
        obtain⟨_,rfl⟩:=h
        have hlen:=zbf hv
        refine⟨_,zdb (vs:=(vs.drop sub).take n) hk (by simp;omega) ?_, ?_⟩
        · intro j v hj
          rw[zcm,Nat.add_assoc]
          rw[List.getElem?_take] at hj
          split at hj
          · rw[List.getElem?_drop] at hj;exact hc _ v hj
          · cases hj
        · simp only[Rv]
          exact⟨_,rfl,zht n (zhs sub hv)⟩
      · simp[hle] at h
 | eptr id sz i sub =>
  simp only[zws] at h
  simp only[Rv] at hx
  obtain⟨L,hL,rfl⟩:=hx
  simp only[Instr.loadAt,Instr.sureAddr,Sem.run_bind,Sem.run_pure,Result.andThen_ok]
  cases hb:H[id]? with
  | none=>simp[hb] at h
  | some b =>
   cases b with
   | dead=>simp[hb] at h
   | ob _ _ _ _=>simp[hb] at h
   | fix cells ow ty =>
    simp only[hb] at h
    obtain⟨M,vs,hM,hv,hc,_⟩:=hr.blk id _ hb
    rw[hL] at hM;cases hM
    rw[Nat.add_assoc]
    exact ye1 h hv hc
   | arr sh xs o =>
    simp only[hb] at h
    by_cases hsz:sz=sh.length
    · subst hsz
      simp only[if_true] at h
      rcases hr.blk id _ hb with ⟨hn,_⟩|⟨M,hM,_,hc,_⟩
      · rw[hL] at hn;cases hn
      · rw[hL] at hM;cases hM
        cases hk:zdq P t with
        | none=>simp[hk] at h
        | some k =>
         cases k with
         | none =>
          simp only[hk] at h
          cases hs:(El.vals sh (xs.getD i (El.zero sh)))[sub]? with
          | none=>rw[hs] at h;cases h
          | some v =>
           rw[hs] at h
           simp only[Option.some.injEq,Prod.mk.injEq] at h
           obtain⟨rfl,rfl⟩:=h
           exact⟨v,zff hk (hc i _ (zxb hp) sub v hs),rfl⟩
         | some n =>
          simp only[hk] at h
          by_cases hle:sub+n≤sh.length
          · simp only[hle,if_true,Option.some.injEq,Prod.mk.injEq] at h
            obtain⟨rfl,rfl⟩:=h
            have hlen:=El.vals_length (xs.getD i (El.zero sh))
            refine⟨_,zdb (vs:=((El.vals sh (xs.getD i (El.zero sh))).drop sub).take n) hk (by rw[List.length_take,List.length_drop,hlen];omega) ?_, ?_⟩
            · intro j v hj
              rw[zcm,Nat.add_assoc]
              rw[List.getElem?_take] at hj
              split at hj
              · rw[List.getElem?_drop] at hj;exact hc i _ (zxb hp) _ v hj
              · cases hj
            · simp only[Rv]
              exact⟨_,rfl,zgh _⟩
          · simp[hle] at h
    · simp[hsz] at h
 | _=>simp[zws] at h
def zhy(P:Program)(s:TypeId)(f:Nat):Option Nat :=
 match P.underlying s with
 | some (.struct fields) =>
  match fields[f]? with
  | some fd=>match P.info? fd.type with|some i=>if i.size=0 then none else some fd.offset|none=>none
  | none=>none
 | _=>none
def zey(P:Program)(s:TypeId)(f:Nat):Av→Option (Option Prop × Av)
 | .ptr id sub=>match zhy P s f with|some o=>some (none,.ptr id (sub+o))|none=>none
 | .eptr id sz i sub=>match zhy P s f with|some o=>some (none,.eptr id sz i (sub+o))|none=>none
 | _=>none
theorem znn{P:Program}{s:TypeId}{f o:Nat}(h:zhy P s f=some o)(b off:Nat)(w:World) :
 (Instr.fieldAt s (.pointer (some ⟨b,off,none⟩)) f).run P w = .ok (.pointer (some ⟨b,off+o,none⟩)) w:=by
 unfold zhy at h
 split at h
 · rename_i fields hu
   split at h
   · rename_i fd hf
     split at h
     · rename_i i hi
       split at h
       · cases h
       · rename_i hz
         simp only[Option.some.injEq] at h
         subst h
         simp[Instr.fieldAt,run_underlying hu,hf,Instr.sureAddr,fieldPlace,sizeOf,typeInfo,hi,hz,zcm]
     · cases h
   · cases h
 · cases h
theorem zqe{P:Program}{s:TypeId}{f:Nat}{x:Av}{p:Option Prop}{av:Av}(h:zey P s f x=some (p,av)){ρ:Env}{y:Value}(hx:Rv ρ x y)(w:World) :
 ∃v,(Instr.fieldAt s y f).run P w = .ok v w∧Rv ρ av v:=by
 cases x with
 | ptr id sub =>
  simp only[Rv] at hx
  obtain⟨L,hL,rfl⟩:=hx
  simp only[zey] at h
  cases ho:zhy P s f with
  | none=>simp[ho] at h
  | some o =>
   simp only[ho,Option.some.injEq,Prod.mk.injEq] at h
   obtain⟨_,rfl⟩:=h
   exact⟨_,znn ho _ _ w,L,hL,by rw[Nat.add_assoc]⟩
 | eptr id sz i sub =>
  simp only[Rv] at hx
  obtain⟨L,hL,rfl⟩:=hx
  simp only[zey] at h
  cases ho:zhy P s f with
  | none=>simp[ho] at h
  | some o =>
   simp only[ho,Option.some.injEq,Prod.mk.injEq] at h
   obtain⟨_,rfl⟩:=h
   exact⟨_,znn ho _ _ w,L,hL,by rw[Nat.add_assoc]⟩
 | _=>simp[zey] at h
def zfo(P:Program)(t:TypeId):Option Nat :=
 match P.underlying t with
 | some (.slice e)=>(P.info? e).map (·.size)
 | _=>none
def zj7(P:Program)(t:TypeId):Av→Av→Option (Option Prop × Av)
 | .sl id sz lo len,.v (.int _ i)=>match zfo P t with|some n=>if n=sz then some (some (0≤i∧i<(len:Int)),.eptr id sz (lo+i.toNat) 0) else none|none=>none
 | _,_=>none
theorem zqf{P:Program}{t:TypeId}{x ix:Av}{p:Option Prop}{av:Av}(h:zj7 P t x ix=some (p,av))(hp:Hold p){ρ:Env}{y iy:Value}(hx:Rv ρ x y)(hi:Rv ρ ix iy)(w:World) :
 ∃v,(Instr.indexAt t y iy).run P w = .ok v w∧Rv ρ av v:=by
 unfold zj7 at h
 split at h
 · rename_i id sz lo len k i
   cases hn:zfo P t with
   | none=>simp[hn] at h
   | some n =>
    simp only[hn] at h
    split at h
    · rename_i e
      subst e
      simp only[Option.some.injEq,Prod.mk.injEq] at h
      obtain⟨rfl,rfl⟩:=h
      obtain⟨h0,h1⟩:=hp
      simp only[Rv] at hi hx
      subst hi
      rcases hx with ⟨_,_,rfl,_⟩|⟨L,o,hL,hcap,ho,rfl⟩
      · omega
      · have ho':o=lo:=by
         rcases ho with rfl|hc
         · rfl
         · omega
        subst ho'
        unfold zfo at hn
        split at hn
        · rename_i el hu
          simp only[Option.map_eq_some_iff] at hn
          obtain⟨inf,hinf,rfl⟩:=hn
          refine⟨.pointer (some ⟨L.b,L.off+o*inf.size+i.toNat*inf.size,none⟩), ?_, ?_⟩
          · simp[Instr.indexAt,run_underlying hu,asIntOf,h0,h1,sizeOf,typeInfo,hinf,zcm]
          · simp only[Rv]
            exact⟨L,hL,by rw[Nat.add_mul,Nat.add_zero,Nat.add_assoc]⟩
        · cases hn
    · cases h
 · cases h
def ze5:Av→Option (Option Prop × Av)
 | .ptr id sub=>some (none,.ptr id sub)
 | .eptr id sz i sub=>some (none,.eptr id sz i sub)
 | .ifc t x=>some (none,.ifc t x)
 | .fn f cs=>some (none,.fn f cs)
 | .opq ids X=>some (none,.opq ids X)
 | _=>none
def zkf(P:Program)(s:TypeId)(f:Nat)(cs:List Av):Option Av :=
 match P.underlying s with
 | some (.struct fields) =>
  match fields[f]? with
  | some fd =>
   match zdq P fd.type with
   | some none=>cs[fd.offset]?
   | some (some n)=>if fd.offset+n≤cs.length then some (.agg ((cs.drop fd.offset).take n)) else none
   | none=>none
  | none=>none
 | _=>none
theorem zhm{P:Program}{t:TypeId}(h:zdq P t=some none){vs:List Value}{o:Nat}{v:Value}(hv:vs[o]? = some v)(w:World):(part t vs.toArray o).run P w = .ok v w:=by
 unfold zdq at h
 cases hu:P.underlying t with
 | none=>simp[hu] at h
 | some d=>cases d<;>simp[hu] at h<;>simp[part,isAgg,run_underlying hu,hv]
theorem zjt{P:Program}{t:TypeId}{n:Nat}(h:zdq P t=some (some n))(vs:List Value)(o:Nat)(w:World):(part t vs.toArray o).run P w = .ok (.agg ((vs.drop o).take n).toArray) w:=by
 unfold zdq at h
 cases hu:P.underlying t with
 | none=>simp[hu] at h
 | some d =>
  cases d<;>simp[hu] at h<;>(obtain⟨i,hi,rfl⟩:=h;simp[part,isAgg,run_underlying hu,sizeOf,typeInfo,hi])
theorem zqx{P:Program}{s:TypeId}{f:Nat}{cs:List Av}{av:Av}(h:zkf P s f cs=some av){ρ:Env}{y:Value}(hx:Rv ρ (.agg cs) y)(w:World) :
 ∃v,(Instr.field s y f).run P w = .ok v w∧Rv ρ av v:=by
 simp only[Rv] at hx
 obtain⟨vs,rfl,hv⟩:=hx
 unfold zkf at h
 split at h
 · rename_i fields hu
   split at h
   · rename_i fd hf
     cases hk:zdq P fd.type with
     | none=>simp[hk] at h
     | some k =>
      cases k with
      | none =>
       simp only[hk] at h
       obtain⟨v,h1,h2⟩:=zfz hv h
       exact⟨v,by simp[Instr.field,run_underlying hu,hf,asAgg,zhm hk h1],h2⟩
      | some n =>
       simp only[hk] at h
       split at h
       · simp only[Option.some.injEq] at h
         subst h
         exact⟨_,by simp[Instr.field,run_underlying hu,hf,asAgg,zjt hk],_,rfl,zht n (zhs _ hv)⟩
       · cases h
   · cases h
 · cases h
def cellsOf:Av→Option (List Av)
 | .any=>none
 | .tup _=>none
 | .agg cs=>some cs
 | .v x=>some (x.cells.toList.map .v)
 | .tt=>some [.tt]
 | .ff=>some [.ff]
 | .ptr a b=>some [.ptr a b]
 | .eptr a b c d=>some [.eptr a b c d]
 | .sl a b c d=>some [.sl a b c d]
 | .fn f cs=>some [.fn f cs]
 | .ifc t x=>some [.ifc t x]
 | .q p=>some [.q p]
 | .zp=>some [.zp]
 | .opq ids X=>some [.opq ids X]
theorem zka{ρ:Env}{a:Av}{cs:List Av}(h:cellsOf a=some cs){y:Value}(hy:Rv ρ a y):RvL ρ cs y.cells.toList:=by
 cases a with
 | q p =>
  simp only[cellsOf,Option.some.injEq] at h
  subst h
  have hy':=hy
  simp only[Rv] at hy'
  obtain⟨b,rfl,_⟩:=hy'
  exact⟨hy,trivial⟩
 | zp =>
  simp only[cellsOf,Option.some.injEq] at h
  subst h
  have hy':=hy
  simp only[Rv] at hy'
  obtain⟨b,rfl⟩:=hy'
  exact⟨hy,trivial⟩
 | opq ids X =>
  simp only[cellsOf,Option.some.injEq] at h
  subst h
  have hy':=hy
  simp only[Rv] at hy'
  obtain⟨⟨t,u,rfl⟩,_⟩:=hy'
  exact⟨hy,trivial⟩
 | any=>simp[cellsOf] at h
 | tup _=>simp[cellsOf] at h
 | agg ds =>
  simp only[cellsOf,Option.some.injEq] at h
  subst h
  simp only[Rv] at hy
  obtain⟨vs,rfl,hv⟩:=hy
  simpa[Value.cells] using hv
 | v x =>
  simp only[cellsOf,Option.some.injEq] at h
  subst h
  simp only[Rv] at hy
  subst hy
  exact zgh _
 | tt =>
  simp only[cellsOf,Option.some.injEq] at h
  subst h
  have e:y = .bool true:=hy
  subst e
  exact⟨rfl,trivial⟩
 | ff =>
  simp only[cellsOf,Option.some.injEq] at h
  subst h
  have e:y = .bool false:=hy
  subst e
  exact⟨rfl,trivial⟩
 | ptr i s =>
  simp only[cellsOf,Option.some.injEq] at h
  subst h
  have hy':=hy
  simp only[Rv] at hy'
  obtain⟨L,_,rfl⟩:=hy'
  exact⟨hy,trivial⟩
 | eptr i z j s =>
  simp only[cellsOf,Option.some.injEq] at h
  subst h
  have hy':=hy
  simp only[Rv] at hy'
  obtain⟨L,_,rfl⟩:=hy'
  exact⟨hy,trivial⟩
 | sl i z l n =>
  simp only[cellsOf,Option.some.injEq] at h
  subst h
  have hy':=hy
  simp only[Rv] at hy'
  rcases hy' with ⟨_,_,_,_,rfl⟩|⟨L,o,_,_,_,rfl⟩<;>exact⟨hy,trivial⟩
 | fn f ds =>
  simp only[cellsOf,Option.some.injEq] at h
  subst h
  have hy':=hy
  simp only[Rv] at hy'
  obtain⟨vs,rfl,_⟩:=hy'
  exact⟨hy,trivial⟩
 | ifc t x =>
  simp only[cellsOf,Option.some.injEq] at h
  subst h
  have hy':=hy
  simp only[Rv] at hy'
  obtain⟨u,rfl,_⟩:=hy'
  exact⟨hy,trivial⟩
def zfh{α:Type}:List α→Nat→List α→List α
 | xs,_,[]=>xs
 | xs,o,c::cs=>zfh (xs.set o c) (o+1) cs
theorem zgu{α:Type}:∀(cs:List α)(xs:List α)(o:Nat),(zfh xs o cs).length=xs.length
 | [],_,_=>rfl
 | c::cs,xs,o=>by simp only[zfh];rw[zgu cs];simp
theorem zj6{ρ:Env}:∀{cs:List Av}{us:List Value},RvL ρ cs us→∀{as:List Av}{vs:List Value}(o:Nat),RvL ρ as vs→RvL ρ (zfh as o cs) (zfh vs o us)
 | [],[],_,_,_,_,h=>h
 | [],_::_,h,_,_,_,_=>by simp[RvL] at h
 | _::_,[],h,_,_,_,_=>by simp[RvL] at h
 | _::cs,_::us,h,as,vs,o,g=>by
  simp only[RvL] at h
  simp only[zfh]
  exact zj6 h.2 (o+1) (zwl o g h.1)
theorem zkq{α:Type}:∀(cs:List α)(xs:List α)(o j:Nat),(zfh xs o cs)[j]? = if o≤j∧j<o+cs.length∧j<xs.length then cs[j-o]? else xs[j]?
 | [],xs,o,j=>by simp[zfh];intro h1 h2;omega
 | c::cs,xs,o,j=>by
  simp only[zfh]
  rw[zkq cs (xs.set o c) (o+1) j]
  simp only[List.length_set,List.length_cons]
  by_cases e:o=j
  · subst e
    simp only[show ¬ (o+1≤o) by omega,false_and,if_false]
    by_cases hl:o<xs.length
    · simp[hl]
    · simp[hl]
  · by_cases h1:o+1≤j∧j<o+1+cs.length∧j<xs.length
    · rw[if_pos h1,if_pos (by omega)]
      rw[show j-o=(j-(o+1))+1 by omega]
      simp
    · rw[if_neg h1,if_neg (by omega),List.getElem?_set_ne e]
theorem zk2:∀(l:List Value)(n:Nat)(off:Nat)(cells:Array Value),((l.zipIdx n).foldl (fun cs (p:Value × Nat)=>cs.setIfInBounds (off+p.2) p.1) cells).toList=zfh cells.toList (off+n) l
 | [],_,_,_=>rfl
 | c::l,n,off,cells=>by
  simp only[List.zipIdx_cons,List.foldl_cons,zfh]
  rw[zk2 l (n+1) off]
  simp only[Array.toList_setIfInBounds]
  rw[show off+(n+1)=off+n+1 by omega]
def ztb(place:Nat→Option (Nat × Nat)):List Av→List (Nat × Av)→Option (List Av)
 | cells,[]=>some cells
 | cells,(i,a)::rest =>
  match place i with
  | none=>none
  | some (off,size) =>
   match cellsOf a with
   | none=>none
   | some cs=>if cs.length=size∧off+cs.length≤cells.length then ztb place (zfh cells off cs) rest else none
theorem zhz{ρ:Env}{place:Nat→Option (Nat × Nat)}:∀{ps:List (Nat × Av)}{qs:List (Nat × Value)},ps.length=qs.length→(∀(j:Nat)(p:Nat × Av)(q:Nat × Value),ps[j]? = some p→qs[j]? = some q→p.1=q.1∧Rv ρ p.2 q.2) →
 ∀{cells out:List Av}{vs:List Value},ztb place cells ps=some out→RvL ρ cells vs→∃us,Instr.fill place vs.toArray qs=some us.toArray∧RvL ρ out us
 | [],[],_,_,cells,out,vs,h,hv=>by
  simp only[ztb,Option.some.injEq] at h
  subst h
  exact⟨vs,rfl,hv⟩
 | [],_::_,hl,_,_,_,_,_,_=>by simp at hl
 | _::_,[],hl,_,_,_,_,_,_=>by simp at hl
 | (i,a)::ps,(i',y)::qs,hl,hr,cells,out,vs,h,hv=>by
  obtain⟨he,hy⟩:=hr 0 _ _ rfl rfl
  simp only at he hy
  subst he
  simp only[ztb] at h
  cases hp:place i with
  | none=>simp[hp] at h
  | some os =>
   obtain⟨off,size⟩:=os
   simp only[hp] at h
   cases hc:cellsOf a with
   | none=>simp[hc] at h
   | some cs =>
    simp only[hc] at h
    split at h
    · rename_i hsz
      have hcy:=zka hc hy
      have hlen:=zbf hcy
      have hvl:=zbf hv
      have hsize:y.cells.size=cs.length:=by rw[hlen];simp
      have hnot:¬ (y.cells.size≠size∨off+y.cells.size>vs.toArray.size):=by
       simp only[List.size_toArray]
       omega
      obtain⟨us,h1,h2⟩:=zhz (ps:=ps) (qs:=qs) (by simpa using hl) (fun j p q hp hq=>hr (j+1) p q (by simpa using hp) (by simpa using hq)) h (zj6 hcy off hv)
      refine⟨us, ?_,h2⟩
      rw[← h1]
      simp only[Instr.fill,hp]
      have hb:(decide (y.cells.size≠size)||decide (off+y.cells.size>vs.toArray.size))=false:=by
       simp only[Bool.or_eq_false_iff,decide_eq_false_iff_not]
       exact⟨fun e=>hnot (.inl e),fun e=>hnot (.inr e)⟩
      simp only[hb,Bool.false_eq_true,if_false]
      congr 1
      apply Array.ext'
      rw[← Array.foldl_toList,Array.toList_zipIdx]
      have:=zk2 y.cells.toList 0 off vs.toArray
      simpa using this
    · cases h
def zh4(P:Program):List Field→Option (List (Nat × Nat))
 | []=>some []
 | f::fs=>match P.info? f.type,zh4 P fs with|some i,some r=>some ((f.offset,i.size)::r)|_,_=>none
theorem zpy{P:Program}(w:World):∀{fs:List Field}{r:List (Nat × Nat)},zh4 P fs=some r→(fs.mapM (m:=Sem) fun f=>do pure (f.offset, ← sizeOf f.type)).run P w = .ok r w
 | [],r,h=>by simp only[zh4,Option.some.injEq] at h;subst h;rfl
 | f::fs,r,h=>by
  simp only[zh4] at h
  cases hi:P.info? f.type with
  | none=>simp[hi] at h
  | some i =>
   cases hr:zh4 P fs with
   | none=>simp[hi,hr] at h
   | some r' =>
    simp only[hi,hr,Option.some.injEq] at h
    subst h
    have ih:=zpy w hr
    simp only[List.mapM_cons,Sem.run_bind,sizeOf,typeInfo,run_program,Result.andThen_ok,hi,Sem.run_pure] at ih ⊢
    rw[ih]
    rfl
def zeroCells(P:Program)(t:TypeId):Option (List Av) :=
 match P.info? t with
 | some i=>match i.zero with|some z=>some (z.cells.toList.map .v)|none=>none
 | none=>none
theorem zj2{P:Program}{t:TypeId}{cs:List Av}(h:zeroCells P t=some cs)(w:World):∃z,(zeroValue t).run P w = .ok z w∧∀ρ,RvL ρ cs z.cells.toList:=by
 unfold zeroCells at h
 split at h
 · rename_i i hi
   split at h
   · rename_i z hz
     simp only[Option.some.injEq] at h
     subst h
     exact⟨z,by simp[zeroValue,typeInfo,hi,hz],fun ρ=>zgh _⟩
   · cases h
 · cases h
def yew(P:Program)(t:TypeId)(ps:List (Nat × Av)):Option Av :=
 match zeroCells P t with
 | none=>none
 | some z =>
  match P.underlying t with
  | some (.struct fields) =>
   match zh4 P fields.toList with
   | some pl=>match ztb (fun i:Nat=>pl[i]?) z ps with|some cs=>some (.agg cs)|none=>none
   | none=>none
  | some (.array _ e) =>
   match P.info? e with
   | some i=>match ztb (fun j=>some (j*i.size,i.size)) z ps with|some cs=>some (.agg cs)|none=>none
   | none=>none
  | _=>none
theorem yex{P:Program}{t:TypeId}{ps:List (Nat × Av)}{av:Av}(h:yew P t ps=some av){ρ:Env}{qs:Array (Nat × Value)}(hl:ps.length=qs.toList.length)
 (hr:∀(j:Nat)(p:Nat × Av)(q:Nat × Value),ps[j]? = some p→qs.toList[j]? = some q→p.1=q.1∧Rv ρ p.2 q.2) (w:World):∃v,(Instr.build t qs).run P w = .ok v w∧Rv ρ av v:=by
 unfold yew at h
 split at h
 · cases h
 · rename_i z hz
   obtain⟨zv,hz1,hz2⟩:=zj2 hz w
   split at h
   · rename_i fields hu
     split at h
     · rename_i pl hpl
       split at h
       · rename_i cs hf
         simp only[Option.some.injEq] at h
         subst h
         obtain⟨us,h1,h2⟩:=zhz hl hr hf (hz2 ρ)
         have hp:=zpy w hpl
         refine⟨.agg us.toArray, ?_,us,rfl,h2⟩
         simp only[Instr.build,Sem.run_bind,hz1,Result.andThen_ok,run_underlying hu,Array.mapM_eq_mapM_toList,Sem.run_map,hp]
         have e:(fun i:Nat=>(pl.toArray)[i]?)=fun i:Nat=>pl[i]? := by funext i;simp
         simp only[e]
         have h1':Instr.fill (fun i:Nat=>pl[i]?) zv.cells qs.toList=some us.toArray:=by simpa using h1
         simp[h1']
       · cases h
     · cases h
   · rename_i n e hu
     split at h
     · rename_i i hi
       split at h
       · rename_i cs hf
         simp only[Option.some.injEq] at h
         subst h
         obtain⟨us,h1,h2⟩:=zhz hl hr hf (hz2 ρ)
         refine⟨.agg us.toArray, ?_,us,rfl,h2⟩
         have h1':Instr.fill (fun j=>some (j*i.size,i.size)) zv.cells qs.toList=some us.toArray:=by simpa using h1
         simp[Instr.build,hz1,run_underlying hu,sizeOf,typeInfo,hi,h1']
       · cases h
     · cases h
   · cases h
def ynv(P:Program)(t:TypeId)(vs:List Value)(o:Nat):Option Value :=
 match zdq P t with
 | some none=>vs[o]?
 | some (some n)=>some (.agg ((vs.drop o).take n).toArray)
 | none=>none
theorem zt2{P:Program}{t:TypeId}{vs:List Value}{o:Nat}{v:Value}(h:ynv P t vs o=some v)(w:World):(part t vs.toArray o).run P w = .ok v w:=by
 unfold ynv at h
 split at h
 · rename_i hk;exact zhm hk h w
 · rename_i n hk;simp only[Option.some.injEq] at h;subst h;exact zjt hk vs o w
 · cases h
mutual
def eqV(P:Program):Nat→TypeId→Value→Value→Option Bool
 | 0,_,_,_=>none
 | d+1,t,x,y =>
  match P.underlying t with
  | some .bool=>match x,y with | .bool a,.bool b=>some (a==b)|_,_=>none
  | some (.int _)=>match x,y with | .int j a,.int k b=>if j=k then some (a==b) else none|_,_=>none
  | some (.struct fields)=>if P.stoodInHeld t then none else match x,y with | .agg xs,.agg ys=>ytj P d fields.toList xs.toList ys.toList|_,_=>none
  | _=>none
def ytj(P:Program):Nat→List Field→List Value→List Value→Option Bool
 | _,[],_,_=>some true
 | 0,_::_,_,_=>none
 | d+1,f::fs,xs,ys =>
  if f.name ≠ "_" then
   match ynv P f.type xs f.offset,ynv P f.type ys f.offset with
   | some a,some b=>match eqV P d f.type a b,ytj P d fs xs ys with|some p,some q=>some (p&&q)|_,_=>none
   | _,_=>none
  else ytj P d fs xs ys
end
mutual
theorem zw8{P:Program}:∀{d:Nat}{t:TypeId}{x y:Value}{b:Bool},eqV P d t x y=some b→∀(D:Nat),d≤D→∀w,(Op.equalIn D t x y).run P w = .ok b w
 | 0,_,_,_,_,h,_,_,_=>by simp[eqV] at h
 | d+1,t,x,y,b,h,D,hD,w=>by
  obtain⟨D,rfl⟩:∃m,D=m+1:=⟨D-1,by omega⟩
  simp only[eqV] at h
  split at h
  · rename_i hu
    split at h
    · simp only[Option.some.injEq] at h;subst h;exact run_equalIn_bool' w D t _ _ hu
    · cases h
  · rename_i hu
    split at h
    · split at h
      · rename_i e;subst e;simp only[Option.some.injEq] at h;subst h;exact run_equalIn_int w D t _ _ _ _ hu
      · cases h
    · cases h
  · rename_i fields hu
    split at h
    · cases h
    · rename_i hs
      split at h
      · rename_i xs ys
        have hf:P.fieldsOf t=fields:=by unfold Program.fieldsOf;rw[hu]
        rw[run_equalIn_struct w D t xs ys (by rw[hf];exact hu) (by simpa using hs),hf]
        exact zqt h D (by omega) w
      · cases h
  · cases h
theorem zqt{P:Program}:∀{d:Nat}{fs:List Field}{xs ys:Array Value}{b:Bool},ytj P d fs xs.toList ys.toList=some b→∀(D:Nat),d≤D→∀w,(Op.eqFields D xs ys fs).run P w = .ok b w
 | _,[],_,_,_,h,_,_,_=>by simp only[ytj,Option.some.injEq] at h;subst h;rfl
 | 0,_::_,_,_,_,h,_,_,_=>by simp[ytj] at h
 | d+1,f::fs,xs,ys,b,h,D,hD,w=>by
  simp only[ytj] at h
  simp only[Op.eqFields]
  split at h
  · rename_i hn
    rw[if_pos hn]
    split at h
    · rename_i p q hp hq
      have hp':=zt2 hp w
      have hq':=zt2 hq w
      split at h
      · rename_i r s hr hs
        simp only[Option.some.injEq] at h
        subst h
        have hr':=zw8 hr D (by omega) w
        have hs':=zqt hs D (by omega) w
        simp only[Array.toArray_toList] at hp' hq'
        simp only[Sem.run_bind,hp',hq',hr',Result.andThen_ok,Sem.run_ite]
        cases r
        · rfl
        · simpa using hs'
      · cases h
    · cases h
  · rename_i hn
    rw[if_neg hn]
    exact zqt h D (by omega) w
end
def aBin(P:Program)(op:BinOp)(t:TypeId)(x y:Operand)(a b:Av):Option (Option Prop × Av) :=
 match op,a,b with
 | .eql,.ifc _ _,.v .nilIface=>match P.underlying t with|some (.interface _)=>some (none,.ff)|_=>none
 | .neq,.ifc _ _,.v .nilIface=>match P.underlying t with|some (.interface _)=>some (none,.tt)|_=>none
 | .eql,.agg xs,.agg ys =>
  if P.eqGuardType P.depth t then none else
  match zc7 xs,zc7 ys with
  | some us,some vs=>match eqV P 60 t (.agg us.toArray) (.agg vs.toArray) with|some c=>some (none,.v (.bool c))|none=>none
  | _,_=>none
 | .neq,.agg xs,.agg ys =>
  if P.eqGuardType P.depth t then none else
  match zc7 xs,zc7 ys with
  | some us,some vs=>match eqV P 60 t (.agg us.toArray) (.agg vs.toArray) with|some c=>some (none,.v (.bool (!c)))|none=>none
  | _,_=>none
 | .shl,.v (.int k m),.v (.int _ n)=>some (some (0≤n),.v (.int k (k.wrap (m*2 ^ min n.toNat k.bits))))
 | .shr,.v (.int k m),.v (.int _ n)=>some (some (0≤n),.v (.int k (m/2 ^ min n.toNat k.bits)))
 | .quo,.v (.int k m),.v (.int j n)=>if k=j then some (some (n≠0),.v (.int k (k.wrap (m.tdiv n)))) else none
 | .rem,.v (.int k m),.v (.int j n)=>if k=j then some (some (n≠0),.v (.int k (m.tmod n))) else none
 | _,_,_ =>
  match zbx a,zbx b with
  | some u,some v=>match peval P (do eqGuard op t x y u v;binOp op t u v) with|some r=>some (none,zrd r)|none=>none
  | _,_=>none
theorem zrs(k yk:IntKind)(x y:Int)(h₀:0≤y):Op.shift .shr k x yk y=pure (.int k (x/2 ^ min y.toNat k.bits)):=by
 have hp:(0:Int)≤2 ^ (min y.toNat k.bits):=Int.pow_nonneg (by decide)
 simp[Op.shift,Int.fdiv_eq_ediv_of_nonneg _ hp]
 omega
theorem zrr(k yk:IntKind)(x y:Int)(h₀:0≤y):Op.shift .shl k x yk y=pure (.int k (k.wrap (x*2 ^ min y.toNat k.bits))):=by
 simp[Op.shift]
 omega
theorem yb2(k:IntKind)(x y:Int)(h:y≠0):Op.intDiv .quo k x y=pure (.int k (k.wrap (x.tdiv y))):=by simp[Op.intDiv,h]
theorem yb3(k:IntKind)(x y:Int)(h:y≠0):Op.intDiv .rem k x y=pure (.int k (x.tmod y)):=by simp[Op.intDiv,h]
theorem ymc{P:Program}{op:BinOp}{t:TypeId}{x y:Operand}{a b:Av}{p:Option Prop}{av:Av}
 (h:(match zbx a,zbx b with
  | some u,some v=>match peval P (do eqGuard op t x y u v;binOp op t u v) with|some r=>some (none,zrd r)|none=>none
  | _,_=>none)=some (p,av)) {ρ:Env} {u v:Value} (ha:Rv ρ a u) (hb:Rv ρ b v) (w:World) :
 ∃r,(do eqGuard op t x y u v;binOp op t u v:Sem Value).run P w = .ok r w∧Rv ρ av r:=by
 split at h
 · rename_i u' v' hu hv
   have e1:=zed hu ha
   have e2:=zed hv hb
   subst e1 e2
   split at h
   · rename_i r hr
     simp only[Option.some.injEq,Prod.mk.injEq] at h
     obtain⟨_,rfl⟩:=h
     exact⟨r,zgb hr w,zh2 ρ r⟩
   · cases h
 · cases h
theorem zs8{P:Program}{t:TypeId}{ms:Array (String × TypeId)}(hu:P.underlying t=some (.interface ms))(tx:TypeId)(z:Value)(w:World):(Op.equal t (.iface tx z) .nilIface).run P w = .ok false w:=by
 show (Op.equalIn (9999+1) t (.iface tx z) .nilIface).run P w=_
 unfold Op.equalIn
 rw[Sem.run_bind,run_underlying hu]
 rfl
theorem ytn{P:Program}{t:TypeId}{ms:Array (String × TypeId)}(hu:P.underlying t=some (.interface ms))(tx:TypeId)(z:Value)(x y:Operand)(w:World) :
 (do eqGuard .eql t x y (.iface tx z) .nilIface;binOp .eql t (.iface tx z) .nilIface:Sem Value).run P w = .ok (.bool false) w:=by
 have e:binOp .eql t (.iface tx z) .nilIface=(do pure (.bool (← Op.equal t (.iface tx z) .nilIface))):=rfl
 rw[eqGuard_at_iface,e]
 simp only[Sem.run_bind,Sem.run_pure,Result.andThen_ok,zs8 hu]
theorem yuo{P:Program}{t:TypeId}{ms:Array (String × TypeId)}(hu:P.underlying t=some (.interface ms))(tx:TypeId)(z:Value)(x y:Operand)(w:World) :
 (do eqGuard .neq t x y (.iface tx z) .nilIface;binOp .neq t (.iface tx z) .nilIface:Sem Value).run P w = .ok (.bool true) w:=by
 have e:binOp .neq t (.iface tx z) .nilIface=(do pure (.bool (!(← Op.equal t (.iface tx z) .nilIface)))):=rfl
 rw[eqGuard_at_iface,e]
 simp only[Sem.run_bind,Sem.run_pure,Result.andThen_ok,zs8 hu,Bool.not_false]
theorem ysu{P:Program}{op:BinOp}{t:TypeId}{x y:Operand}{a b:Av}{p:Option Prop}{av:Av}(h:aBin P op t x y a b=some (p,av))(hp:Hold p){ρ:Env}{u v:Value}(ha:Rv ρ a u)(hb:Rv ρ b v)(w:World) :
 ∃r,(do eqGuard op t x y u v;binOp op t u v:Sem Value).run P w = .ok r w∧Rv ρ av r:=by
 unfold aBin at h
 split at h
 · -- eql iface nil
   rename_i tt xx
   split at h
   · rename_i ms hu
     simp only[Option.some.injEq,Prod.mk.injEq] at h
     obtain⟨_,rfl⟩:=h
     simp only[Rv] at ha hb
     obtain⟨z,rfl,_⟩:=ha
     subst hb
     exact⟨.bool false,ytn hu _ _ x y w,rfl⟩
   · cases h
 · rename_i tt xx
   split at h
   · rename_i ms hu
     simp only[Option.some.injEq,Prod.mk.injEq] at h
     obtain⟨_,rfl⟩:=h
     simp only[Rv] at ha hb
     obtain⟨z,rfl,_⟩:=ha
     subst hb
     exact⟨.bool true,yuo hu _ _ x y w,rfl⟩
   · cases h
 · rename_i xs ys
   split at h
   · cases h
   · rename_i hg
     split at h
     · rename_i us vs hus hvs
       split at h
       · rename_i c hc
         simp only[Option.some.injEq,Prod.mk.injEq] at h
         obtain⟨_,rfl⟩:=h
         simp only[Rv] at ha hb
         obtain⟨us',rfl,ha⟩:=ha
         obtain⟨vs',rfl,hb⟩:=hb
         have e1:=zdv hus ha
         have e2:=zdv hvs hb
         subst e1 e2
         refine⟨.bool c, ?_,rfl⟩
         rw[Sem.run_bind,run_eqGuard_agg w .eql t x y _ _ (by simpa using hg),Result.andThen_ok,run_eql_struct,zw8 hc 10000 (by decide) w]
         rfl
       · cases h
     · cases h
 · rename_i xs ys
   split at h
   · cases h
   · rename_i hg
     split at h
     · rename_i us vs hus hvs
       split at h
       · rename_i c hc
         simp only[Option.some.injEq,Prod.mk.injEq] at h
         obtain⟨_,rfl⟩:=h
         simp only[Rv] at ha hb
         obtain⟨us',rfl,ha⟩:=ha
         obtain⟨vs',rfl,hb⟩:=hb
         have e1:=zdv hus ha
         have e2:=zdv hvs hb
         subst e1 e2
         refine⟨.bool (!c), ?_,rfl⟩
         rw[Sem.run_bind,run_eqGuard_agg w .neq t x y _ _ (by simpa using hg),Result.andThen_ok,run_neq_struct,zw8 hc 10000 (by decide) w]
         rfl
       · cases h
     · cases h
 · rename_i k m j n
   simp only[Option.some.injEq,Prod.mk.injEq] at h
   obtain⟨rfl,rfl⟩:=h
   simp only[Rv] at ha hb
   subst ha hb
   exact⟨_,by rw[eqGuard_shl,binOp_shl,zrr _ _ _ _ hp];rfl,rfl⟩
 · rename_i k m j n
   simp only[Option.some.injEq,Prod.mk.injEq] at h
   obtain⟨rfl,rfl⟩:=h
   simp only[Rv] at ha hb
   subst ha hb
   exact⟨_,by rw[eqGuard_shr,binOp_shr,zrs _ _ _ _ hp];rfl,rfl⟩
 · rename_i k m j n
   split at h
   · rename_i e
     subst e
     simp only[Option.some.injEq,Prod.mk.injEq] at h
     obtain⟨rfl,rfl⟩:=h
     simp only[Rv] at ha hb
     subst ha hb
     exact⟨_,by rw[eqGuard_quo,binOp_quo,yb2 _ _ _ hp];rfl,rfl⟩
   · cases h
 · rename_i k m j n
   split at h
   · rename_i e
     subst e
     simp only[Option.some.injEq,Prod.mk.injEq] at h
     obtain⟨rfl,rfl⟩:=h
     simp only[Rv] at ha hb
     subst ha hb
     exact⟨_,by rw[eqGuard_rem,binOp_rem,yb3 _ _ _ hp];rfl,rfl⟩
   · cases h
 · exact ymc h ha hb w
def zw0:Value→Av
 | .bool true => .tt
 | .bool false => .ff
 | x=>zrd x
theorem ybv(ρ:Env)(x:Value):Rv ρ (zw0 x) x:=by
 unfold zw0
 split
 · rfl
 · rfl
 · exact zh2 ρ x
def evS(sl:List Av):Operand→Av
 | .tmp t=>sl.getD t .any
 | .const v=>zw0 v
 | .func f => .fn f []
 | .global _ => .any
theorem zcb{ρ:Env}{sl:List Av}{a:Act}(h:RvL ρ sl a.tmps.toList)(x:Operand):Rv ρ (evS sl x) (a.eval x):=by
 cases x with
 | tmp t =>
  simp only[evS,Act.eval]
  cases hs:sl[t]? with
  | none=>simp[List.getD,hs,Rv]
  | some av =>
   obtain⟨v,h1,h2⟩:=zfz h hs
   have e1:sl.getD t .any=av:=by simp[List.getD,hs]
   have e2:a.tmps.getD t undef=v:=by
    rw[Array.getD_eq_getD_getElem?]
    simp only[Array.getElem?_toList] at h1
    rw[h1];rfl
   rw[e1,e2];exact h2
 | const v=>exact ybv ρ v
 | func f =>
  simp only[evS,Act.eval]
  exact⟨[],rfl,trivial⟩
 | global g=>simp[evS,Rv]
def zmx(P:Program)(t:TypeId):Bool :=
 match P.underlying t with
 | some (.interface _)|none=>true
 | _=>false
def zji:Av→Option Bool
 | .tt=>some true
 | .ff=>some false
 | _=>none
def pstep(P:Program)(o:Oper)(sl:List Av)(H:Heap):Option (Option Prop × Av) :=
 match o.op with
 | .move x=>some (none,evS sl x)
 | .assign x=>some (none,evS sl x)
 | .pick c a b =>
  match evS sl c with
  | .tt=>some (none,evS sl a)
  | .ff=>some (none,evS sl b)
  | .v (.bool c)=>some (none,mrg c (evS sl a) (evS sl b))
  | _=>none
 | .load t a=>zws P t H (evS sl a)
 | .nilCheck x=>ze5 (evS sl x)
 | .binOp op t x y _=>aBin P op t x y (evS sl x) (evS sl y)
 | .unOp op _ x=>match zbx (evS sl x) with|some u=>(match peval P (Op.unary op u) with|some r=>some (none,zrd r)|none=>none)|none=>none
 | .convert s d x=>match zbx (evS sl x) with|some u=>(match peval P (convert s d u) with|some r=>some (none,zrd r)|none=>none)|none=>none
 | .makeInterface t x=>if zmx P t then none else some (none,.ifc t (evS sl x))
 | .makeFunc (.func f) first cap=>if first.size=0 then some (none,.fn f (cap.toList.map (evS sl))) else none
 | .fieldAddr s x f=>zey P s f (evS sl x)
 | .field s x f=>match evS sl x with | .agg cs=>(match zkf P s f cs with|some c=>some (none,c)|none=>none)|_=>none
 | .indexAddr t x i=>zj7 P t (evS sl x) (evS sl i)
 | .build t ps=>match yew P t (ps.toList.map fun p=>(p.1,evS sl p.2)) with|some c=>some (none,c)|none=>none
 | .extract x i=>match evS sl x with | .tup cs=>(match cs[i]? with|some c=>some (none,c)|none=>none)|_=>none
 | .call { callee := .builtin .len,args:=as,argTypes:=ts } =>
  match as.toList,ts.toList with
  | [x],[t]=>match zfo P t,evS sl x with
   | some _,.sl _ _ _ len=>some (none,.v (.int .i64 len))
   | some _,.v (.slice none 0 0)=>some (none,.v (.int .i64 0))
   | _,_=>none
  | _,_=>none
 | _=>none
theorem zrk{P:Program}{o:Oper}{sl:List Av}{H:Heap}{p:Option Prop}{av:Av}(h:pstep P o sl H=some (p,av))(hp:Hold p){ρ:Env}{a:Act}{w:World}
 (hs:RvL ρ sl a.tmps.toList) (hr:Rel ρ H w):∃v,(execOp a.eval o).run P w = .ok (.value v) w∧Rv ρ av v:=by
 have ev:=zcb hs
 unfold pstep at h
 unfold execOp
 cases hop:o.op with
 | move x =>
  simp only[hop,Option.some.injEq,Prod.mk.injEq] at h ⊢
  obtain⟨_,rfl⟩:=h
  exact⟨_,rfl,ev x⟩
 | assign x =>
  simp only[hop,Option.some.injEq,Prod.mk.injEq] at h ⊢
  obtain⟨_,rfl⟩:=h
  exact⟨_,rfl,ev x⟩
 | pick c x y =>
  simp only[hop] at h ⊢
  have hc:=ev c
  split at h
  · rename_i e
    rw[e] at hc
    simp only[Option.some.injEq,Prod.mk.injEq] at h
    obtain⟨_,rfl⟩:=h
    have hc':a.eval c = .bool true:=hc
    exact⟨_,by simp[hc',asBool],ev x⟩
  · rename_i e
    rw[e] at hc
    simp only[Option.some.injEq,Prod.mk.injEq] at h
    obtain⟨_,rfl⟩:=h
    have hc':a.eval c = .bool false:=hc
    exact⟨_,by simp[hc',asBool],ev y⟩
  · rename_i b e
    rw[e] at hc
    simp only[Option.some.injEq,Prod.mk.injEq] at h
    obtain⟨_,rfl⟩:=h
    have hc':a.eval c = .bool b:=hc
    cases b
    · exact⟨_,by simp[hc',asBool],mrg_false (ev y)⟩
    · exact⟨_,by simp[hc',asBool],mrg_true (ev x)⟩
  · cases h
 | load t x =>
  simp only[hop] at h ⊢
  obtain⟨v,h1,h2⟩:=zqg h hp hr (ev x)
  exact⟨v,by simp[h1],h2⟩
 | nilCheck x =>
  simp only[hop] at h ⊢
  have hx:=ev x
  generalize evS sl x=ax at h hx
  cases ax with
  | ptr id sub =>
   simp only[ze5,Option.some.injEq,Prod.mk.injEq] at h
   obtain⟨_,rfl⟩:=h
   have hx':=hx
   simp only[Rv] at hx'
   obtain⟨L,_,e⟩:=hx'
   rw[e] at hx ⊢
   exact⟨_,rfl,hx⟩
  | eptr id sz i sub =>
   simp only[ze5,Option.some.injEq,Prod.mk.injEq] at h
   obtain⟨_,rfl⟩:=h
   have hx':=hx
   simp only[Rv] at hx'
   obtain⟨L,_,e⟩:=hx'
   rw[e] at hx ⊢
   exact⟨_,rfl,hx⟩
  | ifc t y =>
   simp only[ze5,Option.some.injEq,Prod.mk.injEq] at h
   obtain⟨_,rfl⟩:=h
   have hx':=hx
   simp only[Rv] at hx'
   obtain⟨u,e,_⟩:=hx'
   rw[e] at hx ⊢
   exact⟨_,rfl,hx⟩
  | fn f cs =>
   simp only[ze5,Option.some.injEq,Prod.mk.injEq] at h
   obtain⟨_,rfl⟩:=h
   have hx':=hx
   simp only[Rv] at hx'
   obtain⟨u,e,_⟩:=hx'
   rw[e] at hx ⊢
   exact⟨_,rfl,hx⟩
  | opq ids X =>
   simp only[ze5,Option.some.injEq,Prod.mk.injEq] at h
   obtain⟨_,rfl⟩:=h
   have hx':=hx
   simp only[Rv] at hx'
   obtain⟨⟨t,u,e⟩,_⟩:=hx'
   rw[e] at hx ⊢
   exact⟨_,rfl,hx⟩
  | _=>simp[ze5] at h
 | binOp op t x y ty =>
  simp only[hop] at h ⊢
  obtain⟨r,h1,h2⟩:=ysu h hp (ev x) (ev y) w
  exact⟨r,by rw[Sem.run_bind,h1];rfl,h2⟩
 | unOp op t x =>
  simp only[hop] at h ⊢
  split at h
  · rename_i u hu
    have e:=zed hu (ev x)
    split at h
    · rename_i r hr'
      simp only[Option.some.injEq,Prod.mk.injEq] at h
      obtain⟨_,rfl⟩:=h
      exact⟨r,by rw[e,Sem.run_bind,zgb hr' w];rfl,zh2 ρ r⟩
    · cases h
  · cases h
 | convert s d x =>
  simp only[hop] at h ⊢
  split at h
  · rename_i u hu
    have e:=zed hu (ev x)
    split at h
    · rename_i r hr'
      simp only[Option.some.injEq,Prod.mk.injEq] at h
      obtain⟨_,rfl⟩:=h
      exact⟨r,by rw[e,Sem.run_bind,zgb hr' w];rfl,zh2 ρ r⟩
    · cases h
  · cases h
 | makeInterface t x =>
  simp only[hop] at h ⊢
  split at h
  · cases h
  · rename_i hi
    simp only[Option.some.injEq,Prod.mk.injEq] at h
    obtain⟨_,rfl⟩:=h
    have hcon:P.concrete t=true:=by
     unfold Program.concrete
     unfold zmx at hi
     cases hu:P.underlying t with
     | none=>simp[hu] at hi
     | some d=>cases d<;>simp[hu] at hi ⊢
    exact⟨_,by rw[Sem.run_bind,run_makeInterface w t _ hcon];rfl,_,rfl,ev x⟩
 | makeFunc fn first cap =>
  simp only[hop] at h ⊢
  cases fn with
  | func f =>
   simp only at h
   split at h
   · rename_i hz
     simp only[Option.some.injEq,Prod.mk.injEq] at h
     obtain⟨_,rfl⟩:=h
     have hf:first = #[]:=by
      apply Array.ext'
      have:first.toList.length=0:=by simpa using hz
      simpa using this
     subst hf
     have e:Array.map a.eval cap=(cap.toList.map a.eval).toArray:=by apply Array.ext';simp
     refine⟨_,rfl,cap.toList.map a.eval,by rw[← e];simp, ?_⟩
     generalize cap.toList=l
     induction l with
     | nil=>trivial
     | cons x l ih=>exact⟨ev x,ih⟩
   · cases h
  | _=>simp at h
 | fieldAddr s x f =>
  simp only[hop] at h ⊢
  obtain⟨v,h1,h2⟩:=zqe h (ev x) w
  exact⟨v,by simp[h1],h2⟩
 | field s x f =>
  simp only[hop] at h ⊢
  split at h
  · rename_i cs e
    have hx:=ev x
    rw[e] at hx
    split at h
    · rename_i c hc
      simp only[Option.some.injEq,Prod.mk.injEq] at h
      obtain⟨_,rfl⟩:=h
      obtain⟨v,h1,h2⟩:=zqx hc hx w
      exact⟨v,by simp[h1],h2⟩
    · cases h
  · cases h
 | indexAddr t x i =>
  simp only[hop] at h ⊢
  obtain⟨v,h1,h2⟩:=zqf h hp (ev x) (ev i) w
  exact⟨v,by simp[h1],h2⟩
 | build t ps =>
  simp only[hop] at h ⊢
  split at h
  · rename_i c hc
    simp only[Option.some.injEq,Prod.mk.injEq] at h
    obtain⟨_,rfl⟩:=h
    obtain⟨v,h1,h2⟩:=yex (ρ:=ρ) (qs:=ps.map fun (i,x)=>(i,a.eval x)) hc (by simp) (by
     intro j p q hp' hq'
     simp only[List.getElem?_map,Array.toList_map] at hp' hq'
     cases hj:ps.toList[j]? with
     | none=>simp[hj] at hp'
     | some r =>
      simp only[hj,Option.map_some,Option.some.injEq] at hp' hq'
      subst hp' hq'
      exact⟨rfl,ev r.2⟩) w
    exact⟨v,by rw[Sem.run_bind,h1];rfl,h2⟩
  · cases h
 | extract x i =>
  simp only[hop] at h ⊢
  split at h
  · rename_i cs e
    have hx:=ev x
    rw[e] at hx
    split at h
    · rename_i c hc
      simp only[Option.some.injEq,Prod.mk.injEq] at h
      obtain⟨_,rfl⟩:=h
      simp only[Rv] at hx
      obtain⟨vs,e2,hv⟩:=hx
      obtain⟨v,h1,h2⟩:=zfz hv hc
      exact⟨v,by simp[e2,Instr.extract,h1],h2⟩
    · cases h
  · cases h
 | call c =>
  obtain⟨cal,as,ts⟩:=c
  simp only[hop] at h ⊢
  cases cal with
  | builtin b =>
   cases b with
   | len =>
    simp only at h
    split at h
    · rename_i x t has hts
      have e1:as = #[x]:=by apply Array.ext';simpa using has
      have e2:ts = #[t]:=by apply Array.ext';simpa using hts
      subst e1 e2
      split at h
      · rename_i n id sz lo len hn e
        have hx:=ev x
        rw[e] at hx
        simp only[Option.some.injEq,Prod.mk.injEq] at h
        obtain⟨_,rfl⟩:=h
        have hu:∃el,P.underlying t=some (.slice el):=by
         unfold zfo at hn
         split at hn
         · rename_i el hu;exact⟨el,hu⟩
         · cases hn
        obtain⟨el,hu⟩:=hu
        simp only[Rv] at hx
        rcases hx with ⟨_,_,rfl,_,e3⟩|⟨L,o',_,_,_,e3⟩
        · exact⟨.int .i64 0,by simp[resolve,invoke,builtin,e3,Builtin.len_,run_underlying hu,goInt],rfl⟩
        · exact⟨.int .i64 len,by simp[resolve,invoke,builtin,e3,Builtin.len_,run_underlying hu,goInt],rfl⟩
      · rename_i n hn e
        have hx:=ev x
        rw[e] at hx
        simp only[Option.some.injEq,Prod.mk.injEq] at h
        obtain⟨_,rfl⟩:=h
        have hu:∃el,P.underlying t=some (.slice el):=by
         unfold zfo at hn
         split at hn
         · rename_i el hu;exact⟨el,hu⟩
         · cases hn
        obtain⟨el,hu⟩:=hu
        have e3:a.eval x = .slice none 0 0:=hx
        exact⟨.int .i64 0,by simp[resolve,invoke,builtin,e3,Builtin.len_,run_underlying hu,goInt],rfl⟩
      · cases h
    · cases h
   | _=>simp at h
  | _=>simp at h
 | _=>simp[hop] at h
def zlk(P:Program)(t:TypeId)(off:Nat):Bool:=P.cellsOf t==0||(byteOfCell P P.depth t (off % P.cellsOf t)).isSome
def zwr(P:Program)(s:TypeId)(f:Nat)(H:Heap):Av→Option (Option Prop × Av)
 | .ptr id sub=>match H[id]? with
  | some (.fix _ _ (some t))=>match P.underlying s with
   | some (.struct fields)=>match fields[f]? with
    | some fd=>match P.info? fd.type with
     | some i=>if i.size=0∧zlk P t sub=true∧zlk P t (sub+fd.offset)=true then some (none,.zp) else none
     | none=>none
    | none=>none
   | _=>none
  | _=>none
 | _=>none
theorem zpw{P:Program}{w:World}{t:TypeId}{n:Nat}{a:Addr}(ha:a.spot=none)(hs:w.shape? a.block=some (t,n))(hg:zlk P t a.off=true):∃b,(byteOf a).run P w = .ok b w:=by
 have hnv:(noView a).run P w = .ok () w:=by simp[noView,viewAt,hs]
 unfold zlk at hg
 simp only[Bool.or_eq_true,beq_iff_eq] at hg
 by_cases h0:P.cellsOf t=0
 · exact⟨0,by unfold byteOf;rw[ha];simp[hnv,hs,h0]⟩
 · obtain⟨b,hb⟩:=Option.isSome_iff_exists.1 (hg.resolve_left h0)
   exact⟨a.off/P.cellsOf t*P.bytesOf t+b,by unfold byteOf;rw[ha];simp[hnv,hs,h0,hb]⟩
theorem ybm{P:Program}{s:TypeId}{f:Nat}{H:Heap}{x:Av}{p:Option Prop}{av:Av}(h:zwr P s f H x=some (p,av)){ρ:Env}{w:World}(hr:Rel ρ H w){y:Value}(hx:Rv ρ x y) :
 ∃v,(Instr.fieldAt s y f).run P w = .ok v w∧Rv ρ av v:=by
 unfold zwr at h
 split at h
 case h_2=>cases h
 rename_i id sub
 split at h
 case h_2=>cases h
 rename_i cells own t hb
 split at h
 case h_2=>cases h
 rename_i fields hu
 split at h
 case h_2=>cases h
 rename_i fd hfd
 split at h
 case h_2=>cases h
 rename_i i hi
 split at h
 case isFalse=>cases h
 rename_i hc
 obtain⟨h0,g1,g2⟩:=hc
 simp only[Option.some.injEq,Prod.mk.injEq] at h
 obtain⟨rfl,rfl⟩:=h
 simp only[Rv] at hx
 obtain⟨L,hL,rfl⟩:=hx
 obtain⟨M,vs,hM,_,_,_,hsh,_⟩:=hr.blk id _ hb
 rw[hL] at hM;cases hM
 obtain⟨hoff,n,hs⟩:=hsh t rfl
 have e1:L.off+sub=sub:=by omega
 obtain⟨b1,hb1⟩:=zpw (P:=P) (a:=⟨L.b,sub,none⟩) rfl hs g1
 obtain⟨b2,hb2⟩:=zpw (P:=P) (a:=⟨L.b,sub+fd.offset,none⟩) rfl hs g2
 have hp:∃a,(fieldPlace ⟨L.b,L.off+sub,none⟩ fd).run P w = .ok a w:=by
  unfold fieldPlace partAt
  rw[e1]
  refine⟨if b2=b1+fd.byteOffset then { block:=L.b,off:=sub+fd.offset } else { block:=L.b,off:=sub+fd.offset,spot:=some (b1+fd.byteOffset) }, ?_⟩
  simp[sizeOf,typeInfo,hi,h0,hb1,hb2]
 obtain⟨a,ha⟩:=hp
 refine⟨.pointer (some a), ?_,a,rfl⟩
 unfold Instr.fieldAt
 simp[run_underlying hu,hfd,Instr.sureAddr,ha]
def ztm(k:IntKind):List Av→Option (List Int)
 | []=>some []
 | .v (.int j n)::cs=>if j=k then (match ztm k cs with|some ns=>some (n::ns)|none=>none) else none
 | _::_=>none
theorem zpj{ρ:Env}{k:IntKind}:∀{cs:List Av}{ns:List Int}{vs:List Value},ztm k cs=some ns→RvL ρ cs vs→vs=ns.map (.int k)
 | [],ns,vs,h,g=>by
  simp only[ztm,Option.some.injEq] at h
  subst h
  cases vs with
  | nil=>rfl
  | cons _ _=>simp[RvL] at g
 | c::cs,ns,vs,h,g=>by
  cases vs with
  | nil=>simp[RvL] at g
  | cons v vs =>
   unfold ztm at h
   split at h
   · rename_i he;cases he
   · rename_i j n cs' he
     cases he
     split at h
     · rename_i hj
       subst hj
       split at h
       · rename_i ms hms
         simp only[Option.some.injEq] at h
         subst h
         have e:v = .int j n:=g.1
         rw[e,zpj hms g.2]
         rfl
       · cases h
     · cases h
   · cases h
def yey(P:Program)(t:TypeId)(x i:Av):Option (Option Prop × Av) :=
 match P.underlying t,x,i with
 | some (.array len e),.agg (.v (.int k m)::cs),.v (.int _ j) =>
  match ztm k (.v (.int k m)::cs),zdq P e,(P.info? e).map (·.size) with
  | some ns,some none,some 1=>if ns.length=len then some (some (0≤j∧j<(len:Int)),.v (.int k (ns.getD j.toNat 0))) else none
  | _,_,_=>none
 | _,_,_=>none
theorem yez{P:Program}{t:TypeId}{x i:Av}{p:Option Prop}{av:Av}(h:yey P t x i=some (p,av))(hp:Hold p){ρ:Env}{u v:Value}(hx:Rv ρ x u)(hi:Rv ρ i v)(w:World) :
 ∃r,(Instr.index t u v).run P w = .ok r w∧Rv ρ av r:=by
 unfold yey at h
 split at h
 case h_2=>cases h
 rename_i len e k m cs k2 j hu
 split at h
 case h_2=>cases h
 rename_i ns hns hk hs
 split at h
 case isFalse=>cases h
 rename_i hl
 simp only[Option.some.injEq,Prod.mk.injEq] at h
 obtain⟨rfl,rfl⟩:=h
 obtain⟨h0,h1⟩:=hp
 have hx2:=hx
 simp only[Rv] at hx2
 obtain⟨vs,rfl,hvs⟩:=hx2
 have hv:=zpj hns hvs
 have e2:v = .int k2 j:=hi
 subst e2
 have hlt:j.toNat<ns.length:=by omega
 have hget:vs[j.toNat]? = some (.int k (ns.getD j.toNat 0)):=by
  rw[hv,List.getElem?_map,List.getElem?_eq_getElem hlt,List.getD_eq_getElem?_getD,List.getElem?_eq_getElem hlt]
  rfl
 simp only[Option.map_eq_some_iff] at hs
 obtain⟨inf,hinf,hsz⟩:=hs
 refine⟨_, ?_,rfl⟩
 unfold Instr.index
 simp only[asIntOf,Sem.run_bind,Sem.run_pure,Result.andThen_ok,run_underlying hu]
 rw[if_pos ⟨h0,h1⟩]
 have hpart:=zhm hk (vs:=vs) (o:=j.toNat) hget w
 simp[sizeOf,typeInfo,hinf,hsz,hpart]
def ybg(P:Program)(t:TypeId):Option Av :=
 match P.info? t with
 | some i=>match i.zero with|some z=>some (zrd z)|none=>none
 | none=>none
theorem zp9{P:Program}{t:TypeId}{z:Av}(h:ybg P t=some z)(w:World):∃v,(zeroValue t).run P w = .ok v w∧∀ρ,Rv ρ z v:=by
 unfold ybg at h
 split at h
 · rename_i i hi
   split at h
   · rename_i v hv
     simp only[Option.some.injEq] at h
     subst h
     exact⟨v,by simp[zeroValue,typeInfo,hi,hv],fun ρ=>zh2 ρ v⟩
   · cases h
 · cases h
def zwo(P:Program)(ta:TypeId)(commaOk:Bool)(x:Av):Option (Option Prop × Av) :=
 match zmx P ta,commaOk,x with
 | false,true,.v .nilIface=>match ybg P ta with|some z=>some (none,.tup [z,.ff])|none=>none
 | false,true,.ifc t a=>if t=ta then some (none,.tup [a,.tt]) else (match ybg P ta with|some z=>some (none,.tup [z,.ff])|none=>none)
 | false,false,.ifc t a=>if t=ta then some (none,a) else none
 | _,_,_=>none
theorem zgm{P:Program}{t:TypeId}(h:zmx P t=false):∃d,P.underlying t=some d∧∀ms,d ≠ .interface ms:=by
 unfold zmx at h
 split at h
 · cases h
 · cases h
 · rename_i h1 h2
   cases hu:P.underlying t with
   | none=>exact absurd hu h2
   | some d=>exact⟨d,rfl,fun ms e=>h1 ms (by rw[hu,e])⟩
theorem ybl{P:Program}{tx ta:TypeId}{commaOk:Bool}{x:Av}{p:Option Prop}{av:Av}(h:zwo P ta commaOk x=some (p,av)){ρ:Env}{u:Value}(hx:Rv ρ x u)(w:World) :
 ∃r,(Instr.typeAssert u tx ta commaOk).run P w = .ok r w∧Rv ρ av r:=by
 unfold zwo at h
 split at h
 · rename_i hi
   split at h
   case h_2=>cases h
   rename_i z hz
   simp only[Option.some.injEq,Prod.mk.injEq] at h
   obtain⟨rfl,rfl⟩:=h
   obtain⟨d,hd,hne⟩:=zgm hi
   obtain⟨zv,h1,h2⟩:=zp9 hz w
   have e:u = .nilIface:=hx
   subst e
   refine⟨.tuple #[zv,.bool false], ?_,[zv,.bool false],rfl,h2 ρ,rfl,trivial⟩
   unfold Instr.typeAssert
   simp only[Sem.run_bind,run_underlying hd,Result.andThen_ok]
   cases d<;>first|exact absurd rfl (hne _)|simp[h1]
 · rename_i t a hi
   obtain⟨d,hd,hne⟩:=zgm hi
   simp only[Rv] at hx
   obtain⟨y,rfl,hy⟩:=hx
   split at h
   · rename_i e
     subst e
     simp only[Option.some.injEq,Prod.mk.injEq] at h
     obtain⟨rfl,rfl⟩:=h
     refine⟨.tuple #[y,.bool true], ?_,[y,.bool true],rfl,hy,rfl,trivial⟩
     unfold Instr.typeAssert
     simp only[Sem.run_bind,run_underlying hd,Result.andThen_ok]
     cases d<;>first|exact absurd rfl (hne _)|simp
   · rename_i e
     split at h
     case h_2=>cases h
     rename_i z hz
     simp only[Option.some.injEq,Prod.mk.injEq] at h
     obtain⟨rfl,rfl⟩:=h
     obtain⟨zv,h1,h2⟩:=zp9 hz w
     refine⟨.tuple #[zv,.bool false], ?_,[zv,.bool false],rfl,h2 ρ,rfl,trivial⟩
     unfold Instr.typeAssert
     simp only[Sem.run_bind,run_underlying hd,Result.andThen_ok]
     cases d<;>first|exact absurd rfl (hne _)|simp[e,h1]
 · rename_i t a hi
   obtain⟨d,hd,hne⟩:=zgm hi
   simp only[Rv] at hx
   obtain⟨y,rfl,hy⟩:=hx
   split at h
   case isFalse=>cases h
   rename_i e
   subst e
   simp only[Option.some.injEq,Prod.mk.injEq] at h
   obtain⟨rfl,rfl⟩:=h
   refine⟨y, ?_,hy⟩
   unfold Instr.typeAssert
   simp only[Sem.run_bind,run_underlying hd,Result.andThen_ok]
   cases d<;>first|exact absurd rfl (hne _)|simp
 · cases h
theorem zmm{P:Program}{t el:TypeId}(hu:P.underlying t=some (.slice el))(q:Option Addr)(n c:Nat)(w:World):(Op.equal t (.slice q n c) (.slice none 0 0)).run P w = .ok q.isNone w:=by
 show (Op.equalIn (9999+1) t (.slice q n c) (.slice none 0 0)).run P w=_
 rw[Op.equalIn,Sem.run_bind,run_underlying hu,Result.andThen_ok]
 cases q<;>rfl
theorem zjd{P:Program}{t el:TypeId}(hu:P.underlying t=some (.slice el))(q:Option Addr)(n c:Nat)(x y:Operand)(w:World) :
 (do eqGuard .eql t x y (.slice q n c) (.slice none 0 0);binOp .eql t (.slice q n c) (.slice none 0 0):Sem Value).run P w = .ok (.bool q.isNone) w:=by
 have h:(do eqGuard .eql t x y (.slice q n c) (.slice none 0 0);binOp .eql t (.slice q n c) (.slice none 0 0):Sem Value)=(do pure (.bool (← Op.equal t (.slice q n c) (.slice none 0 0)))):=rfl
 rw[h,Sem.run_bind,zmm hu,Result.andThen_ok]
 rfl
def yab1(l:List Int):Value := .string (l.foldl (fun r n=>r.push (UInt8.ofNat n.toNat)) ByteArray.empty)
def aStr(P:Program)(s d:TypeId)(H:Heap):Av→Option (Option Prop × Av)
 | .sl id 1 lo len=>match H[id]?,P.underlying s,P.underlying d with
  | some (.arr [.i .u8] bs _),some (.slice e),some .string=>(match P.underlying e with
   | some (.int .u8)=>some (some (lo+len≤bs.length),.v (yab1 ((bs.drop lo).take len)))
   | _=>none)
  | _,_,_=>none
 | _=>none
theorem ysw{P:Program}{s d:TypeId}{H:Heap}{x:Av}{p:Option Prop}{av:Av}(h:aStr P s d H x=some (p,av))(hp:Hold p){ρ:Env}{w:World}{y:Value}(hr:Rel ρ H w)(hx:Rv ρ x y) :
 ∃v,(convert s d y).run P w = .ok v w∧Rv ρ av v:=by
 unfold aStr at h
 split at h
 case h_2=>cases h
 rename_i id lo len
 split at h
 case h_2=>cases h
 rename_i bs own e hb hs hd
 split at h
 case h_2=>cases h
 rename_i he
 simp only[Option.some.injEq,Prod.mk.injEq] at h
 obtain⟨rfl,rfl⟩:=h
 have hp:lo+len≤bs.length:=hp
 refine⟨yab1 ((bs.drop lo).take len), ?_,rfl⟩
 simp only[Rv] at hx
 rcases hx with ⟨_,rfl,rfl,q,rfl⟩|⟨L,o,hL,hc,ho,rfl⟩
 · rw[run_convert_bytes_string w s d e q 0 0 hs he hd]
   cases q with
   | none=>rfl
   | some a =>
    have hl:(loadCells a 0).run P w = .ok (([]:List Int).map (Value.int .u8)).toArray w:=run_loadCells_list (P:=P) w a [] (fun j v hj=>by simp at hj)
    rw[run_bytesToString w a 0 0 [] hl]
    rfl
 · rw[run_convert_bytes_string w s d e _ _ _ hs he hd]
   have hlen:((bs.drop lo).take len).length=len:=by rw[List.length_take,List.length_drop];omega
   have hl:(loadCells ⟨L.b,L.off+o*1,none⟩ len).run P w = .ok (((bs.drop lo).take len).map (Value.int .u8)).toArray w:=by
    have:=run_loadCells_list (P:=P) w ⟨L.b,L.off+o*1,none⟩ (((bs.drop lo).take len).map (Value.int .u8)) (fun j v hj => ?_)
    · rw[List.length_map,hlen] at this;exact this
    · have hR:=hr.blk id _ hb
      simp only[Rb] at hR
      rcases hR with ⟨z,_⟩|⟨M,hM,hle,hcell,_⟩
      · rw[hL] at z;cases z
      · rw[hL] at hM;cases hM
        rw[List.getElem?_map] at hj
        have hjl:j<len:=by
         rcases Nat.lt_or_ge j len with z|z
         · exact z
         · rw[List.getElem?_eq_none (by rw[hlen];exact z)] at hj;cases hj
        have hoe:o=lo:=by
         rcases ho with z|z
         · exact z
         · omega
        subst hoe
        rw[List.getElem?_take,if_pos hjl,List.getElem?_drop] at hj
        cases hb2:bs[o+j]? with
        | none=>rw[hb2] at hj;cases hj
        | some n =>
         rw[hb2] at hj
         have hj:Value.int .u8 n=v:=by simpa using hj
         have:=hcell (o+j) n hb2 0 v (by rw[← hj];rfl)
         rw[← this]
         congr 1
         simp only[Addr.add,List.length_singleton]
         split
         · congr 1
           omega
         · congr 1
           omega
   rw[run_bytesToString w _ len _ _ hl]
   rfl
def extra(P:Program)(o:Oper)(sl:List Av)(H:Heap):Option (Option Prop × Av) :=
 match o.op with
 | .binOp .eql t x y _ =>
  match evS sl x,evS sl y,P.underlying t with
  | .sl _ _ _ len,.v (.slice none 0 0),some (.slice _)=>some (none,.q (len=0))
  | _,_,_=>none
 | .convert s d x=>aStr P s d H (evS sl x)
 | .fieldAddr s x f=>zwr P s f H (evS sl x)
 | .load t x=>match evS sl x,zdq P t with | .zp,some (some 0)=>some (none,.agg [])|_,_=>none
 | .index t x i=>yey P t (evS sl x) (evS sl i)
 | .typeAssert x _ ta ok=>zwo P ta ok (evS sl x)
 | .call { callee := .builtin .min,args:=as,argTypes:=ts } =>
  match as.toList with
  | [x,y]=>match zbx (evS sl x),zbx (evS sl y) with
   | some u,some v=>(match peval P (Builtin.min_ ts o.type #[u,v]) with|some r=>some (none,zrd r)|none=>none)
   | _,_=>none
  | _=>none
 | _=>none
theorem ymx{P:Program}{o:Oper}{sl:List Av}{H:Heap}{p:Option Prop}{av:Av}(h:extra P o sl H=some (p,av))(hp:Hold p){ρ:Env}{a:Act}{w:World}
 (hs:RvL ρ sl a.tmps.toList) (hr:Rel ρ H w):∃v,(execOp a.eval o).run P w = .ok (.value v) w∧Rv ρ av v:=by
 have ev:=zcb hs
 unfold extra at h
 unfold execOp
 split at h
 · rename_i t x y ty hop
   simp only[hop]
   have hx:=ev x
   have hy:=ev y
   split at h
   case h_2=>cases h
   rename_i id sz lo len el e1 e2 hu
   simp only[Option.some.injEq,Prod.mk.injEq] at h
   obtain⟨rfl,rfl⟩:=h
   rw[e1] at hx
   rw[e2] at hy
   have hy':a.eval y = .slice none 0 0:=hy
   simp only[Rv] at hx
   rcases hx with ⟨_,_,hl,q,hx⟩|⟨L,o',_,_,_,hx⟩
   · have:=zjd hu q 0 0 x y w
     rw[← hx, ← hy'] at this
     exact⟨.bool q.isNone,by rw[Sem.run_bind] at this ⊢;simp[this],q.isNone,rfl,fun _=>hl⟩
   · have:=zjd hu (some ⟨L.b,L.off+o'*sz,none⟩) len (L.cap-lo) x y w
     rw[← hx, ← hy'] at this
     exact⟨.bool false,by rw[Sem.run_bind] at this ⊢;simp[this],false,rfl,fun h=>by cases h⟩
 · rename_i s d x hop
   simp only[hop]
   obtain⟨v,h1,h2⟩:=ysw h hp hr (ev x)
   exact⟨v,by simp[h1],h2⟩
 · rename_i s x f hop
   simp only[hop]
   obtain⟨v,h1,h2⟩:=ybm h hr (ev x)
   exact⟨v,by simp[h1],h2⟩
 · rename_i t x hop
   simp only[hop]
   have hx:=ev x
   split at h
   case h_2=>cases h
   rename_i e hk
   simp only[Option.some.injEq,Prod.mk.injEq] at h
   obtain⟨rfl,rfl⟩:=h
   rw[e] at hx
   simp only[Rv] at hx
   obtain⟨q,hx⟩:=hx
   have:=zdb (P:=P) hk (w:=w) (a:=q) (vs:=[]) rfl (fun j v hj=>by simp at hj)
   refine⟨.agg #[], ?_,[],rfl,trivial⟩
   simp[hx,Instr.loadAt,Instr.sureAddr,this]
 · rename_i t x i hop
   simp only[hop]
   obtain⟨v,h1,h2⟩:=yez h hp (ev x) (ev i) w
   exact⟨v,by simp[h1],h2⟩
 · rename_i x tx ta ok hop
   simp only[hop]
   obtain⟨v,h1,h2⟩:=ybl (tx:=tx) h (ev x) w
   exact⟨v,by simp[h1],h2⟩
 · rename_i as ts hop
   simp only[hop]
   split at h
   case h_2=>cases h
   rename_i x y has
   have hx:=ev x
   have hy:=ev y
   split at h
   case h_2=>cases h
   rename_i u v hu hv
   split at h
   case h_2=>cases h
   rename_i r hr'
   simp only[Option.some.injEq,Prod.mk.injEq] at h
   obtain⟨rfl,rfl⟩:=h
   have e1:=zed hu hx
   have e2:=zed hv hy
   have hrun:=zgb hr' w
   refine⟨r, ?_,zh2 ρ r⟩
   have eas:as = #[x,y]:=by
    rw[← Array.toArray_toList (xs:=as),has]
   subst eas
   simp[resolve,invoke,builtin,e1,e2,hrun]
 · cases h
mutual
def ren(f:Nat→Nat):Av→Av
 | .ptr id sub => .ptr (f id) sub
 | .eptr id sz i sub => .eptr (f id) sz i sub
 | .sl id sz lo len => .sl (f id) sz lo len
 | .agg cs => .agg (zuc f cs)
 | .tup cs => .tup (zuc f cs)
 | .fn g cs => .fn g (zuc f cs)
 | .ifc t x => .ifc t (ren f x)
 | .any => .any
 | .q p => .q p
 | .zp => .zp
 | .opq ids X => .opq (ids.map f) X
 | .tt => .tt
 | .ff => .ff
 | .v x => .v x
def zuc(f:Nat→Nat):List Av→List Av
 | []=>[]
 | a::as=>ren f a::zuc f as
end
mutual
def zcr:Av→List Nat
 | .ptr id _=>[id]
 | .eptr id _ _ _=>[id]
 | .sl id _ _ _=>[id]
 | .agg cs=>zof cs
 | .tup cs=>zof cs
 | .fn _ cs=>zof cs
 | .ifc _ x=>zcr x
 | .opq ids _=>ids
 | _=>[]
def zof:List Av→List Nat
 | []=>[]
 | a::as=>zcr a++zof as
end
mutual
theorem zud{ρ:Env}(f:Nat→Nat):∀(a:Av)(y:Value),Rv (fun k=>ρ (f k)) a y↔Rv ρ (ren f a) y
 | .ptr _ _,_=>Iff.rfl
 | .eptr ..,_=>Iff.rfl
 | .sl ..,_=>Iff.rfl
 | .agg cs,y=>by simp only[ren,Rv];exact⟨fun ⟨vs,h,g⟩=>⟨vs,h,(zf2 f cs vs).1 g⟩,fun ⟨vs,h,g⟩=>⟨vs,h,(zf2 f cs vs).2 g⟩⟩
 | .tup cs,y=>by simp only[ren,Rv];exact⟨fun ⟨vs,h,g⟩=>⟨vs,h,(zf2 f cs vs).1 g⟩,fun ⟨vs,h,g⟩=>⟨vs,h,(zf2 f cs vs).2 g⟩⟩
 | .fn _ cs,y=>by simp only[ren,Rv];exact⟨fun ⟨vs,h,g⟩=>⟨vs,h,(zf2 f cs vs).1 g⟩,fun ⟨vs,h,g⟩=>⟨vs,h,(zf2 f cs vs).2 g⟩⟩
 | .ifc _ x,y=>by simp only[ren,Rv];exact⟨fun ⟨u,h,g⟩=>⟨u,h,(zud f x u).1 g⟩,fun ⟨u,h,g⟩=>⟨u,h,(zud f x u).2 g⟩⟩
 | .any,_=>Iff.rfl
 | .q _,_=>Iff.rfl
 | .zp,_=>Iff.rfl
 | .opq ids X,y=>by simp only[ren,Rv,List.map_map];exact Iff.rfl
 | .tt,_=>Iff.rfl
 | .ff,_=>Iff.rfl
 | .v _,_=>Iff.rfl
theorem zf2{ρ:Env}(f:Nat→Nat):∀(as:List Av)(ys:List Value),RvL (fun k=>ρ (f k)) as ys↔RvL ρ (zuc f as) ys
 | [],[]=>Iff.rfl
 | [],_::_=>Iff.rfl
 | _::_,[]=>Iff.rfl
 | a::as,y::ys=>by simp only[zuc,RvL];rw[zud f a y,zf2 f as ys]
end
theorem zrb(f g:Nat→Nat):∀(l:List Nat),(∀i ∈ l,f (g i)=i)→l.map (f∘g)=l
 | [],_=>rfl
 | i::l,h=>by simp only[List.map_cons,Function.comp];rw[h i (by simp)];exact congrArg _ (zrb f g l (fun j hj=>h j (by simp[hj])))
mutual
theorem yaw(f g:Nat→Nat):∀(a:Av),(∀i ∈ zcr a,f (g i)=i)→ren f (ren g a)=a
 | .ptr id _,h=>by simp only[ren];rw[h id (by simp[zcr])]
 | .eptr id _ _ _,h=>by simp only[ren];rw[h id (by simp[zcr])]
 | .sl id _ _ _,h=>by simp only[ren];rw[h id (by simp[zcr])]
 | .agg cs,h=>by simp only[ren];rw[zgd f g cs (by simpa[zcr] using h)]
 | .tup cs,h=>by simp only[ren];rw[zgd f g cs (by simpa[zcr] using h)]
 | .fn _ cs,h=>by simp only[ren];rw[zgd f g cs (by simpa[zcr] using h)]
 | .ifc _ x,h=>by simp only[ren];rw[yaw f g x (by simpa[zcr] using h)]
 | .any,_=>rfl
 | .q _,_=>rfl
 | .zp,_=>rfl
 | .opq ids X,h=>by simp only[ren,List.map_map];rw[zrb f g ids (by simpa[zcr] using h)]
 | .tt,_=>rfl
 | .ff,_=>rfl
 | .v _,_=>rfl
theorem zgd(f g:Nat→Nat):∀(as:List Av),(∀i ∈ zof as,f (g i)=i)→zuc f (zuc g as)=as
 | [],_=>rfl
 | a::as,h=>by
  simp only[zuc]
  rw[yaw f g a (fun i hi=>h i (by simp[zof,hi])),zgd f g as (fun i hi=>h i (by simp[zof,hi]))]
end
def zld(f:Nat→Nat):Blk→Blk
 | .fix cells o ty => .fix (zuc f cells) o ty
 | .ob o ids s R => .ob o (ids.map f) s R
 | b=>b
def yeb:Blk→List Nat
 | .fix cells _ _=>zof cells
 | .ob _ ids _ _=>ids
 | _=>[]
theorem zeb(f:Nat→Nat)(b:Blk):(zld f b).own=b.own:=by cases b<;>rfl
theorem zej(f:Nat→Nat)(b:Blk):(zld f b).live=b.live:=by cases b<;>rfl
theorem yir(f g:Nat→Nat)(b:Blk)(h:∀i ∈ yeb b,f (g i)=i):zld f (zld g b)=b:=by
 cases b with
 | fix cells o ty=>simp only[zld];rw[zgd f g cells h]
 | ob o ids s R=>simp only[zld,List.map_map];rw[zrb f g ids h]
 | _=>rfl
theorem znl(f:Nat→Nat):∀l:List Av,(zuc f l).length=l.length
 | []=>rfl
 | _::l=>by simp[zuc,znl f l]
theorem yis{ρ:Env}(f:Nat→Nat)(w:World)(k:Nat)(b:Blk):Rb (fun k=>ρ (f k)) w k b↔Rb ρ w (f k) (zld f b):=by
 cases b with
 | dead=>exact Iff.rfl
 | arr sh xs o=>exact Iff.rfl
 | ob o ids s R=>simp only[zld,Rb,List.map_map];exact Iff.rfl
 | fix cells o ty =>
  simp only[zld,Rb,znl]
  constructor
  · rintro⟨L,vs,h1,h2,h3,h4,h5⟩;exact⟨L,vs,h1,(zf2 f cells vs).1 h2,h3,h4,h5⟩
  · rintro⟨L,vs,h1,h2,h3,h4,h5⟩;exact⟨L,vs,h1,(zf2 f cells vs).2 h2,h3,h4,h5⟩
structure Fr (B:Nat→Prop) (w w':World):Prop where
 size:w.heap.size≤w'.heap.size
 blk:∀b,b<w.heap.size→¬ B b→w'.heap[b]? = w.heap[b]?
 str:Streams w w'
def owns(ρ:Env)(H:Heap)(b:Nat):Prop:=∃id blk L,H[id]? = some blk∧blk.own=true∧ρ id=some L∧L.b=b
theorem Fr.refl(B:Nat→Prop)(w:World):Fr B w w:=⟨Nat.le_refl _,fun _ _ _=>rfl,Streams.refl w⟩
abbrev Sum:=List Av→Heap→Option (Option Prop × Av × Heap)
def zky(C:List Value→World→(Ending→World→Prop)→Prop)(E:Value→Ending)(S:Sum):Prop :=
 ∀(args:List Av)(H:Heap)(p:Option Prop)(v:Av)(H':Heap),S args H=some (p,v,H')→Hold p→∀(ρ:Env)(vs:List Value)(w:World),(∀ρ',Agree H.length ρ ρ'→RvL ρ' args vs∧Rel ρ' H w) →
  C vs w fun e w'=>∃y ρ1,e=E y∧Agree H.length ρ ρ1∧(∀ρ',Agree H'.length ρ1 ρ'→Rv ρ' v y∧Rel ρ' H' w')∧Fr (owns ρ H) w w' ∧
   ∀id blk L,H.length≤id→H'[id]? = some blk→blk.live=true→ρ1 id=some L→owns ρ H L.b∨w.heap.size≤L.b
def zcp(P:Program)(E:Value→Ending)(f:FuncId)(S:Sum):Prop :=
 ∀(args:List Av)(H:Heap)(p:Option Prop)(v:Av)(H':Heap),S args H=some (p,v,H')→Hold p→∀(ρ:Env)(vs:List Value)(w:World),(∀ρ',Agree H.length ρ ρ'→RvL ρ' args vs∧Rel ρ' H w) →
  Calls P f vs.toArray w fun e w'=>∃y ρ1,e=E y∧Agree H.length ρ ρ1∧(∀ρ',Agree H'.length ρ1 ρ'→Rv ρ' v y∧Rel ρ' H' w')∧Fr (owns ρ H) w w' ∧
   ∀id blk L,H.length≤id→H'[id]? = some blk→blk.live=true→ρ1 id=some L→owns ρ H L.b∨w.heap.size≤L.b
abbrev Sound(P:Program)(f:FuncId)(S:Sum):Prop:=zcp P .returned f S
def panics(v:Value):Ending := .panicked [{ v,recovered:=false }]
def keeps:Heap→Heap→Bool
 | [],_=>true
 | _::_,[]=>false
 | b::bs,c::cs=>(!c.own||b.own)&&(!c.live||b.live)&&keeps bs cs
theorem zhg:∀{H H':Heap},keeps H H'=true→H.length≤H'.length∧∀(i:Nat)(b c:Blk),H[i]? = some b→H'[i]? = some c→(c.own=true→b.own=true)∧(c.live=true→b.live=true)
 | [],_,_=>⟨by simp,fun i b c h=>by simp at h⟩
 | _::_,[],h=>by simp[keeps] at h
 | b::bs,c::cs,h=>by
  simp only[keeps,Bool.and_eq_true,Bool.or_eq_true,Bool.not_eq_true'] at h
  obtain⟨⟨h1,h2⟩,h3⟩:=h
  obtain⟨g1,g2⟩:=zhg h3
  refine⟨by simp;omega,fun i x y hx hy => ?_⟩
  cases i with
  | zero =>
   simp at hx hy
   subst hx hy
   exact⟨fun e=>by rcases h1 with h1|h1<;>simp_all,fun e=>by rcases h2 with h2|h2<;>simp_all⟩
  | succ i=>exact g2 i x y (by simpa using hx) (by simpa using hy)
def reach:Nat→Heap→List Nat→List Nat→List Nat
 | 0,_,m,_=>m
 | _+1,_,m,[]=>m
 | n+1,H,m,i::todo=>if m.contains i then reach n H m todo else reach n H (m++[i]) (yeb (H.getD i .dead)++todo)
def yib(args:List Av)(H:Heap)(m:List Nat):Bool :=
 (zof args).all m.contains&&m.all (fun i=>decide (i<H.length)&&(yeb (H.getD i .dead)).all m.contains)&&decide m.Nodup
def zfx(m:List Nat)(n:Nat)(k:Nat):Nat:=if k<m.length then m.getD k 0 else n+(k-m.length)
def zf1(f:Nat→Nat):List Nat→Heap→Heap→Heap
 | [],_,H=>H
 | _::_,[],H=>H
 | i::m,b::bs,H=>zf1 f m bs (H.set i (zld f b))
def zql(S:Sum)(args:List Av)(H:Heap):Option (Option Prop × Av × Heap) :=
 let m:=reach 200 H [] (zof args)
 if yib args H m then
  let H0:=m.map fun i=>zld m.idxOf (H.getD i .dead)
  match S (zuc m.idxOf args) H0 with
  | some (p,v,H0') =>
   if keeps H0 H0' then
    let f:=zfx m H.length
    some (p,ren f v,zf1 f m H0' H++(H0'.drop m.length).map (zld f))
   else none
  | none=>none
 else none
theorem zc6(f:Nat→Nat):∀(m:List Nat)(bs H:Heap),(zf1 f m bs H).length=H.length
 | [],_,_=>rfl
 | _::_,[],_=>rfl
 | i::m,b::bs,H=>by simp only[zf1];rw[zc6 f m bs];simp
theorem zgs(f:Nat→Nat):∀(m:List Nat)(bs H:Heap)(i:Nat),i ∉ m→(zf1 f m bs H)[i]? = H[i]?
 | [],_,_,_,_=>rfl
 | _::_,[],_,_,_=>rfl
 | j::m,b::bs,H,i,h=>by
  simp only[zf1]
  rw[zgs f m bs _ i (fun e=>h (by simp[e])),List.getElem?_set_ne (fun e=>h (by simp[e]))]
theorem zpt(f:Nat→Nat):∀(m:List Nat)(bs H:Heap)(k i:Nat)(b:Blk),m.Nodup→(∀i ∈ m,i<H.length)→m[k]? = some i→bs[k]? = some b→(zf1 f m bs H)[i]? = some (zld f b)
 | [],_,_,_,_,_,_,_,hk,_=>by simp at hk
 | _::_,[],_,_,_,_,_,_,_,hb=>by simp at hb
 | j::m,c::bs,H,k,i,b,hn,hl,hk,hb=>by
  simp only[zf1]
  rw[List.nodup_cons] at hn
  cases k with
  | zero =>
   simp at hk hb
   subst hk hb
   rw[zgs f m bs _ j hn.1,List.getElem?_set_self (hl j (by simp))]
  | succ k=>exact zpt f m bs _ k i b hn.2 (fun i hi=>by simpa using hl i (by simp[hi])) (by simpa using hk) (by simpa using hb)
theorem zcv{w w':World}{a:Addr}(h:w'.heap[a.block]? = w.heap[a.block]?):w'.cell? a=w.cell? a:=by unfold World.cell?;rw[h]
theorem ze9{w w':World}{a:Addr}(h:w'.heap[a.block]? = w.heap[a.block]?):w'.frozen? a=w.frozen? a:=by unfold World.frozen?;rw[h]
theorem zwj{ρ:Env}{w w':World}{id:Nat}{blk:Blk}(h:∀L,ρ id=some L→blk.live=true→w'.heap[L.b]? = w.heap[L.b]?)(hb:Rb ρ w id blk):Rb ρ w' id blk:=by
 cases blk with
 | dead=>trivial
 | fix cells own ty =>
  obtain⟨L,vs,h1,h2,h3,h4,h5,h6⟩:=hb
  have hn:=h L h1 rfl
  exact⟨L,vs,h1,h2,fun j v hj=>by rw[zcv (a:=⟨L.b,_,none⟩) hn];exact h3 j v hj,fun ho j hj=>by rw[ze9 (a:=⟨L.b,_,none⟩) hn];exact h4 ho j hj,fun t ht=>by rw[show w'.shape? L.b=w.shape? L.b by unfold World.shape?;rw[hn]];exact h5 t ht,h6.mono (by unfold World.shape?;rw[hn]) (fun p _=>zcv (a:=⟨L.b,_,none⟩) hn) (fun p _=>ze9 (a:=⟨L.b,_,none⟩) hn)⟩
 | arr sh xs own =>
  rcases hb with hb|⟨L,h1,h2,h3,h4⟩
  · exact .inl hb
  · have hn:=h L h1 rfl
    refine .inr ⟨L,h1,h2,fun i x hx j v hj => ?_,fun ho j hj => ?_⟩
    · rw[zcv (a:=⟨L.b,_,none⟩) hn];exact h3 i x hx j v hj
    · rw[zcv (a:=⟨L.b,_,none⟩) hn,ze9 (a:=⟨L.b,_,none⟩) hn];exact h4 ho j hj
 | ob own ids s R=>exact yeq (fun L hL=>h L hL rfl) hb
def Ends(E:Value→Ending)(ρ:Env)(H:Heap)(w:World)(v:Av)(H':Heap)(e:Ending)(w':World):Prop :=
 ∃y ρ1,e=E y∧Agree H.length ρ ρ1∧(∀ρ',Agree H'.length ρ1 ρ'→Rv ρ' v y∧Rel ρ' H' w')∧Fr (owns ρ H) w w' ∧
  ∀id blk L,H.length≤id→H'[id]? = some blk→blk.live=true→ρ1 id=some L→owns ρ H L.b∨w.heap.size≤L.b
def yzr(args:List Av)(H:Heap):List Nat:=reach 200 H [] (zof args)
def yn0(args:List Av)(H:Heap):List Av:=zuc (yzr args H).idxOf args
def yck(args:List Av)(H:Heap):Heap:=(yzr args H).map fun i=>zld (yzr args H).idxOf (H.getD i .dead)
def rEnv(ρ:Env)(args:List Av)(H:Heap):Env:=fun k=>ρ (zfx (yzr args H) H.length k)
theorem zma{S:Sum}{args:List Av}{H:Heap}{p:Option Prop}{v:Av}{H':Heap}(h:zql S args H=some (p,v,H')){ρ:Env}{vs:List Value}{w:World}(hw:∀ρ',Agree H.length ρ ρ'→RvL ρ' args vs∧Rel ρ' H w) :
 ∃v0 H0',S (yn0 args H) (yck args H)=some (p,v0,H0')∧(∀ρ0',Agree (yck args H).length (rEnv ρ args H) ρ0'→RvL ρ0' (yn0 args H) vs∧Rel ρ0' (yck args H) w) ∧
  ∀(E:Value→Ending)(e:Ending)(w':World),Ends E (rEnv ρ args H) (yck args H) w v0 H0' e w'→Ends E ρ H w v H' e w':=by
 unfold yn0 yck rEnv yzr
 simp only[zql] at h
 generalize hm:reach 200 H [] (zof args)=m at h ⊢
 split at h
 case isFalse=>cases h
 rename_i hok
 split at h
 case h_2=>cases h
 rename_i p0 v0 H0' hs
 split at h
 case isFalse=>cases h
 rename_i hkeep
 simp only[Option.some.injEq,Prod.mk.injEq] at h
 obtain⟨rfl,rfl,rfl⟩:=h
 simp only[yib,Bool.and_eq_true,List.all_eq_true,decide_eq_true_eq] at hok
 obtain⟨⟨ha,hb⟩,hnd⟩:=hok
 have hlt:∀i ∈ m,i<H.length:=fun i hi=>(hb i hi).1
 have hback:∀i ∈ m,zfx m H.length (m.idxOf i)=i:=by
  intro i hi
  have hx:m.idxOf i<m.length:=List.idxOf_lt_length_of_mem hi
  simp only[zfx,hx,if_true]
  rw[List.getD_eq_getElem?_getD,List.getElem?_eq_getElem hx]
  simp
 have hmem:∀{l:List Nat},(∀i ∈ l,m.contains i=true)→∀i ∈ l,zfx m H.length (m.idxOf i)=i:=fun h i hi=>hback i (by simpa using h i hi)
 generalize hf:zfx m H.length=f at *
 have hfk:∀k,k<m.length→∃i,m[k]? = some i∧f k=i∧i ∈ m:=by
  intro k hk
  refine⟨m[k],List.getElem?_eq_getElem hk, ?_,List.getElem_mem _⟩
  rw[← hf]
  simp only[zfx,hk,if_true]
  rw[List.getD_eq_getElem?_getD,List.getElem?_eq_getElem hk]
  rfl
 have hfn:∀k,m.length≤k→f k=H.length+(k-m.length):=by
  intro k hk
  rw[← hf]
  simp only[zfx,Nat.not_lt.2 hk,if_false]
 generalize hH0:(m.map fun i=>zld m.idxOf (H.getD i .dead))=H0 at *
 have hH0l:H0.length=m.length:=by rw[← hH0];simp
 have hH0g:∀(k i:Nat),m[k]? = some i→∃b,H[i]? = some b∧H0[k]? = some (zld m.idxOf b)∧zld f (zld m.idxOf b)=b:=by
  intro k i hk
  have him:i ∈ m:=List.mem_of_getElem? hk
  have hil:=hlt i him
  refine⟨H[i],List.getElem?_eq_getElem hil, ?_, ?_⟩
  · rw[← hH0,List.getElem?_map,hk]
    simp[List.getD_eq_getElem?_getD,List.getElem?_eq_getElem hil]
  · refine yir f _ _ (hmem ?_)
    have:=(hb i him).2
    simpa[List.getD_eq_getElem?_getD,List.getElem?_eq_getElem hil] using this
 have hH0i:∀(k:Nat)(b0:Blk),H0[k]? = some b0→∃i b,m[k]? = some i∧H[i]? = some b∧b0=zld m.idxOf b∧zld f b0=b:=by
  intro k b0 hk
  have hkl:k<m.length:=by
   rw[← hH0l]
   rcases Nat.lt_or_ge k H0.length with g|g
   · exact g
   · simp[List.getElem?_eq_none g] at hk
  obtain⟨i,h1,_,_⟩:=hfk k hkl
  obtain⟨b,h2,h3,h4⟩:=hH0g k i h1
  rw[hk] at h3
  simp only[Option.some.injEq] at h3
  exact⟨i,b,h1,h2,h3,by rw[h3];exact h4⟩
 have finj:∀(k l i j:Nat),m[k]? = some i→m[l]? = some j→k≠l→i≠j:=by
  intro k l i j hk hl hne e
  subst e
  exact hne ((List.getElem?_inj (by rcases Nat.lt_or_ge k m.length with g|g;exact g;simp[List.getElem?_eq_none g] at hk) hnd).1 (hk.trans hl.symm))
 have hfi:∀(k i:Nat),m[k]? = some i→f k=i:=by
  intro k i hk
  have hkl:k<m.length:=by
   rcases Nat.lt_or_ge k m.length with g|g
   · exact g
   · simp[List.getElem?_eq_none g] at hk
  obtain⟨i',h1,h2,_⟩:=hfk k hkl
  rw[hk] at h1
  simp only[Option.some.injEq] at h1
  rw[h2,h1]
 have hlk:∀{l:List Nat}{k i:Nat},l[k]? = some i→k<l.length:=by
  intro l k i hk
  rcases Nat.lt_or_ge k l.length with g|g
  · exact g
  · simp[List.getElem?_eq_none g] at hk
 have hlb:∀{l:Heap}{k:Nat}{i:Blk},l[k]? = some i→k<l.length:=by
  intro l k i hk
  rcases Nat.lt_or_ge k l.length with g|g
  · exact g
  · simp[List.getElem?_eq_none g] at hk
 have hidx:∀(k i:Nat),m[k]? = some i→m.idxOf i=k:=by
  intro k i hk
  have him:i ∈ m:=List.mem_of_getElem? hk
  have hx:m.idxOf i<m.length:=List.idxOf_lt_length_of_mem him
  refine (List.getElem?_inj hx hnd).1 ?_
  rw[hk,List.getElem?_eq_getElem hx]
  simp
 -- the callee's world
 have hcallee:∀ρ0',Agree H0.length (fun k=>ρ (f k)) ρ0'→RvL ρ0' (zuc m.idxOf args) vs∧Rel ρ0' H0 w:=by
  intro ρ0' hag
  let ρ':Env:=fun i=>if i<H.length then (if i ∈ m then ρ0' (m.idxOf i) else ρ i) else ρ0' (m.length+(i-H.length))
  have hag':Agree H.length ρ ρ':=by
   intro i hi
   simp only[ρ',hi,if_true]
   split
   · rename_i him
     rw[hag _ (by rw[hH0l];exact List.idxOf_lt_length_of_mem him)]
     exact congrArg ρ (hback i him)
   · rfl
  obtain⟨h1,h2⟩:=hw ρ' hag'
  have hρ:(fun k=>ρ' (f k))=ρ0':=by
   funext k
   rcases Nat.lt_or_ge k m.length with g|g
   · obtain⟨i,hk,e,him⟩:=hfk k g
     simp only[ρ',e,hlt i him,if_true,him]
     rw[hidx k i hk]
   · simp only[ρ',hfn k g]
     rw[if_neg (by omega)]
     congr 1
     omega
  have hρk:∀k,ρ0' k=ρ' (f k):=fun k=>(congrFun hρ k).symm
  have eargs:zuc f (zuc m.idxOf args)=args:=zgd f _ args (hmem ha)
  refine⟨?_,⟨fun k b0 hk => ?_,fun k l b0 c0 L M hk hl hne hbl hcl hoo hL hM => ?_,fun k b0 L hk hbl hL => ?_⟩⟩
  · rw[← hρ,zf2,eargs];exact h1
  · obtain⟨i,b,g1,g2,g3,g4⟩:=hH0i k b0 hk
    rw[← hρ,yis,hfi k i g1,g4]
    exact h2.blk i b g2
  · obtain⟨i,b,g1,g2,g3,g4⟩:=hH0i k b0 hk
    obtain⟨j,c,k1,k2,k3,k4⟩:=hH0i l c0 hl
    rw[hρk,hfi k i g1] at hL
    rw[hρk,hfi l j k1] at hM
    rw[g3,zej] at hbl
    rw[k3,zej] at hcl
    rw[g3,k3,zeb,zeb] at hoo
    exact h2.sep i j b c L M g2 k2 (finj k l i j g1 k1 hne) hbl hcl hoo hL hM
  · obtain⟨i,b,g1,g2,g3,g4⟩:=hH0i k b0 hk
    rw[hρk,hfi k i g1] at hL
    rw[g3,zej] at hbl
    exact h2.inb i b L g2 hbl hL
 obtain⟨hkl,hkf⟩:=zhg hkeep
 refine⟨v0,H0',hs,hcallee, ?_⟩
 rintro E e w' ⟨y,ρ10,rfl,hag0,hpost,hfr,hnew⟩
 have hl0:m.length≤H0'.length:=by rw[← hH0l];exact hkl
 let ρ1:Env:=fun i=>if i<H.length then ρ i else ρ10 (m.length+(i-H.length))
 have hag1:Agree H.length ρ ρ1:=fun i hi=>by simp only[ρ1,hi,if_true]
 have hnl:(zf1 f m H0' H++(H0'.drop m.length).map (zld f)).length=H.length+(H0'.length-m.length):=by simp[zc6]
 have fnew:∀k,m.length≤k→ρ1 (f k)=ρ10 k:=by
  intro k hk
  simp only[ρ1,hfn k hk]
  rw[if_neg (by omega)]
  congr 1
  omega
 have get:∀(i:Nat)(b:Blk),(zf1 f m H0' H++(H0'.drop m.length).map (zld f))[i]? = some b→(∃k b0,H0'[k]? = some b0∧i=f k∧b=zld f b0)∨(i<H.length∧i ∉ m∧H[i]? = some b):=by
  intro i b hi
  rcases Nat.lt_or_ge i H.length with g|g
  · rw[List.getElem?_append_left (by rw[zc6];exact g)] at hi
    by_cases him:i ∈ m
    · have hx:m.idxOf i<m.length:=List.idxOf_lt_length_of_mem him
      have hmk:m[m.idxOf i]? = some i:=by rw[List.getElem?_eq_getElem hx];simp
      have hb0:H0'[m.idxOf i]? = some (H0'[m.idxOf i]'(by omega)):=List.getElem?_eq_getElem _
      rw[zpt f m H0' H _ i _ hnd hlt hmk hb0] at hi
      simp only[Option.some.injEq] at hi
      exact .inl ⟨_,_,hb0,(hfi _ i hmk).symm,hi.symm⟩
    · rw[zgs f m H0' H i him] at hi
      exact .inr ⟨g,him,hi⟩
  · rw[List.getElem?_append_right (by rw[zc6];exact g),zc6,List.getElem?_map,List.getElem?_drop] at hi
    cases hb0:H0'[m.length+(i-H.length)]? with
    | none=>simp[hb0] at hi
    | some b0 =>
     rw[hb0] at hi
     simp only[Option.map_some,Option.some.injEq] at hi
     exact .inl ⟨_,b0,hb0,by rw[hfn _ (by omega)];omega,hi.symm⟩
 have fne:∀k l,k≠l→f k≠f l:=by
  intro k l hne
  rcases Nat.lt_or_ge k m.length with g|g<;>rcases Nat.lt_or_ge l m.length with g'|g'
  · obtain⟨i,h1,h2,_⟩:=hfk k g
    obtain⟨j,h3,h4,_⟩:=hfk l g'
    rw[h2,h4]
    exact finj k l i j h1 h3 hne
  · obtain⟨i,h1,h2,h3⟩:=hfk k g
    rw[h2,hfn l g']
    have:=hlt i h3
    omega
  · obtain⟨j,h1,h2,h3⟩:=hfk l g'
    rw[h2,hfn k g]
    have:=hlt j h3
    omega
  · rw[hfn k g,hfn l g']
    omega
 refine⟨y,ρ1,rfl,hag1, ?_, ?_, ?_⟩
 · intro ρ' hag'
   have hρH:Agree H.length ρ ρ':=fun i hi=>by rw[hag' i (by rw[hnl];omega),hag1 i hi]
   obtain⟨_,hrel⟩:=hw ρ' hρH
   have hσ:Agree H0'.length ρ10 (fun k=>ρ' (f k)):=by
    intro k hk
    rcases Nat.lt_or_ge k m.length with g|g
    · obtain⟨i,h1,h2,h3⟩:=hfk k g
      have e1:=hag0 k (by rw[hH0l];exact g)
      rw[e1]
      simp only[h2]
      exact hρH i (hlt i h3)
    · show ρ' (f k)=ρ10 k
      rw[hag' (f k) (by rw[hnl,hfn k g];omega),fnew k g]
   obtain⟨hv,hrel0⟩:=hpost _ hσ
   refine⟨(zud f v0 y).1 hv,⟨fun i b hi => ?_,fun i j b c L M hi hj hne hbl hcl hoo hL hM => ?_,fun i b L hi hbl hL => ?_⟩⟩
   · rcases get i b hi with ⟨k,b0,hk,rfl,rfl⟩|⟨hil,him,hib⟩
     · exact (yis f w' k b0).1 (hrel0.blk k b0 hk)
     · refine zwj (fun L hL hl => ?_) (hrel.blk i b hib)
       refine hfr.2 L.b (hrel.inb i b L hib hl hL) ?_
       rintro⟨k,b0,M,hk,ho,hM,e⟩
       obtain⟨j,c,g1,g2,g3,g4⟩:=hH0i k b0 hk
       have hjm:j ∈ m:=List.mem_of_getElem? g1
       have hco:c.own=true:=by rw[g3,zeb] at ho;exact ho
       have hcl:c.live=true:=by cases c<;>simp[Blk.own,Blk.live] at hco ⊢
       have hM':ρ' j=some M:=by rw[hρH j (hlt j hjm), ← hfi k j g1];exact hM
       exact hrel.sep i j b c L M hib g2 (fun e2=>him (e2 ▸ hjm)) hl hcl (.inr hco) hL hM' e.symm
   · have mixed:∀(k:Nat)(b0:Blk)(j:Nat)(c:Blk)(L M:Loc),H0'[k]? = some b0→H[j]? = some c→j<H.length→j ∉ m→(zld f b0).live=true→c.live=true→((zld f b0).own=true∨c.own=true) →
      ρ' (f k)=some L→ρ' j=some M→L.b≠M.b:=by
      intro k b0 j c L M hk hjc hjl hjm hbl hcl hoo hL hM
      rw[zej] at hbl
      rw[zeb] at hoo
      rcases Nat.lt_or_ge k m.length with g|g
      · obtain⟨i,h1,h2,h3⟩:=hfk k g
        obtain⟨bi,q1,q2,q3⟩:=hH0g k i h1
        obtain⟨f1,f2⟩:=hkf k _ b0 q2 hk
        rw[zeb] at f1
        rw[zej] at f2
        rw[h2] at hL
        exact hrel.sep i j bi c L M q1 hjc (fun e2=>hjm (e2 ▸ h3)) (f2 hbl) hcl (hoo.imp f1 id) hL hM
      · have e1:ρ10 k=some L:=by rw[← fnew k g, ← hag' (f k) (by rw[hnl,hfn k g];have:=hlb hk;omega)];exact hL
        have h2:=hrel.inb j c M hjc hcl hM
        rcases hnew k b0 L (by rw[hH0l];exact g) hk hbl e1 with ⟨k2,b2,N,q1,q2,q3,q4⟩|h1
        · obtain⟨i2,d2,g1,g2,g3,g4⟩:=hH0i k2 b2 q1
          have hi2:i2 ∈ m:=List.mem_of_getElem? g1
          have hdo:d2.own=true:=by rw[g3,zeb] at q2;exact q2
          have hdl:d2.live=true:=by cases d2<;>simp[Blk.own,Blk.live] at hdo ⊢
          have hN:ρ' i2=some N:=by rw[hρH i2 (hlt i2 hi2), ← hfi k2 i2 g1];exact q3
          rw[← q4]
          exact hrel.sep i2 j d2 c N M g2 hjc (fun e2=>hjm (e2 ▸ hi2)) hdl hcl (.inl hdo) hN hM
        · omega
     rcases get i b hi with ⟨k,b0,hk,rfl,rfl⟩|⟨hil,him,hib⟩<;>rcases get j c hj with ⟨l,c0,hl,rfl,rfl⟩|⟨hjl,hjm,hjc⟩
     · rw[zej] at hbl hcl
       rw[zeb,zeb] at hoo
       exact hrel0.sep k l b0 c0 L M hk hl (fun e2=>hne (by rw[e2])) hbl hcl hoo hL hM
     · exact mixed k b0 j c L M hk hjc hjl hjm hbl hcl hoo hL hM
     · exact fun e2=>mixed l c0 i b M L hl hib hil him hcl hbl hoo.symm hM hL e2.symm
     · exact hrel.sep i j b c L M hib hjc hne hbl hcl hoo hL hM
   · rcases get i b hi with ⟨k,b0,hk,rfl,rfl⟩|⟨hil,him,hib⟩
     · rw[zej] at hbl
       exact hrel0.inb k b0 L hk hbl hL
     · exact Nat.lt_of_lt_of_le (hrel.inb i b L hib hbl hL) hfr.1
 · refine⟨hfr.1,fun c hc hno=>hfr.2 c hc (fun ⟨k,b0,M,hk,ho,hM,e⟩=>hno ?_),hfr.3⟩
   obtain⟨j,d,g1,g2,g3,g4⟩:=hH0i k b0 hk
   exact⟨j,d,M,g2,by rw[g3,zeb] at ho;exact ho,by rw[← hfi k j g1];exact hM,e⟩
 · intro id blk L hid hb hl hL
   rcases get id blk hb with ⟨k,b0,hk,rfl,rfl⟩|⟨hil,_,_⟩
   · rw[zej] at hl
     have g:m.length≤k:=by
      rcases Nat.lt_or_ge k m.length with g|g
      · obtain⟨i,h1,h2,h3⟩:=hfk k g
        have:=hlt i h3
        omega
      · exact g
     rw[fnew k g] at hL
     refine (hnew k b0 L (by rw[hH0l];exact g) hk hl hL).imp (fun ⟨k2,b2,N,q1,q2,q3,q4⟩ => ?_) id
     obtain⟨i2,d2,g1,g2,g3,g4⟩:=hH0i k2 b2 q1
     exact⟨i2,d2,N,g2,by rw[g3,zeb] at q2;exact q2,by rw[← hfi k2 i2 g1];exact q3,q4⟩
   · omega
theorem yfj{C:List Value→World→(Ending→World→Prop)→Prop}(hC:∀{vs:List Value} {w:World} {R R':Ending→World→Prop},C vs w R→(∀e w',R e w'→R' e w')→C vs w R'){E:Value→Ending}{S:Sum}(hS:zky C E S):zky C E (zql S):=by
 intro args H p v H' h hp ρ vs w hw
 obtain⟨v0,H0',h1,h2,h3⟩:=zma h hw
 exact hC (hS _ _ p v0 H0' h1 hp _ vs w h2) (fun e w' he=>h3 E e w' he)
theorem zqm{P:Program}{E:Value→Ending}{fn:FuncId}{S:Sum}(hS:zcp P E fn S):zcp P E fn (zql S):=by
 intro args H p v H' h hp ρ vs w hw
 obtain⟨v0,H0',h1,h2,h3⟩:=zma h hw
 exact (hS _ _ p v0 H0' h1 hp _ vs w h2).mono (fun e w' he=>h3 E e w' he)
structure KeepsP (H H':Heap):Prop where
 le:H.length≤H'.length
 fl:∀(i:Nat)(b c:Blk),H[i]? = some b→H'[i]? = some c→(c.own=true→b.own=true)∧(c.live=true→b.live=true)
theorem KeepsP.refl(H:Heap):KeepsP H H:=⟨Nat.le_refl _,fun i b c h g=>by rw[h] at g;cases g;exact⟨id,id⟩⟩
theorem KeepsP.append(H:Heap)(bs:List Blk):KeepsP H (H++bs):=⟨by simp,fun i b c h g=>by
 have hl:i<H.length:=by
  rcases Nat.lt_or_ge i H.length with q|q
  · exact q
  · simp[List.getElem?_eq_none q] at h
 rw[List.getElem?_append_left hl,h] at g
 cases g
 exact⟨id,id⟩⟩
theorem KeepsP.set{H:Heap}{i:Nat}{b c:Blk}(h:H[i]? = some b)(ho:c.own=true→b.own=true)(hl:c.live=true→b.live=true):KeepsP H (H.set i c):=⟨by simp,fun j x y hx hy=>by
 have hlt:i<H.length:=by
  rcases Nat.lt_or_ge i H.length with q|q
  · exact q
  · simp[List.getElem?_eq_none q] at h
 by_cases e:i=j
 · subst e
   rw[List.getElem?_set_self hlt] at hy
   rw[h] at hx
   cases hx;cases hy
   exact⟨ho,hl⟩
 · rw[List.getElem?_set_ne e,hx] at hy
   cases hy
   exact⟨id,id⟩⟩
theorem KeepsP.trans{H H' H'':Heap}(h:KeepsP H H')(g:KeepsP H' H''):KeepsP H H'':=⟨Nat.le_trans h.le g.le,fun i b c hb hc=>by
 have hl:i<H'.length:=by
  have:=h.le
  rcases Nat.lt_or_ge i H.length with q|q
  · omega
  · simp[List.getElem?_eq_none q] at hb
 obtain⟨h1,h2⟩:=h.fl i b _ hb (List.getElem?_eq_getElem hl)
 obtain⟨g1,g2⟩:=g.fl i _ c (List.getElem?_eq_getElem hl) hc
 exact⟨fun e=>h1 (g1 e),fun e=>h2 (g2 e)⟩⟩
def Eff(ρ:Env)(H:Heap)(w:World)(av:Av)(H':Heap)(y:Value)(w':World):Prop :=
 KeepsP H H'∧∃ρ1,Agree H.length ρ ρ1∧(∀ρ',Agree H'.length ρ1 ρ'→Rv ρ' av y∧Rel ρ' H' w')∧Fr (owns ρ H) w w' ∧
  ∀id blk L,H.length≤id→H'[id]? = some blk→blk.live=true→ρ1 id=some L→owns ρ H L.b∨w.heap.size≤L.b
theorem yl7(B:Nat→Prop)(w:World)(o:Obj):Fr B w (w.alloc o):=⟨by simp,fun b hb _=>by simp only[World.alloc,Array.getElem?_push];rw[if_neg (by omega)],⟨rfl,rfl,rfl⟩⟩
theorem zw5{ρ:Env}{H:Heap}{w:World}{av:Av}{y:Value}{blk:Blk}{o:Obj}(cap:Nat)(hw:∀ρ',Agree H.length ρ ρ'→Rel ρ' H w)
 (hb:∀ρ',Agree H.length ρ ρ'→ρ' H.length=some ⟨w.heap.size,0,cap,{}⟩→Rb ρ' (w.alloc o) H.length blk∧Rv ρ' av y):Eff ρ H w av (H++[blk]) y (w.alloc o):=by
 refine⟨KeepsP.append _ _,upd ρ H.length (some ⟨w.heap.size,0,cap,{}⟩),zb9 _ _ _,fun ρ' hag => ?_,yl7 _ _ _,fun id b L hid hbl hl hL => ?_⟩
 · have ha:Agree H.length ρ ρ':=(zb9 ρ H.length _).trans (hag.le (by simp))
   have he:ρ' H.length=some ⟨w.heap.size,0,cap,{}⟩:=by rw[hag H.length (by simp),zij]
   obtain⟨h1,h2⟩:=hb ρ' ha he
   refine⟨h2,zwk (hw ρ' ha) (by simp) (fun i b hi=>yl8 (fun L hL hl=>(hw ρ' ha).inb i b L hi hl hL) ((hw ρ' ha).blk i b hi)) (fun L hL _ => ?_) h1⟩
   rw[he] at hL
   cases hL
   exact⟨Nat.le_refl _,by simp⟩
 · have e:id=H.length:=by
    rcases Nat.lt_or_ge id (H++[blk]).length with q|q
    · simp at q;omega
    · simp[List.getElem?_eq_none q] at hbl
   subst e
   rw[zij] at hL
   cases hL
   exact .inr (Nat.le_refl _)
theorem ybi{ρ:Env}{w:World}{n:Nat}{cs:List Av}{vs:List Value}{t:TypeId}{cap:Nat}(he:ρ n=some ⟨w.heap.size,0,cap,{}⟩)(hv:RvL ρ cs vs):Rb ρ (w.alloc (.cells vs.toArray t)) n (.fix cs true (some t)) :=
 ⟨_,vs,he,hv,fun j v hj=>by simp only[Nat.zero_add];rw[World.cell?_alloc_new];simpa using hj,fun _ j _=>World.frozen?_alloc_new _ _ _ _,fun t' ht=>⟨rfl,vs.toArray.size,by cases ht;unfold World.shape? World.alloc;simp⟩,Loc.kept_new _ _ _ _ _⟩
theorem yfv{ρ:Env}{H:Heap}{w:World}{cs:List Av}{x:Value}(t:TypeId)(hw:∀ρ',Agree H.length ρ ρ'→Rel ρ' H w)(hv:∀ρ',Agree H.length ρ ρ'→RvL ρ' cs x.cells.toList) :
 Eff ρ H w (.ptr H.length 0) (H++[.fix cs true (some t)]) (.pointer (some ⟨w.heap.size,0,none⟩)) (w.alloc (.cells x.cells t)):=by
 have e:x.cells=x.cells.toList.toArray:=by simp
 rw[e]
 refine zw5 0 hw (fun ρ' ha he=>⟨ybi he (hv ρ' ha), ?_⟩)
 simp only[Rv]
 exact⟨_,he,rfl⟩
def Av.one:Av→Bool
 | .v x=>x.oneCell'
 | .any | .agg _ | .tup _=>false
 | .q _ | .zp | .opq _ _=>true
 | _=>true
theorem Av.one_ok{ρ:Env}{a:Av}(h:a.one=true){y:Value}(hy:Rv ρ a y):y.oneCell'=true:=by
 cases a with
 | v x=>simp only[Rv] at hy;subst hy;exact h
 | any=>simp[Av.one] at h
 | agg _=>simp[Av.one] at h
 | tup _=>simp[Av.one] at h
 | tt=>have e:y = .bool true:=hy;subst e;rfl
 | ff=>have e:y = .bool false:=hy;subst e;rfl
 | ptr _ _=>simp only[Rv] at hy;obtain⟨_,_,rfl⟩:=hy;rfl
 | eptr _ _ _ _=>simp only[Rv] at hy;obtain⟨_,_,rfl⟩:=hy;rfl
 | sl _ _ _ _=>simp only[Rv] at hy;rcases hy with ⟨_,_,_,_,rfl⟩|⟨_,_,_,_,_,rfl⟩<;>rfl
 | fn _ _=>simp only[Rv] at hy;obtain⟨_,rfl,_⟩:=hy;rfl
 | ifc _ _=>simp only[Rv] at hy;obtain⟨_,rfl,_⟩:=hy;rfl
 | q _=>simp only[Rv] at hy;obtain⟨_,rfl,_⟩:=hy;rfl
 | zp=>simp only[Rv] at hy;obtain⟨_,rfl⟩:=hy;rfl
 | opq _ _=>simp only[Rv] at hy;obtain⟨⟨_,_,rfl⟩,_⟩:=hy;rfl
theorem yic{ρ:Env}:∀{cs:List Av}{vs:List Value},cs.all Av.one=true→RvL ρ cs vs→∀v ∈ vs,v.oneCell'=true
 | [],[],_,_,v,hv=>by simp at hv
 | [],_::_,_,h,_,_=>by simp[RvL] at h
 | _::_,[],_,h,_,_=>by simp[RvL] at h
 | c::cs,x::vs,h,g,v,hv=>by
  simp only[List.all_cons,Bool.and_eq_true] at h
  simp only[RvL] at g
  rcases List.mem_cons.1 hv with rfl|hv
  · exact Av.one_ok h.1 g.1
  · exact yic h.2 g.2 v hv
def zrv(P:Program)(t:TypeId):Option Nat:=(P.info? t).map (·.size)
def ye3(P:Program)(t:TypeId)(H:Heap)(x y:Av):Option (Option Prop × Heap) :=
 match cellsOf y,zrv P t with
 | some cs,some n =>
  if cs.length=n∧cs.all Av.one=true then
   match x with
   | .ptr id sub =>
    match H[id]? with
    | some (.fix cells true ty)=>if sub+n≤cells.length then some (none,H.set id (.fix (zfh cells sub cs) true ty)) else none
    | _=>none
   | .eptr id sz i sub =>
    match H[id]? with
    | some (.arr sh xs true) =>
     if sz=sh.length∧sub+n≤sh.length then
      match zc7 cs with
      | some vs=>match El.get sh (zfh (El.vals sh (xs.getD i (El.zero sh))) sub vs) with
       | some e=>some (some (i<xs.length),H.set id (.arr sh (xs.set i e) true))
       | none=>none
      | none=>none
     else none
    | _=>none
   | _=>none
  else none
 | _,_=>none
theorem zk8{P:Program}{t:TypeId}{v:Value}{n:Nat}(hn:zrv P t=some n)(hv:v.cells.toList.length=n)(ho:∀u ∈ v.cells.toList,u.oneCell'=true){b o:Nat}{w:World}
 (hc:∀j,j<n→(w.cell? ⟨b,o+j,none⟩).isSome=true∧w.frozen? ⟨b,o+j,none⟩=false) :
 (Instr.storeAt t (.pointer (some ⟨b,o,none⟩)) v).run P w = .ok () (setCells w ⟨b,o,none⟩ v.cells.toList 0):=by
 unfold zrv at hn
 simp only[Option.map_eq_some_iff] at hn
 obtain⟨i,hi,rfl⟩:=hn
 have hs:¬ (v.cells.size≠i.size):=by simpa using hv
 have hr:=zig (P:=P) b o v.cells.toList 0 w ho (fun j hj=>by simpa using hc j (by omega))
 simp only[Instr.storeAt,Instr.sureAddr,storeVar,sizeOf,typeInfo,Sem.run_bind,Sem.run_pure,run_program,hi,Result.andThen_ok,Sem.run_ite,if_neg hs,hr]
theorem zwi{B:Nat→Prop}{b:Nat}{w w':World}(h:OnlyB b w w')(hb:B b):Fr B w w':=⟨by rw[h.size];exact Nat.le_refl _,fun c _ hc=>h.heap c (fun e=>hc (e ▸ hb)),h.str⟩
theorem ye4{P:Program}{t:TypeId}{H H':Heap}{x y:Av}{p:Option Prop}(h:ye3 P t H x y=some (p,H'))(hp:Hold p){ρ:Env}{w:World}{u v:Value}
 (hw:∀ρ',Agree H.length ρ ρ'→Rel ρ' H w∧Rv ρ' x u∧Rv ρ' y v):∃w',(Instr.storeAt t u v).run P w = .ok () w'∧∀av y',(∀ρ',Rv ρ' av y')→Eff ρ H w av H' y' w':=by
 unfold ye3 at h
 split at h
 case h_2=>cases h
 rename_i cs n hcs hn
 split at h
 case isFalse=>cases h
 rename_i hone
 obtain⟨hlen,hone⟩:=hone
 have hag:Agree H.length ρ ρ:=Agree.refl _ _
 obtain⟨hrel,hx,hy⟩:=hw ρ hag
 have hcv:∀ρ',Agree H.length ρ ρ'→RvL ρ' cs v.cells.toList:=fun ρ' ha=>zka hcs (hw ρ' ha).2.2
 have hvl:v.cells.toList.length=n:=by rw[← zbf (hcv ρ hag)];exact hlen
 have hvo:=yic hone (hcv ρ hag)
 have new0:∀{id:Nat}{c:Blk}{ρ1:Env},∀i blk L,H.length≤i→(H.set id c)[i]? = some blk→blk.live=true→ρ1 i=some L→owns ρ H L.b∨w.heap.size≤L.b:=by
  intro id c ρ1 i blk L hi hb _ _
  rw[List.getElem?_eq_none (by simpa using hi)] at hb
  cases hb
 split at h
 · rename_i id sub
   split at h
   case h_2=>cases h
   rename_i cells hb
   split at h
   case isFalse=>cases h
   rename_i hle
   simp only[Option.some.injEq,Prod.mk.injEq] at h
   obtain⟨_,rfl⟩:=h
   simp only[Rv] at hx
   obtain⟨L,hL,rfl⟩:=hx
   have hid:id<H.length:=by
    rcases Nat.lt_or_ge id H.length with q|q
    · exact q
    · simp[List.getElem?_eq_none q] at hb
   obtain⟨M,vs,hM,hv,hc,hf,_⟩:=hrel.blk id _ hb
   rw[hL] at hM;cases hM
   have hvsl:=zbf hv
   have hcells:∀j,j<n→(w.cell? ⟨L.b,L.off+sub+j,none⟩).isSome=true∧w.frozen? ⟨L.b,L.off+sub+j,none⟩=false:=by
    intro j hj
    have h1:vs[sub+j]? = some (vs[sub+j]'(by omega)):=List.getElem?_eq_getElem _
    rw[Nat.add_assoc]
    exact⟨by rw[hc _ _ h1];rfl,hf rfl _ (by omega)⟩
   have honly:=zgt L.b (L.off+sub) v.cells.toList 0 w
   refine⟨_,zk8 hn hvl hvo hcells,fun av y' hav=>⟨KeepsP.set hb (fun _=>rfl) (fun _=>rfl),ρ,hag,fun ρ' ha=>⟨hav ρ', ?_⟩,zwi honly ⟨id,_,L,hb,rfl,hL,rfl⟩,new0⟩⟩
   have ha':Agree H.length ρ ρ':=by simpa using ha
   obtain⟨hrel',hx',hy'⟩:=hw ρ' ha'
   have hL':ρ' id=some L:=by rw[ha' id hid];exact hL
   refine yes hrel' hb rfl hL' honly rfl ?_
   obtain⟨M,vs',hM,hv',hc',hf',hsh',hkp⟩:=hrel'.blk id _ hb
   rw[hL'] at hM;cases hM
   have hvsl':=zbf hv'
   refine⟨L,zfh vs' sub v.cells.toList,hL',zj6 (hcv ρ' ha') sub hv',fun j z hj => ?_,fun _ j hj => ?_,fun t ht=>by rw[honly.shape];exact hsh' t ht,by rw[zgu];exact hkp.mono (honly.shape _) (fun p hp=>zbp L.b (L.off+sub) _ v.cells.toList 0 w (fun k hk e=>by injection e with _ e2;have:=(hkp.2 p hp).1;omega)) (fun p _=>honly.froz _)⟩
   · rw[zkq] at hj
     split at hj
     · rename_i hr
       have:=zfg L.b (L.off+sub) v.cells.toList 0 w (fun j hj=>by simpa using (hcells j (by omega)).1) (j-sub) z hj
       rw[Nat.zero_add,show L.off+sub+(j-sub)=L.off+j by omega] at this
       exact this
     · rename_i hr
       have hjl:j<vs'.length:=by
        rcases Nat.lt_or_ge j vs'.length with q|q
        · exact q
        · simp[List.getElem?_eq_none q] at hj
       rw[zbp L.b (L.off+sub) _ v.cells.toList 0 w (fun k hk e=>by injection e with _ e2;omega)]
       exact hc' j z hj
   · rw[honly.froz]
     exact hf' rfl j (by simpa[zgu] using hj)
 · rename_i id sz i sub
   split at h
   case h_2=>cases h
   rename_i sh xs hb
   split at h
   case isFalse=>cases h
   rename_i hsz
   obtain⟨rfl,hle⟩:=hsz
   split at h
   case h_2=>cases h
   rename_i cvs hcvs
   split at h
   case h_2=>cases h
   rename_i e he
   simp only[Option.some.injEq,Prod.mk.injEq] at h
   obtain⟨rfl,rfl⟩:=h
   simp only[Rv] at hx
   obtain⟨L,hL,rfl⟩:=hx
   have hid:id<H.length:=by
    rcases Nat.lt_or_ge id H.length with q|q
    · exact q
    · simp[List.getElem?_eq_none q] at hb
   have hve:v.cells.toList=cvs:=zdv hcvs (hcv ρ hag)
   rcases hrel.blk id _ hb with ⟨hno,_⟩|⟨M,hM,hcap,hc,hf⟩
   · rw[hL] at hno;cases hno
   rw[hL] at hM;cases hM
   have hfo:=hf rfl
   have hbound:i*sh.length+sub+n≤L.cap*sh.length:=by
    have h1:(i+1)*sh.length≤L.cap*sh.length:=Nat.mul_le_mul_right _ (by omega)
    rw[Nat.add_mul] at h1
    omega
   have hcells:∀j,j<n→(w.cell? ⟨L.b,L.off+i*sh.length+sub+j,none⟩).isSome=true∧w.frozen? ⟨L.b,L.off+i*sh.length+sub+j,none⟩=false:=by
    intro j hj
    have:=hfo (i*sh.length+sub+j) (by omega)
    rwa [show L.off+(i*sh.length+sub+j)=L.off+i*sh.length+sub+j by omega] at this
   have honly:=zgt L.b (L.off+i*sh.length+sub) v.cells.toList 0 w
   refine⟨_,zk8 hn hvl hvo hcells,fun av y' hav=>⟨KeepsP.set hb (fun _=>rfl) (fun _=>rfl),ρ,hag,fun ρ' ha=>⟨hav ρ', ?_⟩,zwi honly ⟨id,_,L,hb,rfl,hL,rfl⟩,new0⟩⟩
   have ha':Agree H.length ρ ρ':=by simpa using ha
   obtain⟨hrel',hx',hy'⟩:=hw ρ' ha'
   have hL':ρ' id=some L:=by rw[ha' id hid];exact hL
   refine yes hrel' hb rfl hL' honly rfl ?_
   refine .inr ⟨L,hL',by simpa using hcap,fun k z hk j q hj => ?_,fun _ j hj => ?_⟩
   · have hvle:=El.vals_length (xs.getD i (El.zero sh))
     have hjl:j<sh.length:=by
      have:=El.vals_length z
      rcases Nat.lt_or_ge j (El.vals sh z).length with g|g
      · omega
      · simp[List.getElem?_eq_none g] at hj
     by_cases ek:k=i
     · subst ek
       rw[List.getElem?_set_self hp] at hk
       simp only[Option.some.injEq] at hk
       subst hk
       rw[← El.get_vals he] at hj
       rw[zkq] at hj
       split at hj
       · rename_i hr
         have:=zfg L.b (L.off+k*sh.length+sub) v.cells.toList 0 w (fun j hj=>by simpa using (hcells j (by omega)).1) (j-sub) q (by rw[hve];exact hj)
         rw[Nat.zero_add,show L.off+k*sh.length+sub+(j-sub)=L.off+k*sh.length+j by omega] at this
         exact this
       · rename_i hr
         rw[zbp L.b _ _ v.cells.toList 0 w (fun l hl e=>by
          injection e with _ e2
          have:cvs.length=n:=by rw[← hve];exact hvl
          omega)]
         exact hc k _ (zxb hp) j q hj
     · rw[List.getElem?_set_ne (fun e=>ek e.symm)] at hk
       rw[zbp L.b _ _ v.cells.toList 0 w (fun l hl e=>by
        injection e with _ e2
        rcases Nat.lt_or_ge k i with g|g
        · have:(k+1)*sh.length≤i*sh.length:=Nat.mul_le_mul_right _ g
          rw[Nat.add_mul] at this
          omega
        · have:(i+1)*sh.length≤k*sh.length:=Nat.mul_le_mul_right _ (by omega)
          rw[Nat.add_mul] at this
          omega)]
       exact hc k z hk j q hj
   · obtain⟨g1,g2⟩:=hfo j hj
     refine⟨?_,by rw[honly.froz];exact g2⟩
     by_cases hin:∃l,l<n∧L.off+j=L.off+i*sh.length+sub+l
     · obtain⟨l,hl,e⟩:=hin
       have hz:v.cells.toList[l]? = some (v.cells.toList[l]'(by omega)):=List.getElem?_eq_getElem _
       have:=zfg L.b (L.off+i*sh.length+sub) v.cells.toList 0 w (fun j hj=>by simpa using (hcells j (by omega)).1) l _ hz
       rw[Nat.zero_add] at this
       rw[e,this]
       rfl
     · rw[zbp L.b _ _ v.cells.toList 0 w (fun l hl e=>hin ⟨l,by omega,by injection e with _ e2;omega⟩)]
       exact g1
 · cases h
structure Base where
 ρ:Env
 H:Heap
 w:World
 ds:List Deferred:=[]
def Inv(B:Base)(sl:List Av)(H:Heap)(a:Act)(w:World):Prop :=
 a.defers=B.ds∧Fr (owns B.ρ B.H) B.w w∧KeepsP B.H H ∧
 ∃ρ,Agree B.H.length B.ρ ρ∧(∀ρ',Agree H.length ρ ρ'→RvL ρ' sl a.tmps.toList∧Rel ρ' H w) ∧
  ∀id blk L,B.H.length≤id→H[id]? = some blk→blk.live=true→ρ id=some L→owns B.ρ B.H L.b∨B.w.heap.size≤L.b
def zps(sl:List Av)(d:Option Tmp)(av:Av):List Av :=
 match d with
 | some d=>sl.set d av
 | none=>sl
theorem zl5{ρ:Env}{sl:List Av}{a:Act}{av:Av}{v:Value}(h:RvL ρ sl a.tmps.toList)(hv:Rv ρ av v)(d:Option Tmp):RvL ρ (zps sl d av) (a.put d v).tmps.toList:=by
 cases d with
 | none=>exact h
 | some d=>simp only[zps,Act.put,Array.toList_setIfInBounds];exact zwl d h hv
theorem zgc(a:Act)(d:Option Tmp)(v:Value):(a.put d v).defers=a.defers:=by cases d<;>rfl
theorem Fr.trans{B C:Nat→Prop}{w w' w'':World}(h:Fr B w w')(g:Fr C w' w'')(hc:∀b,b<w.heap.size→C b→B b):Fr B w w'' :=
 ⟨Nat.le_trans h.1 g.1,fun b hb hn=>by rw[g.2 b (Nat.lt_of_lt_of_le hb h.1) (fun hC=>hn (hc b hb hC)),h.2 b hb hn],h.3.trans g.3⟩
theorem za8{b:Blk}(h:b.own=true):b.live=true:=by cases b<;>simp[Blk.own,Blk.live] at h ⊢
theorem Inv.val{B:Base}{sl:List Av}{H:Heap}{a:Act}{w:World}{av:Av}{v:Value}(h:Inv B sl H a w)
 (he:∀ρ,RvL ρ sl a.tmps.toList→Rel ρ H w→Rv ρ av v) (d:Option Tmp):Inv B (zps sl d av) H (a.put d v) w:=by
 obtain⟨h1,h2,h3,ρ,h4,h5,h6⟩:=h
 exact⟨by rw[zgc];exact h1,h2,h3,ρ,h4,fun ρ' ha=>⟨zl5 (h5 ρ' ha).1 (he ρ' (h5 ρ' ha).1 (h5 ρ' ha).2) d,(h5 ρ' ha).2⟩,h6⟩
theorem Inv.pure{B:Base}{P:Program}{o:Oper}{sl:List Av}{H:Heap}{a:Act}{w:World}{p:Option Prop}{av:Av}(h:Inv B sl H a w)(hs:pstep P o sl H=some (p,av))(hp:Hold p) :
 ∃v,(execOp a.eval o).run P w = .ok (.value v) w∧Inv B (zps sl o.dst av) H (a.put o.dst v) w:=by
 obtain⟨h1,h2,h3,ρ,h4,h5,h6⟩:=id h
 obtain⟨g1,g2⟩:=h5 ρ (Agree.refl _ _)
 obtain⟨v,hv,_⟩:=zrk hs hp g1 g2
 refine⟨v,hv,h.val (fun ρ' q1 q2 => ?_) _⟩
 obtain⟨v',hv',hr⟩:=zrk hs hp q1 q2
 rw[hv] at hv'
 cases hv'
 exact hr
def roB:Blk→Blk
 | .dead => .dead
 | .fix cs _ ty => .fix cs false ty
 | .arr sh xs _ => .arr sh xs false
 | .ob _ ids s R => .ob false ids s R
theorem zix(b:Blk):(roB b).own=false:=by cases b<;>rfl
theorem zls(b:Blk):(roB b).live=b.live:=by cases b<;>rfl
theorem yxu{ρ:Env}{w:World}{id:Nat}{b:Blk}(h:Rb ρ w id b):Rb ρ w id (roB b):=by
 cases b with
 | dead=>trivial
 | fix cs o ty=>obtain⟨L,vs,h1,h2,h3,_,h5⟩:=h;exact⟨L,vs,h1,h2,h3,(fun e=>by cases e),h5⟩
 | arr sh xs o=>exact h.imp (fun h=>h) (fun ⟨L,h1,h2,h3,_⟩=>⟨L,h1,h2,h3,fun e=>by cases e⟩)
 | ob o ids s R=>exact h
theorem yxv{ρ:Env}{H:Heap}{w:World}(h:Rel ρ H w):Rel ρ (H.map roB) w:=by
 have get:∀(i:Nat)(b:Blk),(H.map roB)[i]? = some b→∃c,H[i]? = some c∧b=roB c:=by
  intro i b hi
  rw[List.getElem?_map] at hi
  cases hc:H[i]? with
  | none=>simp[hc] at hi
  | some c=>rw[hc] at hi;simp only[Option.map_some,Option.some.injEq] at hi;exact⟨c,rfl,hi.symm⟩
 refine⟨fun i b hi => ?_,fun i j b c L M hi hj _ _ _ hoo _ _ => ?_,fun i b L hi hl hL => ?_⟩
 · obtain⟨c,h1,rfl⟩:=get i b hi;exact yxu (h.blk i c h1)
 · obtain⟨b',_,rfl⟩:=get i b hi
   obtain⟨c',_,rfl⟩:=get j c hj
   simp[zix] at hoo
 · obtain⟨c,h1,rfl⟩:=get i b hi
   rw[zls] at hl
   exact h.inb i c L h1 hl hL
theorem zlh{ρ:Env}{H:Heap}{w w':World}(h:Rel ρ H w)(hf:Fr (fun _=>False) w w'):Rel ρ H w' :=
 ⟨fun i b hi=>zwj (fun L hL hl=>hf.2 L.b (h.inb i b L hi hl hL) id) (h.blk i b hi),h.sep,fun i b L hi hl hL=>Nat.lt_of_lt_of_le (h.inb i b L hi hl hL) hf.1⟩
theorem Inv.world{B:Base}{sl:List Av}{H:Heap}{a:Act}{w w':World}(h:Inv B sl H a w)(hf:Fr (fun _=>False) w w'):Inv B sl H a w':=by
 obtain⟨h1,h2,h3,ρ,h4,h5,h6⟩:=h
 exact⟨h1,h2.trans hf (fun _ _ e=>e.elim),h3,ρ,h4,fun ρ' ha=>⟨(h5 ρ' ha).1,zlh (h5 ρ' ha).2 hf⟩,h6⟩
abbrev Sums:=FuncId→Option Sum
def zgr(P:Program)(t:TypeId)(name:String):Option FuncId :=
 match P.info? t with
 | some i=>match i.methods.find? (fun m=>m.name==name) with
  | some m=>match m.path.toList,m.func,P.underlying t with
   | [],some (f,true),some (.pointer _)=>some f
   | [],some (_,false),some (.pointer _)=>none
   | [],some (f,false),some _=>some f
   | _,_,_=>none
  | none=>none
 | none=>none
def zcs:Nat:=1000000000
def zif(name:String):Nat:=if name == "loop.example/s0051/impl.translate" then zcs else if name == "loop.example/s0051/impl.fence" then zcs+1 else zcs+2
theorem yie(name:String):Nat.ble zcs (zif name)=true:=by unfold zif;split<;>(try split)<;>decide
def callable(P:Program)(g:FuncId):Bool :=
 match P.funcs[g]? with
 | some fn => !(fn.name == "runtime.NumGoroutine")&&fn.body.isSome && !(Nat.ble zcs g)
 | none=>false
theorem zwx{P:Program}{g:FuncId}(h:callable P g=true):Nat.ble zcs g=false:=by
 unfold callable at h
 split at h
 · simp only[Bool.and_eq_true,Bool.not_eq_true'] at h;exact h.2
 · cases h
def zgy(P:Program)(g:FuncId)(vs:List Value)(w:World)(R:Ending→World→Prop):Prop :=
 ∃t u us,vs = .iface t u::us∧∀name,zif name=g→∃f,zgr P t name=some f∧callable P f=true∧Calls P f (u::us).toArray w R
theorem zgy.mono{P:Program}{g:FuncId}{vs:List Value}{w:World}{R R':Ending→World→Prop}(h:zgy P g vs w R)(hr:∀e w',R e w'→R' e w'):zgy P g vs w R':=by
 obtain⟨t,u,us,e,h⟩:=h
 exact⟨t,u,us,e,fun name hn=>by obtain⟨f,h1,h2,h3⟩:=h name hn;exact⟨f,h1,h2,h3.mono hr⟩⟩
def zfm(P:Program)(E:Value→Ending)(g:FuncId)(S:Sum):Prop:=(callable P g=true∧zcp P E g S)∨(Nat.ble zcs g=true∧zky (zgy P g) E S)
def zib(P:Program)(Γ:Sums):Prop:=∀g S,Γ g=some S→zfm P .returned g S
theorem zfv{P:Program}{g:FuncId}(h:callable P g=true)(args:Array Value)(w:World):(callFunc g args).run P w = .ok (.enter g args) w:=by
 unfold callable at h
 cases hf:P.funcs[g]? with
 | none=>simp[hf] at h
 | some fn =>
  simp only[hf,Bool.and_eq_true,Bool.not_eq_true'] at h
  obtain⟨⟨h1,h2⟩, -⟩:=h
  have hn:¬ fn.name = "runtime.NumGoroutine" := by simpa using h1
  have hb:¬ fn.body=none:=by intro e;rw[e] at h2;simp at h2
  simp[callFunc,hf,hn,hb]
theorem zpx{P:Program}{t:TypeId}{name:String}{g:FuncId}(h:zgr P t name=some g)(n:Nat)(v:Value)(w:World):(method (n+1) t v name).run P w = .ok (g,v) w:=by
 unfold zgr at h
 split at h
 case h_2=>cases h
 rename_i i hi
 split at h
 case h_2=>cases h
 rename_i m hm
 split at h
 · rename_i f e hp hf hu
   simp only[Option.some.injEq] at h
   subst h
   unfold method
   simp[typeInfo,hi,hm,hp,hf,follow,receiverAt,run_underlying hu,Place.get]
 · cases h
 · rename_i f d hne hp hf hu
   simp only[Option.some.injEq] at h
   subst h
   unfold method
   cases d<;>first|exact (hne _ rfl).elim|simp[typeInfo,hi,hm,hp,hf,follow,receiverAt,run_underlying hu,Place.get]
 · cases h
def callee(P:Program)(sl:List Av)(c:Call):Option (FuncId × List Av) :=
 match c.callee with
 | .value f=>match evS sl f with | .fn g caps=>(match Nat.ble zcs g with|false=>some (g,c.args.toList.map (evS sl)++caps)|true=>none)|_=>none
 | .invoke r m=>match evS sl r with
  | .ifc t x=>(match zgr P t m with|some g=>(match Nat.ble zcs g with|false=>some (g,x::c.args.toList.map (evS sl))|true=>none)|none=>none)
  | .opq ids X=>some (zif m,.opq ids X::c.args.toList.map (evS sl))
  | _=>none
 | _=>none
theorem zqb{ρ:Env}{sl:List Av}{a:Act}(hs:RvL ρ sl a.tmps.toList):∀l:List Operand,RvL ρ (l.map (evS sl)) (l.map a.eval)
 | []=>trivial
 | x::l=>⟨zcb hs x,zqb hs l⟩
theorem zoh{P:Program}{t:TypeId}{m:String}{f:FuncId}(hm:zgr P t m=some f)(hg:callable P f=true)(u:Value)(vs:Array Value)(w:World):(callMethod (.iface t u) m vs).run P w = .ok (.enter f (#[u]++vs)) w:=by
 have hme:=zpx (P:=P) hm (P.types.size+(Made.depth-1)) u w
 have hd:P.types.size+(Made.depth-1)+1=P.types.size+Made.depth:=rfl
 rw[hd] at hme
 unfold callMethod
 show ((method (P.types.size+Made.depth) t u m).bind fun x=>callFunc x.1 (#[x.2]++vs)).run P w=_
 rw[show ((method (P.types.size+Made.depth) t u m).bind fun x=>callFunc x.1 (#[x.2]++vs))=(method (P.types.size+Made.depth) t u m >>= fun x=>callFunc x.1 (#[x.2]++vs)) from rfl,Sem.run_bind,hme,Result.andThen_ok]
 exact zfv hg _ w
theorem ybs{P:Program}{sl:List Av}{c:Call}{g:FuncId}{as:List Av}(h:callee P sl c=some (g,as))(hg:Nat.ble zcs g=true){a:Act}{o:Oper}(ho:o.op = .call c) :
 ∃vs:List Value,(∀ρ,RvL ρ sl a.tmps.toList→RvL ρ as vs)∧∀(w:World)(R:Ending→World→Prop),zgy P g vs w R→∃f us,(execOp a.eval o).run P w = .ok (.enter f us) w∧Calls P f us w R:=by
 obtain⟨cal,args,ts⟩:=c
 unfold callee at h
 cases cal with
 | value f =>
  simp only at h
  split at h
  · split at h
    · rename_i hb
      simp only[Option.some.injEq,Prod.mk.injEq] at h
      obtain⟨rfl,rfl⟩:=h
      rw[hb] at hg;cases hg
    · cases h
  · cases h
 | invoke r m =>
  simp only at h
  split at h
  · split at h
    · split at h
      · rename_i hb
        simp only[Option.some.injEq,Prod.mk.injEq] at h
        obtain⟨rfl,rfl⟩:=h
        rw[hb] at hg;cases hg
      · cases h
    · cases h
  · rename_i ids X e
    simp only[Option.some.injEq,Prod.mk.injEq] at h
    obtain⟨rfl,rfl⟩:=h
    refine⟨a.eval r::args.toList.map a.eval,fun ρ hs=>⟨by rw[← e];exact zcb hs r,zqb hs _⟩,fun w R hc => ?_⟩
    obtain⟨t,u,us,h1,h2⟩:=hc
    simp only[List.cons.injEq] at h1
    obtain⟨hr,h1⟩:=h1
    obtain⟨f,g1,g2,g3⟩:=h2 m rfl
    refine⟨f,(u::us).toArray, ?_,g3⟩
    have e2:(#[u]:Array Value)++((#[a.eval r]:Array Value)++Array.map a.eval args).extract 1 ((#[a.eval r]:Array Value)++Array.map a.eval args).size=(u::us).toArray:=by
     rw[← h1]
     apply Array.ext'
     simp
     rw[List.take_of_length_le (by simp)]
    have h0:((#[a.eval r]:Array Value)++Array.map a.eval args)[0]? = some (.iface t u):=by
     rw[hr,Array.getElem?_append_left (by simp)]
     rfl
    simp only[execOp,ho,resolve,Sem.run_bind,Sem.run_pure,Result.andThen_ok,invoke]
    rw[h0]
    simp only[zoh g1 g2]
    rw[e2]
  · cases h
 | builtin b=>simp at h
theorem zs2{P:Program}{sl:List Av}{c:Call}{g:FuncId}{as:List Av}(h:callee P sl c=some (g,as))(hg:callable P g=true){ρ:Env}{a:Act}(hs:RvL ρ sl a.tmps.toList){o:Oper}(ho:o.op = .call c) :
 ∃vs:List Value,(∀w,(execOp a.eval o).run P w = .ok (.enter g vs.toArray) w)∧RvL ρ as vs:=by
 obtain⟨cal,args,ts⟩:=c
 unfold callee at h
 cases cal with
 | value f =>
  simp only at h
  have hf:=zcb hs f
  split at h
  · rename_i g' caps e
    split at h
    case h_2=>cases h
    simp only[Option.some.injEq,Prod.mk.injEq] at h
    obtain⟨rfl,rfl⟩:=h
    rw[e] at hf
    simp only[Rv] at hf
    obtain⟨us,hf,hu⟩:=hf
    refine⟨args.toList.map a.eval++us,fun w => ?_,zex (zqb hs _) hu⟩
    have e2:(#[]:Array Value)++Array.map a.eval args++us.toArray=(args.toList.map a.eval++us).toArray:=by
     apply Array.ext'
     simp
    simp only[execOp,ho,resolve,hf,Deferred.ofValue,Sem.run_bind,Sem.run_pure,Result.andThen_ok,invoke,zfv hg,e2]
  · cases h
 | invoke r m =>
  simp only at h
  have hr:=zcb hs r
  split at h
  · rename_i t x e
    split at h
    · rename_i g' hmth
      split at h
      case h_2=>cases h
      simp only[Option.some.injEq,Prod.mk.injEq] at h
      obtain⟨rfl,rfl⟩:=h
      rw[e] at hr
      simp only[Rv] at hr
      obtain⟨u,hr,hu⟩:=hr
      refine⟨u::args.toList.map a.eval,fun w => ?_,hu,zqb hs _⟩
      have e2:(#[u]:Array Value)++((#[a.eval r]:Array Value)++Array.map a.eval args).extract 1 ((#[a.eval r]:Array Value)++Array.map a.eval args).size=(u::args.toList.map a.eval).toArray:=by
       apply Array.ext'
       simp
       rw[List.take_of_length_le (by simp)]
      have hme:=zpx (P:=P) hmth (P.types.size+(Made.depth-1)) u w
      have hd:P.types.size+(Made.depth-1)+1=P.types.size+Made.depth:=rfl
      rw[hd] at hme
      have h0:((#[a.eval r]:Array Value)++Array.map a.eval args)[0]? = some (.iface t u):=by
       rw[hr,Array.getElem?_append_left (by simp)]
       rfl
      have hcm:∀vs,(callMethod (.iface t u) m vs).run P w = .ok (.enter g' (#[u]++vs)) w:=by
       intro vs
       unfold callMethod
       show ((method (P.types.size+Made.depth) t u m).bind fun x=>callFunc x.1 (#[x.2]++vs)).run P w=_
       rw[show ((method (P.types.size+Made.depth) t u m).bind fun x=>callFunc x.1 (#[x.2]++vs))=(method (P.types.size+Made.depth) t u m >>= fun x=>callFunc x.1 (#[x.2]++vs)) from rfl,Sem.run_bind,hme,Result.andThen_ok]
       exact zfv hg _ w
      simp only[execOp,ho,resolve,Sem.run_bind,Sem.run_pure,Result.andThen_ok,invoke]
      rw[h0]
      simp only[hcm]
      rw[e2]
    · cases h
  · simp only[Option.some.injEq,Prod.mk.injEq] at h
    obtain⟨rfl,rfl⟩:=h
    have h1:=zwx hg
    have h2:=yie m
    rw[h1] at h2;cases h2
  · cases h
 | builtin b=>simp at h
def flat(sh:List Ty):List (El sh)→List Value
 | []=>[]
 | x::xs=>El.vals sh x++flat sh xs
theorem zca{sh:List Ty}:∀xs:List (El sh),(flat sh xs).length=xs.length*sh.length
 | []=>by simp[flat]
 | x::xs=>by simp only[flat,List.length_append,El.vals_length,zca xs,List.length_cons,Nat.add_mul];omega
theorem zgk{sh:List Ty}:∀(xs ys:List (El sh)),flat sh (xs++ys)=flat sh xs++flat sh ys
 | [],_=>rfl
 | x::xs,ys=>by simp only[List.cons_append,flat,zgk xs,List.append_assoc]
theorem zqz{sh:List Ty}:∀{xs:List (El sh)}{i:Nat}{x:El sh},xs[i]? = some x→∀{j:Nat}{v:Value},(El.vals sh x)[j]? = some v→(flat sh xs)[i*sh.length+j]? = some v
 | [],i,x,h,_,_,_=>by simp at h
 | y::ys,0,x,h,j,v,hj=>by
  simp at h
  subst h
  have:j<(El.vals sh y).length:=by
   rcases Nat.lt_or_ge j (El.vals sh y).length with q|q
   · exact q
   · simp[List.getElem?_eq_none q] at hj
  simp only[flat,Nat.zero_mul,Nat.zero_add]
  rw[List.getElem?_append_left this];exact hj
 | y::ys,i+1,x,h,j,v,hj=>by
  simp only[flat]
  rw[List.getElem?_append_right (by rw[El.vals_length,Nat.add_mul];omega),El.vals_length]
  rw[show (i+1)*sh.length+j-sh.length=i*sh.length+j by rw[Nat.add_mul];omega]
  exact zqz (by simpa using h) hj
theorem zf8{sh:List Ty}:∀{xs:List (El sh)}{C:Nat→Option Value},(∀i x,xs[i]? = some x→∀j v,(El.vals sh x)[j]? = some v→C (i*sh.length+j)=some v)→∀(j:Nat)(u:Value),(flat sh xs)[j]? = some u→C j=some u
 | [],_,_,j,u,h=>by simp[flat] at h
 | y::ys,C,hc,j,u,h=>by
  simp only[flat] at h
  by_cases g:j<(El.vals sh y).length
  · rw[List.getElem?_append_left g] at h
    have:=hc 0 y rfl j u h
    simpa using this
  · rw[List.getElem?_append_right (by omega),El.vals_length] at h
    rw[El.vals_length] at g
    have:=zf8 (xs:=ys) (C:=fun k=>C (sh.length+k)) (fun i x hi k v hk=>by
     have:=hc (i+1) x (by simpa using hi) k v hk
     rw[Nat.add_mul,show i*sh.length+1*sh.length+k=sh.length+(i*sh.length+k) by omega] at this
     exact this) _ u h
    rw[show j=sh.length+(j-sh.length) by omega]
    exact this
theorem El.vals_one{t:Ty}(x:t.T):(t.val x).oneCell'=true:=by cases t<;>rfl
theorem El.ones:∀{sh:List Ty}(x:El sh),∀u ∈ El.vals sh x,u.oneCell'=true
 | [],_,u,h=>by simp[El.vals] at h
 | [t],x,u,h=>by simp[El.vals] at h;subst h;exact El.vals_one x
 | t::v::ts,x,u,h=>by
  simp only[El.vals,List.mem_cons] at h
  rcases h with rfl|h
  · exact El.vals_one x.1
  · exact El.ones x.2 u (by simpa using h)
theorem zte{sh:List Ty}:∀(xs:List (El sh)),∀u ∈ flat sh xs,u.oneCell'=true
 | [],u,h=>by simp[flat] at h
 | x::xs,u,h=>by
  simp only[flat,List.mem_append] at h
  rcases h with h|h
  · exact El.ones x u h
  · exact zte xs u h
def tyOf:Value→Option Ty
 | .bool false=>some .b
 | .int k n=>if n=0 then some (.i k) else none
 | .slice none 0 0=>some .sv
 | _=>none
def ycv:List Value→Option (List Ty)
 | []=>some []
 | v::vs=>match tyOf v,ycv vs with|some t,some ts=>some (t::ts)|_,_=>none
theorem yjr{v:Value}{t:Ty}(h:tyOf v=some t):v=t.val t.zero:=by
 unfold tyOf at h
 split at h
 · simp only[Option.some.injEq] at h;subst h;rfl
 · split at h
   · rename_i e;subst e;simp only[Option.some.injEq] at h;subst h;rfl
   · cases h
 · simp only[Option.some.injEq] at h;subst h;rfl
 · cases h
theorem zp3:∀{vs:List Value}{sh:List Ty},ycv vs=some sh→vs=El.vals sh (El.zero sh)
 | [],sh,h=>by simp only[ycv,Option.some.injEq] at h;subst h;rfl
 | v::vs,sh,h=>by
  simp only[ycv] at h
  cases h1:tyOf v with
  | none=>simp[h1] at h
  | some t =>
   cases h2:ycv vs with
   | none=>simp[h1,h2] at h
   | some ts =>
    simp only[h1,h2,Option.some.injEq] at h
    subst h
    have e1:=yjr h1
    have e2:=zp3 h2
    cases ts with
    | nil=>rw[e1,e2];rfl
    | cons u us=>rw[e1,e2];rfl
def zks(P:Program)(t:TypeId):Option (List Ty) :=
 match P.underlying t with
 | some (.slice e) =>
  match P.info? e with
  | some i=>match i.zero with
   | some z=>match ycv z.cells.toList with
    | some sh=>if i.size=sh.length∧0<sh.length∧i.bytes≤4096 then some sh else none
    | none=>none
   | none=>none
  | none=>none
 | _=>none
theorem zfw{P:Program}{t:TypeId}{sh:List Ty}(h:zks P t=some sh):∃e i z,P.underlying t=some (.slice e)∧P.info? e=some i∧i.zero=some z∧z.cells.toList=El.vals sh (El.zero sh)∧i.size=sh.length∧0<sh.length∧i.bytes≤4096:=by
 unfold zks at h
 split at h
 case h_2=>cases h
 rename_i e hu
 split at h
 case h_2=>cases h
 rename_i i hi
 split at h
 case h_2=>cases h
 rename_i z hz
 split at h
 case h_2=>cases h
 rename_i ts hts
 split at h
 case isFalse=>cases h
 rename_i hc
 simp only[Option.some.injEq] at h
 subst h
 exact⟨e,i,z,hu,hi,hz,zp3 hts,hc.1,hc.2.1,hc.2.2⟩
theorem ybj{ρ:Env}{w:World}{n:Nat}{sh:List Ty}{xs:List (El sh)}{cells:Array Value}{e:TypeId}{cap:Nat}(own:Bool)(he:ρ n=some ⟨w.heap.size,0,cap,{}⟩)(hl:cells.size=cap*sh.length)(hx:xs.length≤cap)
 (hc:∀(j:Nat)(u:Value),(flat sh xs)[j]? = some u→cells[j]? = some u):Rb ρ (w.alloc (.cells cells e)) n (.arr sh xs own) :=
 .inr ⟨_,he,hx,fun i x hi j v hj=>by
  rw[World.cell?_alloc_new,show (0:Nat)+i*sh.length+j=i*sh.length+j by omega]
  exact hc _ _ (zqz hi hj),fun _ j hj=>⟨by
  rw[World.cell?_alloc_new,Nat.zero_add]
  simp only at hj
  rw[Array.getElem?_eq_getElem (by omega)];rfl,World.frozen?_alloc_new _ _ _ _⟩⟩
theorem zw6{ρ:Env}{H:Heap}{w:World}{sh:List Ty}(xs:List (El sh))(cells:Array Value)(e:TypeId)(cap:Nat)(hw:∀ρ',Agree H.length ρ ρ'→Rel ρ' H w)(hl:cells.size=cap*sh.length)(hx:xs.length≤cap)
 (hc:∀(j:Nat)(u:Value),(flat sh xs)[j]? = some u→cells[j]? = some u) :
 Eff ρ H w (.sl H.length sh.length 0 xs.length) (H++[.arr sh xs true]) (.slice (some ⟨w.heap.size,0,none⟩) xs.length cap) (w.alloc (.cells cells e)):=by
 refine zw5 cap hw (fun ρ' ha he=>⟨ybj true he hl hx hc, ?_⟩)
 simp only[Rv]
 exact .inr ⟨_,0,he,by simpa using hx,.inl rfl,by simp⟩
theorem zie{sh:List Ty}(z:Array Value)(hz:z.toList=El.vals sh (El.zero sh))(n m:Nat)(hn:n≤m):∀(j:Nat)(u:Value),(flat sh (List.replicate n (El.zero sh)))[j]? = some u→(madeCells z (m*sh.length))[j]? = some u:=by
 have hs:z.size=sh.length:=by rw[← Array.length_toList,hz,El.vals_length]
 refine zf8 (C:=fun j=>(madeCells z (m*sh.length))[j]?) (fun i x hi k v hk => ?_)
 rw[List.getElem?_replicate] at hi
 split at hi
 case isFalse=>cases hi
 rename_i hin
 simp only[Option.some.injEq] at hi
 subst hi
 rw[← hz] at hk
 have hk':z[k]? = some v:=by simpa using hk
 have hkl:k<sh.length:=by
  rw[← hs]
  rcases Nat.lt_or_ge k z.size with q|q
  · exact q
  · simp[Array.getElem?_eq_none q] at hk'
 have hlt:i*sh.length+k<m*sh.length:=by
  have h1:(i+1)*sh.length≤m*sh.length:=Nat.mul_le_mul_right _ (by omega)
  rw[Nat.add_mul] at h1
  omega
 unfold madeCells
 rw[Array.getElem?_map,Array.getElem?_range,if_pos hlt]
 simp only[Option.map_some,hs]
 rw[show (i*sh.length+k) % sh.length=k by rw[Nat.mul_comm,Nat.mul_add_mod];exact Nat.mod_eq_of_lt hkl]
 rw[getElem!_def,hk']
def ysv(P:Program)(t:TypeId)(x y:Av)(H:Heap):Option (Option Prop × Av × Heap) :=
 match zks P t,x,y with
 | some sh,.v (.int _ l),.v (.int _ c)=>some (some (0≤l∧l≤c∧c≤4294967296),.sl H.length sh.length 0 l.toNat,H++[.arr sh (List.replicate l.toNat (El.zero sh)) true])
 | _,_,_=>none
theorem ymd{P:Program}{t:TypeId}{H H':Heap}{x y:Av}{p:Option Prop}{av:Av}(h:ysv P t x y H=some (p,av,H'))(hp:Hold p){ρ:Env}{w:World}{u v:Value}
 (hw:∀ρ',Agree H.length ρ ρ'→Rel ρ' H w) (hx:Rv ρ x u) (hy:Rv ρ y v):∃r w',(Instr.makeSlice t u v).run P w = .ok r w'∧Eff ρ H w av H' r w':=by
 unfold ysv at h
 split at h
 case h_2=>cases h
 rename_i sh kl l kc c hsh
 simp only[Option.some.injEq,Prod.mk.injEq] at h
 obtain⟨rfl,rfl,rfl⟩:=h
 obtain⟨e,i,z,hu,hi,hz,hzc,hs,hpos,hb⟩:=zfw hsh
 obtain⟨h0,h1,h2⟩:=hp
 have e1:u = .int kl l:=hx
 have e2:v = .int kc c:=hy
 subst e1 e2
 have hbytes:(i.bytes:Int)*c≤281474976710656:=by
  have a1:(i.bytes:Int)≤4096:=by omega
  have a2:(i.bytes:Int)*c≤4096*c:=Int.mul_le_mul_of_nonneg_right a1 (by omega)
  omega
 refine⟨_,_,run_make w t e i z hu hi hz kl kc l c h0 h1 hbytes (by omega), ?_⟩
 have hrl:(List.replicate l.toNat (El.zero sh)).length=l.toNat:=by simp
 have:=zw6 (w:=w) (List.replicate l.toNat (El.zero sh)) (madeCells z.cells (c.toNat*i.size)) e c.toNat hw (by rw[size_madeCells,hs]) (by rw[hrl];omega) (by rw[hs];exact zie _ hzc _ _ (by omega))
 rw[hrl] at this
 exact this
def chunk(sh:List Ty):Nat→List Value→Option (List (El sh))
 | 0,[]=>some []
 | n+1,vs=>match El.get sh (vs.take sh.length),chunk sh n (vs.drop sh.length) with|some x,some xs=>some (x::xs)|_,_=>none
 | _,_=>none
theorem zpa{sh:List Ty}:∀{n:Nat}{vs:List Value}{xs:List (El sh)},chunk sh n vs=some xs→xs.length=n∧vs=flat sh xs
 | 0,[],xs,h=>by simp only[chunk,Option.some.injEq] at h;subst h;exact⟨rfl,rfl⟩
 | 0,_::_,xs,h=>by simp[chunk] at h
 | n+1,vs,xs,h=>by
  simp only[chunk] at h
  cases h1:El.get sh (vs.take sh.length) with
  | none=>simp[h1] at h
  | some x =>
   cases h2:chunk sh n (vs.drop sh.length) with
   | none=>simp[h1,h2] at h
   | some ys =>
    simp only[h1,h2,Option.some.injEq] at h
    subst h
    obtain⟨g1,g2⟩:=zpa h2
    refine⟨by simp[g1], ?_⟩
    simp only[flat]
    rw[← g2, ← El.get_vals h1,List.take_append_drop]
def zqd(P:Program)(t:TypeId)(len:Nat)(ps:List (Nat × Av))(H:Heap):Option (Option Prop × Av × Heap) :=
 match zks P t with
 | some sh =>
  if len*sh.length≤16777216 then
   match ztb (fun j=>some (j*sh.length,sh.length)) ((flat sh (List.replicate len (El.zero sh))).map .v) ps with
   | some cs=>match zc7 cs with
    | some vs=>match chunk sh len vs with
     | some xs=>some (none,.sl H.length sh.length 0 len,H++[.arr sh xs true])
     | none=>none
    | none=>none
   | none=>none
  else none
 | none=>none
theorem zkh{sh:List Ty}(z:Array Value)(hz:z.toList=El.vals sh (El.zero sh))(n:Nat):(madeCells z (n*sh.length)).toList=flat sh (List.replicate n (El.zero sh)):=by
 refine (List.ext_getElem? fun j => ?_).symm
 rcases Nat.lt_or_ge j (flat sh (List.replicate n (El.zero sh))).length with q|q
 · rw[List.getElem?_eq_getElem q]
   have:=zie z hz n n (Nat.le_refl _) j _ (List.getElem?_eq_getElem q)
   rw[Array.getElem?_toList,this]
 · rw[List.getElem?_eq_none q,List.getElem?_eq_none]
   rw[zca] at q
   rw[Array.length_toList,size_madeCells]
   simpa using q
theorem znm{P:Program}(w:World)(t e:TypeId)(len:Nat)(parts:Array (Nat × Value))(cells:Array Value)(ie:TypeInfo)(z:Value)(hu:P.underlying t=some (.slice e))(hie:P.info? e=some ie)(hz:ie.zero=some z)
 (hsmall:len*ie.size≤16777216) (hs:0<ie.size) (h:Instr.fill (fun i=>some (i*ie.size,ie.size)) (madeCells z.cells (len*ie.size)) parts.toList=some cells) :
 (Instr.buildSlice t len parts).run P w = .ok (.slice (some ⟨w.heap.size,0,none⟩) len len) (w.alloc (.cells cells e)):=by
 have hb:¬ len*ie.size>2 ^ 24:=by omega
 by_cases h0:len*ie.size=0
 · have hl:len=0:=by
    rcases Nat.mul_eq_zero.1 h0 with q|q
    · exact q
    · omega
   subst hl
   have h':Instr.fill (fun i=>some (i*ie.size,ie.size)) #[] parts.toList=some cells:=by simpa[madeCells,Array.range_zero'] using h
   simp[Instr.buildSlice,run_underlying hu,sizeOf,typeInfo,hie,h',newRow,Array.range_zero']
 · exact run_buildSlice w t e len parts cells ie z hu hie hz hb h0 h
theorem zwq{P:Program}{t:TypeId}{len:Nat}{ps:List (Nat × Av)}{H H':Heap}{p:Option Prop}{av:Av}(h:zqd P t len ps H=some (p,av,H')){ρ:Env}{w:World}
 (hw:∀ρ',Agree H.length ρ ρ'→Rel ρ' H w) {qs:Array (Nat × Value)} (hl:ps.length=qs.toList.length)
 (hr:∀(j:Nat)(p:Nat × Av)(q:Nat × Value),ps[j]? = some p→qs.toList[j]? = some q→p.1=q.1∧Rv ρ p.2 q.2):∃r w',(Instr.buildSlice t len qs).run P w = .ok r w'∧Eff ρ H w av H' r w':=by
 unfold zqd at h
 split at h
 case h_2=>cases h
 rename_i sh hsh
 split at h
 case isFalse=>cases h
 rename_i hsm
 split at h
 case h_2=>cases h
 rename_i cs hcs
 split at h
 case h_2=>cases h
 rename_i vs hvs
 split at h
 case h_2=>cases h
 rename_i xs hxs
 simp only[Option.some.injEq,Prod.mk.injEq] at h
 obtain⟨rfl,rfl,rfl⟩:=h
 obtain⟨e,i,z,hu,hi,hz,hzc,hs,hpos,hb⟩:=zfw hsh
 obtain⟨us,h1,h2⟩:=zhz hl hr hcs (zgh (ρ:=ρ) _)
 have e1:=zdv hvs h2
 subst e1
 obtain⟨g1,g2⟩:=zpa hxs
 have hf:Instr.fill (fun j=>some (j*i.size,i.size)) (madeCells z.cells (len*i.size)) qs.toList=some us.toArray:=by
  rw[hs, ← h1]
  congr 1
  apply Array.ext'
  rw[zkh z.cells hzc]
 refine⟨_,_,znm w t e len qs us.toArray i z hu hi hz (by rw[hs];exact hsm) (by rw[hs];exact hpos) hf, ?_⟩
 have:=zw6 (w:=w) xs us.toArray e len hw (by rw[g2];simp[zca,g1]) (by omega) (fun j u hj=>by rw[g2];simpa using hj)
 rw[g1] at this
 exact this
def zqc(P:Program)(t:TypeId)(len:Nat)(ps:List (Nat × Av))(H:Heap):Option (Option Prop × Av × Heap) :=
 match P.underlying t with
 | some (.slice e)=>match P.info? e with
  | some i=>match i.zero with
   | some (.pointer q)=>if i.size=1∧len≤16777216 then
    match ztb (fun j=>some (j*1,1)) (List.replicate len (.v (.pointer q))) ps with
    | some cs=>some (none,.sl H.length 1 0 len,H++[.fix cs true none])
    | none=>none
    else none
   | _=>none
  | none=>none
 | _=>none
theorem zra(v:Value)(n:Nat):(madeCells #[v] n).toList=List.replicate n v:=by
 refine List.ext_getElem? fun j => ?_
 rw[List.getElem?_replicate]
 unfold madeCells
 rw[Array.getElem?_toList,Array.getElem?_map,Array.getElem?_range]
 split
 · simp[Nat.mod_one]
 · rfl
theorem zwp{P:Program}{t:TypeId}{len:Nat}{ps:List (Nat × Av)}{H H':Heap}{p:Option Prop}{av:Av}(h:zqc P t len ps H=some (p,av,H')){ρ:Env}{w:World}
 (hw:∀ρ',Agree H.length ρ ρ'→Rel ρ' H w) {qs:Array (Nat × Value)} (hl:ps.length=qs.toList.length)
 (hr:∀ρ',Agree H.length ρ ρ'→∀(j:Nat)(p:Nat × Av)(q:Nat × Value),ps[j]? = some p→qs.toList[j]? = some q→p.1=q.1∧Rv ρ' p.2 q.2):∃r w',(Instr.buildSlice t len qs).run P w = .ok r w'∧Eff ρ H w av H' r w':=by
 unfold zqc at h
 split at h
 case h_2=>cases h
 rename_i e hu
 split at h
 case h_2=>cases h
 rename_i i hi
 split at h
 case h_2=>cases h
 rename_i z hz
 split at h
 case isFalse=>cases h
 rename_i hc
 obtain⟨hs,hsm⟩:=hc
 split at h
 case h_2=>cases h
 rename_i cs hcs
 simp only[Option.some.injEq,Prod.mk.injEq] at h
 obtain⟨rfl,rfl,rfl⟩:=h
 have hz0:∀ρ':Env,RvL ρ' (List.replicate len (.v (.pointer z))) (List.replicate len (.pointer z)):=fun ρ'=>by
  have:=zgh (ρ:=ρ') (List.replicate len (.pointer z))
  rwa [List.map_replicate] at this
 obtain⟨us,h1,h2⟩:=zhz hl (hr ρ (Agree.refl _ _)) hcs (hz0 ρ)
 have hf:Instr.fill (fun j=>some (j*i.size,i.size)) (madeCells (Value.pointer z).cells (len*i.size)) qs.toList=some us.toArray:=by
  rw[hs,Nat.mul_one, ← h1]
  congr 1
  apply Array.ext'
  exact zra (.pointer z) len
 refine⟨_,_,znm w t e len qs us.toArray i (.pointer z) hu hi hz (by rw[hs];omega) (by rw[hs];decide) hf, ?_⟩
 refine zw5 len hw (fun ρ' ha he=>⟨?_, ?_⟩)
 · obtain⟨us2,g1,g2⟩:=zhz hl (hr ρ' ha) hcs (hz0 ρ')
   rw[h1] at g1
   have e1:us=us2:=by simpa using g1
   subst e1
   exact⟨_,us,he,g2,fun j v hj=>by simp only[Nat.zero_add];rw[World.cell?_alloc_new];simpa using hj,fun _ j _=>World.frozen?_alloc_new _ _ _ _,fun t' ht=>(by cases ht),Loc.kept_new _ _ _ _ _⟩
 · simp only[Rv]
   exact .inr ⟨_,0,he,by simp,.inl rfl,by simp⟩
def bound(d:Int):Option Av→Option Int
 | none=>some d
 | some (.v (.int _ n))=>some n
 | _=>none
def ye2(P:Program)(t:TypeId)(x:Av)(lo hi:Option Av):Option (Option Prop × Av) :=
 match x,zfo P t with
 | .sl id sz lo0 len,some n =>
  match bound 0 lo,bound len hi with
  | some l,some h=>if n=sz then some (some (0≤l∧l≤h∧h≤(len:Int)),.sl id sz (lo0+l.toNat) (h.toNat-l.toNat)) else none
  | _,_=>none
 | _,_=>none
theorem zec{P:Program}{k:IntKind}{l:Int}{y:Nat}{c:BoundsCode}(h0:0≤l)(h1:l≤(y:Int))(w:World):(Instr.sliceBound (.int k l) y c).run P w = .ok l.toNat w:=by
 unfold Instr.sliceBound
 simp only[asIntOf,Sem.run_bind,Sem.run_pure,Result.andThen_ok]
 rw[if_pos ⟨h0,h1⟩]
 rfl
theorem zhn{P:Program}(len cap:Nat)(lo hi:Option Value)(l h:Int)(hlo:lo=none∧l=0∨∃k,lo=some (.int k l))(hhi:hi=none∧h=len∨∃k,hi=some (.int k h))(h0:0≤l)(h1:l≤h)(h2:h≤(cap:Int))(w:World) :
 (Instr.sliceBounds true len cap lo hi none).run P w = .ok (l.toNat,h.toNat,cap) w:=by
 have e2:0≤h:=by omega
 have e1:l≤((h.toNat:Nat):Int):=by omega
 rcases hlo with ⟨rfl,rfl⟩|⟨k,rfl⟩<;>rcases hhi with ⟨rfl,rfl⟩|⟨j,rfl⟩<;>simp only[Instr.sliceBounds,Sem.run_bind,Sem.run_pure,Result.andThen_ok,if_true,Option.isSome_none,Bool.false_eq_true,if_false]
 · simp
 · rw[zec e2 h2];simp
 · rw[zec h0 h1];simp
 · rw[zec e2 h2];simp only[Result.andThen_ok];rw[zec h0 e1];rfl
theorem zsv{P:Program}{t:TypeId}{x:Av}{lo hi:Option Av}{p:Option Prop}{av:Av}(h:ye2 P t x lo hi=some (p,av))(hp:Hold p){ρ:Env}{u:Value}{vlo vhi:Option Value}(hx:Rv ρ x u)
 (hlo:lo=none∧vlo=none∨∃a v,lo=some a∧vlo=some v∧Rv ρ a v) (hhi:hi=none∧vhi=none∨∃a v,hi=some a∧vhi=some v∧Rv ρ a v) (w:World) :
 ∃r,(Instr.sliceAt t u vlo vhi none).run P w = .ok r w∧Rv ρ av r:=by
 unfold ye2 at h
 split at h
 case h_2=>cases h
 rename_i id sz lo0 len n hn
 split at h
 case h_2=>cases h
 rename_i l hh hl hb
 split at h
 case isFalse=>cases h
 rename_i e
 subst e
 simp only[Option.some.injEq,Prod.mk.injEq] at h
 obtain⟨rfl,rfl⟩:=h
 obtain⟨h0,h1,h2⟩:=hp
 have blo:vlo=none∧l=0∨∃k,vlo=some (.int k l):=by
  rcases hlo with ⟨rfl,rfl⟩|⟨a,v,rfl,rfl,ha⟩
  · simp only[bound,Option.some.injEq] at hl;exact .inl ⟨rfl,hl.symm⟩
  · unfold bound at hl
    split at hl
    · simp at *
    · rename_i k m e;simp only[Option.some.injEq] at e hl;subst e hl;exact .inr ⟨k,by rw[show v = .int k m from ha]⟩
    · cases hl
 have bhi:vhi=none∧hh=len∨∃k,vhi=some (.int k hh):=by
  rcases hhi with ⟨rfl,rfl⟩|⟨a,v,rfl,rfl,ha⟩
  · simp only[bound,Option.some.injEq] at hb;exact .inl ⟨rfl,hb.symm⟩
  · unfold bound at hb
    split at hb
    · simp at *
    · rename_i k m e;simp only[Option.some.injEq] at e hb;subst e hb;exact .inr ⟨k,by rw[show v = .int k m from ha]⟩
    · cases hb
 unfold zfo at hn
 split at hn
 case h_2=>cases hn
 rename_i el hu
 simp only[Option.map_eq_some_iff] at hn
 obtain⟨inf,hinf,rfl⟩:=hn
 simp only[Rv] at hx
 rcases hx with ⟨hno,rfl,rfl,q,rfl⟩|⟨L,o,hL,hcap,ho,rfl⟩
 · have e1:l=0:=by omega
   have e2:hh=0:=by omega
   subst e1 e2
   have hb:=zhn (P:=P) 0 0 vlo vhi 0 0 blo bhi (by omega) (by omega) (by omega) w
   refine⟨.slice q 0 0, ?_, ?_⟩
   · cases q<;>simp[Instr.sliceAt,Instr.slice,run_underlying hu,hb,sizeOf,typeInfo,hinf]
   · simp only[Rv]
     exact .inl ⟨hno,by simp⟩
 · have hb:=zhn (P:=P) len (L.cap-lo0) vlo vhi l hh blo bhi h0 h1 (by omega) w
   by_cases e:L.cap-lo0=l.toNat
   · rw[e] at hb
     refine⟨.slice (some ⟨L.b,L.off+o*inf.size,none⟩) (hh.toNat-l.toNat) (L.cap-lo0-l.toNat),by simp[Instr.sliceAt,Instr.slice,run_underlying hu,hb,sizeOf,typeInfo,hinf,e], ?_⟩
     simp only[Rv]
     exact .inr ⟨L,o,hL,by omega,.inr (by omega),by rw[Nat.sub_add_eq]⟩
   · refine⟨.slice (some ⟨L.b,L.off+o*inf.size+l.toNat*inf.size,none⟩) (hh.toNat-l.toNat) (L.cap-lo0-l.toNat),by simp[Instr.sliceAt,Instr.slice,run_underlying hu,hb,sizeOf,typeInfo,hinf,e,zcm], ?_⟩
     simp only[Rv]
     exact .inr ⟨L,o+l.toNat,hL,by omega,.inl (by omega),by rw[Nat.sub_add_eq,Nat.add_mul,Nat.add_assoc]⟩
end Go.Proofs.YtfiddfbagbaofaaGreat.V
