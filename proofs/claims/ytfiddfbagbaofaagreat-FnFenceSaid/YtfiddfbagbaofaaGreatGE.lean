/- The laws' helpers on entries and caches, and small things on rows, answer as their models. Conditions: those in each statement. -/
import Derived.Test.YtfiddfbagbaofaaGreatGC
import Derived.KernelRfl
namespace Go.Proofs.YtfiddfbagbaofaaGreat.V
open Go
abbrev shE:List Ty:=[.b,.i .i64,.i .u64,.i .u64,.b,.i .u64]
abbrev En:=Bool × Int × Int × Int × Bool × Int
abbrev Es:=List En
abbrev enP:Pm := .st [.b,.i .i64,.i .u64,.i .u64,.b,.i .u64]
abbrev esP:Pm := .one (.sl shE)
abbrev tlP:Pm := .st [.i .i64,.i .i64,.sl shE]
abbrev Tl:=Int × Int × Es
abbrev yku:Pm := .st [.b,.i .i64,.i .i64,.i .u64]
abbrev wsP:Pm := .one (.sl [.i .i64])
def zE:En:=(false,0,0,0,false,0)
def idxOf(v:Int)(xs:List Int):Option Nat:=xs.findIdx? (· == v)
def yjs(xs:List Int)(v:Int):Bool:=xs.contains v
def ybk(m:Es):Prop:=zal Tryz.prog F0 .none Tryz.f182 [esP] [esP] m m
def yu9(m:List Int)(v:Int):LoopS where
 α:=Nat
 I i:=i≤m.length∧∀j,j<i→m.getD j 0≠v
 sl i:=slots 19 [(0,.sl 0 1 0 m.length),(1,.v (.int .i64 v)),(7,.v (.int .i64 m.length)),(8,.v (.int .i64 i))]
 H _:=[.arr [.i .i64] m false]
 fams:=[{ β:=Unit,out:=fun _ _=>idxOf v m=none,ex := .ext 0,sl:=fun _=>slots 19 [],H:=fun _=>[.arr [.i .i64] m false] },
  { β:=Nat,out:=fun _ j=>idxOf v m=some j,ex := .ret,sl:=fun j=>slots 19 [(4,.v (.int .i64 j))],H:=fun _=>[.arr [.i .i64] m false] }]
def zl1(o:Option Nat):Int:=match o with|some i=>i|none => -1
def ymr(m:List Int)(v:Int)(i:Nat):Prop:=zax Tryz.prog F0 (.one 2 (yu9 m v)) 1 (zai Tryz.f241 0) (yu9 m v) (fun i:Nat=>m.length-i) i
def yw1(m:List Int)(v:Int):Prop:=zal Tryz.prog F0 (.one 2 (yu9 m v)) Tryz.f241 [wsP,i64] [i64] (m,v) (zl1 (idxOf v m))
def kE1:Known:=[
 (182,zag [esP] [esP] (fun m=>some (SzR m.length)) (fun m=>m)),
 (241,zag [wsP,i64] [i64] (fun t=>some (SzR t.1.length)) (fun t=>zl1 (idxOf t.2 t.1)))]
def FE1:Dict:=mkD kE1 [] []
def zw0(m:List Int)(v:Int):Prop:=zal Tryz.prog FE1 .none Tryz.f225 [wsP,i64] [bl] (m,v) (yjs m v)
def yid(a b:Int)(m:Es):Prop:=zal Tryz.prog FE1 .none Tryz.f93 [tlP] [tlP] (a,b,m) (a,b,m)
def ync(a b:Int)(m:Es):Prop:=zal Tryz.prog FE1 .none Tryz.f91 [tlP] [tlP] (a,b,m) (a,b,m)
def kE2:Known:=[
 (225,zag [wsP,i64] [bl] (fun t=>some (SzR t.1.length)) (fun t=>yjs t.1 t.2)),
 (93,zag [tlP] [tlP] (fun t=>some (SzR t.2.2.length)) (fun t=>t)),
 (91,zag [tlP] [tlP] (fun t=>some (SzR t.2.2.length)) (fun t=>t))]++kE1
def kE3:Known:=[
 ]++kE2
set_option linter.unusedVariables false
theorem zqf(m:Es):ybk m=(
 (List.length m=0→(0:Nat)=0∧List.length m=0∧m=m∧m=[]) ∧
   ((0:Nat)+List.length m≤List.length m∧(0:Nat)≤0∧0+(List.take (List.length m) (List.drop 0 m)).length≤1073741824) ∧
     (0:Nat)=0∧List.length m=0+(List.take (List.length m) (List.drop 0 m)).length∧m=m∧m=[]++List.take (List.length m) (List.drop 0 m)):=by kernel_rfl
theorem zw5(m:List Int)(v:Int)(i:Nat):ymr m v i=(
 let A0:=(↑i:Int);
 let A1:=m.length;
 let A2:=(↑A1:Int);
 let A3(a:Nat):=idxOf v m=some a;
 let A4:=idxOf v m=none;
 let A5(a:Bool)(b c:Prop):=(a=true→b)∧(a=false→c);
 let A6(a:Nat)(b:Int):=(↑a:Int)=b∧m=m;
 A5 (decide (A0<(↑A1:Int))) (((0:Int)≤A0∧A0<A2)∧0+A0.toNat<A1∧A5 (v==m.getD ((0:Nat)+A0.toNat) (El.zero (Ty.i IntKind.i64::[]))) (∃(x0:Nat),A6 x0 A0∧A3 x0) (∃(x1:Nat),((0:Nat)=0 ∧
  A1=A1∧v=v∧A2=A2∧A6 x1 (IntKind.i64.wrap (A0+1)))∧(x1≤A1∧∀(x2:Nat),x2<x1→m.getD x2 0≠v)∧A1-x1<A1-i∧(∀(x3:Unit),A4→A4)∧∀(x4:Nat),A3 x4→A3 x4)) (∃(x5:Unit),m
  = m∧A4)):=by kernel_rfl
theorem yie(m:List Int)(v:Int):yw1 m v=(
 ∃(x:Nat),
   ((0:Nat)=0∧m.length=m.length∧v=v∧(↑m.length:Int)=(↑m.length:Int)∧(↑x:Int)=0∧m=m) ∧
     (x≤m.length∧∀(j:Nat),j<x→m.getD j 0≠v) ∧
       (∀(z:Unit),idxOf v m=none→zl1 (idxOf v m)=(-1:Int)∧m=m)∧∀(z:Nat),idxOf v m=some z→zl1 (idxOf v m)=(↑z:Int)∧m=m):=by kernel_rfl
theorem zni(m:List Int)(v:Int):zw0 m v=(
 (m.length=m.length∧SzR m.length)∧yjs m v=decide (zl1 (idxOf v m)≥(0:Int))∧m=m):=by kernel_rfl
theorem ztu(a b:Int)(m:Es):yid a b m=(
 (List.length m=List.length m∧SzR (List.length m))∧a=a∧b=b∧(0:Nat)=(0:Nat)∧List.length m=List.length m∧m=m∧m=m):=by kernel_rfl
theorem zxv(a b:Int)(m:Es):ync a b m=(
 ((0:Nat)+List.length m≤List.length m∧(0:Nat)≤0∧0+(List.take (List.length m) (List.drop 0 m)).length≤1073741824) ∧
   a=a∧b=b∧(0:Nat)=0∧List.length m=0+(List.take (List.length m) (List.drop 0 m)).length∧m=m∧m=[]++List.take (List.length m) (List.drop 0 m)):=by kernel_rfl
set_option linter.unusedSimpArgs false
theorem yra{α:Type}(a b:List α)(x y:α){i:Nat}(h:a.length=i):(a++x::b).set i y=a++y::b:=by
 rw[List.set_append_right _ _ (by omega),h,Nat.sub_self]
 rfl
theorem yx6{α:Type}(a b:List α)(x d:α){i:Nat}(h:a.length=i):(a++x::b).getD i d=x:=by
 rw[List.getD_eq_getElem?_getD,List.getElem?_append_right (by omega),h,Nat.sub_self]
 rfl
theorem yac:Sound Tryz.prog 182 (zag [esP] [esP] (fun m=>some (SzR m.length)) (fun m=>m)):=by
 refine zad mixed Tryz.func182 (by kernel_rfl) (by kernel_rfl) zee (fun  (m:Es) h => ?_)
 have h:SzR m.length:=h
 unfold SzR at h
 exact zah (zqf m) ⟨fun g=>⟨rfl,g,rfl,List.length_eq_zero_iff.1 g⟩,⟨by omega,by omega,by simp;omega⟩,rfl,by simp,rfl,by simp⟩
theorem yva:Sound Tryz.prog 241 (zag [wsP,i64] [i64] (fun t=>some (SzR t.1.length)) (fun t=>zl1 (idxOf t.2 t.1))):=by
 refine zcr mixed Tryz.func241 (by kernel_rfl) (b:=zai Tryz.f241 0) (k:=2) (by kernel_rfl) (by kernel_rfl) (by kernel_rfl) zee (fun t h => ?_)
 obtain⟨m,v⟩:List Int × Int:=t
 have h:SzR m.length:=h
 have hs:m.length≤2097152:=h
 refine⟨.one 2 (yu9 m v),yu9 m v,fun i:Nat=>m.length-i,zby _ _,fun  (i:Nat) hi=>zah (zw5 m v i) ?_,zah (yie m v) ?_⟩
 all_goals (try conv=>zeta)
 · obtain⟨hi,hb⟩:i≤m.length∧∀j,j<i→m.getD j 0≠v:=hi
   refine⟨fun g => ?_,fun g => ?_⟩
   · have g:(i:Int)<m.length:=of_decide_eq_true g
     have hlt:i<m.length:=by omega
     have e0:0+(i:Int).toNat=i:=by omega
     have ev:m.getD i (El.zero [Ty.i IntKind.i64])=m[i]:=by rw[List.getD_eq_getElem?_getD,List.getElem?_eq_getElem hlt];rfl
     rw[e0,zfk h hlt,ev]
     refine⟨⟨by omega,by omega⟩,by omega,fun q=>⟨i,⟨rfl,rfl⟩, ?_⟩,fun q=>⟨i+1,⟨rfl,rfl,rfl,rfl,rfl,rfl⟩,⟨by omega,fun j hj => ?_⟩,by omega,fun _ h=>h,fun _ h=>h⟩⟩
     · unfold idxOf
       rw[List.findIdx?_eq_some_iff_getElem]
       refine⟨hlt, ?_,fun j hj => ?_⟩
       · have q:v=m[i]:=by simpa using q
         simp[q]
       · have:=hb j hj
         rw[List.getD_eq_getElem?_getD,List.getElem?_eq_getElem (by omega)] at this
         simpa using this
     · rcases Nat.lt_or_ge j i with z|z
       · exact hb j z
       · have:j=i:=by omega
         subst this
         rw[List.getD_eq_getElem?_getD,List.getElem?_eq_getElem hlt]
         have q:v≠m[j]:=by simpa using q
         exact fun e=>q e.symm
   · have g:¬ (i:Int)<m.length:=of_decide_eq_false g
     have:i=m.length:=by omega
     subst this
     refine⟨(),rfl, ?_⟩
     unfold idxOf
     rw[List.findIdx?_eq_none_iff]
     intro x hx
     obtain⟨j,hj,rfl⟩:=List.mem_iff_getElem.1 hx
     have:=hb j hj
     rw[List.getD_eq_getElem?_getD,List.getElem?_eq_getElem hj] at this
     simpa using this
 · exact⟨0,⟨rfl,rfl,rfl,rfl,rfl,rfl⟩,⟨by omega,fun j hj=>absurd hj (Nat.not_lt_zero _)⟩,fun _ e=>⟨by rw[e];rfl,rfl⟩,fun _ e=>⟨by rw[e];rfl,rfl⟩⟩
theorem yof:zay Tryz.prog kE1 :=
 .cons (by kernel_rfl) yac <| .cons (by kernel_rfl) yva .nil
theorem ycy:DictOk Tryz.prog FE1:=za1 yof .nil .nil
theorem zvm:Sound Tryz.prog 225 (zag [wsP,i64] [bl] (fun t=>some (SzR t.1.length)) (fun t=>yjs t.1 t.2)):=by
 refine zad mixed Tryz.func225 (by kernel_rfl) (by kernel_rfl) ycy (fun t h => ?_)
 obtain⟨m,v⟩:List Int × Int:=t
 have h:SzR m.length:=h
 refine zah (zni m v) ⟨⟨rfl,h⟩, ?_,rfl⟩
 unfold yjs idxOf
 cases e:m.findIdx? (· == v) with
 | none =>
  rw[List.findIdx?_eq_none_iff] at e
  have:m.contains v=false:=by
   rw[List.contains_eq_any_beq,List.any_eq_false]
   intro x hx
   have:=e x hx
   simp only[beq_eq_false_iff_ne] at this
   simp
   exact fun z=>this z.symm
  rw[this]
  rfl
 | some i =>
  rw[List.findIdx?_eq_some_iff_getElem] at e
  obtain⟨hi,h1,_⟩:=e
  have:m.contains v=true:=by
   rw[List.contains_iff_mem]
   have:m[i]=v:=by simpa using h1
   rw[← this]
   exact List.getElem_mem hi
  rw[this]
  simp[zl1]
theorem yez:Sound Tryz.prog 93 (zag [tlP] [tlP] (fun t=>some (SzR t.2.2.length)) (fun t=>t)):=by
 refine zad mixed Tryz.func93 (by kernel_rfl) (by kernel_rfl) ycy (fun t h => ?_)
 obtain⟨a,b,m⟩:Tl:=t
 have h:SzR m.length:=h
 exact zah (ztu a b m) ⟨⟨rfl,h⟩,rfl,rfl,rfl,rfl,rfl,rfl⟩
theorem yl2:Sound Tryz.prog 91 (zag [tlP] [tlP] (fun t=>some (SzR t.2.2.length)) (fun t=>t)):=by
 refine zad mixed Tryz.func91 (by kernel_rfl) (by kernel_rfl) ycy (fun t h => ?_)
 obtain⟨a,b,m⟩:Tl:=t
 have h:m.length≤2097152:=h
 exact zah (zxv a b m) ⟨⟨by omega,by omega,by simp;omega⟩,rfl,rfl,rfl,by simp,rfl,by simp⟩
theorem yog:zay Tryz.prog kE2 :=
 .cons (by kernel_rfl) zvm <|
 .cons (by kernel_rfl) yez <| .cons (by kernel_rfl) yl2 yof
theorem zj8:zay Tryz.prog kE3:=yog
end Go.Proofs.YtfiddfbagbaofaaGreat.V
