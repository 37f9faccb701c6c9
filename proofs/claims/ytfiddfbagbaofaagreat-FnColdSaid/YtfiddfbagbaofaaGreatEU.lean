/- What a translation with caches comes to: the plain one where nothing fits; what is found after it (seat G). Conditions: those in each statement. -/
import Derived.Test.YtfiddfbagbaofaaGreatEE
import Derived.Test.YtfiddfbagbaofaaGreatEL
namespace Go.Proofs.YtfiddfbagbaofaaGreat.V
open Go
def zu6(va asid:Int)(m:Es):Prop:=∀i,i<m.length→zdg (m.getD i zE) va asid=false
set_option linter.unusedSimpArgs false
theorem zob{va asid:Int}{m:Es}(h:zu6 va asid m):za1 va asid m=(false,0,0,0):=zjp h
theorem zme(va asid:Int)(n:Nat):zu6 va asid (List.replicate n zE):=by
 intro i hi
 have e:(List.replicate n zE).getD i zE=zE:=by
  rw[List.getD_eq_getElem?_getD,List.getElem?_replicate]
  split<;>rfl
 rw[e]
 rfl
theorem yaq{m:By}{c:Ct}{k:Cch}{kind va pick:Int}(hk:zif c kind=true)(n1:zu6 va (za6 c.2.2.2) (zed kind k).2.2)(n2:zu6 va (za6 c.2.2.2) k.2.2.2.2) :
 zbf (trM m c k kind va pick).1 kind=(zbi m c kind va).1∧(trM m c k kind va pick).2.1=(zbi m c kind va).2:=by
 unfold zbi
 rw[if_pos hk]
 unfold trM
 cases ho:onM c with
 | false=>exact⟨rfl,rfl⟩
 | true =>
  simp only[Bool.true_eq_false,if_false,if_true]
  cases hc:zef va with
  | false =>
   have e:zbu m c.2.2.2 va=(2,2,0,[]):=by unfold zbu;rw[hc];rfl
   rw[e]
   exact⟨rfl,rfl⟩
  | true =>
   simp only[Bool.true_eq_false,if_false]
   rw[zob n1]
   simp only[Bool.false_eq_true,if_false]
   have es:zap c.2.2.2 va k.2.2=(zdo c.2.2.2,2):=by unfold zap;rw[zob n2];rfl
   unfold zjs
   rw[es,zm3 hc]
   show zbf (zfy (za2 m va 3 (zdo c.2.2.2)) c _ kind va pick).1 kind=_∧(zfy (za2 m va 3 (zdo c.2.2.2)) c _ kind va pick).2.1=_
   have code:=zb0 m va 3 (zdo c.2.2.2)
   generalize za2 m va 3 (zdo c.2.2.2)=W at code ⊢
   obtain⟨w1,w2,w3,w4⟩:=W
   rcases code with e|e|e<;>(have e:w1=_:=e;subst e)
   · simp only[zfy,zak,zcd]
     simp only[if_true,show ¬ (1:Int)=2 by decide,show ¬ (1:Int)=3 by decide,if_false]
     split<;>exact⟨rfl,rfl⟩
   · exact⟨rfl,rfl⟩
   · exact⟨rfl,rfl⟩
theorem yru{m:By}{c:Ct}{x:Cf}{kind va pick:Int}(h:(zgo m c x kind va pick).1≠63):okT c (toC x) kind pick=true:=by
 unfold zgo zqa at h
 cases ho:okT c (toC x) kind pick with
 | true=>rfl
 | false=>rw[if_neg (by rw[ho];decide)] at h;exact absurd rfl h
theorem yrv{m:By}{c:Ct}{x:Cf}{kind va pick:Int}(h:okT c (toC x) kind pick=true):zgo m c x kind va pick=(zbf (trM m c (toC x) kind va pick).1 kind,(trM m c (toC x) kind va pick).2.1,ofC (trM m c (toC x) kind va pick).2.2.2):=by
 unfold zgo zqa
 rw[if_pos h]
theorem yvd{c:Ct}{k k':Cch}{kind pick:Int}(h:okT c k kind pick=true)(g:zb3 k'=true):okT c k' kind pick=true:=by
 obtain⟨_,a,b,d⟩:=zh5 h
 simp only[okT,Bool.and_eq_true,decide_eq_true_eq]
 exact⟨⟨⟨g,a⟩,b⟩,d⟩
theorem ya8{m:By}{c:Ct}{x y:Cf}{kind va pick:Int}(h:okT c (toC x) kind pick=true)(g:zb3 (toC y)=true)(n1:zu6 va (za6 c.2.2.2) y.2.2.1)(n2:zu6 va (za6 c.2.2.2) y.2.2.2.2.2.1)(n3:zu6 va (za6 c.2.2.2) y.2.2.2.2.2.2.2.2) :
 (zgo m c y kind va pick).1=(zbi m c kind va).1∧(zgo m c y kind va pick).2.1=(zbi m c kind va).2:=by
 rw[yrv (yvd h g)]
 refine yaq (zh5 h).2.1 ?_ n3
 unfold zed
 split
 · exact n1
 · exact n2
end Go.Proofs.YtfiddfbagbaofaaGreat.V
