/- The laws' helpers on entries and caches, and small things on rows, answer as their models. Conditions: those in each statement. -/
import Derived.Test.YtfiddfbagbaofaaGreatGC
import Derived.KernelRfl
namespace Go.Proofs.YtfiddfbagbaofaaGreat.V
open Go
abbrev shE:List Ty:=[.b,.i .i64,.i .u64,.i .u64,.b,.i .u64]
abbrev En:=Bool × Int × Int × Int × Bool × Int
abbrev Es:=List En
abbrev enP:Pm := .st [.b,.i .i64,.i .u64,.i .u64,.b,.i .u64]
abbrev tlP:Pm := .st [.i .i64,.i .i64,.sl shE]
abbrev Tl:=Int × Int × Es
abbrev yw6:Pm := .st [.b,.i .i64,.i .i64,.i .u64]
def zE:En:=(false,0,0,0,false,0)
def idxOf(v:Int)(xs:List Int):Option Nat:=xs.findIdx? (· == v)
def kE1:Known:=[
 ]
def FE1:Dict:=mkD kE1 [] []
def ypg(a b:Int)(m:Es):Prop:=zal Tryz.prog FE1 .none Tryz.f91 [tlP] [tlP] (a,b,m) (a,b,m)
def kE2:Known:=[
 (91,zai [tlP] [tlP] (fun t=>some (SzR t.2.2.length)) (fun t=>t))]++kE1
def kE3:Known:=[
 ]++kE2
set_option linter.unusedVariables false
theorem zy7(a b:Int)(m:Es):ypg a b m=(
 ((0:Nat)+List.length m≤List.length m∧(0:Nat)≤0∧0+(List.take (List.length m) (List.drop 0 m)).length≤1073741824) ∧
   a=a∧b=b∧(0:Nat)=0∧List.length m=0+(List.take (List.length m) (List.drop 0 m)).length∧m=m∧m=[]++List.take (List.length m) (List.drop 0 m)):=by kernel_rfl
set_option linter.unusedSimpArgs false
theorem zkm{α:Type}(a b:List α)(x y:α){i:Nat}(h:a.length=i):(a++x::b).set i y=a++y::b:=by
 rw[List.set_append_right _ _ (by omega),h,Nat.sub_self]
 rfl
theorem znc{α:Type}(a b:List α)(x d:α){i:Nat}(h:a.length=i):(a++x::b).getD i d=x:=by
 rw[List.getD_eq_getElem?_getD,List.getElem?_append_right (by omega),h,Nat.sub_self]
 rfl
theorem yqv:zar Tryz.prog kE1 :=
 .nil
theorem yxd:DictOk Tryz.prog FE1:=zay yqv .nil .nil
theorem yoa:Sound Tryz.prog 91 (zai [tlP] [tlP] (fun t=>some (SzR t.2.2.length)) (fun t=>t)):=by
 refine zad mixed Tryz.func91 (by kernel_rfl) (by kernel_rfl) yxd (fun t h => ?_)
 obtain⟨a,b,m⟩:Tl:=t
 have h:m.length≤2097152:=h
 exact zab (zy7 a b m) ⟨⟨by omega,by omega,by simp;omega⟩,rfl,rfl,rfl,by simp,rfl,by simp⟩
theorem yy1:zar Tryz.prog kE2 :=
 .cons (by kernel_rfl) yoa yqv
theorem zmy:zar Tryz.prog kE3:=yy1
end Go.Proofs.YtfiddfbagbaofaaGreat.V
