/- The law on the plain translation returns true. Conditions: those in each statement. -/
import Derived.Test.YtfiddfbagbaofaaGreatGN
import Derived.KernelRfl
namespace Go.Proofs.YtfiddfbagbaofaaGreat.V
open Go
def kO1:Known:=[
 (128,zai [wrP,zg4,i64,u64] [trP] (fun t=>some ((t.1.1≠2→t.1.1≠3→U64 t.1.2.2.1)∧U64 t.2.2.2)) (fun t=>zak t.1 t.2.1 t.2.2.1 t.2.2.2)),
 (46,zai [byP,zg4,i64,u64] [trP] (fun t=>some (zaj t.1∧U64 t.2.1.2.2.2∧U64 t.2.2.2)) (fun t=>zaw t.1 t.2.1 t.2.2.1 t.2.2.2))]++kN2++kM++kB3++kA4
def FO1:Dict:=mkD kO1 [] []
def yk7(m:By)(a:Int)(b c:Bool)(d k va:Int):Prop:=zal Tryz.prog FO1 .none Tryz.f45 [byP,zg4,i64,u64] [trP] (m,(a,b,c,d),k,va) (zaw m (a,b,c,d) k va)
def kO2:Known:=(45,zai [byP,zg4,i64,u64] [trP] (fun t=>some (zaj t.1∧U64 t.2.1.2.2.2∧U64 t.2.2.2)) (fun t=>zaw t.1 t.2.1 t.2.2.1 t.2.2.2))::kO1
set_option linter.unusedVariables false
theorem zvq(m:By)(a:Int)(b c:Bool)(d k va:Int):yk7 m a b c d k va=(
 ((bif bif bif decide (k<0) then true else decide (k>2) then true else decide (a<0) then true else decide (a>2))=true →
     (zaw m (a,b,c,d) k va).1=63∧(zaw m (a,b,c,d) k va).2=0∧m=m) ∧
   ((bif bif bif decide (k<0) then true else decide (k>2) then true else decide (a<0) then true else decide (a>2))=false →
     U64 d ∧
       ((!onM (a,b,c,d))=true→(zaw m (a,b,c,d) k va).1=0∧(zaw m (a,b,c,d) k va).2=va∧m=m) ∧
         ((!onM (a,b,c,d))=false →
           (List.length m=List.length m∧zaj m∧U64 d∧U64 va) ∧
             (List.length (zcf m d va).2.2.2=List.length (zcf m d va).2.2.2 ∧
                 ((zcf m d va).1≠(2:(Cs.i IntKind.i64).T)→(zcf m d va).1≠(3:(Cs.i IntKind.i64).T)→U64 (zcf m d va).2.2.1)∧U64 va) ∧
               (zaw m (a,b,c,d) k va).1=(zak ((zcf m d va).1,(zcf m d va).2.1,(zcf m d va).2.2.1,(zcf m d va).2.2.2) (a,b,c,d) k va).1 ∧
                 (zaw m (a,b,c,d) k va).2=(zak ((zcf m d va).1,(zcf m d va).2.1,(zcf m d va).2.2.1,(zcf m d va).2.2.2) (a,b,c,d) k va).2∧m=m))):=by kernel_rfl
set_option linter.unusedSimpArgs false
theorem yhb:zar Tryz.prog kO1 := .cons (by kernel_rfl) yfe <| .cons (by kernel_rfl) ztk (((zmz.append yna).append zei).append zc4)
theorem yxl:DictOk Tryz.prog FO1:=zay yhb .nil .nil
theorem ymi(c:Ct)(k:Int):(bif bif bif decide (k<0) then true else decide (k>2) then true else decide (c.1<0) then true else decide (c.1>2)) = !zl8 c k:=by
 have e:∀x:Int,decide (0≤x) = !decide (x<0):=fun x=>by
  by_cases h:x<0
  · have:¬ 0≤x:=by omega
    simp[h,this]
  · have:0≤x:=by omega
    simp[h,this]
 have e2:∀x:Int,decide (x≤2) = !decide (x>2):=fun x=>by
  by_cases h:x>2
  · have:¬ x≤2:=by omega
    simp[h,this]
  · have:x≤2:=by omega
    simp[h,this]
 unfold zl8
 rw[e,e2,e,e2]
 cases decide (k<0)<;>cases decide (k>2)<;>cases decide (c.1<0)<;>cases decide (c.1>2)<;>rfl
theorem yiw:Sound Tryz.prog 45 (zai [byP,zg4,i64,u64] [trP] (fun t=>some (zaj t.1∧U64 t.2.1.2.2.2∧U64 t.2.2.2)) (fun t=>zaw t.1 t.2.1 t.2.2.1 t.2.2.2)):=by
 refine zad mixed Tryz.func45 (by kernel_rfl) (by kernel_rfl) yxl (fun t h => ?_)
 obtain⟨m,⟨a,b,c,d⟩,k,va⟩:By × Ct × Int × Int:=t
 obtain⟨h1,h2,h3⟩:zaj m∧U64 d∧U64 va:=h
 have ha:=ymi (a,b,c,d) k
 simp only at ha
 refine zab (zvq m a b c d k va) ?_
 rw[ha]
 refine⟨fun q => ?_,fun q=>⟨h2,fun q2 => ?_,fun q2 => ?_⟩⟩
 · have q:zl8 (a,b,c,d) k=false:=by simpa using q
   simp[zaw,q]
 · have q:zl8 (a,b,c,d) k=true:=by simpa using q
   have q2:onM (a,b,c,d)=false:=by simpa using q2
   simp[zaw,q,q2]
 · have q:zl8 (a,b,c,d) k=true:=by simpa using q
   have q2:onM (a,b,c,d)=true:=by simpa using q2
   have e:zaw m (a,b,c,d) k va=zak (zcf m d va) (a,b,c,d) k va:=by simp[zaw,q,q2]
   have hu:(zcf m d va).1≠2→(zcf m d va).1≠3→U64 (zcf m d va).2.2.1:=by
    intro n2 n3
    unfold zcf at n2 n3 ⊢
    split at n2
    · rename_i cv
      rw[if_pos cv] at n3 ⊢
      have hc:=zb5 m va 3 (d % 17592186044416)
      exact (zbz h1 3 _ (by rcases hc with z|z|z;exact z;exact absurd z n3;exact absurd z n2)).1
    · exact absurd rfl n2
   rw[e]
   exact⟨⟨rfl,h1,h2,h3⟩,⟨rfl,hu,h3⟩,rfl,rfl,rfl⟩
theorem yy8:zar Tryz.prog kO2 := .cons (by kernel_rfl) yiw yhb
end Go.Proofs.YtfiddfbagbaofaaGreat.V
