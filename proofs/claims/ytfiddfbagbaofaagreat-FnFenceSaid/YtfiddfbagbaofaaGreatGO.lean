/- The law on the plain translation returns true. Conditions: those in each statement. -/
import Derived.Test.YtfiddfbagbaofaaGreatGN
import Derived.KernelRfl
namespace Go.Proofs.YtfiddfbagbaofaaGreat.V
open Go
def kO1:Known:=[
 (128,zag [wrP,zds,i64,u64] [trP] (fun t=>some ((t.1.1≠2→t.1.1≠3→U64 t.1.2.2.1)∧U64 t.2.2.2)) (fun t=>zam t.1 t.2.1 t.2.2.1 t.2.2.2)),
 (46,zag [byP,zds,i64,u64] [trP] (fun t=>some (zan t.1∧U64 t.2.1.2.2.2∧U64 t.2.2.2)) (fun t=>zbt t.1 t.2.1 t.2.2.1 t.2.2.2))]++kN2++kM++kB3++kA4
def FO1:Dict:=mkD kO1 [] []
def yiy(m:By)(a:Int)(b c:Bool)(d k va:Int):Prop:=zal Tryz.prog FO1 .none Tryz.f45 [byP,zds,i64,u64] [trP] (m,(a,b,c,d),k,va) (zbt m (a,b,c,d) k va)
def kO2:Known:=(45,zag [byP,zds,i64,u64] [trP] (fun t=>some (zan t.1∧U64 t.2.1.2.2.2∧U64 t.2.2.2)) (fun t=>zbt t.1 t.2.1 t.2.2.1 t.2.2.2))::kO1
set_option linter.unusedVariables false
theorem zug(m:By)(a:Int)(b c:Bool)(d k va:Int):yiy m a b c d k va=(
 ((bif bif bif decide (k<0) then true else decide (k>2) then true else decide (a<0) then true else decide (a>2))=true →
     (zbt m (a,b,c,d) k va).fst=63∧(zbt m (a,b,c,d) k va).snd=0∧m=m) ∧
   ((bif bif bif decide (k<0) then true else decide (k>2) then true else decide (a<0) then true else decide (a>2))=false →
     U64 d ∧
       ((!onM (a,b,c,d))=true→(zbt m (a,b,c,d) k va).fst=0∧(zbt m (a,b,c,d) k va).snd=va∧m=m) ∧
         ((!onM (a,b,c,d))=false →
           (List.length m=List.length m∧zan m∧U64 d∧U64 va) ∧
             (List.length (zbx m d va).snd.snd.snd=List.length (zbx m d va).snd.snd.snd ∧
                 ((zbx m d va).fst≠(2:(Cs.i IntKind.i64).T)→(zbx m d va).fst≠(3:(Cs.i IntKind.i64).T)→U64 (zbx m d va).snd.snd.fst)∧U64 va) ∧
               (zbt m (a,b,c,d) k va).fst=(zam ((zbx m d va).fst,(zbx m d va).snd.fst,(zbx m d va).snd.snd.fst,(zbx m d va).snd.snd.snd) (a,b,c,d) k va).fst ∧
                 (zbt m (a,b,c,d) k va).snd=(zam ((zbx m d va).fst,(zbx m d va).snd.fst,(zbx m d va).snd.snd.fst,(zbx m d va).snd.snd.snd) (a,b,c,d) k va).snd∧m=m))):=by kernel_rfl
set_option linter.unusedSimpArgs false
theorem yfb:zay Tryz.prog kO1 := .cons (by kernel_rfl) ydr <| .cons (by kernel_rfl) zsa (((zsf.append yfa).append zdn).append zce)
theorem yty:DictOk Tryz.prog FO1:=za1 yfb .nil .nil
theorem yj8(c:Ct)(k:Int):(bif bif bif decide (k<0) then true else decide (k>2) then true else decide (c.1<0) then true else decide (c.1>2)) = !zid c k:=by
 have e:∀x:Int,decide (0≤x) = !decide (x<0):=fun x=>by
  by_cases h:x<0
  · have:¬ 0≤x:=by omega
    simp[h,this]
  · have:0≤x:=by omega
    simp[h,this]
 have e2:∀x:Int,decide (x≤2) = !decide (x>2):=fun x=>by
  by_cases h:x>2
  · have:¬ x≤2:=by omega
    simp[h,this]
  · have:x≤2:=by omega
    simp[h,this]
 unfold zid
 rw[e,e2,e,e2]
 cases decide (k<0)<;>cases decide (k>2)<;>cases decide (c.1<0)<;>cases decide (c.1>2)<;>rfl
theorem zs3:Sound Tryz.prog 45 (zag [byP,zds,i64,u64] [trP] (fun t=>some (zan t.1∧U64 t.2.1.2.2.2∧U64 t.2.2.2)) (fun t=>zbt t.1 t.2.1 t.2.2.1 t.2.2.2)):=by
 refine zad mixed Tryz.func45 (by kernel_rfl) (by kernel_rfl) yty (fun t h => ?_)
 obtain⟨m,⟨a,b,c,d⟩,k,va⟩:By × Ct × Int × Int:=t
 obtain⟨h1,h2,h3⟩:zan m∧U64 d∧U64 va:=h
 have ha:=yj8 (a,b,c,d) k
 simp only at ha
 refine zah (zug m a b c d k va) ?_
 rw[ha]
 refine⟨fun q => ?_,fun q=>⟨h2,fun q2 => ?_,fun q2 => ?_⟩⟩
 · have q:zid (a,b,c,d) k=false:=by simpa using q
   simp[zbt,q]
 · have q:zid (a,b,c,d) k=true:=by simpa using q
   have q2:onM (a,b,c,d)=false:=by simpa using q2
   simp[zbt,q,q2]
 · have q:zid (a,b,c,d) k=true:=by simpa using q
   have q2:onM (a,b,c,d)=true:=by simpa using q2
   have e:zbt m (a,b,c,d) k va=zam (zbx m d va) (a,b,c,d) k va:=by simp[zbt,q,q2]
   have hu:(zbx m d va).1≠2→(zbx m d va).1≠3→U64 (zbx m d va).2.2.1:=by
    intro n2 n3
    unfold zbx at n2 n3 ⊢
    split at n2
    · rename_i cv
      rw[if_pos cv] at n3 ⊢
      have hc:=zb6 m va 3 (d % 17592186044416)
      exact (zbu h1 3 _ (by rcases hc with z|z|z;exact z;exact absurd z n3;exact absurd z n2)).1
    · exact absurd rfl n2
   rw[e]
   exact⟨⟨rfl,h1,h2,h3⟩,⟨rfl,hu,h3⟩,rfl,rfl,rfl⟩
theorem yvq:zay Tryz.prog kO2 := .cons (by kernel_rfl) zs3 yfb
end Go.Proofs.YtfiddfbagbaofaaGreat.V
