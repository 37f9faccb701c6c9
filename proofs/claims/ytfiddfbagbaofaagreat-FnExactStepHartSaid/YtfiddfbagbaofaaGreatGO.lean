/- The law on the plain translation returns true. Conditions: those in each statement. -/
import Derived.Test.YtfiddfbagbaofaaGreatGN
import Derived.KernelRfl
namespace Go.Proofs.YtfiddfbagbaofaaGreat.V
open Go
def kO1:Known:=[
 (128,zad [wrP,zgo,i64,u64] [trP] (fun t=>some ((t.1.1≠2→t.1.1≠3→U64 t.1.2.2.1)∧U64 t.2.2.2)) (fun t=>zai t.1 t.2.1 t.2.2.1 t.2.2.2)),
 (46,zad [byP,zgo,i64,u64] [trP] (fun t=>some (zaz t.1∧U64 t.2.1.2.2.2∧U64 t.2.2.2)) (fun t=>zav t.1 t.2.1 t.2.2.1 t.2.2.2))]++kN2++kM++kB3++kA4
def FO1:Dict:=mkD kO1 [] []
def yk7(m:By)(a:Int)(b c:Bool)(d k va:Int):Prop:=zag Tryz.prog FO1 .none Tryz.f45 [byP,zgo,i64,u64] [trP] (m,(a,b,c,d),k,va) (zav m (a,b,c,d) k va)
def kO2:Known:=(45,zad [byP,zgo,i64,u64] [trP] (fun t=>some (zaz t.1∧U64 t.2.1.2.2.2∧U64 t.2.2.2)) (fun t=>zav t.1 t.2.1 t.2.2.1 t.2.2.2))::kO1
set_option linter.unusedVariables false
theorem zu5(m:By)(a:Int)(b c:Bool)(d k va:Int):yk7 m a b c d k va=(
 ((bif bif bif decide (k<0) then true else decide (k>2) then true else decide (a<0) then true else decide (a>2))=true →
     (zav m (a,b,c,d) k va).fst=63∧(zav m (a,b,c,d) k va).snd=0∧m=m) ∧
   ((bif bif bif decide (k<0) then true else decide (k>2) then true else decide (a<0) then true else decide (a>2))=false →
     U64 d ∧
       ((!onM (a,b,c,d))=true→(zav m (a,b,c,d) k va).fst=0∧(zav m (a,b,c,d) k va).snd=va∧m=m) ∧
         ((!onM (a,b,c,d))=false →
           (List.length m=List.length m∧zaz m∧U64 d∧U64 va) ∧
             (List.length (zb7 m d va).snd.snd.snd=List.length (zb7 m d va).snd.snd.snd ∧
                 ((zb7 m d va).fst≠(2:(Cs.i IntKind.i64).T)→(zb7 m d va).fst≠(3:(Cs.i IntKind.i64).T)→U64 (zb7 m d va).snd.snd.fst)∧U64 va) ∧
               (zav m (a,b,c,d) k va).fst=(zai ((zb7 m d va).fst,(zb7 m d va).snd.fst,(zb7 m d va).snd.snd.fst,(zb7 m d va).snd.snd.snd) (a,b,c,d) k va).fst ∧
                 (zav m (a,b,c,d) k va).snd=(zai ((zb7 m d va).fst,(zb7 m d va).snd.fst,(zb7 m d va).snd.snd.fst,(zb7 m d va).snd.snd.snd) (a,b,c,d) k va).snd∧m=m))):=by kernel_rfl
set_option linter.unusedSimpArgs false
theorem yhb:zar Tryz.prog kO1 := .cons (by kernel_rfl) yfi <| .cons (by kernel_rfl) zsx (((zmj.append ynn).append zd6).append zcy)
theorem yx7:DictOk Tryz.prog FO1:=zaw yhb .nil .nil
theorem ymt(c:Ct)(k:Int):(bif bif bif decide (k<0) then true else decide (k>2) then true else decide (c.1<0) then true else decide (c.1>2)) = !zlt c k:=by
 have e:∀x:Int,decide (0≤x) = !decide (x<0):=fun x=>by
  by_cases h:x<0
  · have:¬ 0≤x:=by omega
    simp[h,this]
  · have:0≤x:=by omega
    simp[h,this]
 have e2:∀x:Int,decide (x≤2) = !decide (x>2):=fun x=>by
  by_cases h:x>2
  · have:¬ x≤2:=by omega
    simp[h,this]
  · have:x≤2:=by omega
    simp[h,this]
 unfold zlt
 rw[e,e2,e,e2]
 cases decide (k<0)<;>cases decide (k>2)<;>cases decide (c.1<0)<;>cases decide (c.1>2)<;>rfl
theorem yir:Sound Tryz.prog 45 (zad [byP,zgo,i64,u64] [trP] (fun t=>some (zaz t.1∧U64 t.2.1.2.2.2∧U64 t.2.2.2)) (fun t=>zav t.1 t.2.1 t.2.2.1 t.2.2.2)):=by
 refine zab mixed Tryz.func45 (by kernel_rfl) (by kernel_rfl) yx7 (fun t h => ?_)
 obtain⟨m,⟨a,b,c,d⟩,k,va⟩:By × Ct × Int × Int:=t
 obtain⟨h1,h2,h3⟩:zaz m∧U64 d∧U64 va:=h
 have ha:=ymt (a,b,c,d) k
 simp only at ha
 refine zae (zu5 m a b c d k va) ?_
 rw[ha]
 refine⟨fun q => ?_,fun q=>⟨h2,fun q2 => ?_,fun q2 => ?_⟩⟩
 · have q:zlt (a,b,c,d) k=false:=by simpa using q
   simp[zav,q]
 · have q:zlt (a,b,c,d) k=true:=by simpa using q
   have q2:onM (a,b,c,d)=false:=by simpa using q2
   simp[zav,q,q2]
 · have q:zlt (a,b,c,d) k=true:=by simpa using q
   have q2:onM (a,b,c,d)=true:=by simpa using q2
   have e:zav m (a,b,c,d) k va=zai (zb7 m d va) (a,b,c,d) k va:=by simp[zav,q,q2]
   have hu:(zb7 m d va).1≠2→(zb7 m d va).1≠3→U64 (zb7 m d va).2.2.1:=by
    intro n2 n3
    unfold zb7 at n2 n3 ⊢
    split at n2
    · rename_i cv
      rw[if_pos cv] at n3 ⊢
      have hc:=zbw m va 3 (d % 17592186044416)
      exact (zbq h1 3 _ (by rcases hc with z|z|z;exact z;exact absurd z n3;exact absurd z n2)).1
    · exact absurd rfl n2
   rw[e]
   exact⟨⟨rfl,h1,h2,h3⟩,⟨rfl,hu,h3⟩,rfl,rfl,rfl⟩
theorem yzm:zar Tryz.prog kO2 := .cons (by kernel_rfl) yir yhb
end Go.Proofs.YtfiddfbagbaofaaGreat.V
