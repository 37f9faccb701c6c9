/- Runs' law. Conditions: those in each statement. -/
import Derived.Test.YtfiddfbagbaofaaGreatJA
import Derived.KernelRfl
namespace Go.Proofs.YtfiddfbagbaofaaGreat.V
open Go
set_option linter.unusedVariables false
-- flat
abbrev yea:Pm := .one (.sl shV)
def yp9(t:Re):Prop:=SzR t.1.length∧SzR t.2.1.length∧SzR t.2.2.1.length
set_option linter.unusedVariables false
set_option maxRecDepth 10000
set_option linter.unusedSimpArgs false
set_option linter.unusedVariables false
theorem zpe(pl:Bool):∀(ps:List Int)(h:Ha),(evR pl h ps).length=ps.length
 | [],_=>rfl
 | p::ps,h=>congrArg (· + 1) (zpe pl ps _)
theorem ygg(pl:Bool):∀(ps:List Int)(h:Ha),HaV h→(∀p ∈ ps,0≤p∧p≤255)→HaV (goR pl h ps)
 | [],h,v,_=>v
 | p::ps,h,v,hp=>ygg pl ps _ (v.next (hp p List.mem_cons_self).1 (hp p List.mem_cons_self).2 pl) (fun x hx=>hp x (List.mem_cons_of_mem _ hx))
theorem yu3{b:By}(hb:zaj b)(pl:Bool):yp9 (yco b pl):=by
 obtain⟨v,hp,hl⟩:=yft hb
 have hz:=yyt (ygg pl _ _ v hp).1
 refine⟨?_,hz.1,hz.2.1⟩
 show SzR (evR pl (yrq (zhx b)) (ya3 (zhx b))).length
 rw[zpe]
 unfold SzR
 omega
end Go.Proofs.YtfiddfbagbaofaaGreat.V
