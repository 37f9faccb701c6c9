/- StepHart's law. Conditions: those in each statement. -/
import Derived.Test.YtfiddfbagbaofaaGreatIG
import Derived.Test.YtfiddfbagbaofaaGreatDC
import Derived.KernelRfl
namespace Go.Proofs.YtfiddfbagbaofaaGreat.V
open Go
-- flat
set_option linter.unusedVariables false
set_option maxRecDepth 10000
set_option linter.unusedSimpArgs false
set_option linter.unusedVariables false
theorem yyt{h:Ha}(hr:HaR h):SzH h:=⟨hr.1.1,hr.2.1,hr.2.2.2.2.2.2.2.2.2.2.2.1.2.2.1,hr.2.2.2.2.2.2.2.2.2.2.2.2.1.2.2.1,hr.2.2.2.2.2.2.2.2.2.2.2.2.2.2.2.1⟩
theorem yiu{M:Tm}{pl:Bool}{pk:Int}(T:Tel M pl pk){r:Rn}(h:Run pl pk r):zil M (r.hp r.pc) r.c:=by
 obtain⟨⟨a1,a2,a3,a4,a5,a6,a7,a8,a9,a10,a11,a12⟩,hl, -⟩:=h.R
 exact⟨⟨a1,hl,a3,a4,h.V.2.1,a6,a7,a8,h.V.2.2.1,a10,a11⟩,a6,h.V.2.1.1,h.V.2.1.2,0,T.inv 3 h.R h.V h.pl h.pk⟩
theorem zz6(h:Ha)(pk:Int):((Rn.ofH h).first false pk).hp ((Rn.ofH h).first false pk).pc={ ((Rn.ofH h).hp (Rn.ofH h).pc) with k:=evK (toC (Rn.ofH h).k) pk }∧((Rn.ofH h).first false pk).c=(Rn.ofH h).c:=by
 unfold evK Rn.first
 by_cases q:pk≥128
 · rw[if_pos q,if_pos (by simp[q])];exact⟨rfl,rfl⟩
 · rw[if_neg q,if_neg (by simp[q])];exact⟨rfl,rfl⟩
theorem zz7(h:Ha)(pk:Int):((Rn.ofH h).first true pk).hp ((Rn.ofH h).first true pk).pc=(Rn.ofH h).hp (Rn.ofH h).pc∧((Rn.ofH h).first true pk).c=(Rn.ofH h).c:=by
 unfold Rn.first
 rw[if_neg (by simp)]
 exact⟨rfl,rfl⟩
end Go.Proofs.YtfiddfbagbaofaaGreat.V
