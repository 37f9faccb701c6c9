/- Drawn addresses and drawn changes of a memory (seat G). Conditions: those in each statement. -/
import Derived.Test.YtfiddfbagbaofaaGreatEQ
import Derived.KernelRfl
namespace Go.Proofs.YtfiddfbagbaofaaGreat.V
open Go
set_option linter.unusedVariables false
set_option maxRecDepth 10000
set_option linter.unusedSimpArgs false
set_option linter.unusedVariables false
set_option maxRecDepth 10000
theorem zfl {P : Program} {f : FuncId} {r : RelS} {l : List (FuncId × RelS)} (hc : callable P f = true) (hs : zch P f r) (h : zb6 P (Rels.of l)) : zb6 P (Rels.of ((f, r) :: l)) := by
 intro g r' hg
 unfold Rels.of at hg
 simp only [List.lookup_cons] at hg
 split at hg
 · rename_i e
   have e' : g = f := by simpa using e
   simp only [Option.some.injEq] at hg
   subst e' hg
   exact ⟨hc, hs⟩
 · exact h g r' hg
end Go.Proofs.YtfiddfbagbaofaaGreat.V
