/- The program's walk answers as the model. Conditions: those in each statement. -/
import Derived.Test.YtfiddfbagbaofaaGreatGK
import Derived.KernelRfl
namespace Go.Proofs.YtfiddfbagbaofaaGreat.V
open Go
set_option linter.unusedVariables false
set_option linter.unusedSimpArgs false
theorem zdh (m : By) (va : Int) : ∀ (n : Nat) (p : Int), (zbp m va n p).1 = 1 ∨ (zbp m va n p).1 = 3 ∨ (zbp m va n p).1 = 2
 | 0, _ => .inr (.inr rfl)
 | n + 1, p => by
  unfold zbp
  split
  · exact .inr (.inl rfl)
  · split
    · exact .inr (.inr rfl)
    · split
      · exact .inl rfl
      · exact zdh m va n _
end Go.Proofs.YtfiddfbagbaofaaGreat.V
