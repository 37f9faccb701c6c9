/- Reading and writing a memory answer as their models; the law on writing returns true. Conditions: those in each statement. -/
import Derived.Test.YtfiddfbagbaofaaGB
import Derived.KernelRfl
namespace Go.Proofs.Ytfiddfbagbaofaa.V
open Go


end Go.Proofs.Ytfiddfbagbaofaa.V
namespace Go.Proofs.Ytfiddfbagbaofaa.V
open Go
set_option linter.unusedVariables false
end Go.Proofs.Ytfiddfbagbaofaa.V
namespace Go.Proofs.Ytfiddfbagbaofaa.V
open Go
set_option linter.unusedSimpArgs false

theorem wf_u8 {n : Int} (h : (Lit.int .u8 n).wf = true) : 0 ≤ n ∧ n < 256 := by
  simp only [Lit.wf, Bool.and_eq_true, decide_eq_true_eq] at h
  have h1 : (0 : Int) ≤ n := h.1
  have h2 : n ≤ 255 := h.2
  exact ⟨h1, by omega⟩
theorem wf_bytes {m : By} (h : WfC (.sl [.i .u8]) m) : ∀ b ∈ m, 0 ≤ b ∧ b < 256 := fun b hb => wf_u8 (h.2 b hb)
end Go.Proofs.Ytfiddfbagbaofaa.V
