/- The program's Canonical answers as the reference's for all arguments, over the printed functions. Conditions: those of the statement alone. -/
import Derived.Test.YtfiddfbagbaofaaPFnExactCanonicalx1
import Derived.Test.YtfiddfbagbaofaaNum
namespace Go.Proofs.Ytfiddfbagbaofaa.Pure
open Go.RowKit Go.Proofs.Ytfiddfbagbaofaa.PFnExactCanonical Go.Proofs.YtfiddfbagbaofaaW.PrintWords Go.Proofs.YtfiddfbagbaofaaW.PrintLast Go.Proofs.Ytfiddfbagbaofaa.Num
theorem FnExactCanonical : laws_FnExactCanonical.Pure := by
  intro a0 h0
  obtain ⟨b0, b1⟩ := bounds_u64 h0
  refine ⟨100, ?_⟩
  have p14 : spec_l2Pow.f 100 14 = some 16384 := by decide +kernel
  have p50 : spec_l2Pow.f 100 (wrap64 (wrap64 (63 - 14) + 1)) = some 1125899906842624 := by decide +kernel
  have p50' : spec_l2Pow.f 100 50 = some 1125899906842624 := by decide +kernel
  have e : IntKind.u64.wrap (Int.tdiv a0 16384) = a0 / 16384 := by rw [Int.tdiv_eq_ediv_of_nonneg b0]; exact wrap_u64_in (by omega) (by omega)
  have e2 : Int.tmod (a0 / 16384) 1125899906842624 = a0 / 16384 := by rw [Int.tmod_eq_emod_of_nonneg (by omega)]; omega
  have m : IntKind.u64.wrap (1125899906842624 - 1) = 1125899906842623 := by decide +kernel
  have n1 : ¬ ((16384 : Int) = 0) := by decide
  have n2 : ¬ ((1125899906842624 : Int) = 0) := by decide
  simp only [laws_FnExactCanonical.f, spec_Canonical.f, spec_l2Bits.f, impl_Canonical.f, p14, p50, p50', Option.bind_some, if_neg n1, if_neg n2, e, e2, m]
  by_cases c : a0 / 16384 = 0
  · simp [c]
  · simp [c]
end Go.Proofs.Ytfiddfbagbaofaa.Pure
