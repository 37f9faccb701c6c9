/- The program's PhysOf answers as the reference's for all arguments, over the printed functions. Conditions: those of the statement alone. -/
import Derived.Test.YtfiddfbagbaofaaPFnExactPhysOfx1
import Derived.Test.YtfiddfbagbaofaaNum
namespace Go.Proofs.Ytfiddfbagbaofaa.Pure
open Go.RowKit Go.Proofs.Ytfiddfbagbaofaa.PFnExactPhysOf Go.Proofs.YtfiddfbagbaofaaW.PrintWords Go.Proofs.YtfiddfbagbaofaaW.PrintLast Go.Proofs.Ytfiddfbagbaofaa.Num
theorem core (a0 a2 : Int) (i : Nat) (hi : i = 6 ∨ i = 9 ∨ i = 12) (b0 : 0 ≤ a0) (b1 : a0 ≤ 18446744073709551615) (d0 : 0 ≤ a2) (d1 : a2 ≤ 18446744073709551615) :
    bits .or .u64 (bits .andNot .u64 (IntKind.u64.wrap (bits .and .u64 (a0 / 1024) 17592186044415 * 64)) (2 ^ i - 1)) (bits .and .u64 a2 (2 ^ i - 1)) =
    IntKind.u64.wrap (IntKind.u64.wrap (IntKind.u64.wrap (Int.tdiv (IntKind.u64.wrap (Int.tmod (IntKind.u64.wrap (Int.tdiv a0 1024)) 17592186044416 * 64)) (2 ^ i)) * 2 ^ i) + Int.tmod a2 (2 ^ i)) := by
  have e1 : bits .and .u64 (a0 / 1024) 17592186044415 = a0 / 1024 % 17592186044416 := and_mask 44 (by decide) (by omega) (by omega)
  have e2 : IntKind.u64.wrap (Int.tdiv a0 1024) = a0 / 1024 := by rw [Int.tdiv_eq_ediv_of_nonneg b0]; exact wrap_u64_in (by omega) (by omega)
  have e3 : Int.tmod (a0 / 1024) 17592186044416 = a0 / 1024 % 17592186044416 := Int.tmod_eq_emod_of_nonneg (by omega)
  rw [e1, e2, e3]
  generalize hp : a0 / 1024 % 17592186044416 = p
  have p0 : 0 ≤ p := by omega
  have p1 : p < 17592186044416 := by omega
  have e4 : IntKind.u64.wrap (p * 64) = p * 64 := wrap_u64_in (by omega) (by omega)
  rw [e4, andNot_mask i (by omega) (by omega) (by omega), and_mask i (by omega) d0 (by omega)]
  have fin : ∀ (q : Int), (2 : Int) ^ i = q → 0 < q → q ≤ 4096 → (p * 64 - p * 64 % q) % q = 0 → p * 64 / q * q = p * 64 - p * 64 % q → p * 64 / q ≤ p * 64 → a2 % q < q → 0 ≤ a2 % q →
      bits .or .u64 (p * 64 - p * 64 % 2 ^ i) (a2 % 2 ^ i) = IntKind.u64.wrap (IntKind.u64.wrap (IntKind.u64.wrap (Int.tdiv (p * 64) (2 ^ i)) * 2 ^ i) + Int.tmod a2 (2 ^ i)) := by
    intro q hq q0 q1 z0 z1 z2 z3 z4
    have m0 : 0 ≤ p * 64 % q := Int.emod_nonneg _ (by omega)
    have m1 : p * 64 % q ≤ p * 64 := by rw [Int.emod_def]; have : 0 ≤ q * (p * 64 / q) := Int.mul_nonneg (by omega) (Int.ediv_nonneg (by omega) (by omega)); omega
    have m2 : 0 ≤ p * 64 / q := Int.ediv_nonneg (by omega) (by omega)
    rw [or_join i (by rw [hq]; omega) (by rw [hq]; exact z0) (by rw [hq]; omega) (by rw [hq]; omega) (by rw [hq]; exact z3) (by rw [hq]; omega)]
    rw [hq, Int.tdiv_eq_ediv_of_nonneg (by omega), Int.tmod_eq_emod_of_nonneg d0, wrap_u64_in (n := p * 64 / q) m2 (by omega), z1, wrap_u64_in (n := p * 64 - p * 64 % q) (by omega) (by omega), wrap_u64_in (by omega) (by omega)]
  rcases hi with rfl | rfl | rfl
  · exact fin 64 (by decide) (by decide) (by decide) (by omega) (by omega) (by omega) (by omega) (by omega)
  · exact fin 512 (by decide) (by decide) (by decide) (by omega) (by omega) (by omega) (by omega) (by omega)
  · exact fin 4096 (by decide) (by decide) (by decide) (by omega) (by omega) (by omega) (by omega) (by omega)
theorem arm (a0 a1 a2 : Int) (i : Nat) (hi : i = 6 ∨ i = 9 ∨ i = 12) (b0 : 0 ≤ a0) (b1 : a0 ≤ 18446744073709551615) (d0 : 0 ≤ a2) (d1 : a2 ≤ 18446744073709551615)
    (l0 : 0 ≤ a1) (l2 : a1 ≤ 2) (w : wrap64 (6 + wrap64 (3 * a1)) = (i : Int)) (p : spec_l2Pow.f 99 (i : Int) = some (2 ^ i)) (sh : IntKind.u64.wrap (shl .u64 1 (i : Int) - 1) = 2 ^ i - 1) :
    laws_FnExactPhysOf.f 100 a0 a1 a2 = some true := by
  have p10 : spec_l2Pow.f 99 10 = some 1024 := by decide +kernel
  have p44 : spec_l2Pow.f 99 (wrap64 (wrap64 (53 - 10) + 1)) = some 17592186044416 := by decide +kernel
  have n0 : ¬ ((2 : Int) ^ i = 0) := by rcases hi with rfl | rfl | rfl <;> decide
  have n1 : ¬ ((1024 : Int) = 0) := by decide
  have n2 : ¬ ((17592186044416 : Int) = 0) := by decide
  have t0 : ¬ a1 < 0 := by omega
  have t1 : ¬ a1 > 2 := by omega
  have t2 : (decide (a1 > 2)) = false := decide_eq_false t1
  have t3 : (decide (a1 ≤ 2)) = true := decide_eq_true l2
  have t4 : (0 : Int) ≤ (i : Int) := Int.natCast_nonneg _
  have t5 : a1 ≥ 0 := l0
  have c := core a0 a2 i hi b0 b1 d0 d1
  simp only [laws_FnExactPhysOf.f, spec_PhysOf.f, spec_PhysOf.j0, spec_l2Ppn.f, spec_l2Bits.f, impl_PhysOf.f, impl_goodLevel.f, impl_pte_physical.f, impl_pte_page.f, if_neg t0, t2, t3, if_pos t4, if_pos t5, w, p, p10, p44, sh,
    Option.bind_some, if_neg n0, if_neg n1, if_neg n2, Bool.false_eq_true, if_false, if_true, c]
theorem FnExactPhysOf : laws_FnExactPhysOf.Pure := by
  intro a0 a1 a2 h0 h1 h2
  obtain ⟨b0, b1⟩ := bounds_u64 h0
  obtain ⟨d0, d1⟩ := bounds_u64 h2
  clear h0 h1 h2
  refine ⟨100, ?_⟩
  by_cases t0 : a1 < 0
  · have t5 : ¬ a1 ≥ 0 := by omega
    simp only [laws_FnExactPhysOf.f, spec_PhysOf.f, spec_PhysOf.j0, impl_PhysOf.f, impl_goodLevel.f, if_pos t0, if_neg t5, if_true, Option.bind_some, Bool.false_eq_true, if_false]
  · by_cases t1 : a1 > 2
    · have t5 : a1 ≥ 0 := by omega
      have t2 : (decide (a1 > 2)) = true := decide_eq_true t1
      have t3 : (decide (a1 ≤ 2)) = false := decide_eq_false (by omega)
      simp only [laws_FnExactPhysOf.f, spec_PhysOf.f, spec_PhysOf.j0, impl_PhysOf.f, impl_goodLevel.f, if_neg t0, if_pos t5, t2, t3, if_true, Option.bind_some, Bool.false_eq_true, if_false]
    · rcases (by omega : a1 = 0 ∨ a1 = 1 ∨ a1 = 2) with rfl | rfl | rfl
      · exact arm a0 0 a2 6 (by decide) b0 b1 d0 d1 (by decide) (by decide) (by decide +kernel) (by decide +kernel) (by decide +kernel)
      · exact arm a0 1 a2 9 (by decide) b0 b1 d0 d1 (by decide) (by decide) (by decide +kernel) (by decide +kernel) (by decide +kernel)
      · exact arm a0 2 a2 12 (by decide) b0 b1 d0 d1 (by decide) (by decide) (by decide +kernel) (by decide +kernel) (by decide +kernel)
end Go.Proofs.Ytfiddfbagbaofaa.Pure
