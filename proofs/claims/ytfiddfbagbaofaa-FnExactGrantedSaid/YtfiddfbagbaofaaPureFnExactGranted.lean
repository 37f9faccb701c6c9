/- The program's Granted answers as the reference's for all arguments, over the printed functions. Conditions: those of the statement alone. -/
import Derived.Test.YtfiddfbagbaofaaPFnExactGrantedx2
import Derived.Test.YtfiddfbagbaofaaNum
namespace Go.Proofs.Ytfiddfbagbaofaa.Pure
open Go.RowKit Go.Proofs.Ytfiddfbagbaofaa.PFnExactGranted Go.Proofs.YtfiddfbagbaofaaW.PrintWords Go.Proofs.YtfiddfbagbaofaaW.PrintLast Go.Proofs.Ytfiddfbagbaofaa.Num
theorem pow_at : ∀ i : Fin 8, spec_l2Pow.f 100 ((i.val : Nat) : Int) = some (2 ^ i.val) := by decide +kernel
theorem bit_spec (a0 : Int) (b0 : 0 ≤ a0) (b1 : a0 ≤ 18446744073709551615) (i : Nat) (hi : i ≤ 7) :
    spec_l2Bit.f 100 a0 (i : Int) = some (a0 / 2 ^ i % 2 == 1) := by
  have p : spec_l2Pow.f 100 (i : Int) = some (2 ^ i) := pow_at ⟨i, by omega⟩
  have w : wrap64 (wrap64 ((i : Int) - (i : Int)) + 1) = 1 := by rw [Int.sub_self]; decide +kernel
  have p1 : spec_l2Pow.f 100 1 = some 2 := by decide +kernel
  have n0 : ¬ ((2 : Int) ^ i = 0) := by
    rcases (by omega : i = 0 ∨ i = 1 ∨ i = 2 ∨ i = 3 ∨ i = 4 ∨ i = 5 ∨ i = 6 ∨ i = 7) with rfl | rfl | rfl | rfl | rfl | rfl | rfl | rfl <;> decide
  have n1 : ¬ ((2 : Int) = 0) := by decide
  have q0 : 0 ≤ a0 / 2 ^ i := Int.ediv_nonneg b0 (Int.pow_nonneg (by decide))
  have q1 : a0 / 2 ^ i ≤ a0 := Int.ediv_le_self _ b0
  simp only [spec_l2Bit.f, spec_l2Bits.f, p, p1, w, Option.bind_some, if_neg n0, if_neg n1]
  rw [Int.tdiv_eq_ediv_of_nonneg b0, wrap_u64_in q0 (by omega), Int.tmod_eq_emod_of_nonneg q0]
theorem bit_impl (a0 : Int) (b0 : 0 ≤ a0) (b1 : a0 ≤ 18446744073709551615) (i : Nat) (hi : i ≤ 7) : impl_pte_bit.f a0 (i : Int) = some (a0 / 2 ^ i % 2 == 1) := by
  have t : (0 : Int) ≤ (i : Int) := Int.natCast_nonneg _
  have s : shr .u64 a0 (i : Int) = a0 / 2 ^ i := by
    rcases (by omega : i = 0 ∨ i = 1 ∨ i = 2 ∨ i = 3 ∨ i = 4 ∨ i = 5 ∨ i = 6 ∨ i = 7) with rfl | rfl | rfl | rfl | rfl | rfl | rfl | rfl <;> rfl
  have q0 : 0 ≤ a0 / 2 ^ i := Int.ediv_nonneg b0 (Int.pow_nonneg (by decide))
  have q1 : a0 / 2 ^ i ≤ a0 := Int.ediv_le_self _ b0
  have e : bits .and .u64 (a0 / 2 ^ i) 1 = a0 / 2 ^ i % 2 := and_mask 1 (by decide) q0 (by omega)
  simp only [impl_pte_bit.f, if_pos t, s, e]
set_option maxHeartbeats 4000000 in
theorem FnExactGranted : laws_FnExactGranted.Pure := by
  intro a0 a1 a2 a3 a4 h0 h1 h2
  obtain ⟨b0, b1⟩ := bounds_u64 h0
  clear h0 h1 h2
  refine ⟨100, ?_⟩
  have s1 := bit_spec a0 b0 b1 1 (by decide)
  have s2 := bit_spec a0 b0 b1 2 (by decide)
  have s3 := bit_spec a0 b0 b1 3 (by decide)
  have s4 := bit_spec a0 b0 b1 4 (by decide)
  have s6 := bit_spec a0 b0 b1 6 (by decide)
  have s7 := bit_spec a0 b0 b1 7 (by decide)
  have i1 := bit_impl a0 b0 b1 1 (by decide)
  have i2 := bit_impl a0 b0 b1 2 (by decide)
  have i3 := bit_impl a0 b0 b1 3 (by decide)
  have i4 := bit_impl a0 b0 b1 4 (by decide)
  have i6 := bit_impl a0 b0 b1 6 (by decide)
  have i7 := bit_impl a0 b0 b1 7 (by decide)
  generalize (a0 / 2 ^ 1 % 2 == 1) = r at s1 i1
  generalize (a0 / 2 ^ 2 % 2 == 1) = w at s2 i2
  generalize (a0 / 2 ^ 3 % 2 == 1) = x at s3 i3
  generalize (a0 / 2 ^ 4 % 2 == 1) = u at s4 i4
  generalize (a0 / 2 ^ 6 % 2 == 1) = a at s6 i6
  generalize (a0 / 2 ^ 7 % 2 == 1) = d at s7 i7
  simp only [Int.cast_ofNat_Int] at s1 s2 s3 s4 s6 s7 i1 i2 i3 i4 i6 i7
  simp only [laws_FnExactGranted.f, spec_Granted.f, impl_Granted.f, s1, s2, s3, s4, s6, s7, Option.bind_some]
  by_cases k0 : a1 = 0
  · subst k0
    by_cases m0 : a2 = 0
    · subst m0
      cases r <;> cases w <;> cases x <;> cases u <;> cases a <;> cases d <;> cases a3 <;> cases a4 <;> simp [spec_Granted.j0, spec_Granted.j1, spec_Granted.j2, impl_pte_grants.f, impl_pte_grants.j0, i3, i4, i6]
    · by_cases m1 : a2 = 1
      · subst m1
        cases r <;> cases w <;> cases x <;> cases u <;> cases a <;> cases d <;> cases a3 <;> cases a4 <;> simp [spec_Granted.j0, spec_Granted.j1, spec_Granted.j2, impl_pte_grants.f, impl_pte_grants.j0, i3, i4, i6]
      · simp [spec_Granted.j0, spec_Granted.j1, spec_Granted.j2, impl_pte_grants.f, impl_pte_grants.j0, i3, m0, m1]
  · by_cases k1 : a1 = 1
    · subst k1
      by_cases m0 : a2 = 0
      · subst m0
        cases r <;> cases w <;> cases x <;> cases u <;> cases a <;> cases d <;> cases a3 <;> cases a4 <;> simp [spec_Granted.j0, spec_Granted.j1, spec_Granted.j2, impl_pte_grants.f, impl_pte_grants.j0, i1, i3, i4, i6]
      · by_cases m1 : a2 = 1
        · subst m1
          cases r <;> cases w <;> cases x <;> cases u <;> cases a <;> cases d <;> cases a3 <;> cases a4 <;> simp [spec_Granted.j0, spec_Granted.j1, spec_Granted.j2, impl_pte_grants.f, impl_pte_grants.j0, i1, i3, i4, i6]
        · cases r <;> cases x <;> cases a4 <;> simp [spec_Granted.j0, spec_Granted.j1, spec_Granted.j2, impl_pte_grants.f, impl_pte_grants.j0, i1, i3, m0, m1]
    · by_cases k2 : a1 = 2
      · subst k2
        by_cases m0 : a2 = 0
        · subst m0
          cases r <;> cases w <;> cases x <;> cases u <;> cases a <;> cases d <;> cases a3 <;> cases a4 <;> simp [spec_Granted.j0, spec_Granted.j1, spec_Granted.j2, impl_pte_grants.f, impl_pte_grants.j0, i2, i4, i6, i7]
        · by_cases m1 : a2 = 1
          · subst m1
            cases r <;> cases w <;> cases x <;> cases u <;> cases a <;> cases d <;> cases a3 <;> cases a4 <;> simp [spec_Granted.j0, spec_Granted.j1, spec_Granted.j2, impl_pte_grants.f, impl_pte_grants.j0, i2, i4, i6, i7]
          · cases w <;> cases d <;> simp [spec_Granted.j0, spec_Granted.j1, spec_Granted.j2, impl_pte_grants.f, impl_pte_grants.j0, i2, i7, m0, m1]
      · by_cases m0 : a2 = 0
        · subst m0
          simp [spec_Granted.j0, spec_Granted.j1, spec_Granted.j2, impl_pte_grants.f, impl_pte_grants.j0, k0, k1, k2]
        · by_cases m1 : a2 = 1
          · subst m1
            cases u <;> simp [spec_Granted.j0, spec_Granted.j1, spec_Granted.j2, impl_pte_grants.f, impl_pte_grants.j0, k0, k1, k2]
          · simp [spec_Granted.j0, spec_Granted.j1, spec_Granted.j2, impl_pte_grants.f, impl_pte_grants.j0, k0, k1, k2, m0, m1]
end Go.Proofs.Ytfiddfbagbaofaa.Pure
