/- The program's PteKind answers as the reference's for all arguments, over the printed functions. Conditions: those of the statement alone. -/
import Derived.Test.YtfiddfbagbaofaaPFnExactPteKindx2
import Derived.Test.YtfiddfbagbaofaaNum
namespace Go.Proofs.Ytfiddfbagbaofaa.Pure
open Go.RowKit Go.Proofs.Ytfiddfbagbaofaa.PFnExactPteKind Go.Proofs.YtfiddfbagbaofaaW.PrintWords Go.Proofs.YtfiddfbagbaofaaW.PrintLast Go.Proofs.Ytfiddfbagbaofaa.Num
theorem pow_at : ∀ i : Fin 8, spec_l2Pow.f 100 ((i.val : Nat) : Int) = some (2 ^ i.val) := by decide +kernel
theorem bit_spec (a0 : Int) (b0 : 0 ≤ a0) (b1 : a0 ≤ 18446744073709551615) (i : Nat) (hi : i ≤ 7) :
    spec_l2Bit.f 100 a0 (i : Int) = some (a0 / 2 ^ i % 2 == 1) := by
  have p : spec_l2Pow.f 100 (i : Int) = some (2 ^ i) := pow_at ⟨i, by omega⟩
  have w : wrap64 (wrap64 ((i : Int) - (i : Int)) + 1) = 1 := by rw [Int.sub_self]; decide +kernel
  have p1 : spec_l2Pow.f 100 1 = some 2 := by decide +kernel
  have n0 : ¬ ((2 : Int) ^ i = 0) := by
    rcases (by omega : i = 0 ∨ i = 1 ∨ i = 2 ∨ i = 3 ∨ i = 4 ∨ i = 5 ∨ i = 6 ∨ i = 7) with rfl | rfl | rfl | rfl | rfl | rfl | rfl | rfl <;> decide
  have n1 : ¬ ((2 : Int) = 0) := by decide
  have q0 : 0 ≤ a0 / 2 ^ i := Int.ediv_nonneg b0 (Int.pow_nonneg (by decide))
  have q1 : a0 / 2 ^ i ≤ a0 := Int.ediv_le_self _ b0
  simp only [spec_l2Bit.f, spec_l2Bits.f, p, p1, w, Option.bind_some, if_neg n0, if_neg n1]
  rw [Int.tdiv_eq_ediv_of_nonneg b0, wrap_u64_in q0 (by omega), Int.tmod_eq_emod_of_nonneg q0]
theorem bit_impl (a0 : Int) (b0 : 0 ≤ a0) (b1 : a0 ≤ 18446744073709551615) (i : Nat) (hi : i ≤ 7) : impl_pte_bit.f a0 (i : Int) = some (a0 / 2 ^ i % 2 == 1) := by
  have t : (0 : Int) ≤ (i : Int) := Int.natCast_nonneg _
  have s : shr .u64 a0 (i : Int) = a0 / 2 ^ i := by
    rcases (by omega : i = 0 ∨ i = 1 ∨ i = 2 ∨ i = 3 ∨ i = 4 ∨ i = 5 ∨ i = 6 ∨ i = 7) with rfl | rfl | rfl | rfl | rfl | rfl | rfl | rfl <;> rfl
  have q0 : 0 ≤ a0 / 2 ^ i := Int.ediv_nonneg b0 (Int.pow_nonneg (by decide))
  have q1 : a0 / 2 ^ i ≤ a0 := Int.ediv_le_self _ b0
  have e : bits .and .u64 (a0 / 2 ^ i) 1 = a0 / 2 ^ i % 2 := and_mask 1 (by decide) q0 (by omega)
  simp only [impl_pte_bit.f, if_pos t, s, e]
theorem ppn_spec (a0 : Int) (b0 : 0 ≤ a0) (b1 : a0 ≤ 18446744073709551615) : spec_l2Ppn.f 98 a0 = some (a0 / 1024 % 17592186044416) := by
  have p : spec_l2Pow.f 98 10 = some 1024 := by decide +kernel
  have p1 : spec_l2Pow.f 98 (wrap64 (wrap64 (53 - 10) + 1)) = some 17592186044416 := by decide +kernel
  have n0 : ¬ ((1024 : Int) = 0) := by decide
  have n1 : ¬ ((17592186044416 : Int) = 0) := by decide
  simp only [spec_l2Ppn.f, spec_l2Bits.f, p, p1, Option.bind_some, if_neg n0, if_neg n1]
  rw [Int.tdiv_eq_ediv_of_nonneg b0, wrap_u64_in (by omega) (by omega), Int.tmod_eq_emod_of_nonneg (by omega)]
theorem hi_spec (a0 : Int) (b0 : 0 ≤ a0) (b1 : a0 ≤ 18446744073709551615) : spec_l2Bits.f 100 a0 54 63 = some (a0 / 18014398509481984) := by
  have p : spec_l2Pow.f 100 54 = some 18014398509481984 := by decide +kernel
  have p1 : spec_l2Pow.f 100 (wrap64 (wrap64 (63 - 54) + 1)) = some 1024 := by decide +kernel
  have n0 : ¬ ((18014398509481984 : Int) = 0) := by decide
  have n1 : ¬ ((1024 : Int) = 0) := by decide
  simp only [spec_l2Bits.f, p, p1, Option.bind_some, if_neg n0, if_neg n1]
  rw [Int.tdiv_eq_ediv_of_nonneg b0, wrap_u64_in (by omega) (by omega), Int.tmod_eq_emod_of_nonneg (by omega)]
  congr 1
  omega
theorem ppn_impl (a0 : Int) (b0 : 0 ≤ a0) (b1 : a0 ≤ 18446744073709551615) : impl_pte_page.f a0 = some (a0 / 1024 % 17592186044416) := by
  have e : bits .and .u64 (a0 / 1024) 17592186044415 = a0 / 1024 % 17592186044416 := and_mask 44 (by decide) (by omega) (by omega)
  rw [impl_pte_page.f, e]
/-- What is left behind the flags: the pointer's other bits, the leaf's low bits. -/
theorem tail_eq (a0 a1 : Int) (b0 : 0 ≤ a0) (b1 : a0 ≤ 18446744073709551615) (l0 : 0 ≤ a1) (l2 : a1 ≤ 2) (u a d : Bool)
    (i4 : impl_pte_bit.f a0 4 = some u) (i6 : impl_pte_bit.f a0 6 = some a) (i7 : impl_pte_bit.f a0 7 = some d) (c : Bool) :
    ∃ z, impl_pte_kind.j1 99 a0 a1 c = some z ∧ spec_PteKind.j1 99 a0 a1 u a d c = some z := by
  cases c
  · simp only [impl_pte_kind.j1, spec_PteKind.j1, Bool.false_eq_true, if_false, ppn_spec a0 b0 b1, ppn_impl a0 b0 b1, Option.bind_some]
    have p0 : 0 ≤ a0 / 1024 % 17592186044416 := by omega
    have p1 : a0 / 1024 % 17592186044416 < 17592186044416 := by omega
    generalize a0 / 1024 % 17592186044416 = p at p0 p1
    have arm : ∀ (i : Nat) (q : Int), i ≤ 6 → (2 : Int) ^ i = q → 0 < q → wrap64 (3 * a1) = (i : Int) → spec_l2Pow.f 98 (i : Int) = some q → IntKind.u64.wrap (shl .u64 1 (i : Int) - 1) = 2 ^ i - 1 →
        ∃ z, (if 0 ≤ wrap64 (3 * a1) then (if bits .and .u64 p (IntKind.u64.wrap (shl .u64 1 (wrap64 (3 * a1)) - 1)) = 0 then some (2 : Int) else some 0) else none) = some z ∧
        ((spec_l2Pow.f 98 (wrap64 (3 * a1))).bind fun t115 => if t115 = 0 then none else if Int.tmod p t115 > 0 then some 0 else some 2) = some z := by
      intro i q hi hq q0 hw hp hs
      have t4 : (0 : Int) ≤ (i : Int) := Int.natCast_nonneg _
      rw [hw, hp, hs, if_pos t4, and_mask i (by omega) p0 (by omega), hq, Option.bind_some, if_neg (show ¬ q = 0 by omega), Int.tmod_eq_emod_of_nonneg p0]
      have m0 : 0 ≤ p % q := Int.emod_nonneg _ (by omega)
      by_cases z : p % q = 0
      · exact ⟨2, by rw [if_pos z], by rw [if_neg (by omega)]⟩
      · exact ⟨0, by rw [if_neg z], by rw [if_pos (by omega)]⟩
    rcases (by omega : a1 = 0 ∨ a1 = 1 ∨ a1 = 2) with rfl | rfl | rfl
    · exact arm 0 1 (by decide) (by decide) (by decide) (by decide +kernel) (by decide +kernel) (by decide +kernel)
    · exact arm 3 8 (by decide) (by decide) (by decide) (by decide +kernel) (by decide +kernel) (by decide +kernel)
    · exact arm 6 64 (by decide) (by decide) (by decide) (by decide +kernel) (by decide +kernel) (by decide +kernel)
  · by_cases z : a1 = 0
    · exact ⟨0, by simp [impl_pte_kind.j1, z], by simp [spec_PteKind.j1, z]⟩
    · cases u <;> cases a <;> cases d <;> simp [impl_pte_kind.j1, spec_PteKind.j1, z, i4, i6, i7]
theorem FnExactPteKind : laws_FnExactPteKind.Pure := by
  intro a0 a1 h0 h1
  obtain ⟨b0, b1⟩ := bounds_u64 h0
  clear h0 h1
  refine ⟨100, ?_⟩
  have s0 := bit_spec a0 b0 b1 0 (by decide)
  have s1 := bit_spec a0 b0 b1 1 (by decide)
  have s2 := bit_spec a0 b0 b1 2 (by decide)
  have s3 := bit_spec a0 b0 b1 3 (by decide)
  have s4 := bit_spec a0 b0 b1 4 (by decide)
  have s6 := bit_spec a0 b0 b1 6 (by decide)
  have s7 := bit_spec a0 b0 b1 7 (by decide)
  have i0 := bit_impl a0 b0 b1 0 (by decide)
  have i1 := bit_impl a0 b0 b1 1 (by decide)
  have i2 := bit_impl a0 b0 b1 2 (by decide)
  have i3 := bit_impl a0 b0 b1 3 (by decide)
  have i4 := bit_impl a0 b0 b1 4 (by decide)
  have i6 := bit_impl a0 b0 b1 6 (by decide)
  have i7 := bit_impl a0 b0 b1 7 (by decide)
  generalize (a0 / 2 ^ 0 % 2 == 1) = v at s0 i0
  generalize (a0 / 2 ^ 1 % 2 == 1) = r at s1 i1
  generalize (a0 / 2 ^ 2 % 2 == 1) = w at s2 i2
  generalize (a0 / 2 ^ 3 % 2 == 1) = x at s3 i3
  generalize (a0 / 2 ^ 4 % 2 == 1) = u at s4 i4
  generalize (a0 / 2 ^ 6 % 2 == 1) = a at s6 i6
  generalize (a0 / 2 ^ 7 % 2 == 1) = d at s7 i7
  simp only [Int.cast_ofNat_Int] at s0 s1 s2 s3 s4 s6 s7 i0 i1 i2 i3 i4 i6 i7
  have hs := hi_spec a0 b0 b1
  have q0 : 0 ≤ a0 / 18014398509481984 := by omega
  simp only [laws_FnExactPteKind.f, spec_PteKind.f, impl_PteKind.f, impl_pte_kind.f, impl_goodLevel.f, s0, s1, s2, s3, s4, s6, s7, i0, i2, i1, Option.bind_some, hs]
  by_cases l0 : a1 < 0
  · have t5 : ¬ a1 ≥ 0 := by omega
    simp [l0, t5, spec_PteKind.j0, impl_pte_kind.j0]
  · by_cases l2 : a1 > 2
    · have t5 : a1 ≥ 0 := by omega
      have t6 : ¬ a1 ≤ 2 := by omega
      simp [l0, l2, t5, t6, spec_PteKind.j0, impl_pte_kind.j0]
    · have t5 : a1 ≥ 0 := by omega
      have t6 : a1 ≤ 2 := by omega
      have te := tail_eq a0 a1 b0 b1 t5 t6 u a d i4 i6 i7
      obtain ⟨y, y1, y2⟩ := te true
      obtain ⟨n, n1, n2⟩ := te false
      by_cases hz : a0 / 18014398509481984 = 0
      · cases v <;> cases r <;> cases w <;> cases x <;> simp [l0, l2, t5, t6, hz, spec_PteKind.j0, impl_pte_kind.j0, i1, i3, y1, y2, n1, n2]
      · have hp : 0 < a0 / 18014398509481984 := by omega
        cases v <;> simp [l0, l2, t5, t6, hz, hp, spec_PteKind.j0, impl_pte_kind.j0]
end Go.Proofs.Ytfiddfbagbaofaa.Pure
