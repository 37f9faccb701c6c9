/- Plain facts on the whole numbers of 64 bits as the walk spells them: masks, joins, shifts. No program in sight. Conditions: the numbers lie in the range of their kind. -/
import Derived.OpenShut
import Derived.Laws.BitsLemmas
import Derived.Laws.Bits64b
namespace Go.Proofs.Ytfiddfbagbaofaa.Num
open Go

theorem wrap_u64_in {n : Int} (h₀ : 0 ≤ n) (h₁ : n < 18446744073709551616) : IntKind.u64.wrap n = n := by rw [IntKind.wrap_u64]; omega
theorem wraps64 (n : Int) (h₀ : 0 ≤ n) (h₁ : n < 2 ^ 64) : IntKind.u64.wrap n = n := wrap_u64_in h₀ (by omega)
theorem and_mask {x : Int} (i : Nat) (hi : i ≤ 64) (h₀ : 0 ≤ x) (h₁ : x < 18446744073709551616) : bits .and .u64 x (2 ^ i - 1) = x % 2 ^ i :=
  bits_mask .u64 64 (by decide) wraps64 i hi x h₀ (by omega)

theorem nat_clear (x i : Nat) (_hi : i ≤ 64) (hx : x < 2 ^ 64) :
    (BitVec.ofNat 64 x &&& ~~~ (BitVec.ofNat 64 (2 ^ i - 1))).toNat = x - x % 2 ^ i := by
  have e : x - x % 2 ^ i = (x >>> i) <<< i := by
    rw [Nat.shiftLeft_eq, Nat.shiftRight_eq_div_pow]
    have := Nat.div_add_mod x (2 ^ i)
    rw [Nat.mul_comm] at this
    omega
  rw [e]
  have hlt : (x >>> i) <<< i < 2 ^ 64 := by rw [← e]; omega
  have : BitVec.ofNat 64 x &&& ~~~ (BitVec.ofNat 64 (2 ^ i - 1)) = BitVec.ofNat 64 ((x >>> i) <<< i) := by
    apply BitVec.eq_of_getLsbD_eq
    intro j hj
    simp only [BitVec.getLsbD_and, BitVec.getLsbD_not, BitVec.getLsbD_ofNat, hj, decide_true, Bool.true_and, Nat.testBit_two_pow_sub_one, Nat.testBit_shiftLeft, Nat.testBit_shiftRight]
    by_cases h : j < i
    · simp [h, Nat.not_le.2 h]
    · have h' : i ≤ j := Nat.le_of_not_lt h
      simp [h, h', Nat.add_sub_cancel' h']
  rw [this, BitVec.toNat_ofNat]
  exact Nat.mod_eq_of_lt hlt

theorem andNot_mask {x : Int} (i : Nat) (hi : i ≤ 64) (h₀ : 0 ≤ x) (h₁ : x < 18446744073709551616) : bits .andNot .u64 x (2 ^ i - 1) = x - x % 2 ^ i := by
  obtain ⟨a, rfl⟩ := Int.eq_ofNat_of_zero_le h₀
  have ha : a < 2 ^ 64 := by omega
  have hpos : 0 < 2 ^ i := Nat.two_pow_pos i
  have hc : ((2 : Int) ^ i - 1) = ((2 ^ i - 1 : Nat) : Int) := by rw [Int.natCast_sub hpos]; simp
  rw [hc]
  show IntKind.u64.wrap ((BitVec.ofInt 64 (a : Int) &&& ~~~ (BitVec.ofInt 64 ((2 ^ i - 1 : Nat) : Int))).toNat : Int) = _
  rw [BitVec.ofInt_natCast, BitVec.ofInt_natCast, nat_clear a i hi ha]
  have hm : a % 2 ^ i ≤ a := Nat.mod_le _ _
  rw [wrap_u64_in (Int.natCast_nonneg _) (by omega), Int.natCast_sub hm]
  simp

theorem or_join {x y : Int} (i : Nat) (hx₀ : 0 ≤ x) (hx : x % 2 ^ i = 0) (hx₁ : x < 18446744073709551616) (hy₀ : 0 ≤ y) (hy : y < 2 ^ i) (hy₁ : y < 18446744073709551616) :
    bits .or .u64 x y = x + y :=
  bits_join .u64 64 (by decide) wraps64 i x y hx₀ hx (by omega) hy₀ hy (by omega)

end Go.Proofs.Ytfiddfbagbaofaa.Num
