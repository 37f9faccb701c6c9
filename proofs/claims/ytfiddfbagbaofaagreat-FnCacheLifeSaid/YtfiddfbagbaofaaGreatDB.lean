/- The program's reading of a script answers as its model. Conditions: those in each statement. -/
import Derived.Test.YtfiddfbagbaofaaGreatDA
import Derived.KernelRfl
namespace Go.Proofs.YtfiddfbagbaofaaGreat.V
open Go
def dPc (b : By) : Int := zdt (zbl b 7 8)
def zb2 (b : By) : Int := if atB b 4 % 4 = 3 then 1 else atB b 4 % 4
def zme (b : By) : Bool := atB b 4 / 4 % 2 == 1
def zmd (b : By) : Bool := atB b 4 / 8 % 2 == 1
def zdb (b : By) : Int := if zeh (zdt (zbl b 23 8)) = true then zdt (zbl b 23 8) else 0
def zdd (b : By) : Int := zdt (zbl b 15 8) / 4 * 4
def zbc (b : By) : Nat := (64 * (1 + atB b 3 % 64)).toNat
def dN (b : By) : Int := min (zdt (zbl b 5 2)) 20000
def zd2 (b : By) (i : Nat) : Us := (List.range 8).map fun j => if 1 ≤ j ∧ j < i then zdt (zbl b (23 + 8 * j) 8) else 0
def wrS (b : By) (p a : Nat) : Nat → By → By
 | 0, m => m
 | j + 1, m => if a + j < (wrS b p a j m).length then (wrS b p a j m).set (a + j) (atB b (p + j)) else wrS b p a j m
def zjc (b : By) : Nat → Nat × By → Nat × By
 | 0, s => s
 | r + 1, s => zjc b r (s.1 + 3 + (atB b (s.1 + 2)).toNat, wrS b (s.1 + 3) (atB b s.1 + 256 * atB b (s.1 + 1)).toNat (atB b (s.1 + 2)).toNat s.2)
def zqj (b : By) : Nat × By := zjc b (atB b 87).toNat (88, List.replicate (zbc b) 0)
abbrev scP : Pm := .st [.sl [.i .u8], .sl [.i .u64], .i .u64, .i .i64, .b, .b, .i .u64, .i .u64, .i .u64, .i .i64, .i .i64, .i .u64, .i .i64, .i .i64, .sl shE, .i .i64, .i .i64, .sl shE, .i .i64, .i .i64, .sl shE, .sl [.i .i64]]
abbrev Sc := By × Us × Int × Int × Bool × Bool × Int × Int × Int × Int × Int × Int × Int × Int × Es × Int × Int × Es × Int × Int × Es × List Int
def yg9 (b : By) : Sc := ((zqj b).2, zd2 b 8, dPc b, zb2 b, zme b, zmd b, zdb b, zdd b, 0, zb2 b, 0, 0, (zav (atB b 0)).1, (zav (atB b 0)).2.1, List.replicate (zas (atB b 0)) zE, (zav (atB b 1)).1, (zav (atB b 1)).2.1, List.replicate (zas (atB b 1)) zE, (zav (atB b 2)).1, (zav (atB b 2)).2.1, List.replicate (zas (atB b 2)) zE, zbl b (zqj b).1 (dN b).toNat)
def zSc : Blk := .fix [.v (.slice none 0 0), .v (.slice none 0 0), .v (.int .u64 0), .v (.int .i64 0), .v (.bool false), .v (.bool false), .v (.int .u64 0), .v (.int .u64 0), .v (.int .u64 0), .v (.int .i64 0), .v (.int .i64 0), .v (.int .u64 0), .v (.int .i64 0), .v (.int .i64 0), .v (.slice none 0 0), .v (.int .i64 0), .v (.int .i64 0), .v (.slice none 0 0), .v (.int .i64 0), .v (.int .i64 0), .v (.slice none 0 0), .v (.slice none 0 0)] true (some 44)
def ypf : Av := .v (.slice none 0 0)
def RunR (b : By) (t p : Nat) (m : By) : Prop := t ≤ 255 ∧ p ≤ 88 + 258 * (255 - t) ∧ m.length = zbc b ∧ zaq m ∧ zjc b t (p, m) = zqj b
set_option linter.unusedVariables false
set_option linter.unusedSimpArgs false
set_option linter.unusedVariables false
theorem zmb (b : By) (p a : Nat) : ∀ (j : Nat) (m : By), (wrS b p a j m).length = m.length
 | 0, m => rfl
 | j + 1, m => by
  have e := zmb b p a j m
  unfold wrS
  split
  · rw [List.length_set, e]
  · exact e
theorem ygi {b : By} (hb : zaq b) (p a : Nat) : ∀ (j : Nat) {m : By}, zaq m → zaq (wrS b p a j m)
 | 0, m, h => h
 | j + 1, m, h => by
  have e := ygi hb p a j h
  have hl := zmb b p a (j + 1) m
  refine ⟨by rw [hl]; exact h.1, ?_⟩
  unfold wrS
  split
  · intro x hx
    rcases List.mem_or_eq_of_mem_set hx with q | q
    · exact e.2 x q
    · rw [q]; exact zc0 hb _
  · exact e.2
theorem zev (b : By) (i : Nat) : (zd2 b i).length = 8 := by simp [zd2]
theorem num2 {b : By} (hb : zaq b) (p : Nat) : zdt (zbl b p 2) = atB b p + 256 * atB b (p + 1) := by
 show atB b (p + 0) + 256 * (atB b (p + 1) + 256 * 0) = _
 rw [Nat.add_zero]
 omega
theorem zj8 {b : By} (hb : zaq b) : 64 * (1 + atB b 3 % 64) = (zbc b : Int) ∧ zbc b ≤ 4096 := by
 have := zc0 hb 3
 unfold zbc
 omega
theorem yqa {b : By} (hb : zaq b) : 0 ≤ dN b ∧ dN b ≤ 20000 := by
 have := ybe hb 5 2
 unfold dN
 omega
theorem yd2 {n : Nat} (h : n ≤ 4096) : zaq (List.replicate n (0 : Int)) := by
 refine ⟨by rw [List.length_replicate]; unfold SzR; omega, fun x hx => ?_⟩
 rw [(List.mem_replicate.1 hx).2]
 exact ⟨by decide, by decide⟩
theorem zxg {b : By} (hb : zaq b) : ∀ (t p : Nat) (m : By), t ≤ 255 → p ≤ 88 + 258 * (255 - t) → zaq m → (zjc b t (p, m)).1 ≤ 65878 ∧ (zjc b t (p, m)).2.length = m.length ∧ zaq (zjc b t (p, m)).2
 | 0, p, m, h0, h1, h2 => by
  refine ⟨?_, rfl, h2⟩
  show p ≤ _
  omega
 | t + 1, p, m, h0, h1, h2 => by
  have c := zc0 hb (p + 2)
  have := zxg hb t (p + 3 + (atB b (p + 2)).toNat) (wrS b (p + 3) (atB b p + 256 * atB b (p + 1)).toNat (atB b (p + 2)).toNat m) (by omega) (by omega) (ygi hb _ _ _ h2)
  rw [zmb] at this
  exact this
theorem ybj {b : By} (hb : zaq b) : (zqj b).1 ≤ 65878 ∧ (zqj b).2.length = zbc b ∧ zaq (zqj b).2 := by
 have c := zc0 hb 87
 have := zxg hb (atB b 87).toNat 88 (List.replicate (zbc b) 0) (by omega) (by omega) (yd2 (zj8 hb).2)
 rw [List.length_replicate] at this
 exact this
end Go.Proofs.YtfiddfbagbaofaaGreat.V
