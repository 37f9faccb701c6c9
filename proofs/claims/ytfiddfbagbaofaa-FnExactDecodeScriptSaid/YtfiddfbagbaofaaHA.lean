/- Harts that are valid answer as their model; the law on them returns true. Conditions: those in each statement. -/
import Derived.Test.YtfiddfbagbaofaaGY
import Derived.KernelRfl
namespace Go.Proofs.Ytfiddfbagbaofaa.V
open Go
abbrev usP : Pm := .one (.sl [.i .u64])
abbrev Us := List Int
abbrev haC : List Cs := [.sl [.i .u8], .sl [.i .u64], .i .u64, .i .i64, .b, .b, .i .u64, .i .u64, .i .u64, .i .i64, .i .i64, .i .u64, .i .i64, .i .i64, .sl shE, .i .i64, .i .i64, .sl shE, .i .i64, .i .i64, .sl shE]
abbrev haP : Pm := .st haC
abbrev Ha := By × Us × Int × Int × Bool × Bool × Int × Int × Int × Int × Int × Int × Cf
def schemeM (s : Int) : Bool := s / 1152921504606846976 == 0 || s / 1152921504606846976 == 8
/-- The parts lie in their kinds. -/
def HaR (h : Ha) : Prop := ByteR h.1 ∧ SzR h.2.1.length ∧ (∀ r ∈ h.2.1, U64 r) ∧ U64 h.2.2.1 ∧ I64 h.2.2.2.1 ∧ U64 h.2.2.2.2.2.2.1 ∧ U64 h.2.2.2.2.2.2.2.1 ∧ U64 h.2.2.2.2.2.2.2.2.1 ∧ I64 h.2.2.2.2.2.2.2.2.2.1 ∧ I64 h.2.2.2.2.2.2.2.2.2.2.1 ∧ U64 h.2.2.2.2.2.2.2.2.2.2.2.1 ∧ ChR (toC h.2.2.2.2.2.2.2.2.2.2.2.2)
def validH (h : Ha) : Bool := ((h.1.length : Int).tmod 64 == 0) && decide ((h.1.length : Int) ≥ 64) && decide ((h.1.length : Int) ≤ 4096) && ((h.2.1.length : Int) == 8) && (h.2.1.getD 0 0 == 0) && decide (h.2.2.2.1 ≥ 0) && decide (h.2.2.2.1 ≤ 2) && decide (h.2.2.2.2.2.2.2.2.2.1 ≥ 0) && decide (h.2.2.2.2.2.2.2.2.2.1 ≤ 2) && schemeM h.2.2.2.2.2.2.1 && (h.2.2.2.2.2.2.2.1.tmod 4 == 0) && decide (h.2.2.2.2.2.2.2.2.2.2.1 ≥ 0) && decide (h.2.2.2.2.2.2.2.2.2.2.1 ≤ 63) && goodC (toC h.2.2.2.2.2.2.2.2.2.2.2.2)
def szH (a b : Nat) (k : Cch) (n : Int) : Int := if szM a n < 0 then -1 else if szM b (szM a n) < 0 then -1 else szC k (szM b (szM a n))
def vc_szBy (m : By) (k : Int) : Prop := vcPure Try.prog FY0 .none Try.f144 [byP, i64] [i64] (m, k) (szM m.length k)
def vc_szUs (m : Us) (k : Int) : Prop := vcPure Try.prog FY0 .none Try.f145 [usP, i64] [i64] (m, k) (szM m.length k)
def vc_scheme (s : Int) : Prop := vcPure Try.prog FY0 .none Try.f149 [u64] [bl] s (schemeM s)
def vc_sscheme (s : Int) : Prop := vcPure Try.prog FE3 .none Try.f146 [u64] [bl] s (schemeM s)
def toUsL (m : Us) : LoopS where
  α := Nat
  I i := i ≤ m.length
  sl i := slots 22 [(0, .sl 0 1 0 m.length), (3, .sl 1 1 0 m.length), (4, .v (.int .i64 i))]
  H i := [.arr [.i .u64] m false, .arr [.i .u64] (m.take i ++ List.replicate (m.length - i) (0 : Int)) true]
  fams := [{ β := Unit, out := fun _ _ => True, ex := .ext 0, sl := fun _ => slots 22 [(3, .sl 1 1 0 m.length)], H := fun _ => [.arr [.i .u64] m false, .arr [.i .u64] m true] }]
def vc_toUs_r (m : Us) (i : Nat) : Prop := vcRound Try.prog F0 (.one 3 (toUsL m)) 1 (loopAt Try.f148 0) (toUsL m) (fun i : Nat => m.length - i) i
def vc_toUs (m : Us) : Prop := vcPure Try.prog F0 (.one 3 (toUsL m)) Try.f148 [usP] [usP] m m
def eqUsL (m n : Us) : LoopS where
  α := Nat
  I i := i ≤ m.length
  sl i := slots 26 [(0, .sl 0 1 0 m.length), (1, .sl 1 1 0 n.length), (5, .v (.int .i64 i))]
  H _ := [.arr [.i .u64] m false, .arr [.i .u64] n false]
  fams := [{ β := Unit, out := fun _ _ => True, ex := .ext 0, sl := fun _ => slots 26 [], H := fun _ => [.arr [.i .u64] m false, .arr [.i .u64] n false] }]
def vc_eqUs_r (m n : Us) (i : Nat) : Prop := vcRound Try.prog F0 (.one 4 (eqUsL m n)) 2 (loopAt Try.f151 0) (eqUsL m n) (fun i : Nat => m.length - i) i
def vc_eqUs (m n : Us) : Prop := vcPure Try.prog F0 (.one 4 (eqUsL m n)) Try.f151 [usP, usP] [bl] (m, n) true
def kHA1 : Known := [
  (144, pureS [byP, i64] [i64] (fun t => some (t.1.length ≤ maxLen ∧ 0 ≤ t.2 ∧ t.2 ≤ 1048576)) (fun t => szM t.1.length t.2)),
  (145, pureS [usP, i64] [i64] (fun t => some (t.1.length ≤ maxLen ∧ 0 ≤ t.2 ∧ t.2 ≤ 1048576)) (fun t => szM t.1.length t.2)),
  (149, pureS [u64] [bl] (fun s => some (U64 s)) schemeM),
  (146, pureS [u64] [bl] (fun s => some (U64 s)) schemeM),
  (148, pureS [usP] [usP] (fun m => some (SzR m.length)) (fun m => m)),
  (151, pureS [usP, usP] [bl] (fun t => some (t.1 = t.2 ∧ SzR t.1.length)) (fun _ => true))]
def FHA1 : Dict := mkD (kHA1 ++ kY1 ++ kB1) [] []
def vc_szH (m : By) (u : Us) (pc : Int) (mo : Int) (su : Bool) (mx : Bool) (sa : Int) (tv : Int) (ep : Int) (em : Int) (ca : Int) (tl : Int) (s1 : Int) (w1 : Int) (m1 : Es) (s2 : Int) (w2 : Int) (m2 : Es) (s3 : Int) (w3 : Int) (m3 : Es) (n : Int) : Prop := vcPure Try.prog FHA1 .none Try.f64 [haP, i64] [i64] ((m, u, pc, mo, su, mx, sa, tv, ep, em, ca, tl, s1, w1, m1, s2, w2, m2, s3, w3, m3), n) (szH m.length u.length ((s1, w1, m1), (s2, w2, m2), (s3, w3, m3)) n)
def vc_toH (m : By) (u : Us) (pc : Int) (mo : Int) (su : Bool) (mx : Bool) (sa : Int) (tv : Int) (ep : Int) (em : Int) (ca : Int) (tl : Int) (s1 : Int) (w1 : Int) (m1 : Es) (s2 : Int) (w2 : Int) (m2 : Es) (s3 : Int) (w3 : Int) (m3 : Es) : Prop := vcPure Try.prog FHA1 .none Try.f66 [haP] [haP] (m, u, pc, mo, su, mx, sa, tv, ep, em, ca, tl, s1, w1, m1, s2, w2, m2, s3, w3, m3) (m, u, pc, mo, su, mx, sa, tv, ep, em, ca, tl, s1, w1, m1, s2, w2, m2, s3, w3, m3)
def vc_eqH (m : By) (u : Us) (pc : Int) (mo : Int) (su : Bool) (mx : Bool) (sa : Int) (tv : Int) (ep : Int) (em : Int) (ca : Int) (tl : Int) (s1 : Int) (w1 : Int) (m1 : Es) (s2 : Int) (w2 : Int) (m2 : Es) (s3 : Int) (w3 : Int) (m3 : Es) : Prop := vcPure Try.prog FHA1 .none Try.f68 [haP, haP] [bl] ((m, u, pc, mo, su, mx, sa, tv, ep, em, ca, tl, s1, w1, m1, s2, w2, m2, s3, w3, m3), (m, u, pc, mo, su, mx, sa, tv, ep, em, ca, tl, s1, w1, m1, s2, w2, m2, s3, w3, m3)) true
def vc_ivalH (m : By) (u : Us) (pc : Int) (mo : Int) (su : Bool) (mx : Bool) (sa : Int) (tv : Int) (ep : Int) (em : Int) (ca : Int) (tl : Int) (s1 : Int) (w1 : Int) (m1 : Es) (s2 : Int) (w2 : Int) (m2 : Es) (s3 : Int) (w3 : Int) (m3 : Es) : Prop := vcPure Try.prog FHA1 .none Try.f67 [haP] [bl] (m, u, pc, mo, su, mx, sa, tv, ep, em, ca, tl, s1, w1, m1, s2, w2, m2, s3, w3, m3) (validH (m, u, pc, mo, su, mx, sa, tv, ep, em, ca, tl, s1, w1, m1, s2, w2, m2, s3, w3, m3))
def vc_svalH (m : By) (u : Us) (pc : Int) (mo : Int) (su : Bool) (mx : Bool) (sa : Int) (tv : Int) (ep : Int) (em : Int) (ca : Int) (tl : Int) (s1 : Int) (w1 : Int) (m1 : Es) (s2 : Int) (w2 : Int) (m2 : Es) (s3 : Int) (w3 : Int) (m3 : Es) : Prop := vcPure Try.prog FHA1 .none Try.f65 [haP] [bl] (m, u, pc, mo, su, mx, sa, tv, ep, em, ca, tl, s1, w1, m1, s2, w2, m2, s3, w3, m3) (validH (m, u, pc, mo, su, mx, sa, tv, ep, em, ca, tl, s1, w1, m1, s2, w2, m2, s3, w3, m3))
def SzH (h : Ha) : Prop := SzR h.1.length ∧ SzR h.2.1.length ∧ SzC (toC h.2.2.2.2.2.2.2.2.2.2.2.2)
def kHA2 : Known := [
  (64, pureS [haP, i64] [i64] (fun t => some ((t.1.1.length ≤ maxLen ∧ t.1.2.1.length ≤ maxLen ∧ (toC t.1.2.2.2.2.2.2.2.2.2.2.2.2).1.2.2.length ≤ maxLen ∧ (toC t.1.2.2.2.2.2.2.2.2.2.2.2.2).2.1.2.2.length ≤ maxLen ∧ (toC t.1.2.2.2.2.2.2.2.2.2.2.2.2).2.2.2.2.length ≤ maxLen) ∧ 0 ≤ t.2 ∧ t.2 ≤ 1048576)) (fun t => szH t.1.1.length t.1.2.1.length (toC t.1.2.2.2.2.2.2.2.2.2.2.2.2) t.2)),
  (66, pureS [haP] [haP] (fun h => some (SzH h)) (fun h => h)),
  (68, pureS [haP, haP] [bl] (fun t => some (t.1 = t.2 ∧ SzH t.1)) (fun _ => true)),
  (67, pureS [haP] [bl] (fun h => some (HaR h)) validH),
  (65, pureS [haP] [bl] (fun h => some (HaR h)) validH)]
end Go.Proofs.Ytfiddfbagbaofaa.V
namespace Go.Proofs.Ytfiddfbagbaofaa.V
open Go
set_option linter.unusedVariables false
theorem vc_szBy_eq (m : By) (k : Int) : vc_szBy m k = (
 (decide (IntKind.i64.wrap (k - (↑(List.length m) : Int)) < (0 : Int)) = true → szM (List.length m) k = (-1 : Int) ∧ m = m) ∧ (decide (IntKind.i64.wrap (k - (↑(List.length m) : Int)) < (0 : Int)) = false → szM (List.length m) k =
 IntKind.i64.wrap (k - (↑(List.length m) : Int)) ∧ m = m)) := by kernel_rfl
theorem vc_szUs_eq (m : Us) (k : Int) : vc_szUs m k = (
 (decide (IntKind.i64.wrap (k - (↑(List.length m) : Int)) < (0 : Int)) = true → szM (List.length m) k = (-1 : Int) ∧ m = m) ∧ (decide (IntKind.i64.wrap (k - (↑(List.length m) : Int)) < (0 : Int)) = false → szM (List.length m) k =
 IntKind.i64.wrap (k - (↑(List.length m) : Int)) ∧ m = m)) := by kernel_rfl
theorem vc_scheme_eq (s : Int) : vc_scheme s = (
 (0 : Int) ≤ (60 : Int) ∧ ((!s / (2 : Int) ^ min (Int.toNat (60 : Int)) (64 : Nat) == (0 : Int)) = true → (0 : Int) ≤ (60 : Int)) ∧ schemeM s = bif s / (2 : Int) ^ min (Int.toNat (60 : Int)) (64 : Nat) == (0 : Int) then true else s / (2 :
 Int) ^ min (Int.toNat (60 : Int)) (64 : Nat) == (8 : Int)) := by kernel_rfl
theorem vc_sscheme_eq (s : Int) : vc_sscheme s = (
 bitsR (s, (60 : Int), (63 : Int)) ∧ ((!bitsM s (60 : Int) (63 : Int) == (0 : Int)) = true → bitsR (s, (60 : Int), (63 : Int))) ∧ schemeM s = bif bitsM s (60 : Int) (63 : Int) == (0 : Int) then true else bitsM s (60 : Int) (63 : Int) == (8 :
 Int)) := by kernel_rfl
theorem vc_toUs_r_eq (m : Us) (i : Nat) : vc_toUs_r m i = (
 (decide ((↑i : Int) < (↑(List.length m) : Int)) = true → ((0 : Int) ≤ (↑i : Int) ∧ (↑i : Int) < (↑(List.length m) : Int)) ∧ (0 : Nat) + (↑i : Int).toNat < List.length m ∧ ((0 : Int) ≤ (↑i : Int) ∧ (↑i : Int) < (↑(List.length m) : Int)) ∧ (0
 : Nat) + (↑i : Int).toNat < (List.take i m ++ List.replicate (List.length m - i) (0 : Int)).length ∧ ∃ (y : Nat), ((0 : Nat) = (0 : Nat) ∧ List.length m = List.length m ∧ (0 : Nat) = (0 : Nat) ∧ List.length m = List.length m ∧ (↑y : Int) =
 IntKind.i64.wrap ((↑i : Int) + (1 : Int)) ∧ m = m ∧ List.take y m ++ List.replicate (List.length m - y) (0 : Int) = (List.take i m ++ List.replicate (List.length m - i) (0 : Int)).set ((0 : Nat) + (↑i : Int).toNat) (List.getD m ((0 : Nat) +
 (↑i : Int).toNat) (El.zero [Ty.i IntKind.u64]))) ∧ y ≤ List.length m ∧ List.length m - y < List.length m - i ∧ ∀ (z : Unit), True → True) ∧ (decide ((↑i : Int) < (↑(List.length m) : Int)) = false → ∃ (z : Unit), ((0 : Nat) = (0 : Nat) ∧
 List.length m = List.length m ∧ m = m ∧ m = List.take i m ++ List.replicate (List.length m - i) (0 : Int)) ∧ True)) := by kernel_rfl
theorem vc_toUs_eq (m : Us) : vc_toUs m = (
 ((0 : Int) ≤ (↑(List.length m) : Int) ∧ (↑(List.length m) : Int) ≤ (↑(List.length m) : Int) ∧ (↑(List.length m) : Int) ≤ (4294967296 : Int)) ∧ ∃ (x : Nat), ((0 : Nat) = (0 : Nat) ∧ List.length m = List.length m ∧ (0 : Nat) = (0 : Nat) ∧
 List.length m = (↑(List.length m) : Int).toNat ∧ (↑x : Int) = (0 : Int) ∧ m = m ∧ List.take x m ++ List.replicate (List.length m - x) (0 : Int) = List.replicate (↑(List.length m) : Int).toNat (El.zero [Ty.i IntKind.u64])) ∧ x ≤ List.length
 m ∧ ∀ (z : Unit), True → (0 : Nat) = (0 : Nat) ∧ List.length m = List.length m ∧ m = m ∧ m = m) := by kernel_rfl
theorem vc_eqUs_r_eq (m n : Us) (i : Nat) : vc_eqUs_r m n i = (
 (decide ((↑i : Int) < (↑(List.length m) : Int)) = true → ((0 : Int) ≤ (↑i : Int) ∧ (↑i : Int) < (↑(List.length m) : Int)) ∧ (0 : Nat) + (↑i : Int).toNat < List.length m ∧ ((0 : Int) ≤ (↑i : Int) ∧ (↑i : Int) < (↑(List.length n) : Int)) ∧ (0
 : Nat) + (↑i : Int).toNat < List.length n ∧ ((List.getD m ((0 : Nat) + (↑i : Int).toNat) (El.zero [Ty.i IntKind.u64]) != List.getD n ((0 : Nat) + (↑i : Int).toNat) (El.zero [Ty.i IntKind.u64])) = true → False) ∧ ((List.getD m ((0 : Nat) +
 (↑i : Int).toNat) (El.zero [Ty.i IntKind.u64]) != List.getD n ((0 : Nat) + (↑i : Int).toNat) (El.zero [Ty.i IntKind.u64])) = false → ∃ (y : Nat), ((0 : Nat) = (0 : Nat) ∧ List.length m = List.length m ∧ (0 : Nat) = (0 : Nat) ∧ List.length n
 = List.length n ∧ (↑y : Int) = IntKind.i64.wrap ((↑i : Int) + (1 : Int)) ∧ m = m ∧ n = n) ∧ y ≤ List.length m ∧ List.length m - y < List.length m - i ∧ ∀ (z : Unit), True → True)) ∧ (decide ((↑i : Int) < (↑(List.length m) : Int)) = false →
 ∃ (z : Unit), (m = m ∧ n = n) ∧ True)) := by kernel_rfl
theorem vc_eqUs_eq (m n : Us) : vc_eqUs m n = (
 (((↑(List.length m) : Int) != (↑(List.length n) : Int)) = true → true = false ∧ m = m ∧ n = n) ∧ (((↑(List.length m) : Int) != (↑(List.length n) : Int)) = false → ∃ (x : Nat), ((0 : Nat) = (0 : Nat) ∧ List.length m = List.length m ∧ (0 :
 Nat) = (0 : Nat) ∧ List.length n = List.length n ∧ (↑x : Int) = (0 : Int) ∧ m = m ∧ n = n) ∧ x ≤ List.length m ∧ ∀ (z : Unit), True → true = true ∧ m = m ∧ n = n)) := by kernel_rfl
theorem vc_szH_eq (m : By) (u : Us) (pc : Int) (mo : Int) (su : Bool) (mx : Bool) (sa : Int) (tv : Int) (ep : Int) (em : Int) (ca : Int) (tl : Int) (s1 : Int) (w1 : Int) (m1 : Es) (s2 : Int) (w2 : Int) (m2 : Es) (s3 : Int) (w3 : Int) (m3 : Es) (n : Int) : vc_szH m u pc mo su mx sa tv ep em ca tl s1 w1 m1 s2 w2 m2 s3 w3 m3 n = (
 (List.length m = List.length m ∧ List.length m ≤ (9223372036854775807 : Nat) ∧ (0 : PmT [i64]) ≤ n ∧ n ≤ (1048576 : PmT [i64])) ∧ (decide (szM (List.length m) n < (0 : Int)) = true → szH (List.length m) (List.length u) ((s1, w1, m1), (s2,
 w2, m2), s3, w3, m3) n = (-1 : Int) ∧ m = m ∧ u = u ∧ m1 = m1 ∧ m2 = m2 ∧ m3 = m3) ∧ (decide (szM (List.length m) n < (0 : Int)) = false → (List.length u = List.length u ∧ List.length u ≤ (9223372036854775807 : Nat) ∧ (0 : PmT [i64]) ≤ szM
 (List.length m) n ∧ szM (List.length m) n ≤ (1048576 : PmT [i64])) ∧ (decide (szM (List.length u) (szM (List.length m) n) < (0 : Int)) = true → szH (List.length m) (List.length u) ((s1, w1, m1), (s2, w2, m2), s3, w3, m3) n = (-1 : Int) ∧ m
 = m ∧ u = u ∧ m1 = m1 ∧ m2 = m2 ∧ m3 = m3) ∧ (decide (szM (List.length u) (szM (List.length m) n) < (0 : Int)) = false → (List.length m1 = List.length m1 ∧ List.length m2 = List.length m2 ∧ List.length m3 = List.length m3 ∧ (List.length m1
 ≤ (9223372036854775807 : Nat) ∧ List.length m2 ≤ (9223372036854775807 : Nat) ∧ List.length m3 ≤ (9223372036854775807 : Nat)) ∧ (0 : PmT [i64]) ≤ szM (List.length u) (szM (List.length m) n) ∧ szM (List.length u) (szM (List.length m) n) ≤
 (1048576 : PmT [i64])) ∧ (decide (szC ((s1, w1, m1), (s2, w2, m2), s3, w3, m3) (szM (List.length u) (szM (List.length m) n)) < (0 : Int)) = true → szH (List.length m) (List.length u) ((s1, w1, m1), (s2, w2, m2), s3, w3, m3) n = (-1 : Int) ∧
 m = m ∧ u = u ∧ m1 = m1 ∧ m2 = m2 ∧ m3 = m3) ∧ (decide (szC ((s1, w1, m1), (s2, w2, m2), s3, w3, m3) (szM (List.length u) (szM (List.length m) n)) < (0 : Int)) = false → szH (List.length m) (List.length u) ((s1, w1, m1), (s2, w2, m2), s3,
 w3, m3) n = szC ((s1, w1, m1), (s2, w2, m2), s3, w3, m3) (szM (List.length u) (szM (List.length m) n)) ∧ m = m ∧ u = u ∧ m1 = m1 ∧ m2 = m2 ∧ m3 = m3)))) := by kernel_rfl
theorem vc_toH_eq (m : By) (u : Us) (pc : Int) (mo : Int) (su : Bool) (mx : Bool) (sa : Int) (tv : Int) (ep : Int) (em : Int) (ca : Int) (tl : Int) (s1 : Int) (w1 : Int) (m1 : Es) (s2 : Int) (w2 : Int) (m2 : Es) (s3 : Int) (w3 : Int) (m3 : Es) : vc_toH m u pc mo su mx sa tv ep em ca tl s1 w1 m1 s2 w2 m2 s3 w3 m3 = (
 (List.length m = List.length m ∧ SzR (List.length m)) ∧ (List.length u = List.length u ∧ SzR (List.length u)) ∧ (List.length m1 = List.length m1 ∧ List.length m2 = List.length m2 ∧ List.length m3 = List.length m3 ∧ SzR (List.length m1) ∧
 SzR (List.length m2) ∧ SzR (List.length m3)) ∧ (0 : Nat) = (0 : Nat) ∧ List.length m = List.length m ∧ (0 : Nat) = (0 : Nat) ∧ List.length u = List.length u ∧ pc = pc ∧ mo = mo ∧ su = su ∧ mx = mx ∧ sa = sa ∧ tv = tv ∧ ep = ep ∧ em = em ∧
 ca = ca ∧ tl = tl ∧ s1 = s1 ∧ w1 = w1 ∧ (0 : Nat) = (0 : Nat) ∧ List.length m1 = List.length m1 ∧ s2 = s2 ∧ w2 = w2 ∧ (0 : Nat) = (0 : Nat) ∧ List.length m2 = List.length m2 ∧ s3 = s3 ∧ w3 = w3 ∧ (0 : Nat) = (0 : Nat) ∧ List.length m3 =
 List.length m3 ∧ m = m ∧ u = u ∧ m1 = m1 ∧ m2 = m2 ∧ m3 = m3 ∧ m = m ∧ u = u ∧ m1 = m1 ∧ m2 = m2 ∧ m3 = m3) := by kernel_rfl
theorem vc_eqH_eq (m : By) (u : Us) (pc : Int) (mo : Int) (su : Bool) (mx : Bool) (sa : Int) (tv : Int) (ep : Int) (em : Int) (ca : Int) (tl : Int) (s1 : Int) (w1 : Int) (m1 : Es) (s2 : Int) (w2 : Int) (m2 : Es) (s3 : Int) (w3 : Int) (m3 : Es) : vc_eqH m u pc mo su mx sa tv ep em ca tl s1 w1 m1 s2 w2 m2 s3 w3 m3 = (
 (List.length m = List.length m ∧ List.length m = List.length m ∧ m = m ∧ SzR (List.length m)) ∧ ((!true) = true → true = false ∧ m = m ∧ u = u ∧ m1 = m1 ∧ m2 = m2 ∧ m3 = m3 ∧ m = m ∧ u = u ∧ m1 = m1 ∧ m2 = m2 ∧ m3 = m3) ∧ ((!true) = false →
 (List.length u = List.length u ∧ List.length u = List.length u ∧ u = u ∧ SzR (List.length u)) ∧ ((!true) = true → true = false ∧ m = m ∧ u = u ∧ m1 = m1 ∧ m2 = m2 ∧ m3 = m3 ∧ m = m ∧ u = u ∧ m1 = m1 ∧ m2 = m2 ∧ m3 = m3) ∧ ((!true) = false →
 ((pc != pc) = true → true = false ∧ m = m ∧ u = u ∧ m1 = m1 ∧ m2 = m2 ∧ m3 = m3 ∧ m = m ∧ u = u ∧ m1 = m1 ∧ m2 = m2 ∧ m3 = m3) ∧ ((pc != pc) = false → ((mo != mo) = true → true = false ∧ m = m ∧ u = u ∧ m1 = m1 ∧ m2 = m2 ∧ m3 = m3 ∧ m = m ∧
 u = u ∧ m1 = m1 ∧ m2 = m2 ∧ m3 = m3) ∧ ((mo != mo) = false → ((!su == su) = true → true = false ∧ m = m ∧ u = u ∧ m1 = m1 ∧ m2 = m2 ∧ m3 = m3 ∧ m = m ∧ u = u ∧ m1 = m1 ∧ m2 = m2 ∧ m3 = m3) ∧ ((!su == su) = false → ((!mx == mx) = true → true
 = false ∧ m = m ∧ u = u ∧ m1 = m1 ∧ m2 = m2 ∧ m3 = m3 ∧ m = m ∧ u = u ∧ m1 = m1 ∧ m2 = m2 ∧ m3 = m3) ∧ ((!mx == mx) = false → ((sa != sa) = true → true = false ∧ m = m ∧ u = u ∧ m1 = m1 ∧ m2 = m2 ∧ m3 = m3 ∧ m = m ∧ u = u ∧ m1 = m1 ∧ m2 =
 m2 ∧ m3 = m3) ∧ ((sa != sa) = false → ((tv != tv) = true → true = false ∧ m = m ∧ u = u ∧ m1 = m1 ∧ m2 = m2 ∧ m3 = m3 ∧ m = m ∧ u = u ∧ m1 = m1 ∧ m2 = m2 ∧ m3 = m3) ∧ ((tv != tv) = false → ((ep != ep) = true → true = false ∧ m = m ∧ u = u ∧
 m1 = m1 ∧ m2 = m2 ∧ m3 = m3 ∧ m = m ∧ u = u ∧ m1 = m1 ∧ m2 = m2 ∧ m3 = m3) ∧ ((ep != ep) = false → ((em != em) = true → true = false ∧ m = m ∧ u = u ∧ m1 = m1 ∧ m2 = m2 ∧ m3 = m3 ∧ m = m ∧ u = u ∧ m1 = m1 ∧ m2 = m2 ∧ m3 = m3) ∧ ((em != em)
 = false → ((ca != ca) = true → true = false ∧ m = m ∧ u = u ∧ m1 = m1 ∧ m2 = m2 ∧ m3 = m3 ∧ m = m ∧ u = u ∧ m1 = m1 ∧ m2 = m2 ∧ m3 = m3) ∧ ((ca != ca) = false → ((tl != tl) = true → true = false ∧ m = m ∧ u = u ∧ m1 = m1 ∧ m2 = m2 ∧ m3 = m3
 ∧ m = m ∧ u = u ∧ m1 = m1 ∧ m2 = m2 ∧ m3 = m3) ∧ ((tl != tl) = false → (List.length m1 = List.length m1 ∧ List.length m2 = List.length m2 ∧ List.length m3 = List.length m3 ∧ List.length m1 = List.length m1 ∧ List.length m2 = List.length m2
 ∧ List.length m3 = List.length m3 ∧ (s1, w1, m1, s2, w2, m2, s3, w3, m3) = (s1, w1, m1, s2, w2, m2, s3, w3, m3) ∧ SzR (List.length m1) ∧ SzR (List.length m2) ∧ SzR (List.length m3)) ∧ ((!true) = true → true = false ∧ m = m ∧ u = u ∧ m1 = m1
 ∧ m2 = m2 ∧ m3 = m3 ∧ m = m ∧ u = u ∧ m1 = m1 ∧ m2 = m2 ∧ m3 = m3) ∧ ((!true) = false → true = true ∧ m = m ∧ u = u ∧ m1 = m1 ∧ m2 = m2 ∧ m3 = m3 ∧ m = m ∧ u = u ∧ m1 = m1 ∧ m2 = m2 ∧ m3 = m3)))))))))))))) := by kernel_rfl
theorem vc_ivalH_eq (m : By) (u : Us) (pc : Int) (mo : Int) (su : Bool) (mx : Bool) (sa : Int) (tv : Int) (ep : Int) (em : Int) (ca : Int) (tl : Int) (s1 : Int) (w1 : Int) (m1 : Es) (s2 : Int) (w2 : Int) (m2 : Es) (s3 : Int) (w3 : Int) (m3 : Es) : vc_ivalH m u pc mo su mx sa tv ep em ca tl s1 w1 m1 s2 w2 m2 s3 w3 m3 = (
 (64 : Int) ≠ (0 : Int) ∧ ((bif bif bif (↑(List.length m) : Int).tmod (64 : Int) == (0 : Int) then decide ((↑(List.length m) : Int) ≥ (64 : Int)) else false then decide ((↑(List.length m) : Int) ≤ (4096 : Int)) else false then (↑(List.length
 u) : Int) == (8 : Int) else false) = true → (0 : Int) ≤ (0 : Int) ∧ (0 : Int) < (↑(List.length u) : Int)) ∧ ((bif bif bif (↑(List.length m) : Int).tmod (64 : Int) == (0 : Int) then decide ((↑(List.length m) : Int) ≥ (64 : Int)) else false
 then decide ((↑(List.length m) : Int) ≤ (4096 : Int)) else false then (↑(List.length u) : Int) == (8 : Int) else false) = true → (0 : Nat) + Int.toNat (0 : Int) < List.length u) ∧ ((bif bif bif bif bif bif bif bif (↑(List.length m) :
 Int).tmod (64 : Int) == (0 : Int) then decide ((↑(List.length m) : Int) ≥ (64 : Int)) else false then decide ((↑(List.length m) : Int) ≤ (4096 : Int)) else false then (↑(List.length u) : Int) == (8 : Int) else false then List.getD u ((0 :
 Nat) + Int.toNat (0 : Int)) (El.zero [Ty.i IntKind.u64]) == (0 : Int) else false then decide (mo ≥ (0 : Int)) else false then decide (mo ≤ (2 : Int)) else false then decide (em ≥ (0 : Int)) else false then decide (em ≤ (2 : Int)) else
 false) = true → U64 sa) ∧ ((bif bif bif bif bif bif bif bif bif (↑(List.length m) : Int).tmod (64 : Int) == (0 : Int) then decide ((↑(List.length m) : Int) ≥ (64 : Int)) else false then decide ((↑(List.length m) : Int) ≤ (4096 : Int)) else
 false then (↑(List.length u) : Int) == (8 : Int) else false then List.getD u ((0 : Nat) + Int.toNat (0 : Int)) (El.zero [Ty.i IntKind.u64]) == (0 : Int) else false then decide (mo ≥ (0 : Int)) else false then decide (mo ≤ (2 : Int)) else
 false then decide (em ≥ (0 : Int)) else false then decide (em ≤ (2 : Int)) else false then schemeM sa else false) = true → (4 : Int) ≠ (0 : Int)) ∧ ((bif bif bif bif bif bif bif bif bif bif bif bif (↑(List.length m) : Int).tmod (64 : Int)
 == (0 : Int) then decide ((↑(List.length m) : Int) ≥ (64 : Int)) else false then decide ((↑(List.length m) : Int) ≤ (4096 : Int)) else false then (↑(List.length u) : Int) == (8 : Int) else false then List.getD u ((0 : Nat) + Int.toNat (0 :
 Int)) (El.zero [Ty.i IntKind.u64]) == (0 : Int) else false then decide (mo ≥ (0 : Int)) else false then decide (mo ≤ (2 : Int)) else false then decide (em ≥ (0 : Int)) else false then decide (em ≤ (2 : Int)) else false then schemeM sa else
 false then tv.tmod (4 : Int) == (0 : Int) else false then decide (ca ≥ (0 : Int)) else false then decide (ca ≤ (63 : Int)) else false) = true → List.length m1 = List.length m1 ∧ List.length m2 = List.length m2 ∧ List.length m3 = List.length
 m3 ∧ TlR (s1, w1, m1) ∧ TlR (s2, w2, m2) ∧ TlR (s3, w3, m3)) ∧ (validH (m, u, pc, mo, su, mx, sa, tv, ep, em, ca, tl, s1, w1, m1, s2, w2, m2, s3, w3, m3) = bif bif bif bif bif bif bif bif bif bif bif bif bif (↑(List.length m) : Int).tmod
 (64 : Int) == (0 : Int) then decide ((↑(List.length m) : Int) ≥ (64 : Int)) else false then decide ((↑(List.length m) : Int) ≤ (4096 : Int)) else false then (↑(List.length u) : Int) == (8 : Int) else false then List.getD u ((0 : Nat) +
 Int.toNat (0 : Int)) (El.zero [Ty.i IntKind.u64]) == (0 : Int) else false then decide (mo ≥ (0 : Int)) else false then decide (mo ≤ (2 : Int)) else false then decide (em ≥ (0 : Int)) else false then decide (em ≤ (2 : Int)) else false then
 schemeM sa else false then tv.tmod (4 : Int) == (0 : Int) else false then decide (ca ≥ (0 : Int)) else false then decide (ca ≤ (63 : Int)) else false then goodC ((s1, w1, m1), (s2, w2, m2), s3, w3, m3) else false) ∧ m = m ∧ u = u ∧ m1 = m1
 ∧ m2 = m2 ∧ m3 = m3) := by kernel_rfl
theorem vc_svalH_eq (m : By) (u : Us) (pc : Int) (mo : Int) (su : Bool) (mx : Bool) (sa : Int) (tv : Int) (ep : Int) (em : Int) (ca : Int) (tl : Int) (s1 : Int) (w1 : Int) (m1 : Es) (s2 : Int) (w2 : Int) (m2 : Es) (s3 : Int) (w3 : Int) (m3 : Es) : vc_svalH m u pc mo su mx sa tv ep em ca tl s1 w1 m1 s2 w2 m2 s3 w3 m3 = (
 (64 : Int) ≠ (0 : Int) ∧ ((bif bif bif (↑(List.length m) : Int).tmod (64 : Int) == (0 : Int) then decide ((↑(List.length m) : Int) ≥ (64 : Int)) else false then decide ((↑(List.length m) : Int) ≤ (4096 : Int)) else false then (↑(List.length
 u) : Int) == (8 : Int) else false) = true → (0 : Int) ≤ (0 : Int) ∧ (0 : Int) < (↑(List.length u) : Int)) ∧ ((bif bif bif (↑(List.length m) : Int).tmod (64 : Int) == (0 : Int) then decide ((↑(List.length m) : Int) ≥ (64 : Int)) else false
 then decide ((↑(List.length m) : Int) ≤ (4096 : Int)) else false then (↑(List.length u) : Int) == (8 : Int) else false) = true → (0 : Nat) + Int.toNat (0 : Int) < List.length u) ∧ ((bif bif bif bif bif bif bif bif (↑(List.length m) :
 Int).tmod (64 : Int) == (0 : Int) then decide ((↑(List.length m) : Int) ≥ (64 : Int)) else false then decide ((↑(List.length m) : Int) ≤ (4096 : Int)) else false then (↑(List.length u) : Int) == (8 : Int) else false then List.getD u ((0 :
 Nat) + Int.toNat (0 : Int)) (El.zero [Ty.i IntKind.u64]) == (0 : Int) else false then decide (mo ≥ (0 : Int)) else false then decide (mo ≤ (2 : Int)) else false then decide (em ≥ (0 : Int)) else false then decide (em ≤ (2 : Int)) else
 false) = true → U64 sa) ∧ ((bif bif bif bif bif bif bif bif bif (↑(List.length m) : Int).tmod (64 : Int) == (0 : Int) then decide ((↑(List.length m) : Int) ≥ (64 : Int)) else false then decide ((↑(List.length m) : Int) ≤ (4096 : Int)) else
 false then (↑(List.length u) : Int) == (8 : Int) else false then List.getD u ((0 : Nat) + Int.toNat (0 : Int)) (El.zero [Ty.i IntKind.u64]) == (0 : Int) else false then decide (mo ≥ (0 : Int)) else false then decide (mo ≤ (2 : Int)) else
 false then decide (em ≥ (0 : Int)) else false then decide (em ≤ (2 : Int)) else false then schemeM sa else false) = true → (4 : Int) ≠ (0 : Int)) ∧ ((bif bif bif bif bif bif bif bif bif bif bif bif (↑(List.length m) : Int).tmod (64 : Int)
 == (0 : Int) then decide ((↑(List.length m) : Int) ≥ (64 : Int)) else false then decide ((↑(List.length m) : Int) ≤ (4096 : Int)) else false then (↑(List.length u) : Int) == (8 : Int) else false then List.getD u ((0 : Nat) + Int.toNat (0 :
 Int)) (El.zero [Ty.i IntKind.u64]) == (0 : Int) else false then decide (mo ≥ (0 : Int)) else false then decide (mo ≤ (2 : Int)) else false then decide (em ≥ (0 : Int)) else false then decide (em ≤ (2 : Int)) else false then schemeM sa else
 false then tv.tmod (4 : Int) == (0 : Int) else false then decide (ca ≥ (0 : Int)) else false then decide (ca ≤ (63 : Int)) else false) = true → List.length m1 = List.length m1 ∧ List.length m2 = List.length m2 ∧ List.length m3 = List.length
 m3 ∧ TlR (s1, w1, m1) ∧ TlR (s2, w2, m2) ∧ TlR (s3, w3, m3)) ∧ (validH (m, u, pc, mo, su, mx, sa, tv, ep, em, ca, tl, s1, w1, m1, s2, w2, m2, s3, w3, m3) = bif bif bif bif bif bif bif bif bif bif bif bif bif (↑(List.length m) : Int).tmod
 (64 : Int) == (0 : Int) then decide ((↑(List.length m) : Int) ≥ (64 : Int)) else false then decide ((↑(List.length m) : Int) ≤ (4096 : Int)) else false then (↑(List.length u) : Int) == (8 : Int) else false then List.getD u ((0 : Nat) +
 Int.toNat (0 : Int)) (El.zero [Ty.i IntKind.u64]) == (0 : Int) else false then decide (mo ≥ (0 : Int)) else false then decide (mo ≤ (2 : Int)) else false then decide (em ≥ (0 : Int)) else false then decide (em ≤ (2 : Int)) else false then
 schemeM sa else false then tv.tmod (4 : Int) == (0 : Int) else false then decide (ca ≥ (0 : Int)) else false then decide (ca ≤ (63 : Int)) else false then goodC ((s1, w1, m1), (s2, w2, m2), s3, w3, m3) else false) ∧ m = m ∧ u = u ∧ m1 = m1
 ∧ m2 = m2 ∧ m3 = m3) := by kernel_rfl
end Go.Proofs.Ytfiddfbagbaofaa.V
namespace Go.Proofs.Ytfiddfbagbaofaa.V
open Go
set_option linter.unusedSimpArgs false
theorem szBy_ok : Sound Try.prog 144 (pureS [byP, i64] [i64] (fun t => some (t.1.length ≤ maxLen ∧ 0 ≤ t.2 ∧ t.2 ≤ 1048576)) (fun t => szM t.1.length t.2)) := by
  refine pure_plain mixed Try.func144 (by kernel_rfl) (by kernel_rfl) FY0_ok (fun t h => ?_)
  obtain ⟨m, k⟩ : By × Int := t
  obtain ⟨h1, h2, h3⟩ : m.length ≤ maxLen ∧ 0 ≤ k ∧ k ≤ 1048576 := h
  have h1 : m.length ≤ 9223372036854775807 := h1
  refine vc_by (vc_szBy_eq m k) ?_
  rw [wrap_i64_in (n := k - m.length) (by omega) (by omega)]
  refine ⟨fun q => ⟨?_, rfl⟩, fun q => ⟨?_, rfl⟩⟩
  · have q : k - (m.length : Int) < 0 := of_decide_eq_true q
    unfold szM; rw [if_neg (by omega)]
  · have q : ¬ k - (m.length : Int) < 0 := of_decide_eq_false q
    unfold szM; rw [if_pos (by omega)]
theorem szUs_ok : Sound Try.prog 145 (pureS [usP, i64] [i64] (fun t => some (t.1.length ≤ maxLen ∧ 0 ≤ t.2 ∧ t.2 ≤ 1048576)) (fun t => szM t.1.length t.2)) := by
  refine pure_plain mixed Try.func145 (by kernel_rfl) (by kernel_rfl) FY0_ok (fun t h => ?_)
  obtain ⟨m, k⟩ : Us × Int := t
  obtain ⟨h1, h2, h3⟩ : m.length ≤ maxLen ∧ 0 ≤ k ∧ k ≤ 1048576 := h
  have h1 : m.length ≤ 9223372036854775807 := h1
  refine vc_by (vc_szUs_eq m k) ?_
  rw [wrap_i64_in (n := k - m.length) (by omega) (by omega)]
  refine ⟨fun q => ⟨?_, rfl⟩, fun q => ⟨?_, rfl⟩⟩
  · have q : k - (m.length : Int) < 0 := of_decide_eq_true q
    unfold szM; rw [if_neg (by omega)]
  · have q : ¬ k - (m.length : Int) < 0 := of_decide_eq_false q
    unfold szM; rw [if_pos (by omega)]
theorem scheme_ok : Sound Try.prog 149 (pureS [u64] [bl] (fun s => some (U64 s)) schemeM) := by
  refine pure_plain mixed Try.func149 (by kernel_rfl) (by kernel_rfl) FY0_ok (fun (s : Int) h => ?_)
  refine vc_by (vc_scheme_eq s) ⟨by decide, fun _ => by decide, ?_⟩
  rw [show (2 : Int) ^ min (Int.toNat 60) 64 = 1152921504606846976 by decide]
  simp [schemeM]
theorem sscheme_ok : Sound Try.prog 146 (pureS [u64] [bl] (fun s => some (U64 s)) schemeM) := by
  refine pure_plain mixed Try.func146 (by kernel_rfl) (by kernel_rfl) FE3_ok (fun (s : Int) h => ?_)
  have h : U64 s := h
  have hb : bitsR (s, 60, 63) := ⟨h, show (0 : Int) ≤ 60 by decide, show (60 : Int) ≤ 63 by decide, show (63 : Int) ≤ 63 by decide, .inl (show (0 : Int) < 60 by decide)⟩
  refine vc_by (vc_sscheme_eq s) ⟨hb, fun _ => hb, ?_⟩
  rw [top_bits h]
  simp [schemeM]
theorem toUs_ok : Sound Try.prog 148 (pureS [usP] [usP] (fun m => some (SzR m.length)) (fun m => m)) := by
  refine pure_loop mixed Try.func148 (by kernel_rfl) (b := loopAt Try.f148 0) (k := 3) (by kernel_rfl) (by kernel_rfl) (by kernel_rfl) F0_ok (fun (m : Us) h => ?_)
  have h : SzR m.length := h
  have hs : m.length ≤ 2097152 := h
  refine ⟨.one 3 (toUsL m), toUsL m, fun i : Nat => m.length - i, one_loop _ _, fun (i : Nat) hi => vc_by (vc_toUs_r_eq m i) ?_, vc_by (vc_toUs_eq m) ?_⟩
  · have hi : i ≤ m.length := hi
    refine ⟨fun g => ?_, fun g => ?_⟩
    · have g : (i : Int) < m.length := of_decide_eq_true g
      rw [next_i64 h (by omega), show 0 + (i : Int).toNat = i by omega, fill_set _ _ _ (by omega)]
      exact ⟨⟨by omega, by omega⟩, by omega, ⟨by omega, by omega⟩, by simp; omega, i + 1, ⟨rfl, rfl, rfl, rfl, rfl, rfl, rfl⟩, by omega, by omega, fun _ _ => trivial⟩
    · have g : ¬ (i : Int) < m.length := of_decide_eq_false g
      have : i = m.length := by omega
      subst this
      exact ⟨(), ⟨rfl, rfl, rfl, by simp⟩, trivial⟩
  · exact ⟨⟨by omega, by omega, by omega⟩, 0, ⟨rfl, rfl, rfl, by omega, rfl, rfl, by simp [El.zero, Ty.zero]⟩, by omega, fun _ _ => ⟨rfl, rfl, rfl, rfl⟩⟩
theorem eqUs_ok : Sound Try.prog 151 (pureS [usP, usP] [bl] (fun t => some (t.1 = t.2 ∧ SzR t.1.length)) (fun _ => true)) := by
  refine pure_loop mixed Try.func151 (by kernel_rfl) (b := loopAt Try.f151 0) (k := 4) (by kernel_rfl) (by kernel_rfl) (by kernel_rfl) F0_ok (fun t h => ?_)
  obtain ⟨m, n⟩ : Us × Us := t
  obtain ⟨h0, h⟩ : m = n ∧ SzR m.length := h
  subst h0
  have hs : m.length ≤ 2097152 := h
  refine ⟨.one 4 (eqUsL m m), eqUsL m m, fun i : Nat => m.length - i, one_loop _ _, fun (i : Nat) hi => vc_by (vc_eqUs_r_eq m m i) ?_, vc_by (vc_eqUs_eq m m) ?_⟩
  · have hi : i ≤ m.length := hi
    refine ⟨fun g => ?_, fun g => ⟨(), ⟨rfl, rfl⟩, trivial⟩⟩
    have g : (i : Int) < m.length := of_decide_eq_true g
    rw [next_i64 h (by omega)]
    exact ⟨⟨by omega, by omega⟩, by omega, ⟨by omega, by omega⟩, by omega, fun e => by simp at e, fun _ => ⟨i + 1, ⟨rfl, rfl, rfl, rfl, rfl, rfl, rfl⟩, by omega, by omega, fun _ _ => trivial⟩⟩
  · exact ⟨fun e => by simp at e, fun _ => ⟨0, ⟨rfl, rfl, rfl, rfl, rfl, rfl, rfl⟩, by omega, fun _ _ => ⟨rfl, rfl, rfl⟩⟩⟩
theorem kHA1_ok : KnowsD Try.prog kHA1 := .cons (by kernel_rfl) szBy_ok <| .cons (by kernel_rfl) szUs_ok <| .cons (by kernel_rfl) scheme_ok <| .cons (by kernel_rfl) sscheme_ok <| .cons (by kernel_rfl) toUs_ok <| .cons (by kernel_rfl) eqUs_ok .nil
theorem FHA1_ok : DictOk Try.prog FHA1 := mkD_ok ((kHA1_ok.append kY1_ok).append kB1_ok) .nil .nil
theorem szH_ok : Sound Try.prog 64 (pureS [haP, i64] [i64] (fun t => some ((t.1.1.length ≤ maxLen ∧ t.1.2.1.length ≤ maxLen ∧ (toC t.1.2.2.2.2.2.2.2.2.2.2.2.2).1.2.2.length ≤ maxLen ∧ (toC t.1.2.2.2.2.2.2.2.2.2.2.2.2).2.1.2.2.length ≤ maxLen ∧ (toC t.1.2.2.2.2.2.2.2.2.2.2.2.2).2.2.2.2.length ≤ maxLen) ∧ 0 ≤ t.2 ∧ t.2 ≤ 1048576)) (fun t => szH t.1.1.length t.1.2.1.length (toC t.1.2.2.2.2.2.2.2.2.2.2.2.2) t.2)) := by
  refine pure_plain mixed Try.func64 (by kernel_rfl) (by kernel_rfl) FHA1_ok (fun t h => ?_)
  obtain ⟨⟨m, u, pc, mo, su, mx, sa, tv, ep, em, ca, tl, s1, w1, m1, s2, w2, m2, s3, w3, m3⟩, n⟩ : Ha × Int := t
  obtain ⟨⟨h1, h2, h3, h4, h5⟩, h6, h7⟩ : (m.length ≤ maxLen ∧ u.length ≤ maxLen ∧ m1.length ≤ maxLen ∧ m2.length ≤ maxLen ∧ m3.length ≤ maxLen) ∧ 0 ≤ n ∧ n ≤ 1048576 := h
  have g1 := szM_in (n := m.length) h7
  refine vc_by (vc_szH_eq m u pc mo su mx sa tv ep em ca tl s1 w1 m1 s2 w2 m2 s3 w3 m3 n) ⟨⟨rfl, h1, h6, h7⟩, fun q => ?_, fun q => ?_⟩
  · have q := of_decide_eq_true q
    simp [szH, q]
  · have q : ¬ szM m.length n < 0 := of_decide_eq_false q
    have g2 := szM_in (n := u.length) g1
    refine ⟨⟨rfl, h2, by show (0 : Int) ≤ _; omega, g1⟩, fun q2 => ?_, fun q2 => ?_⟩
    · have q2 := of_decide_eq_true q2
      simp [szH, q, q2]
    · have q2 : ¬ szM u.length (szM m.length n) < 0 := of_decide_eq_false q2
      refine ⟨⟨rfl, rfl, rfl, ⟨h3, h4, h5⟩, by show (0 : Int) ≤ _; omega, g2⟩, fun q3 => ?_, fun q3 => ?_⟩
      · have q3 := of_decide_eq_true q3
        have e : szC ((s1, w1, m1), (s2, w2, m2), (s3, w3, m3)) (szM u.length (szM m.length n)) = -1 := by
          revert q3
          generalize szM u.length (szM m.length n) = k
          intro q3
          unfold szC at q3 ⊢
          split at q3 <;> rename_i g
          · rw [if_pos g]
          · rw [if_neg g]
            split at q3 <;> rename_i g'
            · rw [if_pos g']
            · rw [if_neg g']
              exact szM_neg q3
        simp [szH, q, q2, e]
      · simp [szH, q, q2]
theorem toH_ok : Sound Try.prog 66 (pureS [haP] [haP] (fun h => some (SzH h)) (fun h => h)) := by
  refine pure_plain mixed Try.func66 (by kernel_rfl) (by kernel_rfl) FHA1_ok (fun t h => ?_)
  obtain ⟨m, u, pc, mo, su, mx, sa, tv, ep, em, ca, tl, s1, w1, m1, s2, w2, m2, s3, w3, m3⟩ : Ha := t
  obtain ⟨h1, h2, h3, h4, h5⟩ : SzR m.length ∧ SzR u.length ∧ SzR m1.length ∧ SzR m2.length ∧ SzR m3.length := h
  exact vc_by (vc_toH_eq m u pc mo su mx sa tv ep em ca tl s1 w1 m1 s2 w2 m2 s3 w3 m3) (by simp [h1, h2, h3, h4, h5])
theorem eqH_ok : Sound Try.prog 68 (pureS [haP, haP] [bl] (fun t => some (t.1 = t.2 ∧ SzH t.1)) (fun _ => true)) := by
  refine pure_plain mixed Try.func68 (by kernel_rfl) (by kernel_rfl) FHA1_ok (fun t h => ?_)
  obtain ⟨a, b⟩ : Ha × Ha := t
  obtain ⟨rfl, h⟩ : a = b ∧ SzH a := h
  obtain ⟨m, u, pc, mo, su, mx, sa, tv, ep, em, ca, tl, s1, w1, m1, s2, w2, m2, s3, w3, m3⟩ := a
  obtain ⟨h1, h2, h3, h4, h5⟩ : SzR m.length ∧ SzR u.length ∧ SzR m1.length ∧ SzR m2.length ∧ SzR m3.length := h
  exact vc_by (vc_eqH_eq m u pc mo su mx sa tv ep em ca tl s1 w1 m1 s2 w2 m2 s3 w3 m3) (by simp [h1, h2, h3, h4, h5])
theorem ivalH_ok : Sound Try.prog 67 (pureS [haP] [bl] (fun h => some (HaR h)) validH) := by
  refine pure_plain mixed Try.func67 (by kernel_rfl) (by kernel_rfl) FHA1_ok (fun t h => ?_)
  obtain ⟨m, u, pc, mo, su, mx, sa, tv, ep, em, ca, tl, s1, w1, m1, s2, w2, m2, s3, w3, m3⟩ : Ha := t
  obtain ⟨-, -, -, -, -, h6, -, -, -, -, -, h1, h2, h3⟩ : ByteR m ∧ SzR u.length ∧ (∀ r ∈ u, U64 r) ∧ U64 pc ∧ I64 mo ∧ U64 sa ∧ U64 tv ∧ U64 ep ∧ I64 em ∧ I64 ca ∧ U64 tl ∧ TlR (s1, w1, m1) ∧ TlR (s2, w2, m2) ∧ TlR (s3, w3, m3) := h
  refine vc_by (vc_ivalH_eq m u pc mo su mx sa tv ep em ca tl s1 w1 m1 s2 w2 m2 s3 w3 m3) ⟨by decide, fun q => ?_, fun q => ?_, fun _ => h6, fun _ => by decide, fun _ => ⟨rfl, rfl, rfl, h1, h2, h3⟩, ?_, rfl, rfl, rfl, rfl, rfl⟩
  · simp only [Bool.cond_false_right, Bool.and_eq_true, beq_iff_eq] at q
    exact ⟨by omega, by omega⟩
  · simp only [Bool.cond_false_right, Bool.and_eq_true, beq_iff_eq] at q
    show 0 + 0 < u.length
    omega
  · simp only [Bool.cond_false_right]
    rfl
theorem svalH_ok : Sound Try.prog 65 (pureS [haP] [bl] (fun h => some (HaR h)) validH) := by
  refine pure_plain mixed Try.func65 (by kernel_rfl) (by kernel_rfl) FHA1_ok (fun t h => ?_)
  obtain ⟨m, u, pc, mo, su, mx, sa, tv, ep, em, ca, tl, s1, w1, m1, s2, w2, m2, s3, w3, m3⟩ : Ha := t
  obtain ⟨-, -, -, -, -, h6, -, -, -, -, -, h1, h2, h3⟩ : ByteR m ∧ SzR u.length ∧ (∀ r ∈ u, U64 r) ∧ U64 pc ∧ I64 mo ∧ U64 sa ∧ U64 tv ∧ U64 ep ∧ I64 em ∧ I64 ca ∧ U64 tl ∧ TlR (s1, w1, m1) ∧ TlR (s2, w2, m2) ∧ TlR (s3, w3, m3) := h
  refine vc_by (vc_svalH_eq m u pc mo su mx sa tv ep em ca tl s1 w1 m1 s2 w2 m2 s3 w3 m3) ⟨by decide, fun q => ?_, fun q => ?_, fun _ => h6, fun _ => by decide, fun _ => ⟨rfl, rfl, rfl, h1, h2, h3⟩, ?_, rfl, rfl, rfl, rfl, rfl⟩
  · simp only [Bool.cond_false_right, Bool.and_eq_true, beq_iff_eq] at q
    exact ⟨by omega, by omega⟩
  · simp only [Bool.cond_false_right, Bool.and_eq_true, beq_iff_eq] at q
    show 0 + 0 < u.length
    omega
  · simp only [Bool.cond_false_right]
    rfl
theorem kHA2_ok : KnowsD Try.prog kHA2 := .cons (by kernel_rfl) szH_ok <| .cons (by kernel_rfl) toH_ok <| .cons (by kernel_rfl) eqH_ok <| .cons (by kernel_rfl) ivalH_ok <| .cons (by kernel_rfl) svalH_ok .nil
end Go.Proofs.Ytfiddfbagbaofaa.V
