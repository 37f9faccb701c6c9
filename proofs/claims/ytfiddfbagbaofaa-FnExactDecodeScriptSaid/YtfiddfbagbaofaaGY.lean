/- Translating through caches, and the laws' helpers on caches, answer as their models. Conditions: those in each statement. -/
import Derived.Test.YtfiddfbagbaofaaGX
import Derived.KernelRfl
namespace Go.Proofs.Ytfiddfbagbaofaa.V
open Go
def goodC (k : Cch) : Bool := validM false k.1 && validM false k.2.1 && validM true k.2.2
def ChR (k : Cch) : Prop := TlR k.1 ∧ TlR k.2.1 ∧ TlR k.2.2
abbrev chP : Pm := .st [.i .i64, .i .i64, .sl shE, .i .i64, .i .i64, .sl shE, .i .i64, .i .i64, .sl shE]
abbrev Cf := Int × Int × Es × Int × Int × Es × Int × Int × Es
def toC (x : Cf) : Cch := ((x.1, x.2.1, x.2.2.1), (x.2.2.2.1, x.2.2.2.2.1, x.2.2.2.2.2.1), (x.2.2.2.2.2.2.1, x.2.2.2.2.2.2.2.1, x.2.2.2.2.2.2.2.2))
def ofC (k : Cch) : Cf := (k.1.1, k.1.2.1, k.1.2.2, k.2.1.1, k.2.1.2.1, k.2.1.2.2, k.2.2.1, k.2.2.2.1, k.2.2.2.2)
def SzC (k : Cch) : Prop := SzR k.1.2.2.length ∧ SzR k.2.1.2.2.length ∧ SzR k.2.2.2.2.length
def markC (k : Cch) (n : Int) : Cch := ((k.1.1, k.1.2.1, markEs n k.1.2.2.length), (k.2.1.1, k.2.1.2.1, markEs (n + 6 * k.1.2.2.length) k.2.1.2.2.length), (k.2.2.1, k.2.2.2.1, markEs (n + 6 * k.1.2.2.length + 6 * k.2.1.2.2.length) k.2.2.2.2.length))
def MarkC (k : Cch) (n : Int) : Prop := SzC k ∧ 0 ≤ n ∧ n ≤ 1099511627776 - 60000000
def szC (k : Cch) (n : Int) : Int := if szM k.1.2.2.length n < 0 then -1 else if szM k.2.1.2.2.length (szM k.1.2.2.length n) < 0 then -1 else szM k.2.2.2.2.length (szM k.2.1.2.2.length (szM k.1.2.2.length n))

def kY0 : Known := kF4 ++ kE3 ++ kA4
def FY0 : Dict := mkD kY0 [] []
def vc_cvalid (s1 w1 : Int) (m1 : Es) (s2 w2 : Int) (m2 : Es) (s3 w3 : Int) (m3 : Es) : Prop := vcPure Try.prog FY0 .none Try.f150 [chP] [bl] (s1, w1, m1, s2, w2, m2, s3, w3, m3) (goodC ((s1, w1, m1), (s2, w2, m2), (s3, w3, m3)))
def vc_cclone (s1 w1 : Int) (m1 : Es) (s2 w2 : Int) (m2 : Es) (s3 w3 : Int) (m3 : Es) : Prop := vcPure Try.prog FY0 .none Try.f178 [chP] [chP] (s1, w1, m1, s2, w2, m2, s3, w3, m3) (s1, w1, m1, s2, w2, m2, s3, w3, m3)
def vc_sgoodC (s1 w1 : Int) (m1 : Es) (s2 w2 : Int) (m2 : Es) (s3 w3 : Int) (m3 : Es) : Prop := vcPure Try.prog FY0 .none Try.f147 [chP] [bl] (s1, w1, m1, s2, w2, m2, s3, w3, m3) (goodC ((s1, w1, m1), (s2, w2, m2), (s3, w3, m3)))
def vc_scaches (s1 w1 : Int) (m1 : Es) (s2 w2 : Int) (m2 : Es) (s3 w3 : Int) (m3 : Es) : Prop := vcPure Try.prog FY0 .none Try.f173 [chP] [chP] (s1, w1, m1, s2, w2, m2, s3, w3, m3) (s1, w1, m1, s2, w2, m2, s3, w3, m3)
def vc_sentry (l va s p : Int) : Prop := vcPure Try.prog FY0 .none Try.f177 [i64, u64, u64, u64] [enP] (l, va, s, p) (entM l va s p)
def vc_szC (s1 w1 : Int) (m1 : Es) (s2 w2 : Int) (m2 : Es) (s3 w3 : Int) (m3 : Es) (n : Int) : Prop := vcPure Try.prog FY0 .none Try.f78 [chP, i64] [i64] ((s1, w1, m1, s2, w2, m2, s3, w3, m3), n) (szC ((s1, w1, m1), (s2, w2, m2), (s3, w3, m3)) n)
def vc_toC (s1 w1 : Int) (m1 : Es) (s2 w2 : Int) (m2 : Es) (s3 w3 : Int) (m3 : Es) : Prop := vcPure Try.prog FY0 .none Try.f80 [chP] [chP] (s1, w1, m1, s2, w2, m2, s3, w3, m3) (s1, w1, m1, s2, w2, m2, s3, w3, m3)
def vc_eqC (s1 w1 : Int) (m1 : Es) (s2 w2 : Int) (m2 : Es) (s3 w3 : Int) (m3 : Es) : Prop := vcPure Try.prog FY0 .none Try.f83 [chP, chP] [bl] ((s1, w1, m1, s2, w2, m2, s3, w3, m3), (s1, w1, m1, s2, w2, m2, s3, w3, m3)) true
def vc_markC (s1 w1 : Int) (m1 : Es) (s2 w2 : Int) (m2 : Es) (s3 w3 : Int) (m3 : Es) (n : Int) : Prop := vcMut Try.prog FY0 .none Try.f84 [chP, i64] [i64] ((s1, w1, m1, s2, w2, m2, s3, w3, m3), n) ((ofC (markC ((s1, w1, m1), (s2, w2, m2), (s3, w3, m3)) n), n), n + 6 * m1.length + 6 * m2.length + 6 * m3.length)
def vc_heldC (s1 w1 : Int) (m1 : Es) (s2 w2 : Int) (m2 : Es) (s3 w3 : Int) (m3 : Es) (n : Int) : Prop := vcPure Try.prog FY0 .none Try.f180 [chP, i64] [i64] ((s1, w1, m1, s2, w2, m2, s3, w3, m3), n) (n + 6 * m1.length + 6 * m2.length + 6 * m3.length)
def kY1 : Known := [
  (150, pureS [chP] [bl] (fun x => some (ChR (toC x))) (fun x => goodC (toC x))),
  (178, pureS [chP] [chP] (fun x => some (SzC (toC x))) (fun x => x)),
  (147, pureS [chP] [bl] (fun x => some (ChR (toC x))) (fun x => goodC (toC x))),
  (173, pureS [chP] [chP] (fun x => some (SzC (toC x))) (fun x => x)),
  (177, pureS [i64, u64, u64, u64] [enP] (fun t => some (LvR t.1 ∧ U64 t.2.1 ∧ U64 t.2.2.1 ∧ U64 t.2.2.2)) (fun t => entM t.1 t.2.1 t.2.2.1 t.2.2.2)),
  (78, pureS [chP, i64] [i64] (fun t => some ((t.1.2.2.1.length ≤ maxLen ∧ t.1.2.2.2.2.2.1.length ≤ maxLen ∧ t.1.2.2.2.2.2.2.2.2.length ≤ maxLen) ∧ 0 ≤ t.2 ∧ t.2 ≤ 1048576)) (fun t => szC (toC t.1) t.2)),
  (80, pureS [chP] [chP] (fun x => some (SzC (toC x))) (fun x => x)),
  (83, pureS [chP, chP] [bl] (fun t => some (t.1 = t.2 ∧ SzC (toC t.1))) (fun _ => true)),
  (84, mutS [chP, i64] [i64] (fun t => some (MarkC (toC t.1) t.2)) (fun t => ((ofC (markC (toC t.1) t.2), t.2), t.2 + 6 * t.1.2.2.1.length + 6 * t.1.2.2.2.2.2.1.length + 6 * t.1.2.2.2.2.2.2.2.2.length))),
  (180, pureS [chP, i64] [i64] (fun t => some (MarkC (toC t.1) t.2 ∧ toC t.1 = markC (toC t.1) t.2)) (fun t => t.2 + 6 * t.1.2.2.1.length + 6 * t.1.2.2.2.2.2.1.length + 6 * t.1.2.2.2.2.2.2.2.2.length))]
end Go.Proofs.Ytfiddfbagbaofaa.V
namespace Go.Proofs.Ytfiddfbagbaofaa.V
open Go
set_option linter.unusedVariables false
theorem vc_cvalid_eq (s1 w1 : Int) (m1 : Es) (s2 w2 : Int) (m2 : Es) (s3 w3 : Int) (m3 : Es) : vc_cvalid s1 w1 m1 s2 w2 m2 s3 w3 m3 = (
 (List.length m1 = List.length m1 ∧ TlR (s1, w1, m1)) ∧ (validM false (s1, w1, m1) = true → List.length m2 = List.length m2 ∧ TlR (s2, w2, m2)) ∧ ((bif validM false (s1, w1, m1) then validM false (s2, w2, m2) else false) = true → List.length
 m3 = List.length m3 ∧ TlR (s3, w3, m3)) ∧ (goodC ((s1, w1, m1), (s2, w2, m2), s3, w3, m3) = bif bif validM false (s1, w1, m1) then validM false (s2, w2, m2) else false then validM true (s3, w3, m3) else false) ∧ m1 = m1 ∧ m2 = m2 ∧ m3 = m3) := by kernel_rfl
theorem vc_cclone_eq (s1 w1 : Int) (m1 : Es) (s2 w2 : Int) (m2 : Es) (s3 w3 : Int) (m3 : Es) : vc_cclone s1 w1 m1 s2 w2 m2 s3 w3 m3 = (
 (List.length m1 = List.length m1 ∧ SzR (List.length m1)) ∧ (List.length m2 = List.length m2 ∧ SzR (List.length m2)) ∧ (List.length m3 = List.length m3 ∧ SzR (List.length m3)) ∧ s1 = s1 ∧ w1 = w1 ∧ (0 : Nat) = (0 : Nat) ∧ List.length m1 =
 List.length m1 ∧ s2 = s2 ∧ w2 = w2 ∧ (0 : Nat) = (0 : Nat) ∧ List.length m2 = List.length m2 ∧ s3 = s3 ∧ w3 = w3 ∧ (0 : Nat) = (0 : Nat) ∧ List.length m3 = List.length m3 ∧ m1 = m1 ∧ m2 = m2 ∧ m3 = m3 ∧ m1 = m1 ∧ m2 = m2 ∧ m3 = m3) := by kernel_rfl
theorem vc_sgoodC_eq (s1 w1 : Int) (m1 : Es) (s2 w2 : Int) (m2 : Es) (s3 w3 : Int) (m3 : Es) : vc_sgoodC s1 w1 m1 s2 w2 m2 s3 w3 m3 = (
 (List.length m1 = List.length m1 ∧ TlR (s1, w1, m1)) ∧ (validM false (s1, w1, m1) = true → List.length m2 = List.length m2 ∧ TlR (s2, w2, m2)) ∧ ((bif validM false (s1, w1, m1) then validM false (s2, w2, m2) else false) = true → List.length
 m3 = List.length m3 ∧ TlR (s3, w3, m3)) ∧ (goodC ((s1, w1, m1), (s2, w2, m2), s3, w3, m3) = bif bif validM false (s1, w1, m1) then validM false (s2, w2, m2) else false then validM true (s3, w3, m3) else false) ∧ m1 = m1 ∧ m2 = m2 ∧ m3 = m3) := by kernel_rfl
theorem vc_scaches_eq (s1 w1 : Int) (m1 : Es) (s2 w2 : Int) (m2 : Es) (s3 w3 : Int) (m3 : Es) : vc_scaches s1 w1 m1 s2 w2 m2 s3 w3 m3 = (
 (List.length m1 = List.length m1 ∧ SzR (List.length m1)) ∧ (List.length m2 = List.length m2 ∧ SzR (List.length m2)) ∧ (List.length m3 = List.length m3 ∧ SzR (List.length m3)) ∧ s1 = s1 ∧ w1 = w1 ∧ (0 : Nat) = (0 : Nat) ∧ List.length m1 =
 List.length m1 ∧ s2 = s2 ∧ w2 = w2 ∧ (0 : Nat) = (0 : Nat) ∧ List.length m2 = List.length m2 ∧ s3 = s3 ∧ w3 = w3 ∧ (0 : Nat) = (0 : Nat) ∧ List.length m3 = List.length m3 ∧ m1 = m1 ∧ m2 = m2 ∧ m3 = m3 ∧ m1 = m1 ∧ m2 = m2 ∧ m3 = m3) := by kernel_rfl
theorem vc_sentry_eq (l va s p : Int) : vc_sentry l va s p = (
 (U64 va ∧ LvR l) ∧ U64 s ∧ bitR (p, (5 : Int)) ∧ (entM l va s p).fst = true ∧ (entM l va s p).snd.fst = l ∧ (entM l va s p).snd.snd.fst = tagM va l ∧ (entM l va s p).snd.snd.snd.fst = asidM s ∧ (entM l va s p).snd.snd.snd.snd.fst = bitM p
 (5 : Int) ∧ (entM l va s p).snd.snd.snd.snd.snd = p) := by kernel_rfl
theorem vc_szC_eq (s1 w1 : Int) (m1 : Es) (s2 w2 : Int) (m2 : Es) (s3 w3 : Int) (m3 : Es) (n : Int) : vc_szC s1 w1 m1 s2 w2 m2 s3 w3 m3 n = (
 (List.length m1 = List.length m1 ∧ List.length m1 ≤ (9223372036854775807 : Nat) ∧ (0 : PmT [i64]) ≤ n ∧ n ≤ (1048576 : PmT [i64])) ∧ (decide (szM (List.length m1) n < (0 : Int)) = true → szC ((s1, w1, m1), (s2, w2, m2), s3, w3, m3) n = (-1
 : Int) ∧ m1 = m1 ∧ m2 = m2 ∧ m3 = m3) ∧ (decide (szM (List.length m1) n < (0 : Int)) = false → (List.length m2 = List.length m2 ∧ List.length m2 ≤ (9223372036854775807 : Nat) ∧ (0 : PmT [i64]) ≤ szM (List.length m1) n ∧ szM (List.length m1)
 n ≤ (1048576 : PmT [i64])) ∧ (decide (szM (List.length m2) (szM (List.length m1) n) < (0 : Int)) = true → szC ((s1, w1, m1), (s2, w2, m2), s3, w3, m3) n = (-1 : Int) ∧ m1 = m1 ∧ m2 = m2 ∧ m3 = m3) ∧ (decide (szM (List.length m2) (szM
 (List.length m1) n) < (0 : Int)) = false → (List.length m3 = List.length m3 ∧ List.length m3 ≤ (9223372036854775807 : Nat) ∧ (0 : PmT [i64]) ≤ szM (List.length m2) (szM (List.length m1) n) ∧ szM (List.length m2) (szM (List.length m1) n) ≤
 (1048576 : PmT [i64])) ∧ (decide (szM (List.length m3) (szM (List.length m2) (szM (List.length m1) n)) < (0 : Int)) = true → szC ((s1, w1, m1), (s2, w2, m2), s3, w3, m3) n = (-1 : Int) ∧ m1 = m1 ∧ m2 = m2 ∧ m3 = m3) ∧ (decide (szM
 (List.length m3) (szM (List.length m2) (szM (List.length m1) n)) < (0 : Int)) = false → szC ((s1, w1, m1), (s2, w2, m2), s3, w3, m3) n = szM (List.length m3) (szM (List.length m2) (szM (List.length m1) n)) ∧ m1 = m1 ∧ m2 = m2 ∧ m3 = m3)))) := by kernel_rfl
theorem vc_toC_eq (s1 w1 : Int) (m1 : Es) (s2 w2 : Int) (m2 : Es) (s3 w3 : Int) (m3 : Es) : vc_toC s1 w1 m1 s2 w2 m2 s3 w3 m3 = (
 (List.length m1 = List.length m1 ∧ SzR (List.length m1)) ∧ (List.length m2 = List.length m2 ∧ SzR (List.length m2)) ∧ (List.length m3 = List.length m3 ∧ SzR (List.length m3)) ∧ s1 = s1 ∧ w1 = w1 ∧ (0 : Nat) = (0 : Nat) ∧ List.length m1 =
 List.length m1 ∧ s2 = s2 ∧ w2 = w2 ∧ (0 : Nat) = (0 : Nat) ∧ List.length m2 = List.length m2 ∧ s3 = s3 ∧ w3 = w3 ∧ (0 : Nat) = (0 : Nat) ∧ List.length m3 = List.length m3 ∧ m1 = m1 ∧ m2 = m2 ∧ m3 = m3 ∧ m1 = m1 ∧ m2 = m2 ∧ m3 = m3) := by kernel_rfl
theorem vc_eqC_eq (s1 w1 : Int) (m1 : Es) (s2 w2 : Int) (m2 : Es) (s3 w3 : Int) (m3 : Es) : vc_eqC s1 w1 m1 s2 w2 m2 s3 w3 m3 = (
 (List.length m1 = List.length m1 ∧ List.length m1 = List.length m1 ∧ (s1, w1, m1) = (s1, w1, m1) ∧ SzR (List.length m1)) ∧ ((!true) = true → true = false ∧ m1 = m1 ∧ m2 = m2 ∧ m3 = m3 ∧ m1 = m1 ∧ m2 = m2 ∧ m3 = m3) ∧ ((!true) = false →
 (List.length m2 = List.length m2 ∧ List.length m2 = List.length m2 ∧ (s2, w2, m2) = (s2, w2, m2) ∧ SzR (List.length m2)) ∧ ((!true) = true → true = false ∧ m1 = m1 ∧ m2 = m2 ∧ m3 = m3 ∧ m1 = m1 ∧ m2 = m2 ∧ m3 = m3) ∧ ((!true) = false →
 (List.length m3 = List.length m3 ∧ List.length m3 = List.length m3 ∧ (s3, w3, m3) = (s3, w3, m3) ∧ SzR (List.length m3)) ∧ ((!true) = true → true = false ∧ m1 = m1 ∧ m2 = m2 ∧ m3 = m3 ∧ m1 = m1 ∧ m2 = m2 ∧ m3 = m3) ∧ ((!true) = false → true
 = true ∧ m1 = m1 ∧ m2 = m2 ∧ m3 = m3 ∧ m1 = m1 ∧ m2 = m2 ∧ m3 = m3)))) := by kernel_rfl
theorem vc_markC_eq (s1 w1 : Int) (m1 : Es) (s2 w2 : Int) (m2 : Es) (s3 w3 : Int) (m3 : Es) (n : Int) : vc_markC s1 w1 m1 s2 w2 m2 s3 w3 m3 n = (
 (List.length m1 = List.length m1 ∧ MarkR (List.length m1) n) ∧ (List.length m2 = List.length m2 ∧ MarkR (List.length m2) (n + (6 : PmT [i64]) * (↑(List.length m1) : PmT [i64]))) ∧ (List.length m3 = List.length m3 ∧ MarkR (List.length m3) (n
 + (6 : PmT [i64]) * (↑(List.length m1) : PmT [i64]) + (6 : PmT [i64]) * (↑(List.length m2) : PmT [i64]))) ∧ n + (6 : PmT [i64]) * (↑(List.length m1) : PmT [i64]) + (6 : PmT [i64]) * (↑(List.length m2) : PmT [i64]) + (6 : PmT [i64]) *
 (↑(List.length m3) : PmT [i64]) = n + (6 : PmT [i64]) * (↑(List.length m1) : PmT [i64]) + (6 : PmT [i64]) * (↑(List.length m2) : PmT [i64]) + (6 : PmT [i64]) * (↑(List.length m3) : PmT [i64]) ∧ markEs n (List.length m1) = markEs n
 (List.length m1) ∧ markEs (n + (6 : Int) * (↑(List.length m1) : Int)) (List.length m2) = markEs (n + (6 : PmT [i64]) * (↑(List.length m1) : PmT [i64])) (List.length m2) ∧ markEs (n + (6 : Int) * (↑(List.length m1) : Int) + (6 : Int) *
 (↑(List.length m2) : Int)) (List.length m3) = markEs (n + (6 : PmT [i64]) * (↑(List.length m1) : PmT [i64]) + (6 : PmT [i64]) * (↑(List.length m2) : PmT [i64])) (List.length m3)) := by kernel_rfl
theorem vc_heldC_eq (s1 w1 : Int) (m1 : Es) (s2 w2 : Int) (m2 : Es) (s3 w3 : Int) (m3 : Es) (n : Int) : vc_heldC s1 w1 m1 s2 w2 m2 s3 w3 m3 n = (
 (List.length m1 = List.length m1 ∧ MarkR (List.length m1) n ∧ m1 = markEs n (List.length m1)) ∧ (decide (n + (6 : PmT [i64]) * (↑(List.length m1) : PmT [i64]) < (0 : Int)) = true → n + (6 : PmT [i64]) * (↑(List.length m1) : PmT [i64]) + (6
 : PmT [i64]) * (↑(List.length m2) : PmT [i64]) + (6 : PmT [i64]) * (↑(List.length m3) : PmT [i64]) = (-1 : Int) ∧ m1 = m1 ∧ m2 = m2 ∧ m3 = m3) ∧ (decide (n + (6 : PmT [i64]) * (↑(List.length m1) : PmT [i64]) < (0 : Int)) = false →
 (List.length m2 = List.length m2 ∧ MarkR (List.length m2) (n + (6 : PmT [i64]) * (↑(List.length m1) : PmT [i64])) ∧ m2 = markEs (n + (6 : PmT [i64]) * (↑(List.length m1) : PmT [i64])) (List.length m2)) ∧ (decide (n + (6 : PmT [i64]) *
 (↑(List.length m1) : PmT [i64]) + (6 : PmT [i64]) * (↑(List.length m2) : PmT [i64]) < (0 : Int)) = true → n + (6 : PmT [i64]) * (↑(List.length m1) : PmT [i64]) + (6 : PmT [i64]) * (↑(List.length m2) : PmT [i64]) + (6 : PmT [i64]) *
 (↑(List.length m3) : PmT [i64]) = (-1 : Int) ∧ m1 = m1 ∧ m2 = m2 ∧ m3 = m3) ∧ (decide (n + (6 : PmT [i64]) * (↑(List.length m1) : PmT [i64]) + (6 : PmT [i64]) * (↑(List.length m2) : PmT [i64]) < (0 : Int)) = false → (List.length m3 =
 List.length m3 ∧ MarkR (List.length m3) (n + (6 : PmT [i64]) * (↑(List.length m1) : PmT [i64]) + (6 : PmT [i64]) * (↑(List.length m2) : PmT [i64])) ∧ m3 = markEs (n + (6 : PmT [i64]) * (↑(List.length m1) : PmT [i64]) + (6 : PmT [i64]) *
 (↑(List.length m2) : PmT [i64])) (List.length m3)) ∧ (decide (n + (6 : PmT [i64]) * (↑(List.length m1) : PmT [i64]) + (6 : PmT [i64]) * (↑(List.length m2) : PmT [i64]) + (6 : PmT [i64]) * (↑(List.length m3) : PmT [i64]) < (0 : Int)) = true
 → n + (6 : PmT [i64]) * (↑(List.length m1) : PmT [i64]) + (6 : PmT [i64]) * (↑(List.length m2) : PmT [i64]) + (6 : PmT [i64]) * (↑(List.length m3) : PmT [i64]) = (-1 : Int) ∧ m1 = m1 ∧ m2 = m2 ∧ m3 = m3) ∧ (decide (n + (6 : PmT [i64]) *
 (↑(List.length m1) : PmT [i64]) + (6 : PmT [i64]) * (↑(List.length m2) : PmT [i64]) + (6 : PmT [i64]) * (↑(List.length m3) : PmT [i64]) < (0 : Int)) = false → n + (6 : PmT [i64]) * (↑(List.length m1) : PmT [i64]) + (6 : PmT [i64]) *
 (↑(List.length m2) : PmT [i64]) + (6 : PmT [i64]) * (↑(List.length m3) : PmT [i64]) = n + (6 : PmT [i64]) * (↑(List.length m1) : PmT [i64]) + (6 : PmT [i64]) * (↑(List.length m2) : PmT [i64]) + (6 : PmT [i64]) * (↑(List.length m3) : PmT
 [i64]) ∧ m1 = m1 ∧ m2 = m2 ∧ m3 = m3)))) := by kernel_rfl
end Go.Proofs.Ytfiddfbagbaofaa.V
namespace Go.Proofs.Ytfiddfbagbaofaa.V
open Go
set_option linter.unusedSimpArgs false
theorem kY0_ok : KnowsD Try.prog kY0 := (kF4_ok.append kE3_ok).append kA4_ok
theorem FY0_ok : DictOk Try.prog FY0 := mkD_ok kY0_ok .nil .nil
theorem goodC_bif (I D P : Tl) : goodC (I, D, P) = bif bif validM false I then validM false D else false then validM true P else false := by simp [goodC]
theorem cvalid_ok : Sound Try.prog 150 (pureS [chP] [bl] (fun x => some (ChR (toC x))) (fun x => goodC (toC x))) := by
  refine pure_plain mixed Try.func150 (by kernel_rfl) (by kernel_rfl) FY0_ok (fun t h => ?_)
  obtain ⟨s1, w1, m1, s2, w2, m2, s3, w3, m3⟩ : Cf := t
  obtain ⟨h1, h2, h3⟩ : TlR (s1, w1, m1) ∧ TlR (s2, w2, m2) ∧ TlR (s3, w3, m3) := h
  exact vc_by (vc_cvalid_eq s1 w1 m1 s2 w2 m2 s3 w3 m3) (by rw [goodC_bif]; simp [h1, h2, h3])
theorem sgoodC_ok : Sound Try.prog 147 (pureS [chP] [bl] (fun x => some (ChR (toC x))) (fun x => goodC (toC x))) := by
  refine pure_plain mixed Try.func147 (by kernel_rfl) (by kernel_rfl) FY0_ok (fun t h => ?_)
  obtain ⟨s1, w1, m1, s2, w2, m2, s3, w3, m3⟩ : Cf := t
  obtain ⟨h1, h2, h3⟩ : TlR (s1, w1, m1) ∧ TlR (s2, w2, m2) ∧ TlR (s3, w3, m3) := h
  exact vc_by (vc_sgoodC_eq s1 w1 m1 s2 w2 m2 s3 w3 m3) (by rw [goodC_bif]; simp [h1, h2, h3])
theorem cclone_ok : Sound Try.prog 178 (pureS [chP] [chP] (fun x => some (SzC (toC x))) (fun x => x)) := by
  refine pure_plain mixed Try.func178 (by kernel_rfl) (by kernel_rfl) FY0_ok (fun t h => ?_)
  obtain ⟨s1, w1, m1, s2, w2, m2, s3, w3, m3⟩ : Cf := t
  obtain ⟨h1, h2, h3⟩ : SzR m1.length ∧ SzR m2.length ∧ SzR m3.length := h
  exact vc_by (vc_cclone_eq s1 w1 m1 s2 w2 m2 s3 w3 m3) (by simp [h1, h2, h3])
theorem scaches_ok : Sound Try.prog 173 (pureS [chP] [chP] (fun x => some (SzC (toC x))) (fun x => x)) := by
  refine pure_plain mixed Try.func173 (by kernel_rfl) (by kernel_rfl) FY0_ok (fun t h => ?_)
  obtain ⟨s1, w1, m1, s2, w2, m2, s3, w3, m3⟩ : Cf := t
  obtain ⟨h1, h2, h3⟩ : SzR m1.length ∧ SzR m2.length ∧ SzR m3.length := h
  exact vc_by (vc_scaches_eq s1 w1 m1 s2 w2 m2 s3 w3 m3) (by simp [h1, h2, h3])
theorem toC_ok : Sound Try.prog 80 (pureS [chP] [chP] (fun x => some (SzC (toC x))) (fun x => x)) := by
  refine pure_plain mixed Try.func80 (by kernel_rfl) (by kernel_rfl) FY0_ok (fun t h => ?_)
  obtain ⟨s1, w1, m1, s2, w2, m2, s3, w3, m3⟩ : Cf := t
  obtain ⟨h1, h2, h3⟩ : SzR m1.length ∧ SzR m2.length ∧ SzR m3.length := h
  exact vc_by (vc_toC_eq s1 w1 m1 s2 w2 m2 s3 w3 m3) (by simp [h1, h2, h3])
theorem sentry_ok : Sound Try.prog 177 (pureS [i64, u64, u64, u64] [enP] (fun t => some (LvR t.1 ∧ U64 t.2.1 ∧ U64 t.2.2.1 ∧ U64 t.2.2.2)) (fun t => entM t.1 t.2.1 t.2.2.1 t.2.2.2)) := by
  refine pure_plain mixed Try.func177 (by kernel_rfl) (by kernel_rfl) FY0_ok (fun t h => ?_)
  obtain ⟨l, va, s, p⟩ : Int × Int × Int × Int := t
  obtain ⟨h1, h2, h3, h4⟩ : LvR l ∧ U64 va ∧ U64 s ∧ U64 p := h
  exact vc_by (vc_sentry_eq l va s p) ⟨⟨h2, h1⟩, h3, bitR_of h4 (by decide) (by decide), rfl, rfl, rfl, rfl, rfl, rfl⟩
theorem eqC_ok : Sound Try.prog 83 (pureS [chP, chP] [bl] (fun t => some (t.1 = t.2 ∧ SzC (toC t.1))) (fun _ => true)) := by
  refine pure_plain mixed Try.func83 (by kernel_rfl) (by kernel_rfl) FY0_ok (fun t h => ?_)
  obtain ⟨a, b⟩ : Cf × Cf := t
  obtain ⟨rfl, h⟩ : a = b ∧ SzC (toC a) := h
  obtain ⟨s1, w1, m1, s2, w2, m2, s3, w3, m3⟩ := a
  obtain ⟨h1, h2, h3⟩ : SzR m1.length ∧ SzR m2.length ∧ SzR m3.length := h
  exact vc_by (vc_eqC_eq s1 w1 m1 s2 w2 m2 s3 w3 m3) (by simp [h1, h2, h3])
theorem szM_in {n : Nat} {k : Int} (h : k ≤ 1048576) : szM n k ≤ 1048576 := by
  unfold szM
  split <;> omega
theorem szC_ok : Sound Try.prog 78 (pureS [chP, i64] [i64] (fun t => some ((t.1.2.2.1.length ≤ maxLen ∧ t.1.2.2.2.2.2.1.length ≤ maxLen ∧ t.1.2.2.2.2.2.2.2.2.length ≤ maxLen) ∧ 0 ≤ t.2 ∧ t.2 ≤ 1048576)) (fun t => szC (toC t.1) t.2)) := by
  refine pure_plain mixed Try.func78 (by kernel_rfl) (by kernel_rfl) FY0_ok (fun t h => ?_)
  obtain ⟨⟨s1, w1, m1, s2, w2, m2, s3, w3, m3⟩, n⟩ : Cf × Int := t
  obtain ⟨⟨h1, h2, h3⟩, h4, h5⟩ : (m1.length ≤ maxLen ∧ m2.length ≤ maxLen ∧ m3.length ≤ maxLen) ∧ 0 ≤ n ∧ n ≤ 1048576 := h
  have g1 := szM_in (n := m1.length) h5
  refine vc_by (vc_szC_eq s1 w1 m1 s2 w2 m2 s3 w3 m3 n) ⟨⟨rfl, h1, h4, h5⟩, fun q => ?_, fun q => ?_⟩
  · have q := of_decide_eq_true q
    simp [szC, q]
  · have q : ¬ szM m1.length n < 0 := of_decide_eq_false q
    have g2 := szM_in (n := m2.length) g1
    refine ⟨⟨rfl, h2, by show (0 : Int) ≤ _; omega, g1⟩, fun q2 => ?_, fun q2 => ?_⟩
    · have q2 := of_decide_eq_true q2
      simp [szC, q, q2]
    · have q2 : ¬ szM m2.length (szM m1.length n) < 0 := of_decide_eq_false q2
      refine ⟨⟨rfl, h3, by show (0 : Int) ≤ _; omega, g2⟩, fun q3 => ?_, fun q3 => ?_⟩
      · have q3 := of_decide_eq_true q3
        have e := szM_neg q3
        simp [szC, q, q2, e]
      · simp [szC, q, q2]
theorem markC_ok : Sound Try.prog 84 (mutS [chP, i64] [i64] (fun t => some (MarkC (toC t.1) t.2)) (fun t => ((ofC (markC (toC t.1) t.2), t.2), t.2 + 6 * t.1.2.2.1.length + 6 * t.1.2.2.2.2.2.1.length + 6 * t.1.2.2.2.2.2.2.2.2.length))) := by
  refine mut_plain mixed Try.func84 (by kernel_rfl) (by kernel_rfl) FY0_ok (fun t h => ?_)
  obtain ⟨⟨s1, w1, m1, s2, w2, m2, s3, w3, m3⟩, n⟩ : Cf × Int := t
  obtain ⟨⟨h1, h2, h3⟩, h4, h5⟩ : (SzR m1.length ∧ SzR m2.length ∧ SzR m3.length) ∧ 0 ≤ n ∧ n ≤ 1099511627776 - 60000000 := h
  have g1 : m1.length ≤ 2097152 := h1
  have g2 : m2.length ≤ 2097152 := h2
  have g3 : m3.length ≤ 2097152 := h3
  refine ⟨.none, vc_by (vc_markC_eq s1 w1 m1 s2 w2 m2 s3 w3 m3 n) ⟨⟨rfl, h1, h4, by omega⟩, ⟨rfl, h2, by show (0 : Int) ≤ _; omega, by show _ ≤ (1099511627776 : Int); omega⟩, ⟨rfl, h3, by show (0 : Int) ≤ _; omega, by show _ ≤ (1099511627776 : Int); omega⟩, rfl, ?_⟩⟩
  simp
theorem heldC_ok : Sound Try.prog 180 (pureS [chP, i64] [i64] (fun t => some (MarkC (toC t.1) t.2 ∧ toC t.1 = markC (toC t.1) t.2)) (fun t => t.2 + 6 * t.1.2.2.1.length + 6 * t.1.2.2.2.2.2.1.length + 6 * t.1.2.2.2.2.2.2.2.2.length)) := by
  refine pure_plain mixed Try.func180 (by kernel_rfl) (by kernel_rfl) FY0_ok (fun t h => ?_)
  obtain ⟨⟨s1, w1, m1, s2, w2, m2, s3, w3, m3⟩, n⟩ : Cf × Int := t
  obtain ⟨⟨⟨h1, h2, h3⟩, h4, h5⟩, he⟩ : ((SzR m1.length ∧ SzR m2.length ∧ SzR m3.length) ∧ 0 ≤ n ∧ n ≤ 1099511627776 - 60000000) ∧ ((s1, w1, m1), (s2, w2, m2), (s3, w3, m3)) = markC ((s1, w1, m1), (s2, w2, m2), (s3, w3, m3)) n := h
  have g1 : m1.length ≤ 2097152 := h1
  have g2 : m2.length ≤ 2097152 := h2
  have g3 : m3.length ≤ 2097152 := h3
  simp only [markC, Prod.mk.injEq, true_and] at he
  obtain ⟨e1, e2, e3⟩ := he
  refine vc_by (vc_heldC_eq s1 w1 m1 s2 w2 m2 s3 w3 m3 n) ⟨⟨rfl, ⟨h1, h4, by omega⟩, e1⟩, fun q => ?_, fun q => ⟨⟨rfl, ⟨h2, by show (0 : Int) ≤ _; omega, by show _ ≤ (1099511627776 : Int); omega⟩, e2⟩, fun q => ?_, fun q => ⟨⟨rfl, ⟨h3, by show (0 : Int) ≤ _; omega, by show _ ≤ (1099511627776 : Int); omega⟩, e3⟩, fun q => ?_, fun q => ⟨rfl, rfl, rfl, rfl⟩⟩⟩⟩
  · exact absurd (show n + 6 * (m1.length : Int) < 0 from of_decide_eq_true q) (by omega)
  · exact absurd (show n + 6 * (m1.length : Int) + 6 * (m2.length : Int) < 0 from of_decide_eq_true q) (by omega)
  · exact absurd (show n + 6 * (m1.length : Int) + 6 * (m2.length : Int) + 6 * (m3.length : Int) < 0 from of_decide_eq_true q) (by omega)
theorem kY1_ok : KnowsD Try.prog kY1 := .cons (by kernel_rfl) cvalid_ok <| .cons (by kernel_rfl) cclone_ok <| .cons (by kernel_rfl) sgoodC_ok <| .cons (by kernel_rfl) scaches_ok <| .cons (by kernel_rfl) sentry_ok <| .cons (by kernel_rfl) szC_ok <| .cons (by kernel_rfl) toC_ok <| .cons (by kernel_rfl) eqC_ok <| .cons (by kernel_rfl) markC_ok <| .cons (by kernel_rfl) heldC_ok .nil
end Go.Proofs.Ytfiddfbagbaofaa.V
