/- Translating through caches, and the laws' helpers on caches, answer as their models. Conditions: those in each statement. -/
import Derived.Test.YtfiddfbagbaofaaGX
import Derived.KernelRfl
namespace Go.Proofs.Ytfiddfbagbaofaa.V
open Go
def goodC (k : Cch) : Bool := validM false k.1 && validM false k.2.1 && validM true k.2.2
def ChR (k : Cch) : Prop := TlR k.1 ∧ TlR k.2.1 ∧ TlR k.2.2
/-- What translating asks for. -/
def TrnR (m : By) (c : Ct) (k : Cch) (kind va pick : Int) : Prop := ByteR m ∧ U64 c.2.2.2 ∧ U64 va ∧ goodC k = true ∧ ChR k ∧ 0 ≤ pick ∧ pick ≤ 255 ∧ 0 ≤ kind ∧ kind ≤ 2
def codeT (k : Nat) (r : TrR) : Prop := match k with | 0 => r.1 = 0 | 1 => r.1 = 1 | _ => r.1 = 2
def trS (k : Nat) : Sum := fun args H => match args, H with
  | [.ptr 0 2, .sl 4 1 0 n, .agg [.v (.int .i64 c0), .v (.bool c1), .v (.bool c2), .v (.int .u64 c3)], .v (.int .i64 kind), .v (.int .u64 va), .v (.int .i64 pick)], [b0, b1, b2, b3, .arr sh m false] =>
    if h : sh = [.i .u8] then (match getH 0 [b0, b1, b2, b3] with
      | some (x, n3, I, D, P) => some (some (n = (h ▸ m : List (El [.i .u8])).length ∧ n3 = lensM I D P ∧ TrnR (h ▸ m : List (El [.i .u8])) (c0, c1, c2, c3) (I, D, P) kind va pick ∧ codeT k (trM (h ▸ m : List (El [.i .u8])) (c0, c1, c2, c3) (I, D, P) kind va pick)),
          .tup [.v (.int .u64 (trM (h ▸ m : List (El [.i .u8])) (c0, c1, c2, c3) (I, D, P) kind va pick).2.1), errT k (trM (h ▸ m : List (El [.i .u8])) (c0, c1, c2, c3) (I, D, P) kind va pick).2.2.1], trH x (h ▸ m : List (El [.i .u8])) (trM (h ▸ m : List (El [.i .u8])) (c0, c1, c2, c3) (I, D, P) kind va pick).2.2.2)
      | none => none) else none
  | _, _ => none
abbrev chP : Pm := .st [.i .i64, .i .i64, .sl shE, .i .i64, .i .i64, .sl shE, .i .i64, .i .i64, .sl shE]
abbrev ttP : Pm := .st [.i .i64, .i .u64, .i .i64, .i .i64, .sl shE, .i .i64, .i .i64, .sl shE, .i .i64, .i .i64, .sl shE]
abbrev Cf := Int × Int × Es × Int × Int × Es × Int × Int × Es
def toC (x : Cf) : Cch := ((x.1, x.2.1, x.2.2.1), (x.2.2.2.1, x.2.2.2.2.1, x.2.2.2.2.2.1), (x.2.2.2.2.2.2.1, x.2.2.2.2.2.2.2.1, x.2.2.2.2.2.2.2.2))
def ofC (k : Cch) : Cf := (k.1.1, k.1.2.1, k.1.2.2, k.2.1.1, k.2.1.2.1, k.2.1.2.2, k.2.2.1, k.2.2.2.1, k.2.2.2.2)
def SzC (k : Cch) : Prop := SzR k.1.2.2.length ∧ SzR k.2.1.2.2.length ∧ SzR k.2.2.2.2.length
def causeM (e : Nat) (kind : Int) : Int := if e = 0 then 0 else if e = 1 then afM kind else pfM kind
def okT (c : Ct) (k : Cch) (kind pick : Int) : Bool := goodC k && askM c kind && decide (0 ≤ pick) && decide (pick ≤ 255)
def zC : Cch := ((0, 0, []), (0, 0, []), (0, 0, []))
def tlbM (m : By) (c : Ct) (k : Cch) (kind va pick : Int) : Int × Int × Cch := if okT c k kind pick = true then (causeM (trM m c k kind va pick).1 kind, (trM m c k kind va pick).2.1, (trM m c k kind va pick).2.2.2) else (63, 0, zC)
/-- The same, told flat. -/
def tlbF (m : By) (c : Ct) (x : Cf) (kind va pick : Int) : Int × Int × Cf := ((tlbM m c (toC x) kind va pick).1, (tlbM m c (toC x) kind va pick).2.1, ofC (tlbM m c (toC x) kind va pick).2.2)
def markC (k : Cch) (n : Int) : Cch := ((k.1.1, k.1.2.1, markEs n k.1.2.2.length), (k.2.1.1, k.2.1.2.1, markEs (n + 6 * k.1.2.2.length) k.2.1.2.2.length), (k.2.2.1, k.2.2.2.1, markEs (n + 6 * k.1.2.2.length + 6 * k.2.1.2.2.length) k.2.2.2.2.length))
def lenC (k : Cch) : Int := 6 * k.1.2.2.length + 6 * k.2.1.2.2.length + 6 * k.2.2.2.2.length
def MarkC (k : Cch) (n : Int) : Prop := SzC k ∧ 0 ≤ n ∧ n ≤ 1099511627776 - 60000000
def szC (k : Cch) (n : Int) : Int := if szM k.1.2.2.length n < 0 then -1 else if szM k.2.1.2.2.length (szM k.1.2.2.length n) < 0 then -1 else szM k.2.2.2.2.length (szM k.2.1.2.2.length (szM k.1.2.2.length n))

def kY0 : Known := kJ1 ++ kX2 ++ kN2
def FY0 : Dict := mkD kY0 [(179, (3, trS))] []
def vc_cvalid (s1 w1 : Int) (m1 : Es) (s2 w2 : Int) (m2 : Es) (s3 w3 : Int) (m3 : Es) : Prop := vcPure Try.prog FY0 .none Try.f150 [chP] [bl] (s1, w1, m1, s2, w2, m2, s3, w3, m3) (goodC ((s1, w1, m1), (s2, w2, m2), (s3, w3, m3)))
def vc_cclone (s1 w1 : Int) (m1 : Es) (s2 w2 : Int) (m2 : Es) (s3 w3 : Int) (m3 : Es) : Prop := vcPure Try.prog FY0 .none Try.f178 [chP] [chP] (s1, w1, m1, s2, w2, m2, s3, w3, m3) (s1, w1, m1, s2, w2, m2, s3, w3, m3)
def vc_sgoodC (s1 w1 : Int) (m1 : Es) (s2 w2 : Int) (m2 : Es) (s3 w3 : Int) (m3 : Es) : Prop := vcPure Try.prog FY0 .none Try.f147 [chP] [bl] (s1, w1, m1, s2, w2, m2, s3, w3, m3) (goodC ((s1, w1, m1), (s2, w2, m2), (s3, w3, m3)))
def vc_scaches (s1 w1 : Int) (m1 : Es) (s2 w2 : Int) (m2 : Es) (s3 w3 : Int) (m3 : Es) : Prop := vcPure Try.prog FY0 .none Try.f173 [chP] [chP] (s1, w1, m1, s2, w2, m2, s3, w3, m3) (s1, w1, m1, s2, w2, m2, s3, w3, m3)
def vc_sentry (l va s p : Int) : Prop := vcPure Try.prog FY0 .none Try.f177 [i64, u64, u64, u64] [enP] (l, va, s, p) (entM l va s p)
def vc_szC (s1 w1 : Int) (m1 : Es) (s2 w2 : Int) (m2 : Es) (s3 w3 : Int) (m3 : Es) (n : Int) : Prop := vcPure Try.prog FY0 .none Try.f78 [chP, i64] [i64] ((s1, w1, m1, s2, w2, m2, s3, w3, m3), n) (szC ((s1, w1, m1), (s2, w2, m2), (s3, w3, m3)) n)
def vc_toC (s1 w1 : Int) (m1 : Es) (s2 w2 : Int) (m2 : Es) (s3 w3 : Int) (m3 : Es) : Prop := vcPure Try.prog FY0 .none Try.f80 [chP] [chP] (s1, w1, m1, s2, w2, m2, s3, w3, m3) (s1, w1, m1, s2, w2, m2, s3, w3, m3)
def vc_eqC (s1 w1 : Int) (m1 : Es) (s2 w2 : Int) (m2 : Es) (s3 w3 : Int) (m3 : Es) : Prop := vcPure Try.prog FY0 .none Try.f83 [chP, chP] [bl] ((s1, w1, m1, s2, w2, m2, s3, w3, m3), (s1, w1, m1, s2, w2, m2, s3, w3, m3)) true
def vc_markC (s1 w1 : Int) (m1 : Es) (s2 w2 : Int) (m2 : Es) (s3 w3 : Int) (m3 : Es) (n : Int) : Prop := vcMut Try.prog FY0 .none Try.f84 [chP, i64] [i64] ((s1, w1, m1, s2, w2, m2, s3, w3, m3), n) ((ofC (markC ((s1, w1, m1), (s2, w2, m2), (s3, w3, m3)) n), n), n + 6 * m1.length + 6 * m2.length + 6 * m3.length)
def vc_heldC (s1 w1 : Int) (m1 : Es) (s2 w2 : Int) (m2 : Es) (s3 w3 : Int) (m3 : Es) (n : Int) : Prop := vcPure Try.prog FY0 .none Try.f180 [chP, i64] [i64] ((s1, w1, m1, s2, w2, m2, s3, w3, m3), n) (n + 6 * m1.length + 6 * m2.length + 6 * m3.length)
def kY1 : Known := [
  (150, pureS [chP] [bl] (fun x => some (ChR (toC x))) (fun x => goodC (toC x))),
  (178, pureS [chP] [chP] (fun x => some (SzC (toC x))) (fun x => x)),
  (147, pureS [chP] [bl] (fun x => some (ChR (toC x))) (fun x => goodC (toC x))),
  (173, pureS [chP] [chP] (fun x => some (SzC (toC x))) (fun x => x)),
  (177, pureS [i64, u64, u64, u64] [enP] (fun t => some (LvR t.1 ∧ U64 t.2.1 ∧ U64 t.2.2.1 ∧ U64 t.2.2.2)) (fun t => entM t.1 t.2.1 t.2.2.1 t.2.2.2)),
  (78, pureS [chP, i64] [i64] (fun t => some ((t.1.2.2.1.length ≤ maxLen ∧ t.1.2.2.2.2.2.1.length ≤ maxLen ∧ t.1.2.2.2.2.2.2.2.2.length ≤ maxLen) ∧ 0 ≤ t.2 ∧ t.2 ≤ 1048576)) (fun t => szC (toC t.1) t.2)),
  (80, pureS [chP] [chP] (fun x => some (SzC (toC x))) (fun x => x)),
  (83, pureS [chP, chP] [bl] (fun t => some (t.1 = t.2 ∧ SzC (toC t.1))) (fun _ => true)),
  (84, mutS [chP, i64] [i64] (fun t => some (MarkC (toC t.1) t.2)) (fun t => ((ofC (markC (toC t.1) t.2), t.2), t.2 + 6 * t.1.2.2.1.length + 6 * t.1.2.2.2.2.2.1.length + 6 * t.1.2.2.2.2.2.2.2.2.length))),
  (180, pureS [chP, i64] [i64] (fun t => some (MarkC (toC t.1) t.2 ∧ toC t.1 = markC (toC t.1) t.2)) (fun t => t.2 + 6 * t.1.2.2.1.length + 6 * t.1.2.2.2.2.2.1.length + 6 * t.1.2.2.2.2.2.2.2.2.length))]
def FY1 : Dict := mkD (kY1 ++ kY0) [(179, (3, trS))] []
def vc_iTlb (m : By) (c0 : Int) (c1 c2 : Bool) (c3 : Int) (s1 w1 : Int) (m1 : Es) (s2 w2 : Int) (m2 : Es) (s3 w3 : Int) (m3 : Es) (kind va pick : Int) (e pa : Int) (t1 u1 : Int) (n1 : Es) (t2 u2 : Int) (n2 : Es) (t3 u3 : Int) (n3 : Es) : Prop := vcPure Try.prog FY1 .none Try.f81 [byP, ctxP, chP, i64, u64, i64] [ttP] (m, (c0, c1, c2, c3), (s1, w1, m1, s2, w2, m2, s3, w3, m3), kind, va, pick) (e, pa, t1, u1, n1, t2, u2, n2, t3, u3, n3)
def vc_eqTT (e pa s1 w1 : Int) (m1 : Es) (s2 w2 : Int) (m2 : Es) (s3 w3 : Int) (m3 : Es) : Prop := vcPure Try.prog FY1 .none Try.f82 [ttP, ttP] [bl] ((e, pa, s1, w1, m1, s2, w2, m2, s3, w3, m3), (e, pa, s1, w1, m1, s2, w2, m2, s3, w3, m3)) true
def vc_markTT (e pa s1 w1 : Int) (m1 : Es) (s2 w2 : Int) (m2 : Es) (s3 w3 : Int) (m3 : Es) (n : Int) : Prop := vcMut Try.prog FY1 .none Try.f85 [ttP, i64] [i64] ((e, pa, s1, w1, m1, s2, w2, m2, s3, w3, m3), n) (((e, pa, ofC (markC ((s1, w1, m1), (s2, w2, m2), (s3, w3, m3)) n)), n), n + 6 * m1.length + 6 * m2.length + 6 * m3.length)
def vc_heldTT (e pa s1 w1 : Int) (m1 : Es) (s2 w2 : Int) (m2 : Es) (s3 w3 : Int) (m3 : Es) (n : Int) : Prop := vcPure Try.prog FY1 .none Try.f86 [ttP, i64] [i64] ((e, pa, s1, w1, m1, s2, w2, m2, s3, w3, m3), n) (n + 6 * m1.length + 6 * m2.length + 6 * m3.length)
end Go.Proofs.Ytfiddfbagbaofaa.V
namespace Go.Proofs.Ytfiddfbagbaofaa.V
open Go
set_option linter.unusedVariables false
theorem vc_cvalid_eq (s1 w1 : Int) (m1 : Es) (s2 w2 : Int) (m2 : Es) (s3 w3 : Int) (m3 : Es) : vc_cvalid s1 w1 m1 s2 w2 m2 s3 w3 m3 = (
 (List.length m1 = List.length m1 ∧ TlR (s1, w1, m1)) ∧ (validM false (s1, w1, m1) = true → List.length m2 = List.length m2 ∧ TlR (s2, w2, m2)) ∧ ((bif validM false (s1, w1, m1) then validM false (s2, w2, m2) else false) = true → List.length
 m3 = List.length m3 ∧ TlR (s3, w3, m3)) ∧ (goodC ((s1, w1, m1), (s2, w2, m2), s3, w3, m3) = bif bif validM false (s1, w1, m1) then validM false (s2, w2, m2) else false then validM true (s3, w3, m3) else false) ∧ m1 = m1 ∧ m2 = m2 ∧ m3 = m3) := by kernel_rfl
theorem vc_cclone_eq (s1 w1 : Int) (m1 : Es) (s2 w2 : Int) (m2 : Es) (s3 w3 : Int) (m3 : Es) : vc_cclone s1 w1 m1 s2 w2 m2 s3 w3 m3 = (
 (List.length m1 = List.length m1 ∧ SzR (List.length m1)) ∧ (List.length m2 = List.length m2 ∧ SzR (List.length m2)) ∧ (List.length m3 = List.length m3 ∧ SzR (List.length m3)) ∧ s1 = s1 ∧ w1 = w1 ∧ (0 : Nat) = (0 : Nat) ∧ List.length m1 =
 List.length m1 ∧ s2 = s2 ∧ w2 = w2 ∧ (0 : Nat) = (0 : Nat) ∧ List.length m2 = List.length m2 ∧ s3 = s3 ∧ w3 = w3 ∧ (0 : Nat) = (0 : Nat) ∧ List.length m3 = List.length m3 ∧ m1 = m1 ∧ m2 = m2 ∧ m3 = m3 ∧ m1 = m1 ∧ m2 = m2 ∧ m3 = m3) := by kernel_rfl
theorem vc_sgoodC_eq (s1 w1 : Int) (m1 : Es) (s2 w2 : Int) (m2 : Es) (s3 w3 : Int) (m3 : Es) : vc_sgoodC s1 w1 m1 s2 w2 m2 s3 w3 m3 = (
 (List.length m1 = List.length m1 ∧ TlR (s1, w1, m1)) ∧ (validM false (s1, w1, m1) = true → List.length m2 = List.length m2 ∧ TlR (s2, w2, m2)) ∧ ((bif validM false (s1, w1, m1) then validM false (s2, w2, m2) else false) = true → List.length
 m3 = List.length m3 ∧ TlR (s3, w3, m3)) ∧ (goodC ((s1, w1, m1), (s2, w2, m2), s3, w3, m3) = bif bif validM false (s1, w1, m1) then validM false (s2, w2, m2) else false then validM true (s3, w3, m3) else false) ∧ m1 = m1 ∧ m2 = m2 ∧ m3 = m3) := by kernel_rfl
theorem vc_scaches_eq (s1 w1 : Int) (m1 : Es) (s2 w2 : Int) (m2 : Es) (s3 w3 : Int) (m3 : Es) : vc_scaches s1 w1 m1 s2 w2 m2 s3 w3 m3 = (
 (List.length m1 = List.length m1 ∧ SzR (List.length m1)) ∧ (List.length m2 = List.length m2 ∧ SzR (List.length m2)) ∧ (List.length m3 = List.length m3 ∧ SzR (List.length m3)) ∧ s1 = s1 ∧ w1 = w1 ∧ (0 : Nat) = (0 : Nat) ∧ List.length m1 =
 List.length m1 ∧ s2 = s2 ∧ w2 = w2 ∧ (0 : Nat) = (0 : Nat) ∧ List.length m2 = List.length m2 ∧ s3 = s3 ∧ w3 = w3 ∧ (0 : Nat) = (0 : Nat) ∧ List.length m3 = List.length m3 ∧ m1 = m1 ∧ m2 = m2 ∧ m3 = m3 ∧ m1 = m1 ∧ m2 = m2 ∧ m3 = m3) := by kernel_rfl
theorem vc_sentry_eq (l va s p : Int) : vc_sentry l va s p = (
 (U64 va ∧ LvR l) ∧ U64 s ∧ bitR (p, (5 : Int)) ∧ (entM l va s p).fst = true ∧ (entM l va s p).snd.fst = l ∧ (entM l va s p).snd.snd.fst = tagM va l ∧ (entM l va s p).snd.snd.snd.fst = asidM s ∧ (entM l va s p).snd.snd.snd.snd.fst = bitM p
 (5 : Int) ∧ (entM l va s p).snd.snd.snd.snd.snd = p) := by kernel_rfl
theorem vc_szC_eq (s1 w1 : Int) (m1 : Es) (s2 w2 : Int) (m2 : Es) (s3 w3 : Int) (m3 : Es) (n : Int) : vc_szC s1 w1 m1 s2 w2 m2 s3 w3 m3 n = (
 (List.length m1 = List.length m1 ∧ List.length m1 ≤ (9223372036854775807 : Nat) ∧ (0 : PmT [i64]) ≤ n ∧ n ≤ (1048576 : PmT [i64])) ∧ (decide (szM (List.length m1) n < (0 : Int)) = true → szC ((s1, w1, m1), (s2, w2, m2), s3, w3, m3) n = (-1
 : Int) ∧ m1 = m1 ∧ m2 = m2 ∧ m3 = m3) ∧ (decide (szM (List.length m1) n < (0 : Int)) = false → (List.length m2 = List.length m2 ∧ List.length m2 ≤ (9223372036854775807 : Nat) ∧ (0 : PmT [i64]) ≤ szM (List.length m1) n ∧ szM (List.length m1)
 n ≤ (1048576 : PmT [i64])) ∧ (decide (szM (List.length m2) (szM (List.length m1) n) < (0 : Int)) = true → szC ((s1, w1, m1), (s2, w2, m2), s3, w3, m3) n = (-1 : Int) ∧ m1 = m1 ∧ m2 = m2 ∧ m3 = m3) ∧ (decide (szM (List.length m2) (szM
 (List.length m1) n) < (0 : Int)) = false → (List.length m3 = List.length m3 ∧ List.length m3 ≤ (9223372036854775807 : Nat) ∧ (0 : PmT [i64]) ≤ szM (List.length m2) (szM (List.length m1) n) ∧ szM (List.length m2) (szM (List.length m1) n) ≤
 (1048576 : PmT [i64])) ∧ (decide (szM (List.length m3) (szM (List.length m2) (szM (List.length m1) n)) < (0 : Int)) = true → szC ((s1, w1, m1), (s2, w2, m2), s3, w3, m3) n = (-1 : Int) ∧ m1 = m1 ∧ m2 = m2 ∧ m3 = m3) ∧ (decide (szM
 (List.length m3) (szM (List.length m2) (szM (List.length m1) n)) < (0 : Int)) = false → szC ((s1, w1, m1), (s2, w2, m2), s3, w3, m3) n = szM (List.length m3) (szM (List.length m2) (szM (List.length m1) n)) ∧ m1 = m1 ∧ m2 = m2 ∧ m3 = m3)))) := by kernel_rfl
theorem vc_toC_eq (s1 w1 : Int) (m1 : Es) (s2 w2 : Int) (m2 : Es) (s3 w3 : Int) (m3 : Es) : vc_toC s1 w1 m1 s2 w2 m2 s3 w3 m3 = (
 (List.length m1 = List.length m1 ∧ SzR (List.length m1)) ∧ (List.length m2 = List.length m2 ∧ SzR (List.length m2)) ∧ (List.length m3 = List.length m3 ∧ SzR (List.length m3)) ∧ s1 = s1 ∧ w1 = w1 ∧ (0 : Nat) = (0 : Nat) ∧ List.length m1 =
 List.length m1 ∧ s2 = s2 ∧ w2 = w2 ∧ (0 : Nat) = (0 : Nat) ∧ List.length m2 = List.length m2 ∧ s3 = s3 ∧ w3 = w3 ∧ (0 : Nat) = (0 : Nat) ∧ List.length m3 = List.length m3 ∧ m1 = m1 ∧ m2 = m2 ∧ m3 = m3 ∧ m1 = m1 ∧ m2 = m2 ∧ m3 = m3) := by kernel_rfl
theorem vc_eqC_eq (s1 w1 : Int) (m1 : Es) (s2 w2 : Int) (m2 : Es) (s3 w3 : Int) (m3 : Es) : vc_eqC s1 w1 m1 s2 w2 m2 s3 w3 m3 = (
 (List.length m1 = List.length m1 ∧ List.length m1 = List.length m1 ∧ (s1, w1, m1) = (s1, w1, m1) ∧ SzR (List.length m1)) ∧ ((!true) = true → true = false ∧ m1 = m1 ∧ m2 = m2 ∧ m3 = m3 ∧ m1 = m1 ∧ m2 = m2 ∧ m3 = m3) ∧ ((!true) = false →
 (List.length m2 = List.length m2 ∧ List.length m2 = List.length m2 ∧ (s2, w2, m2) = (s2, w2, m2) ∧ SzR (List.length m2)) ∧ ((!true) = true → true = false ∧ m1 = m1 ∧ m2 = m2 ∧ m3 = m3 ∧ m1 = m1 ∧ m2 = m2 ∧ m3 = m3) ∧ ((!true) = false →
 (List.length m3 = List.length m3 ∧ List.length m3 = List.length m3 ∧ (s3, w3, m3) = (s3, w3, m3) ∧ SzR (List.length m3)) ∧ ((!true) = true → true = false ∧ m1 = m1 ∧ m2 = m2 ∧ m3 = m3 ∧ m1 = m1 ∧ m2 = m2 ∧ m3 = m3) ∧ ((!true) = false → true
 = true ∧ m1 = m1 ∧ m2 = m2 ∧ m3 = m3 ∧ m1 = m1 ∧ m2 = m2 ∧ m3 = m3)))) := by kernel_rfl
theorem vc_markC_eq (s1 w1 : Int) (m1 : Es) (s2 w2 : Int) (m2 : Es) (s3 w3 : Int) (m3 : Es) (n : Int) : vc_markC s1 w1 m1 s2 w2 m2 s3 w3 m3 n = (
 (List.length m1 = List.length m1 ∧ MarkR (List.length m1) n) ∧ (List.length m2 = List.length m2 ∧ MarkR (List.length m2) (n + (6 : PmT [i64]) * (↑(List.length m1) : PmT [i64]))) ∧ (List.length m3 = List.length m3 ∧ MarkR (List.length m3) (n
 + (6 : PmT [i64]) * (↑(List.length m1) : PmT [i64]) + (6 : PmT [i64]) * (↑(List.length m2) : PmT [i64]))) ∧ n + (6 : PmT [i64]) * (↑(List.length m1) : PmT [i64]) + (6 : PmT [i64]) * (↑(List.length m2) : PmT [i64]) + (6 : PmT [i64]) *
 (↑(List.length m3) : PmT [i64]) = n + (6 : PmT [i64]) * (↑(List.length m1) : PmT [i64]) + (6 : PmT [i64]) * (↑(List.length m2) : PmT [i64]) + (6 : PmT [i64]) * (↑(List.length m3) : PmT [i64]) ∧ markEs n (List.length m1) = markEs n
 (List.length m1) ∧ markEs (n + (6 : Int) * (↑(List.length m1) : Int)) (List.length m2) = markEs (n + (6 : PmT [i64]) * (↑(List.length m1) : PmT [i64])) (List.length m2) ∧ markEs (n + (6 : Int) * (↑(List.length m1) : Int) + (6 : Int) *
 (↑(List.length m2) : Int)) (List.length m3) = markEs (n + (6 : PmT [i64]) * (↑(List.length m1) : PmT [i64]) + (6 : PmT [i64]) * (↑(List.length m2) : PmT [i64])) (List.length m3)) := by kernel_rfl
theorem vc_heldC_eq (s1 w1 : Int) (m1 : Es) (s2 w2 : Int) (m2 : Es) (s3 w3 : Int) (m3 : Es) (n : Int) : vc_heldC s1 w1 m1 s2 w2 m2 s3 w3 m3 n = (
 (List.length m1 = List.length m1 ∧ MarkR (List.length m1) n ∧ m1 = markEs n (List.length m1)) ∧ (decide (n + (6 : PmT [i64]) * (↑(List.length m1) : PmT [i64]) < (0 : Int)) = true → n + (6 : PmT [i64]) * (↑(List.length m1) : PmT [i64]) + (6
 : PmT [i64]) * (↑(List.length m2) : PmT [i64]) + (6 : PmT [i64]) * (↑(List.length m3) : PmT [i64]) = (-1 : Int) ∧ m1 = m1 ∧ m2 = m2 ∧ m3 = m3) ∧ (decide (n + (6 : PmT [i64]) * (↑(List.length m1) : PmT [i64]) < (0 : Int)) = false →
 (List.length m2 = List.length m2 ∧ MarkR (List.length m2) (n + (6 : PmT [i64]) * (↑(List.length m1) : PmT [i64])) ∧ m2 = markEs (n + (6 : PmT [i64]) * (↑(List.length m1) : PmT [i64])) (List.length m2)) ∧ (decide (n + (6 : PmT [i64]) *
 (↑(List.length m1) : PmT [i64]) + (6 : PmT [i64]) * (↑(List.length m2) : PmT [i64]) < (0 : Int)) = true → n + (6 : PmT [i64]) * (↑(List.length m1) : PmT [i64]) + (6 : PmT [i64]) * (↑(List.length m2) : PmT [i64]) + (6 : PmT [i64]) *
 (↑(List.length m3) : PmT [i64]) = (-1 : Int) ∧ m1 = m1 ∧ m2 = m2 ∧ m3 = m3) ∧ (decide (n + (6 : PmT [i64]) * (↑(List.length m1) : PmT [i64]) + (6 : PmT [i64]) * (↑(List.length m2) : PmT [i64]) < (0 : Int)) = false → (List.length m3 =
 List.length m3 ∧ MarkR (List.length m3) (n + (6 : PmT [i64]) * (↑(List.length m1) : PmT [i64]) + (6 : PmT [i64]) * (↑(List.length m2) : PmT [i64])) ∧ m3 = markEs (n + (6 : PmT [i64]) * (↑(List.length m1) : PmT [i64]) + (6 : PmT [i64]) *
 (↑(List.length m2) : PmT [i64])) (List.length m3)) ∧ (decide (n + (6 : PmT [i64]) * (↑(List.length m1) : PmT [i64]) + (6 : PmT [i64]) * (↑(List.length m2) : PmT [i64]) + (6 : PmT [i64]) * (↑(List.length m3) : PmT [i64]) < (0 : Int)) = true
 → n + (6 : PmT [i64]) * (↑(List.length m1) : PmT [i64]) + (6 : PmT [i64]) * (↑(List.length m2) : PmT [i64]) + (6 : PmT [i64]) * (↑(List.length m3) : PmT [i64]) = (-1 : Int) ∧ m1 = m1 ∧ m2 = m2 ∧ m3 = m3) ∧ (decide (n + (6 : PmT [i64]) *
 (↑(List.length m1) : PmT [i64]) + (6 : PmT [i64]) * (↑(List.length m2) : PmT [i64]) + (6 : PmT [i64]) * (↑(List.length m3) : PmT [i64]) < (0 : Int)) = false → n + (6 : PmT [i64]) * (↑(List.length m1) : PmT [i64]) + (6 : PmT [i64]) *
 (↑(List.length m2) : PmT [i64]) + (6 : PmT [i64]) * (↑(List.length m3) : PmT [i64]) = n + (6 : PmT [i64]) * (↑(List.length m1) : PmT [i64]) + (6 : PmT [i64]) * (↑(List.length m2) : PmT [i64]) + (6 : PmT [i64]) * (↑(List.length m3) : PmT
 [i64]) ∧ m1 = m1 ∧ m2 = m2 ∧ m3 = m3)))) := by kernel_rfl
theorem vc_iTlb_eq (m : By) (c0 : Int) (c1 c2 : Bool) (c3 : Int) (s1 w1 : Int) (m1 : Es) (s2 w2 : Int) (m2 : Es) (s3 w3 : Int) (m3 : Es) (kind va pick : Int) (e pa : Int) (t1 u1 : Int) (n1 : Es) (t2 u2 : Int) (n2 : Es) (t3 u3 : Int) (n3 : Es) : vc_iTlb m c0 c1 c2 c3 s1 w1 m1 s2 w2 m2 s3 w3 m3 kind va pick e pa t1 u1 n1 t2 u2 n2 t3 u3 n3 = (
 (List.length m1 = List.length m1 ∧ List.length m2 = List.length m2 ∧ List.length m3 = List.length m3 ∧ TlR (s1, w1, m1) ∧ TlR (s2, w2, m2) ∧ TlR (s3, w3, m3)) ∧ ((bif bif bif !goodC ((s1, w1, m1), (s2, w2, m2), s3, w3, m3) then true else
 !askM (c0, c1, c2, c3) kind then true else decide (pick < (0 : Int)) then true else decide (pick > (255 : Int))) = true → e = (63 : Int) ∧ pa = (0 : Int) ∧ t1 = (0 : Int) ∧ u1 = (0 : Int) ∧ (0 : Nat) = (0 : Nat) ∧ List.length n1 = (0 : Nat)
 ∧ t2 = (0 : Int) ∧ u2 = (0 : Int) ∧ (0 : Nat) = (0 : Nat) ∧ List.length n2 = (0 : Nat) ∧ t3 = (0 : Int) ∧ u3 = (0 : Int) ∧ (0 : Nat) = (0 : Nat) ∧ List.length n3 = (0 : Nat) ∧ m = m ∧ m1 = m1 ∧ m2 = m2 ∧ m3 = m3 ∧ n1 = [] ∧ n2 = [] ∧ n3 =
 []) ∧ ((bif bif bif !goodC ((s1, w1, m1), (s2, w2, m2), s3, w3, m3) then true else !askM (c0, c1, c2, c3) kind then true else decide (pick < (0 : Int)) then true else decide (pick > (255 : Int))) = false → (List.length m1 = List.length m1 ∧
 List.length m2 = List.length m2 ∧ List.length m3 = List.length m3 ∧ SzR (List.length m1) ∧ SzR (List.length m2) ∧ SzR (List.length m3)) ∧ (List.length m = List.length m ∧ (List.length m1, List.length m2, List.length m3) = lensM (s1, w1, m1)
 (s2, w2, m2) (s3, w3, m3) ∧ TrnR m (c0, c1, c2, c3) ((s1, w1, m1), (s2, w2, m2), s3, w3, m3) kind va pick ∧ codeT (0 : Nat) (trM m (c0, c1, c2, c3) ((s1, w1, m1), (s2, w2, m2), s3, w3, m3) kind va pick) ∨ List.length m = List.length m ∧
 (List.length m1, List.length m2, List.length m3) = lensM (s1, w1, m1) (s2, w2, m2) (s3, w3, m3) ∧ TrnR m (c0, c1, c2, c3) ((s1, w1, m1), (s2, w2, m2), s3, w3, m3) kind va pick ∧ codeT ((0 : Nat) + (1 : Nat)) (trM m (c0, c1, c2, c3) ((s1,
 w1, m1), (s2, w2, m2), s3, w3, m3) kind va pick) ∨ List.length m = List.length m ∧ (List.length m1, List.length m2, List.length m3) = lensM (s1, w1, m1) (s2, w2, m2) (s3, w3, m3) ∧ TrnR m (c0, c1, c2, c3) ((s1, w1, m1), (s2, w2, m2), s3,
 w3, m3) kind va pick ∧ codeT ((0 : Nat) + (1 : Nat) + (1 : Nat)) (trM m (c0, c1, c2, c3) ((s1, w1, m1), (s2, w2, m2), s3, w3, m3) kind va pick)) ∧ (List.length m = List.length m ∧ (List.length m1, List.length m2, List.length m3) = lensM
 (s1, w1, m1) (s2, w2, m2) (s3, w3, m3) ∧ TrnR m (c0, c1, c2, c3) ((s1, w1, m1), (s2, w2, m2), s3, w3, m3) kind va pick ∧ codeT (0 : Nat) (trM m (c0, c1, c2, c3) ((s1, w1, m1), (s2, w2, m2), s3, w3, m3) kind va pick) → ((0 : Int) ≤ kind ∧
 kind ≤ (2 : Int)) ∧ (true = true → e = (0 : Int) ∧ pa = (trM m (c0, c1, c2, c3) ((s1, w1, m1), (s2, w2, m2), s3, w3, m3) kind va pick).snd.fst ∧ t1 = (trM m (c0, c1, c2, c3) ((s1, w1, m1), (s2, w2, m2), s3, w3, m3) kind va
 pick).snd.snd.snd.fst.fst ∧ u1 = (trM m (c0, c1, c2, c3) ((s1, w1, m1), (s2, w2, m2), s3, w3, m3) kind va pick).snd.snd.snd.fst.snd.fst ∧ (0 : Nat) = (0 : Nat) ∧ List.length n1 = List.length (trM m (c0, c1, c2, c3) ((s1, w1, m1), (s2, w2,
 m2), s3, w3, m3) kind va pick).snd.snd.snd.fst.snd.snd ∧ t2 = (trM m (c0, c1, c2, c3) ((s1, w1, m1), (s2, w2, m2), s3, w3, m3) kind va pick).snd.snd.snd.snd.fst.fst ∧ u2 = (trM m (c0, c1, c2, c3) ((s1, w1, m1), (s2, w2, m2), s3, w3, m3)
 kind va pick).snd.snd.snd.snd.fst.snd.fst ∧ (0 : Nat) = (0 : Nat) ∧ List.length n2 = List.length (trM m (c0, c1, c2, c3) ((s1, w1, m1), (s2, w2, m2), s3, w3, m3) kind va pick).snd.snd.snd.snd.fst.snd.snd ∧ t3 = (trM m (c0, c1, c2, c3) ((s1,
 w1, m1), (s2, w2, m2), s3, w3, m3) kind va pick).snd.snd.snd.snd.snd.fst ∧ u3 = (trM m (c0, c1, c2, c3) ((s1, w1, m1), (s2, w2, m2), s3, w3, m3) kind va pick).snd.snd.snd.snd.snd.snd.fst ∧ (0 : Nat) = (0 : Nat) ∧ List.length n3 =
 List.length (trM m (c0, c1, c2, c3) ((s1, w1, m1), (s2, w2, m2), s3, w3, m3) kind va pick).snd.snd.snd.snd.snd.snd.snd ∧ m = m ∧ m1 = m1 ∧ m2 = m2 ∧ m3 = m3 ∧ n1 = (trM m (c0, c1, c2, c3) ((s1, w1, m1), (s2, w2, m2), s3, w3, m3) kind va
 pick).snd.snd.snd.fst.snd.snd ∧ n2 = (trM m (c0, c1, c2, c3) ((s1, w1, m1), (s2, w2, m2), s3, w3, m3) kind va pick).snd.snd.snd.snd.fst.snd.snd ∧ n3 = (trM m (c0, c1, c2, c3) ((s1, w1, m1), (s2, w2, m2), s3, w3, m3) kind va
 pick).snd.snd.snd.snd.snd.snd.snd) ∧ (true = false → e = (0 : Int) ∧ pa = Int.ofNat (0 : Nat) ∧ t1 = (trM m (c0, c1, c2, c3) ((s1, w1, m1), (s2, w2, m2), s3, w3, m3) kind va pick).snd.snd.snd.fst.fst ∧ u1 = (trM m (c0, c1, c2, c3) ((s1, w1,
 m1), (s2, w2, m2), s3, w3, m3) kind va pick).snd.snd.snd.fst.snd.fst ∧ (0 : Nat) = (0 : Nat) ∧ List.length n1 = List.length (trM m (c0, c1, c2, c3) ((s1, w1, m1), (s2, w2, m2), s3, w3, m3) kind va pick).snd.snd.snd.fst.snd.snd ∧ t2 = (trM m
 (c0, c1, c2, c3) ((s1, w1, m1), (s2, w2, m2), s3, w3, m3) kind va pick).snd.snd.snd.snd.fst.fst ∧ u2 = (trM m (c0, c1, c2, c3) ((s1, w1, m1), (s2, w2, m2), s3, w3, m3) kind va pick).snd.snd.snd.snd.fst.snd.fst ∧ (0 : Nat) = (0 : Nat) ∧
 List.length n2 = List.length (trM m (c0, c1, c2, c3) ((s1, w1, m1), (s2, w2, m2), s3, w3, m3) kind va pick).snd.snd.snd.snd.fst.snd.snd ∧ t3 = (trM m (c0, c1, c2, c3) ((s1, w1, m1), (s2, w2, m2), s3, w3, m3) kind va
 pick).snd.snd.snd.snd.snd.fst ∧ u3 = (trM m (c0, c1, c2, c3) ((s1, w1, m1), (s2, w2, m2), s3, w3, m3) kind va pick).snd.snd.snd.snd.snd.snd.fst ∧ (0 : Nat) = (0 : Nat) ∧ List.length n3 = List.length (trM m (c0, c1, c2, c3) ((s1, w1, m1),
 (s2, w2, m2), s3, w3, m3) kind va pick).snd.snd.snd.snd.snd.snd.snd ∧ m = m ∧ m1 = m1 ∧ m2 = m2 ∧ m3 = m3 ∧ n1 = (trM m (c0, c1, c2, c3) ((s1, w1, m1), (s2, w2, m2), s3, w3, m3) kind va pick).snd.snd.snd.fst.snd.snd ∧ n2 = (trM m (c0, c1,
 c2, c3) ((s1, w1, m1), (s2, w2, m2), s3, w3, m3) kind va pick).snd.snd.snd.snd.fst.snd.snd ∧ n3 = (trM m (c0, c1, c2, c3) ((s1, w1, m1), (s2, w2, m2), s3, w3, m3) kind va pick).snd.snd.snd.snd.snd.snd.snd)) ∧ (List.length m = List.length m
 ∧ (List.length m1, List.length m2, List.length m3) = lensM (s1, w1, m1) (s2, w2, m2) (s3, w3, m3) ∧ TrnR m (c0, c1, c2, c3) ((s1, w1, m1), (s2, w2, m2), s3, w3, m3) kind va pick ∧ codeT ((0 : Nat) + (1 : Nat)) (trM m (c0, c1, c2, c3) ((s1,
 w1, m1), (s2, w2, m2), s3, w3, m3) kind va pick) → ((0 : Int) ≤ kind ∧ kind ≤ (2 : Int)) ∧ e = afM kind ∧ pa = Int.ofNat (0 : Nat) ∧ t1 = (trM m (c0, c1, c2, c3) ((s1, w1, m1), (s2, w2, m2), s3, w3, m3) kind va pick).snd.snd.snd.fst.fst ∧
 u1 = (trM m (c0, c1, c2, c3) ((s1, w1, m1), (s2, w2, m2), s3, w3, m3) kind va pick).snd.snd.snd.fst.snd.fst ∧ (0 : Nat) = (0 : Nat) ∧ List.length n1 = List.length (trM m (c0, c1, c2, c3) ((s1, w1, m1), (s2, w2, m2), s3, w3, m3) kind va
 pick).snd.snd.snd.fst.snd.snd ∧ t2 = (trM m (c0, c1, c2, c3) ((s1, w1, m1), (s2, w2, m2), s3, w3, m3) kind va pick).snd.snd.snd.snd.fst.fst ∧ u2 = (trM m (c0, c1, c2, c3) ((s1, w1, m1), (s2, w2, m2), s3, w3, m3) kind va
 pick).snd.snd.snd.snd.fst.snd.fst ∧ (0 : Nat) = (0 : Nat) ∧ List.length n2 = List.length (trM m (c0, c1, c2, c3) ((s1, w1, m1), (s2, w2, m2), s3, w3, m3) kind va pick).snd.snd.snd.snd.fst.snd.snd ∧ t3 = (trM m (c0, c1, c2, c3) ((s1, w1,
 m1), (s2, w2, m2), s3, w3, m3) kind va pick).snd.snd.snd.snd.snd.fst ∧ u3 = (trM m (c0, c1, c2, c3) ((s1, w1, m1), (s2, w2, m2), s3, w3, m3) kind va pick).snd.snd.snd.snd.snd.snd.fst ∧ (0 : Nat) = (0 : Nat) ∧ List.length n3 = List.length
 (trM m (c0, c1, c2, c3) ((s1, w1, m1), (s2, w2, m2), s3, w3, m3) kind va pick).snd.snd.snd.snd.snd.snd.snd ∧ m = m ∧ m1 = m1 ∧ m2 = m2 ∧ m3 = m3 ∧ n1 = (trM m (c0, c1, c2, c3) ((s1, w1, m1), (s2, w2, m2), s3, w3, m3) kind va
 pick).snd.snd.snd.fst.snd.snd ∧ n2 = (trM m (c0, c1, c2, c3) ((s1, w1, m1), (s2, w2, m2), s3, w3, m3) kind va pick).snd.snd.snd.snd.fst.snd.snd ∧ n3 = (trM m (c0, c1, c2, c3) ((s1, w1, m1), (s2, w2, m2), s3, w3, m3) kind va
 pick).snd.snd.snd.snd.snd.snd.snd) ∧ (List.length m = List.length m ∧ (List.length m1, List.length m2, List.length m3) = lensM (s1, w1, m1) (s2, w2, m2) (s3, w3, m3) ∧ TrnR m (c0, c1, c2, c3) ((s1, w1, m1), (s2, w2, m2), s3, w3, m3) kind va
 pick ∧ codeT ((0 : Nat) + (1 : Nat) + (1 : Nat)) (trM m (c0, c1, c2, c3) ((s1, w1, m1), (s2, w2, m2), s3, w3, m3) kind va pick) → ((0 : Int) ≤ kind ∧ kind ≤ (2 : Int)) ∧ e = pfM kind ∧ pa = Int.ofNat (0 : Nat) ∧ t1 = (trM m (c0, c1, c2, c3)
 ((s1, w1, m1), (s2, w2, m2), s3, w3, m3) kind va pick).snd.snd.snd.fst.fst ∧ u1 = (trM m (c0, c1, c2, c3) ((s1, w1, m1), (s2, w2, m2), s3, w3, m3) kind va pick).snd.snd.snd.fst.snd.fst ∧ (0 : Nat) = (0 : Nat) ∧ List.length n1 = List.length
 (trM m (c0, c1, c2, c3) ((s1, w1, m1), (s2, w2, m2), s3, w3, m3) kind va pick).snd.snd.snd.fst.snd.snd ∧ t2 = (trM m (c0, c1, c2, c3) ((s1, w1, m1), (s2, w2, m2), s3, w3, m3) kind va pick).snd.snd.snd.snd.fst.fst ∧ u2 = (trM m (c0, c1, c2,
 c3) ((s1, w1, m1), (s2, w2, m2), s3, w3, m3) kind va pick).snd.snd.snd.snd.fst.snd.fst ∧ (0 : Nat) = (0 : Nat) ∧ List.length n2 = List.length (trM m (c0, c1, c2, c3) ((s1, w1, m1), (s2, w2, m2), s3, w3, m3) kind va
 pick).snd.snd.snd.snd.fst.snd.snd ∧ t3 = (trM m (c0, c1, c2, c3) ((s1, w1, m1), (s2, w2, m2), s3, w3, m3) kind va pick).snd.snd.snd.snd.snd.fst ∧ u3 = (trM m (c0, c1, c2, c3) ((s1, w1, m1), (s2, w2, m2), s3, w3, m3) kind va
 pick).snd.snd.snd.snd.snd.snd.fst ∧ (0 : Nat) = (0 : Nat) ∧ List.length n3 = List.length (trM m (c0, c1, c2, c3) ((s1, w1, m1), (s2, w2, m2), s3, w3, m3) kind va pick).snd.snd.snd.snd.snd.snd.snd ∧ m = m ∧ m1 = m1 ∧ m2 = m2 ∧ m3 = m3 ∧ n1 =
 (trM m (c0, c1, c2, c3) ((s1, w1, m1), (s2, w2, m2), s3, w3, m3) kind va pick).snd.snd.snd.fst.snd.snd ∧ n2 = (trM m (c0, c1, c2, c3) ((s1, w1, m1), (s2, w2, m2), s3, w3, m3) kind va pick).snd.snd.snd.snd.fst.snd.snd ∧ n3 = (trM m (c0, c1,
 c2, c3) ((s1, w1, m1), (s2, w2, m2), s3, w3, m3) kind va pick).snd.snd.snd.snd.snd.snd.snd))) := by kernel_rfl
theorem vc_eqTT_eq (e pa s1 w1 : Int) (m1 : Es) (s2 w2 : Int) (m2 : Es) (s3 w3 : Int) (m3 : Es) : vc_eqTT e pa s1 w1 m1 s2 w2 m2 s3 w3 m3 = (
 ((e != e) = true → true = false ∧ m1 = m1 ∧ m2 = m2 ∧ m3 = m3 ∧ m1 = m1 ∧ m2 = m2 ∧ m3 = m3) ∧ ((e != e) = false → ((pa != pa) = true → true = false ∧ m1 = m1 ∧ m2 = m2 ∧ m3 = m3 ∧ m1 = m1 ∧ m2 = m2 ∧ m3 = m3) ∧ ((pa != pa) = false →
 (List.length m1 = List.length m1 ∧ List.length m2 = List.length m2 ∧ List.length m3 = List.length m3 ∧ List.length m1 = List.length m1 ∧ List.length m2 = List.length m2 ∧ List.length m3 = List.length m3 ∧ (s1, w1, m1, s2, w2, m2, s3, w3,
 m3) = (s1, w1, m1, s2, w2, m2, s3, w3, m3) ∧ SzR (List.length m1) ∧ SzR (List.length m2) ∧ SzR (List.length m3)) ∧ ((!true) = true → true = false ∧ m1 = m1 ∧ m2 = m2 ∧ m3 = m3 ∧ m1 = m1 ∧ m2 = m2 ∧ m3 = m3) ∧ ((!true) = false → true = true
 ∧ m1 = m1 ∧ m2 = m2 ∧ m3 = m3 ∧ m1 = m1 ∧ m2 = m2 ∧ m3 = m3)))) := by kernel_rfl
theorem vc_markTT_eq (e pa s1 w1 : Int) (m1 : Es) (s2 w2 : Int) (m2 : Es) (s3 w3 : Int) (m3 : Es) (n : Int) : vc_markTT e pa s1 w1 m1 s2 w2 m2 s3 w3 m3 n = (
 (List.length m1 = List.length m1 ∧ List.length m2 = List.length m2 ∧ List.length m3 = List.length m3 ∧ (SzR (List.length m1) ∧ SzR (List.length m2) ∧ SzR (List.length m3)) ∧ (0 : Int) ≤ n ∧ n ≤ (1099511627776 : Int) - (60000000 : Int)) ∧ n
 + (6 : PmT [i64]) * (↑(List.length m1) : PmT [i64]) + (6 : PmT [i64]) * (↑(List.length m2) : PmT [i64]) + (6 : PmT [i64]) * (↑(List.length m3) : PmT [i64]) = n + (6 : PmT [i64]) * (↑(List.length m1) : PmT [i64]) + (6 : PmT [i64]) *
 (↑(List.length m2) : PmT [i64]) + (6 : PmT [i64]) * (↑(List.length m3) : PmT [i64]) ∧ markEs n (List.length m1) = markEs n (List.length m1) ∧ markEs (n + (6 : Int) * (↑(List.length m1) : Int)) (List.length m2) = markEs (n + (6 : Int) *
 (↑(List.length m1) : Int)) (List.length m2) ∧ markEs (n + (6 : Int) * (↑(List.length m1) : Int) + (6 : Int) * (↑(List.length m2) : Int)) (List.length m3) = markEs (n + (6 : Int) * (↑(List.length m1) : Int) + (6 : Int) * (↑(List.length m2) :
 Int)) (List.length m3)) := by kernel_rfl
theorem vc_heldTT_eq (e pa s1 w1 : Int) (m1 : Es) (s2 w2 : Int) (m2 : Es) (s3 w3 : Int) (m3 : Es) (n : Int) : vc_heldTT e pa s1 w1 m1 s2 w2 m2 s3 w3 m3 n = (
 (List.length m1 = List.length m1 ∧ List.length m2 = List.length m2 ∧ List.length m3 = List.length m3 ∧ ((SzR (List.length m1) ∧ SzR (List.length m2) ∧ SzR (List.length m3)) ∧ (0 : Int) ≤ n ∧ n ≤ (1099511627776 : Int) - (60000000 : Int)) ∧
 ((s1, w1, m1), (s2, w2, m2), s3, w3, m3) = ((s1, w1, markEs n (List.length m1)), (s2, w2, markEs (n + (6 : Int) * (↑(List.length m1) : Int)) (List.length m2)), s3, w3, markEs (n + (6 : Int) * (↑(List.length m1) : Int) + (6 : Int) *
 (↑(List.length m2) : Int)) (List.length m3))) ∧ (decide (n + (6 : PmT [i64]) * (↑(List.length m1) : PmT [i64]) + (6 : PmT [i64]) * (↑(List.length m2) : PmT [i64]) + (6 : PmT [i64]) * (↑(List.length m3) : PmT [i64]) < (0 : Int)) = true → n +
 (6 : PmT [i64]) * (↑(List.length m1) : PmT [i64]) + (6 : PmT [i64]) * (↑(List.length m2) : PmT [i64]) + (6 : PmT [i64]) * (↑(List.length m3) : PmT [i64]) = (-1 : Int) ∧ m1 = m1 ∧ m2 = m2 ∧ m3 = m3) ∧ (decide (n + (6 : PmT [i64]) *
 (↑(List.length m1) : PmT [i64]) + (6 : PmT [i64]) * (↑(List.length m2) : PmT [i64]) + (6 : PmT [i64]) * (↑(List.length m3) : PmT [i64]) < (0 : Int)) = false → n + (6 : PmT [i64]) * (↑(List.length m1) : PmT [i64]) + (6 : PmT [i64]) *
 (↑(List.length m2) : PmT [i64]) + (6 : PmT [i64]) * (↑(List.length m3) : PmT [i64]) = n + (6 : PmT [i64]) * (↑(List.length m1) : PmT [i64]) + (6 : PmT [i64]) * (↑(List.length m2) : PmT [i64]) + (6 : PmT [i64]) * (↑(List.length m3) : PmT
 [i64]) ∧ m1 = m1 ∧ m2 = m2 ∧ m3 = m3)) := by kernel_rfl
end Go.Proofs.Ytfiddfbagbaofaa.V
namespace Go.Proofs.Ytfiddfbagbaofaa.V
open Go
set_option linter.unusedSimpArgs false
/-! ### plain facts -/
theorem findP_spec {va asid : Int} {m : Es} : ∀ n : Nat, n ≤ m.length → (findP va asid m n = (false, 0, 0, 0)) ∨ ∃ i, i < n ∧ fitsM (m.getD i zE) va asid = true ∧ findP va asid m n = (true, (i : Int), (m.getD i zE).2.1, (m.getD i zE).2.2.2.2.2)
  | 0, _ => .inl rfl
  | n + 1, h => by
    unfold findP findStep
    split
    · rename_i q
      simp only [Bool.and_eq_true] at q
      exact .inr ⟨n, by omega, q.1, rfl⟩
    · rcases findP_spec (va := va) (asid := asid) (m := m) n (by omega) with e | ⟨i, h1, h2, h3⟩
      · exact .inl e
      · exact .inr ⟨i, by omega, h2, h3⟩
theorem find_spec {va asid : Int} {m : Es} (h : (findM va asid m).1 = true) : ∃ i, i < m.length ∧ fitsM (m.getD i zE) va asid = true ∧ findM va asid m = (true, (i : Int), (m.getD i zE).2.1, (m.getD i zE).2.2.2.2.2) := by
  rcases findP_spec (va := va) (asid := asid) (m := m) m.length (Nat.le_refl _) with e | e
  · unfold findM at h
    rw [e] at h
    cases h
  · exact e
theorem valid_good {p : Bool} {t : Tl} (h : validM p t = true) {i : Nat} (hi : i < t.2.2.length) (hv : (t.2.2.getD i zE).1 = true) : goodE p (t.2.2.getD i zE) = true := by
  simp only [validM, Bool.and_eq_true] at h
  have := rowsM_iff.1 h.2 i hi
  simp only [okAt, Bool.or_eq_true, Bool.and_eq_true] at this
  rcases this with e | e
  · have e : t.2.2.getD i zE = zE := by simpa using e
    rw [e] at hv
    cases hv
  · exact e.1
theorem good_kind {p : Bool} {e : En} (h : goodE p e = true) : LvR e.2.1 ∧ kindM e.2.2.2.2.2 e.2.1 = wantM p := by
  simp only [goodE, Bool.and_eq_true, decide_eq_true_eq, beq_iff_eq] at h
  exact ⟨lvM_iff.1 h.1.1.1.1.2, h.2⟩
/-- What a hit in a valid cache is. -/
theorem hit_spec {p : Bool} {t : Tl} {va asid : Int} (h : validM p t = true) (ht : TlR t) (hf : (findM va asid t.2.2).1 = true) : LvR (findM va asid t.2.2).2.2.1 ∧ U64 (findM va asid t.2.2).2.2.2 ∧ kindM (findM va asid t.2.2).2.2.2 (findM va asid t.2.2).2.2.1 = wantM p := by
  obtain ⟨i, hi, hfit, e⟩ := find_spec hf
  rw [e]
  have hv : (t.2.2.getD i zE).1 = true := by
    simp only [fitsM, Bool.and_eq_true] at hfit
    exact hfit.1.1
  obtain ⟨h1, h2⟩ := good_kind (valid_good h hi hv)
  exact ⟨h1, (ht.2.2.2 _ (get_mem hi zE)).2.2.2, h2⟩
theorem kind_ptr {p l : Int} (h : kindM p l = 1) : l ≠ 0 := kind_low (by rw [h]; decide) (by rw [h]; decide)
theorem eta3 {α β γ : Type} (t : α × β × γ) : (t.1, t.2.1, t.2.2) = t := rfl
theorem start_in {m : By} {satp va : Int} {P : Tl} (hm : ByteR m) (hv : U64 va) (hP : validM true P = true) (hR : TlR P) : FromR m (startM satp va P).1 (startM satp va P).2 va := by
  unfold startM
  split
  · rename_i hf
    obtain ⟨h1, h2, h3⟩ := hit_spec hP hR hf
    have h4 := kind_ptr (show kindM _ _ = 1 from h3)
    obtain ⟨g0, g1⟩ := ppn_in h2
    exact ⟨hm, g0, g1, ⟨by have := h1.1; show 0 ≤ _ - 1; omega, by have := h1.2; show _ - 1 ≤ (2 : Int); omega⟩, hv⟩
  · exact ⟨hm, Int.emod_nonneg _ (by decide), Int.emod_lt_of_pos _ (by decide), ⟨show (0 : Int) ≤ 2 by decide, show (2 : Int) ≤ 2 by decide⟩, hv⟩
theorem insT_head (t : Tl) (e : En) (pick : Int) : (insT t e pick).1 = t.1 ∧ (insT t e pick).2.1 = t.2.1 ∧ (insT t e pick).2.2.length = t.2.2.length := ⟨rfl, rfl, by simp [insT, insMs_length]⟩
theorem good_either {p : Bool} {t : Tl} (h : validM p t = true) : eitherM t = true := by cases p <;> simp [eitherM, h]
theorem tr_vcI (x0 x1 : Int) (m : By) (s1 w1 : Int) (m1 : Es) (s2 w2 : Int) (m2 : Es) (s3 w3 : Int) (m3 : Es) (c0 : Int) (c1 c2 : Bool) (c3 kind va pick : Int) (h : TrnR m (c0, c1, c2, c3) ((s1, w1, m1), (s2, w2, m2), (s3, w3, m3)) kind va pick) (hk : kind = 0) {e : Nat} {pa l : Int} {t1 t2 t3 : Es} (hr : trM m (c0, c1, c2, c3) ((s1, w1, m1), (s2, w2, m2), (s3, w3, m3)) kind va pick = (e, pa, l, (s1, w1, t1), (s2, w2, t2), (s3, w3, t3))) : vc_trI x0 x1 m s1 w1 m1 s2 w2 m2 s3 w3 m3 c0 c1 c2 c3 kind va pick e pa l t1 t2 t3 := by
  obtain ⟨hm, hc3, hv, hgc, ⟨r1, r2, r3⟩, p0, p1, -, -⟩ := h
  have hc3 : U64 c3 := hc3
  simp only [goodC, Bool.and_eq_true] at hgc
  obtain ⟨⟨g1, g2⟩, g3⟩ := hgc
  have hd1 := valid_head g1
  have hd2 := valid_head g2
  have hd3 := valid_head g3
  have hpick : ∀ k : Cch, pickT kind k = k.1 := fun k => by unfold pickT; rw [if_pos hk]
  have hput : ∀ (k : Cch) (t : Tl), putT kind k t = (t, k.2.1, k.2.2) := fun k t => by unfold putT; rw [if_pos hk]
  refine vc_by (vc_trI_eq x0 x1 m s1 w1 m1 s2 w2 m2 s3 w3 m3 c0 c1 c2 c3 kind va pick e pa l t1 t2 t3) ⟨hc3, fun q => ?_, fun q => ⟨hv, fun q2 => ?_, fun q2 => ⟨by simp [hk], hc3, ⟨rfl, good_either g1, r1, hv⟩, findM va (asidM c3) m1, by simp, fun q3 => ?_, fun q3 => ⟨hc3, hc3, ⟨rfl, good_either g3, r3, hv⟩, findM va (asidM c3) m3, by simp, fun q4 => ?_, fun q4 => ?_⟩⟩⟩⟩
  · have q : onM (c0, c1, c2, c3) = false := by simpa using q
    unfold trM at hr
    rw [if_pos q] at hr
    cases hr
    simp
  · have q : ¬ onM (c0, c1, c2, c3) = false := by simpa using q
    have q2 : canM va = false := by simpa using q2
    unfold trM at hr
    rw [if_neg q, if_pos q2] at hr
    cases hr
    simp
  · have q : ¬ onM (c0, c1, c2, c3) = false := by simpa using q
    have q2 : ¬ canM va = false := by simpa using q2
    unfold trM at hr
    rw [if_neg q, if_neg q2, hpick, if_pos q3] at hr
    obtain ⟨u1, u2, u3⟩ := hit_spec g1 r1 q3
    simp only at u1 u2 hr
    generalize findM va (asidM c3) m1 = H at *
    refine ⟨u2, fun g => ?_, fun g => ⟨⟨u2, u1, hv⟩, ?_⟩⟩
    · have g : grantM H.2.2.2 kind c0 c1 c2 = false := by simpa using g
      have hr2 : ((2, 0, H.2.2.1, ((s1, w1, m1), (s2, w2, m2), (s3, w3, m3))) : TrR) = (e, pa, l, (s1, w1, t1), (s2, w2, t2), (s3, w3, t3)) := by rw [← hr]; unfold hitM; rw [if_neg (by rw [g]; simp)]
      cases hr2
      simp
    · have g : grantM H.2.2.2 kind c0 c1 c2 = true := by simpa using g
      have hr2 : ((0, physM H.2.2.2 H.2.2.1 va, 0, ((s1, w1, m1), (s2, w2, m2), (s3, w3, m3))) : TrR) = (e, pa, l, (s1, w1, t1), (s2, w2, t2), (s3, w3, t3)) := by rw [← hr]; unfold hitM; rw [if_pos g]
      cases hr2
      simp
  · have q : ¬ onM (c0, c1, c2, c3) = false := by simpa using q
    have q2 : ¬ canM va = false := by simpa using q2
    unfold trM at hr
    rw [if_neg q, if_neg q2, hpick, if_neg (by rw [q3]; simp)] at hr
    unfold missM at hr
    simp only at hr
    have hst := start_in (satp := c3) hm hv g3 r3
    have es : startM c3 va (s3, w3, m3) = (ppnM (findM va (asidM c3) m3).2.2.2, (findM va (asidM c3) m3).2.2.1 - 1) := by unfold startM; rw [if_pos q4]
    obtain ⟨u1, u2, u3⟩ := hit_spec g3 r3 q4
    simp only at u1 u2
    have ew : IntKind.i64.wrap ((findM va (asidM c3) m3).2.2.1 - 1) = (findM va (asidM c3) m3).2.2.1 - 1 := wrap_i64_in (by have := u1.1; omega) (by have := u1.2; omega)
    refine ⟨u2, startM c3 va (s3, w3, m3), by simp [es, ew], ?_⟩
    clear es
    generalize startM c3 va (s3, w3, m3) = st at *
    have hc := walkN_code m va (st.2 + 1).toNat st.1
    have hleaf := walkN_leaf (va := va) hm (st.2 + 1).toNat st.1
    have hR : FromR m st.1 st.2 va ∧ headM s3 w3 m3 = true ∧ U64 c3 ∧ 0 ≤ pick ∧ pick ≤ 255 := ⟨hst, hd3, hc3, p0, p1⟩
    generalize walkN m va (st.2 + 1).toNat st.1 = W at *
    refine ⟨?_, fun a0 => ?_, fun a0 => ?_, fun a0 => ?_⟩
    · rcases hc with a0 | a0 | a0
      · exact .inl ⟨rfl, rfl, rfl, hR, a0⟩
      · exact .inr (.inl ⟨rfl, rfl, rfl, hR, a0⟩)
      · exact .inr (.inr ⟨rfl, rfl, rfl, hR, a0⟩)
    · have a0 : W.1 = 1 := a0.2.2.2.2
      obtain ⟨u1, u2, u3⟩ := hleaf a0
      have ul : LvR W.2.1 := ⟨u2, by have := hst.2.2.2.1.2; omega⟩
      refine ⟨fun _ => u1, fun g => ?_, fun g => ⟨fun g2 => absurd g2 (by decide), fun _ => ⟨⟨rfl, hd1, ul, hv, hc3, u1, p0, p1⟩, ⟨u1, ul, hv⟩, ?_⟩⟩⟩
      · have g : grantM W.2.2.1 kind c0 c1 c2 = false := by simpa using g
        have hr2 : ((2, 0, W.2.1, (s1, w1, m1), (s2, w2, m2), (s3, w3, (keepAll va c3 pick (s3, w3, m3) W.2.2.2).2.2)) : TrR) = (e, pa, l, (s1, w1, t1), (s2, w2, t2), (s3, w3, t3)) := by
          rw [← hr]; unfold endM; rw [if_pos a0, if_neg (by rw [g]; simp)]
        cases hr2
        simp
      · have g : grantM W.2.2.1 kind c0 c1 c2 = true := by simpa using g
        have hr2 : ((0, physM W.2.2.1 W.2.1 va, 0, putT kind ((s1, w1, m1), (s2, w2, m2), (s3, w3, (keepAll va c3 pick (s3, w3, m3) W.2.2.2).2.2)) (insT (pickT kind ((s1, w1, m1), (s2, w2, m2), (s3, w3, (keepAll va c3 pick (s3, w3, m3) W.2.2.2).2.2))) (entM W.2.1 va c3 W.2.2.1) pick)) : TrR) = (e, pa, l, (s1, w1, t1), (s2, w2, t2), (s3, w3, t3)) := by
          rw [← hr]; unfold endM; rw [if_pos a0, if_pos g]
        rw [hput, hpick] at hr2
        simp only [Prod.mk.injEq] at hr2
        obtain ⟨rfl, rfl, -, h1, h2, h3⟩ := hr2
        obtain ⟨-, -, rfl⟩ := h2
        obtain ⟨-, -, rfl⟩ := h3
        have h1 : (insT (s1, w1, m1) (entM W.2.1 va c3 W.2.2.1) pick) = (s1, w1, t1) := h1
        have h1' : t1 = (insT (s1, w1, m1) (entM W.2.1 va c3 W.2.2.1) pick).2.2 := by rw [h1]
        subst h1'
        simp [insT]
    · have a0 : W.1 = 3 := a0.2.2.2.2
      have hr2 : ((1, 0, W.2.1, (s1, w1, m1), (s2, w2, m2), (s3, w3, (keepAll va c3 pick (s3, w3, m3) W.2.2.2).2.2)) : TrR) = (e, pa, l, (s1, w1, t1), (s2, w2, t2), (s3, w3, t3)) := by
        rw [← hr]; unfold endM; rw [if_neg (by rw [a0]; decide), if_pos a0]
      cases hr2
      simp
    · have a0 : W.1 = 2 := a0.2.2.2.2
      have hr2 : ((2, 0, W.2.1, (s1, w1, m1), (s2, w2, m2), (s3, w3, (keepAll va c3 pick (s3, w3, m3) W.2.2.2).2.2)) : TrR) = (e, pa, l, (s1, w1, t1), (s2, w2, t2), (s3, w3, t3)) := by
        rw [← hr]; unfold endM; rw [if_neg (by rw [a0]; decide), if_neg (by rw [a0]; decide)]
      cases hr2
      simp
  · have q : ¬ onM (c0, c1, c2, c3) = false := by simpa using q
    have q2 : ¬ canM va = false := by simpa using q2
    unfold trM at hr
    rw [if_neg q, if_neg q2, hpick, if_neg (by rw [q3]; simp)] at hr
    unfold missM at hr
    simp only at hr
    have hst := start_in (satp := c3) hm hv g3 r3
    have es : startM c3 va (s3, w3, m3) = (rootM c3, 2) := by unfold startM; rw [if_neg (by rw [q4]; simp)]
    refine ⟨startM c3 va (s3, w3, m3), by simp [es], ?_⟩
    clear es
    generalize startM c3 va (s3, w3, m3) = st at *
    have hc := walkN_code m va (st.2 + 1).toNat st.1
    have hleaf := walkN_leaf (va := va) hm (st.2 + 1).toNat st.1
    have hR : FromR m st.1 st.2 va ∧ headM s3 w3 m3 = true ∧ U64 c3 ∧ 0 ≤ pick ∧ pick ≤ 255 := ⟨hst, hd3, hc3, p0, p1⟩
    generalize walkN m va (st.2 + 1).toNat st.1 = W at *
    refine ⟨?_, fun a0 => ?_, fun a0 => ?_, fun a0 => ?_⟩
    · rcases hc with a0 | a0 | a0
      · exact .inl ⟨rfl, rfl, rfl, hR, a0⟩
      · exact .inr (.inl ⟨rfl, rfl, rfl, hR, a0⟩)
      · exact .inr (.inr ⟨rfl, rfl, rfl, hR, a0⟩)
    · have a0 : W.1 = 1 := a0.2.2.2.2
      obtain ⟨u1, u2, u3⟩ := hleaf a0
      have ul : LvR W.2.1 := ⟨u2, by have := hst.2.2.2.1.2; omega⟩
      refine ⟨fun _ => u1, fun g => ?_, fun g => ⟨fun g2 => absurd g2 (by decide), fun _ => ⟨⟨rfl, hd1, ul, hv, hc3, u1, p0, p1⟩, ⟨u1, ul, hv⟩, ?_⟩⟩⟩
      · have g : grantM W.2.2.1 kind c0 c1 c2 = false := by simpa using g
        have hr2 : ((2, 0, W.2.1, (s1, w1, m1), (s2, w2, m2), (s3, w3, (keepAll va c3 pick (s3, w3, m3) W.2.2.2).2.2)) : TrR) = (e, pa, l, (s1, w1, t1), (s2, w2, t2), (s3, w3, t3)) := by
          rw [← hr]; unfold endM; rw [if_pos a0, if_neg (by rw [g]; simp)]
        cases hr2
        simp
      · have g : grantM W.2.2.1 kind c0 c1 c2 = true := by simpa using g
        have hr2 : ((0, physM W.2.2.1 W.2.1 va, 0, putT kind ((s1, w1, m1), (s2, w2, m2), (s3, w3, (keepAll va c3 pick (s3, w3, m3) W.2.2.2).2.2)) (insT (pickT kind ((s1, w1, m1), (s2, w2, m2), (s3, w3, (keepAll va c3 pick (s3, w3, m3) W.2.2.2).2.2))) (entM W.2.1 va c3 W.2.2.1) pick)) : TrR) = (e, pa, l, (s1, w1, t1), (s2, w2, t2), (s3, w3, t3)) := by
          rw [← hr]; unfold endM; rw [if_pos a0, if_pos g]
        rw [hput, hpick] at hr2
        simp only [Prod.mk.injEq] at hr2
        obtain ⟨rfl, rfl, -, h1, h2, h3⟩ := hr2
        obtain ⟨-, -, rfl⟩ := h2
        obtain ⟨-, -, rfl⟩ := h3
        have h1 : (insT (s1, w1, m1) (entM W.2.1 va c3 W.2.2.1) pick) = (s1, w1, t1) := h1
        have h1' : t1 = (insT (s1, w1, m1) (entM W.2.1 va c3 W.2.2.1) pick).2.2 := by rw [h1]
        subst h1'
        simp [insT]
    · have a0 : W.1 = 3 := a0.2.2.2.2
      have hr2 : ((1, 0, W.2.1, (s1, w1, m1), (s2, w2, m2), (s3, w3, (keepAll va c3 pick (s3, w3, m3) W.2.2.2).2.2)) : TrR) = (e, pa, l, (s1, w1, t1), (s2, w2, t2), (s3, w3, t3)) := by
        rw [← hr]; unfold endM; rw [if_neg (by rw [a0]; decide), if_pos a0]
      cases hr2
      simp
    · have a0 : W.1 = 2 := a0.2.2.2.2
      have hr2 : ((2, 0, W.2.1, (s1, w1, m1), (s2, w2, m2), (s3, w3, (keepAll va c3 pick (s3, w3, m3) W.2.2.2).2.2)) : TrR) = (e, pa, l, (s1, w1, t1), (s2, w2, t2), (s3, w3, t3)) := by
        rw [← hr]; unfold endM; rw [if_neg (by rw [a0]; decide), if_neg (by rw [a0]; decide)]
      cases hr2
      simp
theorem tr_vcD (x0 x1 : Int) (m : By) (s1 w1 : Int) (m1 : Es) (s2 w2 : Int) (m2 : Es) (s3 w3 : Int) (m3 : Es) (c0 : Int) (c1 c2 : Bool) (c3 kind va pick : Int) (h : TrnR m (c0, c1, c2, c3) ((s1, w1, m1), (s2, w2, m2), (s3, w3, m3)) kind va pick) (hk : kind ≠ 0) {e : Nat} {pa l : Int} {t1 t2 t3 : Es} (hr : trM m (c0, c1, c2, c3) ((s1, w1, m1), (s2, w2, m2), (s3, w3, m3)) kind va pick = (e, pa, l, (s1, w1, t1), (s2, w2, t2), (s3, w3, t3))) : vc_trD x0 x1 m s1 w1 m1 s2 w2 m2 s3 w3 m3 c0 c1 c2 c3 kind va pick e pa l t1 t2 t3 := by
  obtain ⟨hm, hc3, hv, hgc, ⟨r1, r2, r3⟩, p0, p1, -, -⟩ := h
  have hc3 : U64 c3 := hc3
  simp only [goodC, Bool.and_eq_true] at hgc
  obtain ⟨⟨g1, g2⟩, g3⟩ := hgc
  have hd1 := valid_head g1
  have hd2 := valid_head g2
  have hd3 := valid_head g3
  have hpick : ∀ k : Cch, pickT kind k = k.2.1 := fun k => by unfold pickT; rw [if_neg hk]
  have hput : ∀ (k : Cch) (t : Tl), putT kind k t = (k.1, t, k.2.2) := fun k t => by unfold putT; rw [if_neg hk]
  refine vc_by (vc_trD_eq x0 x1 m s1 w1 m1 s2 w2 m2 s3 w3 m3 c0 c1 c2 c3 kind va pick e pa l t1 t2 t3) ⟨hc3, fun q => ?_, fun q => ⟨hv, fun q2 => ?_, fun q2 => ⟨by simp [hk], hc3, ⟨rfl, good_either g2, r2, hv⟩, findM va (asidM c3) m2, by simp, fun q3 => ?_, fun q3 => ⟨hc3, hc3, ⟨rfl, good_either g3, r3, hv⟩, findM va (asidM c3) m3, by simp, fun q4 => ?_, fun q4 => ?_⟩⟩⟩⟩
  · have q : onM (c0, c1, c2, c3) = false := by simpa using q
    unfold trM at hr
    rw [if_pos q] at hr
    cases hr
    simp
  · have q : ¬ onM (c0, c1, c2, c3) = false := by simpa using q
    have q2 : canM va = false := by simpa using q2
    unfold trM at hr
    rw [if_neg q, if_pos q2] at hr
    cases hr
    simp
  · have q : ¬ onM (c0, c1, c2, c3) = false := by simpa using q
    have q2 : ¬ canM va = false := by simpa using q2
    unfold trM at hr
    rw [if_neg q, if_neg q2, hpick, if_pos q3] at hr
    obtain ⟨u1, u2, u3⟩ := hit_spec g2 r2 q3
    simp only at u1 u2 hr
    generalize findM va (asidM c3) m2 = H at *
    refine ⟨u2, fun g => ?_, fun g => ⟨⟨u2, u1, hv⟩, ?_⟩⟩
    · have g : grantM H.2.2.2 kind c0 c1 c2 = false := by simpa using g
      have hr2 : ((2, 0, H.2.2.1, ((s1, w1, m1), (s2, w2, m2), (s3, w3, m3))) : TrR) = (e, pa, l, (s1, w1, t1), (s2, w2, t2), (s3, w3, t3)) := by rw [← hr]; unfold hitM; rw [if_neg (by rw [g]; simp)]
      cases hr2
      simp
    · have g : grantM H.2.2.2 kind c0 c1 c2 = true := by simpa using g
      have hr2 : ((0, physM H.2.2.2 H.2.2.1 va, 0, ((s1, w1, m1), (s2, w2, m2), (s3, w3, m3))) : TrR) = (e, pa, l, (s1, w1, t1), (s2, w2, t2), (s3, w3, t3)) := by rw [← hr]; unfold hitM; rw [if_pos g]
      cases hr2
      simp
  · have q : ¬ onM (c0, c1, c2, c3) = false := by simpa using q
    have q2 : ¬ canM va = false := by simpa using q2
    unfold trM at hr
    rw [if_neg q, if_neg q2, hpick, if_neg (by rw [q3]; simp)] at hr
    unfold missM at hr
    simp only at hr
    have hst := start_in (satp := c3) hm hv g3 r3
    have es : startM c3 va (s3, w3, m3) = (ppnM (findM va (asidM c3) m3).2.2.2, (findM va (asidM c3) m3).2.2.1 - 1) := by unfold startM; rw [if_pos q4]
    obtain ⟨u1, u2, u3⟩ := hit_spec g3 r3 q4
    simp only at u1 u2
    have ew : IntKind.i64.wrap ((findM va (asidM c3) m3).2.2.1 - 1) = (findM va (asidM c3) m3).2.2.1 - 1 := wrap_i64_in (by have := u1.1; omega) (by have := u1.2; omega)
    refine ⟨u2, startM c3 va (s3, w3, m3), by simp [es, ew], ?_⟩
    clear es
    generalize startM c3 va (s3, w3, m3) = st at *
    have hc := walkN_code m va (st.2 + 1).toNat st.1
    have hleaf := walkN_leaf (va := va) hm (st.2 + 1).toNat st.1
    have hR : FromR m st.1 st.2 va ∧ headM s3 w3 m3 = true ∧ U64 c3 ∧ 0 ≤ pick ∧ pick ≤ 255 := ⟨hst, hd3, hc3, p0, p1⟩
    generalize walkN m va (st.2 + 1).toNat st.1 = W at *
    refine ⟨?_, fun a0 => ?_, fun a0 => ?_, fun a0 => ?_⟩
    · rcases hc with a0 | a0 | a0
      · exact .inl ⟨rfl, rfl, rfl, hR, a0⟩
      · exact .inr (.inl ⟨rfl, rfl, rfl, hR, a0⟩)
      · exact .inr (.inr ⟨rfl, rfl, rfl, hR, a0⟩)
    · have a0 : W.1 = 1 := a0.2.2.2.2
      obtain ⟨u1, u2, u3⟩ := hleaf a0
      have ul : LvR W.2.1 := ⟨u2, by have := hst.2.2.2.1.2; omega⟩
      refine ⟨fun _ => u1, fun g => ?_, fun g => ⟨fun g2 => absurd g2 (by decide), fun _ => ⟨⟨rfl, hd2, ul, hv, hc3, u1, p0, p1⟩, ⟨u1, ul, hv⟩, ?_⟩⟩⟩
      · have g : grantM W.2.2.1 kind c0 c1 c2 = false := by simpa using g
        have hr2 : ((2, 0, W.2.1, (s1, w1, m1), (s2, w2, m2), (s3, w3, (keepAll va c3 pick (s3, w3, m3) W.2.2.2).2.2)) : TrR) = (e, pa, l, (s1, w1, t1), (s2, w2, t2), (s3, w3, t3)) := by
          rw [← hr]; unfold endM; rw [if_pos a0, if_neg (by rw [g]; simp)]
        cases hr2
        simp
      · have g : grantM W.2.2.1 kind c0 c1 c2 = true := by simpa using g
        have hr2 : ((0, physM W.2.2.1 W.2.1 va, 0, putT kind ((s1, w1, m1), (s2, w2, m2), (s3, w3, (keepAll va c3 pick (s3, w3, m3) W.2.2.2).2.2)) (insT (pickT kind ((s1, w1, m1), (s2, w2, m2), (s3, w3, (keepAll va c3 pick (s3, w3, m3) W.2.2.2).2.2))) (entM W.2.1 va c3 W.2.2.1) pick)) : TrR) = (e, pa, l, (s1, w1, t1), (s2, w2, t2), (s3, w3, t3)) := by
          rw [← hr]; unfold endM; rw [if_pos a0, if_pos g]
        rw [hput, hpick] at hr2
        simp only [Prod.mk.injEq] at hr2
        obtain ⟨rfl, rfl, -, h1, h2, h3⟩ := hr2
        obtain ⟨-, -, rfl⟩ := h1
        obtain ⟨-, -, rfl⟩ := h3
        have h1 : (insT (s2, w2, m2) (entM W.2.1 va c3 W.2.2.1) pick) = (s2, w2, t2) := h2
        have h1' : t2 = (insT (s2, w2, m2) (entM W.2.1 va c3 W.2.2.1) pick).2.2 := by rw [h1]
        subst h1'
        simp [insT]
    · have a0 : W.1 = 3 := a0.2.2.2.2
      have hr2 : ((1, 0, W.2.1, (s1, w1, m1), (s2, w2, m2), (s3, w3, (keepAll va c3 pick (s3, w3, m3) W.2.2.2).2.2)) : TrR) = (e, pa, l, (s1, w1, t1), (s2, w2, t2), (s3, w3, t3)) := by
        rw [← hr]; unfold endM; rw [if_neg (by rw [a0]; decide), if_pos a0]
      cases hr2
      simp
    · have a0 : W.1 = 2 := a0.2.2.2.2
      have hr2 : ((2, 0, W.2.1, (s1, w1, m1), (s2, w2, m2), (s3, w3, (keepAll va c3 pick (s3, w3, m3) W.2.2.2).2.2)) : TrR) = (e, pa, l, (s1, w1, t1), (s2, w2, t2), (s3, w3, t3)) := by
        rw [← hr]; unfold endM; rw [if_neg (by rw [a0]; decide), if_neg (by rw [a0]; decide)]
      cases hr2
      simp
  · have q : ¬ onM (c0, c1, c2, c3) = false := by simpa using q
    have q2 : ¬ canM va = false := by simpa using q2
    unfold trM at hr
    rw [if_neg q, if_neg q2, hpick, if_neg (by rw [q3]; simp)] at hr
    unfold missM at hr
    simp only at hr
    have hst := start_in (satp := c3) hm hv g3 r3
    have es : startM c3 va (s3, w3, m3) = (rootM c3, 2) := by unfold startM; rw [if_neg (by rw [q4]; simp)]
    refine ⟨startM c3 va (s3, w3, m3), by simp [es], ?_⟩
    clear es
    generalize startM c3 va (s3, w3, m3) = st at *
    have hc := walkN_code m va (st.2 + 1).toNat st.1
    have hleaf := walkN_leaf (va := va) hm (st.2 + 1).toNat st.1
    have hR : FromR m st.1 st.2 va ∧ headM s3 w3 m3 = true ∧ U64 c3 ∧ 0 ≤ pick ∧ pick ≤ 255 := ⟨hst, hd3, hc3, p0, p1⟩
    generalize walkN m va (st.2 + 1).toNat st.1 = W at *
    refine ⟨?_, fun a0 => ?_, fun a0 => ?_, fun a0 => ?_⟩
    · rcases hc with a0 | a0 | a0
      · exact .inl ⟨rfl, rfl, rfl, hR, a0⟩
      · exact .inr (.inl ⟨rfl, rfl, rfl, hR, a0⟩)
      · exact .inr (.inr ⟨rfl, rfl, rfl, hR, a0⟩)
    · have a0 : W.1 = 1 := a0.2.2.2.2
      obtain ⟨u1, u2, u3⟩ := hleaf a0
      have ul : LvR W.2.1 := ⟨u2, by have := hst.2.2.2.1.2; omega⟩
      refine ⟨fun _ => u1, fun g => ?_, fun g => ⟨fun g2 => absurd g2 (by decide), fun _ => ⟨⟨rfl, hd2, ul, hv, hc3, u1, p0, p1⟩, ⟨u1, ul, hv⟩, ?_⟩⟩⟩
      · have g : grantM W.2.2.1 kind c0 c1 c2 = false := by simpa using g
        have hr2 : ((2, 0, W.2.1, (s1, w1, m1), (s2, w2, m2), (s3, w3, (keepAll va c3 pick (s3, w3, m3) W.2.2.2).2.2)) : TrR) = (e, pa, l, (s1, w1, t1), (s2, w2, t2), (s3, w3, t3)) := by
          rw [← hr]; unfold endM; rw [if_pos a0, if_neg (by rw [g]; simp)]
        cases hr2
        simp
      · have g : grantM W.2.2.1 kind c0 c1 c2 = true := by simpa using g
        have hr2 : ((0, physM W.2.2.1 W.2.1 va, 0, putT kind ((s1, w1, m1), (s2, w2, m2), (s3, w3, (keepAll va c3 pick (s3, w3, m3) W.2.2.2).2.2)) (insT (pickT kind ((s1, w1, m1), (s2, w2, m2), (s3, w3, (keepAll va c3 pick (s3, w3, m3) W.2.2.2).2.2))) (entM W.2.1 va c3 W.2.2.1) pick)) : TrR) = (e, pa, l, (s1, w1, t1), (s2, w2, t2), (s3, w3, t3)) := by
          rw [← hr]; unfold endM; rw [if_pos a0, if_pos g]
        rw [hput, hpick] at hr2
        simp only [Prod.mk.injEq] at hr2
        obtain ⟨rfl, rfl, -, h1, h2, h3⟩ := hr2
        obtain ⟨-, -, rfl⟩ := h1
        obtain ⟨-, -, rfl⟩ := h3
        have h1 : (insT (s2, w2, m2) (entM W.2.1 va c3 W.2.2.1) pick) = (s2, w2, t2) := h2
        have h1' : t2 = (insT (s2, w2, m2) (entM W.2.1 va c3 W.2.2.1) pick).2.2 := by rw [h1]
        subst h1'
        simp [insT]
    · have a0 : W.1 = 3 := a0.2.2.2.2
      have hr2 : ((1, 0, W.2.1, (s1, w1, m1), (s2, w2, m2), (s3, w3, (keepAll va c3 pick (s3, w3, m3) W.2.2.2).2.2)) : TrR) = (e, pa, l, (s1, w1, t1), (s2, w2, t2), (s3, w3, t3)) := by
        rw [← hr]; unfold endM; rw [if_neg (by rw [a0]; decide), if_pos a0]
      cases hr2
      simp
    · have a0 : W.1 = 2 := a0.2.2.2.2
      have hr2 : ((2, 0, W.2.1, (s1, w1, m1), (s2, w2, m2), (s3, w3, (keepAll va c3 pick (s3, w3, m3) W.2.2.2).2.2)) : TrR) = (e, pa, l, (s1, w1, t1), (s2, w2, t2), (s3, w3, t3)) := by
        rw [← hr]; unfold endM; rw [if_neg (by rw [a0]; decide), if_neg (by rw [a0]; decide)]
      cases hr2
      simp
theorem trM_shape (m : By) (c : Ct) (I D P : Tl) (kind va pick : Int) : ∃ e pa l t1 t2 t3, trM m c (I, D, P) kind va pick = (e, pa, l, (I.1, I.2.1, t1), (D.1, D.2.1, t2), (P.1, P.2.1, t3)) ∧ t1.length = I.2.2.length ∧ t2.length = D.2.2.length ∧ t3.length = P.2.2.length ∧ (e = 0 ∨ e ≠ 0 ∧ pa = 0) ∧ (e = 0 ∨ e = 1 ∨ e = 2) := by
  have miss : ∃ e pa l t1 t2 t3, missM m c (I, D, P) kind va pick = (e, pa, l, (I.1, I.2.1, t1), (D.1, D.2.1, t2), (P.1, P.2.1, t3)) ∧ t1.length = I.2.2.length ∧ t2.length = D.2.2.length ∧ t3.length = P.2.2.length ∧ (e = 0 ∨ e ≠ 0 ∧ pa = 0) ∧ (e = 0 ∨ e = 1 ∨ e = 2) := by
    unfold missM
    generalize walkN m va _ _ = W
    obtain ⟨-, -, kl⟩ := keepAll_head va c.2.2.2 pick W.2.2.2 P
    unfold endM
    split
    · split
      · unfold putT pickT
        split
        · exact ⟨_, _, _, _, _, _, rfl, by simp [insT, insMs_length], rfl, kl, .inl rfl, .inl rfl⟩
        · exact ⟨_, _, _, _, _, _, rfl, rfl, by simp [insT, insMs_length], kl, .inl rfl, .inl rfl⟩
      · exact ⟨_, _, _, _, _, _, rfl, rfl, rfl, kl, .inr ⟨by decide, rfl⟩, .inr (.inr rfl)⟩
    · split
      · exact ⟨_, _, _, _, _, _, rfl, rfl, rfl, kl, .inr ⟨by decide, rfl⟩, .inr (.inl rfl)⟩
      · exact ⟨_, _, _, _, _, _, rfl, rfl, rfl, kl, .inr ⟨by decide, rfl⟩, .inr (.inr rfl)⟩
  unfold trM
  split
  · exact ⟨_, _, _, _, _, _, rfl, rfl, rfl, rfl, .inl rfl, .inl rfl⟩
  · split
    · exact ⟨_, _, _, _, _, _, rfl, rfl, rfl, rfl, .inr ⟨by decide, rfl⟩, .inr (.inr rfl)⟩
    · split
      · unfold hitM
        split
        · exact ⟨_, _, _, _, _, _, rfl, rfl, rfl, rfl, .inl rfl, .inl rfl⟩
        · exact ⟨_, _, _, _, _, _, rfl, rfl, rfl, rfl, .inr ⟨by decide, rfl⟩, .inr (.inr rfl)⟩
      · exact miss
theorem FX4_ok : DictOk Try.prog FX4 := mkD_ok (kX2_ok.append kN2_ok) (.cons (by kernel_rfl) walkC_ok .nil) .nil
theorem tr_ok (k : Nat) : Sound Try.prog 179 (trS k) := by
  refine sound_out mixed Try.func179 (by kernel_rfl) false FX4_ok (fun args H p v H' h hp => ?_)
  unfold trS at h
  split at h
  case h_2 => cases h
  rename_i n c0 c1 c2 c3 kind va pick b0 b1 b2 b3 sh m
  split at h
  case isFalse => cases h
  rename_i hsh
  subst hsh
  split at h
  case h_2 => cases h
  rename_i x n3 I D P hg
  simp only [Option.some.injEq, Prod.mk.injEq] at h
  obtain ⟨rfl, rfl, rfl⟩ := h
  obtain ⟨rfl, rfl, ht, hk⟩ : n = m.length ∧ n3 = lensM I D P ∧ TrnR m (c0, c1, c2, c3) (I, D, P) kind va pick ∧ codeT k (trM m (c0, c1, c2, c3) (I, D, P) kind va pick) := hp
  have e := getH_eq hg
  have e2 : [b0, b1, b2, b3, Blk.arr [.i .u8] m false] = trH x m (I, D, P) := by
    have : [b0, b1, b2, b3, Blk.arr [.i .u8] m false] = [b0, b1, b2, b3] ++ [Blk.arr [.i .u8] m false] := rfl
    rw [this, e]; rfl
  rw [e2]
  clear e e2 hg
  obtain ⟨x0, x1⟩ := x
  obtain ⟨s1, w1, m1⟩ := I
  obtain ⟨s2, w2, m2⟩ := D
  obtain ⟨s3, w3, m3⟩ := P
  obtain ⟨e, pa, l, t1, t2, t3, hr, -⟩ := trM_shape m (c0, c1, c2, c3) (s1, w1, m1) (s2, w2, m2) (s3, w3, m3) kind va pick
  rw [hr] at hk ⊢
  have outs : ∀ o ∈ trO (x0, x1) m (e, pa, l, (s1, w1, t1), (s2, w2, t2), (s3, w3, t3)), o.out → o.pan = false ∧ o.v = .tup [.v (.int .u64 pa), errT k l] ∧ o.H = trH (x0, x1) m ((s1, w1, t1), (s2, w2, t2), (s3, w3, t3)) := by
    intro o ho hout
    simp only [trO, List.mem_cons, List.not_mem_nil, or_false] at ho
    match k, hk with
    | 0, hk =>
      have hk : e = 0 := hk
      subst hk
      rcases ho with rfl | rfl | rfl
      · exact ⟨rfl, rfl, rfl⟩
      · exact absurd (show (0 : Nat) = 1 from hout) (by decide)
      · exact absurd (show (0 : Nat) = 2 from hout) (by decide)
    | 1, hk =>
      have hk : e = 1 := hk
      subst hk
      rcases ho with rfl | rfl | rfl
      · exact absurd (show (1 : Nat) = 0 from hout) (by decide)
      · exact ⟨rfl, rfl, rfl⟩
      · exact absurd (show (1 : Nat) = 2 from hout) (by decide)
    | k + 2, hk =>
      have hk : e = 2 := hk
      subst hk
      rcases ho with rfl | rfl | rfl
      · exact absurd (show (2 : Nat) = 0 from hout) (by decide)
      · exact absurd (show (2 : Nat) = 1 from hout) (by decide)
      · exact ⟨rfl, rfl, rfl⟩
  by_cases hkd : kind = 0
  · exact ⟨_, _, loops_none (by kernel_rfl), tr_vcI x0 x1 m s1 w1 m1 s2 w2 m2 s3 w3 m3 c0 c1 c2 c3 kind va pick ht hkd hr, outs⟩
  · exact ⟨_, _, loops_none (by kernel_rfl), tr_vcD x0 x1 m s1 w1 m1 s2 w2 m2 s3 w3 m3 c0 c1 c2 c3 kind va pick ht hkd hr, outs⟩
theorem kY0_ok : KnowsD Try.prog kY0 := (kJ1_ok.append kX2_ok).append kN2_ok
theorem FY0_ok : DictOk Try.prog FY0 := mkD_ok kY0_ok (.cons (by kernel_rfl) tr_ok .nil) .nil
theorem goodC_bif (I D P : Tl) : goodC (I, D, P) = bif bif validM false I then validM false D else false then validM true P else false := by simp [goodC]
theorem cvalid_ok : Sound Try.prog 150 (pureS [chP] [bl] (fun x => some (ChR (toC x))) (fun x => goodC (toC x))) := by
  refine pure_plain mixed Try.func150 (by kernel_rfl) (by kernel_rfl) FY0_ok (fun t h => ?_)
  obtain ⟨s1, w1, m1, s2, w2, m2, s3, w3, m3⟩ : Cf := t
  obtain ⟨h1, h2, h3⟩ : TlR (s1, w1, m1) ∧ TlR (s2, w2, m2) ∧ TlR (s3, w3, m3) := h
  exact vc_by (vc_cvalid_eq s1 w1 m1 s2 w2 m2 s3 w3 m3) (by rw [goodC_bif]; simp [h1, h2, h3])
theorem sgoodC_ok : Sound Try.prog 147 (pureS [chP] [bl] (fun x => some (ChR (toC x))) (fun x => goodC (toC x))) := by
  refine pure_plain mixed Try.func147 (by kernel_rfl) (by kernel_rfl) FY0_ok (fun t h => ?_)
  obtain ⟨s1, w1, m1, s2, w2, m2, s3, w3, m3⟩ : Cf := t
  obtain ⟨h1, h2, h3⟩ : TlR (s1, w1, m1) ∧ TlR (s2, w2, m2) ∧ TlR (s3, w3, m3) := h
  exact vc_by (vc_sgoodC_eq s1 w1 m1 s2 w2 m2 s3 w3 m3) (by rw [goodC_bif]; simp [h1, h2, h3])
theorem cclone_ok : Sound Try.prog 178 (pureS [chP] [chP] (fun x => some (SzC (toC x))) (fun x => x)) := by
  refine pure_plain mixed Try.func178 (by kernel_rfl) (by kernel_rfl) FY0_ok (fun t h => ?_)
  obtain ⟨s1, w1, m1, s2, w2, m2, s3, w3, m3⟩ : Cf := t
  obtain ⟨h1, h2, h3⟩ : SzR m1.length ∧ SzR m2.length ∧ SzR m3.length := h
  exact vc_by (vc_cclone_eq s1 w1 m1 s2 w2 m2 s3 w3 m3) (by simp [h1, h2, h3])
theorem scaches_ok : Sound Try.prog 173 (pureS [chP] [chP] (fun x => some (SzC (toC x))) (fun x => x)) := by
  refine pure_plain mixed Try.func173 (by kernel_rfl) (by kernel_rfl) FY0_ok (fun t h => ?_)
  obtain ⟨s1, w1, m1, s2, w2, m2, s3, w3, m3⟩ : Cf := t
  obtain ⟨h1, h2, h3⟩ : SzR m1.length ∧ SzR m2.length ∧ SzR m3.length := h
  exact vc_by (vc_scaches_eq s1 w1 m1 s2 w2 m2 s3 w3 m3) (by simp [h1, h2, h3])
theorem toC_ok : Sound Try.prog 80 (pureS [chP] [chP] (fun x => some (SzC (toC x))) (fun x => x)) := by
  refine pure_plain mixed Try.func80 (by kernel_rfl) (by kernel_rfl) FY0_ok (fun t h => ?_)
  obtain ⟨s1, w1, m1, s2, w2, m2, s3, w3, m3⟩ : Cf := t
  obtain ⟨h1, h2, h3⟩ : SzR m1.length ∧ SzR m2.length ∧ SzR m3.length := h
  exact vc_by (vc_toC_eq s1 w1 m1 s2 w2 m2 s3 w3 m3) (by simp [h1, h2, h3])
theorem sentry_ok : Sound Try.prog 177 (pureS [i64, u64, u64, u64] [enP] (fun t => some (LvR t.1 ∧ U64 t.2.1 ∧ U64 t.2.2.1 ∧ U64 t.2.2.2)) (fun t => entM t.1 t.2.1 t.2.2.1 t.2.2.2)) := by
  refine pure_plain mixed Try.func177 (by kernel_rfl) (by kernel_rfl) FY0_ok (fun t h => ?_)
  obtain ⟨l, va, s, p⟩ : Int × Int × Int × Int := t
  obtain ⟨h1, h2, h3, h4⟩ : LvR l ∧ U64 va ∧ U64 s ∧ U64 p := h
  exact vc_by (vc_sentry_eq l va s p) ⟨⟨h2, h1⟩, h3, bitR_of h4 (by decide) (by decide), rfl, rfl, rfl, rfl, rfl, rfl⟩
theorem eqC_ok : Sound Try.prog 83 (pureS [chP, chP] [bl] (fun t => some (t.1 = t.2 ∧ SzC (toC t.1))) (fun _ => true)) := by
  refine pure_plain mixed Try.func83 (by kernel_rfl) (by kernel_rfl) FY0_ok (fun t h => ?_)
  obtain ⟨a, b⟩ : Cf × Cf := t
  obtain ⟨rfl, h⟩ : a = b ∧ SzC (toC a) := h
  obtain ⟨s1, w1, m1, s2, w2, m2, s3, w3, m3⟩ := a
  obtain ⟨h1, h2, h3⟩ : SzR m1.length ∧ SzR m2.length ∧ SzR m3.length := h
  exact vc_by (vc_eqC_eq s1 w1 m1 s2 w2 m2 s3 w3 m3) (by simp [h1, h2, h3])
theorem szM_in {n : Nat} {k : Int} (h : k ≤ 1048576) : szM n k ≤ 1048576 := by
  unfold szM
  split <;> omega
theorem szC_ok : Sound Try.prog 78 (pureS [chP, i64] [i64] (fun t => some ((t.1.2.2.1.length ≤ maxLen ∧ t.1.2.2.2.2.2.1.length ≤ maxLen ∧ t.1.2.2.2.2.2.2.2.2.length ≤ maxLen) ∧ 0 ≤ t.2 ∧ t.2 ≤ 1048576)) (fun t => szC (toC t.1) t.2)) := by
  refine pure_plain mixed Try.func78 (by kernel_rfl) (by kernel_rfl) FY0_ok (fun t h => ?_)
  obtain ⟨⟨s1, w1, m1, s2, w2, m2, s3, w3, m3⟩, n⟩ : Cf × Int := t
  obtain ⟨⟨h1, h2, h3⟩, h4, h5⟩ : (m1.length ≤ maxLen ∧ m2.length ≤ maxLen ∧ m3.length ≤ maxLen) ∧ 0 ≤ n ∧ n ≤ 1048576 := h
  have g1 := szM_in (n := m1.length) h5
  refine vc_by (vc_szC_eq s1 w1 m1 s2 w2 m2 s3 w3 m3 n) ⟨⟨rfl, h1, h4, h5⟩, fun q => ?_, fun q => ?_⟩
  · have q := of_decide_eq_true q
    simp [szC, q]
  · have q : ¬ szM m1.length n < 0 := of_decide_eq_false q
    have g2 := szM_in (n := m2.length) g1
    refine ⟨⟨rfl, h2, by show (0 : Int) ≤ _; omega, g1⟩, fun q2 => ?_, fun q2 => ?_⟩
    · have q2 := of_decide_eq_true q2
      simp [szC, q, q2]
    · have q2 : ¬ szM m2.length (szM m1.length n) < 0 := of_decide_eq_false q2
      refine ⟨⟨rfl, h3, by show (0 : Int) ≤ _; omega, g2⟩, fun q3 => ?_, fun q3 => ?_⟩
      · have q3 := of_decide_eq_true q3
        have e := szM_neg q3
        simp [szC, q, q2, e]
      · simp [szC, q, q2]
theorem markC_ok : Sound Try.prog 84 (mutS [chP, i64] [i64] (fun t => some (MarkC (toC t.1) t.2)) (fun t => ((ofC (markC (toC t.1) t.2), t.2), t.2 + 6 * t.1.2.2.1.length + 6 * t.1.2.2.2.2.2.1.length + 6 * t.1.2.2.2.2.2.2.2.2.length))) := by
  refine mut_plain mixed Try.func84 (by kernel_rfl) (by kernel_rfl) FY0_ok (fun t h => ?_)
  obtain ⟨⟨s1, w1, m1, s2, w2, m2, s3, w3, m3⟩, n⟩ : Cf × Int := t
  obtain ⟨⟨h1, h2, h3⟩, h4, h5⟩ : (SzR m1.length ∧ SzR m2.length ∧ SzR m3.length) ∧ 0 ≤ n ∧ n ≤ 1099511627776 - 60000000 := h
  have g1 : m1.length ≤ 2097152 := h1
  have g2 : m2.length ≤ 2097152 := h2
  have g3 : m3.length ≤ 2097152 := h3
  refine ⟨.none, vc_by (vc_markC_eq s1 w1 m1 s2 w2 m2 s3 w3 m3 n) ⟨⟨rfl, h1, h4, by omega⟩, ⟨rfl, h2, by show (0 : Int) ≤ _; omega, by show _ ≤ (1099511627776 : Int); omega⟩, ⟨rfl, h3, by show (0 : Int) ≤ _; omega, by show _ ≤ (1099511627776 : Int); omega⟩, rfl, ?_⟩⟩
  simp
theorem heldC_ok : Sound Try.prog 180 (pureS [chP, i64] [i64] (fun t => some (MarkC (toC t.1) t.2 ∧ toC t.1 = markC (toC t.1) t.2)) (fun t => t.2 + 6 * t.1.2.2.1.length + 6 * t.1.2.2.2.2.2.1.length + 6 * t.1.2.2.2.2.2.2.2.2.length)) := by
  refine pure_plain mixed Try.func180 (by kernel_rfl) (by kernel_rfl) FY0_ok (fun t h => ?_)
  obtain ⟨⟨s1, w1, m1, s2, w2, m2, s3, w3, m3⟩, n⟩ : Cf × Int := t
  obtain ⟨⟨⟨h1, h2, h3⟩, h4, h5⟩, he⟩ : ((SzR m1.length ∧ SzR m2.length ∧ SzR m3.length) ∧ 0 ≤ n ∧ n ≤ 1099511627776 - 60000000) ∧ ((s1, w1, m1), (s2, w2, m2), (s3, w3, m3)) = markC ((s1, w1, m1), (s2, w2, m2), (s3, w3, m3)) n := h
  have g1 : m1.length ≤ 2097152 := h1
  have g2 : m2.length ≤ 2097152 := h2
  have g3 : m3.length ≤ 2097152 := h3
  simp only [markC, Prod.mk.injEq, true_and] at he
  obtain ⟨e1, e2, e3⟩ := he
  refine vc_by (vc_heldC_eq s1 w1 m1 s2 w2 m2 s3 w3 m3 n) ⟨⟨rfl, ⟨h1, h4, by omega⟩, e1⟩, fun q => ?_, fun q => ⟨⟨rfl, ⟨h2, by show (0 : Int) ≤ _; omega, by show _ ≤ (1099511627776 : Int); omega⟩, e2⟩, fun q => ?_, fun q => ⟨⟨rfl, ⟨h3, by show (0 : Int) ≤ _; omega, by show _ ≤ (1099511627776 : Int); omega⟩, e3⟩, fun q => ?_, fun q => ⟨rfl, rfl, rfl, rfl⟩⟩⟩⟩
  · exact absurd (show n + 6 * (m1.length : Int) < 0 from of_decide_eq_true q) (by omega)
  · exact absurd (show n + 6 * (m1.length : Int) + 6 * (m2.length : Int) < 0 from of_decide_eq_true q) (by omega)
  · exact absurd (show n + 6 * (m1.length : Int) + 6 * (m2.length : Int) + 6 * (m3.length : Int) < 0 from of_decide_eq_true q) (by omega)
theorem kY1_ok : KnowsD Try.prog kY1 := .cons (by kernel_rfl) cvalid_ok <| .cons (by kernel_rfl) cclone_ok <| .cons (by kernel_rfl) sgoodC_ok <| .cons (by kernel_rfl) scaches_ok <| .cons (by kernel_rfl) sentry_ok <| .cons (by kernel_rfl) szC_ok <| .cons (by kernel_rfl) toC_ok <| .cons (by kernel_rfl) eqC_ok <| .cons (by kernel_rfl) markC_ok <| .cons (by kernel_rfl) heldC_ok .nil
theorem FY1_ok : DictOk Try.prog FY1 := mkD_ok (kY1_ok.append kY0_ok) (.cons (by kernel_rfl) tr_ok .nil) .nil
theorem okT_bif (c : Ct) (k : Cch) (kind pick : Int) : (bif bif bif !goodC k then true else !askM c kind then true else decide (pick < 0) then true else decide (pick > 255)) = !okT c k kind pick := by
  have e1 : decide (0 ≤ pick) = !decide (pick < 0) := by
    by_cases h : pick < 0
    · have : ¬ 0 ≤ pick := by omega
      simp [h, this]
    · have : 0 ≤ pick := by omega
      simp [h, this]
  have e2 : decide (pick ≤ 255) = !decide (pick > 255) := by
    by_cases h : pick > 255
    · have : ¬ pick ≤ 255 := by omega
      simp [h, this]
    · have : pick ≤ 255 := by omega
      simp [h, this]
  unfold okT
  rw [e1, e2]
  cases goodC k <;> cases askM c kind <;> cases decide (pick < 0) <;> cases decide (pick > 255) <;> rfl
theorem okT_use {c : Ct} {k : Cch} {kind pick : Int} (h : okT c k kind pick = true) : goodC k = true ∧ askM c kind = true ∧ 0 ≤ pick ∧ pick ≤ 255 := by
  simp only [okT, Bool.and_eq_true, decide_eq_true_eq] at h
  exact ⟨h.1.1.1, h.1.1.2, h.1.2, h.2⟩
theorem ask_kind {c : Ct} {kind : Int} (h : askM c kind = true) : 0 ≤ kind ∧ kind ≤ 2 := by
  simp only [askM, Bool.and_eq_true, decide_eq_true_eq] at h
  exact ⟨h.1.1.1, h.1.1.2⟩
theorem iTlb_ok : Sound Try.prog 81 (pureS [byP, ctxP, chP, i64, u64, i64] [ttP] (fun t => some (ByteR t.1 ∧ U64 t.2.1.2.2.2 ∧ ChR (toC t.2.2.1) ∧ U64 t.2.2.2.2.1)) (fun t => tlbF t.1 t.2.1 t.2.2.1 t.2.2.2.1 t.2.2.2.2.1 t.2.2.2.2.2)) := by
  refine pure_plain mixed Try.func81 (by kernel_rfl) (by kernel_rfl) FY1_ok (fun t h => ?_)
  obtain ⟨m, ⟨c0, c1, c2, c3⟩, ⟨s1, w1, m1, s2, w2, m2, s3, w3, m3⟩, kind, va, pick⟩ : By × Ct × Cf × Int × Int × Int := t
  obtain ⟨hm, hc3, ⟨r1, r2, r3⟩, hv⟩ : ByteR m ∧ U64 c3 ∧ (TlR (s1, w1, m1) ∧ TlR (s2, w2, m2) ∧ TlR (s3, w3, m3)) ∧ U64 va := h
  show vcPure Try.prog FY1 .none Try.f81 [byP, ctxP, chP, i64, u64, i64] [ttP] (m, (c0, c1, c2, c3), (s1, w1, m1, s2, w2, m2, s3, w3, m3), kind, va, pick) (tlbF m (c0, c1, c2, c3) (s1, w1, m1, s2, w2, m2, s3, w3, m3) kind va pick)
  have el : tlbF m (c0, c1, c2, c3) (s1, w1, m1, s2, w2, m2, s3, w3, m3) kind va pick = ((tlbM m (c0, c1, c2, c3) ((s1, w1, m1), (s2, w2, m2), (s3, w3, m3)) kind va pick).1, (tlbM m (c0, c1, c2, c3) ((s1, w1, m1), (s2, w2, m2), (s3, w3, m3)) kind va pick).2.1, ofC (tlbM m (c0, c1, c2, c3) ((s1, w1, m1), (s2, w2, m2), (s3, w3, m3)) kind va pick).2.2) := rfl
  rw [el]
  clear el
  by_cases ok : okT (c0, c1, c2, c3) ((s1, w1, m1), (s2, w2, m2), (s3, w3, m3)) kind pick = true
  · obtain ⟨o1, o2, o3, o4⟩ := okT_use ok
    obtain ⟨o5, o6⟩ := ask_kind o2
    have ht : TrnR m (c0, c1, c2, c3) ((s1, w1, m1), (s2, w2, m2), (s3, w3, m3)) kind va pick := ⟨hm, hc3, hv, o1, ⟨r1, r2, r3⟩, o3, o4, o5, o6⟩
    unfold tlbM
    rw [if_pos ok]
    obtain ⟨e, pa, l, t1, t2, t3, hr, -, -, -, hpa, hcode⟩ := trM_shape m (c0, c1, c2, c3) (s1, w1, m1) (s2, w2, m2) (s3, w3, m3) kind va pick
    have hq := vc_iTlb_eq m c0 c1 c2 c3 s1 w1 m1 s2 w2 m2 s3 w3 m3 kind va pick (causeM e kind) pa s1 w1 t1 s2 w2 t2 s3 w3 t3
    rw [okT_bif, ok, hr] at hq
    rw [hr]
    refine vc_by hq ⟨⟨rfl, rfl, rfl, r1, r2, r3⟩, fun q => (by cases q), fun _ => ⟨⟨rfl, rfl, rfl, r1.2.2.1, r2.2.2.1, r3.2.2.1⟩, ?_, fun a => ⟨⟨o5, o6⟩, fun _ => ?_, fun q => by cases q⟩, fun a => ⟨⟨o5, o6⟩, ?_⟩, fun a => ⟨⟨o5, o6⟩, ?_⟩⟩⟩
    · rcases hcode with a | a | a
      · exact .inl ⟨rfl, rfl, ht, a⟩
      · exact .inr (.inl ⟨rfl, rfl, ht, a⟩)
      · exact .inr (.inr ⟨rfl, rfl, ht, a⟩)
    · have a : e = 0 := a.2.2.2
      simp [a, causeM]
    · have a : e = 1 := a.2.2.2
      have hp : pa = 0 := by rcases hpa with z | z; (rw [a] at z; cases z); exact z.2
      simp [a, hp, causeM]
    · have a : e = 2 := a.2.2.2
      have hp : pa = 0 := by rcases hpa with z | z; (rw [a] at z; cases z); exact z.2
      simp [a, hp, causeM]
  · unfold tlbM
    rw [if_neg ok]
    have ok : okT (c0, c1, c2, c3) ((s1, w1, m1), (s2, w2, m2), (s3, w3, m3)) kind pick = false := by simpa using ok
    have hq := vc_iTlb_eq m c0 c1 c2 c3 s1 w1 m1 s2 w2 m2 s3 w3 m3 kind va pick 63 0 0 0 [] 0 0 [] 0 0 []
    rw [okT_bif, ok] at hq
    refine vc_by hq ⟨⟨rfl, rfl, rfl, r1, r2, r3⟩, fun _ => ?_, fun q => by cases q⟩
    simp
theorem eqTT_ok : Sound Try.prog 82 (pureS [ttP, ttP] [bl] (fun t => some (t.1 = t.2 ∧ SzC (toC t.1.2.2))) (fun _ => true)) := by
  refine pure_plain mixed Try.func82 (by kernel_rfl) (by kernel_rfl) FY1_ok (fun t h => ?_)
  obtain ⟨a, b⟩ : (Int × Int × Cf) × (Int × Int × Cf) := t
  obtain ⟨rfl, h⟩ : a = b ∧ SzC (toC a.2.2) := h
  obtain ⟨e, pa, s1, w1, m1, s2, w2, m2, s3, w3, m3⟩ := a
  obtain ⟨h1, h2, h3⟩ : SzR m1.length ∧ SzR m2.length ∧ SzR m3.length := h
  exact vc_by (vc_eqTT_eq e pa s1 w1 m1 s2 w2 m2 s3 w3 m3) (by simp [h1, h2, h3])
theorem markTT_ok : Sound Try.prog 85 (mutS [ttP, i64] [i64] (fun t => some (MarkC (toC t.1.2.2) t.2)) (fun t => (((t.1.1, t.1.2.1, ofC (markC (toC t.1.2.2) t.2)), t.2), t.2 + 6 * t.1.2.2.2.2.1.length + 6 * t.1.2.2.2.2.2.2.2.1.length + 6 * t.1.2.2.2.2.2.2.2.2.2.2.length))) := by
  refine mut_plain mixed Try.func85 (by kernel_rfl) (by kernel_rfl) FY1_ok (fun t h => ?_)
  obtain ⟨⟨e, pa, s1, w1, m1, s2, w2, m2, s3, w3, m3⟩, n⟩ : (Int × Int × Cf) × Int := t
  obtain ⟨⟨h1, h2, h3⟩, h4, h5⟩ : (SzR m1.length ∧ SzR m2.length ∧ SzR m3.length) ∧ 0 ≤ n ∧ n ≤ 1099511627776 - 60000000 := h
  exact ⟨.none, vc_by (vc_markTT_eq e pa s1 w1 m1 s2 w2 m2 s3 w3 m3 n) (by simp [h1, h2, h3, h4]; omega)⟩
theorem heldTT_ok : Sound Try.prog 86 (pureS [ttP, i64] [i64] (fun t => some (MarkC (toC t.1.2.2) t.2 ∧ toC t.1.2.2 = markC (toC t.1.2.2) t.2)) (fun t => t.2 + 6 * t.1.2.2.2.2.1.length + 6 * t.1.2.2.2.2.2.2.2.1.length + 6 * t.1.2.2.2.2.2.2.2.2.2.2.length)) := by
  refine pure_plain mixed Try.func86 (by kernel_rfl) (by kernel_rfl) FY1_ok (fun t h => ?_)
  obtain ⟨⟨e, pa, s1, w1, m1, s2, w2, m2, s3, w3, m3⟩, n⟩ : (Int × Int × Cf) × Int := t
  obtain ⟨⟨⟨h1, h2, h3⟩, h4, h5⟩, he⟩ : ((SzR m1.length ∧ SzR m2.length ∧ SzR m3.length) ∧ 0 ≤ n ∧ n ≤ 1099511627776 - 60000000) ∧ ((s1, w1, m1), (s2, w2, m2), (s3, w3, m3)) = markC ((s1, w1, m1), (s2, w2, m2), (s3, w3, m3)) n := h
  refine vc_by (vc_heldTT_eq e pa s1 w1 m1 s2 w2 m2 s3 w3 m3 n) ⟨⟨rfl, rfl, rfl, ⟨⟨h1, h2, h3⟩, h4, h5⟩, he⟩, fun q => ?_, fun _ => ⟨rfl, rfl, rfl, rfl⟩⟩
  exact absurd (show n + 6 * (m1.length : Int) + 6 * (m2.length : Int) + 6 * (m3.length : Int) < 0 from of_decide_eq_true q) (by omega)
theorem szC_use {k : Cch} {n : Int} (hn : n ≤ 1048576) (h : ¬ szC k n < 0) : SzC k := by
  unfold szC at h
  split at h
  · exact absurd (by decide) h
  · rename_i h1
    split at h
    · exact absurd (by decide) h
    · rename_i h2
      exact ⟨sz_ok hn h1, sz_ok (szM_in hn) h2, sz_ok (szM_in (szM_in hn)) h⟩
end Go.Proofs.Ytfiddfbagbaofaa.V
