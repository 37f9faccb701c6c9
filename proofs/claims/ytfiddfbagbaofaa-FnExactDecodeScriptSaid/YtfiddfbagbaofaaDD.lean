/- Scripts told equal, marked and held, and the law on reading them. Conditions: those in each statement. -/
import Derived.Test.YtfiddfbagbaofaaDC
import Derived.KernelRfl
namespace Go.Proofs.Ytfiddfbagbaofaa.V
open Go
abbrev isP : Pm := .one (.sl [.i .i64])
def markI (k : Int) (n : Nat) : List Int := (List.range n).map fun i : Nat => k + (i : Int)
def eqIsL (m n : List Int) : LoopS where
  α := Nat
  I i := i ≤ m.length
  sl i := slots 26 [(0, .sl 0 1 0 m.length), (1, .sl 1 1 0 n.length), (5, .v (.int .i64 i))]
  H _ := [.arr [.i .i64] m false, .arr [.i .i64] n false]
  fams := [{ β := Unit, out := fun _ _ => True, ex := .ext 0, sl := fun _ => slots 26 [], H := fun _ => [.arr [.i .i64] m false, .arr [.i .i64] n false] }]
def vc_eqIs_r (m n : List Int) (i : Nat) : Prop := vcRound Try.prog F0 (.one 4 (eqIsL m n)) 2 (loopAt Try.f158 0) (eqIsL m n) (fun i : Nat => m.length - i) i
def vc_eqIs (m n : List Int) : Prop := vcPure Try.prog F0 (.one 4 (eqIsL m n)) Try.f158 [isP, isP] [bl] (m, n) true
def markIsL (m : List Int) (k : Int) : LoopS where
  α := Nat
  I i := i ≤ m.length
  sl i := slots 19 [(0, .sl 0 1 0 m.length), (1, .v (.int .i64 (k + i))), (5, .v (.int .i64 i))]
  H i := [.arr [.i .i64] (markI k i ++ m.drop i) true]
  fams := [{ β := Unit, out := fun _ _ => True, ex := .ext 0, sl := fun _ => slots 19 [(1, .v (.int .i64 (k + m.length)))], H := fun _ => [.arr [.i .i64] (markI k m.length) true] }]
def vc_markIs_r (m : List Int) (k : Int) (i : Nat) : Prop := vcRound Try.prog F0 (.one 2 (markIsL m k)) 1 (loopAt Try.f160 0) (markIsL m k) (fun i : Nat => m.length - i) i
def vc_markIs (m : List Int) (k : Int) : Prop := vcMut Try.prog F0 (.one 2 (markIsL m k)) Try.f160 [isP, i64] [i64] (m, k) ((markI k m.length, k), k + m.length)
def markUsL (m : Us) (k : Int) : LoopS where
  α := Nat
  I i := i ≤ m.length
  sl i := slots 20 [(0, .sl 0 1 0 m.length), (1, .v (.int .i64 (k + i))), (5, .v (.int .i64 i))]
  H i := [.arr [.i .u64] (markI k i ++ m.drop i) true]
  fams := [{ β := Unit, out := fun _ _ => True, ex := .ext 0, sl := fun _ => slots 20 [(1, .v (.int .i64 (k + m.length)))], H := fun _ => [.arr [.i .u64] (markI k m.length) true] }]
def vc_markUs_r (m : Us) (k : Int) (i : Nat) : Prop := vcRound Try.prog F0 (.one 2 (markUsL m k)) 1 (loopAt Try.f198 0) (markUsL m k) (fun i : Nat => m.length - i) i
def vc_markUs (m : Us) (k : Int) : Prop := vcMut Try.prog F0 (.one 2 (markUsL m k)) Try.f198 [usP, i64] [i64] (m, k) ((markI k m.length, k), k + m.length)
def heldIsL (m : List Int) (k : Int) : LoopS where
  α := Nat
  I i := i ≤ m.length
  sl i := slots 21 [(0, .sl 0 1 0 m.length), (1, .v (.int .i64 (k + i))), (5, .v (.int .i64 i))]
  H _ := [.arr [.i .i64] m false]
  fams := [{ β := Unit, out := fun _ _ => True, ex := .ext 0, sl := fun _ => slots 21 [(1, .v (.int .i64 (k + m.length)))], H := fun _ => [.arr [.i .i64] m false] }]
def vc_heldIs_r (m : List Int) (k : Int) (i : Nat) : Prop := vcRound Try.prog F0 (.one 2 (heldIsL m k)) 1 (loopAt Try.f162 0) (heldIsL m k) (fun i : Nat => m.length - i) i
def vc_heldIs (m : List Int) (k : Int) : Prop := vcPure Try.prog F0 (.one 2 (heldIsL m k)) Try.f162 [isP, i64] [i64] (m, k) (k + m.length)
def heldUsL (m : Us) (k : Int) : LoopS where
  α := Nat
  I i := i ≤ m.length
  sl i := slots 22 [(0, .sl 0 1 0 m.length), (1, .v (.int .i64 (k + i))), (5, .v (.int .i64 i))]
  H _ := [.arr [.i .u64] m false]
  fams := [{ β := Unit, out := fun _ _ => True, ex := .ext 0, sl := fun _ => slots 22 [(1, .v (.int .i64 (k + m.length)))], H := fun _ => [.arr [.i .u64] m false] }]
def vc_heldUs_r (m : Us) (k : Int) (i : Nat) : Prop := vcRound Try.prog F0 (.one 2 (heldUsL m k)) 1 (loopAt Try.f199 0) (heldUsL m k) (fun i : Nat => m.length - i) i
def vc_heldUs (m : Us) (k : Int) : Prop := vcPure Try.prog F0 (.one 2 (heldUsL m k)) Try.f199 [usP, i64] [i64] (m, k) (k + m.length)
def kDD1 : Known := [
  (158, pureS [isP, isP] [bl] (fun t => some (t.1 = t.2 ∧ SzR t.1.length)) (fun _ => true)),
  (160, mutS [isP, i64] [i64] (fun t => some (MarkR t.1.length t.2)) (fun t => ((markI t.2 t.1.length, t.2), t.2 + t.1.length))),
  (198, mutS [usP, i64] [i64] (fun t => some (MarkR t.1.length t.2)) (fun t => ((markI t.2 t.1.length, t.2), t.2 + t.1.length))),
  (162, pureS [isP, i64] [i64] (fun t => some (MarkR t.1.length t.2 ∧ t.1 = markI t.2 t.1.length)) (fun t => t.2 + t.1.length)),
  (199, pureS [usP, i64] [i64] (fun t => some (MarkR t.1.length t.2 ∧ t.1 = markI t.2 t.1.length)) (fun t => t.2 + t.1.length))]
def FDD1 : Dict := mkD (kDD1 ++ kHA2 ++ kY1 ++ kB1) [] []
def markH (h : Ha) (n : Int) : Ha := (markM (n) (h.1).length, markI (n + (h.1).length) (h.2.1).length, h.2.2.1, h.2.2.2.1, h.2.2.2.2.1, h.2.2.2.2.2.1, h.2.2.2.2.2.2.1, h.2.2.2.2.2.2.2.1, h.2.2.2.2.2.2.2.2.1, h.2.2.2.2.2.2.2.2.2.1, h.2.2.2.2.2.2.2.2.2.2.1, h.2.2.2.2.2.2.2.2.2.2.2.1, h.2.2.2.2.2.2.2.2.2.2.2.2.1, h.2.2.2.2.2.2.2.2.2.2.2.2.2.1, markEs (n + (h.1).length + (h.2.1).length) (h.2.2.2.2.2.2.2.2.2.2.2.2.2.2.1).length, h.2.2.2.2.2.2.2.2.2.2.2.2.2.2.2.1, h.2.2.2.2.2.2.2.2.2.2.2.2.2.2.2.2.1, markEs (n + (h.1).length + (h.2.1).length + 6 * (h.2.2.2.2.2.2.2.2.2.2.2.2.2.2.1).length) (h.2.2.2.2.2.2.2.2.2.2.2.2.2.2.2.2.2.1).length, h.2.2.2.2.2.2.2.2.2.2.2.2.2.2.2.2.2.2.1, h.2.2.2.2.2.2.2.2.2.2.2.2.2.2.2.2.2.2.2.1, markEs (n + (h.1).length + (h.2.1).length + 6 * (h.2.2.2.2.2.2.2.2.2.2.2.2.2.2.1).length + 6 * (h.2.2.2.2.2.2.2.2.2.2.2.2.2.2.2.2.2.1).length) (h.2.2.2.2.2.2.2.2.2.2.2.2.2.2.2.2.2.2.2.2).length)
def lastH (h : Ha) (n : Int) : Int := n + (h.1).length + (h.2.1).length + 6 * (h.2.2.2.2.2.2.2.2.2.2.2.2.2.2.1).length + 6 * (h.2.2.2.2.2.2.2.2.2.2.2.2.2.2.2.2.2.1).length + 6 * (h.2.2.2.2.2.2.2.2.2.2.2.2.2.2.2.2.2.2.2.2).length
def markS (s : Sc) (n : Int) : Sc := (markM (n) (s.1).length, markI (n + (s.1).length) (s.2.1).length, s.2.2.1, s.2.2.2.1, s.2.2.2.2.1, s.2.2.2.2.2.1, s.2.2.2.2.2.2.1, s.2.2.2.2.2.2.2.1, s.2.2.2.2.2.2.2.2.1, s.2.2.2.2.2.2.2.2.2.1, s.2.2.2.2.2.2.2.2.2.2.1, s.2.2.2.2.2.2.2.2.2.2.2.1, s.2.2.2.2.2.2.2.2.2.2.2.2.1, s.2.2.2.2.2.2.2.2.2.2.2.2.2.1, markEs (n + (s.1).length + (s.2.1).length) (s.2.2.2.2.2.2.2.2.2.2.2.2.2.2.1).length, s.2.2.2.2.2.2.2.2.2.2.2.2.2.2.2.1, s.2.2.2.2.2.2.2.2.2.2.2.2.2.2.2.2.1, markEs (n + (s.1).length + (s.2.1).length + 6 * (s.2.2.2.2.2.2.2.2.2.2.2.2.2.2.1).length) (s.2.2.2.2.2.2.2.2.2.2.2.2.2.2.2.2.2.1).length, s.2.2.2.2.2.2.2.2.2.2.2.2.2.2.2.2.2.2.1, s.2.2.2.2.2.2.2.2.2.2.2.2.2.2.2.2.2.2.2.1, markEs (n + (s.1).length + (s.2.1).length + 6 * (s.2.2.2.2.2.2.2.2.2.2.2.2.2.2.1).length + 6 * (s.2.2.2.2.2.2.2.2.2.2.2.2.2.2.2.2.2.1).length) (s.2.2.2.2.2.2.2.2.2.2.2.2.2.2.2.2.2.2.2.2.1).length, markI (n + (s.1).length + (s.2.1).length + 6 * (s.2.2.2.2.2.2.2.2.2.2.2.2.2.2.1).length + 6 * (s.2.2.2.2.2.2.2.2.2.2.2.2.2.2.2.2.2.1).length + 6 * (s.2.2.2.2.2.2.2.2.2.2.2.2.2.2.2.2.2.2.2.2.1).length) (s.2.2.2.2.2.2.2.2.2.2.2.2.2.2.2.2.2.2.2.2.2).length)
def lastS (s : Sc) (n : Int) : Int := n + (s.1).length + (s.2.1).length + 6 * (s.2.2.2.2.2.2.2.2.2.2.2.2.2.2.1).length + 6 * (s.2.2.2.2.2.2.2.2.2.2.2.2.2.2.2.2.2.1).length + 6 * (s.2.2.2.2.2.2.2.2.2.2.2.2.2.2.2.2.2.2.2.2.1).length + (s.2.2.2.2.2.2.2.2.2.2.2.2.2.2.2.2.2.2.2.2.2).length
def SzS (s : Sc) : Prop := SzR (s.1).length ∧ SzR (s.2.1).length ∧ SzR (s.2.2.2.2.2.2.2.2.2.2.2.2.2.2.1).length ∧ SzR (s.2.2.2.2.2.2.2.2.2.2.2.2.2.2.2.2.2.1).length ∧ SzR (s.2.2.2.2.2.2.2.2.2.2.2.2.2.2.2.2.2.2.2.2.1).length ∧ SzR (s.2.2.2.2.2.2.2.2.2.2.2.2.2.2.2.2.2.2.2.2.2).length
def InN (n : Int) : Prop := 0 ≤ n ∧ n ≤ 549755813888
def vc_markH (m : By) (u : Us) (pc : Int) (mo : Int) (su : Bool) (mx : Bool) (sa : Int) (tv : Int) (ep : Int) (em : Int) (ca : Int) (tl : Int) (s1 : Int) (w1 : Int) (m1 : Es) (s2 : Int) (w2 : Int) (m2 : Es) (s3 : Int) (w3 : Int) (m3 : Es) (n : Int) : Prop := vcMut Try.prog FDD1 .none Try.f159 [haP, i64] [i64] ((m, u, pc, mo, su, mx, sa, tv, ep, em, ca, tl, s1, w1, m1, s2, w2, m2, s3, w3, m3), n) ((markH (m, u, pc, mo, su, mx, sa, tv, ep, em, ca, tl, s1, w1, m1, s2, w2, m2, s3, w3, m3) n, n), lastH (m, u, pc, mo, su, mx, sa, tv, ep, em, ca, tl, s1, w1, m1, s2, w2, m2, s3, w3, m3) n)
def vc_heldH (m : By) (u : Us) (pc : Int) (mo : Int) (su : Bool) (mx : Bool) (sa : Int) (tv : Int) (ep : Int) (em : Int) (ca : Int) (tl : Int) (s1 : Int) (w1 : Int) (m1 : Es) (s2 : Int) (w2 : Int) (m2 : Es) (s3 : Int) (w3 : Int) (m3 : Es) (n : Int) : Prop := vcPure Try.prog FDD1 .none Try.f161 [haP, i64] [i64] ((m, u, pc, mo, su, mx, sa, tv, ep, em, ca, tl, s1, w1, m1, s2, w2, m2, s3, w3, m3), n) (lastH (m, u, pc, mo, su, mx, sa, tv, ep, em, ca, tl, s1, w1, m1, s2, w2, m2, s3, w3, m3) n)
def kDD2 : Known := [
  (159, mutS [haP, i64] [i64] (fun t => some (SzH t.1 ∧ InN t.2)) (fun t => ((markH t.1 t.2, t.2), lastH t.1 t.2))),
  (161, pureS [haP, i64] [i64] (fun t => some ((SzH t.1 ∧ InN t.2) ∧ t.1 = markH t.1 t.2)) (fun t => lastH t.1 t.2))]
def FDD2 : Dict := mkD (kDD2 ++ kDD1 ++ kHA2 ++ kB1) [] []
def vc_eqS (m : By) (u : Us) (pc : Int) (mo : Int) (su : Bool) (mx : Bool) (sa : Int) (tv : Int) (ep : Int) (em : Int) (ca : Int) (tl : Int) (s1 : Int) (w1 : Int) (m1 : Es) (s2 : Int) (w2 : Int) (m2 : Es) (s3 : Int) (w3 : Int) (m3 : Es) (pk : List Int) : Prop := vcPure Try.prog FDD2 .none Try.f71 [scP, scP] [bl] ((m, u, pc, mo, su, mx, sa, tv, ep, em, ca, tl, s1, w1, m1, s2, w2, m2, s3, w3, m3, pk), (m, u, pc, mo, su, mx, sa, tv, ep, em, ca, tl, s1, w1, m1, s2, w2, m2, s3, w3, m3, pk)) true
def vc_markS (m : By) (u : Us) (pc : Int) (mo : Int) (su : Bool) (mx : Bool) (sa : Int) (tv : Int) (ep : Int) (em : Int) (ca : Int) (tl : Int) (s1 : Int) (w1 : Int) (m1 : Es) (s2 : Int) (w2 : Int) (m2 : Es) (s3 : Int) (w3 : Int) (m3 : Es) (pk : List Int) (n : Int) : Prop := vcMut Try.prog FDD2 .none Try.f72 [scP, i64] [i64] ((m, u, pc, mo, su, mx, sa, tv, ep, em, ca, tl, s1, w1, m1, s2, w2, m2, s3, w3, m3, pk), n) ((markS (m, u, pc, mo, su, mx, sa, tv, ep, em, ca, tl, s1, w1, m1, s2, w2, m2, s3, w3, m3, pk) n, n), lastS (m, u, pc, mo, su, mx, sa, tv, ep, em, ca, tl, s1, w1, m1, s2, w2, m2, s3, w3, m3, pk) n)
def vc_heldS (m : By) (u : Us) (pc : Int) (mo : Int) (su : Bool) (mx : Bool) (sa : Int) (tv : Int) (ep : Int) (em : Int) (ca : Int) (tl : Int) (s1 : Int) (w1 : Int) (m1 : Es) (s2 : Int) (w2 : Int) (m2 : Es) (s3 : Int) (w3 : Int) (m3 : Es) (pk : List Int) (n : Int) : Prop := vcPure Try.prog FDD2 .none Try.f73 [scP, i64] [i64] ((m, u, pc, mo, su, mx, sa, tv, ep, em, ca, tl, s1, w1, m1, s2, w2, m2, s3, w3, m3, pk), n) (lastS (m, u, pc, mo, su, mx, sa, tv, ep, em, ca, tl, s1, w1, m1, s2, w2, m2, s3, w3, m3, pk) n)
def kDD3 : Known := [
  (71, pureS [scP, scP] [bl] (fun t => some (t.1 = t.2 ∧ SzS t.1)) (fun _ => true)),
  (72, mutS [scP, i64] [i64] (fun t => some (SzS t.1 ∧ InN t.2)) (fun t => ((markS t.1 t.2, t.2), lastS t.1 t.2))),
  (73, pureS [scP, i64] [i64] (fun t => some ((SzS t.1 ∧ InN t.2) ∧ t.1 = markS t.1 t.2)) (fun t => lastS t.1 t.2)),
  (69, pureS [byP] [scP] (fun b => some (ByteR b)) decM),
  (70, pureS [byP] [scP] (fun b => some (ByteR b)) decM)]
def FDD3 : Dict := mkD (kDD3 ++ kB1) [] []
def vc_lawDec (b : By) : Prop := vcPure Try.prog FDD3 .none Try.f18 [byP] [bl] b true
end Go.Proofs.Ytfiddfbagbaofaa.V
namespace Go.Proofs.Ytfiddfbagbaofaa.V
open Go
set_option linter.unusedVariables false
theorem vc_eqIs_r_eq (m n : List Int) (i : Nat) : vc_eqIs_r m n i = (
 (decide ((↑i : Int) < (↑m.length : Int)) = true → ((0 : Int) ≤ (↑i : Int) ∧ (↑i : Int) < (↑m.length : Int)) ∧ (0 : Nat) + (↑i : Int).toNat < m.length ∧ ((0 : Int) ≤ (↑i : Int) ∧ (↑i : Int) < (↑n.length : Int)) ∧ (0 : Nat) + (↑i : Int).toNat
 < n.length ∧ ((m.getD ((0 : Nat) + (↑i : Int).toNat) (El.zero [Ty.i IntKind.i64]) != n.getD ((0 : Nat) + (↑i : Int).toNat) (El.zero [Ty.i IntKind.i64])) = true → False) ∧ ((m.getD ((0 : Nat) + (↑i : Int).toNat) (El.zero [Ty.i IntKind.i64])
 != n.getD ((0 : Nat) + (↑i : Int).toNat) (El.zero [Ty.i IntKind.i64])) = false → ∃ (y : Nat), ((0 : Nat) = (0 : Nat) ∧ m.length = m.length ∧ (0 : Nat) = (0 : Nat) ∧ n.length = n.length ∧ (↑y : Int) = IntKind.i64.wrap ((↑i : Int) + (1 :
 Int)) ∧ m = m ∧ n = n) ∧ y ≤ m.length ∧ m.length - y < m.length - i ∧ ∀ (z : Unit), True → True)) ∧ (decide ((↑i : Int) < (↑m.length : Int)) = false → ∃ (z : Unit), (m = m ∧ n = n) ∧ True)) := by kernel_rfl
theorem vc_eqIs_eq (m n : List Int) : vc_eqIs m n = (
 (((↑m.length : Int) != (↑n.length : Int)) = true → true = false ∧ m = m ∧ n = n) ∧ (((↑m.length : Int) != (↑n.length : Int)) = false → ∃ (x : Nat), ((0 : Nat) = (0 : Nat) ∧ m.length = m.length ∧ (0 : Nat) = (0 : Nat) ∧ n.length = n.length ∧
 (↑x : Int) = (0 : Int) ∧ m = m ∧ n = n) ∧ x ≤ m.length ∧ ∀ (z : Unit), True → true = true ∧ m = m ∧ n = n)) := by kernel_rfl
theorem vc_markIs_r_eq (m : List Int) (k : Int) (i : Nat) : vc_markIs_r m k i = (
 (decide ((↑i : Int) < (↑m.length : Int)) = true → ((0 : Int) ≤ (↑i : Int) ∧ (↑i : Int) < (↑m.length : Int)) ∧ (0 : Nat) + (↑i : Int).toNat < (markI k i ++ List.drop i m).length ∧ ∃ (y : Nat), ((0 : Nat) = (0 : Nat) ∧ m.length = m.length ∧ k
 + (↑y : Int) = IntKind.i64.wrap (k + (↑i : Int) + (1 : Int)) ∧ (↑y : Int) = IntKind.i64.wrap ((↑i : Int) + (1 : Int)) ∧ markI k y ++ List.drop y m = (markI k i ++ List.drop i m).set ((0 : Nat) + (↑i : Int).toNat) (k + (↑i : Int))) ∧ y ≤
 m.length ∧ m.length - y < m.length - i ∧ ∀ (z : Unit), True → True) ∧ (decide ((↑i : Int) < (↑m.length : Int)) = false → ∃ (z : Unit), (k + (↑m.length : Int) = k + (↑i : Int) ∧ markI k m.length = markI k i ++ List.drop i m) ∧ True)) := by kernel_rfl
theorem vc_markIs_eq (m : List Int) (k : Int) : vc_markIs m k = (
 ∃ (x : Nat), ((0 : Nat) = (0 : Nat) ∧ m.length = m.length ∧ k + (↑x : Int) = k ∧ (↑x : Int) = (0 : Int) ∧ markI k x ++ List.drop x m = m) ∧ x ≤ m.length ∧ ∀ (z : Unit), True → k + (↑m.length : PmT [i64]) = k + (↑m.length : Int) ∧ markI k
 m.length = markI k m.length) := by kernel_rfl
theorem vc_markUs_r_eq (m : Us) (k : Int) (i : Nat) : vc_markUs_r m k i = (
 (decide ((↑i : Int) < (↑(List.length m) : Int)) = true → ((0 : Int) ≤ (↑i : Int) ∧ (↑i : Int) < (↑(List.length m) : Int)) ∧ (0 : Nat) + (↑i : Int).toNat < (markI k i ++ List.drop i m).length ∧ ∃ (y : Nat), ((0 : Nat) = (0 : Nat) ∧
 List.length m = List.length m ∧ k + (↑y : Int) = IntKind.i64.wrap (k + (↑i : Int) + (1 : Int)) ∧ (↑y : Int) = IntKind.i64.wrap ((↑i : Int) + (1 : Int)) ∧ markI k y ++ List.drop y m = (markI k i ++ List.drop i m).set ((0 : Nat) + (↑i :
 Int).toNat) (IntKind.u64.wrap (k + (↑i : Int)))) ∧ y ≤ List.length m ∧ List.length m - y < List.length m - i ∧ ∀ (z : Unit), True → True) ∧ (decide ((↑i : Int) < (↑(List.length m) : Int)) = false → ∃ (z : Unit), (k + (↑(List.length m) :
 Int) = k + (↑i : Int) ∧ markI k (List.length m) = markI k i ++ List.drop i m) ∧ True)) := by kernel_rfl
theorem vc_markUs_eq (m : Us) (k : Int) : vc_markUs m k = (
 ∃ (x : Nat), ((0 : Nat) = (0 : Nat) ∧ List.length m = List.length m ∧ k + (↑x : Int) = k ∧ (↑x : Int) = (0 : Int) ∧ markI k x ++ List.drop x m = m) ∧ x ≤ List.length m ∧ ∀ (z : Unit), True → k + (↑(List.length m) : PmT [i64]) = k +
 (↑(List.length m) : Int) ∧ markI k (List.length m) = markI k (List.length m)) := by kernel_rfl
theorem vc_heldIs_r_eq (m : List Int) (k : Int) (i : Nat) : vc_heldIs_r m k i = (
 (decide ((↑i : Int) < (↑m.length : Int)) = true → ((0 : Int) ≤ (↑i : Int) ∧ (↑i : Int) < (↑m.length : Int)) ∧ (0 : Nat) + (↑i : Int).toNat < m.length ∧ ((m.getD ((0 : Nat) + (↑i : Int).toNat) (El.zero [Ty.i IntKind.i64]) != k + (↑i : Int))
 = true → False) ∧ ((m.getD ((0 : Nat) + (↑i : Int).toNat) (El.zero [Ty.i IntKind.i64]) != k + (↑i : Int)) = false → ∃ (y : Nat), ((0 : Nat) = (0 : Nat) ∧ m.length = m.length ∧ k + (↑y : Int) = IntKind.i64.wrap (k + (↑i : Int) + (1 : Int)) ∧
 (↑y : Int) = IntKind.i64.wrap ((↑i : Int) + (1 : Int)) ∧ m = m) ∧ y ≤ m.length ∧ m.length - y < m.length - i ∧ ∀ (z : Unit), True → True)) ∧ (decide ((↑i : Int) < (↑m.length : Int)) = false → ∃ (z : Unit), (k + (↑m.length : Int) = k + (↑i
 : Int) ∧ m = m) ∧ True)) := by kernel_rfl
theorem vc_heldIs_eq (m : List Int) (k : Int) : vc_heldIs m k = (
 ∃ (x : Nat), ((0 : Nat) = (0 : Nat) ∧ m.length = m.length ∧ k + (↑x : Int) = k ∧ (↑x : Int) = (0 : Int) ∧ m = m) ∧ x ≤ m.length ∧ ∀ (z : Unit), True → k + (↑m.length : PmT [i64]) = k + (↑m.length : Int) ∧ m = m) := by kernel_rfl
theorem vc_heldUs_r_eq (m : Us) (k : Int) (i : Nat) : vc_heldUs_r m k i = (
 (decide ((↑i : Int) < (↑(List.length m) : Int)) = true → ((0 : Int) ≤ (↑i : Int) ∧ (↑i : Int) < (↑(List.length m) : Int)) ∧ (0 : Nat) + (↑i : Int).toNat < List.length m ∧ ((List.getD m ((0 : Nat) + (↑i : Int).toNat) (El.zero [Ty.i
 IntKind.u64]) != IntKind.u64.wrap (k + (↑i : Int))) = true → False) ∧ ((List.getD m ((0 : Nat) + (↑i : Int).toNat) (El.zero [Ty.i IntKind.u64]) != IntKind.u64.wrap (k + (↑i : Int))) = false → ∃ (y : Nat), ((0 : Nat) = (0 : Nat) ∧
 List.length m = List.length m ∧ k + (↑y : Int) = IntKind.i64.wrap (k + (↑i : Int) + (1 : Int)) ∧ (↑y : Int) = IntKind.i64.wrap ((↑i : Int) + (1 : Int)) ∧ m = m) ∧ y ≤ List.length m ∧ List.length m - y < List.length m - i ∧ ∀ (z : Unit),
 True → True)) ∧ (decide ((↑i : Int) < (↑(List.length m) : Int)) = false → ∃ (z : Unit), (k + (↑(List.length m) : Int) = k + (↑i : Int) ∧ m = m) ∧ True)) := by kernel_rfl
theorem vc_heldUs_eq (m : Us) (k : Int) : vc_heldUs m k = (
 ∃ (x : Nat), ((0 : Nat) = (0 : Nat) ∧ List.length m = List.length m ∧ k + (↑x : Int) = k ∧ (↑x : Int) = (0 : Int) ∧ m = m) ∧ x ≤ List.length m ∧ ∀ (z : Unit), True → k + (↑(List.length m) : PmT [i64]) = k + (↑(List.length m) : Int) ∧ m = m) := by kernel_rfl
theorem vc_markH_eq (m : By) (u : Us) (pc : Int) (mo : Int) (su : Bool) (mx : Bool) (sa : Int) (tv : Int) (ep : Int) (em : Int) (ca : Int) (tl : Int) (s1 : Int) (w1 : Int) (m1 : Es) (s2 : Int) (w2 : Int) (m2 : Es) (s3 : Int) (w3 : Int) (m3 : Es) (n : Int) : vc_markH m u pc mo su mx sa tv ep em ca tl s1 w1 m1 s2 w2 m2 s3 w3 m3 n = (
 (List.length m = List.length m ∧ MarkR (List.length m) n) ∧ (List.length u = List.length u ∧ MarkR (List.length u) (n + (↑(List.length m) : PmT [i64]))) ∧ (List.length m1 = List.length m1 ∧ List.length m2 = List.length m2 ∧ List.length m3 =
 List.length m3 ∧ MarkC ((s1, w1, m1), (s2, w2, m2), s3, w3, m3) (n + (↑(List.length m) : PmT [i64]) + (↑(List.length u) : PmT [i64]))) ∧ n + (↑(List.length m) : Int) + (↑(List.length u) : Int) + (6 : Int) * (↑(List.length m1) : Int) + (6 :
 Int) * (↑(List.length m2) : Int) + (6 : Int) * (↑(List.length m3) : Int) = n + (↑(List.length m) : PmT [i64]) + (↑(List.length u) : PmT [i64]) + (6 : PmT [i64]) * (↑(List.length m1) : PmT [i64]) + (6 : PmT [i64]) * (↑(List.length m2) : PmT
 [i64]) + (6 : PmT [i64]) * (↑(List.length m3) : PmT [i64]) ∧ markM n (List.length m) = markM n (List.length m) ∧ markI (n + (↑(List.length m) : Int)) (List.length u) = markI (n + (↑(List.length m) : PmT [i64])) (List.length u) ∧ markEs (n +
 (↑(List.length m) : Int) + (↑(List.length u) : Int)) (List.length m1) = markEs (n + (↑(List.length m) : PmT [i64]) + (↑(List.length u) : PmT [i64])) (List.length m1) ∧ markEs (n + (↑(List.length m) : Int) + (↑(List.length u) : Int) + (6 :
 Int) * (↑(List.length m1) : Int)) (List.length m2) = markEs (n + (↑(List.length m) : PmT [i64]) + (↑(List.length u) : PmT [i64]) + (6 : Int) * (↑(List.length m1) : Int)) (List.length m2) ∧ markEs (n + (↑(List.length m) : Int) +
 (↑(List.length u) : Int) + (6 : Int) * (↑(List.length m1) : Int) + (6 : Int) * (↑(List.length m2) : Int)) (List.length m3) = markEs (n + (↑(List.length m) : PmT [i64]) + (↑(List.length u) : PmT [i64]) + (6 : Int) * (↑(List.length m1) : Int)
 + (6 : Int) * (↑(List.length m2) : Int)) (List.length m3)) := by kernel_rfl
theorem vc_heldH_eq (m : By) (u : Us) (pc : Int) (mo : Int) (su : Bool) (mx : Bool) (sa : Int) (tv : Int) (ep : Int) (em : Int) (ca : Int) (tl : Int) (s1 : Int) (w1 : Int) (m1 : Es) (s2 : Int) (w2 : Int) (m2 : Es) (s3 : Int) (w3 : Int) (m3 : Es) (n : Int) : vc_heldH m u pc mo su mx sa tv ep em ca tl s1 w1 m1 s2 w2 m2 s3 w3 m3 n = (
 (List.length m = List.length m ∧ MarkR (List.length m) n ∧ m = markM n (List.length m)) ∧ (decide (n + (↑(List.length m) : PmT [i64]) < (0 : Int)) = true → n + (↑(List.length m) : Int) + (↑(List.length u) : Int) + (6 : Int) * (↑(List.length
 m1) : Int) + (6 : Int) * (↑(List.length m2) : Int) + (6 : Int) * (↑(List.length m3) : Int) = (-1 : Int) ∧ m = m ∧ u = u ∧ m1 = m1 ∧ m2 = m2 ∧ m3 = m3) ∧ (decide (n + (↑(List.length m) : PmT [i64]) < (0 : Int)) = false → (List.length u =
 List.length u ∧ MarkR (List.length u) (n + (↑(List.length m) : PmT [i64])) ∧ u = markI (n + (↑(List.length m) : PmT [i64])) (List.length u)) ∧ (decide (n + (↑(List.length m) : PmT [i64]) + (↑(List.length u) : PmT [i64]) < (0 : Int)) = true
 → n + (↑(List.length m) : Int) + (↑(List.length u) : Int) + (6 : Int) * (↑(List.length m1) : Int) + (6 : Int) * (↑(List.length m2) : Int) + (6 : Int) * (↑(List.length m3) : Int) = (-1 : Int) ∧ m = m ∧ u = u ∧ m1 = m1 ∧ m2 = m2 ∧ m3 = m3) ∧
 (decide (n + (↑(List.length m) : PmT [i64]) + (↑(List.length u) : PmT [i64]) < (0 : Int)) = false → (List.length m1 = List.length m1 ∧ List.length m2 = List.length m2 ∧ List.length m3 = List.length m3 ∧ MarkC ((s1, w1, m1), (s2, w2, m2),
 s3, w3, m3) (n + (↑(List.length m) : PmT [i64]) + (↑(List.length u) : PmT [i64])) ∧ ((s1, w1, m1), (s2, w2, m2), s3, w3, m3) = ((s1, w1, markEs (n + (↑(List.length m) : PmT [i64]) + (↑(List.length u) : PmT [i64])) (List.length m1)), (s2,
 w2, markEs (n + (↑(List.length m) : PmT [i64]) + (↑(List.length u) : PmT [i64]) + (6 : Int) * (↑(List.length m1) : Int)) (List.length m2)), s3, w3, markEs (n + (↑(List.length m) : PmT [i64]) + (↑(List.length u) : PmT [i64]) + (6 : Int) *
 (↑(List.length m1) : Int) + (6 : Int) * (↑(List.length m2) : Int)) (List.length m3))) ∧ (decide (n + (↑(List.length m) : PmT [i64]) + (↑(List.length u) : PmT [i64]) + (6 : PmT [i64]) * (↑(List.length m1) : PmT [i64]) + (6 : PmT [i64]) *
 (↑(List.length m2) : PmT [i64]) + (6 : PmT [i64]) * (↑(List.length m3) : PmT [i64]) < (0 : Int)) = true → n + (↑(List.length m) : Int) + (↑(List.length u) : Int) + (6 : Int) * (↑(List.length m1) : Int) + (6 : Int) * (↑(List.length m2) :
 Int) + (6 : Int) * (↑(List.length m3) : Int) = (-1 : Int) ∧ m = m ∧ u = u ∧ m1 = m1 ∧ m2 = m2 ∧ m3 = m3) ∧ (decide (n + (↑(List.length m) : PmT [i64]) + (↑(List.length u) : PmT [i64]) + (6 : PmT [i64]) * (↑(List.length m1) : PmT [i64]) + (6
 : PmT [i64]) * (↑(List.length m2) : PmT [i64]) + (6 : PmT [i64]) * (↑(List.length m3) : PmT [i64]) < (0 : Int)) = false → n + (↑(List.length m) : Int) + (↑(List.length u) : Int) + (6 : Int) * (↑(List.length m1) : Int) + (6 : Int) *
 (↑(List.length m2) : Int) + (6 : Int) * (↑(List.length m3) : Int) = n + (↑(List.length m) : PmT [i64]) + (↑(List.length u) : PmT [i64]) + (6 : PmT [i64]) * (↑(List.length m1) : PmT [i64]) + (6 : PmT [i64]) * (↑(List.length m2) : PmT [i64])
 + (6 : PmT [i64]) * (↑(List.length m3) : PmT [i64]) ∧ m = m ∧ u = u ∧ m1 = m1 ∧ m2 = m2 ∧ m3 = m3)))) := by kernel_rfl
theorem vc_eqS_eq (m : By) (u : Us) (pc : Int) (mo : Int) (su : Bool) (mx : Bool) (sa : Int) (tv : Int) (ep : Int) (em : Int) (ca : Int) (tl : Int) (s1 : Int) (w1 : Int) (m1 : Es) (s2 : Int) (w2 : Int) (m2 : Es) (s3 : Int) (w3 : Int) (m3 : Es) (pk : List Int) : vc_eqS m u pc mo su mx sa tv ep em ca tl s1 w1 m1 s2 w2 m2 s3 w3 m3 pk = (
 (List.length m = List.length m ∧ List.length u = List.length u ∧ List.length m1 = List.length m1 ∧ List.length m2 = List.length m2 ∧ List.length m3 = List.length m3 ∧ List.length m = List.length m ∧ List.length u = List.length u ∧
 List.length m1 = List.length m1 ∧ List.length m2 = List.length m2 ∧ List.length m3 = List.length m3 ∧ (m, u, pc, mo, su, mx, sa, tv, ep, em, ca, tl, s1, w1, m1, s2, w2, m2, s3, w3, m3) = (m, u, pc, mo, su, mx, sa, tv, ep, em, ca, tl, s1,
 w1, m1, s2, w2, m2, s3, w3, m3) ∧ SzR (List.length m) ∧ SzR (List.length u) ∧ SzC ((s1, w1, m1), (s2, w2, m2), s3, w3, m3)) ∧ ((!true) = true → true = false ∧ m = m ∧ u = u ∧ m1 = m1 ∧ m2 = m2 ∧ m3 = m3 ∧ pk = pk ∧ m = m ∧ u = u ∧ m1 = m1 ∧
 m2 = m2 ∧ m3 = m3 ∧ pk = pk) ∧ ((!true) = false → (pk.length = pk.length ∧ pk.length = pk.length ∧ pk = pk ∧ SzR pk.length) ∧ ((!true) = true → true = false ∧ m = m ∧ u = u ∧ m1 = m1 ∧ m2 = m2 ∧ m3 = m3 ∧ pk = pk ∧ m = m ∧ u = u ∧ m1 = m1 ∧
 m2 = m2 ∧ m3 = m3 ∧ pk = pk) ∧ ((!true) = false → true = true ∧ m = m ∧ u = u ∧ m1 = m1 ∧ m2 = m2 ∧ m3 = m3 ∧ pk = pk ∧ m = m ∧ u = u ∧ m1 = m1 ∧ m2 = m2 ∧ m3 = m3 ∧ pk = pk))) := by kernel_rfl
theorem vc_markS_eq (m : By) (u : Us) (pc : Int) (mo : Int) (su : Bool) (mx : Bool) (sa : Int) (tv : Int) (ep : Int) (em : Int) (ca : Int) (tl : Int) (s1 : Int) (w1 : Int) (m1 : Es) (s2 : Int) (w2 : Int) (m2 : Es) (s3 : Int) (w3 : Int) (m3 : Es) (pk : List Int) (n : Int) : vc_markS m u pc mo su mx sa tv ep em ca tl s1 w1 m1 s2 w2 m2 s3 w3 m3 pk n = (
 (List.length m = List.length m ∧ List.length u = List.length u ∧ List.length m1 = List.length m1 ∧ List.length m2 = List.length m2 ∧ List.length m3 = List.length m3 ∧ (SzR (List.length m) ∧ SzR (List.length u) ∧ SzC ((s1, w1, m1), (s2, w2,
 m2), s3, w3, m3)) ∧ InN n) ∧ (pk.length = pk.length ∧ MarkR pk.length (n + (↑(List.length m) : Int) + (↑(List.length u) : Int) + (6 : Int) * (↑(List.length m1) : Int) + (6 : Int) * (↑(List.length m2) : Int) + (6 : Int) * (↑(List.length m3)
 : Int))) ∧ n + (↑(List.length m) : Int) + (↑(List.length u) : Int) + (6 : Int) * (↑(List.length m1) : Int) + (6 : Int) * (↑(List.length m2) : Int) + (6 : Int) * (↑(List.length m3) : Int) + (↑pk.length : Int) = n + (↑(List.length m) : Int) +
 (↑(List.length u) : Int) + (6 : Int) * (↑(List.length m1) : Int) + (6 : Int) * (↑(List.length m2) : Int) + (6 : Int) * (↑(List.length m3) : Int) + (↑pk.length : PmT [i64]) ∧ markM n (List.length m) = markM n (List.length m) ∧ markI (n +
 (↑(List.length m) : Int)) (List.length u) = markI (n + (↑(List.length m) : Int)) (List.length u) ∧ markEs (n + (↑(List.length m) : Int) + (↑(List.length u) : Int)) (List.length m1) = markEs (n + (↑(List.length m) : Int) + (↑(List.length u)
 : Int)) (List.length m1) ∧ markEs (n + (↑(List.length m) : Int) + (↑(List.length u) : Int) + (6 : Int) * (↑(List.length m1) : Int)) (List.length m2) = markEs (n + (↑(List.length m) : Int) + (↑(List.length u) : Int) + (6 : Int) *
 (↑(List.length m1) : Int)) (List.length m2) ∧ markEs (n + (↑(List.length m) : Int) + (↑(List.length u) : Int) + (6 : Int) * (↑(List.length m1) : Int) + (6 : Int) * (↑(List.length m2) : Int)) (List.length m3) = markEs (n + (↑(List.length m)
 : Int) + (↑(List.length u) : Int) + (6 : Int) * (↑(List.length m1) : Int) + (6 : Int) * (↑(List.length m2) : Int)) (List.length m3) ∧ markI (n + (↑(List.length m) : Int) + (↑(List.length u) : Int) + (6 : Int) * (↑(List.length m1) : Int) +
 (6 : Int) * (↑(List.length m2) : Int) + (6 : Int) * (↑(List.length m3) : Int)) pk.length = markI (n + (↑(List.length m) : Int) + (↑(List.length u) : Int) + (6 : Int) * (↑(List.length m1) : Int) + (6 : Int) * (↑(List.length m2) : Int) + (6 :
 Int) * (↑(List.length m3) : Int)) pk.length) := by kernel_rfl
theorem vc_heldS_eq (m : By) (u : Us) (pc : Int) (mo : Int) (su : Bool) (mx : Bool) (sa : Int) (tv : Int) (ep : Int) (em : Int) (ca : Int) (tl : Int) (s1 : Int) (w1 : Int) (m1 : Es) (s2 : Int) (w2 : Int) (m2 : Es) (s3 : Int) (w3 : Int) (m3 : Es) (pk : List Int) (n : Int) : vc_heldS m u pc mo su mx sa tv ep em ca tl s1 w1 m1 s2 w2 m2 s3 w3 m3 pk n = (
 (List.length m = List.length m ∧ List.length u = List.length u ∧ List.length m1 = List.length m1 ∧ List.length m2 = List.length m2 ∧ List.length m3 = List.length m3 ∧ ((SzR (List.length m) ∧ SzR (List.length u) ∧ SzC ((s1, w1, m1), (s2, w2,
 m2), s3, w3, m3)) ∧ InN n) ∧ (m, u, pc, mo, su, mx, sa, tv, ep, em, ca, tl, s1, w1, m1, s2, w2, m2, s3, w3, m3) = (markM n (List.length m), markI (n + (↑(List.length m) : Int)) (List.length u), pc, mo, su, mx, sa, tv, ep, em, ca, tl, s1,
 w1, markEs (n + (↑(List.length m) : Int) + (↑(List.length u) : Int)) (List.length m1), s2, w2, markEs (n + (↑(List.length m) : Int) + (↑(List.length u) : Int) + (6 : Int) * (↑(List.length m1) : Int)) (List.length m2), s3, w3, markEs (n +
 (↑(List.length m) : Int) + (↑(List.length u) : Int) + (6 : Int) * (↑(List.length m1) : Int) + (6 : Int) * (↑(List.length m2) : Int)) (List.length m3))) ∧ (decide (n + (↑(List.length m) : Int) + (↑(List.length u) : Int) + (6 : Int) *
 (↑(List.length m1) : Int) + (6 : Int) * (↑(List.length m2) : Int) + (6 : Int) * (↑(List.length m3) : Int) < (0 : Int)) = true → n + (↑(List.length m) : Int) + (↑(List.length u) : Int) + (6 : Int) * (↑(List.length m1) : Int) + (6 : Int) *
 (↑(List.length m2) : Int) + (6 : Int) * (↑(List.length m3) : Int) + (↑pk.length : Int) = (-1 : Int) ∧ m = m ∧ u = u ∧ m1 = m1 ∧ m2 = m2 ∧ m3 = m3 ∧ pk = pk) ∧ (decide (n + (↑(List.length m) : Int) + (↑(List.length u) : Int) + (6 : Int) *
 (↑(List.length m1) : Int) + (6 : Int) * (↑(List.length m2) : Int) + (6 : Int) * (↑(List.length m3) : Int) < (0 : Int)) = false → (pk.length = pk.length ∧ MarkR pk.length (n + (↑(List.length m) : Int) + (↑(List.length u) : Int) + (6 : Int) *
 (↑(List.length m1) : Int) + (6 : Int) * (↑(List.length m2) : Int) + (6 : Int) * (↑(List.length m3) : Int)) ∧ pk = markI (n + (↑(List.length m) : Int) + (↑(List.length u) : Int) + (6 : Int) * (↑(List.length m1) : Int) + (6 : Int) *
 (↑(List.length m2) : Int) + (6 : Int) * (↑(List.length m3) : Int)) pk.length) ∧ (decide (n + (↑(List.length m) : Int) + (↑(List.length u) : Int) + (6 : Int) * (↑(List.length m1) : Int) + (6 : Int) * (↑(List.length m2) : Int) + (6 : Int) *
 (↑(List.length m3) : Int) + (↑pk.length : PmT [i64]) < (0 : Int)) = true → n + (↑(List.length m) : Int) + (↑(List.length u) : Int) + (6 : Int) * (↑(List.length m1) : Int) + (6 : Int) * (↑(List.length m2) : Int) + (6 : Int) * (↑(List.length
 m3) : Int) + (↑pk.length : Int) = (-1 : Int) ∧ m = m ∧ u = u ∧ m1 = m1 ∧ m2 = m2 ∧ m3 = m3 ∧ pk = pk) ∧ (decide (n + (↑(List.length m) : Int) + (↑(List.length u) : Int) + (6 : Int) * (↑(List.length m1) : Int) + (6 : Int) * (↑(List.length
 m2) : Int) + (6 : Int) * (↑(List.length m3) : Int) + (↑pk.length : PmT [i64]) < (0 : Int)) = false → n + (↑(List.length m) : Int) + (↑(List.length u) : Int) + (6 : Int) * (↑(List.length m1) : Int) + (6 : Int) * (↑(List.length m2) : Int) +
 (6 : Int) * (↑(List.length m3) : Int) + (↑pk.length : Int) = n + (↑(List.length m) : Int) + (↑(List.length u) : Int) + (6 : Int) * (↑(List.length m1) : Int) + (6 : Int) * (↑(List.length m2) : Int) + (6 : Int) * (↑(List.length m3) : Int) +
 (↑pk.length : PmT [i64]) ∧ m = m ∧ u = u ∧ m1 = m1 ∧ m2 = m2 ∧ m3 = m3 ∧ pk = pk))) := by kernel_rfl
theorem vc_lawDec_eq (b : By) : vc_lawDec b = (
 (decide ((↑(List.length b) : Int) > (1048576 : Int)) = true → true = true ∧ b = b) ∧ (decide ((↑(List.length b) : Int) > (1048576 : Int)) = false → (List.length b = List.length b ∧ SzR (List.length b)) ∧ (List.length b = List.length b ∧
 ByteR b) ∧ (List.length b = List.length b ∧ SzR (List.length b)) ∧ (List.length b = List.length b ∧ ByteR b) ∧ (List.length (decM b).fst = List.length (decM b).fst ∧ List.length (decM b).snd.fst = List.length (decM b).snd.fst ∧ List.length
 (decM b).snd.snd.snd.snd.snd.snd.snd.snd.snd.snd.snd.snd.snd.snd.fst = List.length (decM b).snd.snd.snd.snd.snd.snd.snd.snd.snd.snd.snd.snd.snd.snd.fst ∧ List.length (decM
 b).snd.snd.snd.snd.snd.snd.snd.snd.snd.snd.snd.snd.snd.snd.snd.snd.snd.fst = List.length (decM b).snd.snd.snd.snd.snd.snd.snd.snd.snd.snd.snd.snd.snd.snd.snd.snd.snd.fst ∧ List.length (decM
 b).snd.snd.snd.snd.snd.snd.snd.snd.snd.snd.snd.snd.snd.snd.snd.snd.snd.snd.snd.snd.fst = List.length (decM b).snd.snd.snd.snd.snd.snd.snd.snd.snd.snd.snd.snd.snd.snd.snd.snd.snd.snd.snd.snd.fst ∧ List.length (decM
 b).snd.snd.snd.snd.snd.snd.snd.snd.snd.snd.snd.snd.snd.snd.snd.snd.snd.snd.snd.snd.snd = List.length (decM b).snd.snd.snd.snd.snd.snd.snd.snd.snd.snd.snd.snd.snd.snd.snd.snd.snd.snd.snd.snd.snd ∧ List.length (decM b).fst = List.length (decM
 b).fst ∧ List.length (decM b).snd.fst = List.length (decM b).snd.fst ∧ List.length (decM b).snd.snd.snd.snd.snd.snd.snd.snd.snd.snd.snd.snd.snd.snd.fst = List.length (decM b).snd.snd.snd.snd.snd.snd.snd.snd.snd.snd.snd.snd.snd.snd.fst ∧
 List.length (decM b).snd.snd.snd.snd.snd.snd.snd.snd.snd.snd.snd.snd.snd.snd.snd.snd.snd.fst = List.length (decM b).snd.snd.snd.snd.snd.snd.snd.snd.snd.snd.snd.snd.snd.snd.snd.snd.snd.fst ∧ List.length (decM
 b).snd.snd.snd.snd.snd.snd.snd.snd.snd.snd.snd.snd.snd.snd.snd.snd.snd.snd.snd.snd.fst = List.length (decM b).snd.snd.snd.snd.snd.snd.snd.snd.snd.snd.snd.snd.snd.snd.snd.snd.snd.snd.snd.snd.fst ∧ List.length (decM
 b).snd.snd.snd.snd.snd.snd.snd.snd.snd.snd.snd.snd.snd.snd.snd.snd.snd.snd.snd.snd.snd = List.length (decM b).snd.snd.snd.snd.snd.snd.snd.snd.snd.snd.snd.snd.snd.snd.snd.snd.snd.snd.snd.snd.snd ∧ ((decM b).fst, (decM b).snd.fst, (decM
 b).snd.snd.fst, (decM b).snd.snd.snd.fst, (decM b).snd.snd.snd.snd.fst, (decM b).snd.snd.snd.snd.snd.fst, (decM b).snd.snd.snd.snd.snd.snd.fst, (decM b).snd.snd.snd.snd.snd.snd.snd.fst, (decM b).snd.snd.snd.snd.snd.snd.snd.snd.fst, (decM
 b).snd.snd.snd.snd.snd.snd.snd.snd.snd.fst, (decM b).snd.snd.snd.snd.snd.snd.snd.snd.snd.snd.fst, (decM b).snd.snd.snd.snd.snd.snd.snd.snd.snd.snd.snd.fst, (decM b).snd.snd.snd.snd.snd.snd.snd.snd.snd.snd.snd.snd.fst, (decM
 b).snd.snd.snd.snd.snd.snd.snd.snd.snd.snd.snd.snd.snd.fst, (decM b).snd.snd.snd.snd.snd.snd.snd.snd.snd.snd.snd.snd.snd.snd.fst, (decM b).snd.snd.snd.snd.snd.snd.snd.snd.snd.snd.snd.snd.snd.snd.snd.fst, (decM
 b).snd.snd.snd.snd.snd.snd.snd.snd.snd.snd.snd.snd.snd.snd.snd.snd.fst, (decM b).snd.snd.snd.snd.snd.snd.snd.snd.snd.snd.snd.snd.snd.snd.snd.snd.snd.fst, (decM b).snd.snd.snd.snd.snd.snd.snd.snd.snd.snd.snd.snd.snd.snd.snd.snd.snd.snd.fst,
 (decM b).snd.snd.snd.snd.snd.snd.snd.snd.snd.snd.snd.snd.snd.snd.snd.snd.snd.snd.snd.fst, (decM b).snd.snd.snd.snd.snd.snd.snd.snd.snd.snd.snd.snd.snd.snd.snd.snd.snd.snd.snd.snd.fst, (decM
 b).snd.snd.snd.snd.snd.snd.snd.snd.snd.snd.snd.snd.snd.snd.snd.snd.snd.snd.snd.snd.snd) = ((decM b).fst, (decM b).snd.fst, (decM b).snd.snd.fst, (decM b).snd.snd.snd.fst, (decM b).snd.snd.snd.snd.fst, (decM b).snd.snd.snd.snd.snd.fst, (decM
 b).snd.snd.snd.snd.snd.snd.fst, (decM b).snd.snd.snd.snd.snd.snd.snd.fst, (decM b).snd.snd.snd.snd.snd.snd.snd.snd.fst, (decM b).snd.snd.snd.snd.snd.snd.snd.snd.snd.fst, (decM b).snd.snd.snd.snd.snd.snd.snd.snd.snd.snd.fst, (decM
 b).snd.snd.snd.snd.snd.snd.snd.snd.snd.snd.snd.fst, (decM b).snd.snd.snd.snd.snd.snd.snd.snd.snd.snd.snd.snd.fst, (decM b).snd.snd.snd.snd.snd.snd.snd.snd.snd.snd.snd.snd.snd.fst, (decM
 b).snd.snd.snd.snd.snd.snd.snd.snd.snd.snd.snd.snd.snd.snd.fst, (decM b).snd.snd.snd.snd.snd.snd.snd.snd.snd.snd.snd.snd.snd.snd.snd.fst, (decM b).snd.snd.snd.snd.snd.snd.snd.snd.snd.snd.snd.snd.snd.snd.snd.snd.fst, (decM
 b).snd.snd.snd.snd.snd.snd.snd.snd.snd.snd.snd.snd.snd.snd.snd.snd.snd.fst, (decM b).snd.snd.snd.snd.snd.snd.snd.snd.snd.snd.snd.snd.snd.snd.snd.snd.snd.snd.fst, (decM
 b).snd.snd.snd.snd.snd.snd.snd.snd.snd.snd.snd.snd.snd.snd.snd.snd.snd.snd.snd.fst, (decM b).snd.snd.snd.snd.snd.snd.snd.snd.snd.snd.snd.snd.snd.snd.snd.snd.snd.snd.snd.snd.fst, (decM
 b).snd.snd.snd.snd.snd.snd.snd.snd.snd.snd.snd.snd.snd.snd.snd.snd.snd.snd.snd.snd.snd) ∧ SzR (List.length (decM b).fst) ∧ SzR (List.length (decM b).snd.fst) ∧ SzR (List.length (decM
 b).snd.snd.snd.snd.snd.snd.snd.snd.snd.snd.snd.snd.snd.snd.fst) ∧ SzR (List.length (decM b).snd.snd.snd.snd.snd.snd.snd.snd.snd.snd.snd.snd.snd.snd.snd.snd.snd.fst) ∧ SzR (List.length (decM
 b).snd.snd.snd.snd.snd.snd.snd.snd.snd.snd.snd.snd.snd.snd.snd.snd.snd.snd.snd.snd.fst) ∧ SzR (List.length (decM b).snd.snd.snd.snd.snd.snd.snd.snd.snd.snd.snd.snd.snd.snd.snd.snd.snd.snd.snd.snd.snd)) ∧ ((!true) = true → true = false ∧ b =
 b) ∧ ((!true) = false → (List.length b = List.length b ∧ SzR (List.length b)) ∧ (List.length b = List.length b ∧ List.length b = List.length b ∧ b = b ∧ SzR (List.length b)) ∧ ((!true) = true → true = false ∧ b = b) ∧ ((!true) = false →
 (List.length b = List.length b ∧ MarkR (List.length b) (1 : Int)) ∧ ((!false) = true → List.length (decM b).fst = List.length (decM b).fst ∧ List.length (decM b).snd.fst = List.length (decM b).snd.fst ∧ List.length (decM
 b).snd.snd.snd.snd.snd.snd.snd.snd.snd.snd.snd.snd.snd.snd.fst = List.length (decM b).snd.snd.snd.snd.snd.snd.snd.snd.snd.snd.snd.snd.snd.snd.fst ∧ List.length (decM b).snd.snd.snd.snd.snd.snd.snd.snd.snd.snd.snd.snd.snd.snd.snd.snd.snd.fst
 = List.length (decM b).snd.snd.snd.snd.snd.snd.snd.snd.snd.snd.snd.snd.snd.snd.snd.snd.snd.fst ∧ List.length (decM b).snd.snd.snd.snd.snd.snd.snd.snd.snd.snd.snd.snd.snd.snd.snd.snd.snd.snd.snd.snd.fst = List.length (decM
 b).snd.snd.snd.snd.snd.snd.snd.snd.snd.snd.snd.snd.snd.snd.snd.snd.snd.snd.snd.snd.fst ∧ List.length (decM b).snd.snd.snd.snd.snd.snd.snd.snd.snd.snd.snd.snd.snd.snd.snd.snd.snd.snd.snd.snd.snd = List.length (decM
 b).snd.snd.snd.snd.snd.snd.snd.snd.snd.snd.snd.snd.snd.snd.snd.snd.snd.snd.snd.snd.snd ∧ List.length (decM b).fst = List.length (decM b).fst ∧ List.length (decM b).snd.fst = List.length (decM b).snd.fst ∧ List.length (decM
 b).snd.snd.snd.snd.snd.snd.snd.snd.snd.snd.snd.snd.snd.snd.fst = List.length (decM b).snd.snd.snd.snd.snd.snd.snd.snd.snd.snd.snd.snd.snd.snd.fst ∧ List.length (decM b).snd.snd.snd.snd.snd.snd.snd.snd.snd.snd.snd.snd.snd.snd.snd.snd.snd.fst
 = List.length (decM b).snd.snd.snd.snd.snd.snd.snd.snd.snd.snd.snd.snd.snd.snd.snd.snd.snd.fst ∧ List.length (decM b).snd.snd.snd.snd.snd.snd.snd.snd.snd.snd.snd.snd.snd.snd.snd.snd.snd.snd.snd.snd.fst = List.length (decM
 b).snd.snd.snd.snd.snd.snd.snd.snd.snd.snd.snd.snd.snd.snd.snd.snd.snd.snd.snd.snd.fst ∧ List.length (decM b).snd.snd.snd.snd.snd.snd.snd.snd.snd.snd.snd.snd.snd.snd.snd.snd.snd.snd.snd.snd.snd = List.length (decM
 b).snd.snd.snd.snd.snd.snd.snd.snd.snd.snd.snd.snd.snd.snd.snd.snd.snd.snd.snd.snd.snd ∧ ((decM b).fst, (decM b).snd.fst, (decM b).snd.snd.fst, (decM b).snd.snd.snd.fst, (decM b).snd.snd.snd.snd.fst, (decM b).snd.snd.snd.snd.snd.fst, (decM
 b).snd.snd.snd.snd.snd.snd.fst, (decM b).snd.snd.snd.snd.snd.snd.snd.fst, (decM b).snd.snd.snd.snd.snd.snd.snd.snd.fst, (decM b).snd.snd.snd.snd.snd.snd.snd.snd.snd.fst, (decM b).snd.snd.snd.snd.snd.snd.snd.snd.snd.snd.fst, (decM
 b).snd.snd.snd.snd.snd.snd.snd.snd.snd.snd.snd.fst, (decM b).snd.snd.snd.snd.snd.snd.snd.snd.snd.snd.snd.snd.fst, (decM b).snd.snd.snd.snd.snd.snd.snd.snd.snd.snd.snd.snd.snd.fst, (decM
 b).snd.snd.snd.snd.snd.snd.snd.snd.snd.snd.snd.snd.snd.snd.fst, (decM b).snd.snd.snd.snd.snd.snd.snd.snd.snd.snd.snd.snd.snd.snd.snd.fst, (decM b).snd.snd.snd.snd.snd.snd.snd.snd.snd.snd.snd.snd.snd.snd.snd.snd.fst, (decM
 b).snd.snd.snd.snd.snd.snd.snd.snd.snd.snd.snd.snd.snd.snd.snd.snd.snd.fst, (decM b).snd.snd.snd.snd.snd.snd.snd.snd.snd.snd.snd.snd.snd.snd.snd.snd.snd.snd.fst, (decM
 b).snd.snd.snd.snd.snd.snd.snd.snd.snd.snd.snd.snd.snd.snd.snd.snd.snd.snd.snd.fst, (decM b).snd.snd.snd.snd.snd.snd.snd.snd.snd.snd.snd.snd.snd.snd.snd.snd.snd.snd.snd.snd.fst, (decM
 b).snd.snd.snd.snd.snd.snd.snd.snd.snd.snd.snd.snd.snd.snd.snd.snd.snd.snd.snd.snd.snd) = ((decM b).fst, (decM b).snd.fst, (decM b).snd.snd.fst, (decM b).snd.snd.snd.fst, (decM b).snd.snd.snd.snd.fst, (decM b).snd.snd.snd.snd.snd.fst, (decM
 b).snd.snd.snd.snd.snd.snd.fst, (decM b).snd.snd.snd.snd.snd.snd.snd.fst, (decM b).snd.snd.snd.snd.snd.snd.snd.snd.fst, (decM b).snd.snd.snd.snd.snd.snd.snd.snd.snd.fst, (decM b).snd.snd.snd.snd.snd.snd.snd.snd.snd.snd.fst, (decM
 b).snd.snd.snd.snd.snd.snd.snd.snd.snd.snd.snd.fst, (decM b).snd.snd.snd.snd.snd.snd.snd.snd.snd.snd.snd.snd.fst, (decM b).snd.snd.snd.snd.snd.snd.snd.snd.snd.snd.snd.snd.snd.fst, (decM
 b).snd.snd.snd.snd.snd.snd.snd.snd.snd.snd.snd.snd.snd.snd.fst, (decM b).snd.snd.snd.snd.snd.snd.snd.snd.snd.snd.snd.snd.snd.snd.snd.fst, (decM b).snd.snd.snd.snd.snd.snd.snd.snd.snd.snd.snd.snd.snd.snd.snd.snd.fst, (decM
 b).snd.snd.snd.snd.snd.snd.snd.snd.snd.snd.snd.snd.snd.snd.snd.snd.snd.fst, (decM b).snd.snd.snd.snd.snd.snd.snd.snd.snd.snd.snd.snd.snd.snd.snd.snd.snd.snd.fst, (decM
 b).snd.snd.snd.snd.snd.snd.snd.snd.snd.snd.snd.snd.snd.snd.snd.snd.snd.snd.snd.fst, (decM b).snd.snd.snd.snd.snd.snd.snd.snd.snd.snd.snd.snd.snd.snd.snd.snd.snd.snd.snd.snd.fst, (decM
 b).snd.snd.snd.snd.snd.snd.snd.snd.snd.snd.snd.snd.snd.snd.snd.snd.snd.snd.snd.snd.snd) ∧ SzR (List.length (decM b).fst) ∧ SzR (List.length (decM b).snd.fst) ∧ SzR (List.length (decM
 b).snd.snd.snd.snd.snd.snd.snd.snd.snd.snd.snd.snd.snd.snd.fst) ∧ SzR (List.length (decM b).snd.snd.snd.snd.snd.snd.snd.snd.snd.snd.snd.snd.snd.snd.snd.snd.snd.fst) ∧ SzR (List.length (decM
 b).snd.snd.snd.snd.snd.snd.snd.snd.snd.snd.snd.snd.snd.snd.snd.snd.snd.snd.snd.snd.fst) ∧ SzR (List.length (decM b).snd.snd.snd.snd.snd.snd.snd.snd.snd.snd.snd.snd.snd.snd.snd.snd.snd.snd.snd.snd.snd)) ∧ ((!true) = true → true = false ∧ b =
 b) ∧ ((!true) = false → (List.length (decM b).fst = List.length (decM b).fst ∧ List.length (decM b).snd.fst = List.length (decM b).snd.fst ∧ List.length (decM b).snd.snd.snd.snd.snd.snd.snd.snd.snd.snd.snd.snd.snd.snd.fst = List.length
 (decM b).snd.snd.snd.snd.snd.snd.snd.snd.snd.snd.snd.snd.snd.snd.fst ∧ List.length (decM b).snd.snd.snd.snd.snd.snd.snd.snd.snd.snd.snd.snd.snd.snd.snd.snd.snd.fst = List.length (decM
 b).snd.snd.snd.snd.snd.snd.snd.snd.snd.snd.snd.snd.snd.snd.snd.snd.snd.fst ∧ List.length (decM b).snd.snd.snd.snd.snd.snd.snd.snd.snd.snd.snd.snd.snd.snd.snd.snd.snd.snd.snd.snd.fst = List.length (decM
 b).snd.snd.snd.snd.snd.snd.snd.snd.snd.snd.snd.snd.snd.snd.snd.snd.snd.snd.snd.snd.fst ∧ List.length (decM b).snd.snd.snd.snd.snd.snd.snd.snd.snd.snd.snd.snd.snd.snd.snd.snd.snd.snd.snd.snd.snd = List.length (decM
 b).snd.snd.snd.snd.snd.snd.snd.snd.snd.snd.snd.snd.snd.snd.snd.snd.snd.snd.snd.snd.snd ∧ (SzR (List.length (decM b).fst) ∧ SzR (List.length (decM b).snd.fst) ∧ SzR (List.length (decM
 b).snd.snd.snd.snd.snd.snd.snd.snd.snd.snd.snd.snd.snd.snd.fst) ∧ SzR (List.length (decM b).snd.snd.snd.snd.snd.snd.snd.snd.snd.snd.snd.snd.snd.snd.snd.snd.snd.fst) ∧ SzR (List.length (decM
 b).snd.snd.snd.snd.snd.snd.snd.snd.snd.snd.snd.snd.snd.snd.snd.snd.snd.snd.snd.snd.fst) ∧ SzR (List.length (decM b).snd.snd.snd.snd.snd.snd.snd.snd.snd.snd.snd.snd.snd.snd.snd.snd.snd.snd.snd.snd.snd)) ∧ InN (1 : Int)) ∧ (List.length (decM
 b).fst = List.length (markM (1 : Int) (List.length (decM b).fst)) ∧ List.length (decM b).snd.fst = (markI ((1 : Int) + (↑(List.length (decM b).fst) : Int)) (List.length (decM b).snd.fst)).length ∧ List.length (decM
 b).snd.snd.snd.snd.snd.snd.snd.snd.snd.snd.snd.snd.snd.snd.fst = List.length (markEs ((1 : Int) + (↑(List.length (decM b).fst) : Int) + (↑(List.length (decM b).snd.fst) : Int)) (List.length (decM
 b).snd.snd.snd.snd.snd.snd.snd.snd.snd.snd.snd.snd.snd.snd.fst)) ∧ List.length (decM b).snd.snd.snd.snd.snd.snd.snd.snd.snd.snd.snd.snd.snd.snd.snd.snd.snd.fst = List.length (markEs ((1 : Int) + (↑(List.length (decM b).fst) : Int) +
 (↑(List.length (decM b).snd.fst) : Int) + (6 : Int) * (↑(List.length (decM b).snd.snd.snd.snd.snd.snd.snd.snd.snd.snd.snd.snd.snd.snd.fst) : Int)) (List.length (decM
 b).snd.snd.snd.snd.snd.snd.snd.snd.snd.snd.snd.snd.snd.snd.snd.snd.snd.fst)) ∧ List.length (decM b).snd.snd.snd.snd.snd.snd.snd.snd.snd.snd.snd.snd.snd.snd.snd.snd.snd.snd.snd.snd.fst = List.length (markEs ((1 : Int) + (↑(List.length (decM
 b).fst) : Int) + (↑(List.length (decM b).snd.fst) : Int) + (6 : Int) * (↑(List.length (decM b).snd.snd.snd.snd.snd.snd.snd.snd.snd.snd.snd.snd.snd.snd.fst) : Int) + (6 : Int) * (↑(List.length (decM
 b).snd.snd.snd.snd.snd.snd.snd.snd.snd.snd.snd.snd.snd.snd.snd.snd.snd.fst) : Int)) (List.length (decM b).snd.snd.snd.snd.snd.snd.snd.snd.snd.snd.snd.snd.snd.snd.snd.snd.snd.snd.snd.snd.fst)) ∧ List.length (decM
 b).snd.snd.snd.snd.snd.snd.snd.snd.snd.snd.snd.snd.snd.snd.snd.snd.snd.snd.snd.snd.snd = (markI ((1 : Int) + (↑(List.length (decM b).fst) : Int) + (↑(List.length (decM b).snd.fst) : Int) + (6 : Int) * (↑(List.length (decM
 b).snd.snd.snd.snd.snd.snd.snd.snd.snd.snd.snd.snd.snd.snd.fst) : Int) + (6 : Int) * (↑(List.length (decM b).snd.snd.snd.snd.snd.snd.snd.snd.snd.snd.snd.snd.snd.snd.snd.snd.snd.fst) : Int) + (6 : Int) * (↑(List.length (decM
 b).snd.snd.snd.snd.snd.snd.snd.snd.snd.snd.snd.snd.snd.snd.snd.snd.snd.snd.snd.snd.fst) : Int)) (List.length (decM b).snd.snd.snd.snd.snd.snd.snd.snd.snd.snd.snd.snd.snd.snd.snd.snd.snd.snd.snd.snd.snd)).length ∧ ((SzR (List.length (markM
 (1 : Int) (List.length (decM b).fst))) ∧ SzR (markI ((1 : Int) + (↑(List.length (decM b).fst) : Int)) (List.length (decM b).snd.fst)).length ∧ SzR (List.length (markEs ((1 : Int) + (↑(List.length (decM b).fst) : Int) + (↑(List.length (decM
 b).snd.fst) : Int)) (List.length (decM b).snd.snd.snd.snd.snd.snd.snd.snd.snd.snd.snd.snd.snd.snd.fst))) ∧ SzR (List.length (markEs ((1 : Int) + (↑(List.length (decM b).fst) : Int) + (↑(List.length (decM b).snd.fst) : Int) + (6 : Int) *
 (↑(List.length (decM b).snd.snd.snd.snd.snd.snd.snd.snd.snd.snd.snd.snd.snd.snd.fst) : Int)) (List.length (decM b).snd.snd.snd.snd.snd.snd.snd.snd.snd.snd.snd.snd.snd.snd.snd.snd.snd.fst))) ∧ SzR (List.length (markEs ((1 : Int) +
 (↑(List.length (decM b).fst) : Int) + (↑(List.length (decM b).snd.fst) : Int) + (6 : Int) * (↑(List.length (decM b).snd.snd.snd.snd.snd.snd.snd.snd.snd.snd.snd.snd.snd.snd.fst) : Int) + (6 : Int) * (↑(List.length (decM
 b).snd.snd.snd.snd.snd.snd.snd.snd.snd.snd.snd.snd.snd.snd.snd.snd.snd.fst) : Int)) (List.length (decM b).snd.snd.snd.snd.snd.snd.snd.snd.snd.snd.snd.snd.snd.snd.snd.snd.snd.snd.snd.snd.fst))) ∧ SzR (markI ((1 : Int) + (↑(List.length (decM
 b).fst) : Int) + (↑(List.length (decM b).snd.fst) : Int) + (6 : Int) * (↑(List.length (decM b).snd.snd.snd.snd.snd.snd.snd.snd.snd.snd.snd.snd.snd.snd.fst) : Int) + (6 : Int) * (↑(List.length (decM
 b).snd.snd.snd.snd.snd.snd.snd.snd.snd.snd.snd.snd.snd.snd.snd.snd.snd.fst) : Int) + (6 : Int) * (↑(List.length (decM b).snd.snd.snd.snd.snd.snd.snd.snd.snd.snd.snd.snd.snd.snd.snd.snd.snd.snd.snd.snd.fst) : Int)) (List.length (decM
 b).snd.snd.snd.snd.snd.snd.snd.snd.snd.snd.snd.snd.snd.snd.snd.snd.snd.snd.snd.snd.snd)).length) ∧ InN (1 : Int)) ∧ (markM (1 : Int) (List.length (decM b).fst), markI ((1 : Int) + (↑(List.length (decM b).fst) : Int)) (List.length (decM
 b).snd.fst), (decM b).snd.snd.fst, (decM b).snd.snd.snd.fst, (decM b).snd.snd.snd.snd.fst, (decM b).snd.snd.snd.snd.snd.fst, (decM b).snd.snd.snd.snd.snd.snd.fst, (decM b).snd.snd.snd.snd.snd.snd.snd.fst, (decM
 b).snd.snd.snd.snd.snd.snd.snd.snd.fst, (decM b).snd.snd.snd.snd.snd.snd.snd.snd.snd.fst, (decM b).snd.snd.snd.snd.snd.snd.snd.snd.snd.snd.fst, (decM b).snd.snd.snd.snd.snd.snd.snd.snd.snd.snd.snd.fst, (decM
 b).snd.snd.snd.snd.snd.snd.snd.snd.snd.snd.snd.snd.fst, (decM b).snd.snd.snd.snd.snd.snd.snd.snd.snd.snd.snd.snd.snd.fst, markEs ((1 : Int) + (↑(List.length (decM b).fst) : Int) + (↑(List.length (decM b).snd.fst) : Int)) (List.length (decM
 b).snd.snd.snd.snd.snd.snd.snd.snd.snd.snd.snd.snd.snd.snd.fst), (decM b).snd.snd.snd.snd.snd.snd.snd.snd.snd.snd.snd.snd.snd.snd.snd.fst, (decM b).snd.snd.snd.snd.snd.snd.snd.snd.snd.snd.snd.snd.snd.snd.snd.snd.fst, markEs ((1 : Int) +
 (↑(List.length (decM b).fst) : Int) + (↑(List.length (decM b).snd.fst) : Int) + (6 : Int) * (↑(List.length (decM b).snd.snd.snd.snd.snd.snd.snd.snd.snd.snd.snd.snd.snd.snd.fst) : Int)) (List.length (decM
 b).snd.snd.snd.snd.snd.snd.snd.snd.snd.snd.snd.snd.snd.snd.snd.snd.snd.fst), (decM b).snd.snd.snd.snd.snd.snd.snd.snd.snd.snd.snd.snd.snd.snd.snd.snd.snd.snd.fst, (decM
 b).snd.snd.snd.snd.snd.snd.snd.snd.snd.snd.snd.snd.snd.snd.snd.snd.snd.snd.snd.fst, markEs ((1 : Int) + (↑(List.length (decM b).fst) : Int) + (↑(List.length (decM b).snd.fst) : Int) + (6 : Int) * (↑(List.length (decM
 b).snd.snd.snd.snd.snd.snd.snd.snd.snd.snd.snd.snd.snd.snd.fst) : Int) + (6 : Int) * (↑(List.length (decM b).snd.snd.snd.snd.snd.snd.snd.snd.snd.snd.snd.snd.snd.snd.snd.snd.snd.fst) : Int)) (List.length (decM
 b).snd.snd.snd.snd.snd.snd.snd.snd.snd.snd.snd.snd.snd.snd.snd.snd.snd.snd.snd.snd.fst), markI ((1 : Int) + (↑(List.length (decM b).fst) : Int) + (↑(List.length (decM b).snd.fst) : Int) + (6 : Int) * (↑(List.length (decM
 b).snd.snd.snd.snd.snd.snd.snd.snd.snd.snd.snd.snd.snd.snd.fst) : Int) + (6 : Int) * (↑(List.length (decM b).snd.snd.snd.snd.snd.snd.snd.snd.snd.snd.snd.snd.snd.snd.snd.snd.snd.fst) : Int) + (6 : Int) * (↑(List.length (decM
 b).snd.snd.snd.snd.snd.snd.snd.snd.snd.snd.snd.snd.snd.snd.snd.snd.snd.snd.snd.snd.fst) : Int)) (List.length (decM b).snd.snd.snd.snd.snd.snd.snd.snd.snd.snd.snd.snd.snd.snd.snd.snd.snd.snd.snd.snd.snd)) = (markM (1 : Int) (List.length
 (markM (1 : Int) (List.length (decM b).fst))), markI ((1 : Int) + (↑(List.length (markM (1 : Int) (List.length (decM b).fst))) : Int)) (markI ((1 : Int) + (↑(List.length (decM b).fst) : Int)) (List.length (decM b).snd.fst)).length, (decM
 b).snd.snd.fst, (decM b).snd.snd.snd.fst, (decM b).snd.snd.snd.snd.fst, (decM b).snd.snd.snd.snd.snd.fst, (decM b).snd.snd.snd.snd.snd.snd.fst, (decM b).snd.snd.snd.snd.snd.snd.snd.fst, (decM b).snd.snd.snd.snd.snd.snd.snd.snd.fst, (decM
 b).snd.snd.snd.snd.snd.snd.snd.snd.snd.fst, (decM b).snd.snd.snd.snd.snd.snd.snd.snd.snd.snd.fst, (decM b).snd.snd.snd.snd.snd.snd.snd.snd.snd.snd.snd.fst, (decM b).snd.snd.snd.snd.snd.snd.snd.snd.snd.snd.snd.snd.fst, (decM
 b).snd.snd.snd.snd.snd.snd.snd.snd.snd.snd.snd.snd.snd.fst, markEs ((1 : Int) + (↑(List.length (markM (1 : Int) (List.length (decM b).fst))) : Int) + (↑(markI ((1 : Int) + (↑(List.length (decM b).fst) : Int)) (List.length (decM
 b).snd.fst)).length : Int)) (List.length (markEs ((1 : Int) + (↑(List.length (decM b).fst) : Int) + (↑(List.length (decM b).snd.fst) : Int)) (List.length (decM b).snd.snd.snd.snd.snd.snd.snd.snd.snd.snd.snd.snd.snd.snd.fst))), (decM
 b).snd.snd.snd.snd.snd.snd.snd.snd.snd.snd.snd.snd.snd.snd.snd.fst, (decM b).snd.snd.snd.snd.snd.snd.snd.snd.snd.snd.snd.snd.snd.snd.snd.snd.fst, markEs ((1 : Int) + (↑(List.length (markM (1 : Int) (List.length (decM b).fst))) : Int) +
 (↑(markI ((1 : Int) + (↑(List.length (decM b).fst) : Int)) (List.length (decM b).snd.fst)).length : Int) + (6 : Int) * (↑(List.length (markEs ((1 : Int) + (↑(List.length (decM b).fst) : Int) + (↑(List.length (decM b).snd.fst) : Int))
 (List.length (decM b).snd.snd.snd.snd.snd.snd.snd.snd.snd.snd.snd.snd.snd.snd.fst))) : Int)) (List.length (markEs ((1 : Int) + (↑(List.length (decM b).fst) : Int) + (↑(List.length (decM b).snd.fst) : Int) + (6 : Int) * (↑(List.length (decM
 b).snd.snd.snd.snd.snd.snd.snd.snd.snd.snd.snd.snd.snd.snd.fst) : Int)) (List.length (decM b).snd.snd.snd.snd.snd.snd.snd.snd.snd.snd.snd.snd.snd.snd.snd.snd.snd.fst))), (decM
 b).snd.snd.snd.snd.snd.snd.snd.snd.snd.snd.snd.snd.snd.snd.snd.snd.snd.snd.fst, (decM b).snd.snd.snd.snd.snd.snd.snd.snd.snd.snd.snd.snd.snd.snd.snd.snd.snd.snd.snd.fst, markEs ((1 : Int) + (↑(List.length (markM (1 : Int) (List.length (decM
 b).fst))) : Int) + (↑(markI ((1 : Int) + (↑(List.length (decM b).fst) : Int)) (List.length (decM b).snd.fst)).length : Int) + (6 : Int) * (↑(List.length (markEs ((1 : Int) + (↑(List.length (decM b).fst) : Int) + (↑(List.length (decM
 b).snd.fst) : Int)) (List.length (decM b).snd.snd.snd.snd.snd.snd.snd.snd.snd.snd.snd.snd.snd.snd.fst))) : Int) + (6 : Int) * (↑(List.length (markEs ((1 : Int) + (↑(List.length (decM b).fst) : Int) + (↑(List.length (decM b).snd.fst) : Int)
 + (6 : Int) * (↑(List.length (decM b).snd.snd.snd.snd.snd.snd.snd.snd.snd.snd.snd.snd.snd.snd.fst) : Int)) (List.length (decM b).snd.snd.snd.snd.snd.snd.snd.snd.snd.snd.snd.snd.snd.snd.snd.snd.snd.fst))) : Int)) (List.length (markEs ((1 :
 Int) + (↑(List.length (decM b).fst) : Int) + (↑(List.length (decM b).snd.fst) : Int) + (6 : Int) * (↑(List.length (decM b).snd.snd.snd.snd.snd.snd.snd.snd.snd.snd.snd.snd.snd.snd.fst) : Int) + (6 : Int) * (↑(List.length (decM
 b).snd.snd.snd.snd.snd.snd.snd.snd.snd.snd.snd.snd.snd.snd.snd.snd.snd.fst) : Int)) (List.length (decM b).snd.snd.snd.snd.snd.snd.snd.snd.snd.snd.snd.snd.snd.snd.snd.snd.snd.snd.snd.snd.fst))), markI ((1 : Int) + (↑(List.length (markM (1 :
 Int) (List.length (decM b).fst))) : Int) + (↑(markI ((1 : Int) + (↑(List.length (decM b).fst) : Int)) (List.length (decM b).snd.fst)).length : Int) + (6 : Int) * (↑(List.length (markEs ((1 : Int) + (↑(List.length (decM b).fst) : Int) +
 (↑(List.length (decM b).snd.fst) : Int)) (List.length (decM b).snd.snd.snd.snd.snd.snd.snd.snd.snd.snd.snd.snd.snd.snd.fst))) : Int) + (6 : Int) * (↑(List.length (markEs ((1 : Int) + (↑(List.length (decM b).fst) : Int) + (↑(List.length
 (decM b).snd.fst) : Int) + (6 : Int) * (↑(List.length (decM b).snd.snd.snd.snd.snd.snd.snd.snd.snd.snd.snd.snd.snd.snd.fst) : Int)) (List.length (decM b).snd.snd.snd.snd.snd.snd.snd.snd.snd.snd.snd.snd.snd.snd.snd.snd.snd.fst))) : Int) + (6
 : Int) * (↑(List.length (markEs ((1 : Int) + (↑(List.length (decM b).fst) : Int) + (↑(List.length (decM b).snd.fst) : Int) + (6 : Int) * (↑(List.length (decM b).snd.snd.snd.snd.snd.snd.snd.snd.snd.snd.snd.snd.snd.snd.fst) : Int) + (6 : Int)
 * (↑(List.length (decM b).snd.snd.snd.snd.snd.snd.snd.snd.snd.snd.snd.snd.snd.snd.snd.snd.snd.fst) : Int)) (List.length (decM b).snd.snd.snd.snd.snd.snd.snd.snd.snd.snd.snd.snd.snd.snd.snd.snd.snd.snd.snd.snd.fst))) : Int)) (markI ((1 :
 Int) + (↑(List.length (decM b).fst) : Int) + (↑(List.length (decM b).snd.fst) : Int) + (6 : Int) * (↑(List.length (decM b).snd.snd.snd.snd.snd.snd.snd.snd.snd.snd.snd.snd.snd.snd.fst) : Int) + (6 : Int) * (↑(List.length (decM
 b).snd.snd.snd.snd.snd.snd.snd.snd.snd.snd.snd.snd.snd.snd.snd.snd.snd.fst) : Int) + (6 : Int) * (↑(List.length (decM b).snd.snd.snd.snd.snd.snd.snd.snd.snd.snd.snd.snd.snd.snd.snd.snd.snd.snd.snd.snd.fst) : Int)) (List.length (decM
 b).snd.snd.snd.snd.snd.snd.snd.snd.snd.snd.snd.snd.snd.snd.snd.snd.snd.snd.snd.snd.snd)).length)) ∧ (false = true → true = false ∧ b = b) ∧ (false = false → (((1 : Int) + (↑(List.length (markM (1 : Int) (List.length (decM b).fst))) : Int) +
 (↑(markI ((1 : Int) + (↑(List.length (decM b).fst) : Int)) (List.length (decM b).snd.fst)).length : Int) + (6 : Int) * (↑(List.length (markEs ((1 : Int) + (↑(List.length (decM b).fst) : Int) + (↑(List.length (decM b).snd.fst) : Int))
 (List.length (decM b).snd.snd.snd.snd.snd.snd.snd.snd.snd.snd.snd.snd.snd.snd.fst))) : Int) + (6 : Int) * (↑(List.length (markEs ((1 : Int) + (↑(List.length (decM b).fst) : Int) + (↑(List.length (decM b).snd.fst) : Int) + (6 : Int) *
 (↑(List.length (decM b).snd.snd.snd.snd.snd.snd.snd.snd.snd.snd.snd.snd.snd.snd.fst) : Int)) (List.length (decM b).snd.snd.snd.snd.snd.snd.snd.snd.snd.snd.snd.snd.snd.snd.snd.snd.snd.fst))) : Int) + (6 : Int) * (↑(List.length (markEs ((1 :
 Int) + (↑(List.length (decM b).fst) : Int) + (↑(List.length (decM b).snd.fst) : Int) + (6 : Int) * (↑(List.length (decM b).snd.snd.snd.snd.snd.snd.snd.snd.snd.snd.snd.snd.snd.snd.fst) : Int) + (6 : Int) * (↑(List.length (decM
 b).snd.snd.snd.snd.snd.snd.snd.snd.snd.snd.snd.snd.snd.snd.snd.snd.snd.fst) : Int)) (List.length (decM b).snd.snd.snd.snd.snd.snd.snd.snd.snd.snd.snd.snd.snd.snd.snd.snd.snd.snd.snd.snd.fst))) : Int) + (↑(markI ((1 : Int) + (↑(List.length
 (decM b).fst) : Int) + (↑(List.length (decM b).snd.fst) : Int) + (6 : Int) * (↑(List.length (decM b).snd.snd.snd.snd.snd.snd.snd.snd.snd.snd.snd.snd.snd.snd.fst) : Int) + (6 : Int) * (↑(List.length (decM
 b).snd.snd.snd.snd.snd.snd.snd.snd.snd.snd.snd.snd.snd.snd.snd.snd.snd.fst) : Int) + (6 : Int) * (↑(List.length (decM b).snd.snd.snd.snd.snd.snd.snd.snd.snd.snd.snd.snd.snd.snd.snd.snd.snd.snd.snd.snd.fst) : Int)) (List.length (decM
 b).snd.snd.snd.snd.snd.snd.snd.snd.snd.snd.snd.snd.snd.snd.snd.snd.snd.snd.snd.snd.snd)).length : Int) != (1 : Int) + (↑(List.length (decM b).fst) : Int) + (↑(List.length (decM b).snd.fst) : Int) + (6 : Int) * (↑(List.length (decM
 b).snd.snd.snd.snd.snd.snd.snd.snd.snd.snd.snd.snd.snd.snd.fst) : Int) + (6 : Int) * (↑(List.length (decM b).snd.snd.snd.snd.snd.snd.snd.snd.snd.snd.snd.snd.snd.snd.snd.snd.snd.fst) : Int) + (6 : Int) * (↑(List.length (decM
 b).snd.snd.snd.snd.snd.snd.snd.snd.snd.snd.snd.snd.snd.snd.snd.snd.snd.snd.snd.snd.fst) : Int) + (↑(List.length (decM b).snd.snd.snd.snd.snd.snd.snd.snd.snd.snd.snd.snd.snd.snd.snd.snd.snd.snd.snd.snd.snd) : Int)) = true → true = false ∧ b
 = b) ∧ (((1 : Int) + (↑(List.length (markM (1 : Int) (List.length (decM b).fst))) : Int) + (↑(markI ((1 : Int) + (↑(List.length (decM b).fst) : Int)) (List.length (decM b).snd.fst)).length : Int) + (6 : Int) * (↑(List.length (markEs ((1 :
 Int) + (↑(List.length (decM b).fst) : Int) + (↑(List.length (decM b).snd.fst) : Int)) (List.length (decM b).snd.snd.snd.snd.snd.snd.snd.snd.snd.snd.snd.snd.snd.snd.fst))) : Int) + (6 : Int) * (↑(List.length (markEs ((1 : Int) +
 (↑(List.length (decM b).fst) : Int) + (↑(List.length (decM b).snd.fst) : Int) + (6 : Int) * (↑(List.length (decM b).snd.snd.snd.snd.snd.snd.snd.snd.snd.snd.snd.snd.snd.snd.fst) : Int)) (List.length (decM
 b).snd.snd.snd.snd.snd.snd.snd.snd.snd.snd.snd.snd.snd.snd.snd.snd.snd.fst))) : Int) + (6 : Int) * (↑(List.length (markEs ((1 : Int) + (↑(List.length (decM b).fst) : Int) + (↑(List.length (decM b).snd.fst) : Int) + (6 : Int) *
 (↑(List.length (decM b).snd.snd.snd.snd.snd.snd.snd.snd.snd.snd.snd.snd.snd.snd.fst) : Int) + (6 : Int) * (↑(List.length (decM b).snd.snd.snd.snd.snd.snd.snd.snd.snd.snd.snd.snd.snd.snd.snd.snd.snd.fst) : Int)) (List.length (decM
 b).snd.snd.snd.snd.snd.snd.snd.snd.snd.snd.snd.snd.snd.snd.snd.snd.snd.snd.snd.snd.fst))) : Int) + (↑(markI ((1 : Int) + (↑(List.length (decM b).fst) : Int) + (↑(List.length (decM b).snd.fst) : Int) + (6 : Int) * (↑(List.length (decM
 b).snd.snd.snd.snd.snd.snd.snd.snd.snd.snd.snd.snd.snd.snd.fst) : Int) + (6 : Int) * (↑(List.length (decM b).snd.snd.snd.snd.snd.snd.snd.snd.snd.snd.snd.snd.snd.snd.snd.snd.snd.fst) : Int) + (6 : Int) * (↑(List.length (decM
 b).snd.snd.snd.snd.snd.snd.snd.snd.snd.snd.snd.snd.snd.snd.snd.snd.snd.snd.snd.snd.fst) : Int)) (List.length (decM b).snd.snd.snd.snd.snd.snd.snd.snd.snd.snd.snd.snd.snd.snd.snd.snd.snd.snd.snd.snd.snd)).length : Int) != (1 : Int) +
 (↑(List.length (decM b).fst) : Int) + (↑(List.length (decM b).snd.fst) : Int) + (6 : Int) * (↑(List.length (decM b).snd.snd.snd.snd.snd.snd.snd.snd.snd.snd.snd.snd.snd.snd.fst) : Int) + (6 : Int) * (↑(List.length (decM
 b).snd.snd.snd.snd.snd.snd.snd.snd.snd.snd.snd.snd.snd.snd.snd.snd.snd.fst) : Int) + (6 : Int) * (↑(List.length (decM b).snd.snd.snd.snd.snd.snd.snd.snd.snd.snd.snd.snd.snd.snd.snd.snd.snd.snd.snd.snd.fst) : Int) + (↑(List.length (decM
 b).snd.snd.snd.snd.snd.snd.snd.snd.snd.snd.snd.snd.snd.snd.snd.snd.snd.snd.snd.snd.snd) : Int)) = false → (List.length b = List.length b ∧ SzR (List.length b)) ∧ (List.length b = List.length b ∧ ByteR b) ∧ (List.length (decM b).fst =
 List.length (decM b).fst ∧ List.length (decM b).snd.fst = List.length (decM b).snd.fst ∧ List.length (decM b).snd.snd.snd.snd.snd.snd.snd.snd.snd.snd.snd.snd.snd.snd.fst = List.length (decM
 b).snd.snd.snd.snd.snd.snd.snd.snd.snd.snd.snd.snd.snd.snd.fst ∧ List.length (decM b).snd.snd.snd.snd.snd.snd.snd.snd.snd.snd.snd.snd.snd.snd.snd.snd.snd.fst = List.length (decM
 b).snd.snd.snd.snd.snd.snd.snd.snd.snd.snd.snd.snd.snd.snd.snd.snd.snd.fst ∧ List.length (decM b).snd.snd.snd.snd.snd.snd.snd.snd.snd.snd.snd.snd.snd.snd.snd.snd.snd.snd.snd.snd.fst = List.length (decM
 b).snd.snd.snd.snd.snd.snd.snd.snd.snd.snd.snd.snd.snd.snd.snd.snd.snd.snd.snd.snd.fst ∧ List.length (decM b).snd.snd.snd.snd.snd.snd.snd.snd.snd.snd.snd.snd.snd.snd.snd.snd.snd.snd.snd.snd.snd = List.length (decM
 b).snd.snd.snd.snd.snd.snd.snd.snd.snd.snd.snd.snd.snd.snd.snd.snd.snd.snd.snd.snd.snd ∧ List.length (decM b).fst = List.length (decM b).fst ∧ List.length (decM b).snd.fst = List.length (decM b).snd.fst ∧ List.length (decM
 b).snd.snd.snd.snd.snd.snd.snd.snd.snd.snd.snd.snd.snd.snd.fst = List.length (decM b).snd.snd.snd.snd.snd.snd.snd.snd.snd.snd.snd.snd.snd.snd.fst ∧ List.length (decM b).snd.snd.snd.snd.snd.snd.snd.snd.snd.snd.snd.snd.snd.snd.snd.snd.snd.fst
 = List.length (decM b).snd.snd.snd.snd.snd.snd.snd.snd.snd.snd.snd.snd.snd.snd.snd.snd.snd.fst ∧ List.length (decM b).snd.snd.snd.snd.snd.snd.snd.snd.snd.snd.snd.snd.snd.snd.snd.snd.snd.snd.snd.snd.fst = List.length (decM
 b).snd.snd.snd.snd.snd.snd.snd.snd.snd.snd.snd.snd.snd.snd.snd.snd.snd.snd.snd.snd.fst ∧ List.length (decM b).snd.snd.snd.snd.snd.snd.snd.snd.snd.snd.snd.snd.snd.snd.snd.snd.snd.snd.snd.snd.snd = List.length (decM
 b).snd.snd.snd.snd.snd.snd.snd.snd.snd.snd.snd.snd.snd.snd.snd.snd.snd.snd.snd.snd.snd ∧ ((decM b).fst, (decM b).snd.fst, (decM b).snd.snd.fst, (decM b).snd.snd.snd.fst, (decM b).snd.snd.snd.snd.fst, (decM b).snd.snd.snd.snd.snd.fst, (decM
 b).snd.snd.snd.snd.snd.snd.fst, (decM b).snd.snd.snd.snd.snd.snd.snd.fst, (decM b).snd.snd.snd.snd.snd.snd.snd.snd.fst, (decM b).snd.snd.snd.snd.snd.snd.snd.snd.snd.fst, (decM b).snd.snd.snd.snd.snd.snd.snd.snd.snd.snd.fst, (decM
 b).snd.snd.snd.snd.snd.snd.snd.snd.snd.snd.snd.fst, (decM b).snd.snd.snd.snd.snd.snd.snd.snd.snd.snd.snd.snd.fst, (decM b).snd.snd.snd.snd.snd.snd.snd.snd.snd.snd.snd.snd.snd.fst, (decM
 b).snd.snd.snd.snd.snd.snd.snd.snd.snd.snd.snd.snd.snd.snd.fst, (decM b).snd.snd.snd.snd.snd.snd.snd.snd.snd.snd.snd.snd.snd.snd.snd.fst, (decM b).snd.snd.snd.snd.snd.snd.snd.snd.snd.snd.snd.snd.snd.snd.snd.snd.fst, (decM
 b).snd.snd.snd.snd.snd.snd.snd.snd.snd.snd.snd.snd.snd.snd.snd.snd.snd.fst, (decM b).snd.snd.snd.snd.snd.snd.snd.snd.snd.snd.snd.snd.snd.snd.snd.snd.snd.snd.fst, (decM
 b).snd.snd.snd.snd.snd.snd.snd.snd.snd.snd.snd.snd.snd.snd.snd.snd.snd.snd.snd.fst, (decM b).snd.snd.snd.snd.snd.snd.snd.snd.snd.snd.snd.snd.snd.snd.snd.snd.snd.snd.snd.snd.fst, (decM
 b).snd.snd.snd.snd.snd.snd.snd.snd.snd.snd.snd.snd.snd.snd.snd.snd.snd.snd.snd.snd.snd) = ((decM b).fst, (decM b).snd.fst, (decM b).snd.snd.fst, (decM b).snd.snd.snd.fst, (decM b).snd.snd.snd.snd.fst, (decM b).snd.snd.snd.snd.snd.fst, (decM
 b).snd.snd.snd.snd.snd.snd.fst, (decM b).snd.snd.snd.snd.snd.snd.snd.fst, (decM b).snd.snd.snd.snd.snd.snd.snd.snd.fst, (decM b).snd.snd.snd.snd.snd.snd.snd.snd.snd.fst, (decM b).snd.snd.snd.snd.snd.snd.snd.snd.snd.snd.fst, (decM
 b).snd.snd.snd.snd.snd.snd.snd.snd.snd.snd.snd.fst, (decM b).snd.snd.snd.snd.snd.snd.snd.snd.snd.snd.snd.snd.fst, (decM b).snd.snd.snd.snd.snd.snd.snd.snd.snd.snd.snd.snd.snd.fst, (decM
 b).snd.snd.snd.snd.snd.snd.snd.snd.snd.snd.snd.snd.snd.snd.fst, (decM b).snd.snd.snd.snd.snd.snd.snd.snd.snd.snd.snd.snd.snd.snd.snd.fst, (decM b).snd.snd.snd.snd.snd.snd.snd.snd.snd.snd.snd.snd.snd.snd.snd.snd.fst, (decM
 b).snd.snd.snd.snd.snd.snd.snd.snd.snd.snd.snd.snd.snd.snd.snd.snd.snd.fst, (decM b).snd.snd.snd.snd.snd.snd.snd.snd.snd.snd.snd.snd.snd.snd.snd.snd.snd.snd.fst, (decM
 b).snd.snd.snd.snd.snd.snd.snd.snd.snd.snd.snd.snd.snd.snd.snd.snd.snd.snd.snd.fst, (decM b).snd.snd.snd.snd.snd.snd.snd.snd.snd.snd.snd.snd.snd.snd.snd.snd.snd.snd.snd.snd.fst, (decM
 b).snd.snd.snd.snd.snd.snd.snd.snd.snd.snd.snd.snd.snd.snd.snd.snd.snd.snd.snd.snd.snd) ∧ SzR (List.length (decM b).fst) ∧ SzR (List.length (decM b).snd.fst) ∧ SzR (List.length (decM
 b).snd.snd.snd.snd.snd.snd.snd.snd.snd.snd.snd.snd.snd.snd.fst) ∧ SzR (List.length (decM b).snd.snd.snd.snd.snd.snd.snd.snd.snd.snd.snd.snd.snd.snd.snd.snd.snd.fst) ∧ SzR (List.length (decM
 b).snd.snd.snd.snd.snd.snd.snd.snd.snd.snd.snd.snd.snd.snd.snd.snd.snd.snd.snd.snd.fst) ∧ SzR (List.length (decM b).snd.snd.snd.snd.snd.snd.snd.snd.snd.snd.snd.snd.snd.snd.snd.snd.snd.snd.snd.snd.snd)) ∧ ((!true) = true → true = false ∧ b =
 b) ∧ ((!true) = false → true = true ∧ b = b)))))))) := by kernel_rfl
end Go.Proofs.Ytfiddfbagbaofaa.V
namespace Go.Proofs.Ytfiddfbagbaofaa.V
open Go
set_option linter.unusedSimpArgs false
set_option linter.unusedVariables false
theorem markI_length (k : Int) (n : Nat) : (markI k n).length = n := by simp [markI]
theorem markI_succ (k : Int) (n : Nat) : markI k (n + 1) = markI k n ++ [k + n] := by simp [markI, List.range_succ]
theorem markI_get (k : Int) {n i : Nat} (h : i < n) : (markI k n).getD i 0 = k + i := by
  unfold markI
  rw [List.getD_eq_getElem?_getD, List.getElem?_map, List.getElem?_range h]
  rfl
theorem eqIs_ok : Sound Try.prog 158 (pureS [isP, isP] [bl] (fun t => some (t.1 = t.2 ∧ SzR t.1.length)) (fun _ => true)) := by
  refine pure_loop mixed Try.func158 (by kernel_rfl) (b := loopAt Try.f158 0) (k := 4) (by kernel_rfl) (by kernel_rfl) (by kernel_rfl) F0_ok (fun t h => ?_)
  obtain ⟨m, n⟩ : List Int × List Int := t
  obtain ⟨h0, h⟩ : m = n ∧ SzR m.length := h
  subst h0
  have hs : m.length ≤ 2097152 := h
  refine ⟨.one 4 (eqIsL m m), eqIsL m m, fun i : Nat => m.length - i, one_loop _ _, fun (i : Nat) hi => vc_by (vc_eqIs_r_eq m m i) ?_, vc_by (vc_eqIs_eq m m) ?_⟩
  · have hi : i ≤ m.length := hi
    refine ⟨fun g => ?_, fun g => ⟨(), ⟨rfl, rfl⟩, trivial⟩⟩
    have g : (i : Int) < m.length := of_decide_eq_true g
    rw [next_i64 h (by omega)]
    exact ⟨⟨by omega, by omega⟩, by omega, ⟨by omega, by omega⟩, by omega, fun e => by simp at e, fun _ => ⟨i + 1, ⟨rfl, rfl, rfl, rfl, rfl, rfl, rfl⟩, by omega, by omega, fun _ _ => trivial⟩⟩
  · exact ⟨fun e => by simp at e, fun _ => ⟨0, ⟨rfl, rfl, rfl, rfl, rfl, rfl, rfl⟩, by omega, fun _ _ => ⟨rfl, rfl, rfl⟩⟩⟩
theorem markIs_ok : Sound Try.prog 160 (mutS [isP, i64] [i64] (fun t => some (MarkR t.1.length t.2)) (fun t => ((markI t.2 t.1.length, t.2), t.2 + t.1.length))) := by
  refine mut_loop mixed Try.func160 (by kernel_rfl) (b := loopAt Try.f160 0) (k := 2) (by kernel_rfl) (by kernel_rfl) (by kernel_rfl) F0_ok (fun t h => ?_)
  obtain ⟨m, k⟩ : List Int × Int := t
  obtain ⟨h, h1, h2⟩ : MarkR m.length k := h
  have hs : m.length ≤ 2097152 := h
  refine ⟨.one 2 (markIsL m k), markIsL m k, fun i : Nat => m.length - i, one_loop _ _, fun (i : Nat) hi => vc_by (vc_markIs_r_eq m k i) ?_, vc_by (vc_markIs_eq m k) ?_⟩
  · have hi : i ≤ m.length := hi
    refine ⟨fun g => ?_, fun g => ?_⟩
    · have g : (i : Int) < m.length := of_decide_eq_true g
      rw [next_i64 h (by omega), wrap_i64_in (n := k + i + 1) (by omega) (by omega), show 0 + (i : Int).toNat = i by omega, over_set _ _ _ (markI_length k i) (by omega)]
      exact ⟨⟨by omega, by omega⟩, by simp [markI_length]; omega, i + 1, ⟨rfl, rfl, by omega, rfl, by rw [markI_succ]⟩, by omega, by omega, fun _ _ => trivial⟩
    · have g : ¬ (i : Int) < m.length := of_decide_eq_false g
      have : i = m.length := by omega
      subst this
      exact ⟨(), ⟨rfl, by simp⟩, trivial⟩
  · exact ⟨0, ⟨rfl, rfl, by simp, rfl, rfl⟩, by omega, fun _ _ => ⟨rfl, rfl⟩⟩
theorem markUs_ok : Sound Try.prog 198 (mutS [usP, i64] [i64] (fun t => some (MarkR t.1.length t.2)) (fun t => ((markI t.2 t.1.length, t.2), t.2 + t.1.length))) := by
  refine mut_loop mixed Try.func198 (by kernel_rfl) (b := loopAt Try.f198 0) (k := 2) (by kernel_rfl) (by kernel_rfl) (by kernel_rfl) F0_ok (fun t h => ?_)
  obtain ⟨m, k⟩ : Us × Int := t
  obtain ⟨h, h1, h2⟩ : MarkR m.length k := h
  have hs : m.length ≤ 2097152 := h
  refine ⟨.one 2 (markUsL m k), markUsL m k, fun i : Nat => m.length - i, one_loop _ _, fun (i : Nat) hi => vc_by (vc_markUs_r_eq m k i) ?_, vc_by (vc_markUs_eq m k) ?_⟩
  · have hi : i ≤ m.length := hi
    refine ⟨fun g => ?_, fun g => ?_⟩
    · have g : (i : Int) < m.length := of_decide_eq_true g
      rw [next_i64 h (by omega), wrap_i64_in (n := k + i + 1) (by omega) (by omega), wrap_u64_in (n := k + i) (by omega) (by omega), show 0 + (i : Int).toNat = i by omega, over_set _ _ _ (markI_length k i) (by omega)]
      exact ⟨⟨by omega, by omega⟩, by simp [markI_length]; omega, i + 1, ⟨rfl, rfl, by omega, rfl, by rw [markI_succ]⟩, by omega, by omega, fun _ _ => trivial⟩
    · have g : ¬ (i : Int) < m.length := of_decide_eq_false g
      have : i = m.length := by omega
      subst this
      exact ⟨(), ⟨rfl, by simp⟩, trivial⟩
  · exact ⟨0, ⟨rfl, rfl, by simp, rfl, rfl⟩, by omega, fun _ _ => ⟨rfl, rfl⟩⟩
theorem heldIs_ok : Sound Try.prog 162 (pureS [isP, i64] [i64] (fun t => some (MarkR t.1.length t.2 ∧ t.1 = markI t.2 t.1.length)) (fun t => t.2 + t.1.length)) := by
  refine pure_loop mixed Try.func162 (by kernel_rfl) (b := loopAt Try.f162 0) (k := 2) (by kernel_rfl) (by kernel_rfl) (by kernel_rfl) F0_ok (fun t h => ?_)
  obtain ⟨m, k⟩ : List Int × Int := t
  obtain ⟨⟨h, h1, h2⟩, h3⟩ : MarkR m.length k ∧ m = markI k m.length := h
  have hs : m.length ≤ 2097152 := h
  refine ⟨.one 2 (heldIsL m k), heldIsL m k, fun i : Nat => m.length - i, one_loop _ _, fun (i : Nat) hi => vc_by (vc_heldIs_r_eq m k i) ?_, vc_by (vc_heldIs_eq m k) ?_⟩
  · have hi : i ≤ m.length := hi
    refine ⟨fun g => ?_, fun g => ?_⟩
    · have g : (i : Int) < m.length := of_decide_eq_true g
      have e : List.getD m i (El.zero [Ty.i IntKind.i64]) = k + i := by rw [h3]; exact markI_get k (by omega)
      rw [next_i64 h (by omega), wrap_i64_in (n := k + i + 1) (by omega) (by omega), show 0 + (i : Int).toNat = i by omega, e]
      exact ⟨⟨by omega, by omega⟩, by omega, fun e => by simp at e, fun _ => ⟨i + 1, ⟨rfl, rfl, by omega, rfl, rfl⟩, by omega, by omega, fun _ _ => trivial⟩⟩
    · have g : ¬ (i : Int) < m.length := of_decide_eq_false g
      have : i = m.length := by omega
      subst this
      exact ⟨(), ⟨rfl, rfl⟩, trivial⟩
  · exact ⟨0, ⟨rfl, rfl, by simp, rfl, rfl⟩, by omega, fun _ _ => ⟨rfl, rfl⟩⟩
theorem heldUs_ok : Sound Try.prog 199 (pureS [usP, i64] [i64] (fun t => some (MarkR t.1.length t.2 ∧ t.1 = markI t.2 t.1.length)) (fun t => t.2 + t.1.length)) := by
  refine pure_loop mixed Try.func199 (by kernel_rfl) (b := loopAt Try.f199 0) (k := 2) (by kernel_rfl) (by kernel_rfl) (by kernel_rfl) F0_ok (fun t h => ?_)
  obtain ⟨m, k⟩ : Us × Int := t
  obtain ⟨⟨h, h1, h2⟩, h3⟩ : MarkR m.length k ∧ m = markI k m.length := h
  have hs : m.length ≤ 2097152 := h
  refine ⟨.one 2 (heldUsL m k), heldUsL m k, fun i : Nat => m.length - i, one_loop _ _, fun (i : Nat) hi => vc_by (vc_heldUs_r_eq m k i) ?_, vc_by (vc_heldUs_eq m k) ?_⟩
  · have hi : i ≤ m.length := hi
    refine ⟨fun g => ?_, fun g => ?_⟩
    · have g : (i : Int) < m.length := of_decide_eq_true g
      have e : List.getD m i (El.zero [Ty.i IntKind.u64]) = k + i := by rw [h3]; exact markI_get k (by omega)
      rw [next_i64 h (by omega), wrap_i64_in (n := k + i + 1) (by omega) (by omega), wrap_u64_in (n := k + i) (by omega) (by omega), show 0 + (i : Int).toNat = i by omega, e]
      exact ⟨⟨by omega, by omega⟩, by omega, fun e => by simp at e, fun _ => ⟨i + 1, ⟨rfl, rfl, by omega, rfl, rfl⟩, by omega, by omega, fun _ _ => trivial⟩⟩
    · have g : ¬ (i : Int) < m.length := of_decide_eq_false g
      have : i = m.length := by omega
      subst this
      exact ⟨(), ⟨rfl, rfl⟩, trivial⟩
  · exact ⟨0, ⟨rfl, rfl, by simp, rfl, rfl⟩, by omega, fun _ _ => ⟨rfl, rfl⟩⟩
theorem kDD1_ok : KnowsD Try.prog kDD1 := .cons (by kernel_rfl) eqIs_ok <| .cons (by kernel_rfl) markIs_ok <| .cons (by kernel_rfl) markUs_ok <| .cons (by kernel_rfl) heldIs_ok <| .cons (by kernel_rfl) heldUs_ok .nil
theorem FDD1_ok : DictOk Try.prog FDD1 := mkD_ok (((kDD1_ok.append kHA2_ok).append kY1_ok).append kB1_ok) .nil .nil
theorem markH_ok : Sound Try.prog 159 (mutS [haP, i64] [i64] (fun t => some (SzH t.1 ∧ InN t.2)) (fun t => ((markH t.1 t.2, t.2), lastH t.1 t.2))) := by
  refine mut_plain mixed Try.func159 (by kernel_rfl) (by kernel_rfl) FDD1_ok (fun t h => ?_)
  obtain ⟨⟨m, u, pc, mo, su, mx, sa, tv, ep, em, ca, tl, s1, w1, m1, s2, w2, m2, s3, w3, m3⟩, n⟩ : Ha × Int := t
  obtain ⟨⟨h1, h2, h3, h4, h5⟩, h6, h7⟩ : (SzR m.length ∧ SzR u.length ∧ SzR m1.length ∧ SzR m2.length ∧ SzR m3.length) ∧ 0 ≤ n ∧ n ≤ 549755813888 := h
  have h1' : m.length ≤ 2097152 := h1
  have h2' : u.length ≤ 2097152 := h2
  have k1 : MarkR m.length n := ⟨h1, h6, by omega⟩
  have k2 : MarkR u.length (n + (m.length : Int)) := ⟨h2, by omega, by omega⟩
  have k3 : MarkC ((s1, w1, m1), (s2, w2, m2), (s3, w3, m3)) (n + (m.length : Int) + (u.length : Int)) := ⟨⟨h3, h4, h5⟩, by omega, by omega⟩
  refine ⟨.none, vc_by (vc_markH_eq m u pc mo su mx sa tv ep em ca tl s1 w1 m1 s2 w2 m2 s3 w3 m3 n) ?_⟩
  simp [k1, k2, k3]
theorem heldH_ok : Sound Try.prog 161 (pureS [haP, i64] [i64] (fun t => some ((SzH t.1 ∧ InN t.2) ∧ t.1 = markH t.1 t.2)) (fun t => lastH t.1 t.2)) := by
  refine pure_plain mixed Try.func161 (by kernel_rfl) (by kernel_rfl) FDD1_ok (fun t h => ?_)
  obtain ⟨⟨m, u, pc, mo, su, mx, sa, tv, ep, em, ca, tl, s1, w1, m1, s2, w2, m2, s3, w3, m3⟩, n⟩ : Ha × Int := t
  obtain ⟨⟨⟨h1, h2, h3, h4, h5⟩, h6, h7⟩, he⟩ : ((SzR m.length ∧ SzR u.length ∧ SzR m1.length ∧ SzR m2.length ∧ SzR m3.length) ∧ 0 ≤ n ∧ n ≤ 549755813888) ∧ (m, u, pc, mo, su, mx, sa, tv, ep, em, ca, tl, s1, w1, m1, s2, w2, m2, s3, w3, m3) = markH (m, u, pc, mo, su, mx, sa, tv, ep, em, ca, tl, s1, w1, m1, s2, w2, m2, s3, w3, m3) n := h
  have hm : m = markM n m.length := congrArg (fun t : Ha => t.1) he
  have hu : u = markI (n + (m.length : Int)) u.length := congrArg (fun t : Ha => t.2.1) he
  have hc : ((s1, w1, m1), (s2, w2, m2), (s3, w3, m3)) = markC ((s1, w1, m1), (s2, w2, m2), (s3, w3, m3)) (n + (m.length : Int) + (u.length : Int)) := congrArg (fun t : Ha => toC t.2.2.2.2.2.2.2.2.2.2.2.2) he
  have h1' : m.length ≤ 2097152 := h1
  have h2' : u.length ≤ 2097152 := h2
  have k1 : MarkR m.length n := ⟨h1, h6, by omega⟩
  have k2 : MarkR u.length (n + (m.length : Int)) := ⟨h2, by omega, by omega⟩
  have k3 : MarkC ((s1, w1, m1), (s2, w2, m2), (s3, w3, m3)) (n + (m.length : Int) + (u.length : Int)) := ⟨⟨h3, h4, h5⟩, by omega, by omega⟩
  refine vc_by (vc_heldH_eq m u pc mo su mx sa tv ep em ca tl s1 w1 m1 s2 w2 m2 s3 w3 m3 n) ⟨⟨rfl, k1, hm⟩, fun q => ?_, fun _ => ⟨⟨rfl, k2, hu⟩, fun q => ?_, fun _ => ⟨⟨rfl, rfl, rfl, k3, hc⟩, fun q => ?_, fun _ => ?_⟩⟩⟩
  · exact absurd (show n + (m.length : Int) < 0 from of_decide_eq_true q) (by omega)
  · exact absurd (show n + (m.length : Int) + (u.length : Int) < 0 from of_decide_eq_true q) (by omega)
  · exact absurd (show n + (m.length : Int) + (u.length : Int) + 6 * (m1.length : Int) + 6 * (m2.length : Int) + 6 * (m3.length : Int) < 0 from of_decide_eq_true q) (by omega)
  · repeat' apply And.intro
    all_goals rfl
theorem kDD2_ok : KnowsD Try.prog kDD2 := .cons (by kernel_rfl) markH_ok <| .cons (by kernel_rfl) heldH_ok .nil
theorem FDD2_ok : DictOk Try.prog FDD2 := mkD_ok (((kDD2_ok.append kDD1_ok).append kHA2_ok).append kB1_ok) .nil .nil
theorem eqS_ok : Sound Try.prog 71 (pureS [scP, scP] [bl] (fun t => some (t.1 = t.2 ∧ SzS t.1)) (fun _ => true)) := by
  refine pure_plain mixed Try.func71 (by kernel_rfl) (by kernel_rfl) FDD2_ok (fun t h => ?_)
  obtain ⟨a, b⟩ : Sc × Sc := t
  obtain ⟨rfl, h⟩ : a = b ∧ SzS a := h
  obtain ⟨m, u, pc, mo, su, mx, sa, tv, ep, em, ca, tl, s1, w1, m1, s2, w2, m2, s3, w3, m3, pk⟩ := a
  obtain ⟨h1, h2, h3, h4, h5, h6⟩ : SzR m.length ∧ SzR u.length ∧ SzR m1.length ∧ SzR m2.length ∧ SzR m3.length ∧ SzR pk.length := h
  have k3 : SzC ((s1, w1, m1), (s2, w2, m2), (s3, w3, m3)) := ⟨h3, h4, h5⟩
  exact vc_by (vc_eqS_eq m u pc mo su mx sa tv ep em ca tl s1 w1 m1 s2 w2 m2 s3 w3 m3 pk) (by simp [h1, h2, k3, h6])
theorem markS_ok : Sound Try.prog 72 (mutS [scP, i64] [i64] (fun t => some (SzS t.1 ∧ InN t.2)) (fun t => ((markS t.1 t.2, t.2), lastS t.1 t.2))) := by
  refine mut_plain mixed Try.func72 (by kernel_rfl) (by kernel_rfl) FDD2_ok (fun t h => ?_)
  obtain ⟨⟨m, u, pc, mo, su, mx, sa, tv, ep, em, ca, tl, s1, w1, m1, s2, w2, m2, s3, w3, m3, pk⟩, n⟩ : Sc × Int := t
  obtain ⟨⟨h1, h2, h3, h4, h5, h8⟩, h6, h7⟩ : (SzR m.length ∧ SzR u.length ∧ SzR m1.length ∧ SzR m2.length ∧ SzR m3.length ∧ SzR pk.length) ∧ 0 ≤ n ∧ n ≤ 549755813888 := h
  have h1' : m.length ≤ 2097152 := h1
  have h2' : u.length ≤ 2097152 := h2
  have h3' : m1.length ≤ 2097152 := h3
  have h4' : m2.length ≤ 2097152 := h4
  have h5' : m3.length ≤ 2097152 := h5
  have k0 : InN n := ⟨h6, h7⟩
  have k3 : SzC ((s1, w1, m1), (s2, w2, m2), (s3, w3, m3)) := ⟨h3, h4, h5⟩
  have k2 : MarkR pk.length (n + (m.length : Int) + (u.length : Int) + 6 * (m1.length : Int) + 6 * (m2.length : Int) + 6 * (m3.length : Int)) := ⟨h8, by omega, by omega⟩
  exact ⟨.none, vc_by (vc_markS_eq m u pc mo su mx sa tv ep em ca tl s1 w1 m1 s2 w2 m2 s3 w3 m3 pk n) (by simp [h1, h2, k0, k2, k3])⟩
theorem heldS_ok : Sound Try.prog 73 (pureS [scP, i64] [i64] (fun t => some ((SzS t.1 ∧ InN t.2) ∧ t.1 = markS t.1 t.2)) (fun t => lastS t.1 t.2)) := by
  refine pure_plain mixed Try.func73 (by kernel_rfl) (by kernel_rfl) FDD2_ok (fun t h => ?_)
  obtain ⟨⟨m, u, pc, mo, su, mx, sa, tv, ep, em, ca, tl, s1, w1, m1, s2, w2, m2, s3, w3, m3, pk⟩, n⟩ : Sc × Int := t
  obtain ⟨⟨⟨h1, h2, h3, h4, h5, h8⟩, h6, h7⟩, he⟩ : ((SzR m.length ∧ SzR u.length ∧ SzR m1.length ∧ SzR m2.length ∧ SzR m3.length ∧ SzR pk.length) ∧ 0 ≤ n ∧ n ≤ 549755813888) ∧ (m, u, pc, mo, su, mx, sa, tv, ep, em, ca, tl, s1, w1, m1, s2, w2, m2, s3, w3, m3, pk) = markS (m, u, pc, mo, su, mx, sa, tv, ep, em, ca, tl, s1, w1, m1, s2, w2, m2, s3, w3, m3, pk) n := h
  have hh : (m, u, pc, mo, su, mx, sa, tv, ep, em, ca, tl, s1, w1, m1, s2, w2, m2, s3, w3, m3) = markH (m, u, pc, mo, su, mx, sa, tv, ep, em, ca, tl, s1, w1, m1, s2, w2, m2, s3, w3, m3) n := congrArg (fun t : Sc => ((t.1, t.2.1, t.2.2.1, t.2.2.2.1, t.2.2.2.2.1, t.2.2.2.2.2.1, t.2.2.2.2.2.2.1, t.2.2.2.2.2.2.2.1, t.2.2.2.2.2.2.2.2.1, t.2.2.2.2.2.2.2.2.2.1, t.2.2.2.2.2.2.2.2.2.2.1, t.2.2.2.2.2.2.2.2.2.2.2.1, t.2.2.2.2.2.2.2.2.2.2.2.2.1, t.2.2.2.2.2.2.2.2.2.2.2.2.2.1, t.2.2.2.2.2.2.2.2.2.2.2.2.2.2.1, t.2.2.2.2.2.2.2.2.2.2.2.2.2.2.2.1, t.2.2.2.2.2.2.2.2.2.2.2.2.2.2.2.2.1, t.2.2.2.2.2.2.2.2.2.2.2.2.2.2.2.2.2.1, t.2.2.2.2.2.2.2.2.2.2.2.2.2.2.2.2.2.2.1, t.2.2.2.2.2.2.2.2.2.2.2.2.2.2.2.2.2.2.2.1, t.2.2.2.2.2.2.2.2.2.2.2.2.2.2.2.2.2.2.2.2.1) : Ha)) he
  have hp : pk = markI (n + (m.length : Int) + (u.length : Int) + 6 * (m1.length : Int) + 6 * (m2.length : Int) + 6 * (m3.length : Int)) pk.length := congrArg (fun t : Sc => t.2.2.2.2.2.2.2.2.2.2.2.2.2.2.2.2.2.2.2.2.2) he
  have h1' : m.length ≤ 2097152 := h1
  have h2' : u.length ≤ 2097152 := h2
  have h3' : m1.length ≤ 2097152 := h3
  have h4' : m2.length ≤ 2097152 := h4
  have h5' : m3.length ≤ 2097152 := h5
  have k0 : InN n := ⟨h6, h7⟩
  have k3 : SzC ((s1, w1, m1), (s2, w2, m2), (s3, w3, m3)) := ⟨h3, h4, h5⟩
  have k2 : MarkR pk.length (n + (m.length : Int) + (u.length : Int) + 6 * (m1.length : Int) + 6 * (m2.length : Int) + 6 * (m3.length : Int)) := ⟨h8, by omega, by omega⟩
  refine vc_by (vc_heldS_eq m u pc mo su mx sa tv ep em ca tl s1 w1 m1 s2 w2 m2 s3 w3 m3 pk n) ⟨⟨rfl, rfl, rfl, rfl, rfl, ⟨⟨h1, h2, k3⟩, k0⟩, hh⟩, fun q => ?_, fun _ => ⟨⟨rfl, k2, hp⟩, fun q => ?_, fun _ => ?_⟩⟩
  · exact absurd (show n + (m.length : Int) + (u.length : Int) + 6 * (m1.length : Int) + 6 * (m2.length : Int) + 6 * (m3.length : Int) < 0 from of_decide_eq_true q) (by omega)
  · exact absurd (show n + (m.length : Int) + (u.length : Int) + 6 * (m1.length : Int) + 6 * (m2.length : Int) + 6 * (m3.length : Int) + (pk.length : Int) < 0 from of_decide_eq_true q) (by omega)
  · repeat' apply And.intro
    all_goals rfl
theorem kDD3_ok : KnowsD Try.prog kDD3 := .cons (by kernel_rfl) eqS_ok <| .cons (by kernel_rfl) markS_ok <| .cons (by kernel_rfl) heldS_ok <| .cons (by kernel_rfl) sdec_ok <| .cons (by kernel_rfl) dec_ok .nil
theorem FDD3_ok : DictOk Try.prog FDD3 := mkD_ok (kDD3_ok.append kB1_ok) .nil .nil
theorem dec_size {b : By} (hb : ByteR b) : SzS (decM b) := by
  have h0 := (empty_facts (atB_in hb 0).1 (atB_in hb 0).2).2.2.2.2.2.2.2.2.2
  have h1 := (empty_facts (atB_in hb 1).1 (atB_in hb 1).2).2.2.2.2.2.2.2.2.2
  have h2 := (empty_facts (atB_in hb 2).1 (atB_in hb 2).2).2.2.2.2.2.2.2.2.2
  have hn := dN_in hb
  have hd := dSize_in hb
  have hE : ∀ {x : Int}, 1 ≤ x ∧ x ≤ 32 → SzR (List.replicate x.toNat zE).length := fun {x} h => by
    rw [List.length_replicate]; unfold SzR; omega
  refine ⟨?_, ?_, hE h0, hE h1, hE h2, ?_⟩
  · show SzR (dEnd b).2.length
    rw [(dEnd_ok hb).2.1]
    unfold SzR
    omega
  · show SzR (regsP b 8).length
    rw [regsP_length]
    unfold SzR
    omega
  · show SzR (bytsB b (dEnd b).1 (dN b).toNat).length
    rw [bytsB_length]
    unfold SzR
    omega
theorem lawDec_ok : Canon Try.prog 18 [byP] [bl] (WfPs [byP]) (fun _ => true) := by
  refine canon_plain mixed Try.func18 (by kernel_rfl) (by kernel_rfl) FDD3_ok (fun (b : By) h => ?_)
  have b1 := wf_bytes (m := b) h
  refine ⟨.none, vc_by (vc_lawDec_eq b) ⟨fun _ => by simp, fun g => ?_⟩⟩
  have g : ¬ (b.length : Int) > 1048576 := of_decide_eq_false g
  have z0 : SzR b.length := by unfold SzR; omega
  have hb : ByteR b := ⟨z0, b1⟩
  have hz := dec_size hb
  have mk1 : MarkR b.length 1 := ⟨z0, by omega, by omega⟩
  have in1 : InN 1 := ⟨by decide, by decide⟩
  generalize decM b = T at hz ⊢
  obtain ⟨m, u, pc, mo, su, mx, sa, tv, ep, em, ca, tl, s1, w1, m1, s2, w2, m2, s3, w3, m3, pk⟩ : Sc := T
  obtain ⟨h1, h2, h3, h4, h5, h8⟩ : SzR m.length ∧ SzR u.length ∧ SzR m1.length ∧ SzR m2.length ∧ SzR m3.length ∧ SzR pk.length := hz
  simp [z0, hb, mk1, in1, h1, h2, h3, h4, h5, h8, markEs_length, markM_length, markI_length]
end Go.Proofs.Ytfiddfbagbaofaa.V
