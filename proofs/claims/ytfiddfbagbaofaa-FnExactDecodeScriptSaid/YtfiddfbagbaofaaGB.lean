/- The memory's functions and the laws' helpers on bytes answer as their models. Conditions: those in each statement. -/
import Derived.Test.YtfiddfbagbaofaaGA
import Derived.Test.YtfiddfbagbaofaaV3
import Derived.KernelRfl
namespace Go.Proofs.Ytfiddfbagbaofaa.V
open Go


abbrev byP : Pm := .one (.sl [.i .u8])
abbrev bsP : Pm := .one (.sub [.i .u8])
abbrev By := List Int
def SzR (n : Nat) : Prop := n ≤ 2097152
def ByteR (m : By) : Prop := SzR m.length ∧ ∀ b ∈ m, 0 ≤ b ∧ b < 256
def gwM (w : Int) : Bool := w == 1 || w == 2 || w == 4 || w == 8
def insM (m : By) (a w : Int) : Bool := decide (w ≤ m.length) && decide (a ≤ m.length - w)
def numM : By → Int
  | [] => 0
  | b :: t => b + 256 * numM t
def bytM (v : Int) : Nat → By
  | 0 => []
  | n + 1 => v % 256 :: bytM (v / 256) n
def putM (m : By) (a : Nat) (b : By) : By := m.take a ++ b ++ m.drop (a + b.length)
/-- What marking writes. -/
def markM (k : Int) (n : Nat) : By := (List.range n).map fun i : Nat => (k + (i : Int)) % 256
def MarkR (n : Nat) (k : Int) : Prop := SzR n ∧ 0 ≤ k ∧ k ≤ 1099511627776

def vc_goodWidth (w : Int) : Prop := vcPure Try.prog F0 .none Try.f97 [i64] [bl] w (gwM w)
def vc_inside (m : By) (a n : Int) : Prop := vcPure Try.prog F0 .none Try.f183 [byP, u64, i64] [bl] (m, a, n) (insM m a n)
def vc_holds (m : By) (a n : Int) : Prop := vcPure Try.prog F0 .none Try.f98 [byP, u64, u64] [bl] (m, a, n) (insM m a n)
def numS (k : Nat) : Sum := pureS [bsP] [u64] (fun m => some (ByteR m ∧ m.length ≤ 8 ∧ m.length < k)) numM
def vc_l1Number (k : Nat) (m : By) : Prop := vcPure Try.prog (mkD [(96, numS k)] [] []) .none Try.f96 [bsP] [u64] m (numM m)
def numL (m : By) (a w : Int) : LoopS where
  α := Int
  I i := 0 ≤ i ∧ i ≤ w
  sl i := slots 26 [(0, .sl 0 1 0 m.length), (1, .v (.int .u64 a)), (7, .v (.int .u64 (numM ((m.drop (a + i).toNat).take (w - i).toNat)))), (8, .v (.int .u64 i))]
  H _ := [.arr [.i .u8] m false]
  fams := [{ β := Unit, out := fun _ _ => True, ex := .ext 0, sl := fun _ => slots 26 [(7, .v (.int .u64 (numM ((m.drop a.toNat).take w.toNat))))], H := fun _ => [.arr [.i .u8] m false] }]
def vc_number_r (m : By) (a w i : Int) : Prop := vcRound Try.prog F0 (.one 3 (numL m a w)) 1 (loopAt Try.f99 0) (numL m a w) (fun i : Int => i.toNat) i
def vc_number (m : By) (a w : Int) : Prop := vcPure Try.prog F0 (.one 3 (numL m a w)) Try.f99 [byP, u64, u64] [u64] (m, a, w) (numM ((m.drop a.toNat).take w.toNat))
def setL (m : By) (a w v : Int) : LoopS where
  α := Nat
  I i := (i : Int) ≤ w
  sl i := slots 24 [(0, .sl 0 1 0 m.length), (1, .v (.int .u64 a)), (3, .v (.int .u64 v)), (9, .v (.int .u64 w)), (10, .v (.int .u64 i))]
  H i := [.arr [.i .u8] (putM m a.toNat (bytM v i)) true]
  fams := [{ β := Unit, out := fun _ _ => True, ex := .ext 0, sl := fun _ => slots 24 [], H := fun _ => [.arr [.i .u8] (putM m a.toNat (bytM v w.toNat)) true] }]
def vc_set_r (m : By) (a w v : Int) (i : Nat) : Prop := vcRound Try.prog F0 (.one 1 (setL m a w v)) 1 (loopAt Try.f103 0) (setL m a w v) (fun i : Nat => w.toNat - i) i
def vc_set (m : By) (a w v : Int) : Prop := vcMut Try.prog F0 (.one 1 (setL m a w v)) Try.f103 [byP, u64, u64, u64] [] (m, a, w, v) ((putM m a.toNat (bytM v w.toNat), a, w, v), ())
def bytS (k : Nat) : Sum := pureS [u64, i64] [byP] (fun t => some (U64 t.1 ∧ 0 ≤ t.2 ∧ t.2 ≤ 8 ∧ t.2.toNat < k)) (fun t => bytM t.1 t.2.toNat)
def vc_l1Bytes (k : Nat) (v n : Int) : Prop := vcPure Try.prog (mkD [(101, bytS k)] [] []) .none Try.f101 [u64, i64] [byP] (v, n) (bytM v n.toNat)
def vc_l1Put (m : By) (a : Int) (b : By) : Prop := vcPure Try.prog F0 .none Try.f100 [byP, i64, byP] [byP] (m, a, b) (putM m a.toNat b)
def vc_clone (m : By) : Prop := vcPure Try.prog F0 .none Try.f102 [byP] [byP] m m
def toByL (m : By) : LoopS where
  α := Nat
  I i := i ≤ m.length
  sl i := slots 22 [(0, .sl 0 1 0 m.length), (3, .sl 1 1 0 m.length), (4, .v (.int .i64 i))]
  H i := [.arr [.i .u8] m false, .arr [.i .u8] (m.take i ++ List.replicate (m.length - i) (0 : Int)) true]
  fams := [{ β := Unit, out := fun _ _ => True, ex := .ext 0, sl := fun _ => slots 22 [(3, .sl 1 1 0 m.length)], H := fun _ => [.arr [.i .u8] m false, .arr [.i .u8] m true] }]
def vc_toBy_r (m : By) (i : Nat) : Prop := vcRound Try.prog F0 (.one 3 (toByL m)) 1 (loopAt Try.f30 0) (toByL m) (fun i : Nat => m.length - i) i
def vc_toBy (m : By) : Prop := vcPure Try.prog F0 (.one 3 (toByL m)) Try.f30 [byP] [byP] m m
def eqByL (m n : By) : LoopS where
  α := Nat
  I i := i ≤ m.length
  sl i := slots 26 [(0, .sl 0 1 0 m.length), (1, .sl 1 1 0 n.length), (5, .v (.int .i64 i))]
  H _ := [.arr [.i .u8] m false, .arr [.i .u8] n false]
  fams := [{ β := Unit, out := fun _ _ => True, ex := .ext 0, sl := fun _ => slots 26 [], H := fun _ => [.arr [.i .u8] m false, .arr [.i .u8] n false] }]
def vc_eqBy_r (m n : By) (i : Nat) : Prop := vcRound Try.prog F0 (.one 4 (eqByL m n)) 2 (loopAt Try.f33 0) (eqByL m n) (fun i : Nat => m.length - i) i
def vc_eqBy (m n : By) : Prop := vcPure Try.prog F0 (.one 4 (eqByL m n)) Try.f33 [byP, byP] [bl] (m, n) true
def markByL (m : By) (k : Int) : LoopS where
  α := Nat
  I i := i ≤ m.length
  sl i := slots 20 [(0, .sl 0 1 0 m.length), (1, .v (.int .i64 (k + i))), (5, .v (.int .i64 i))]
  H i := [.arr [.i .u8] (markM k i ++ m.drop i) true]
  fams := [{ β := Unit, out := fun _ _ => True, ex := .ext 0, sl := fun _ => slots 20 [(1, .v (.int .i64 (k + m.length)))], H := fun _ => [.arr [.i .u8] (markM k m.length) true] }]
def vc_markBy_r (m : By) (k : Int) (i : Nat) : Prop := vcRound Try.prog F0 (.one 2 (markByL m k)) 1 (loopAt Try.f36 0) (markByL m k) (fun i : Nat => m.length - i) i
def vc_markBy (m : By) (k : Int) : Prop := vcMut Try.prog F0 (.one 2 (markByL m k)) Try.f36 [byP, i64] [i64] (m, k) ((markM k m.length, k), k + m.length)
def heldByL (m : By) (k : Int) : LoopS where
  α := Nat
  I i := i ≤ m.length
  sl i := slots 22 [(0, .sl 0 1 0 m.length), (1, .v (.int .i64 (k + i))), (5, .v (.int .i64 i))]
  H _ := [.arr [.i .u8] m false]
  fams := [{ β := Unit, out := fun _ _ => True, ex := .ext 0, sl := fun _ => slots 22 [(1, .v (.int .i64 (k + m.length)))], H := fun _ => [.arr [.i .u8] m false] }]
def vc_heldBy_r (m : By) (k : Int) (i : Nat) : Prop := vcRound Try.prog F0 (.one 2 (heldByL m k)) 1 (loopAt Try.f37 0) (heldByL m k) (fun i : Nat => m.length - i) i
def vc_heldBy (m : By) (k : Int) : Prop := vcPure Try.prog F0 (.one 2 (heldByL m k)) Try.f37 [byP, i64] [i64] (m, k) (k + m.length)
/-- The bytes at a place. -/
def FitR (m : By) (a w : Int) : Prop := ByteR m ∧ 0 ≤ a ∧ 0 ≤ w ∧ w ≤ 8 ∧ a + w ≤ m.length
def kB1 : Known := [
  (97, pureS [i64] [bl] (fun _ => none) gwM),
  (183, pureS [byP, u64, i64] [bl] (fun t => some (SzR t.1.length ∧ 0 ≤ t.2.2)) (fun t => insM t.1 t.2.1 t.2.2)),
  (98, pureS [byP, u64, u64] [bl] (fun t => some (SzR t.1.length ∧ 0 ≤ t.2.2)) (fun t => insM t.1 t.2.1 t.2.2)),
  (96, pureS [bsP] [u64] (fun m => some (ByteR m ∧ m.length ≤ 8)) numM),
  (99, pureS [byP, u64, u64] [u64] (fun t => some (FitR t.1 t.2.1 t.2.2)) (fun t => numM ((t.1.drop t.2.1.toNat).take t.2.2.toNat))),
  (103, mutS [byP, u64, u64, u64] [] (fun t => some (FitR t.1 t.2.1 t.2.2.1 ∧ U64 t.2.2.2)) (fun t => ((putM t.1 t.2.1.toNat (bytM t.2.2.2 t.2.2.1.toNat), t.2), ()))),
  (101, pureS [u64, i64] [byP] (fun t => some (U64 t.1 ∧ 0 ≤ t.2 ∧ t.2 ≤ 8)) (fun t => bytM t.1 t.2.toNat)),
  (100, pureS [byP, i64, byP] [byP] (fun t => some (SzR t.1.length ∧ 0 ≤ t.2.1 ∧ t.2.1 + t.2.2.length ≤ t.1.length)) (fun t => putM t.1 t.2.1.toNat t.2.2)),
  (102, pureS [byP] [byP] (fun m => some (SzR m.length)) (fun m => m)),
  (30, pureS [byP] [byP] (fun m => some (SzR m.length)) (fun m => m)),
  (33, pureS [byP, byP] [bl] (fun t => some (t.1 = t.2 ∧ SzR t.1.length)) (fun _ => true)),
  (36, mutS [byP, i64] [i64] (fun t => some (MarkR t.1.length t.2)) (fun t => ((markM t.2 t.1.length, t.2), t.2 + t.1.length))),
  (37, pureS [byP, i64] [i64] (fun t => some (MarkR t.1.length t.2 ∧ t.1 = markM t.2 t.1.length)) (fun t => t.2 + t.1.length))]
end Go.Proofs.Ytfiddfbagbaofaa.V
namespace Go.Proofs.Ytfiddfbagbaofaa.V
open Go
set_option linter.unusedVariables false
theorem vc_goodWidth_eq (w : Int) : vc_goodWidth w = (
 gwM w = bif bif bif w == (1 : Int) then true else w == (2 : Int) then true else w == (4 : Int) then true else w == (8 : Int)) := by kernel_rfl
theorem vc_inside_eq (m : By) (a n : Int) : vc_inside m a n = (
 (insM m a n = bif decide (n ≤ (↑(List.length m) : Int)) then decide (a ≤ IntKind.u64.wrap (IntKind.i64.wrap ((↑(List.length m) : Int) - n))) else false) ∧ m = m) := by kernel_rfl
theorem vc_holds_eq (m : By) (a n : Int) : vc_holds m a n = (
 (insM m a n = bif decide (n ≤ IntKind.u64.wrap (↑(List.length m) : Int)) then decide (a ≤ IntKind.u64.wrap (IntKind.u64.wrap (↑(List.length m) : Int) - n)) else false) ∧ m = m) := by kernel_rfl
theorem vc_l1Number_eq (k : Nat) (m : By) : vc_l1Number k m = (
 (((↑(List.length m) : Int) == (0 : Int)) = true → numM m = (0 : Int) ∧ m = m) ∧
   (((↑(List.length m) : Int) == (0 : Int)) = false →
     ((0 : Int) ≤ (0 : Int) ∧ (0 : Int) < (↑(List.length m) : Int)) ∧
       (0 : Nat) + Int.toNat (0 : Int) < List.length m ∧
         ((0 : Int) ≤ (1 : Int) ∧ (1 : Int) ≤ (↑(List.length m) : Int) ∧ (↑(List.length m) : Int) ≤ (↑(List.length m) : Int)) ∧
           ((0 : Nat) + Int.toNat (1 : Int) + ((↑(List.length m) : Int).toNat - Int.toNat (1 : Int)) ≤ List.length m ∧
               ByteR (List.take ((↑(List.length m) : Int).toNat - Int.toNat (1 : Int)) (List.drop ((0 : Nat) + Int.toNat (1 : Int)) m)) ∧
                 (List.take ((↑(List.length m) : Int).toNat - Int.toNat (1 : Int)) (List.drop ((0 : Nat) + Int.toNat (1 : Int)) m)).length ≤ (8 : Nat) ∧
                   (List.take ((↑(List.length m) : Int).toNat - Int.toNat (1 : Int)) (List.drop ((0 : Nat) + Int.toNat (1 : Int)) m)).length < k) ∧
             numM m =
                 IntKind.u64.wrap
                   (IntKind.u64.wrap (List.getD m ((0 : Nat) + Int.toNat (0 : Int)) (El.zero [Ty.i IntKind.u8])) +
                     IntKind.u64.wrap ((256 : Int) * numM (List.take ((↑(List.length m) : Int).toNat - Int.toNat (1 : Int)) (List.drop ((0 : Nat) + Int.toNat (1 : Int)) m)))) ∧
               m = m)) := by kernel_rfl
theorem vc_number_r_eq (m : By) (a w i : Int) : vc_number_r m a w i = (
 (decide (i > (0 : Int)) = true →
     (0 : Int) ≤ (8 : Int) ∧
       ((0 : Int) ≤ IntKind.u64.wrap (IntKind.u64.wrap (a + i) - (1 : Int)) ∧ IntKind.u64.wrap (IntKind.u64.wrap (a + i) - (1 : Int)) < (↑(List.length m) : Int)) ∧
         (0 : Nat) + (IntKind.u64.wrap (IntKind.u64.wrap (a + i) - (1 : Int))).toNat < List.length m ∧
           ∃ (y : Int),
             ((0 : Nat) = (0 : Nat) ∧
                 List.length m = List.length m ∧
                   a = a ∧
                     numM (List.take (w - y).toNat (List.drop (a + y).toNat m)) =
                         bits BinOp.or IntKind.u64 (IntKind.u64.wrap (numM (List.take (w - i).toNat (List.drop (a + i).toNat m)) * (2 : Int) ^ min (Int.toNat (8 : Int)) (64 : Nat)))
                           (IntKind.u64.wrap (List.getD m ((0 : Nat) + (IntKind.u64.wrap (IntKind.u64.wrap (a + i) - (1 : Int))).toNat) (El.zero [Ty.i IntKind.u8]))) ∧
                       y = IntKind.u64.wrap (i - (1 : Int)) ∧ m = m) ∧
               ((0 : Int) ≤ y ∧ y ≤ w) ∧ y.toNat < i.toNat ∧ ∀ (z : Unit), True → True) ∧
   (decide (i > (0 : Int)) = false → ∃ (z : Unit), (numM (List.take w.toNat (List.drop a.toNat m)) = numM (List.take (w - i).toNat (List.drop (a + i).toNat m)) ∧ m = m) ∧ True)) := by kernel_rfl
theorem vc_number_eq (m : By) (a w : Int) : vc_number m a w = (
 ∃ (x : Int),
   ((0 : Nat) = (0 : Nat) ∧ List.length m = List.length m ∧ a = a ∧ numM (List.take (w - x).toNat (List.drop (a + x).toNat m)) = (0 : Int) ∧ x = w ∧ m = m) ∧
     ((0 : Int) ≤ x ∧ x ≤ w) ∧ ∀ (z : Unit), True → numM (List.take w.toNat (List.drop a.toNat m)) = numM (List.take w.toNat (List.drop a.toNat m)) ∧ m = m) := by kernel_rfl
theorem vc_set_r_eq (m : By) (a w v : Int) (i : Nat) : vc_set_r m a w v i = (
 (decide ((↑i : Int) < w) = true →
     (0 : Int) ≤ IntKind.u64.wrap ((8 : Int) * (↑i : Int)) ∧
       ((0 : Int) ≤ IntKind.u64.wrap (a + (↑i : Int)) ∧ IntKind.u64.wrap (a + (↑i : Int)) < (↑(List.length m) : Int)) ∧
         (0 : Nat) + (IntKind.u64.wrap (a + (↑i : Int))).toNat < (List.take a.toNat m ++ bytM v i ++ List.drop (a.toNat + List.length (bytM v i)) m).length ∧
           ∃ (y : Nat),
             ((0 : Nat) = (0 : Nat) ∧
                 List.length m = List.length m ∧
                   a = a ∧
                     v = v ∧
                       w = w ∧
                         (↑y : Int) = IntKind.u64.wrap ((↑i : Int) + (1 : Int)) ∧
                           List.take a.toNat m ++ bytM v y ++ List.drop (a.toNat + List.length (bytM v y)) m =
                             (List.take a.toNat m ++ bytM v i ++ List.drop (a.toNat + List.length (bytM v i)) m).set ((0 : Nat) + (IntKind.u64.wrap (a + (↑i : Int))).toNat)
                               (IntKind.u8.wrap (v / (2 : Int) ^ min (IntKind.u64.wrap ((8 : Int) * (↑i : Int))).toNat (64 : Nat)))) ∧
               (↑y : Int) ≤ w ∧ w.toNat - y < w.toNat - i ∧ ∀ (z : Unit), True → True) ∧
   (decide ((↑i : Int) < w) = false →
     ∃ (z : Unit),
       List.take a.toNat m ++ bytM v w.toNat ++ List.drop (a.toNat + List.length (bytM v w.toNat)) m = List.take a.toNat m ++ bytM v i ++ List.drop (a.toNat + List.length (bytM v i)) m ∧ True)) := by kernel_rfl
theorem vc_set_eq (m : By) (a w v : Int) : vc_set m a w v = (
 ∃ (x : Nat),
   ((0 : Nat) = (0 : Nat) ∧ List.length m = List.length m ∧ a = a ∧ v = v ∧ w = w ∧ (↑x : Int) = (0 : Int) ∧ List.take a.toNat m ++ bytM v x ++ List.drop (a.toNat + List.length (bytM v x)) m = m) ∧
     (↑x : Int) ≤ w ∧
       ∀ (z : Unit),
         True →
           List.take a.toNat m ++ bytM v w.toNat ++ List.drop (a.toNat + List.length (bytM v w.toNat)) m = List.take a.toNat m ++ bytM v w.toNat ++ List.drop (a.toNat + List.length (bytM v w.toNat)) m) := by kernel_rfl
theorem vc_l1Bytes_eq (k : Nat) (v n : Int) : vc_l1Bytes k v n = (
 ((n == (0 : Int)) = true → (0 : Nat) = (0 : Nat) ∧ List.length (bytM v n.toNat) = (0 : Nat) ∧ bytM v n.toNat = []) ∧
   ((n == (0 : Int)) = false →
     (256 : Int) ≠ (0 : Int) ∧
       (256 : Int) ≠ (0 : Int) ∧
         (U64 (IntKind.u64.wrap (v.tdiv (256 : Int))) ∧
             (0 : PmT [i64]) ≤ IntKind.i64.wrap (n - (1 : Int)) ∧ IntKind.i64.wrap (n - (1 : Int)) ≤ (8 : PmT [i64]) ∧ (IntKind.i64.wrap (n - (1 : Int))).toNat < k) ∧
           ((0 : Nat) + List.length (bytM (IntKind.u64.wrap (v.tdiv (256 : Int))) (IntKind.i64.wrap (n - (1 : Int))).toNat) ≤
                 List.length (bytM (IntKind.u64.wrap (v.tdiv (256 : Int))) (IntKind.i64.wrap (n - (1 : Int))).toNat) ∧
               (1 : Nat) ≤ [IntKind.u8.wrap (v.tmod (256 : Int))].length ∧
                 (1 : Nat) +
                     (List.take (List.length (bytM (IntKind.u64.wrap (v.tdiv (256 : Int))) (IntKind.i64.wrap (n - (1 : Int))).toNat))
                         (List.drop (0 : Nat) (bytM (IntKind.u64.wrap (v.tdiv (256 : Int))) (IntKind.i64.wrap (n - (1 : Int))).toNat))).length ≤
                   (1073741824 : Nat)) ∧
             (0 : Nat) = (0 : Nat) ∧
               List.length (bytM v n.toNat) =
                   (1 : Nat) +
                     (List.take (List.length (bytM (IntKind.u64.wrap (v.tdiv (256 : Int))) (IntKind.i64.wrap (n - (1 : Int))).toNat))
                         (List.drop (0 : Nat) (bytM (IntKind.u64.wrap (v.tdiv (256 : Int))) (IntKind.i64.wrap (n - (1 : Int))).toNat))).length ∧
                 bytM v n.toNat =
                   List.take (1 : Nat) [IntKind.u8.wrap (v.tmod (256 : Int))] ++
                     List.take (List.length (bytM (IntKind.u64.wrap (v.tdiv (256 : Int))) (IntKind.i64.wrap (n - (1 : Int))).toNat))
                       (List.drop (0 : Nat) (bytM (IntKind.u64.wrap (v.tdiv (256 : Int))) (IntKind.i64.wrap (n - (1 : Int))).toNat)))) := by kernel_rfl
theorem vc_l1Put_eq (m : By) (a : Int) (b : By) : vc_l1Put m a b = (
 ((0 : Int) ≤ (0 : Int) ∧ (0 : Int) ≤ a ∧ a ≤ (↑(List.length m) : Int)) ∧
   ((0 : Nat) + Int.toNat (0 : Int) + (a.toNat - Int.toNat (0 : Int)) ≤ List.length m ∧
       (0 : Nat) ≤ (0 : Nat) ∧ (0 : Nat) + (List.take (a.toNat - Int.toNat (0 : Int)) (List.drop ((0 : Nat) + Int.toNat (0 : Int)) m)).length ≤ (1073741824 : Nat)) ∧
     ((0 : Nat) + List.length b ≤ List.length b ∧
         (0 : Nat) + (List.take (a.toNat - Int.toNat (0 : Int)) (List.drop ((0 : Nat) + Int.toNat (0 : Int)) m)).length ≤
             ([] ++ List.take (a.toNat - Int.toNat (0 : Int)) (List.drop ((0 : Nat) + Int.toNat (0 : Int)) m)).length ∧
           (0 : Nat) + (List.take (a.toNat - Int.toNat (0 : Int)) (List.drop ((0 : Nat) + Int.toNat (0 : Int)) m)).length + (List.take (List.length b) (List.drop (0 : Nat) b)).length ≤
             (1073741824 : Nat)) ∧
       ((0 : Int) ≤ IntKind.i64.wrap (a + (↑(List.length b) : Int)) ∧ IntKind.i64.wrap (a + (↑(List.length b) : Int)) ≤ (↑(List.length m) : Int) ∧ (↑(List.length m) : Int) ≤ (↑(List.length m) : Int)) ∧
         ((0 : Nat) + (IntKind.i64.wrap (a + (↑(List.length b) : Int))).toNat + ((↑(List.length m) : Int).toNat - (IntKind.i64.wrap (a + (↑(List.length b) : Int))).toNat) ≤ List.length m ∧
             (0 : Nat) + (List.take (a.toNat - Int.toNat (0 : Int)) (List.drop ((0 : Nat) + Int.toNat (0 : Int)) m)).length + (List.take (List.length b) (List.drop (0 : Nat) b)).length ≤
                 (List.take ((0 : Nat) + (List.take (a.toNat - Int.toNat (0 : Int)) (List.drop ((0 : Nat) + Int.toNat (0 : Int)) m)).length)
                       ([] ++ List.take (a.toNat - Int.toNat (0 : Int)) (List.drop ((0 : Nat) + Int.toNat (0 : Int)) m)) ++
                     List.take (List.length b) (List.drop (0 : Nat) b)).length ∧
               (0 : Nat) + (List.take (a.toNat - Int.toNat (0 : Int)) (List.drop ((0 : Nat) + Int.toNat (0 : Int)) m)).length + (List.take (List.length b) (List.drop (0 : Nat) b)).length +
                   (List.take ((↑(List.length m) : Int).toNat - (IntKind.i64.wrap (a + (↑(List.length b) : Int))).toNat)
                       (List.drop ((0 : Nat) + (IntKind.i64.wrap (a + (↑(List.length b) : Int))).toNat) m)).length ≤
                 (1073741824 : Nat)) ∧
           (0 : Nat) = (0 : Nat) ∧
             (List.take a.toNat m ++ b ++ List.drop (a.toNat + List.length b) m).length =
                 (0 : Nat) + (List.take (a.toNat - Int.toNat (0 : Int)) (List.drop ((0 : Nat) + Int.toNat (0 : Int)) m)).length + (List.take (List.length b) (List.drop (0 : Nat) b)).length +
                   (List.take ((↑(List.length m) : Int).toNat - (IntKind.i64.wrap (a + (↑(List.length b) : Int))).toNat)
                       (List.drop ((0 : Nat) + (IntKind.i64.wrap (a + (↑(List.length b) : Int))).toNat) m)).length ∧
               m = m ∧
                 b = b ∧
                   List.take a.toNat m ++ b ++ List.drop (a.toNat + List.length b) m =
                     List.take
                         ((0 : Nat) + (List.take (a.toNat - Int.toNat (0 : Int)) (List.drop ((0 : Nat) + Int.toNat (0 : Int)) m)).length + (List.take (List.length b) (List.drop (0 : Nat) b)).length)
                         (List.take ((0 : Nat) + (List.take (a.toNat - Int.toNat (0 : Int)) (List.drop ((0 : Nat) + Int.toNat (0 : Int)) m)).length)
                             ([] ++ List.take (a.toNat - Int.toNat (0 : Int)) (List.drop ((0 : Nat) + Int.toNat (0 : Int)) m)) ++
                           List.take (List.length b) (List.drop (0 : Nat) b)) ++
                       List.take ((↑(List.length m) : Int).toNat - (IntKind.i64.wrap (a + (↑(List.length b) : Int))).toNat)
                         (List.drop ((0 : Nat) + (IntKind.i64.wrap (a + (↑(List.length b) : Int))).toNat) m)) := by kernel_rfl
theorem vc_clone_eq (m : By) : vc_clone m = (
 (List.length m = (0 : Nat) → (0 : Nat) = (0 : Nat) ∧ List.length m = (0 : Nat) ∧ m = m ∧ m = []) ∧
   ((0 : Nat) + List.length m ≤ List.length m ∧ (0 : Nat) ≤ (0 : Nat) ∧ (0 : Nat) + (List.take (List.length m) (List.drop (0 : Nat) m)).length ≤ (1073741824 : Nat)) ∧
     (0 : Nat) = (0 : Nat) ∧ List.length m = (0 : Nat) + (List.take (List.length m) (List.drop (0 : Nat) m)).length ∧ m = m ∧ m = [] ++ List.take (List.length m) (List.drop (0 : Nat) m)) := by kernel_rfl
theorem vc_toBy_r_eq (m : By) (i : Nat) : vc_toBy_r m i = (
 (decide ((↑i : Int) < (↑(List.length m) : Int)) = true →
     ((0 : Int) ≤ (↑i : Int) ∧ (↑i : Int) < (↑(List.length m) : Int)) ∧
       (0 : Nat) + (↑i : Int).toNat < List.length m ∧
         ((0 : Int) ≤ (↑i : Int) ∧ (↑i : Int) < (↑(List.length m) : Int)) ∧
           (0 : Nat) + (↑i : Int).toNat < (List.take i m ++ List.replicate (List.length m - i) (0 : Int)).length ∧
             ∃ (y : Nat),
               ((0 : Nat) = (0 : Nat) ∧
                   List.length m = List.length m ∧
                     (0 : Nat) = (0 : Nat) ∧
                       List.length m = List.length m ∧
                         (↑y : Int) = IntKind.i64.wrap ((↑i : Int) + (1 : Int)) ∧
                           m = m ∧
                             List.take y m ++ List.replicate (List.length m - y) (0 : Int) =
                               (List.take i m ++ List.replicate (List.length m - i) (0 : Int)).set ((0 : Nat) + (↑i : Int).toNat)
                                 (List.getD m ((0 : Nat) + (↑i : Int).toNat) (El.zero [Ty.i IntKind.u8]))) ∧
                 y ≤ List.length m ∧ List.length m - y < List.length m - i ∧ ∀ (z : Unit), True → True) ∧
   (decide ((↑i : Int) < (↑(List.length m) : Int)) = false →
     ∃ (z : Unit), ((0 : Nat) = (0 : Nat) ∧ List.length m = List.length m ∧ m = m ∧ m = List.take i m ++ List.replicate (List.length m - i) (0 : Int)) ∧ True)) := by kernel_rfl
theorem vc_toBy_eq (m : By) : vc_toBy m = (
 ((0 : Int) ≤ (↑(List.length m) : Int) ∧ (↑(List.length m) : Int) ≤ (↑(List.length m) : Int) ∧ (↑(List.length m) : Int) ≤ (4294967296 : Int)) ∧
   ∃ (x : Nat),
     ((0 : Nat) = (0 : Nat) ∧
         List.length m = List.length m ∧
           (0 : Nat) = (0 : Nat) ∧
             List.length m = (↑(List.length m) : Int).toNat ∧
               (↑x : Int) = (0 : Int) ∧ m = m ∧ List.take x m ++ List.replicate (List.length m - x) (0 : Int) = List.replicate (↑(List.length m) : Int).toNat (El.zero [Ty.i IntKind.u8])) ∧
       x ≤ List.length m ∧ ∀ (z : Unit), True → (0 : Nat) = (0 : Nat) ∧ List.length m = List.length m ∧ m = m ∧ m = m) := by kernel_rfl
theorem vc_eqBy_r_eq (m n : By) (i : Nat) : vc_eqBy_r m n i = (
 (decide ((↑i : Int) < (↑(List.length m) : Int)) = true →
     ((0 : Int) ≤ (↑i : Int) ∧ (↑i : Int) < (↑(List.length m) : Int)) ∧
       (0 : Nat) + (↑i : Int).toNat < List.length m ∧
         ((0 : Int) ≤ (↑i : Int) ∧ (↑i : Int) < (↑(List.length n) : Int)) ∧
           (0 : Nat) + (↑i : Int).toNat < List.length n ∧
             ((List.getD m ((0 : Nat) + (↑i : Int).toNat) (El.zero [Ty.i IntKind.u8]) != List.getD n ((0 : Nat) + (↑i : Int).toNat) (El.zero [Ty.i IntKind.u8])) = true → False) ∧
               ((List.getD m ((0 : Nat) + (↑i : Int).toNat) (El.zero [Ty.i IntKind.u8]) != List.getD n ((0 : Nat) + (↑i : Int).toNat) (El.zero [Ty.i IntKind.u8])) = false →
                 ∃ (y : Nat),
                   ((0 : Nat) = (0 : Nat) ∧
                       List.length m = List.length m ∧ (0 : Nat) = (0 : Nat) ∧ List.length n = List.length n ∧ (↑y : Int) = IntKind.i64.wrap ((↑i : Int) + (1 : Int)) ∧ m = m ∧ n = n) ∧
                     y ≤ List.length m ∧ List.length m - y < List.length m - i ∧ ∀ (z : Unit), True → True)) ∧
   (decide ((↑i : Int) < (↑(List.length m) : Int)) = false → ∃ (z : Unit), (m = m ∧ n = n) ∧ True)) := by kernel_rfl
theorem vc_eqBy_eq (m n : By) : vc_eqBy m n = (
 (((↑(List.length m) : Int) != (↑(List.length n) : Int)) = true → true = false ∧ m = m ∧ n = n) ∧
   (((↑(List.length m) : Int) != (↑(List.length n) : Int)) = false →
     ∃ (x : Nat),
       ((0 : Nat) = (0 : Nat) ∧ List.length m = List.length m ∧ (0 : Nat) = (0 : Nat) ∧ List.length n = List.length n ∧ (↑x : Int) = (0 : Int) ∧ m = m ∧ n = n) ∧
         x ≤ List.length m ∧ ∀ (z : Unit), True → true = true ∧ m = m ∧ n = n)) := by kernel_rfl
theorem vc_markBy_r_eq (m : By) (k : Int) (i : Nat) : vc_markBy_r m k i = (
 (decide ((↑i : Int) < (↑(List.length m) : Int)) = true →
     ((0 : Int) ≤ (↑i : Int) ∧ (↑i : Int) < (↑(List.length m) : Int)) ∧
       (0 : Nat) + (↑i : Int).toNat < List.length (markM k i ++ List.drop i m) ∧
         ∃ (y : Nat),
           ((0 : Nat) = (0 : Nat) ∧
               List.length m = List.length m ∧
                 k + (↑y : Int) = IntKind.i64.wrap (k + (↑i : Int) + (1 : Int)) ∧
                   (↑y : Int) = IntKind.i64.wrap ((↑i : Int) + (1 : Int)) ∧
                     markM k y ++ List.drop y m = List.set (markM k i ++ List.drop i m) ((0 : Nat) + (↑i : Int).toNat) (IntKind.u8.wrap (k + (↑i : Int)))) ∧
             y ≤ List.length m ∧ List.length m - y < List.length m - i ∧ ∀ (z : Unit), True → True) ∧
   (decide ((↑i : Int) < (↑(List.length m) : Int)) = false → ∃ (z : Unit), (k + (↑(List.length m) : Int) = k + (↑i : Int) ∧ markM k (List.length m) = markM k i ++ List.drop i m) ∧ True)) := by kernel_rfl
theorem vc_markBy_eq (m : By) (k : Int) : vc_markBy m k = (
 ∃ (x : Nat),
   ((0 : Nat) = (0 : Nat) ∧ List.length m = List.length m ∧ k + (↑x : Int) = k ∧ (↑x : Int) = (0 : Int) ∧ markM k x ++ List.drop x m = m) ∧
     x ≤ List.length m ∧ ∀ (z : Unit), True → k + (↑(List.length m) : PmT [i64]) = k + (↑(List.length m) : Int) ∧ markM k (List.length m) = markM k (List.length m)) := by kernel_rfl
theorem vc_heldBy_r_eq (m : By) (k : Int) (i : Nat) : vc_heldBy_r m k i = (
 (decide ((↑i : Int) < (↑(List.length m) : Int)) = true →
     ((0 : Int) ≤ (↑i : Int) ∧ (↑i : Int) < (↑(List.length m) : Int)) ∧
       (0 : Nat) + (↑i : Int).toNat < List.length m ∧
         ((List.getD m ((0 : Nat) + (↑i : Int).toNat) (El.zero [Ty.i IntKind.u8]) != IntKind.u8.wrap (k + (↑i : Int))) = true → False) ∧
           ((List.getD m ((0 : Nat) + (↑i : Int).toNat) (El.zero [Ty.i IntKind.u8]) != IntKind.u8.wrap (k + (↑i : Int))) = false →
             ∃ (y : Nat),
               ((0 : Nat) = (0 : Nat) ∧
                   List.length m = List.length m ∧ k + (↑y : Int) = IntKind.i64.wrap (k + (↑i : Int) + (1 : Int)) ∧ (↑y : Int) = IntKind.i64.wrap ((↑i : Int) + (1 : Int)) ∧ m = m) ∧
                 y ≤ List.length m ∧ List.length m - y < List.length m - i ∧ ∀ (z : Unit), True → True)) ∧
   (decide ((↑i : Int) < (↑(List.length m) : Int)) = false → ∃ (z : Unit), (k + (↑(List.length m) : Int) = k + (↑i : Int) ∧ m = m) ∧ True)) := by kernel_rfl
theorem vc_heldBy_eq (m : By) (k : Int) : vc_heldBy m k = (
 ∃ (x : Nat),
   ((0 : Nat) = (0 : Nat) ∧ List.length m = List.length m ∧ k + (↑x : Int) = k ∧ (↑x : Int) = (0 : Int) ∧ m = m) ∧
     x ≤ List.length m ∧ ∀ (z : Unit), True → k + (↑(List.length m) : PmT [i64]) = k + (↑(List.length m) : Int) ∧ m = m) := by kernel_rfl
end Go.Proofs.Ytfiddfbagbaofaa.V
namespace Go.Proofs.Ytfiddfbagbaofaa.V
open Go
set_option linter.unusedSimpArgs false

theorem fill_set {α : Type} (m : List α) (z d : α) {i : Nat} (h : i < m.length) : (m.take i ++ List.replicate (m.length - i) z).set i (m.getD i d) = m.take (i + 1) ++ List.replicate (m.length - (i + 1)) z := by
  have e : m.getD i d = m[i] := by rw [List.getD_eq_getElem?_getD, List.getElem?_eq_getElem h]; rfl
  have e2 : List.replicate (m.length - i) z = z :: List.replicate (m.length - (i + 1)) z := by
    rw [show m.length - i = (m.length - (i + 1)) + 1 by omega, List.replicate_succ]
  have e3 : (List.take i m).length = i := by simp; omega
  have e4 := List.take_succ_eq_append_getElem h
  rw [e, e2, List.set_append_right _ _ (by omega), e3, Nat.sub_self, List.set_cons_zero, e4, List.append_assoc]
  rfl
theorem over_set {α : Type} (a m : List α) (v : α) {i : Nat} (ha : a.length = i) (h : i < m.length) : (a ++ m.drop i).set i v = (a ++ [v]) ++ m.drop (i + 1) := by
  rw [List.drop_eq_getElem_cons h, List.set_append_right _ _ (by omega), ha, Nat.sub_self, List.set_cons_zero, List.append_assoc]
  rfl
theorem markM_length (k : Int) (n : Nat) : (markM k n).length = n := by simp [markM]
theorem markM_succ (k : Int) (n : Nat) : markM k (n + 1) = markM k n ++ [(k + n) % 256] := by simp [markM, List.range_succ]
theorem markM_get (k : Int) {n i : Nat} (h : i < n) : (markM k n).getD i 0 = (k + i) % 256 := by
  unfold markM
  rw [List.getD_eq_getElem?_getD, List.getElem?_map, List.getElem?_range h]
  rfl
theorem wrap_u8 (x : Int) : IntKind.u8.wrap x = x % 256 := by rw [IntKind.wrap_u8]
theorem next_i64 {n i : Nat} (h : SzR n) (hi : i < n) : IntKind.i64.wrap ((i : Int) + 1) = ((i + 1 : Nat) : Int) := by
  unfold SzR at h
  rw [wrap_i64_in (by omega) (by omega)]
  omega

theorem goodWidth_ok : Sound Try.prog 97 (pureS [i64] [bl] (fun _ => none) gwM) := by
  refine pure_plain mixed Try.func97 (by kernel_rfl) (by kernel_rfl) F0_ok (fun (x : Int) _ => ?_)
  refine vc_by (vc_goodWidth_eq x) ?_
  simp only [Bool.cond_true_left]
  rfl
theorem inside_ok : Sound Try.prog 183 (pureS [byP, u64, i64] [bl] (fun t => some (SzR t.1.length ∧ 0 ≤ t.2.2)) (fun t => insM t.1 t.2.1 t.2.2)) := by
  refine pure_plain mixed Try.func183 (by kernel_rfl) (by kernel_rfl) F0_ok (fun t h => ?_)
  obtain ⟨m, a, n⟩ : By × Int × Int := t
  obtain ⟨h1, h2⟩ : SzR m.length ∧ 0 ≤ n := h
  unfold SzR at h1
  refine vc_by (vc_inside_eq m a n) ⟨?_, rfl⟩
  unfold insM
  by_cases g : n ≤ (m.length : Int)
  · rw [wrap_i64_in (n := (m.length : Int) - n) (by omega) (by omega), wrap_u64_in (by omega) (by omega)]
    simp [g]
  · simp [g]
theorem holds_ok : Sound Try.prog 98 (pureS [byP, u64, u64] [bl] (fun t => some (SzR t.1.length ∧ 0 ≤ t.2.2)) (fun t => insM t.1 t.2.1 t.2.2)) := by
  refine pure_plain mixed Try.func98 (by kernel_rfl) (by kernel_rfl) F0_ok (fun t h => ?_)
  obtain ⟨m, a, n⟩ : By × Int × Int := t
  obtain ⟨h1, h2⟩ : SzR m.length ∧ 0 ≤ n := h
  unfold SzR at h1
  refine vc_by (vc_holds_eq m a n) ⟨?_, rfl⟩
  unfold insM
  rw [wrap_u64_in (n := (m.length : Int)) (by omega) (by omega)]
  by_cases g : n ≤ (m.length : Int)
  · rw [wrap_u64_in (by omega) (by omega)]
    simp [g]
  · simp [g]
theorem numM_in : ∀ {m : By}, (∀ b ∈ m, 0 ≤ b ∧ b < 256) → 0 ≤ numM m ∧ numM m < 256 ^ m.length
  | [], _ => ⟨Int.le_refl _, by decide⟩
  | b :: t, h => by
    have h1 := h b List.mem_cons_self
    have h2 := numM_in (m := t) (fun x hx => h x (List.mem_cons_of_mem _ hx))
    simp only [numM, List.length_cons]
    rw [Int.pow_succ]
    omega
theorem numM_u64 {m : By} (h : ∀ b ∈ m, 0 ≤ b ∧ b < 256) (hl : m.length ≤ 8) : U64 (numM m) := by
  obtain ⟨h1, h2⟩ := numM_in h
  refine ⟨h1, Int.lt_of_lt_of_le h2 ?_⟩
  have : ∀ n : Nat, n ≤ 8 → (256 : Int) ^ n ≤ 18446744073709551616 := by decide
  exact this _ hl
theorem l1Number_ok : ∀ k : Nat, Sound Try.prog 96 (numS k)
  | 0 => pure_plain mixed Try.func96 (by kernel_rfl) (by kernel_rfl) (D := mkD [] [] []) (mkD_ok .nil .nil .nil) (fun (m : By) h => absurd h.2.2 (Nat.not_lt_zero _))
  | k + 1 => by
    refine pure_plain mixed Try.func96 (by kernel_rfl) (by kernel_rfl) (D := mkD [(96, numS k)] [] []) (mkD_ok (.cons (by kernel_rfl) (l1Number_ok k) .nil) .nil .nil) (fun (m : By) h => ?_)
    obtain ⟨h1, h2, h3⟩ : ByteR m ∧ m.length ≤ 8 ∧ m.length < k + 1 := h
    refine vc_by (vc_l1Number_eq k m) ⟨fun g => ?_, fun g => ?_⟩
    · have : m = [] := by simpa using g
      subst this
      exact ⟨rfl, rfl⟩
    · cases m with
      | nil => simp at g
      | cons b t =>
        have hb := h1.2 b List.mem_cons_self
        have ht : ∀ x ∈ t, 0 ≤ x ∧ x < 256 := fun x hx => h1.2 x (List.mem_cons_of_mem _ hx)
        have e : List.take (((b :: t).length : Int).toNat - Int.toNat 1) (List.drop (0 + Int.toNat 1) (b :: t)) = t := by simp
        have n1 := numM_u64 ht (by simp at h2; omega)
        have n2 := numM_u64 h1.2 h2
        have hs : SzR t.length := by have := h1.1; unfold SzR at this ⊢; simp at this; omega
        rw [e]
        simp only [List.length_cons] at h2 h3 ⊢
        refine ⟨⟨by omega, by omega⟩, by simp, ⟨by omega, by omega, by omega⟩, ⟨by simp; omega, ⟨hs, ht⟩, by omega, by omega⟩, ?_, trivial⟩
        have e2 : List.getD (b :: t) (0 + Int.toNat 0) (El.zero [Ty.i IntKind.u8]) = b := rfl
        rw [e2]
        have n2 : U64 (b + 256 * numM t) := n2
        show b + 256 * numM t = _
        unfold U64 at n1 n2
        rw [IntKind.wrap_u64, IntKind.wrap_u64, IntKind.wrap_u64]
        omega
theorem number_ok : Sound Try.prog 99 (pureS [byP, u64, u64] [u64] (fun t => some (FitR t.1 t.2.1 t.2.2)) (fun t => numM ((t.1.drop t.2.1.toNat).take t.2.2.toNat))) := by
  refine pure_loop mixed Try.func99 (by kernel_rfl) (b := loopAt Try.f99 0) (k := 3) (by kernel_rfl) (by kernel_rfl) (by kernel_rfl) F0_ok (fun t h => ?_)
  obtain ⟨m, a, w⟩ : By × Int × Int := t
  obtain ⟨⟨hs, hb⟩, h1, h2, h3, h4⟩ : FitR m a w := h
  unfold SzR at hs
  refine ⟨.one 3 (numL m a w), numL m a w, fun i : Int => i.toNat, one_loop _ _, fun (i : Int) hi => vc_by (vc_number_r_eq m a w i) ?_, vc_by (vc_number_eq m a w) ?_⟩
  · obtain ⟨hi0, hi1⟩ : 0 ≤ i ∧ i ≤ w := hi
    refine ⟨fun g => ?_, fun g => ?_⟩
    · have g : i > 0 := of_decide_eq_true g
      have e1 : IntKind.u64.wrap (IntKind.u64.wrap (a + i) - 1) = a + i - 1 := by
        rw [wrap_u64_in (n := a + i) (by omega) (by omega), wrap_u64_in (by omega) (by omega)]
      have e2 : IntKind.u64.wrap (i - 1) = i - 1 := wrap_u64_in (by omega) (by omega)
      rw [e1, e2]
      refine ⟨by decide, ⟨by omega, by omega⟩, by omega, i - 1, ⟨rfl, rfl, rfl, ?_, rfl, rfl⟩, ⟨by omega, by omega⟩, by omega, fun _ _ => trivial⟩
      have hlt : (a + i - 1).toNat < m.length := by omega
      have hsub : ∀ b ∈ List.take (w - i).toNat (List.drop (a + i).toNat m), 0 ≤ b ∧ b < 256 := fun b hb' => hb b (List.mem_of_mem_drop (List.mem_of_mem_take hb'))
      have hn := numM_in hsub
      have hlen : (List.take (w - i).toNat (List.drop (a + i).toNat m)).length ≤ 7 := by rw [List.length_take]; omega
      have hp : (256 : Int) ^ (List.take (w - i).toNat (List.drop (a + i).toNat m)).length ≤ 72057594037927936 := by
        have : ∀ n : Nat, n ≤ 7 → (256 : Int) ^ n ≤ 72057594037927936 := by decide
        exact this _ hlen
      have e3 : List.take (w - (i - 1)).toNat (List.drop (a + (i - 1)).toNat m) = m[(a + i - 1).toNat] :: List.take (w - i).toNat (List.drop (a + i).toNat m) := by
        rw [show (a + (i - 1)).toNat = (a + i - 1).toNat by omega, List.drop_eq_getElem_cons hlt, show (w - (i - 1)).toNat = (w - i).toNat + 1 by omega, List.take_succ_cons, show (a + i - 1).toNat + 1 = (a + i).toNat by omega]
      have hbv := hb m[(a + i - 1).toNat] (List.getElem_mem hlt)
      have e4 : List.getD m (0 + (a + i - 1).toNat) (El.zero [Ty.i IntKind.u8]) = m[(a + i - 1).toNat] := by
        rw [Nat.zero_add, List.getD_eq_getElem?_getD, List.getElem?_eq_getElem hlt]; rfl
      rw [e3, e4]
      generalize List.take (w - i).toNat (List.drop (a + i).toNat m) = r at *
      generalize m[(a + i - 1).toNat] = b at *
      have e5 : (2 : Int) ^ min (Int.toNat 8) 64 = 256 := by decide
      rw [e5, wrap_u64_in (n := numM r * 256) (by omega) (by omega), wrap_u64_in (n := b) (by omega) (by omega), or_join 8 (by omega) (by rw [show (2 : Int) ^ 8 = 256 by decide]; omega) (by omega) (by omega) (by rw [show (2 : Int) ^ 8 = 256 by decide]; omega) (by omega)]
      show b + 256 * numM r = _
      omega
    · have g : ¬ i > 0 := of_decide_eq_false g
      have : i = 0 := by omega
      subst this
      exact ⟨(), ⟨by rw [Int.add_zero, Int.sub_zero], rfl⟩, trivial⟩
  · refine ⟨w, ⟨rfl, rfl, rfl, ?_, rfl, rfl⟩, ⟨by omega, by omega⟩, fun _ _ => ⟨rfl, rfl⟩⟩
    rw [Int.sub_self]
    simp [numM]
theorem bytM_length : ∀ (v : Int) (n : Nat), (bytM v n).length = n
  | _, 0 => rfl
  | v, n + 1 => by simp [bytM, bytM_length (v / 256) n]
theorem bytM_snoc : ∀ (v : Int) (n : Nat), bytM v (n + 1) = bytM v n ++ [v / 2 ^ (8 * n) % 256]
  | v, 0 => by simp [bytM]
  | v, n + 1 => by
    have e : v / 256 / 2 ^ (8 * n) = v / 2 ^ (8 * (n + 1)) := by
      rw [Int.ediv_ediv_of_nonneg (by decide), show 8 * (n + 1) = 8 + 8 * n by omega, Int.pow_add]
      rfl
    rw [bytM, bytM_snoc (v / 256) n, e]
    rfl
theorem putM_length {m b : By} {a : Nat} (h : a + b.length ≤ m.length) : (putM m a b).length = m.length := by
  unfold putM
  simp
  omega
theorem putM_set {m b : By} {a : Nat} (v : Int) (h : a + b.length < m.length) : (putM m a b).set (a + b.length) v = putM m a (b ++ [v]) := by
  unfold putM
  have hl : (List.take a m ++ b).length = a + b.length := by simp; omega
  rw [List.set_append_right _ _ (by omega), hl, Nat.sub_self, List.drop_eq_getElem_cons h]
  simp [Nat.add_assoc]
theorem set_ok : Sound Try.prog 103 (mutS [byP, u64, u64, u64] [] (fun t => some (FitR t.1 t.2.1 t.2.2.1 ∧ U64 t.2.2.2)) (fun t => ((putM t.1 t.2.1.toNat (bytM t.2.2.2 t.2.2.1.toNat), t.2), ()))) := by
  refine mut_loop mixed Try.func103 (by kernel_rfl) (b := loopAt Try.f103 0) (k := 1) (by kernel_rfl) (by kernel_rfl) (by kernel_rfl) F0_ok (fun t h => ?_)
  obtain ⟨m, a, w, v⟩ : By × Int × Int × Int := t
  obtain ⟨⟨⟨hs, hb⟩, h1, h2, h3, h4⟩, h5⟩ : FitR m a w ∧ U64 v := h
  unfold SzR at hs
  refine ⟨.one 1 (setL m a w v), setL m a w v, fun i : Nat => w.toNat - i, one_loop _ _, fun (i : Nat) hi => vc_by (vc_set_r_eq m a w v i) ?_, vc_by (vc_set_eq m a w v) ?_⟩
  · have hi : (i : Int) ≤ w := hi
    refine ⟨fun g => ?_, fun g => ?_⟩
    · have g : (i : Int) < w := of_decide_eq_true g
      have hl := bytM_length v i
      have hp : (putM m a.toNat (bytM v i)).length = m.length := putM_length (by omega)
      have e1 : IntKind.u64.wrap (a + i) = a + i := wrap_u64_in (by omega) (by omega)
      have e2 : IntKind.u64.wrap (8 * (i : Int)) = 8 * i := wrap_u64_in (by omega) (by omega)
      have e3 : IntKind.u64.wrap ((i : Int) + 1) = ((i + 1 : Nat) : Int) := by rw [wrap_u64_in (by omega) (by omega)]; omega
      rw [e1, e2, e3]
      refine ⟨by omega, ⟨by omega, by omega⟩, ?_, i + 1, ⟨rfl, rfl, rfl, rfl, rfl, rfl, ?_⟩, by omega, by omega, fun _ _ => trivial⟩
      · change 0 + (a + (i : Int)).toNat < (putM m a.toNat (bytM v i)).length
        rw [hp]; omega
      · change putM m a.toNat (bytM v (i + 1)) = (putM m a.toNat (bytM v i)).set (0 + (a + (i : Int)).toNat) _
        rw [show 0 + (a + (i : Int)).toNat = a.toNat + (bytM v i).length by omega, putM_set _ (by omega), bytM_snoc, wrap_u8, show min (8 * (i : Int)).toNat 64 = 8 * i by omega]
    · have g : ¬ (i : Int) < w := of_decide_eq_false g
      have : i = w.toNat := by omega
      subst this
      exact ⟨(), rfl, trivial⟩
  · refine ⟨0, ⟨rfl, rfl, rfl, rfl, rfl, rfl, ?_⟩, by omega, fun _ _ => rfl⟩
    simp [bytM]
theorem l1Bytes_ok : ∀ k : Nat, Sound Try.prog 101 (bytS k)
  | 0 => pure_plain mixed Try.func101 (by kernel_rfl) (by kernel_rfl) (D := mkD [] [] []) (mkD_ok .nil .nil .nil) (fun (t : Int × Int) h => absurd h.2.2.2 (Nat.not_lt_zero _))
  | k + 1 => by
    refine pure_plain mixed Try.func101 (by kernel_rfl) (by kernel_rfl) (D := mkD [(101, bytS k)] [] []) (mkD_ok (.cons (by kernel_rfl) (l1Bytes_ok k) .nil) .nil .nil) (fun t h => ?_)
    obtain ⟨v, n⟩ : Int × Int := t
    obtain ⟨h1, h2, h3, h4⟩ : U64 v ∧ 0 ≤ n ∧ n ≤ 8 ∧ n.toNat < k + 1 := h
    refine vc_by (vc_l1Bytes_eq k v n) ⟨fun g => ?_, fun g => ?_⟩
    · have : n = 0 := by simpa using g
      subst this
      exact ⟨rfl, rfl, rfl⟩
    · have g : n ≠ 0 := by simpa using g
      have hv := div_U64 8 h1
      have e1 : IntKind.u64.wrap (v.tdiv 256) = v / 256 := by rw [tdiv_pos h1.1]; exact wrap_u64_in hv.1 hv.2
      have e2 : IntKind.i64.wrap (n - 1) = n - 1 := wrap_i64_in (by omega) (by omega)
      have e3 : IntKind.u8.wrap (v.tmod 256) = v % 256 := by rw [wrap_u8, tmod_pos h1.1]; omega
      have e4 : bytM v n.toNat = v % 256 :: bytM (v / 256) (n - 1).toNat := by rw [show n.toNat = (n - 1).toNat + 1 by omega, bytM]
      have hl := bytM_length (v / 256) (n - 1).toNat
      have e5 : List.take (List.length (bytM (v / 256) (n - 1).toNat)) (List.drop 0 (bytM (v / 256) (n - 1).toNat)) = bytM (v / 256) (n - 1).toNat := by simp
      rw [e1, e2, e3, e4, e5]
      exact ⟨by decide, by decide, ⟨hv, by show (0 : Int) ≤ n - 1; omega, by show n - 1 ≤ (8 : Int); omega, by omega⟩, ⟨by omega, Nat.le_refl _, by omega⟩, rfl, by rw [List.length_cons]; omega, rfl⟩
theorem l1Put_ok : Sound Try.prog 100 (pureS [byP, i64, byP] [byP] (fun t => some (SzR t.1.length ∧ 0 ≤ t.2.1 ∧ t.2.1 + t.2.2.length ≤ t.1.length)) (fun t => putM t.1 t.2.1.toNat t.2.2)) := by
  refine pure_plain mixed Try.func100 (by kernel_rfl) (by kernel_rfl) F0_ok (fun t h => ?_)
  obtain ⟨m, a, b⟩ : By × Int × By := t
  obtain ⟨h1, h2, h3⟩ : SzR m.length ∧ 0 ≤ a ∧ a + b.length ≤ m.length := h
  unfold SzR at h1
  refine vc_by (vc_l1Put_eq m a b) ?_
  have e : IntKind.i64.wrap (a + (b.length : Int)) = a + b.length := wrap_i64_in (by omega) (by omega)
  have e2 : (a + (b.length : Int)).toNat = a.toNat + b.length := by omega
  have e3 : List.take (List.length b) (List.drop 0 b) = b := by simp
  have e4 : List.take (a.toNat - Int.toNat 0) (List.drop (0 + Int.toNat 0) m) = List.take a.toNat m := rfl
  have e5 : List.take ((m.length : Int).toNat - (a.toNat + b.length)) (List.drop (0 + (a.toNat + b.length)) m) = List.drop (a.toNat + b.length) m := by
    rw [Nat.zero_add]; exact List.take_of_length_le (by simp <;> omega)
  have e6 : (List.take a.toNat m).length = a.toNat := by simp; omega
  rw [e, e2, e3, e4, e5]
  simp only [List.length_append, e6, List.nil_append, List.length_drop, Nat.zero_add]
  have e7 : List.take a.toNat (List.take a.toNat m) = List.take a.toNat m := by rw [List.take_take, Nat.min_self]
  have e8 : List.take (a.toNat + b.length) (List.take a.toNat m ++ b) = List.take a.toNat m ++ b := List.take_of_length_le (by rw [List.length_append, e6]; exact Nat.le_refl _)
  rw [e7, e8]
  refine ⟨⟨by omega, by omega, by omega⟩, ⟨by omega, by omega, by omega⟩, ⟨by omega, by omega, by omega⟩, ⟨by omega, by omega, by omega⟩, ⟨by omega, ?_, by omega⟩, ?_, ?_, ?_, ?_, ?_⟩
  · simp [e6]
  all_goals first | trivial | rfl | omega
theorem clone_ok : Sound Try.prog 102 (pureS [byP] [byP] (fun m => some (SzR m.length)) (fun m => m)) := by
  refine pure_plain mixed Try.func102 (by kernel_rfl) (by kernel_rfl) F0_ok (fun (m : By) h => ?_)
  have h : SzR m.length := h
  unfold SzR at h
  refine vc_by (vc_clone_eq m) ⟨fun g => ⟨rfl, g, rfl, List.length_eq_zero_iff.1 g⟩, ⟨by omega, by omega, by simp; omega⟩, rfl, by simp, rfl, by simp⟩
theorem toBy_ok : Sound Try.prog 30 (pureS [byP] [byP] (fun m => some (SzR m.length)) (fun m => m)) := by
  refine pure_loop mixed Try.func30 (by kernel_rfl) (b := loopAt Try.f30 0) (k := 3) (by kernel_rfl) (by kernel_rfl) (by kernel_rfl) F0_ok (fun (m : By) h => ?_)
  have h : SzR m.length := h
  have hs : m.length ≤ 2097152 := h
  refine ⟨.one 3 (toByL m), toByL m, fun i : Nat => m.length - i, one_loop _ _, fun (i : Nat) hi => vc_by (vc_toBy_r_eq m i) ?_, vc_by (vc_toBy_eq m) ?_⟩
  · have hi : i ≤ m.length := hi
    refine ⟨fun g => ?_, fun g => ?_⟩
    · have g : (i : Int) < m.length := of_decide_eq_true g
      rw [next_i64 h (by omega), show 0 + (i : Int).toNat = i by omega, fill_set _ _ _ (by omega)]
      exact ⟨⟨by omega, by omega⟩, by omega, ⟨by omega, by omega⟩, by simp; omega, i + 1, ⟨rfl, rfl, rfl, rfl, rfl, rfl, rfl⟩, by omega, by omega, fun _ _ => trivial⟩
    · have g : ¬ (i : Int) < m.length := of_decide_eq_false g
      have : i = m.length := by omega
      subst this
      exact ⟨(), ⟨rfl, rfl, rfl, by simp⟩, trivial⟩
  · exact ⟨⟨by omega, by omega, by omega⟩, 0, ⟨rfl, rfl, rfl, by omega, rfl, rfl, by simp [El.zero, Ty.zero]⟩, by omega, fun _ _ => ⟨rfl, rfl, rfl, rfl⟩⟩
theorem eqBy_ok : Sound Try.prog 33 (pureS [byP, byP] [bl] (fun t => some (t.1 = t.2 ∧ SzR t.1.length)) (fun _ => true)) := by
  refine pure_loop mixed Try.func33 (by kernel_rfl) (b := loopAt Try.f33 0) (k := 4) (by kernel_rfl) (by kernel_rfl) (by kernel_rfl) F0_ok (fun t h => ?_)
  obtain ⟨m, n⟩ : By × By := t
  obtain ⟨h0, h⟩ : m = n ∧ SzR m.length := h
  subst h0
  have hs : m.length ≤ 2097152 := h
  refine ⟨.one 4 (eqByL m m), eqByL m m, fun i : Nat => m.length - i, one_loop _ _, fun (i : Nat) hi => vc_by (vc_eqBy_r_eq m m i) ?_, vc_by (vc_eqBy_eq m m) ?_⟩
  · have hi : i ≤ m.length := hi
    refine ⟨fun g => ?_, fun g => ⟨(), ⟨rfl, rfl⟩, trivial⟩⟩
    have g : (i : Int) < m.length := of_decide_eq_true g
    rw [next_i64 h (by omega)]
    exact ⟨⟨by omega, by omega⟩, by omega, ⟨by omega, by omega⟩, by omega, fun e => by simp at e, fun _ => ⟨i + 1, ⟨rfl, rfl, rfl, rfl, rfl, rfl, rfl⟩, by omega, by omega, fun _ _ => trivial⟩⟩
  · exact ⟨fun e => by simp at e, fun _ => ⟨0, ⟨rfl, rfl, rfl, rfl, rfl, rfl, rfl⟩, by omega, fun _ _ => ⟨rfl, rfl, rfl⟩⟩⟩
theorem markBy_ok : Sound Try.prog 36 (mutS [byP, i64] [i64] (fun t => some (MarkR t.1.length t.2)) (fun t => ((markM t.2 t.1.length, t.2), t.2 + t.1.length))) := by
  refine mut_loop mixed Try.func36 (by kernel_rfl) (b := loopAt Try.f36 0) (k := 2) (by kernel_rfl) (by kernel_rfl) (by kernel_rfl) F0_ok (fun t h => ?_)
  obtain ⟨m, k⟩ : By × Int := t
  obtain ⟨h, h1, h2⟩ : MarkR m.length k := h
  have hs : m.length ≤ 2097152 := h
  refine ⟨.one 2 (markByL m k), markByL m k, fun i : Nat => m.length - i, one_loop _ _, fun (i : Nat) hi => vc_by (vc_markBy_r_eq m k i) ?_, vc_by (vc_markBy_eq m k) ?_⟩
  · have hi : i ≤ m.length := hi
    refine ⟨fun g => ?_, fun g => ?_⟩
    · have g : (i : Int) < m.length := of_decide_eq_true g
      rw [next_i64 h (by omega), wrap_i64_in (n := k + i + 1) (by omega) (by omega), show 0 + (i : Int).toNat = i by omega, over_set _ _ _ (markM_length k i) (by omega), wrap_u8]
      exact ⟨⟨by omega, by omega⟩, by simp [markM_length]; omega, i + 1, ⟨rfl, rfl, by omega, rfl, by rw [markM_succ]⟩, by omega, by omega, fun _ _ => trivial⟩
    · have g : ¬ (i : Int) < m.length := of_decide_eq_false g
      have : i = m.length := by omega
      subst this
      exact ⟨(), ⟨rfl, by simp⟩, trivial⟩
  · exact ⟨0, ⟨rfl, rfl, by simp, rfl, rfl⟩, by omega, fun _ _ => ⟨rfl, rfl⟩⟩
theorem heldBy_ok : Sound Try.prog 37 (pureS [byP, i64] [i64] (fun t => some (MarkR t.1.length t.2 ∧ t.1 = markM t.2 t.1.length)) (fun t => t.2 + t.1.length)) := by
  refine pure_loop mixed Try.func37 (by kernel_rfl) (b := loopAt Try.f37 0) (k := 2) (by kernel_rfl) (by kernel_rfl) (by kernel_rfl) F0_ok (fun t h => ?_)
  obtain ⟨m, k⟩ : By × Int := t
  obtain ⟨⟨h, h1, h2⟩, h3⟩ : MarkR m.length k ∧ m = markM k m.length := h
  have hs : m.length ≤ 2097152 := h
  refine ⟨.one 2 (heldByL m k), heldByL m k, fun i : Nat => m.length - i, one_loop _ _, fun (i : Nat) hi => vc_by (vc_heldBy_r_eq m k i) ?_, vc_by (vc_heldBy_eq m k) ?_⟩
  · have hi : i ≤ m.length := hi
    refine ⟨fun g => ?_, fun g => ?_⟩
    · have g : (i : Int) < m.length := of_decide_eq_true g
      have e : List.getD m i (El.zero [Ty.i IntKind.u8]) = (k + i) % 256 := by rw [h3]; exact markM_get k (by omega)
      rw [next_i64 h (by omega), wrap_i64_in (n := k + i + 1) (by omega) (by omega), show 0 + (i : Int).toNat = i by omega, wrap_u8, e]
      exact ⟨⟨by omega, by omega⟩, by omega, fun e => by simp at e, fun _ => ⟨i + 1, ⟨rfl, rfl, by omega, rfl, rfl⟩, by omega, by omega, fun _ _ => trivial⟩⟩
    · have g : ¬ (i : Int) < m.length := of_decide_eq_false g
      have : i = m.length := by omega
      subst this
      exact ⟨(), ⟨rfl, rfl⟩, trivial⟩
  · exact ⟨0, ⟨rfl, rfl, by simp, rfl, rfl⟩, by omega, fun _ _ => ⟨rfl, rfl⟩⟩
theorem l1Number_all : Sound Try.prog 96 (pureS [bsP] [u64] (fun m => some (ByteR m ∧ m.length ≤ 8)) numM) :=
  pureS_weaken (l1Number_ok 9) (fun (m : By) h => by have h : ByteR m ∧ m.length ≤ 8 := h; exact ⟨h.1, h.2, by omega⟩)
theorem l1Bytes_all : Sound Try.prog 101 (pureS [u64, i64] [byP] (fun t => some (U64 t.1 ∧ 0 ≤ t.2 ∧ t.2 ≤ 8)) (fun t => bytM t.1 t.2.toNat)) :=
  pureS_weaken (l1Bytes_ok 9) (fun (t : Int × Int) h => by have h : U64 t.1 ∧ 0 ≤ t.2 ∧ t.2 ≤ 8 := h; exact ⟨h.1, h.2.1, h.2.2, by omega⟩)
theorem kB1_ok : KnowsD Try.prog kB1 :=
  .cons (by kernel_rfl) goodWidth_ok <| .cons (by kernel_rfl) inside_ok <| .cons (by kernel_rfl) holds_ok <| .cons (by kernel_rfl) l1Number_all <| .cons (by kernel_rfl) number_ok <| .cons (by kernel_rfl) set_ok <|
  .cons (by kernel_rfl) l1Bytes_all <| .cons (by kernel_rfl) l1Put_ok <| .cons (by kernel_rfl) clone_ok <| .cons (by kernel_rfl) toBy_ok <| .cons (by kernel_rfl) eqBy_ok <| .cons (by kernel_rfl) markBy_ok <| .cons (by kernel_rfl) heldBy_ok .nil
end Go.Proofs.Ytfiddfbagbaofaa.V
