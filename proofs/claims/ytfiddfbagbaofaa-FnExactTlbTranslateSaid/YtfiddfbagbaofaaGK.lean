/- Records of a walk, and the reference's walk, answer as their models. Conditions: those in each statement. -/
import Derived.Test.YtfiddfbagbaofaaGJ
import Derived.KernelRfl
namespace Go.Proofs.Ytfiddfbagbaofaa.V
open Go
abbrev shR : List Ty := [.i .i64, .i .u64, .i .u64]
abbrev Rc := Int × Int × Int
abbrev Rs := List Rc
abbrev rcP : Pm := .st [.i .i64, .i .u64, .i .u64]
abbrev rsP : Pm := .one (.sl shR)
abbrev wrP : Pm := .st [.i .i64, .i .i64, .i .u64, .sl shR]
abbrev Wr := Int × Int × Int × Rs
def markR1 (k : Int) : Rc := (k, k + 1, k + 2)
def markRs (k : Int) (n : Nat) : Rs := (List.range n).map fun i : Nat => markR1 (k + 3 * (i : Int))
/-- The walk from a level on: n is the level and one. -/
def walkN (m : By) (va : Int) : Nat → Int → Wr
  | 0, _ => (2, 0, 0, [])
  | n + 1, page =>
    if (readM m (64 * page + 8 * idxM va n) 8).1 = false then (3, n, 0, [])
    else if kindM (readM m (64 * page + 8 * idxM va n) 8).2 n = 0 then (2, n, 0, [])
    else if kindM (readM m (64 * page + 8 * idxM va n) 8).2 n = 2 then (1, n, (readM m (64 * page + 8 * idxM va n) 8).2, [((n : Int), 64 * page + 8 * idxM va n, (readM m (64 * page + 8 * idxM va n) 8).2)])
    else
      ((walkN m va n (ppnM (readM m (64 * page + 8 * idxM va n) 8).2)).1, (walkN m va n (ppnM (readM m (64 * page + 8 * idxM va n) 8).2)).2.1, (walkN m va n (ppnM (readM m (64 * page + 8 * idxM va n) 8).2)).2.2.1,
        ((n : Int), 64 * page + 8 * idxM va n, (readM m (64 * page + 8 * idxM va n) 8).2) :: (walkN m va n (ppnM (readM m (64 * page + 8 * idxM va n) 8).2)).2.2.2)
def walkM (m : By) (root va : Int) : Wr := if canM va = true then walkN m va 3 (root % 17592186044416) else (2, 2, 0, [])
def FromR (m : By) (n l va : Int) : Prop := ByteR m ∧ 0 ≤ n ∧ n < 17592186044416 ∧ LvR l ∧ U64 va

/-! ### first layer -/
def vc_eqRec (a b c : Int) : Prop := vcPure Try.prog F0 .none Try.f194 [rcP, rcP] [bl] ((a, b, c), (a, b, c)) true
def vc_l3Rec (a b c : Int) : Prop := vcPure Try.prog F0 .none Try.f193 [i64, u64, u64] [rsP] (a, b, c) [(a, b, c)]
def vc_entry (m : By) (a : Int) : Prop := vcPure Try.prog FB1 .none Try.f235 [byP, u64] [u64, bl] (m, a) ((readM m a 8).2, (readM m a 8).1)
def markRL (m : Rs) (k : Int) : LoopS where
  α := Nat
  I i := i ≤ m.length
  sl i := slots 36 [(0, .sl 0 3 0 m.length), (1, .v (.int .i64 (k + 3 * (i : Int)))), (5, .v (.int .i64 i))]
  H i := [.arr shR (markRs k i ++ m.drop i) true]
  fams := [{ β := Unit, out := fun _ _ => True, ex := .ext 0, sl := fun _ => slots 36 [(1, .v (.int .i64 (k + 3 * m.length)))], H := fun _ => [.arr shR (markRs k m.length) true] }]
def markRX (m : Rs) (k : Int) : Specs := { Specs.one 2 (markRL m k) with cut := fun r => if r = 6 ∨ r = 8 ∨ r = 3 then some (CutS.mk (Int × Int × Rs) (fun z => slots 36 [(0, .sl 0 3 0 m.length), (1, .v (.int .i64 z.2.1)), (5, .v (.int .i64 z.1))]) (fun z => [.arr shR z.2.2 true])) else none }
def vc_markRs_r (m : Rs) (k : Int) (i : Nat) : Prop := vcRound Try.prog F0 (markRX m k) 1 (loopAt Try.f125 0) (markRL m k) (fun i : Nat => m.length - i) i
def vc_markRs (m : Rs) (k : Int) : Prop := vcMut Try.prog F0 (markRX m k) Try.f125 [rsP, i64] [i64] (m, k) ((markRs k m.length, k), k + 3 * m.length)
def heldRL (m : Rs) (k : Int) : LoopS where
  α := Nat
  I i := i ≤ m.length
  sl i := slots 42 [(0, .sl 0 3 0 m.length), (1, .v (.int .i64 (k + 3 * (i : Int)))), (5, .v (.int .i64 i))]
  H _ := [.arr shR m false]
  fams := [{ β := Unit, out := fun _ _ => True, ex := .ext 0, sl := fun _ => slots 42 [(1, .v (.int .i64 (k + 3 * m.length)))], H := fun _ => [.arr shR m false] }]
def vc_heldRs_r (m : Rs) (k : Int) (i : Nat) : Prop := vcRound Try.prog F0 (.one 2 (heldRL m k)) 1 (loopAt Try.f126 0) (heldRL m k) (fun i : Nat => m.length - i) i
def vc_heldRs (m : Rs) (k : Int) : Prop := vcPure Try.prog F0 (.one 2 (heldRL m k)) Try.f126 [rsP, i64] [i64] (m, k) (k + 3 * m.length)
def kK1 : Known := [
  (194, pureS [rcP, rcP] [bl] (fun t => some (t.1 = t.2)) (fun _ => true)),
  (193, pureS [i64, u64, u64] [rsP] (fun _ => none) (fun t => [t])),
  (235, pureS [byP, u64] [u64, bl] (fun t => some (ByteR t.1 ∧ U64 t.2)) (fun t => ((readM t.1 t.2 8).2, (readM t.1 t.2 8).1))),
  (125, mutS [rsP, i64] [i64] (fun t => some (MarkR t.1.length t.2)) (fun t => ((markRs t.2 t.1.length, t.2), t.2 + 3 * t.1.length))),
  (126, pureS [rsP, i64] [i64] (fun t => some (MarkR t.1.length t.2 ∧ t.1 = markRs t.2 t.1.length)) (fun t => t.2 + 3 * t.1.length))]
def FK1 : Dict := mkD (kK1 ++ kB3 ++ kA4) [] []

/-! ### second layer -/
def eqRsL (m n : Rs) : LoopS where
  α := Nat
  I i := i ≤ m.length
  sl i := slots 27 [(0, .sl 0 3 0 m.length), (1, .sl 1 3 0 n.length), (5, .v (.int .i64 i))]
  H _ := [.arr shR m false, .arr shR n false]
  fams := [{ β := Unit, out := fun _ _ => True, ex := .ext 0, sl := fun _ => slots 27 [], H := fun _ => [.arr shR m false, .arr shR n false] }]
def vc_eqRs_r (m n : Rs) (i : Nat) : Prop := vcRound Try.prog FK1 (.one 4 (eqRsL m n)) 2 (loopAt Try.f124 0) (eqRsL m n) (fun i : Nat => m.length - i) i
def vc_eqRs (m n : Rs) : Prop := vcPure Try.prog FK1 (.one 4 (eqRsL m n)) Try.f124 [rsP, rsP] [bl] (m, n) true
def vc_markWr (a b c : Int) (m : Rs) (k : Int) : Prop := vcMut Try.prog FK1 .none Try.f50 [wrP, i64] [i64] ((a, b, c, m), k) (((a, b, c, markRs k m.length), k), k + 3 * m.length)
def vc_heldWr (a b c : Int) (m : Rs) (k : Int) : Prop := vcPure Try.prog FK1 .none Try.f51 [wrP, i64] [i64] ((a, b, c, m), k) (k + 3 * m.length)
def fromS (k : Nat) : Sum := pureS [byP, u64, i64, u64] [wrP] (fun t => some (FromR t.1 t.2.1 t.2.2.1 t.2.2.2 ∧ t.2.2.1.toNat < k)) (fun t => walkN t.1 t.2.2.2 (t.2.2.1.toNat + 1) t.2.1)
def vc_from (k : Nat) (m : By) (n l va : Int) : Prop := vcPure Try.prog (mkD ((120, fromS k) :: (kK1 ++ kB3 ++ kA4)) [] []) .none Try.f120 [byP, u64, i64, u64] [wrP] (m, n, l, va) (walkN m va (l.toNat + 1) n)
def kK2 : Known := [
  (124, pureS [rsP, rsP] [bl] (fun t => some (t.1 = t.2 ∧ SzR t.1.length)) (fun _ => true)),
  (50, mutS [wrP, i64] [i64] (fun t => some (MarkR t.1.2.2.2.length t.2)) (fun t => (((t.1.1, t.1.2.1, t.1.2.2.1, markRs t.2 t.1.2.2.2.length), t.2), t.2 + 3 * t.1.2.2.2.length))),
  (51, pureS [wrP, i64] [i64] (fun t => some (MarkR t.1.2.2.2.length t.2 ∧ t.1.2.2.2 = markRs t.2 t.1.2.2.2.length)) (fun t => t.2 + 3 * t.1.2.2.2.length)),
  (120, pureS [byP, u64, i64, u64] [wrP] (fun t => some (FromR t.1 t.2.1 t.2.2.1 t.2.2.2)) (fun t => walkN t.1 t.2.2.2 (t.2.2.1.toNat + 1) t.2.1))] ++ kK1
def FK2 : Dict := mkD (kK2 ++ kB3 ++ kA4) [] []
def vc_eqWr (a b c : Int) (m : Rs) : Prop := vcPure Try.prog FK2 .none Try.f49 [wrP, wrP] [bl] ((a, b, c, m), (a, b, c, m)) true
def vc_sWalk (m : By) (root va : Int) : Prop := vcPure Try.prog FK2 .none Try.f47 [byP, u64, u64] [wrP] (m, root, va) (walkM m root va)
end Go.Proofs.Ytfiddfbagbaofaa.V
namespace Go.Proofs.Ytfiddfbagbaofaa.V
open Go
set_option linter.unusedVariables false
theorem vc_eqRec_eq (a b c : Int) : vc_eqRec a b c = (
 ((a != a) = true → true = false) ∧ ((a != a) = false → ((b != b) = true → true = false) ∧ ((b != b) = false → ((c != c) = true → true = false) ∧ ((c != c) = false → true = true)))) := by kernel_rfl
theorem vc_l3Rec_eq (a b c : Int) : vc_l3Rec a b c = (
 (0 : Nat) = (0 : Nat) ∧ [(a, b, c)].length = (1 : Nat) ∧ [(a, b, c)] = [(a, b, c)]) := by kernel_rfl
theorem vc_entry_eq (m : By) (a : Int) : vc_entry m a = (
 (List.length m = List.length m ∧ SzR (List.length m) ∧ (0 : PmT [u64]) ≤ (8 : Int)) ∧
   ((!insM m a (8 : Int)) = true → (readM m a (8 : Int)).snd = (0 : Int) ∧ (readM m a (8 : Int)).fst = false ∧ m = m) ∧
     ((!insM m a (8 : Int)) = false →
       (List.length m = List.length m ∧ FitR m a (8 : Int)) ∧ (readM m a (8 : Int)).snd = numM (List.take (Int.toNat (8 : Int)) (List.drop a.toNat m)) ∧ (readM m a (8 : Int)).fst = true ∧ m = m)) := by kernel_rfl
theorem vc_markRs_r_eq (m : Rs) (k : Int) (i : Nat) : vc_markRs_r m k i = (
 (decide ((↑i : Int) < (↑(List.length m) : Int)) = true →
     ((0 : Int) ≤ (↑i : Int) ∧ (↑i : Int) < (↑(List.length m) : Int)) ∧
       (0 : Nat) + (↑i : Int).toNat < List.length (markRs k i ++ List.drop i m) ∧
         ∃ (z : Int × Int × Rs),
           ((0 : Nat) = (0 : Nat) ∧
               List.length m = List.length m ∧
                 z.snd.fst = IntKind.i64.wrap (k + (3 : Int) * (↑i : Int) + (1 : Int)) ∧
                   z.fst = (↑i : Int) ∧
                     z.snd.snd =
                       List.set (markRs k i ++ List.drop i m) ((0 : Nat) + (↑i : Int).toNat)
                         (k + (3 : Int) * (↑i : Int), (List.getD (markRs k i ++ List.drop i m) ((0 : Nat) + (↑i : Int).toNat) (El.zero shR)).snd.fst,
                           (List.getD (markRs k i ++ List.drop i m) ((0 : Nat) + (↑i : Int).toNat) (El.zero shR)).snd.snd)) ∧
             ((0 : Int) ≤ z.fst ∧ z.fst < (↑(List.length m) : Int)) ∧
               (0 : Nat) + z.fst.toNat < List.length z.snd.snd ∧
                 ∃ (z_1 : Int × Int × Rs),
                   ((0 : Nat) = (0 : Nat) ∧
                       List.length m = List.length m ∧
                         z_1.snd.fst = IntKind.i64.wrap (z.snd.fst + (1 : Int)) ∧
                           z_1.fst = z.fst ∧
                             z_1.snd.snd =
                               List.set z.snd.snd ((0 : Nat) + z.fst.toNat)
                                 ((List.getD z.snd.snd ((0 : Nat) + z.fst.toNat) (El.zero shR)).fst, IntKind.u64.wrap z.snd.fst,
                                   (List.getD z.snd.snd ((0 : Nat) + z.fst.toNat) (El.zero shR)).snd.snd)) ∧
                     ((0 : Int) ≤ z_1.fst ∧ z_1.fst < (↑(List.length m) : Int)) ∧
                       (0 : Nat) + z_1.fst.toNat < List.length z_1.snd.snd ∧
                         ∃ (z : Int × Int × Rs),
                           ((0 : Nat) = (0 : Nat) ∧
                               List.length m = List.length m ∧
                                 z.snd.fst = IntKind.i64.wrap (z_1.snd.fst + (1 : Int)) ∧
                                   z.fst = z_1.fst ∧
                                     z.snd.snd =
                                       List.set z_1.snd.snd ((0 : Nat) + z_1.fst.toNat)
                                         ((List.getD z_1.snd.snd ((0 : Nat) + z_1.fst.toNat) (El.zero shR)).fst, (List.getD z_1.snd.snd ((0 : Nat) + z_1.fst.toNat) (El.zero shR)).snd.fst,
                                           IntKind.u64.wrap z_1.snd.fst)) ∧
                             ∃ (y : Nat),
                               ((0 : Nat) = (0 : Nat) ∧
                                   List.length m = List.length m ∧
                                     k + (3 : Int) * (↑y : Int) = z.snd.fst ∧ (↑y : Int) = IntKind.i64.wrap (z.fst + (1 : Int)) ∧ markRs k y ++ List.drop y m = z.snd.snd) ∧
                                 y ≤ List.length m ∧ List.length m - y < List.length m - i ∧ ∀ (z : Unit), True → True) ∧
   (decide ((↑i : Int) < (↑(List.length m) : Int)) = false →
     ∃ (z : Unit), (k + (3 : Int) * (↑(List.length m) : Int) = k + (3 : Int) * (↑i : Int) ∧ markRs k (List.length m) = markRs k i ++ List.drop i m) ∧ True)) := by kernel_rfl
theorem vc_markRs_eq (m : Rs) (k : Int) : vc_markRs m k = (
 ∃ (x : Nat),
   ((0 : Nat) = (0 : Nat) ∧ List.length m = List.length m ∧ k + (3 : Int) * (↑x : Int) = k ∧ (↑x : Int) = (0 : Int) ∧ markRs k x ++ List.drop x m = m) ∧
     x ≤ List.length m ∧ ∀ (z : Unit), True → k + (3 : PmT [i64]) * (↑(List.length m) : PmT [i64]) = k + (3 : Int) * (↑(List.length m) : Int) ∧ markRs k (List.length m) = markRs k (List.length m)) := by kernel_rfl
theorem vc_heldRs_r_eq (m : Rs) (k : Int) (i : Nat) : vc_heldRs_r m k i = (
 (decide ((↑i : Int) < (↑(List.length m) : Int)) = true →
     ((0 : Int) ≤ (↑i : Int) ∧ (↑i : Int) < (↑(List.length m) : Int)) ∧
       (0 : Nat) + (↑i : Int).toNat < List.length m ∧
         (((List.getD m ((0 : Nat) + (↑i : Int).toNat) (El.zero shR)).fst != k + (3 : Int) * (↑i : Int)) = true → False) ∧
           (((List.getD m ((0 : Nat) + (↑i : Int).toNat) (El.zero shR)).fst != k + (3 : Int) * (↑i : Int)) = false →
             ((0 : Int) ≤ (↑i : Int) ∧ (↑i : Int) < (↑(List.length m) : Int)) ∧
               (0 : Nat) + (↑i : Int).toNat < List.length m ∧
                 (((List.getD m ((0 : Nat) + (↑i : Int).toNat) (El.zero shR)).snd.fst != IntKind.u64.wrap (IntKind.i64.wrap (k + (3 : Int) * (↑i : Int) + (1 : Int)))) = true → False) ∧
                   (((List.getD m ((0 : Nat) + (↑i : Int).toNat) (El.zero shR)).snd.fst != IntKind.u64.wrap (IntKind.i64.wrap (k + (3 : Int) * (↑i : Int) + (1 : Int)))) = false →
                     ((0 : Int) ≤ (↑i : Int) ∧ (↑i : Int) < (↑(List.length m) : Int)) ∧
                       (0 : Nat) + (↑i : Int).toNat < List.length m ∧
                         (((List.getD m ((0 : Nat) + (↑i : Int).toNat) (El.zero shR)).snd.snd !=
                                 IntKind.u64.wrap (IntKind.i64.wrap (IntKind.i64.wrap (k + (3 : Int) * (↑i : Int) + (1 : Int)) + (1 : Int)))) =
                               true →
                             False) ∧
                           (((List.getD m ((0 : Nat) + (↑i : Int).toNat) (El.zero shR)).snd.snd !=
                                 IntKind.u64.wrap (IntKind.i64.wrap (IntKind.i64.wrap (k + (3 : Int) * (↑i : Int) + (1 : Int)) + (1 : Int)))) =
                               false →
                             ∃ (y : Nat),
                               ((0 : Nat) = (0 : Nat) ∧
                                   List.length m = List.length m ∧
                                     k + (3 : Int) * (↑y : Int) = IntKind.i64.wrap (IntKind.i64.wrap (IntKind.i64.wrap (k + (3 : Int) * (↑i : Int) + (1 : Int)) + (1 : Int)) + (1 : Int)) ∧
                                       (↑y : Int) = IntKind.i64.wrap ((↑i : Int) + (1 : Int)) ∧ m = m) ∧
                                 y ≤ List.length m ∧ List.length m - y < List.length m - i ∧ ∀ (z : Unit), True → True)))) ∧
   (decide ((↑i : Int) < (↑(List.length m) : Int)) = false → ∃ (z : Unit), (k + (3 : Int) * (↑(List.length m) : Int) = k + (3 : Int) * (↑i : Int) ∧ m = m) ∧ True)) := by kernel_rfl
theorem vc_heldRs_eq (m : Rs) (k : Int) : vc_heldRs m k = (
 ∃ (x : Nat),
   ((0 : Nat) = (0 : Nat) ∧ List.length m = List.length m ∧ k + (3 : Int) * (↑x : Int) = k ∧ (↑x : Int) = (0 : Int) ∧ m = m) ∧
     x ≤ List.length m ∧ ∀ (z : Unit), True → k + (3 : PmT [i64]) * (↑(List.length m) : PmT [i64]) = k + (3 : Int) * (↑(List.length m) : Int) ∧ m = m) := by kernel_rfl
theorem vc_eqRs_r_eq (m n : Rs) (i : Nat) : vc_eqRs_r m n i = (
 (decide ((↑i : Int) < (↑(List.length m) : Int)) = true →
     ((0 : Int) ≤ (↑i : Int) ∧ (↑i : Int) < (↑(List.length m) : Int)) ∧
       (0 : Nat) + (↑i : Int).toNat < List.length m ∧
         ((0 : Int) ≤ (↑i : Int) ∧ (↑i : Int) < (↑(List.length n) : Int)) ∧
           (0 : Nat) + (↑i : Int).toNat < List.length n ∧
             ((List.getD m ((0 : Nat) + (↑i : Int).toNat) (El.zero shR)).fst, (List.getD m ((0 : Nat) + (↑i : Int).toNat) (El.zero shR)).snd.fst,
                   (List.getD m ((0 : Nat) + (↑i : Int).toNat) (El.zero shR)).snd.snd) =
                 ((List.getD n ((0 : Nat) + (↑i : Int).toNat) (El.zero shR)).fst, (List.getD n ((0 : Nat) + (↑i : Int).toNat) (El.zero shR)).snd.fst,
                   (List.getD n ((0 : Nat) + (↑i : Int).toNat) (El.zero shR)).snd.snd) ∧
               ((!true) = true → False) ∧
                 ((!true) = false →
                   ∃ (y : Nat),
                     ((0 : Nat) = (0 : Nat) ∧
                         List.length m = List.length m ∧ (0 : Nat) = (0 : Nat) ∧ List.length n = List.length n ∧ (↑y : Int) = IntKind.i64.wrap ((↑i : Int) + (1 : Int)) ∧ m = m ∧ n = n) ∧
                       y ≤ List.length m ∧ List.length m - y < List.length m - i ∧ ∀ (z : Unit), True → True)) ∧
   (decide ((↑i : Int) < (↑(List.length m) : Int)) = false → ∃ (z : Unit), (m = m ∧ n = n) ∧ True)) := by kernel_rfl
theorem vc_eqRs_eq (m n : Rs) : vc_eqRs m n = (
 (((↑(List.length m) : Int) != (↑(List.length n) : Int)) = true → true = false ∧ m = m ∧ n = n) ∧
   (((↑(List.length m) : Int) != (↑(List.length n) : Int)) = false →
     ∃ (x : Nat),
       ((0 : Nat) = (0 : Nat) ∧ List.length m = List.length m ∧ (0 : Nat) = (0 : Nat) ∧ List.length n = List.length n ∧ (↑x : Int) = (0 : Int) ∧ m = m ∧ n = n) ∧
         x ≤ List.length m ∧ ∀ (z : Unit), True → true = true ∧ m = m ∧ n = n)) := by kernel_rfl
theorem vc_markWr_eq (a b c : Int) (m : Rs) (k : Int) : vc_markWr a b c m k = (
 (List.length m = List.length m ∧ MarkR (List.length m) k) ∧
   k + (3 : PmT [i64]) * (↑(List.length m) : PmT [i64]) = k + (3 : PmT [i64]) * (↑(List.length m) : PmT [i64]) ∧ markRs k (List.length m) = markRs k (List.length m)) := by kernel_rfl
theorem vc_heldWr_eq (a b c : Int) (m : Rs) (k : Int) : vc_heldWr a b c m k = (
 (List.length m = List.length m ∧ MarkR (List.length m) k ∧ m = markRs k (List.length m)) ∧
   (decide (k + (3 : PmT [i64]) * (↑(List.length m) : PmT [i64]) < (0 : Int)) = true → k + (3 : PmT [i64]) * (↑(List.length m) : PmT [i64]) = (-1 : Int) ∧ m = m) ∧
     (decide (k + (3 : PmT [i64]) * (↑(List.length m) : PmT [i64]) < (0 : Int)) = false →
       k + (3 : PmT [i64]) * (↑(List.length m) : PmT [i64]) = k + (3 : PmT [i64]) * (↑(List.length m) : PmT [i64]) ∧ m = m)) := by kernel_rfl
theorem vc_from_eq (k : Nat) (m : By) (n l va : Int) : vc_from k m n l va = (
 (U64 va ∧ LvR l) ∧
   (List.length m = List.length m ∧ ByteR m ∧ U64 (IntKind.u64.wrap (IntKind.u64.wrap ((64 : Int) * n) + IntKind.u64.wrap ((8 : Int) * idxM va l)))) ∧
     ((!(readM m (IntKind.u64.wrap (IntKind.u64.wrap ((64 : Int) * n) + IntKind.u64.wrap ((8 : Int) * idxM va l))) (8 : Int)).fst) = true →
         (walkN m va (l.toNat + (1 : Nat)) n).fst = (3 : Int) ∧
           (walkN m va (l.toNat + (1 : Nat)) n).snd.fst = l ∧
             (walkN m va (l.toNat + (1 : Nat)) n).snd.snd.fst = (0 : Int) ∧
               (0 : Nat) = (0 : Nat) ∧ List.length (walkN m va (l.toNat + (1 : Nat)) n).snd.snd.snd = (0 : Nat) ∧ m = m ∧ (walkN m va (l.toNat + (1 : Nat)) n).snd.snd.snd = []) ∧
       ((!(readM m (IntKind.u64.wrap (IntKind.u64.wrap ((64 : Int) * n) + IntKind.u64.wrap ((8 : Int) * idxM va l))) (8 : Int)).fst) = false →
         U64 (readM m (IntKind.u64.wrap (IntKind.u64.wrap ((64 : Int) * n) + IntKind.u64.wrap ((8 : Int) * idxM va l))) (8 : Int)).snd ∧
           ((kindM (readM m (IntKind.u64.wrap (IntKind.u64.wrap ((64 : Int) * n) + IntKind.u64.wrap ((8 : Int) * idxM va l))) (8 : Int)).snd l == (0 : Int)) = true →
               (walkN m va (l.toNat + (1 : Nat)) n).fst = (2 : Int) ∧
                 (walkN m va (l.toNat + (1 : Nat)) n).snd.fst = l ∧
                   (walkN m va (l.toNat + (1 : Nat)) n).snd.snd.fst = (0 : Int) ∧
                     (0 : Nat) = (0 : Nat) ∧ List.length (walkN m va (l.toNat + (1 : Nat)) n).snd.snd.snd = (0 : Nat) ∧ m = m ∧ (walkN m va (l.toNat + (1 : Nat)) n).snd.snd.snd = []) ∧
             ((kindM (readM m (IntKind.u64.wrap (IntKind.u64.wrap ((64 : Int) * n) + IntKind.u64.wrap ((8 : Int) * idxM va l))) (8 : Int)).snd l == (0 : Int)) = false →
               ((kindM (readM m (IntKind.u64.wrap (IntKind.u64.wrap ((64 : Int) * n) + IntKind.u64.wrap ((8 : Int) * idxM va l))) (8 : Int)).snd l == (2 : Int)) = true →
                   (walkN m va (l.toNat + (1 : Nat)) n).fst = (1 : Int) ∧
                     (walkN m va (l.toNat + (1 : Nat)) n).snd.fst = l ∧
                       (walkN m va (l.toNat + (1 : Nat)) n).snd.snd.fst = (readM m (IntKind.u64.wrap (IntKind.u64.wrap ((64 : Int) * n) + IntKind.u64.wrap ((8 : Int) * idxM va l))) (8 : Int)).snd ∧
                         (0 : Nat) = (0 : Nat) ∧
                           List.length (walkN m va (l.toNat + (1 : Nat)) n).snd.snd.snd =
                               [(l, IntKind.u64.wrap (IntKind.u64.wrap ((64 : Int) * n) + IntKind.u64.wrap ((8 : Int) * idxM va l)),
                                     (readM m (IntKind.u64.wrap (IntKind.u64.wrap ((64 : Int) * n) + IntKind.u64.wrap ((8 : Int) * idxM va l))) (8 : Int)).snd)].length ∧
                             m = m ∧
                               (walkN m va (l.toNat + (1 : Nat)) n).snd.snd.snd =
                                 [(l, IntKind.u64.wrap (IntKind.u64.wrap ((64 : Int) * n) + IntKind.u64.wrap ((8 : Int) * idxM va l)),
                                     (readM m (IntKind.u64.wrap (IntKind.u64.wrap ((64 : Int) * n) + IntKind.u64.wrap ((8 : Int) * idxM va l))) (8 : Int)).snd)]) ∧
                 ((kindM (readM m (IntKind.u64.wrap (IntKind.u64.wrap ((64 : Int) * n) + IntKind.u64.wrap ((8 : Int) * idxM va l))) (8 : Int)).snd l == (2 : Int)) = false →
                   U64 (readM m (IntKind.u64.wrap (IntKind.u64.wrap ((64 : Int) * n) + IntKind.u64.wrap ((8 : Int) * idxM va l))) (8 : Int)).snd ∧
                     (List.length m = List.length m ∧
                         FromR m (ppnM (readM m (IntKind.u64.wrap (IntKind.u64.wrap ((64 : Int) * n) + IntKind.u64.wrap ((8 : Int) * idxM va l))) (8 : Int)).snd) (IntKind.i64.wrap (l - (1 : Int))) va ∧
                           (IntKind.i64.wrap (l - (1 : Int))).toNat < k) ∧
                       ((0 : Nat) +
                               List.length
                                 (walkN m va ((IntKind.i64.wrap (l - (1 : Int))).toNat + (1 : Nat))
                                         (ppnM (readM m (IntKind.u64.wrap (IntKind.u64.wrap ((64 : Int) * n) + IntKind.u64.wrap ((8 : Int) * idxM va l))) (8 : Int)).snd)).snd.snd.snd ≤
                             List.length
                               (walkN m va ((IntKind.i64.wrap (l - (1 : Int))).toNat + (1 : Nat))
                                       (ppnM (readM m (IntKind.u64.wrap (IntKind.u64.wrap ((64 : Int) * n) + IntKind.u64.wrap ((8 : Int) * idxM va l))) (8 : Int)).snd)).snd.snd.snd ∧
                           [(l, IntKind.u64.wrap (IntKind.u64.wrap ((64 : Int) * n) + IntKind.u64.wrap ((8 : Int) * idxM va l)),
                                     (readM m (IntKind.u64.wrap (IntKind.u64.wrap ((64 : Int) * n) + IntKind.u64.wrap ((8 : Int) * idxM va l))) (8 : Int)).snd)].length ≤
                               [(l, IntKind.u64.wrap (IntKind.u64.wrap ((64 : Int) * n) + IntKind.u64.wrap ((8 : Int) * idxM va l)),
                                     (readM m (IntKind.u64.wrap (IntKind.u64.wrap ((64 : Int) * n) + IntKind.u64.wrap ((8 : Int) * idxM va l))) (8 : Int)).snd)].length ∧
                             [(l, IntKind.u64.wrap (IntKind.u64.wrap ((64 : Int) * n) + IntKind.u64.wrap ((8 : Int) * idxM va l)),
                                       (readM m (IntKind.u64.wrap (IntKind.u64.wrap ((64 : Int) * n) + IntKind.u64.wrap ((8 : Int) * idxM va l))) (8 : Int)).snd)].length +
                                 (List.take
                                     (List.length
                                       (walkN m va ((IntKind.i64.wrap (l - (1 : Int))).toNat + (1 : Nat))
                                               (ppnM (readM m (IntKind.u64.wrap (IntKind.u64.wrap ((64 : Int) * n) + IntKind.u64.wrap ((8 : Int) * idxM va l))) (8 : Int)).snd)).snd.snd.snd)
                                     (List.drop (0 : Nat)
                                       (walkN m va ((IntKind.i64.wrap (l - (1 : Int))).toNat + (1 : Nat))
                                               (ppnM (readM m (IntKind.u64.wrap (IntKind.u64.wrap ((64 : Int) * n) + IntKind.u64.wrap ((8 : Int) * idxM va l))) (8 : Int)).snd)).snd.snd.snd)).length ≤
                               (1073741824 : Nat)) ∧
                         (walkN m va (l.toNat + (1 : Nat)) n).fst =
                             (walkN m va ((IntKind.i64.wrap (l - (1 : Int))).toNat + (1 : Nat))
                                 (ppnM (readM m (IntKind.u64.wrap (IntKind.u64.wrap ((64 : Int) * n) + IntKind.u64.wrap ((8 : Int) * idxM va l))) (8 : Int)).snd)).fst ∧
                           (walkN m va (l.toNat + (1 : Nat)) n).snd.fst =
                               (walkN m va ((IntKind.i64.wrap (l - (1 : Int))).toNat + (1 : Nat))
                                     (ppnM (readM m (IntKind.u64.wrap (IntKind.u64.wrap ((64 : Int) * n) + IntKind.u64.wrap ((8 : Int) * idxM va l))) (8 : Int)).snd)).snd.fst ∧
                             (walkN m va (l.toNat + (1 : Nat)) n).snd.snd.fst =
                                 (walkN m va ((IntKind.i64.wrap (l - (1 : Int))).toNat + (1 : Nat))
                                         (ppnM (readM m (IntKind.u64.wrap (IntKind.u64.wrap ((64 : Int) * n) + IntKind.u64.wrap ((8 : Int) * idxM va l))) (8 : Int)).snd)).snd.snd.fst ∧
                               (0 : Nat) = (0 : Nat) ∧
                                 List.length (walkN m va (l.toNat + (1 : Nat)) n).snd.snd.snd =
                                     [(l, IntKind.u64.wrap (IntKind.u64.wrap ((64 : Int) * n) + IntKind.u64.wrap ((8 : Int) * idxM va l)),
                                             (readM m (IntKind.u64.wrap (IntKind.u64.wrap ((64 : Int) * n) + IntKind.u64.wrap ((8 : Int) * idxM va l))) (8 : Int)).snd)].length +
                                       (List.take
                                           (List.length
                                             (walkN m va ((IntKind.i64.wrap (l - (1 : Int))).toNat + (1 : Nat))
                                                     (ppnM (readM m (IntKind.u64.wrap (IntKind.u64.wrap ((64 : Int) * n) + IntKind.u64.wrap ((8 : Int) * idxM va l))) (8 : Int)).snd)).snd.snd.snd)
                                           (List.drop (0 : Nat)
                                             (walkN m va ((IntKind.i64.wrap (l - (1 : Int))).toNat + (1 : Nat))
                                                     (ppnM
                                                       (readM m (IntKind.u64.wrap (IntKind.u64.wrap ((64 : Int) * n) + IntKind.u64.wrap ((8 : Int) * idxM va l))) (8 : Int)).snd)).snd.snd.snd)).length ∧
                                   m = m ∧
                                     (walkN m va (l.toNat + (1 : Nat)) n).snd.snd.snd =
                                       List.take
                                           [(l, IntKind.u64.wrap (IntKind.u64.wrap ((64 : Int) * n) + IntKind.u64.wrap ((8 : Int) * idxM va l)),
                                                 (readM m (IntKind.u64.wrap (IntKind.u64.wrap ((64 : Int) * n) + IntKind.u64.wrap ((8 : Int) * idxM va l))) (8 : Int)).snd)].length
                                           [(l, IntKind.u64.wrap (IntKind.u64.wrap ((64 : Int) * n) + IntKind.u64.wrap ((8 : Int) * idxM va l)),
                                               (readM m (IntKind.u64.wrap (IntKind.u64.wrap ((64 : Int) * n) + IntKind.u64.wrap ((8 : Int) * idxM va l))) (8 : Int)).snd)] ++
                                         List.take
                                           (List.length
                                             (walkN m va ((IntKind.i64.wrap (l - (1 : Int))).toNat + (1 : Nat))
                                                     (ppnM (readM m (IntKind.u64.wrap (IntKind.u64.wrap ((64 : Int) * n) + IntKind.u64.wrap ((8 : Int) * idxM va l))) (8 : Int)).snd)).snd.snd.snd)
                                           (List.drop (0 : Nat)
                                             (walkN m va ((IntKind.i64.wrap (l - (1 : Int))).toNat + (1 : Nat))
                                                     (ppnM (readM m (IntKind.u64.wrap (IntKind.u64.wrap ((64 : Int) * n) + IntKind.u64.wrap ((8 : Int) * idxM va l))) (8 : Int)).snd)).snd.snd.snd))))) := by kernel_rfl
theorem vc_eqWr_eq (a b c : Int) (m : Rs) : vc_eqWr a b c m = (
 ((a != a) = true → true = false ∧ m = m ∧ m = m) ∧
   ((a != a) = false →
     ((b != b) = true → true = false ∧ m = m ∧ m = m) ∧
       ((b != b) = false →
         ((c != c) = true → true = false ∧ m = m ∧ m = m) ∧
           ((c != c) = false →
             (List.length m = List.length m ∧ List.length m = List.length m ∧ m = m ∧ SzR (List.length m)) ∧
               ((!true) = true → true = false ∧ m = m ∧ m = m) ∧ ((!true) = false → true = true ∧ m = m ∧ m = m))))) := by kernel_rfl
theorem vc_sWalk_eq (m : By) (root va : Int) : vc_sWalk m root va = (
 U64 va ∧
   ((!canM va) = true →
       (walkM m root va).fst = (2 : Int) ∧
         (walkM m root va).snd.fst = (2 : Int) ∧
           (walkM m root va).snd.snd.fst = (0 : Int) ∧ (0 : Nat) = (0 : Nat) ∧ List.length (walkM m root va).snd.snd.snd = (0 : Nat) ∧ m = m ∧ (walkM m root va).snd.snd.snd = []) ∧
     ((!canM va) = false →
       bitsR (root, (0 : Int), (43 : Int)) ∧
         (List.length m = List.length m ∧ FromR m (bitsM root (0 : Int) (43 : Int)) (2 : Int) va) ∧
           (walkM m root va).fst = (walkN m va (Int.toNat (2 : Int) + (1 : Nat)) (bitsM root (0 : Int) (43 : Int))).fst ∧
             (walkM m root va).snd.fst = (walkN m va (Int.toNat (2 : Int) + (1 : Nat)) (bitsM root (0 : Int) (43 : Int))).snd.fst ∧
               (walkM m root va).snd.snd.fst = (walkN m va (Int.toNat (2 : Int) + (1 : Nat)) (bitsM root (0 : Int) (43 : Int))).snd.snd.fst ∧
                 (0 : Nat) = (0 : Nat) ∧
                   List.length (walkM m root va).snd.snd.snd = List.length (walkN m va (Int.toNat (2 : Int) + (1 : Nat)) (bitsM root (0 : Int) (43 : Int))).snd.snd.snd ∧
                     m = m ∧ (walkM m root va).snd.snd.snd = (walkN m va (Int.toNat (2 : Int) + (1 : Nat)) (bitsM root (0 : Int) (43 : Int))).snd.snd.snd)) := by kernel_rfl
end Go.Proofs.Ytfiddfbagbaofaa.V
namespace Go.Proofs.Ytfiddfbagbaofaa.V
open Go
set_option linter.unusedSimpArgs false

theorem eqRec_ok : Sound Try.prog 194 (pureS [rcP, rcP] [bl] (fun t => some (t.1 = t.2)) (fun _ => true)) := by
  refine pure_plain mixed Try.func194 (by kernel_rfl) (by kernel_rfl) F0_ok (fun t h => ?_)
  obtain ⟨x, y⟩ : Rc × Rc := t
  have h : x = y := h
  subst h
  obtain ⟨a, b, c⟩ := x
  refine vc_by (vc_eqRec_eq a b c) ?_
  simp
theorem l3Rec_ok : Sound Try.prog 193 (pureS [i64, u64, u64] [rsP] (fun _ => none) (fun t => [t])) := by
  refine pure_plain mixed Try.func193 (by kernel_rfl) (by kernel_rfl) F0_ok (fun t _ => ?_)
  obtain ⟨a, b, c⟩ : Rc := t
  refine vc_by (vc_l3Rec_eq a b c) ?_
  simp
theorem entry_ok : Sound Try.prog 235 (pureS [byP, u64] [u64, bl] (fun t => some (ByteR t.1 ∧ U64 t.2)) (fun t => ((readM t.1 t.2 8).2, (readM t.1 t.2 8).1))) := by
  refine pure_plain mixed Try.func235 (by kernel_rfl) (by kernel_rfl) FB1_ok (fun t h => ?_)
  obtain ⟨m, a⟩ : By × Int := t
  obtain ⟨h1, h2⟩ : ByteR m ∧ U64 a := h
  have g : gwM 8 = true := by decide
  refine vc_by (vc_entry_eq m a) ⟨⟨rfl, h1.1, by show (0 : Int) ≤ 8; decide⟩, fun e => ?_, fun e => ?_⟩
  · have e : insM m a 8 = false := by simpa using e
    simp [readM, rdOk, e]
  · have e : insM m a 8 = true := by simpa using e
    have hr : rdOk m a 8 = true := by simp [rdOk, g, e]
    refine ⟨⟨rfl, rdOk_fit h1 h2 hr⟩, ?_, ?_, rfl⟩
    · unfold readM; rw [if_pos hr]
    · unfold readM; rw [if_pos hr]
theorem markRs_length (k : Int) (n : Nat) : (markRs k n).length = n := by simp [markRs]
theorem markRs_succ (k : Int) (n : Nat) : markRs k (n + 1) = markRs k n ++ [markR1 (k + 3 * n)] := by simp [markRs, List.range_succ]
theorem markRs_get (k : Int) {n i : Nat} (h : i < n) (d : Rc) : (markRs k n).getD i d = markR1 (k + 3 * i) := by
  unfold markRs
  rw [List.getD_eq_getElem?_getD, List.getElem?_map, List.getElem?_range h]
  rfl
theorem wrapd {c : Int} (h0 : 0 ≤ c) (h1 : c ≤ 2199023255552) : IntKind.i64.wrap (c + 1) = c + 1 ∧ IntKind.i64.wrap (c + 1 + 1) = c + 2 ∧ IntKind.i64.wrap (c + 2 + 1) = c + 3 ∧ IntKind.u64.wrap (c + 1) = c + 1 ∧ IntKind.u64.wrap (c + 2) = c + 2 := by
  refine ⟨?_, ?_, ?_, ?_, ?_⟩
  · rw [wrap_i64_in (by omega) (by omega)]
  · rw [wrap_i64_in (by omega) (by omega)]; omega
  · rw [wrap_i64_in (by omega) (by omega)]; omega
  · rw [wrap_u64_in (by omega) (by omega)]
  · rw [wrap_u64_in (by omega) (by omega)]
theorem markRs_ok : Sound Try.prog 125 (mutS [rsP, i64] [i64] (fun t => some (MarkR t.1.length t.2)) (fun t => ((markRs t.2 t.1.length, t.2), t.2 + 3 * t.1.length))) := by
  refine mut_loop mixed Try.func125 (by kernel_rfl) (b := loopAt Try.f125 0) (k := 2) (by kernel_rfl) (by kernel_rfl) (by kernel_rfl) F0_ok (fun t h => ?_)
  obtain ⟨m, k⟩ : Rs × Int := t
  obtain ⟨h, h1, h2⟩ : MarkR m.length k := h
  have hs : m.length ≤ 2097152 := h
  refine ⟨markRX m k, markRL m k, fun i : Nat => m.length - i, one_loop 2 (markRL m k), fun (i : Nat) hi => vc_by (vc_markRs_r_eq m k i) ?_, vc_by (vc_markRs_eq m k) ?_⟩
  · have hi : i ≤ m.length := hi
    refine ⟨fun g => ?_, fun g => ?_⟩
    · have g : (i : Int) < m.length := of_decide_eq_true g
      have hlt : i < m.length := by omega
      have hn := next_i64 h hlt
      have e0 : 0 + (i : Int).toNat = i := by omega
      have hc0 : 0 ≤ k + 3 * (i : Int) := by omega
      have hc1 : k + 3 * (i : Int) ≤ 2199023255552 := by omega
      have hsucc := markRs_succ k i
      have hk : k + 3 * ((i + 1 : Nat) : Int) = k + 3 * i + 3 := by omega
      have hln := markRs_length k i
      have hd := List.drop_eq_getElem_cons hlt
      generalize m[i] = e at hd
      rw [hd]
      generalize k + 3 * (i : Int) = c at *
      generalize markRs k i = a at *
      obtain ⟨w1, w2, w3, u1, u2⟩ := wrapd hc0 hc1
      have hb : (List.drop (i + 1) m).length = m.length - (i + 1) := by simp
      have hlen : ∀ x : Rc, i < (a ++ x :: List.drop (i + 1) m).length := fun x => by simp; omega
      rw [e0, mid_set _ _ _ _ hln, mid_get _ _ _ _ hln, w1]
      refine ⟨⟨by omega, by omega⟩, hlen _, ((i : Int), c + 1, _), ⟨rfl, rfl, rfl, rfl, rfl⟩, ⟨by simp only; omega, by simp only; omega⟩, by simp only [e0]; exact hlen _, ?_⟩
      simp only [e0, mid_set _ _ _ _ hln, mid_get _ _ _ _ hln]
      refine ⟨((i : Int), c + 2, _), ⟨trivial, trivial, w2.symm, rfl, rfl⟩, ⟨by simp only; omega, by simp only; omega⟩, by simp only [e0]; exact hlen _, ?_⟩
      simp only [e0, mid_set _ _ _ _ hln, mid_get _ _ _ _ hln]
      refine ⟨((i : Int), c + 3, _), ⟨trivial, trivial, w3.symm, rfl, rfl⟩, ?_⟩
      refine ⟨i + 1, ⟨trivial, trivial, hk, hn.symm, ?_⟩, by omega, by omega, fun _ _ => trivial⟩
      rw [hsucc]
      simp only [u1, u2, List.append_assoc]
      rfl
    · have g : ¬ (i : Int) < m.length := of_decide_eq_false g
      have : i = m.length := by omega
      subst this
      exact ⟨(), ⟨rfl, by simp⟩, trivial⟩
  · exact ⟨0, ⟨rfl, rfl, by simp, rfl, rfl⟩, by omega, fun _ _ => ⟨rfl, rfl⟩⟩
theorem heldRs_ok : Sound Try.prog 126 (pureS [rsP, i64] [i64] (fun t => some (MarkR t.1.length t.2 ∧ t.1 = markRs t.2 t.1.length)) (fun t => t.2 + 3 * t.1.length)) := by
  refine pure_loop mixed Try.func126 (by kernel_rfl) (b := loopAt Try.f126 0) (k := 2) (by kernel_rfl) (by kernel_rfl) (by kernel_rfl) F0_ok (fun t h => ?_)
  obtain ⟨m, k⟩ : Rs × Int := t
  obtain ⟨⟨h, h1, h2⟩, h3⟩ : MarkR m.length k ∧ m = markRs k m.length := h
  have hs : m.length ≤ 2097152 := h
  refine ⟨.one 2 (heldRL m k), heldRL m k, fun i : Nat => m.length - i, one_loop _ _, fun (i : Nat) hi => vc_by (vc_heldRs_r_eq m k i) ?_, vc_by (vc_heldRs_eq m k) ?_⟩
  · have hi : i ≤ m.length := hi
    refine ⟨fun g => ?_, fun g => ?_⟩
    · have g : (i : Int) < m.length := of_decide_eq_true g
      have hlt : i < m.length := by omega
      have hn := next_i64 h hlt
      have e0 : 0 + (i : Int).toNat = i := by omega
      have hc0 : 0 ≤ k + 3 * (i : Int) := by omega
      have hc1 : k + 3 * (i : Int) ≤ 2199023255552 := by omega
      have hk : k + 3 * ((i + 1 : Nat) : Int) = k + 3 * i + 3 := by omega
      have e : List.getD m i (El.zero shR) = markR1 (k + 3 * i) := by rw [h3]; exact markRs_get k hlt _
      rw [e0, e, hn]
      obtain ⟨w1, w2, w3, u1, u2⟩ := wrapd hc0 hc1
      have hx : ∃ (y : Nat), (0 = 0 ∧ List.length m = List.length m ∧ k + 3 * (y : Int) = k + 3 * (i : Int) + 3 ∧ (y : Int) = ((i + 1 : Nat) : Int) ∧ m = m) ∧ y ≤ List.length m ∧ List.length m - y < List.length m - i ∧ ∀ (_ : Unit), True → True :=
        ⟨i + 1, ⟨rfl, rfl, hk, rfl, rfl⟩, by omega, by omega, fun _ _ => trivial⟩
      generalize k + 3 * (i : Int) = c at *
      simp only [w1, w2, w3, markR1, u1, u2]
      simp [hlt]
      simpa using hx
    · have g : ¬ (i : Int) < m.length := of_decide_eq_false g
      have : i = m.length := by omega
      subst this
      exact ⟨(), ⟨rfl, rfl⟩, trivial⟩
  · exact ⟨0, ⟨rfl, rfl, by simp, rfl, rfl⟩, by omega, fun _ _ => ⟨rfl, rfl⟩⟩
theorem kK1_ok : KnowsD Try.prog kK1 := .cons (by kernel_rfl) eqRec_ok <| .cons (by kernel_rfl) l3Rec_ok <| .cons (by kernel_rfl) entry_ok <| .cons (by kernel_rfl) markRs_ok <| .cons (by kernel_rfl) heldRs_ok .nil
theorem kK1x_ok : KnowsD Try.prog (kK1 ++ kB3 ++ kA4) := (kK1_ok.append kB3_ok).append kA4_ok
theorem FK1_ok : DictOk Try.prog FK1 := mkD_ok kK1x_ok .nil .nil

/-! ### second layer -/
theorem eqRs_ok : Sound Try.prog 124 (pureS [rsP, rsP] [bl] (fun t => some (t.1 = t.2 ∧ SzR t.1.length)) (fun _ => true)) := by
  refine pure_loop mixed Try.func124 (by kernel_rfl) (b := loopAt Try.f124 0) (k := 4) (by kernel_rfl) (by kernel_rfl) (by kernel_rfl) FK1_ok (fun t h => ?_)
  obtain ⟨m, n⟩ : Rs × Rs := t
  obtain ⟨h0, h⟩ : m = n ∧ SzR m.length := h
  subst h0
  have hs : m.length ≤ 2097152 := h
  refine ⟨.one 4 (eqRsL m m), eqRsL m m, fun i : Nat => m.length - i, one_loop _ _, fun (i : Nat) hi => vc_by (vc_eqRs_r_eq m m i) ?_, vc_by (vc_eqRs_eq m m) ?_⟩
  · have hi : i ≤ m.length := hi
    refine ⟨fun g => ?_, fun g => ⟨(), ⟨rfl, rfl⟩, trivial⟩⟩
    have g : (i : Int) < m.length := of_decide_eq_true g
    rw [next_i64 h (by omega)]
    exact ⟨⟨by omega, by omega⟩, by omega, ⟨by omega, by omega⟩, by omega, rfl, fun e => by simp at e, fun _ => ⟨i + 1, ⟨rfl, rfl, rfl, rfl, rfl, rfl, rfl⟩, by omega, by omega, fun _ _ => trivial⟩⟩
  · exact ⟨fun e => by simp at e, fun _ => ⟨0, ⟨rfl, rfl, rfl, rfl, rfl, rfl, rfl⟩, by omega, fun _ _ => ⟨rfl, rfl, rfl⟩⟩⟩
theorem markWr_ok : Sound Try.prog 50 (mutS [wrP, i64] [i64] (fun t => some (MarkR t.1.2.2.2.length t.2)) (fun t => (((t.1.1, t.1.2.1, t.1.2.2.1, markRs t.2 t.1.2.2.2.length), t.2), t.2 + 3 * t.1.2.2.2.length))) := by
  refine mut_plain mixed Try.func50 (by kernel_rfl) (by kernel_rfl) FK1_ok (fun t h => ?_)
  obtain ⟨⟨a, b, c, m⟩, k⟩ : Wr × Int := t
  have h : MarkR m.length k := h
  exact ⟨.none, vc_by (vc_markWr_eq a b c m k) ⟨⟨rfl, h⟩, rfl, rfl⟩⟩
theorem heldWr_ok : Sound Try.prog 51 (pureS [wrP, i64] [i64] (fun t => some (MarkR t.1.2.2.2.length t.2 ∧ t.1.2.2.2 = markRs t.2 t.1.2.2.2.length)) (fun t => t.2 + 3 * t.1.2.2.2.length)) := by
  refine pure_plain mixed Try.func51 (by kernel_rfl) (by kernel_rfl) FK1_ok (fun t h => ?_)
  obtain ⟨⟨a, b, c, m⟩, k⟩ : Wr × Int := t
  obtain ⟨h1, h2⟩ : MarkR m.length k ∧ m = markRs k m.length := h
  refine vc_by (vc_heldWr_eq a b c m k) ⟨⟨rfl, h1, h2⟩, fun g => ?_, fun _ => ⟨rfl, rfl⟩⟩
  have g : k + 3 * (m.length : Int) < 0 := of_decide_eq_true g
  have := h1.2.1
  omega
theorem rd_u64 {m : By} {a : Int} (hm : ByteR m) : U64 (readM m a 8).2 := by
  unfold readM
  split
  · exact numM_u64 (fun b hb => hm.2 b (List.mem_of_mem_drop (List.mem_of_mem_take hb))) (by simp; omega)
  · exact ⟨by decide, by decide⟩
theorem kind_low {p l : Int} (h0 : kindM p l ≠ 0) (h2 : kindM p l ≠ 2) : l ≠ 0 := by
  intro e
  subst e
  unfold kindM at h0 h2
  split at h0
  · exact h0 rfl
  · rename_i hc
    rw [if_neg hc] at h2
    split at h0
    · simp at h0
    · rename_i hd
      rw [if_neg hd] at h2
      split at h0
      · rename_i he
        rw [if_pos he] at h2
        exact h2 rfl
      · exact h0 rfl
theorem idx_in (va : Int) (l : Int) : 0 ≤ idxM va l ∧ idxM va l < 8 := by
  unfold idxM
  exact ⟨Int.emod_nonneg _ (by decide), Int.emod_lt_of_pos _ (by decide)⟩
theorem addr_wrap {n va l : Int} (h0 : 0 ≤ n) (h1 : n < 17592186044416) : IntKind.u64.wrap (IntKind.u64.wrap (64 * n) + IntKind.u64.wrap (8 * idxM va l)) = 64 * n + 8 * idxM va l := by
  obtain ⟨a, b⟩ := idx_in va l
  rw [wrap_u64_in (n := 64 * n) (by omega) (by omega), wrap_u64_in (n := 8 * idxM va l) (by omega) (by omega), wrap_u64_in (by omega) (by omega)]
theorem walkN_length (m : By) (va : Int) : ∀ (n : Nat) (p : Int), (walkN m va n p).2.2.2.length ≤ n
  | 0, _ => Nat.le_refl _
  | n + 1, p => by
    unfold walkN
    split
    · exact Nat.zero_le _
    · split
      · exact Nat.zero_le _
      · split
        · simp
        · simp only [List.length_cons]
          have := walkN_length m va n (ppnM (readM m (64 * p + 8 * idxM va n) 8).2)
          omega
theorem walk_step {m : By} {va l p : Int} (h : 0 ≤ l) : walkN m va (l.toNat + 1) p =
    if (readM m (64 * p + 8 * idxM va l) 8).1 = false then (3, l, 0, [])
    else if kindM (readM m (64 * p + 8 * idxM va l) 8).2 l = 0 then (2, l, 0, [])
    else if kindM (readM m (64 * p + 8 * idxM va l) 8).2 l = 2 then (1, l, (readM m (64 * p + 8 * idxM va l) 8).2, [(l, 64 * p + 8 * idxM va l, (readM m (64 * p + 8 * idxM va l) 8).2)])
    else
      ((walkN m va l.toNat (ppnM (readM m (64 * p + 8 * idxM va l) 8).2)).1, (walkN m va l.toNat (ppnM (readM m (64 * p + 8 * idxM va l) 8).2)).2.1, (walkN m va l.toNat (ppnM (readM m (64 * p + 8 * idxM va l) 8).2)).2.2.1,
        (l, 64 * p + 8 * idxM va l, (readM m (64 * p + 8 * idxM va l) 8).2) :: (walkN m va l.toNat (ppnM (readM m (64 * p + 8 * idxM va l) 8).2)).2.2.2) := by
  have e : ((l.toNat : Nat) : Int) = l := by omega
  rw [walkN, e]
theorem from_ok : ∀ k : Nat, Sound Try.prog 120 (fromS k)
  | 0 => pure_plain mixed Try.func120 (by kernel_rfl) (by kernel_rfl) (D := mkD [] [] []) (mkD_ok .nil .nil .nil) (fun (t : By × Int × Int × Int) h => absurd h.2 (Nat.not_lt_zero _))
  | k + 1 => by
    refine pure_plain mixed Try.func120 (by kernel_rfl) (by kernel_rfl) (D := mkD ((120, fromS k) :: (kK1 ++ kB3 ++ kA4)) [] []) (mkD_ok (.cons (by kernel_rfl) (from_ok k) kK1x_ok) .nil .nil) (fun t h => ?_)
    obtain ⟨m, n, l, va⟩ : By × Int × Int × Int := t
    obtain ⟨⟨hm, n0, n1, hl, hv⟩, hk⟩ : FromR m n l va ∧ l.toNat < k + 1 := h
    have hl2 := hl
    unfold LvR at hl2
    obtain ⟨i0, i1⟩ := idx_in va l
    have hr := rd_u64 (a := 64 * n + 8 * idxM va l) hm
    refine vc_by (vc_from_eq k m n l va) ?_
    rw [addr_wrap n0 n1, walk_step hl2.1]
    have hA : U64 (64 * n + 8 * idxM va l) := ⟨by omega, by omega⟩
    generalize 64 * n + 8 * idxM va l = A at *
    generalize readM m A 8 = r at *
    refine ⟨⟨hv, hl⟩, ⟨rfl, hm, hA⟩, fun q => ?_, fun q => ⟨hr, fun q2 => ?_, fun q2 => ⟨fun q3 => ?_, fun q3 => ?_⟩⟩⟩
    · have q : r.1 = false := by simpa using q
      rw [if_pos q]
      exact ⟨rfl, rfl, rfl, rfl, rfl, rfl, rfl⟩
    · have q : r.1 ≠ false := by simpa using q
      have q2 : kindM r.2 l = 0 := by simpa using q2
      rw [if_neg q, if_pos q2]
      exact ⟨rfl, rfl, rfl, rfl, rfl, rfl, rfl⟩
    · have q : r.1 ≠ false := by simpa using q
      have q2 : kindM r.2 l ≠ 0 := by simpa using q2
      have q3 : kindM r.2 l = 2 := by simpa using q3
      rw [if_neg q, if_neg q2, if_pos q3]
      exact ⟨rfl, rfl, rfl, rfl, rfl, rfl, rfl⟩
    · have q : r.1 ≠ false := by simpa using q
      have q2 : kindM r.2 l ≠ 0 := by simpa using q2
      have q3 : kindM r.2 l ≠ 2 := by simpa using q3
      have hlow := kind_low q2 q3
      obtain ⟨p0, p1⟩ := ppn_in hr
      have e1 : IntKind.i64.wrap (l - 1) = l - 1 := wrap_i64_in (by omega) (by omega)
      have e2 : (l - 1).toNat + 1 = l.toNat := by omega
      have hw := walkN_length m va l.toNat (ppnM r.2)
      rw [if_neg q, if_neg q2, if_neg q3, e1, e2]
      generalize walkN m va l.toNat (ppnM r.2) = W at *
      have e3 : List.take (List.length W.2.2.2) (List.drop 0 W.2.2.2) = W.2.2.2 := by rw [List.drop_zero, List.take_length]
      rw [e3]
      refine ⟨hr, ⟨rfl, ⟨hm, p0, p1, ⟨by omega, by omega⟩, hv⟩, by omega⟩, ⟨by omega, Nat.le_refl _, by simp; omega⟩, rfl, rfl, rfl, rfl, ?_, rfl, ?_⟩
      · simp; omega
      · simp
theorem from_all : Sound Try.prog 120 (pureS [byP, u64, i64, u64] [wrP] (fun t => some (FromR t.1 t.2.1 t.2.2.1 t.2.2.2)) (fun t => walkN t.1 t.2.2.2 (t.2.2.1.toNat + 1) t.2.1)) :=
  pureS_weaken (from_ok 3) (fun (t : By × Int × Int × Int) h => by have h : FromR t.1 t.2.1 t.2.2.1 t.2.2.2 := h; exact ⟨h, by have := h.2.2.2.1; unfold LvR at this; omega⟩)
theorem kK2_ok : KnowsD Try.prog kK2 := .cons (by kernel_rfl) eqRs_ok <| .cons (by kernel_rfl) markWr_ok <| .cons (by kernel_rfl) heldWr_ok <| .cons (by kernel_rfl) from_all kK1_ok
theorem FK2_ok : DictOk Try.prog FK2 := mkD_ok ((kK2_ok.append kB3_ok).append kA4_ok) .nil .nil
theorem eqWr_ok : Sound Try.prog 49 (pureS [wrP, wrP] [bl] (fun t => some (t.1 = t.2 ∧ SzR t.1.2.2.2.length)) (fun _ => true)) := by
  refine pure_plain mixed Try.func49 (by kernel_rfl) (by kernel_rfl) FK2_ok (fun t h => ?_)
  obtain ⟨x, y⟩ : Wr × Wr := t
  obtain ⟨h0, h⟩ : x = y ∧ SzR x.2.2.2.length := h
  subst h0
  obtain ⟨a, b, c, m⟩ := x
  have h : SzR m.length := h
  refine vc_by (vc_eqWr_eq a b c m) ?_
  simp [h]
theorem sWalk_ok : Sound Try.prog 47 (pureS [byP, u64, u64] [wrP] (fun t => some (ByteR t.1 ∧ U64 t.2.1 ∧ U64 t.2.2)) (fun t => walkM t.1 t.2.1 t.2.2)) := by
  refine pure_plain mixed Try.func47 (by kernel_rfl) (by kernel_rfl) FK2_ok (fun t h => ?_)
  obtain ⟨m, root, va⟩ : By × Int × Int := t
  obtain ⟨h1, h2, h3⟩ : ByteR m ∧ U64 root ∧ U64 va := h
  have e : bitsM root 0 43 = root % 17592186044416 := by
    show root / 2 ^ 0 % 2 ^ 44 = _
    rw [show (2 : Int) ^ 0 = 1 by decide, show (2 : Int) ^ 44 = 17592186044416 by decide, Int.ediv_one]
  refine vc_by (vc_sWalk_eq m root va) ⟨h3, fun q => ?_, fun q => ?_⟩
  · have q : canM va = false := by simpa using q
    have : walkM m root va = (2, 2, 0, []) := by simp [walkM, q]
    rw [this]
    exact ⟨rfl, rfl, rfl, rfl, rfl, rfl, rfl⟩
  · have q : canM va = true := by simpa using q
    have : walkM m root va = walkN m va 3 (root % 17592186044416) := by simp [walkM, q]
    rw [this, e]
    exact ⟨⟨h2, by simp only; omega⟩, ⟨rfl, h1, Int.emod_nonneg _ (by decide), Int.emod_lt_of_pos _ (by decide), ⟨by decide, by decide⟩, h3⟩, rfl, rfl, rfl, rfl, rfl, rfl, rfl⟩
end Go.Proofs.Ytfiddfbagbaofaa.V
