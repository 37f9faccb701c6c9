/- Looking up in a cache answers as the model; the law on it returns true. Conditions: those in each statement. -/
import Derived.Test.YtfiddfbagbaofaaGF
import Derived.KernelRfl
namespace Go.Proofs.Ytfiddfbagbaofaa.V
open Go
def lookM (t : Tl) (va asid : Int) : Hi := if eitherM t = true then findM va asid t.2.2 else (false, 0, 0, 0)
def AboveR (va asid : Int) (m : Es) (l : Int) : Prop := ∀ i, i < m.length → fitsM (m.getD i zE) va asid = true → l ≤ (m.getD i zE).2.1
def lookL1 (s w : Int) (m : Es) (va asid : Int) : LoopS where
  α := Int
  I l := eitherM (s, w, m) = true ∧ 0 ≤ l ∧ l ≤ 3 ∧ AboveR va asid m l
  sl l := slots 52 [(1, .v (.int .u64 va)), (2, .v (.int .u64 asid)), (3, .ptr 1 0), (6, .ptr 2 0), (7, .v (.int .i64 l))]
  H _ := [.arr shE m false, .fix [.v (.int .i64 s), .v (.int .i64 w), .sl 0 6 0 m.length] true (some 52), .fix (hitA (false, 0, 0, 0)) true (some 57)]
  fams := [{ β := Unit, out := fun _ _ => findM va asid m = (false, 0, 0, 0), ex := .ext 0, sl := fun _ => slots 52 [(6, .ptr 1 0)], H := fun _ => [.arr shE m false, .fix (hitA (false, 0, 0, 0)) true (some 57)] },
    { β := Unit, out := fun _ _ => True, ex := .ret, sl := fun _ => slots 52 [(6, .ptr 1 0)], H := fun _ => [.arr shE m false, .fix (hitA (findM va asid m)) true (some 57)] }]
def lookL2 (s w : Int) (m : Es) (va asid : Int) : LoopS where
  α := Int × Nat
  I x := eitherM (s, w, m) = true ∧ (0 ≤ x.1 ∧ x.1 ≤ 2 ∧ AboveR va asid m x.1) ∧ x.2 ≤ m.length ∧ ∀ j, j < x.2 → fitsM (m.getD j zE) va asid = true → (m.getD j zE).2.1 ≠ x.1
  sl x := slots 52 [(1, .v (.int .u64 va)), (2, .v (.int .u64 asid)), (3, .ptr 1 0), (6, .ptr 2 0), (7, .v (.int .i64 x.1)), (8, .v (.int .i64 (x.2 : Int)))]
  H _ := [.arr shE m false, .fix [.v (.int .i64 s), .v (.int .i64 w), .sl 0 6 0 m.length] true (some 52), .fix (hitA (false, 0, 0, 0)) true (some 57)]
  fams := [{ β := Int, out := fun x z => z = x.1 ∧ AboveR va asid m (x.1 + 1), ex := .ext 2, sl := fun z => slots 52 [(1, .v (.int .u64 va)), (2, .v (.int .u64 asid)), (3, .ptr 1 0), (6, .ptr 2 0), (7, .v (.int .i64 z))], H := fun _ => [.arr shE m false, .fix [.v (.int .i64 s), .v (.int .i64 w), .sl 0 6 0 m.length] true (some 52), .fix (hitA (false, 0, 0, 0)) true (some 57)] },
    { β := Unit, out := fun _ _ => True, ex := .ret, sl := fun _ => slots 52 [(6, .ptr 1 0)], H := fun _ => [.arr shE m false, .fix (hitA (findM va asid m)) true (some 57)] }]
def lookX (s w : Int) (m : Es) (va asid : Int) : Specs := .two 4 (lookL1 s w m va asid) 7 (lookL2 s w m va asid)
def vc_slook_r2 (s w : Int) (m : Es) (va asid l : Int) (i : Nat) : Prop := vcRound Try.prog FF4 (lookX s w m va asid) 1 (loopAt Try.f44 1) (lookL2 s w m va asid) (fun x : Int × Nat => m.length - x.2) (l, i)
def vc_slook_r1 (s w : Int) (m : Es) (va asid l : Int) : Prop := vcRound Try.prog FF4 (lookX s w m va asid) 1 (loopAt Try.f44 0) (lookL1 s w m va asid) (fun l : Int => (3 - l).toNat) l
def vc_slook (s w : Int) (m : Es) (va asid : Int) : Prop := vcPure Try.prog FF4 (lookX s w m va asid) Try.f44 [tlP, u64, u64] [hitP] ((s, w, m), va, asid) (lookM (s, w, m) va asid)
def vc_ilook (s w : Int) (m : Es) (va asid : Int) : Prop := vcPure Try.prog FF4 .none Try.f45 [tlP, u64, u64] [hitP] ((s, w, m), va, asid) (lookM (s, w, m) va asid)
def kH : Known := [
  (44, pureS [tlP, u64, u64] [hitP] (fun t => some (TlR t.1 ∧ U64 t.2.1)) (fun t => lookM t.1 t.2.1 t.2.2)),
  (45, pureS [tlP, u64, u64] [hitP] (fun t => some (TlR t.1 ∧ U64 t.2.1)) (fun t => lookM t.1 t.2.1 t.2.2))] ++ kF4
def FH : Dict := mkD (kH ++ kE3 ++ kA4) [] []
def vc_lawLook (s w : Int) (m : Es) (va asid : Int) : Prop := vcPure Try.prog FH .none Try.f12 [tlP, u64, u64] [bl] ((s, w, m), va, asid) true
end Go.Proofs.Ytfiddfbagbaofaa.V
namespace Go.Proofs.Ytfiddfbagbaofaa.V
open Go
set_option linter.unusedVariables false
theorem vc_slook_r2_eq (s w : Int) (m : Es) (va asid l : Int) (i : Nat) : vc_slook_r2 s w m va asid l i = (
 (decide ((↑i : Int) < (↑(List.length m) : Int)) = true →
     ((0 : Int) ≤ (↑i : Int) ∧ (↑i : Int) < (↑(List.length m) : Int)) ∧
       (0 : Nat) + (↑i : Int).toNat < List.length m ∧
         (((List.getD m ((0 : Nat) + (↑i : Int).toNat) (El.zero shE)).snd.fst == l) = true → (0 : Int) ≤ (↑i : Int) ∧ (↑i : Int) < (↑(List.length m) : Int)) ∧
           (((List.getD m ((0 : Nat) + (↑i : Int).toNat) (El.zero shE)).snd.fst == l) = true → (0 : Nat) + (↑i : Int).toNat < List.length m) ∧
             (((List.getD m ((0 : Nat) + (↑i : Int).toNat) (El.zero shE)).snd.fst == l) = true →
                 EnR
                     ((List.getD m ((0 : Nat) + (↑i : Int).toNat) (El.zero shE)).fst, (List.getD m ((0 : Nat) + (↑i : Int).toNat) (El.zero shE)).snd.fst,
                       (List.getD m ((0 : Nat) + (↑i : Int).toNat) (El.zero shE)).snd.snd.fst, (List.getD m ((0 : Nat) + (↑i : Int).toNat) (El.zero shE)).snd.snd.snd.fst,
                       (List.getD m ((0 : Nat) + (↑i : Int).toNat) (El.zero shE)).snd.snd.snd.snd.fst, (List.getD m ((0 : Nat) + (↑i : Int).toNat) (El.zero shE)).snd.snd.snd.snd.snd) ∧
                   ((List.getD m ((0 : Nat) + (↑i : Int).toNat) (El.zero shE)).fst = true → LvR (List.getD m ((0 : Nat) + (↑i : Int).toNat) (El.zero shE)).snd.fst) ∧ U64 va) ∧
               ((bif (List.getD m ((0 : Nat) + (↑i : Int).toNat) (El.zero shE)).snd.fst == l then
                       fitsM
                         ((List.getD m ((0 : Nat) + (↑i : Int).toNat) (El.zero shE)).fst, (List.getD m ((0 : Nat) + (↑i : Int).toNat) (El.zero shE)).snd.fst,
                           (List.getD m ((0 : Nat) + (↑i : Int).toNat) (El.zero shE)).snd.snd.fst, (List.getD m ((0 : Nat) + (↑i : Int).toNat) (El.zero shE)).snd.snd.snd.fst,
                           (List.getD m ((0 : Nat) + (↑i : Int).toNat) (El.zero shE)).snd.snd.snd.snd.fst, (List.getD m ((0 : Nat) + (↑i : Int).toNat) (El.zero shE)).snd.snd.snd.snd.snd)
                         va asid
                     else false) =
                     true →
                   ((0 : Int) ≤ (↑i : Int) ∧ (↑i : Int) < (↑(List.length m) : Int)) ∧
                     (0 : Nat) + (↑i : Int).toNat < List.length m ∧
                       ∃ (z : Unit),
                         (m = m ∧
                             (findM va asid m).fst = true ∧
                               (findM va asid m).snd.fst = (↑i : Int) ∧
                                 (findM va asid m).snd.snd.fst = l ∧ (findM va asid m).snd.snd.snd = (List.getD m ((0 : Nat) + (↑i : Int).toNat) (El.zero shE)).snd.snd.snd.snd.snd) ∧
                           True) ∧
                 ((bif (List.getD m ((0 : Nat) + (↑i : Int).toNat) (El.zero shE)).snd.fst == l then
                       fitsM
                         ((List.getD m ((0 : Nat) + (↑i : Int).toNat) (El.zero shE)).fst, (List.getD m ((0 : Nat) + (↑i : Int).toNat) (El.zero shE)).snd.fst,
                           (List.getD m ((0 : Nat) + (↑i : Int).toNat) (El.zero shE)).snd.snd.fst, (List.getD m ((0 : Nat) + (↑i : Int).toNat) (El.zero shE)).snd.snd.snd.fst,
                           (List.getD m ((0 : Nat) + (↑i : Int).toNat) (El.zero shE)).snd.snd.snd.snd.fst, (List.getD m ((0 : Nat) + (↑i : Int).toNat) (El.zero shE)).snd.snd.snd.snd.snd)
                         va asid
                     else false) =
                     false →
                   ∃ (y : Int × Nat),
                     (va = va ∧
                         asid = asid ∧
                           y.fst = l ∧
                             (↑y.snd : Int) = IntKind.i64.wrap ((↑i : Int) + (1 : Int)) ∧
                               m = m ∧
                                 s = s ∧
                                   w = w ∧
                                     (0 : Nat) = (0 : Nat) ∧
                                       List.length m = List.length m ∧
                                         false = false ∧ Int.ofNat (0 : Nat) = Int.ofNat (0 : Nat) ∧ Int.ofNat (0 : Nat) = Int.ofNat (0 : Nat) ∧ Int.ofNat (0 : Nat) = Int.ofNat (0 : Nat)) ∧
                       (eitherM (s, w, m) = true ∧
                           ((0 : Int) ≤ y.fst ∧ y.fst ≤ (2 : Int) ∧ AboveR va asid m y.fst) ∧
                             y.snd ≤ List.length m ∧ ∀ (j : Nat), j < y.snd → fitsM (List.getD m j zE) va asid = true → (List.getD m j zE).snd.fst ≠ y.fst) ∧
                         List.length m - y.snd < List.length m - i ∧
                           (∀ (z : Int), z = y.fst ∧ AboveR va asid m (y.fst + (1 : Int)) → z = l ∧ AboveR va asid m (l + (1 : Int))) ∧ ∀ (z : Unit), True → True)) ∧
   (decide ((↑i : Int) < (↑(List.length m) : Int)) = false →
     ∃ (z : Int),
       (va = va ∧
           asid = asid ∧
             z = l ∧
               m = m ∧
                 s = s ∧
                   w = w ∧
                     (0 : Nat) = (0 : Nat) ∧
                       List.length m = List.length m ∧
                         false = false ∧ Int.ofNat (0 : Nat) = Int.ofNat (0 : Nat) ∧ Int.ofNat (0 : Nat) = Int.ofNat (0 : Nat) ∧ Int.ofNat (0 : Nat) = Int.ofNat (0 : Nat)) ∧
         z = l ∧ AboveR va asid m (l + (1 : Int)))) := by kernel_rfl
theorem vc_slook_r1_eq (s w : Int) (m : Es) (va asid l : Int) : vc_slook_r1 s w m va asid l = (
 (decide (l ≤ (2 : Int)) = true →
     ∃ (x : Int × Nat),
       (va = va ∧
           asid = asid ∧
             x.fst = l ∧
               (↑x.snd : Int) = (0 : Int) ∧
                 m = m ∧
                   s = s ∧
                     w = w ∧
                       (0 : Nat) = (0 : Nat) ∧
                         List.length m = List.length m ∧
                           false = false ∧ Int.ofNat (0 : Nat) = Int.ofNat (0 : Nat) ∧ Int.ofNat (0 : Nat) = Int.ofNat (0 : Nat) ∧ Int.ofNat (0 : Nat) = Int.ofNat (0 : Nat)) ∧
         (eitherM (s, w, m) = true ∧
             ((0 : Int) ≤ x.fst ∧ x.fst ≤ (2 : Int) ∧ AboveR va asid m x.fst) ∧
               x.snd ≤ List.length m ∧ ∀ (j : Nat), j < x.snd → fitsM (List.getD m j zE) va asid = true → (List.getD m j zE).snd.fst ≠ x.fst) ∧
           (∀ (z : Int),
               z = x.fst ∧ AboveR va asid m (x.fst + (1 : Int)) →
                 ∃ (y : Int),
                   (va = va ∧
                       asid = asid ∧
                         y = IntKind.i64.wrap (z + (1 : Int)) ∧
                           m = m ∧
                             s = s ∧
                               w = w ∧
                                 (0 : Nat) = (0 : Nat) ∧
                                   List.length m = List.length m ∧
                                     false = false ∧ Int.ofNat (0 : Nat) = Int.ofNat (0 : Nat) ∧ Int.ofNat (0 : Nat) = Int.ofNat (0 : Nat) ∧ Int.ofNat (0 : Nat) = Int.ofNat (0 : Nat)) ∧
                     (eitherM (s, w, m) = true ∧ (0 : Int) ≤ y ∧ y ≤ (3 : Int) ∧ AboveR va asid m y) ∧
                       ((3 : Int) - y).toNat < ((3 : Int) - l).toNat ∧
                         (∀ (z : Unit), findM va asid m = (false, (0 : Int), (0 : Int), (0 : Int)) → findM va asid m = (false, (0 : Int), (0 : Int), (0 : Int))) ∧ ∀ (z : Unit), True → True) ∧
             ∀ (z : Unit),
               True →
                 ∃ (z : Unit),
                   (m = m ∧
                       (findM va asid m).fst = (findM va asid m).fst ∧
                         (findM va asid m).snd.fst = (findM va asid m).snd.fst ∧
                           (findM va asid m).snd.snd.fst = (findM va asid m).snd.snd.fst ∧ (findM va asid m).snd.snd.snd = (findM va asid m).snd.snd.snd) ∧
                     True) ∧
   (decide (l ≤ (2 : Int)) = false →
     ∃ (z : Unit),
       (m = m ∧ false = false ∧ Int.ofNat (0 : Nat) = Int.ofNat (0 : Nat) ∧ Int.ofNat (0 : Nat) = Int.ofNat (0 : Nat) ∧ Int.ofNat (0 : Nat) = Int.ofNat (0 : Nat)) ∧
         findM va asid m = (false, (0 : Int), (0 : Int), (0 : Int)))) := by kernel_rfl
theorem vc_slook_eq (s w : Int) (m : Es) (va asid : Int) : vc_slook s w m va asid = (
 (List.length m = List.length m ∧ TlR (s, w, m)) ∧
   ((!eitherM (s, w, m)) = true →
       (lookM (s, w, m) va asid).fst = false ∧
         (lookM (s, w, m) va asid).snd.fst = (0 : Int) ∧ (lookM (s, w, m) va asid).snd.snd.fst = (0 : Int) ∧ (lookM (s, w, m) va asid).snd.snd.snd = (0 : Int) ∧ m = m) ∧
     ((!eitherM (s, w, m)) = false →
       ∃ (x : Int),
         (va = va ∧
             asid = asid ∧
               x = (0 : Int) ∧
                 m = m ∧
                   s = s ∧
                     w = w ∧
                       (0 : Nat) = (0 : Nat) ∧ List.length m = List.length m ∧ false = false ∧ Int.ofNat (0 : Nat) = (0 : Int) ∧ Int.ofNat (0 : Nat) = (0 : Int) ∧ Int.ofNat (0 : Nat) = (0 : Int)) ∧
           (eitherM (s, w, m) = true ∧ (0 : Int) ≤ x ∧ x ≤ (3 : Int) ∧ AboveR va asid m x) ∧
             (∀ (z : Unit),
                 findM va asid m = (false, (0 : Int), (0 : Int), (0 : Int)) →
                   (lookM (s, w, m) va asid).fst = false ∧
                     (lookM (s, w, m) va asid).snd.fst = (0 : Int) ∧ (lookM (s, w, m) va asid).snd.snd.fst = (0 : Int) ∧ (lookM (s, w, m) va asid).snd.snd.snd = (0 : Int) ∧ m = m) ∧
               ∀ (z : Unit),
                 True →
                   (lookM (s, w, m) va asid).fst = (findM va asid m).fst ∧
                     (lookM (s, w, m) va asid).snd.fst = (findM va asid m).snd.fst ∧
                       (lookM (s, w, m) va asid).snd.snd.fst = (findM va asid m).snd.snd.fst ∧ (lookM (s, w, m) va asid).snd.snd.snd = (findM va asid m).snd.snd.snd ∧ m = m)) := by kernel_rfl
theorem vc_ilook_eq (s w : Int) (m : Es) (va asid : Int) : vc_ilook s w m va asid = (
 (List.length m = List.length m ∧ TlR (s, w, m)) ∧
   ((!eitherM (s, w, m)) = true →
       (lookM (s, w, m) va asid).fst = false ∧
         (lookM (s, w, m) va asid).snd.fst = (0 : Int) ∧ (lookM (s, w, m) va asid).snd.snd.fst = (0 : Int) ∧ (lookM (s, w, m) va asid).snd.snd.snd = (0 : Int) ∧ m = m) ∧
     ((!eitherM (s, w, m)) = false →
       (List.length m = List.length m ∧ eitherM (s, w, m) = true ∧ TlR (s, w, m) ∧ U64 va) ∧
         (lookM (s, w, m) va asid).fst = (findM va asid m).fst ∧
           (lookM (s, w, m) va asid).snd.fst = (findM va asid m).snd.fst ∧
             (lookM (s, w, m) va asid).snd.snd.fst = (findM va asid m).snd.snd.fst ∧ (lookM (s, w, m) va asid).snd.snd.snd = (findM va asid m).snd.snd.snd ∧ m = m)) := by kernel_rfl
theorem vc_lawLook_eq (s w : Int) (m : Es) (va asid : Int) : vc_lawLook s w m va asid = (
 (List.length m = List.length m ∧ List.length m ≤ (9223372036854775807 : Nat) ∧ (0 : PmT [i64]) ≤ (1048576 : Int) ∧ (1048576 : Int) ≤ (1048576 : PmT [i64])) ∧
   (decide (szM (List.length m) (1048576 : Int) < (0 : Int)) = true → true = true ∧ m = m) ∧
     (decide (szM (List.length m) (1048576 : Int) < (0 : Int)) = false →
       (List.length m = List.length m ∧ SzR (List.length m)) ∧
         (List.length m = List.length m ∧ TlR (s, w, m) ∧ U64 va) ∧
           (List.length m = List.length m ∧ SzR (List.length m)) ∧
             (List.length m = List.length m ∧ TlR (s, w, m) ∧ U64 va) ∧
               ((lookM (s, w, m) va asid).fst, (lookM (s, w, m) va asid).snd.fst, (lookM (s, w, m) va asid).snd.snd.fst, (lookM (s, w, m) va asid).snd.snd.snd) =
                   ((lookM (s, w, m) va asid).fst, (lookM (s, w, m) va asid).snd.fst, (lookM (s, w, m) va asid).snd.snd.fst, (lookM (s, w, m) va asid).snd.snd.snd) ∧
                 ((!true) = true → true = false ∧ m = m) ∧
                   ((!true) = false →
                     (List.length m = List.length m ∧ SzR (List.length m)) ∧
                       (List.length m = List.length m ∧ List.length m = List.length m ∧ (s, w, m) = (s, w, m) ∧ SzR (List.length m)) ∧
                         ((!true) = true → true = false ∧ m = m) ∧ ((!true) = false → true = true ∧ m = m)))) := by kernel_rfl
end Go.Proofs.Ytfiddfbagbaofaa.V
namespace Go.Proofs.Ytfiddfbagbaofaa.V
open Go
set_option linter.unusedSimpArgs false

theorem findP_none {va asid : Int} {m : Es} : ∀ {n : Nat}, (∀ i, i < n → fitsM (m.getD i zE) va asid = false) → findP va asid m n = (false, 0, 0, 0)
  | 0, _ => rfl
  | n + 1, h => by
    have e : findP va asid m (n + 1) = findStep va asid (findP va asid m n) n (m.getD n zE) := rfl
    rw [e, findP_none (n := n) (fun i hi => h i (by omega))]
    unfold findStep
    rw [if_neg (by rw [h n (by omega)]; simp)]
theorem findP_far {va asid : Int} {m : Es} {i : Nat} (hi : i < m.length) (hA : AboveR va asid m (m.getD i zE).2.1) (hB : ∀ j, j < i → fitsM (m.getD j zE) va asid = true → (m.getD j zE).2.1 ≠ (m.getD i zE).2.1) :
    ∀ {n : Nat}, n ≤ i → (findP va asid m n).1 = true → (m.getD i zE).2.1 < (findP va asid m n).2.2.1
  | 0, _, h => by cases h
  | n + 1, hn, h => by
    have e : findP va asid m (n + 1) = findStep va asid (findP va asid m n) n (m.getD n zE) := rfl
    rw [e] at h ⊢
    unfold findStep at h ⊢
    by_cases c : (fitsM (m.getD n zE) va asid && (!(findP va asid m n).1 || decide ((m.getD n zE).2.1 < (findP va asid m n).2.2.1))) = true
    · rw [if_pos c]
      have hf : fitsM (m.getD n zE) va asid = true := by simp only [Bool.and_eq_true] at c; exact c.1
      have h1 := hA n (by omega) hf
      have h2 := hB n (by omega) hf
      show (m.getD i zE).2.1 < (m.getD n zE).2.1
      omega
    · rw [if_neg c] at h ⊢
      exact findP_far hi hA hB (by omega) h
theorem findP_hit {va asid : Int} {m : Es} {i : Nat} (hi : i < m.length) (hf : fitsM (m.getD i zE) va asid = true) (hA : AboveR va asid m (m.getD i zE).2.1) (hB : ∀ j, j < i → fitsM (m.getD j zE) va asid = true → (m.getD j zE).2.1 ≠ (m.getD i zE).2.1) :
    ∀ {n : Nat}, i < n → n ≤ m.length → findP va asid m n = (true, (i : Int), (m.getD i zE).2.1, (m.getD i zE).2.2.2.2.2)
  | 0, h, _ => absurd h (Nat.not_lt_zero _)
  | n + 1, h, hn => by
    have e : findP va asid m (n + 1) = findStep va asid (findP va asid m n) n (m.getD n zE) := rfl
    rw [e]
    rcases Nat.lt_or_ge i n with q | q
    · rw [findP_hit hi hf hA hB q (by omega)]
      unfold findStep
      rw [if_neg]
      intro c
      simp only [Bool.and_eq_true, Bool.not_true, Bool.false_or, decide_eq_true_eq] at c
      have := hA n (by omega) c.1
      omega
    · have : n = i := by omega
      subst this
      have far := fun q => findP_far hi hA hB (Nat.le_refl n) q
      unfold findStep
      rw [if_pos]
      rw [hf, Bool.true_and]
      cases z : (findP va asid m n).1 with
      | false => rfl
      | true => rw [Bool.not_true, Bool.false_or]; exact decide_eq_true (far z)
theorem slook_ok : Sound Try.prog 44 (pureS [tlP, u64, u64] [hitP] (fun t => some (TlR t.1 ∧ U64 t.2.1)) (fun t => lookM t.1 t.2.1 t.2.2)) := by
  refine pure_nest mixed Try.func44 (by kernel_rfl) (b1 := loopAt Try.f44 0) (b2 := loopAt Try.f44 1) (k1 := 4) (k2 := 7) (by kernel_rfl) (by kernel_rfl) (by kernel_rfl) (by kernel_rfl) (by kernel_rfl) FF4_ok (fun t h => ?_)
  obtain ⟨⟨s, w, m⟩, va, asid⟩ : Tl × Int × Int := t
  obtain ⟨ht, h5⟩ : TlR (s, w, m) ∧ U64 va := h
  obtain ⟨h1, h2, h, h4⟩ : I64 s ∧ I64 w ∧ SzR m.length ∧ ∀ e ∈ m, EnR e := ht
  have hs : m.length ≤ 2097152 := h
  have hlv : eitherM (s, w, m) = true → ∀ i, i < m.length → (m.getD i zE).1 = true → LvR (m.getD i zE).2.1 := fun he i hi hv => either_lv (t := (s, w, m)) he hi hv
  refine ⟨lookX s w m va asid, lookL1 s w m va asid, fun l : Int => (3 - l).toNat, lookL2 s w m va asid, fun x : Int × Nat => m.length - x.2, two_loop1 .., two_loop2 _ _ _ _ (by decide), fun x hx => ?_, fun (l : Int) hl => vc_by (vc_slook_r1_eq s w m va asid l) ?_, vc_by (vc_slook_eq s w m va asid) ?_⟩
  · obtain ⟨l, i⟩ : Int × Nat := x
    obtain ⟨he, ⟨l0, l1, hA⟩, hi, hb⟩ : eitherM (s, w, m) = true ∧ (0 ≤ l ∧ l ≤ 2 ∧ AboveR va asid m l) ∧ i ≤ m.length ∧ ∀ j, j < i → fitsM (m.getD j zE) va asid = true → (m.getD j zE).2.1 ≠ l := hx
    refine vc_by (vc_slook_r2_eq s w m va asid l i) ⟨fun g => ?_, fun g => ?_⟩
    · have g : (i : Int) < m.length := of_decide_eq_true g
      have hlt : i < m.length := by omega
      rw [next_i64 h hlt, show 0 + (i : Int).toNat = i by omega, show El.zero shE = zE from rfl]
      have hm := h4 _ (get_mem hlt zE)
      have hv := hlv he i hlt
      have hit : (m.getD i zE).2.1 = l → fitsM (m.getD i zE) va asid = true → findM va asid m = (true, (i : Int), (m.getD i zE).2.1, (m.getD i zE).2.2.2.2.2) := by
        intro e1 e2
        exact findP_hit hlt e2 (by rw [e1]; exact hA) (by rw [e1]; exact hb) hlt (Nat.le_refl _)
      have hnx : (m.getD i zE).2.1 ≠ l ∨ fitsM (m.getD i zE) va asid = false → ∀ j, j < i + 1 → fitsM (m.getD j zE) va asid = true → (m.getD j zE).2.1 ≠ l := by
        intro q j hj hf
        rcases Nat.lt_or_ge j i with z | z
        · exact hb j z hf
        · have : j = i := by omega
          subst this
          rcases q with q | q
          · exact q
          · rw [q] at hf; cases hf
      generalize m.getD i zE = e at *
      obtain ⟨a, b, c, d, k, f⟩ := e
      have hi2 : (0 : Int) ≤ i ∧ (i : Int) < m.length := ⟨by omega, by omega⟩
      refine ⟨hi2, hlt, fun _ => hi2, fun _ => hlt, fun _ => ⟨hm, hv, h5⟩, fun q => ?_, fun q => ?_⟩
      · rw [Bool.cond_false_right, Bool.and_eq_true] at q
        have q1 : b = l := by simpa using q.1
        have := hit q1 q.2
        rw [this]
        exact ⟨hi2, hlt, (), ⟨rfl, rfl, rfl, q1, rfl⟩, trivial⟩
      · rw [Bool.cond_false_right, Bool.and_eq_false_iff] at q
        refine ⟨(l, i + 1), ⟨rfl, rfl, rfl, rfl, rfl, rfl, rfl, rfl, rfl, rfl, rfl, rfl, rfl⟩, ⟨he, ⟨l0, l1, hA⟩, by simp only; omega, hnx ?_⟩, by simp only; omega, fun _ z => z, fun _ _ => trivial⟩
        rcases q with q | q
        · exact .inl (by simpa using q)
        · exact .inr q
    · have g : ¬ (i : Int) < m.length := of_decide_eq_false g
      have : i = m.length := by omega
      subst this
      refine ⟨l, ⟨rfl, rfl, rfl, rfl, rfl, rfl, rfl, rfl, rfl, rfl, rfl, rfl⟩, rfl, fun j hj hf => ?_⟩
      have p1 := hA j hj hf
      have p2 := hb j hj hf
      omega
  · obtain ⟨he, l0, l1, hA⟩ : eitherM (s, w, m) = true ∧ 0 ≤ l ∧ l ≤ 3 ∧ AboveR va asid m l := hl
    refine ⟨fun g => ?_, fun g => ?_⟩
    · have g : l ≤ 2 := of_decide_eq_true g
      refine ⟨(l, 0), ⟨rfl, rfl, rfl, rfl, rfl, rfl, rfl, rfl, rfl, rfl, rfl, rfl, rfl⟩, ⟨he, ⟨l0, g, hA⟩, Nat.zero_le _, fun j hj => absurd hj (Nat.not_lt_zero _)⟩, fun z hz => ?_, fun _ _ => ⟨(), ⟨rfl, rfl, rfl, rfl, rfl⟩, trivial⟩⟩
      have hz0 : z = l := hz.1
      have hz1 : AboveR va asid m (l + 1) := hz.2
      rw [hz0, wrap_i64_in (by omega) (by omega)]
      exact ⟨l + 1, ⟨rfl, rfl, rfl, rfl, rfl, rfl, rfl, rfl, rfl, rfl, rfl, rfl⟩, ⟨he, by omega, by omega, hz1⟩, by omega, fun _ z => z, fun _ _ => trivial⟩
    · have g : ¬ l ≤ 2 := of_decide_eq_false g
      refine ⟨(), ⟨rfl, rfl, rfl, rfl, rfl⟩, ?_⟩
      refine findP_none (fun i hi => ?_)
      cases z : fitsM (m.getD i zE) va asid with
      | false => rfl
      | true =>
        have p1 := hA i hi z
        have p2 := hlv he i hi (by simp only [fitsM, Bool.and_eq_true] at z; exact z.1.1)
        unfold LvR at p2
        omega
  · refine ⟨⟨rfl, h1, h2, h, h4⟩, fun q => ?_, fun q => ?_⟩
    · have he : eitherM (s, w, m) = false := by simpa using q
      have el : lookM (s, w, m) va asid = (false, 0, 0, 0) := by simp [lookM, he]
      rw [el]
      exact ⟨rfl, rfl, rfl, rfl, rfl⟩
    · have he : eitherM (s, w, m) = true := by simpa using q
      have el : lookM (s, w, m) va asid = findM va asid m := by simp [lookM, he]
      rw [el]
      refine ⟨0, ⟨rfl, rfl, rfl, rfl, rfl, rfl, rfl, rfl, rfl, rfl, rfl, rfl⟩, ⟨he, by omega, by omega, fun i hi hf => ?_⟩, fun _ z => ?_, fun _ _ => ⟨rfl, rfl, rfl, rfl, rfl⟩⟩
      · have p2 := hlv he i hi (by simp only [fitsM, Bool.and_eq_true] at hf; exact hf.1.1)
        unfold LvR at p2
        omega
      · rw [z]
        exact ⟨rfl, rfl, rfl, rfl, rfl⟩
theorem ilook_ok : Sound Try.prog 45 (pureS [tlP, u64, u64] [hitP] (fun t => some (TlR t.1 ∧ U64 t.2.1)) (fun t => lookM t.1 t.2.1 t.2.2)) := by
  refine pure_plain mixed Try.func45 (by kernel_rfl) (by kernel_rfl) FF4_ok (fun t h => ?_)
  obtain ⟨⟨s, w, m⟩, va, asid⟩ : Tl × Int × Int := t
  obtain ⟨ht, h5⟩ : TlR (s, w, m) ∧ U64 va := h
  refine vc_by (vc_ilook_eq s w m va asid) ⟨⟨rfl, ht⟩, fun q => ?_, fun q => ?_⟩
  · have he : eitherM (s, w, m) = false := by simpa using q
    have el : lookM (s, w, m) va asid = (false, 0, 0, 0) := by simp [lookM, he]
    rw [el]
    exact ⟨rfl, rfl, rfl, rfl, rfl⟩
  · have he : eitherM (s, w, m) = true := by simpa using q
    have el : lookM (s, w, m) va asid = findM va asid m := by simp [lookM, he]
    rw [el]
    exact ⟨⟨rfl, he, ht, h5⟩, rfl, rfl, rfl, rfl, rfl⟩
theorem kH_ok : KnowsD Try.prog kH := .cons (by kernel_rfl) slook_ok <| .cons (by kernel_rfl) ilook_ok kF4_ok
theorem FH_ok : DictOk Try.prog FH := mkD_ok ((kH_ok.append kE3_ok).append kA4_ok) .nil .nil
theorem lawLook_ok : Canon Try.prog 12 [tlP, u64, u64] [bl] (WfPs [tlP, u64, u64]) (fun _ => true) := by
  refine canon_plain mixed Try.func12 (by kernel_rfl) (by kernel_rfl) FH_ok (fun t h => ?_)
  obtain ⟨⟨s, w, m⟩, va, asid⟩ : Tl × Int × Int := t
  obtain ⟨h1, h2, h3, h4⟩ := wf_tl (t := (s, w, m)) h.1
  have hv : U64 va := wf_u64 h.2.1
  refine ⟨.none, vc_by (vc_lawLook_eq s w m va asid) ⟨⟨rfl, h3, by show (0 : Int) ≤ 1048576; decide, by show (1048576 : Int) ≤ 1048576; decide⟩, fun _ => ⟨rfl, rfl⟩, fun g => ?_⟩⟩
  have hz : SzR m.length := sz_ok (Int.le_refl _) (of_decide_eq_false g)
  have ht : TlR (s, w, m) := ⟨h1, h2, hz, h4⟩
  simp [hz, ht, hv]
end Go.Proofs.Ytfiddfbagbaofaa.V
