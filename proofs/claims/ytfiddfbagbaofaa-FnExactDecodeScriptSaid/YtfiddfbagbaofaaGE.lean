/- The laws' helpers on entries and caches, and small things on rows, answer as their models. Conditions: those in each statement. -/
import Derived.Test.YtfiddfbagbaofaaGC
import Derived.KernelRfl
namespace Go.Proofs.Ytfiddfbagbaofaa.V
open Go

abbrev shE : List Ty := [.b, .i .i64, .i .u64, .i .u64, .b, .i .u64]
abbrev En := Bool × Int × Int × Int × Bool × Int
abbrev Es := List En
abbrev enP : Pm := .st [.b, .i .i64, .i .u64, .i .u64, .b, .i .u64]
abbrev esP : Pm := .one (.sl shE)
abbrev tlP : Pm := .st [.i .i64, .i .i64, .sl shE]
abbrev Tl := Int × Int × Es
abbrev hitP : Pm := .st [.b, .i .i64, .i .i64, .i .u64]
abbrev wsP : Pm := .one (.sl [.i .i64])
def szM (n : Nat) (k : Int) : Int := if (n : Int) ≤ k then k - n else -1
def zE : En := (false, 0, 0, 0, false, 0)
/-- What marking writes. -/
def markE (k : Int) : En := (k.tmod 3 == 0, k + 1, k + 2, k + 3, (k + 4).tmod 3 == 0, k + 5)
def markEs (k : Int) (n : Nat) : Es := (List.range n).map fun i : Nat => markE (k + 6 * (i : Int))
def idxOf (v : Int) (xs : List Int) : Option Nat := xs.findIdx? (· == v)
def hasM (xs : List Int) (v : Int) : Bool := xs.contains v

def vc_toEntry (a : Bool) (b c d : Int) (e : Bool) (f : Int) : Prop := vcPure Try.prog F0 .none Try.f53 [enP] [enP] (a, b, c, d, e, f) (a, b, c, d, e, f)
def vc_eqEntry (a : Bool) (b c d : Int) (e : Bool) (f : Int) : Prop := vcPure Try.prog F0 .none Try.f189 [enP, enP] [bl] ((a, b, c, d, e, f), (a, b, c, d, e, f)) true
def vc_eqHit (a : Bool) (b c d : Int) : Prop := vcPure Try.prog F0 .none Try.f46 [hitP, hitP] [bl] ((a, b, c, d), (a, b, c, d)) true
def vc_szEs (m : Es) (k : Int) : Prop := vcPure Try.prog F0 .none Try.f110 [esP, i64] [i64] (m, k) (szM m.length k)
def vc_cloneEs (m : Es) : Prop := vcPure Try.prog F0 .none Try.f195 [esP] [esP] m m
def markEL (m : Es) (k : Int) : LoopS where
  α := Nat
  I i := i ≤ m.length
  sl i := slots 62 [(0, .sl 0 6 0 m.length), (1, .v (.int .i64 (k + 6 * (i : Int)))), (5, .v (.int .i64 i))]
  H i := [.arr shE (markEs k i ++ m.drop i) true]
  fams := [{ β := Unit, out := fun _ _ => True, ex := .ext 0, sl := fun _ => slots 62 [(1, .v (.int .i64 (k + 6 * m.length)))], H := fun _ => [.arr shE (markEs k m.length) true] }]
/-- Behind each store: the row so far has a name. -/
def markEX (m : Es) (k : Int) : Specs := { Specs.one 2 (markEL m k) with cut := fun r => if r = 6 ∨ r = 8 ∨ r = 10 ∨ r = 12 ∨ r = 14 ∨ r = 3 then some (CutS.mk (Int × Int × Es) (fun z => slots 62 [(0, .sl 0 6 0 m.length), (1, .v (.int .i64 z.2.1)), (5, .v (.int .i64 z.1))]) (fun z => [.arr shE z.2.2 true])) else none }
def vc_markEs_r (m : Es) (k : Int) (i : Nat) : Prop := vcRound Try.prog F0 (markEX m k) 1 (loopAt Try.f132 0) (markEL m k) (fun i : Nat => m.length - i) i
def vc_markEs (m : Es) (k : Int) : Prop := vcMut Try.prog F0 (markEX m k) Try.f132 [esP, i64] [i64] (m, k) ((markEs k m.length, k), k + 6 * m.length)
def heldEL (m : Es) (k : Int) : LoopS where
  α := Nat
  I i := i ≤ m.length
  sl i := slots 74 [(0, .sl 0 6 0 m.length), (1, .v (.int .i64 (k + 6 * (i : Int)))), (5, .v (.int .i64 i))]
  H _ := [.arr shE m false]
  fams := [{ β := Unit, out := fun _ _ => True, ex := .ext 0, sl := fun _ => slots 74 [(1, .v (.int .i64 (k + 6 * m.length)))], H := fun _ => [.arr shE m false] }]
def vc_heldEs_r (m : Es) (k : Int) (i : Nat) : Prop := vcRound Try.prog F0 (.one 2 (heldEL m k)) 1 (loopAt Try.f133 0) (heldEL m k) (fun i : Nat => m.length - i) i
def vc_heldEs (m : Es) (k : Int) : Prop := vcPure Try.prog F0 (.one 2 (heldEL m k)) Try.f133 [esP, i64] [i64] (m, k) (k + 6 * m.length)
def idxL (m : List Int) (v : Int) : LoopS where
  α := Nat
  I i := i ≤ m.length ∧ ∀ j, j < i → m.getD j 0 ≠ v
  sl i := slots 19 [(0, .sl 0 1 0 m.length), (1, .v (.int .i64 v)), (7, .v (.int .i64 m.length)), (8, .v (.int .i64 i))]
  H _ := [.arr [.i .i64] m false]
  fams := [{ β := Unit, out := fun _ _ => idxOf v m = none, ex := .ext 0, sl := fun _ => slots 19 [], H := fun _ => [.arr [.i .i64] m false] },
    { β := Nat, out := fun _ j => idxOf v m = some j, ex := .ret, sl := fun j => slots 19 [(4, .v (.int .i64 j))], H := fun _ => [.arr [.i .i64] m false] }]
def idxRes (o : Option Nat) : Int := match o with | some i => i | none => -1
def vc_idx_r (m : List Int) (v : Int) (i : Nat) : Prop := vcRound Try.prog F0 (.one 2 (idxL m v)) 1 (loopAt Try.f209 0) (idxL m v) (fun i : Nat => m.length - i) i
def vc_idx (m : List Int) (v : Int) : Prop := vcPure Try.prog F0 (.one 2 (idxL m v)) Try.f209 [wsP, i64] [i64] (m, v) (idxRes (idxOf v m))
def kE1 : Known := [
  (53, pureS [enP] [enP] (fun _ => none) (fun e => e)),
  (189, pureS [enP, enP] [bl] (fun t => some (t.1 = t.2)) (fun _ => true)),
  (46, pureS [hitP, hitP] [bl] (fun t => some (t.1 = t.2)) (fun _ => true)),
  (110, pureS [esP, i64] [i64] (fun t => some (t.1.length ≤ maxLen ∧ 0 ≤ t.2 ∧ t.2 ≤ 1048576)) (fun t => szM t.1.length t.2)),
  (195, pureS [esP] [esP] (fun m => some (SzR m.length)) (fun m => m)),
  (132, mutS [esP, i64] [i64] (fun t => some (MarkR t.1.length t.2)) (fun t => ((markEs t.2 t.1.length, t.2), t.2 + 6 * t.1.length))),
  (133, pureS [esP, i64] [i64] (fun t => some (MarkR t.1.length t.2 ∧ t.1 = markEs t.2 t.1.length)) (fun t => t.2 + 6 * t.1.length)),
  (209, pureS [wsP, i64] [i64] (fun t => some (SzR t.1.length)) (fun t => idxRes (idxOf t.2 t.1)))]
def FE1 : Dict := mkD kE1 [] []

def toEsL (m : Es) : LoopS where
  α := Nat
  I i := i ≤ m.length
  sl i := slots 23 [(0, .sl 0 6 0 m.length), (3, .sl 1 6 0 m.length), (4, .v (.int .i64 i))]
  H i := [.arr shE m false, .arr shE (m.take i ++ List.replicate (m.length - i) zE) true]
  fams := [{ β := Unit, out := fun _ _ => True, ex := .ext 0, sl := fun _ => slots 23 [(3, .sl 1 6 0 m.length)], H := fun _ => [.arr shE m false, .arr shE m true] }]
def vc_toEs_r (m : Es) (i : Nat) : Prop := vcRound Try.prog FE1 (.one 3 (toEsL m)) 1 (loopAt Try.f112 0) (toEsL m) (fun i : Nat => m.length - i) i
def vc_toEs (m : Es) : Prop := vcPure Try.prog FE1 (.one 3 (toEsL m)) Try.f112 [esP] [esP] m m
def eqEsL (m n : Es) : LoopS where
  α := Nat
  I i := i ≤ m.length
  sl i := slots 27 [(0, .sl 0 6 0 m.length), (1, .sl 1 6 0 n.length), (5, .v (.int .i64 i))]
  H _ := [.arr shE m false, .arr shE n false]
  fams := [{ β := Unit, out := fun _ _ => True, ex := .ext 0, sl := fun _ => slots 27 [], H := fun _ => [.arr shE m false, .arr shE n false] }]
def vc_eqEs_r (m n : Es) (i : Nat) : Prop := vcRound Try.prog FE1 (.one 4 (eqEsL m n)) 2 (loopAt Try.f115 0) (eqEsL m n) (fun i : Nat => m.length - i) i
def vc_eqEs (m n : Es) : Prop := vcPure Try.prog FE1 (.one 4 (eqEsL m n)) Try.f115 [esP, esP] [bl] (m, n) true
def vc_szTlb (a b : Int) (m : Es) (k : Int) : Prop := vcPure Try.prog FE1 .none Try.f39 [tlP, i64] [i64] ((a, b, m), k) (szM m.length k)
def vc_markTlb (a b : Int) (m : Es) (k : Int) : Prop := vcMut Try.prog FE1 .none Try.f55 [tlP, i64] [i64] ((a, b, m), k) (((a, b, markEs k m.length), k), k + 6 * m.length)
def vc_heldTlb (a b : Int) (m : Es) (k : Int) : Prop := vcPure Try.prog FE1 .none Try.f56 [tlP, i64] [i64] ((a, b, m), k) (k + 6 * m.length)
def vc_contains (m : List Int) (v : Int) : Prop := vcPure Try.prog FE1 .none Try.f186 [wsP, i64] [bl] (m, v) (hasM m v)
def vc_iclone (a b : Int) (m : Es) : Prop := vcPure Try.prog FE1 .none Try.f128 [tlP] [tlP] (a, b, m) (a, b, m)
def vc_scopy (a b : Int) (m : Es) : Prop := vcPure Try.prog FE1 .none Try.f127 [tlP] [tlP] (a, b, m) (a, b, m)
def kE2 : Known := [
  (112, pureS [esP] [esP] (fun m => some (SzR m.length)) (fun m => m)),
  (115, pureS [esP, esP] [bl] (fun t => some (t.1 = t.2 ∧ SzR t.1.length)) (fun _ => true)),
  (39, pureS [tlP, i64] [i64] (fun t => some (t.1.2.2.length ≤ maxLen ∧ 0 ≤ t.2 ∧ t.2 ≤ 1048576)) (fun t => szM t.1.2.2.length t.2)),
  (55, mutS [tlP, i64] [i64] (fun t => some (MarkR t.1.2.2.length t.2)) (fun t => (((t.1.1, t.1.2.1, markEs t.2 t.1.2.2.length), t.2), t.2 + 6 * t.1.2.2.length))),
  (56, pureS [tlP, i64] [i64] (fun t => some (MarkR t.1.2.2.length t.2 ∧ t.1.2.2 = markEs t.2 t.1.2.2.length)) (fun t => t.2 + 6 * t.1.2.2.length)),
  (186, pureS [wsP, i64] [bl] (fun t => some (SzR t.1.length)) (fun t => hasM t.1 t.2)),
  (128, pureS [tlP] [tlP] (fun t => some (SzR t.2.2.length)) (fun t => t)),
  (127, pureS [tlP] [tlP] (fun t => some (SzR t.2.2.length)) (fun t => t))] ++ kE1
def FE2 : Dict := mkD kE2 [] []

def vc_toTlb (a b : Int) (m : Es) : Prop := vcPure Try.prog FE2 .none Try.f41 [tlP] [tlP] (a, b, m) (a, b, m)
def vc_eqTlb (a b : Int) (m : Es) : Prop := vcPure Try.prog FE2 .none Try.f43 [tlP, tlP] [bl] ((a, b, m), (a, b, m)) true
def kE3 : Known := [
  (41, pureS [tlP] [tlP] (fun t => some (SzR t.2.2.length)) (fun t => t)),
  (43, pureS [tlP, tlP] [bl] (fun t => some (t.1 = t.2 ∧ SzR t.1.2.2.length)) (fun _ => true))] ++ kE2
end Go.Proofs.Ytfiddfbagbaofaa.V
namespace Go.Proofs.Ytfiddfbagbaofaa.V
open Go
set_option linter.unusedVariables false
theorem vc_toEntry_eq (a : Bool) (b c d : Int) (e : Bool) (f : Int) : vc_toEntry a b c d e f = (
 a = a ∧ b = b ∧ c = c ∧ d = d ∧ e = e ∧ f = f) := by kernel_rfl
theorem vc_eqEntry_eq (a : Bool) (b c d : Int) (e : Bool) (f : Int) : vc_eqEntry a b c d e f = (
 ((!a == a) = true → true = false) ∧
   ((!a == a) = false →
     ((b != b) = true → true = false) ∧
       ((b != b) = false →
         ((c != c) = true → true = false) ∧
           ((c != c) = false →
             ((d != d) = true → true = false) ∧ ((d != d) = false → ((!e == e) = true → true = false) ∧ ((!e == e) = false → ((f != f) = true → true = false) ∧ ((f != f) = false → true = true))))))) := by kernel_rfl
theorem vc_eqHit_eq (a : Bool) (b c d : Int) : vc_eqHit a b c d = (
 ((!a == a) = true → true = false) ∧
   ((!a == a) = false →
     ((b != b) = true → true = false) ∧ ((b != b) = false → ((c != c) = true → true = false) ∧ ((c != c) = false → ((d != d) = true → true = false) ∧ ((d != d) = false → true = true))))) := by kernel_rfl
theorem vc_szEs_eq (m : Es) (k : Int) : vc_szEs m k = (
 (decide (IntKind.i64.wrap (k - (↑(List.length m) : Int)) < (0 : Int)) = true → szM (List.length m) k = (-1 : Int) ∧ m = m) ∧
   (decide (IntKind.i64.wrap (k - (↑(List.length m) : Int)) < (0 : Int)) = false → szM (List.length m) k = IntKind.i64.wrap (k - (↑(List.length m) : Int)) ∧ m = m)) := by kernel_rfl
theorem vc_cloneEs_eq (m : Es) : vc_cloneEs m = (
 (List.length m = (0 : Nat) → (0 : Nat) = (0 : Nat) ∧ List.length m = (0 : Nat) ∧ m = m ∧ m = []) ∧
   ((0 : Nat) + List.length m ≤ List.length m ∧ (0 : Nat) ≤ (0 : Nat) ∧ (0 : Nat) + (List.take (List.length m) (List.drop (0 : Nat) m)).length ≤ (1073741824 : Nat)) ∧
     (0 : Nat) = (0 : Nat) ∧ List.length m = (0 : Nat) + (List.take (List.length m) (List.drop (0 : Nat) m)).length ∧ m = m ∧ m = [] ++ List.take (List.length m) (List.drop (0 : Nat) m)) := by kernel_rfl
theorem vc_markEs_r_eq (m : Es) (k : Int) (i : Nat) : vc_markEs_r m k i = (
 (decide ((↑i : Int) < (↑(List.length m) : Int)) = true →
     (3 : Int) ≠ (0 : Int) ∧
       ((0 : Int) ≤ (↑i : Int) ∧ (↑i : Int) < (↑(List.length m) : Int)) ∧
         (0 : Nat) + (↑i : Int).toNat < List.length (markEs k i ++ List.drop i m) ∧
           ∃ (z : Int × Int × Es),
             ((0 : Nat) = (0 : Nat) ∧
                 List.length m = List.length m ∧
                   z.snd.fst = IntKind.i64.wrap (k + (6 : Int) * (↑i : Int) + (1 : Int)) ∧
                     z.fst = (↑i : Int) ∧
                       z.snd.snd =
                         List.set (markEs k i ++ List.drop i m) ((0 : Nat) + (↑i : Int).toNat)
                           ((k + (6 : Int) * (↑i : Int)).tmod (3 : Int) == (0 : Int), (List.getD (markEs k i ++ List.drop i m) ((0 : Nat) + (↑i : Int).toNat) (El.zero shE)).snd.fst,
                             (List.getD (markEs k i ++ List.drop i m) ((0 : Nat) + (↑i : Int).toNat) (El.zero shE)).snd.snd.fst,
                             (List.getD (markEs k i ++ List.drop i m) ((0 : Nat) + (↑i : Int).toNat) (El.zero shE)).snd.snd.snd.fst,
                             (List.getD (markEs k i ++ List.drop i m) ((0 : Nat) + (↑i : Int).toNat) (El.zero shE)).snd.snd.snd.snd.fst,
                             (List.getD (markEs k i ++ List.drop i m) ((0 : Nat) + (↑i : Int).toNat) (El.zero shE)).snd.snd.snd.snd.snd)) ∧
               ((0 : Int) ≤ z.fst ∧ z.fst < (↑(List.length m) : Int)) ∧
                 (0 : Nat) + z.fst.toNat < List.length z.snd.snd ∧
                   ∃ (z_1 : Int × Int × Es),
                     ((0 : Nat) = (0 : Nat) ∧
                         List.length m = List.length m ∧
                           z_1.snd.fst = IntKind.i64.wrap (z.snd.fst + (1 : Int)) ∧
                             z_1.fst = z.fst ∧
                               z_1.snd.snd =
                                 List.set z.snd.snd ((0 : Nat) + z.fst.toNat)
                                   ((List.getD z.snd.snd ((0 : Nat) + z.fst.toNat) (El.zero shE)).fst, z.snd.fst, (List.getD z.snd.snd ((0 : Nat) + z.fst.toNat) (El.zero shE)).snd.snd.fst,
                                     (List.getD z.snd.snd ((0 : Nat) + z.fst.toNat) (El.zero shE)).snd.snd.snd.fst, (List.getD z.snd.snd ((0 : Nat) + z.fst.toNat) (El.zero shE)).snd.snd.snd.snd.fst,
                                     (List.getD z.snd.snd ((0 : Nat) + z.fst.toNat) (El.zero shE)).snd.snd.snd.snd.snd)) ∧
                       ((0 : Int) ≤ z_1.fst ∧ z_1.fst < (↑(List.length m) : Int)) ∧
                         (0 : Nat) + z_1.fst.toNat < List.length z_1.snd.snd ∧
                           ∃ (z : Int × Int × Es),
                             ((0 : Nat) = (0 : Nat) ∧
                                 List.length m = List.length m ∧
                                   z.snd.fst = IntKind.i64.wrap (z_1.snd.fst + (1 : Int)) ∧
                                     z.fst = z_1.fst ∧
                                       z.snd.snd =
                                         List.set z_1.snd.snd ((0 : Nat) + z_1.fst.toNat)
                                           ((List.getD z_1.snd.snd ((0 : Nat) + z_1.fst.toNat) (El.zero shE)).fst, (List.getD z_1.snd.snd ((0 : Nat) + z_1.fst.toNat) (El.zero shE)).snd.fst,
                                             IntKind.u64.wrap z_1.snd.fst, (List.getD z_1.snd.snd ((0 : Nat) + z_1.fst.toNat) (El.zero shE)).snd.snd.snd.fst,
                                             (List.getD z_1.snd.snd ((0 : Nat) + z_1.fst.toNat) (El.zero shE)).snd.snd.snd.snd.fst,
                                             (List.getD z_1.snd.snd ((0 : Nat) + z_1.fst.toNat) (El.zero shE)).snd.snd.snd.snd.snd)) ∧
                               ((0 : Int) ≤ z.fst ∧ z.fst < (↑(List.length m) : Int)) ∧
                                 (0 : Nat) + z.fst.toNat < List.length z.snd.snd ∧
                                   ∃ (z_2 : Int × Int × Es),
                                     ((0 : Nat) = (0 : Nat) ∧
                                         List.length m = List.length m ∧
                                           z_2.snd.fst = IntKind.i64.wrap (z.snd.fst + (1 : Int)) ∧
                                             z_2.fst = z.fst ∧
                                               z_2.snd.snd =
                                                 List.set z.snd.snd ((0 : Nat) + z.fst.toNat)
                                                   ((List.getD z.snd.snd ((0 : Nat) + z.fst.toNat) (El.zero shE)).fst, (List.getD z.snd.snd ((0 : Nat) + z.fst.toNat) (El.zero shE)).snd.fst,
                                                     (List.getD z.snd.snd ((0 : Nat) + z.fst.toNat) (El.zero shE)).snd.snd.fst, IntKind.u64.wrap z.snd.fst,
                                                     (List.getD z.snd.snd ((0 : Nat) + z.fst.toNat) (El.zero shE)).snd.snd.snd.snd.fst,
                                                     (List.getD z.snd.snd ((0 : Nat) + z.fst.toNat) (El.zero shE)).snd.snd.snd.snd.snd)) ∧
                                       (3 : Int) ≠ (0 : Int) ∧
                                         ((0 : Int) ≤ z_2.fst ∧ z_2.fst < (↑(List.length m) : Int)) ∧
                                           (0 : Nat) + z_2.fst.toNat < List.length z_2.snd.snd ∧
                                             ∃ (z : Int × Int × Es),
                                               ((0 : Nat) = (0 : Nat) ∧
                                                   List.length m = List.length m ∧
                                                     z.snd.fst = IntKind.i64.wrap (z_2.snd.fst + (1 : Int)) ∧
                                                       z.fst = z_2.fst ∧
                                                         z.snd.snd =
                                                           List.set z_2.snd.snd ((0 : Nat) + z_2.fst.toNat)
                                                             ((List.getD z_2.snd.snd ((0 : Nat) + z_2.fst.toNat) (El.zero shE)).fst,
                                                               (List.getD z_2.snd.snd ((0 : Nat) + z_2.fst.toNat) (El.zero shE)).snd.fst,
                                                               (List.getD z_2.snd.snd ((0 : Nat) + z_2.fst.toNat) (El.zero shE)).snd.snd.fst,
                                                               (List.getD z_2.snd.snd ((0 : Nat) + z_2.fst.toNat) (El.zero shE)).snd.snd.snd.fst, z_2.snd.fst.tmod (3 : Int) == (0 : Int),
                                                               (List.getD z_2.snd.snd ((0 : Nat) + z_2.fst.toNat) (El.zero shE)).snd.snd.snd.snd.snd)) ∧
                                                 ((0 : Int) ≤ z.fst ∧ z.fst < (↑(List.length m) : Int)) ∧
                                                   (0 : Nat) + z.fst.toNat < List.length z.snd.snd ∧
                                                     ∃ (z_3 : Int × Int × Es),
                                                       ((0 : Nat) = (0 : Nat) ∧
                                                           List.length m = List.length m ∧
                                                             z_3.snd.fst = IntKind.i64.wrap (z.snd.fst + (1 : Int)) ∧
                                                               z_3.fst = z.fst ∧
                                                                 z_3.snd.snd =
                                                                   List.set z.snd.snd ((0 : Nat) + z.fst.toNat)
                                                                     ((List.getD z.snd.snd ((0 : Nat) + z.fst.toNat) (El.zero shE)).fst,
                                                                       (List.getD z.snd.snd ((0 : Nat) + z.fst.toNat) (El.zero shE)).snd.fst,
                                                                       (List.getD z.snd.snd ((0 : Nat) + z.fst.toNat) (El.zero shE)).snd.snd.fst,
                                                                       (List.getD z.snd.snd ((0 : Nat) + z.fst.toNat) (El.zero shE)).snd.snd.snd.fst,
                                                                       (List.getD z.snd.snd ((0 : Nat) + z.fst.toNat) (El.zero shE)).snd.snd.snd.snd.fst, IntKind.u64.wrap z.snd.fst)) ∧
                                                         ∃ (y : Nat),
                                                           ((0 : Nat) = (0 : Nat) ∧
                                                               List.length m = List.length m ∧
                                                                 k + (6 : Int) * (↑y : Int) = z_3.snd.fst ∧
                                                                   (↑y : Int) = IntKind.i64.wrap (z_3.fst + (1 : Int)) ∧ markEs k y ++ List.drop y m = z_3.snd.snd) ∧
                                                             y ≤ List.length m ∧ List.length m - y < List.length m - i ∧ ∀ (z : Unit), True → True) ∧
   (decide ((↑i : Int) < (↑(List.length m) : Int)) = false →
     ∃ (z : Unit), (k + (6 : Int) * (↑(List.length m) : Int) = k + (6 : Int) * (↑i : Int) ∧ markEs k (List.length m) = markEs k i ++ List.drop i m) ∧ True)) := by kernel_rfl
theorem vc_markEs_eq (m : Es) (k : Int) : vc_markEs m k = (
 ∃ (x : Nat),
   ((0 : Nat) = (0 : Nat) ∧ List.length m = List.length m ∧ k + (6 : Int) * (↑x : Int) = k ∧ (↑x : Int) = (0 : Int) ∧ markEs k x ++ List.drop x m = m) ∧
     x ≤ List.length m ∧ ∀ (z : Unit), True → k + (6 : PmT [i64]) * (↑(List.length m) : PmT [i64]) = k + (6 : Int) * (↑(List.length m) : Int) ∧ markEs k (List.length m) = markEs k (List.length m)) := by kernel_rfl
theorem vc_heldEs_r_eq (m : Es) (k : Int) (i : Nat) : vc_heldEs_r m k i = (
 (decide ((↑i : Int) < (↑(List.length m) : Int)) = true →
     ((0 : Int) ≤ (↑i : Int) ∧ (↑i : Int) < (↑(List.length m) : Int)) ∧
       (0 : Nat) + (↑i : Int).toNat < List.length m ∧
         (3 : Int) ≠ (0 : Int) ∧
           ((!(List.getD m ((0 : Nat) + (↑i : Int).toNat) (El.zero shE)).fst == ((k + (6 : Int) * (↑i : Int)).tmod (3 : Int) == (0 : Int))) = true → False) ∧
             ((!(List.getD m ((0 : Nat) + (↑i : Int).toNat) (El.zero shE)).fst == ((k + (6 : Int) * (↑i : Int)).tmod (3 : Int) == (0 : Int))) = false →
               ((0 : Int) ≤ (↑i : Int) ∧ (↑i : Int) < (↑(List.length m) : Int)) ∧
                 (0 : Nat) + (↑i : Int).toNat < List.length m ∧
                   (((List.getD m ((0 : Nat) + (↑i : Int).toNat) (El.zero shE)).snd.fst != IntKind.i64.wrap (k + (6 : Int) * (↑i : Int) + (1 : Int))) = true → False) ∧
                     (((List.getD m ((0 : Nat) + (↑i : Int).toNat) (El.zero shE)).snd.fst != IntKind.i64.wrap (k + (6 : Int) * (↑i : Int) + (1 : Int))) = false →
                       ((0 : Int) ≤ (↑i : Int) ∧ (↑i : Int) < (↑(List.length m) : Int)) ∧
                         (0 : Nat) + (↑i : Int).toNat < List.length m ∧
                           (((List.getD m ((0 : Nat) + (↑i : Int).toNat) (El.zero shE)).snd.snd.fst !=
                                   IntKind.u64.wrap (IntKind.i64.wrap (IntKind.i64.wrap (k + (6 : Int) * (↑i : Int) + (1 : Int)) + (1 : Int)))) =
                                 true →
                               False) ∧
                             (((List.getD m ((0 : Nat) + (↑i : Int).toNat) (El.zero shE)).snd.snd.fst !=
                                   IntKind.u64.wrap (IntKind.i64.wrap (IntKind.i64.wrap (k + (6 : Int) * (↑i : Int) + (1 : Int)) + (1 : Int)))) =
                                 false →
                               ((0 : Int) ≤ (↑i : Int) ∧ (↑i : Int) < (↑(List.length m) : Int)) ∧
                                 (0 : Nat) + (↑i : Int).toNat < List.length m ∧
                                   (((List.getD m ((0 : Nat) + (↑i : Int).toNat) (El.zero shE)).snd.snd.snd.fst !=
                                           IntKind.u64.wrap (IntKind.i64.wrap (IntKind.i64.wrap (IntKind.i64.wrap (k + (6 : Int) * (↑i : Int) + (1 : Int)) + (1 : Int)) + (1 : Int)))) =
                                         true →
                                       False) ∧
                                     (((List.getD m ((0 : Nat) + (↑i : Int).toNat) (El.zero shE)).snd.snd.snd.fst !=
                                           IntKind.u64.wrap (IntKind.i64.wrap (IntKind.i64.wrap (IntKind.i64.wrap (k + (6 : Int) * (↑i : Int) + (1 : Int)) + (1 : Int)) + (1 : Int)))) =
                                         false →
                                       ((0 : Int) ≤ (↑i : Int) ∧ (↑i : Int) < (↑(List.length m) : Int)) ∧
                                         (0 : Nat) + (↑i : Int).toNat < List.length m ∧
                                           (3 : Int) ≠ (0 : Int) ∧
                                             ((!(List.getD m ((0 : Nat) + (↑i : Int).toNat) (El.zero shE)).snd.snd.snd.snd.fst ==
                                                       ((IntKind.i64.wrap
                                                               (IntKind.i64.wrap (IntKind.i64.wrap (IntKind.i64.wrap (k + (6 : Int) * (↑i : Int) + (1 : Int)) + (1 : Int)) + (1 : Int)) +
                                                                 (1 : Int))).tmod
                                                           (3 : Int) ==
                                                         (0 : Int))) =
                                                   true →
                                                 False) ∧
                                               ((!(List.getD m ((0 : Nat) + (↑i : Int).toNat) (El.zero shE)).snd.snd.snd.snd.fst ==
                                                       ((IntKind.i64.wrap
                                                               (IntKind.i64.wrap (IntKind.i64.wrap (IntKind.i64.wrap (k + (6 : Int) * (↑i : Int) + (1 : Int)) + (1 : Int)) + (1 : Int)) +
                                                                 (1 : Int))).tmod
                                                           (3 : Int) ==
                                                         (0 : Int))) =
                                                   false →
                                                 ((0 : Int) ≤ (↑i : Int) ∧ (↑i : Int) < (↑(List.length m) : Int)) ∧
                                                   (0 : Nat) + (↑i : Int).toNat < List.length m ∧
                                                     (((List.getD m ((0 : Nat) + (↑i : Int).toNat) (El.zero shE)).snd.snd.snd.snd.snd !=
                                                             IntKind.u64.wrap
                                                               (IntKind.i64.wrap
                                                                 (IntKind.i64.wrap
                                                                     (IntKind.i64.wrap (IntKind.i64.wrap (IntKind.i64.wrap (k + (6 : Int) * (↑i : Int) + (1 : Int)) + (1 : Int)) + (1 : Int)) +
                                                                       (1 : Int)) +
                                                                   (1 : Int)))) =
                                                           true →
                                                         False) ∧
                                                       (((List.getD m ((0 : Nat) + (↑i : Int).toNat) (El.zero shE)).snd.snd.snd.snd.snd !=
                                                             IntKind.u64.wrap
                                                               (IntKind.i64.wrap
                                                                 (IntKind.i64.wrap
                                                                     (IntKind.i64.wrap (IntKind.i64.wrap (IntKind.i64.wrap (k + (6 : Int) * (↑i : Int) + (1 : Int)) + (1 : Int)) + (1 : Int)) +
                                                                       (1 : Int)) +
                                                                   (1 : Int)))) =
                                                           false →
                                                         ∃ (y : Nat),
                                                           ((0 : Nat) = (0 : Nat) ∧
                                                               List.length m = List.length m ∧
                                                                 k + (6 : Int) * (↑y : Int) =
                                                                     IntKind.i64.wrap
                                                                       (IntKind.i64.wrap
                                                                           (IntKind.i64.wrap
                                                                               (IntKind.i64.wrap (IntKind.i64.wrap (IntKind.i64.wrap (k + (6 : Int) * (↑i : Int) + (1 : Int)) + (1 : Int)) + (1 : Int)) +
                                                                                 (1 : Int)) +
                                                                             (1 : Int)) +
                                                                         (1 : Int)) ∧
                                                                   (↑y : Int) = IntKind.i64.wrap ((↑i : Int) + (1 : Int)) ∧ m = m) ∧
                                                             y ≤ List.length m ∧ List.length m - y < List.length m - i ∧ ∀ (z : Unit), True → True))))))) ∧
   (decide ((↑i : Int) < (↑(List.length m) : Int)) = false → ∃ (z : Unit), (k + (6 : Int) * (↑(List.length m) : Int) = k + (6 : Int) * (↑i : Int) ∧ m = m) ∧ True)) := by kernel_rfl
theorem vc_heldEs_eq (m : Es) (k : Int) : vc_heldEs m k = (
 ∃ (x : Nat),
   ((0 : Nat) = (0 : Nat) ∧ List.length m = List.length m ∧ k + (6 : Int) * (↑x : Int) = k ∧ (↑x : Int) = (0 : Int) ∧ m = m) ∧
     x ≤ List.length m ∧ ∀ (z : Unit), True → k + (6 : PmT [i64]) * (↑(List.length m) : PmT [i64]) = k + (6 : Int) * (↑(List.length m) : Int) ∧ m = m) := by kernel_rfl
theorem vc_idx_r_eq (m : List Int) (v : Int) (i : Nat) : vc_idx_r m v i = (
 (decide ((↑i : Int) < (↑m.length : Int)) = true →
     ((0 : Int) ≤ (↑i : Int) ∧ (↑i : Int) < (↑m.length : Int)) ∧
       (0 : Nat) + (↑i : Int).toNat < m.length ∧
         ((v == m.getD ((0 : Nat) + (↑i : Int).toNat) (El.zero [Ty.i IntKind.i64])) = true → ∃ (z : Nat), ((↑z : Int) = (↑i : Int) ∧ m = m) ∧ idxOf v m = some z) ∧
           ((v == m.getD ((0 : Nat) + (↑i : Int).toNat) (El.zero [Ty.i IntKind.i64])) = false →
             ∃ (y : Nat),
               ((0 : Nat) = (0 : Nat) ∧ m.length = m.length ∧ v = v ∧ (↑m.length : Int) = (↑m.length : Int) ∧ (↑y : Int) = IntKind.i64.wrap ((↑i : Int) + (1 : Int)) ∧ m = m) ∧
                 (y ≤ m.length ∧ ∀ (j : Nat), j < y → m.getD j (0 : Int) ≠ v) ∧
                   m.length - y < m.length - i ∧ (∀ (z : Unit), idxOf v m = none → idxOf v m = none) ∧ ∀ (z : Nat), idxOf v m = some z → idxOf v m = some z)) ∧
   (decide ((↑i : Int) < (↑m.length : Int)) = false → ∃ (z : Unit), m = m ∧ idxOf v m = none)) := by kernel_rfl
theorem vc_idx_eq (m : List Int) (v : Int) : vc_idx m v = (
 ∃ (x : Nat),
   ((0 : Nat) = (0 : Nat) ∧ m.length = m.length ∧ v = v ∧ (↑m.length : Int) = (↑m.length : Int) ∧ (↑x : Int) = (0 : Int) ∧ m = m) ∧
     (x ≤ m.length ∧ ∀ (j : Nat), j < x → m.getD j (0 : Int) ≠ v) ∧
       (∀ (z : Unit), idxOf v m = none → idxRes (idxOf v m) = (-1 : Int) ∧ m = m) ∧ ∀ (z : Nat), idxOf v m = some z → idxRes (idxOf v m) = (↑z : Int) ∧ m = m) := by kernel_rfl
theorem vc_toEs_r_eq (m : Es) (i : Nat) : vc_toEs_r m i = (
 (decide ((↑i : Int) < (↑(List.length m) : Int)) = true →
     ((0 : Int) ≤ (↑i : Int) ∧ (↑i : Int) < (↑(List.length m) : Int)) ∧
       (0 : Nat) + (↑i : Int).toNat < List.length m ∧
         ((0 : Int) ≤ (↑i : Int) ∧ (↑i : Int) < (↑(List.length m) : Int)) ∧
           (0 : Nat) + (↑i : Int).toNat < (List.take i m ++ List.replicate (List.length m - i) zE).length ∧
             ∃ (y : Nat),
               ((0 : Nat) = (0 : Nat) ∧
                   List.length m = List.length m ∧
                     (0 : Nat) = (0 : Nat) ∧
                       List.length m = List.length m ∧
                         (↑y : Int) = IntKind.i64.wrap ((↑i : Int) + (1 : Int)) ∧
                           m = m ∧
                             List.take y m ++ List.replicate (List.length m - y) zE =
                               (List.take i m ++ List.replicate (List.length m - i) zE).set ((0 : Nat) + (↑i : Int).toNat)
                                 ((List.getD m ((0 : Nat) + (↑i : Int).toNat) (El.zero shE)).fst, (List.getD m ((0 : Nat) + (↑i : Int).toNat) (El.zero shE)).snd.fst,
                                   (List.getD m ((0 : Nat) + (↑i : Int).toNat) (El.zero shE)).snd.snd.fst, (List.getD m ((0 : Nat) + (↑i : Int).toNat) (El.zero shE)).snd.snd.snd.fst,
                                   (List.getD m ((0 : Nat) + (↑i : Int).toNat) (El.zero shE)).snd.snd.snd.snd.fst, (List.getD m ((0 : Nat) + (↑i : Int).toNat) (El.zero shE)).snd.snd.snd.snd.snd)) ∧
                 y ≤ List.length m ∧ List.length m - y < List.length m - i ∧ ∀ (z : Unit), True → True) ∧
   (decide ((↑i : Int) < (↑(List.length m) : Int)) = false →
     ∃ (z : Unit), ((0 : Nat) = (0 : Nat) ∧ List.length m = List.length m ∧ m = m ∧ m = List.take i m ++ List.replicate (List.length m - i) zE) ∧ True)) := by kernel_rfl
theorem vc_toEs_eq (m : Es) : vc_toEs m = (
 ((0 : Int) ≤ (↑(List.length m) : Int) ∧ (↑(List.length m) : Int) ≤ (↑(List.length m) : Int) ∧ (↑(List.length m) : Int) ≤ (4294967296 : Int)) ∧
   ∃ (x : Nat),
     ((0 : Nat) = (0 : Nat) ∧
         List.length m = List.length m ∧
           (0 : Nat) = (0 : Nat) ∧
             List.length m = (↑(List.length m) : Int).toNat ∧
               (↑x : Int) = (0 : Int) ∧
                 m = m ∧
                   List.take x m ++ List.replicate (List.length m - x) zE =
                     List.replicate (↑(List.length m) : Int).toNat (El.zero [Ty.b, Ty.i IntKind.i64, Ty.i IntKind.u64, Ty.i IntKind.u64, Ty.b, Ty.i IntKind.u64])) ∧
       x ≤ List.length m ∧ ∀ (z : Unit), True → (0 : Nat) = (0 : Nat) ∧ List.length m = List.length m ∧ m = m ∧ m = m) := by kernel_rfl
theorem vc_eqEs_r_eq (m n : Es) (i : Nat) : vc_eqEs_r m n i = (
 (decide ((↑i : Int) < (↑(List.length m) : Int)) = true →
     ((0 : Int) ≤ (↑i : Int) ∧ (↑i : Int) < (↑(List.length m) : Int)) ∧
       (0 : Nat) + (↑i : Int).toNat < List.length m ∧
         ((0 : Int) ≤ (↑i : Int) ∧ (↑i : Int) < (↑(List.length n) : Int)) ∧
           (0 : Nat) + (↑i : Int).toNat < List.length n ∧
             ((List.getD m ((0 : Nat) + (↑i : Int).toNat) (El.zero shE)).fst, (List.getD m ((0 : Nat) + (↑i : Int).toNat) (El.zero shE)).snd.fst,
                   (List.getD m ((0 : Nat) + (↑i : Int).toNat) (El.zero shE)).snd.snd.fst, (List.getD m ((0 : Nat) + (↑i : Int).toNat) (El.zero shE)).snd.snd.snd.fst,
                   (List.getD m ((0 : Nat) + (↑i : Int).toNat) (El.zero shE)).snd.snd.snd.snd.fst, (List.getD m ((0 : Nat) + (↑i : Int).toNat) (El.zero shE)).snd.snd.snd.snd.snd) =
                 ((List.getD n ((0 : Nat) + (↑i : Int).toNat) (El.zero shE)).fst, (List.getD n ((0 : Nat) + (↑i : Int).toNat) (El.zero shE)).snd.fst,
                   (List.getD n ((0 : Nat) + (↑i : Int).toNat) (El.zero shE)).snd.snd.fst, (List.getD n ((0 : Nat) + (↑i : Int).toNat) (El.zero shE)).snd.snd.snd.fst,
                   (List.getD n ((0 : Nat) + (↑i : Int).toNat) (El.zero shE)).snd.snd.snd.snd.fst, (List.getD n ((0 : Nat) + (↑i : Int).toNat) (El.zero shE)).snd.snd.snd.snd.snd) ∧
               ((!true) = true → False) ∧
                 ((!true) = false →
                   ∃ (y : Nat),
                     ((0 : Nat) = (0 : Nat) ∧
                         List.length m = List.length m ∧ (0 : Nat) = (0 : Nat) ∧ List.length n = List.length n ∧ (↑y : Int) = IntKind.i64.wrap ((↑i : Int) + (1 : Int)) ∧ m = m ∧ n = n) ∧
                       y ≤ List.length m ∧ List.length m - y < List.length m - i ∧ ∀ (z : Unit), True → True)) ∧
   (decide ((↑i : Int) < (↑(List.length m) : Int)) = false → ∃ (z : Unit), (m = m ∧ n = n) ∧ True)) := by kernel_rfl
theorem vc_eqEs_eq (m n : Es) : vc_eqEs m n = (
 (((↑(List.length m) : Int) != (↑(List.length n) : Int)) = true → true = false ∧ m = m ∧ n = n) ∧
   (((↑(List.length m) : Int) != (↑(List.length n) : Int)) = false →
     ∃ (x : Nat),
       ((0 : Nat) = (0 : Nat) ∧ List.length m = List.length m ∧ (0 : Nat) = (0 : Nat) ∧ List.length n = List.length n ∧ (↑x : Int) = (0 : Int) ∧ m = m ∧ n = n) ∧
         x ≤ List.length m ∧ ∀ (z : Unit), True → true = true ∧ m = m ∧ n = n)) := by kernel_rfl
theorem vc_szTlb_eq (a b : Int) (m : Es) (k : Int) : vc_szTlb a b m k = (
 (List.length m = List.length m ∧ List.length m ≤ (9223372036854775807 : Nat) ∧ (0 : PmT [i64]) ≤ k ∧ k ≤ (1048576 : PmT [i64])) ∧
   (decide (szM (List.length m) k < (0 : Int)) = true → szM (List.length m) k = (-1 : Int) ∧ m = m) ∧
     (decide (szM (List.length m) k < (0 : Int)) = false → szM (List.length m) k = szM (List.length m) k ∧ m = m)) := by kernel_rfl
theorem vc_markTlb_eq (a b : Int) (m : Es) (k : Int) : vc_markTlb a b m k = (
 (List.length m = List.length m ∧ MarkR (List.length m) k) ∧
   k + (6 : PmT [i64]) * (↑(List.length m) : PmT [i64]) = k + (6 : PmT [i64]) * (↑(List.length m) : PmT [i64]) ∧ markEs k (List.length m) = markEs k (List.length m)) := by kernel_rfl
theorem vc_heldTlb_eq (a b : Int) (m : Es) (k : Int) : vc_heldTlb a b m k = (
 (List.length m = List.length m ∧ MarkR (List.length m) k ∧ m = markEs k (List.length m)) ∧
   (decide (k + (6 : PmT [i64]) * (↑(List.length m) : PmT [i64]) < (0 : Int)) = true → k + (6 : PmT [i64]) * (↑(List.length m) : PmT [i64]) = (-1 : Int) ∧ m = m) ∧
     (decide (k + (6 : PmT [i64]) * (↑(List.length m) : PmT [i64]) < (0 : Int)) = false →
       k + (6 : PmT [i64]) * (↑(List.length m) : PmT [i64]) = k + (6 : PmT [i64]) * (↑(List.length m) : PmT [i64]) ∧ m = m)) := by kernel_rfl
theorem vc_contains_eq (m : List Int) (v : Int) : vc_contains m v = (
 (m.length = m.length ∧ SzR m.length) ∧ hasM m v = decide (idxRes (idxOf v m) ≥ (0 : Int)) ∧ m = m) := by kernel_rfl
theorem vc_iclone_eq (a b : Int) (m : Es) : vc_iclone a b m = (
 (List.length m = List.length m ∧ SzR (List.length m)) ∧ a = a ∧ b = b ∧ (0 : Nat) = (0 : Nat) ∧ List.length m = List.length m ∧ m = m ∧ m = m) := by kernel_rfl
theorem vc_scopy_eq (a b : Int) (m : Es) : vc_scopy a b m = (
 ((0 : Nat) + List.length m ≤ List.length m ∧ (0 : Nat) ≤ (0 : Nat) ∧ (0 : Nat) + (List.take (List.length m) (List.drop (0 : Nat) m)).length ≤ (1073741824 : Nat)) ∧
   a = a ∧ b = b ∧ (0 : Nat) = (0 : Nat) ∧ List.length m = (0 : Nat) + (List.take (List.length m) (List.drop (0 : Nat) m)).length ∧ m = m ∧ m = [] ++ List.take (List.length m) (List.drop (0 : Nat) m)) := by kernel_rfl
theorem vc_toTlb_eq (a b : Int) (m : Es) : vc_toTlb a b m = (
 (List.length m = List.length m ∧ SzR (List.length m)) ∧ a = a ∧ b = b ∧ (0 : Nat) = (0 : Nat) ∧ List.length m = List.length m ∧ m = m ∧ m = m) := by kernel_rfl
theorem vc_eqTlb_eq (a b : Int) (m : Es) : vc_eqTlb a b m = (
 ((a != a) = true → true = false ∧ m = m ∧ m = m) ∧
   ((a != a) = false →
     ((b != b) = true → true = false ∧ m = m ∧ m = m) ∧
       ((b != b) = false →
         (List.length m = List.length m ∧ List.length m = List.length m ∧ m = m ∧ SzR (List.length m)) ∧
           ((!true) = true → true = false ∧ m = m ∧ m = m) ∧ ((!true) = false → true = true ∧ m = m ∧ m = m)))) := by kernel_rfl
end Go.Proofs.Ytfiddfbagbaofaa.V
namespace Go.Proofs.Ytfiddfbagbaofaa.V
open Go
set_option linter.unusedSimpArgs false

theorem mid_set {α : Type} (a b : List α) (x y : α) {i : Nat} (h : a.length = i) : (a ++ x :: b).set i y = a ++ y :: b := by
  rw [List.set_append_right _ _ (by omega), h, Nat.sub_self]
  rfl
theorem mid_get {α : Type} (a b : List α) (x d : α) {i : Nat} (h : a.length = i) : (a ++ x :: b).getD i d = x := by
  rw [List.getD_eq_getElem?_getD, List.getElem?_append_right (by omega), h, Nat.sub_self]
  rfl
theorem toEntry_ok : Sound Try.prog 53 (pureS [enP] [enP] (fun _ => none) (fun e => e)) := by
  refine pure_plain mixed Try.func53 (by kernel_rfl) (by kernel_rfl) F0_ok (fun t _ => ?_)
  obtain ⟨a, b, c, d, e, f⟩ : En := t
  exact vc_by (vc_toEntry_eq a b c d e f) ⟨rfl, rfl, rfl, rfl, rfl, rfl⟩
theorem eqEntry_ok : Sound Try.prog 189 (pureS [enP, enP] [bl] (fun t => some (t.1 = t.2)) (fun _ => true)) := by
  refine pure_plain mixed Try.func189 (by kernel_rfl) (by kernel_rfl) F0_ok (fun t h => ?_)
  obtain ⟨x, y⟩ : En × En := t
  have h : x = y := h
  subst h
  obtain ⟨a, b, c, d, e, f⟩ := x
  refine vc_by (vc_eqEntry_eq a b c d e f) ?_
  simp
theorem eqHit_ok : Sound Try.prog 46 (pureS [hitP, hitP] [bl] (fun t => some (t.1 = t.2)) (fun _ => true)) := by
  refine pure_plain mixed Try.func46 (by kernel_rfl) (by kernel_rfl) F0_ok (fun t h => ?_)
  obtain ⟨x, y⟩ : (Bool × Int × Int × Int) × (Bool × Int × Int × Int) := t
  have h : x = y := h
  subst h
  obtain ⟨a, b, c, d⟩ := x
  refine vc_by (vc_eqHit_eq a b c d) ?_
  simp
theorem szM_neg {n : Nat} {k : Int} (h : szM n k < 0) : szM n k = -1 := by
  unfold szM at h ⊢
  split <;> simp_all <;> omega
theorem szEs_ok : Sound Try.prog 110 (pureS [esP, i64] [i64] (fun t => some (t.1.length ≤ maxLen ∧ 0 ≤ t.2 ∧ t.2 ≤ 1048576)) (fun t => szM t.1.length t.2)) := by
  refine pure_plain mixed Try.func110 (by kernel_rfl) (by kernel_rfl) F0_ok (fun t h => ?_)
  obtain ⟨m, k⟩ : Es × Int := t
  obtain ⟨h1, h2, h3⟩ : m.length ≤ 9223372036854775807 ∧ 0 ≤ k ∧ k ≤ 1048576 := h
  refine vc_by (vc_szEs_eq m k) ?_
  rw [wrap_i64_in (by omega) (by omega)]
  refine ⟨fun g => ⟨?_, rfl⟩, fun g => ⟨?_, rfl⟩⟩
  · have g : k - (m.length : Int) < 0 := of_decide_eq_true g
    unfold szM
    rw [if_neg (by omega)]
  · have g : ¬ k - (m.length : Int) < 0 := of_decide_eq_false g
    unfold szM
    rw [if_pos (by omega)]
theorem cloneEs_ok : Sound Try.prog 195 (pureS [esP] [esP] (fun m => some (SzR m.length)) (fun m => m)) := by
  refine pure_plain mixed Try.func195 (by kernel_rfl) (by kernel_rfl) F0_ok (fun (m : Es) h => ?_)
  have h : SzR m.length := h
  unfold SzR at h
  exact vc_by (vc_cloneEs_eq m) ⟨fun g => ⟨rfl, g, rfl, List.length_eq_zero_iff.1 g⟩, ⟨by omega, by omega, by simp; omega⟩, rfl, by simp, rfl, by simp⟩
theorem markEs_length (k : Int) (n : Nat) : (markEs k n).length = n := by simp [markEs]
theorem markEs_succ (k : Int) (n : Nat) : markEs k (n + 1) = markEs k n ++ [markE (k + 6 * n)] := by simp [markEs, List.range_succ]
theorem markEs_get (k : Int) {n i : Nat} (h : i < n) (d : En) : (markEs k n).getD i d = markE (k + 6 * i) := by
  unfold markEs
  rw [List.getD_eq_getElem?_getD, List.getElem?_map, List.getElem?_range h]
  rfl
theorem wrapc {c : Int} (h0 : 0 ≤ c) (h1 : c ≤ 2199023255552) : IntKind.i64.wrap (c + 1) = c + 1 ∧ IntKind.i64.wrap (c + 1 + 1) = c + 2 ∧ IntKind.i64.wrap (c + 2 + 1) = c + 3 ∧ IntKind.i64.wrap (c + 3 + 1) = c + 4 ∧ IntKind.i64.wrap (c + 4 + 1) = c + 5 ∧ IntKind.i64.wrap (c + 5 + 1) = c + 6 ∧
    IntKind.u64.wrap (c + 2) = c + 2 ∧ IntKind.u64.wrap (c + 3) = c + 3 ∧ IntKind.u64.wrap (c + 5) = c + 5 := by
  refine ⟨?_, ?_, ?_, ?_, ?_, ?_, ?_, ?_, ?_⟩
  · rw [wrap_i64_in (by omega) (by omega)]
  · rw [wrap_i64_in (by omega) (by omega)]; omega
  · rw [wrap_i64_in (by omega) (by omega)]; omega
  · rw [wrap_i64_in (by omega) (by omega)]; omega
  · rw [wrap_i64_in (by omega) (by omega)]; omega
  · rw [wrap_i64_in (by omega) (by omega)]; omega
  · rw [wrap_u64_in (by omega) (by omega)]
  · rw [wrap_u64_in (by omega) (by omega)]
  · rw [wrap_u64_in (by omega) (by omega)]
theorem markEs_ok : Sound Try.prog 132 (mutS [esP, i64] [i64] (fun t => some (MarkR t.1.length t.2)) (fun t => ((markEs t.2 t.1.length, t.2), t.2 + 6 * t.1.length))) := by
  refine mut_loop mixed Try.func132 (by kernel_rfl) (b := loopAt Try.f132 0) (k := 2) (by kernel_rfl) (by kernel_rfl) (by kernel_rfl) F0_ok (fun t h => ?_)
  obtain ⟨m, k⟩ : Es × Int := t
  obtain ⟨h, h1, h2⟩ : MarkR m.length k := h
  have hs : m.length ≤ 2097152 := h
  refine ⟨markEX m k, markEL m k, fun i : Nat => m.length - i, one_loop 2 (markEL m k), fun (i : Nat) hi => vc_by (vc_markEs_r_eq m k i) ?_, vc_by (vc_markEs_eq m k) ?_⟩
  · have hi : i ≤ m.length := hi
    refine ⟨fun g => ?_, fun g => ?_⟩
    · have g : (i : Int) < m.length := of_decide_eq_true g
      have hlt : i < m.length := by omega
      have hn := next_i64 h hlt
      have e0 : 0 + (i : Int).toNat = i := by omega
      have hc0 : 0 ≤ k + 6 * (i : Int) := by omega
      have hc1 : k + 6 * (i : Int) ≤ 2199023255552 := by omega
      have hsucc := markEs_succ k i
      have hk : k + 6 * ((i + 1 : Nat) : Int) = k + 6 * i + 6 := by omega
      have hln := markEs_length k i
      have hd := List.drop_eq_getElem_cons hlt
      generalize m[i] = e at hd
      rw [hd]
      generalize k + 6 * (i : Int) = c at *
      generalize markEs k i = a at *
      obtain ⟨w1, w2, w3, w4, w5, w6, u2, u3, u5⟩ := wrapc hc0 hc1
      have hb : (List.drop (i + 1) m).length = m.length - (i + 1) := by simp
      have hlen : ∀ x : En, i < (a ++ x :: List.drop (i + 1) m).length := fun x => by simp; omega
      rw [e0, mid_set _ _ _ _ hln, mid_get _ _ _ _ hln, w1]
      refine ⟨by decide, ⟨by omega, by omega⟩, hlen _, ((i : Int), c + 1, _), ⟨rfl, rfl, rfl, rfl, rfl⟩, ⟨by simp only; omega, by simp only; omega⟩, by simp only [e0]; exact hlen _, ?_⟩
      simp only [e0, mid_set _ _ _ _ hln, mid_get _ _ _ _ hln]
      refine ⟨((i : Int), c + 2, _), ⟨trivial, trivial, w2.symm, rfl, rfl⟩, ⟨by simp only; omega, by simp only; omega⟩, by simp only [e0]; exact hlen _, ?_⟩
      simp only [e0, mid_set _ _ _ _ hln, mid_get _ _ _ _ hln]
      refine ⟨((i : Int), c + 3, _), ⟨trivial, trivial, w3.symm, rfl, rfl⟩, ⟨by simp only; omega, by simp only; omega⟩, by simp only [e0]; exact hlen _, ?_⟩
      simp only [e0, mid_set _ _ _ _ hln, mid_get _ _ _ _ hln]
      refine ⟨((i : Int), c + 4, _), ⟨trivial, trivial, w4.symm, rfl, rfl⟩, by decide, ⟨by simp only; omega, by simp only; omega⟩, by simp only [e0]; exact hlen _, ?_⟩
      simp only [e0, mid_set _ _ _ _ hln, mid_get _ _ _ _ hln]
      refine ⟨((i : Int), c + 5, _), ⟨trivial, trivial, w5.symm, rfl, rfl⟩, ⟨by simp only; omega, by simp only; omega⟩, by simp only [e0]; exact hlen _, ?_⟩
      simp only [e0, mid_set _ _ _ _ hln, mid_get _ _ _ _ hln]
      refine ⟨((i : Int), c + 6, _), ⟨trivial, trivial, w6.symm, rfl, rfl⟩, ?_⟩
      refine ⟨i + 1, ⟨trivial, trivial, hk, hn.symm, ?_⟩, by omega, by omega, fun _ _ => trivial⟩
      rw [hsucc]
      simp only [u2, u3, u5, List.append_assoc]
      rfl
    · have g : ¬ (i : Int) < m.length := of_decide_eq_false g
      have : i = m.length := by omega
      subst this
      exact ⟨(), ⟨rfl, by simp⟩, trivial⟩
  · exact ⟨0, ⟨rfl, rfl, by simp, rfl, rfl⟩, by omega, fun _ _ => ⟨rfl, rfl⟩⟩
theorem heldEs_ok : Sound Try.prog 133 (pureS [esP, i64] [i64] (fun t => some (MarkR t.1.length t.2 ∧ t.1 = markEs t.2 t.1.length)) (fun t => t.2 + 6 * t.1.length)) := by
  refine pure_loop mixed Try.func133 (by kernel_rfl) (b := loopAt Try.f133 0) (k := 2) (by kernel_rfl) (by kernel_rfl) (by kernel_rfl) F0_ok (fun t h => ?_)
  obtain ⟨m, k⟩ : Es × Int := t
  obtain ⟨⟨h, h1, h2⟩, h3⟩ : MarkR m.length k ∧ m = markEs k m.length := h
  have hs : m.length ≤ 2097152 := h
  refine ⟨.one 2 (heldEL m k), heldEL m k, fun i : Nat => m.length - i, one_loop _ _, fun (i : Nat) hi => vc_by (vc_heldEs_r_eq m k i) ?_, vc_by (vc_heldEs_eq m k) ?_⟩
  · have hi : i ≤ m.length := hi
    refine ⟨fun g => ?_, fun g => ?_⟩
    · have g : (i : Int) < m.length := of_decide_eq_true g
      have hlt : i < m.length := by omega
      have hn := next_i64 h hlt
      have e0 : 0 + (i : Int).toNat = i := by omega
      have hc0 : 0 ≤ k + 6 * (i : Int) := by omega
      have hc1 : k + 6 * (i : Int) ≤ 2199023255552 := by omega
      have hk : k + 6 * ((i + 1 : Nat) : Int) = k + 6 * i + 6 := by omega
      have e : List.getD m i (El.zero shE) = markE (k + 6 * i) := by rw [h3]; exact markEs_get k hlt _
      rw [e0, e, hn]
      obtain ⟨w1, w2, w3, w4, w5, w6, u2, u3, u5⟩ := wrapc hc0 hc1
      have hx : ∃ (y : Nat), (0 = 0 ∧ List.length m = List.length m ∧ k + 6 * (y : Int) = k + 6 * (i : Int) + 6 ∧ (y : Int) = ((i + 1 : Nat) : Int) ∧ m = m) ∧ y ≤ List.length m ∧ List.length m - y < List.length m - i ∧ ∀ (_ : Unit), True → True :=
        ⟨i + 1, ⟨rfl, rfl, hk, rfl, rfl⟩, by omega, by omega, fun _ _ => trivial⟩
      generalize k + 6 * (i : Int) = c at *
      simp only [w1, w2, w3, w4, w5, w6, markE, u2, u3, u5]
      simp [hlt]
      simpa using hx
    · have g : ¬ (i : Int) < m.length := of_decide_eq_false g
      have : i = m.length := by omega
      subst this
      exact ⟨(), ⟨rfl, rfl⟩, trivial⟩
  · exact ⟨0, ⟨rfl, rfl, by simp, rfl, rfl⟩, by omega, fun _ _ => ⟨rfl, rfl⟩⟩
theorem idx_ok : Sound Try.prog 209 (pureS [wsP, i64] [i64] (fun t => some (SzR t.1.length)) (fun t => idxRes (idxOf t.2 t.1))) := by
  refine pure_loop mixed Try.func209 (by kernel_rfl) (b := loopAt Try.f209 0) (k := 2) (by kernel_rfl) (by kernel_rfl) (by kernel_rfl) F0_ok (fun t h => ?_)
  obtain ⟨m, v⟩ : List Int × Int := t
  have h : SzR m.length := h
  have hs : m.length ≤ 2097152 := h
  refine ⟨.one 2 (idxL m v), idxL m v, fun i : Nat => m.length - i, one_loop _ _, fun (i : Nat) hi => vc_by (vc_idx_r_eq m v i) ?_, vc_by (vc_idx_eq m v) ?_⟩
  · obtain ⟨hi, hb⟩ : i ≤ m.length ∧ ∀ j, j < i → m.getD j 0 ≠ v := hi
    refine ⟨fun g => ?_, fun g => ?_⟩
    · have g : (i : Int) < m.length := of_decide_eq_true g
      have hlt : i < m.length := by omega
      have e0 : 0 + (i : Int).toNat = i := by omega
      have ev : m.getD i (El.zero [Ty.i IntKind.i64]) = m[i] := by rw [List.getD_eq_getElem?_getD, List.getElem?_eq_getElem hlt]; rfl
      rw [e0, next_i64 h hlt, ev]
      refine ⟨⟨by omega, by omega⟩, by omega, fun q => ⟨i, ⟨rfl, rfl⟩, ?_⟩, fun q => ⟨i + 1, ⟨rfl, rfl, rfl, rfl, rfl, rfl⟩, ⟨by omega, fun j hj => ?_⟩, by omega, fun _ h => h, fun _ h => h⟩⟩
      · unfold idxOf
        rw [List.findIdx?_eq_some_iff_getElem]
        refine ⟨hlt, ?_, fun j hj => ?_⟩
        · have q : v = m[i] := by simpa using q
          simp [q]
        · have := hb j hj
          rw [List.getD_eq_getElem?_getD, List.getElem?_eq_getElem (by omega)] at this
          simpa using this
      · rcases Nat.lt_or_ge j i with z | z
        · exact hb j z
        · have : j = i := by omega
          subst this
          rw [List.getD_eq_getElem?_getD, List.getElem?_eq_getElem hlt]
          have q : v ≠ m[j] := by simpa using q
          exact fun e => q e.symm
    · have g : ¬ (i : Int) < m.length := of_decide_eq_false g
      have : i = m.length := by omega
      subst this
      refine ⟨(), rfl, ?_⟩
      unfold idxOf
      rw [List.findIdx?_eq_none_iff]
      intro x hx
      obtain ⟨j, hj, rfl⟩ := List.mem_iff_getElem.1 hx
      have := hb j hj
      rw [List.getD_eq_getElem?_getD, List.getElem?_eq_getElem hj] at this
      simpa using this
  · exact ⟨0, ⟨rfl, rfl, rfl, rfl, rfl, rfl⟩, ⟨by omega, fun j hj => absurd hj (Nat.not_lt_zero _)⟩, fun _ e => ⟨by rw [e]; rfl, rfl⟩, fun _ e => ⟨by rw [e]; rfl, rfl⟩⟩
theorem kE1_ok : KnowsD Try.prog kE1 :=
  .cons (by kernel_rfl) toEntry_ok <| .cons (by kernel_rfl) eqEntry_ok <| .cons (by kernel_rfl) eqHit_ok <| .cons (by kernel_rfl) szEs_ok <| .cons (by kernel_rfl) cloneEs_ok <| .cons (by kernel_rfl) markEs_ok <|
  .cons (by kernel_rfl) heldEs_ok <| .cons (by kernel_rfl) idx_ok .nil
theorem FE1_ok : DictOk Try.prog FE1 := mkD_ok kE1_ok .nil .nil

theorem toEs_ok : Sound Try.prog 112 (pureS [esP] [esP] (fun m => some (SzR m.length)) (fun m => m)) := by
  refine pure_loop mixed Try.func112 (by kernel_rfl) (b := loopAt Try.f112 0) (k := 3) (by kernel_rfl) (by kernel_rfl) (by kernel_rfl) FE1_ok (fun (m : Es) h => ?_)
  have h : SzR m.length := h
  have hs : m.length ≤ 2097152 := h
  refine ⟨.one 3 (toEsL m), toEsL m, fun i : Nat => m.length - i, one_loop _ _, fun (i : Nat) hi => vc_by (vc_toEs_r_eq m i) ?_, vc_by (vc_toEs_eq m) ?_⟩
  · have hi : i ≤ m.length := hi
    refine ⟨fun g => ?_, fun g => ?_⟩
    · have g : (i : Int) < m.length := of_decide_eq_true g
      rw [next_i64 h (by omega), show 0 + (i : Int).toNat = i by omega]
      refine ⟨⟨by omega, by omega⟩, by omega, ⟨by omega, by omega⟩, by simp; omega, i + 1, ⟨rfl, rfl, rfl, rfl, rfl, rfl, ?_⟩, by omega, by omega, fun _ _ => trivial⟩
      exact (fill_set m zE (El.zero shE) (by omega)).symm
    · have g : ¬ (i : Int) < m.length := of_decide_eq_false g
      have : i = m.length := by omega
      subst this
      exact ⟨(), ⟨rfl, rfl, rfl, by simp⟩, trivial⟩
  · exact ⟨⟨by omega, by omega, by omega⟩, 0, ⟨rfl, rfl, rfl, by omega, rfl, rfl, by simp [El.zero, Ty.zero, zE]⟩, by omega, fun _ _ => ⟨rfl, rfl, rfl, rfl⟩⟩
theorem eqEs_ok : Sound Try.prog 115 (pureS [esP, esP] [bl] (fun t => some (t.1 = t.2 ∧ SzR t.1.length)) (fun _ => true)) := by
  refine pure_loop mixed Try.func115 (by kernel_rfl) (b := loopAt Try.f115 0) (k := 4) (by kernel_rfl) (by kernel_rfl) (by kernel_rfl) FE1_ok (fun t h => ?_)
  obtain ⟨m, n⟩ : Es × Es := t
  obtain ⟨h0, h⟩ : m = n ∧ SzR m.length := h
  subst h0
  have hs : m.length ≤ 2097152 := h
  refine ⟨.one 4 (eqEsL m m), eqEsL m m, fun i : Nat => m.length - i, one_loop _ _, fun (i : Nat) hi => vc_by (vc_eqEs_r_eq m m i) ?_, vc_by (vc_eqEs_eq m m) ?_⟩
  · have hi : i ≤ m.length := hi
    refine ⟨fun g => ?_, fun g => ⟨(), ⟨rfl, rfl⟩, trivial⟩⟩
    have g : (i : Int) < m.length := of_decide_eq_true g
    rw [next_i64 h (by omega)]
    exact ⟨⟨by omega, by omega⟩, by omega, ⟨by omega, by omega⟩, by omega, rfl, fun e => by simp at e, fun _ => ⟨i + 1, ⟨rfl, rfl, rfl, rfl, rfl, rfl, rfl⟩, by omega, by omega, fun _ _ => trivial⟩⟩
  · exact ⟨fun e => by simp at e, fun _ => ⟨0, ⟨rfl, rfl, rfl, rfl, rfl, rfl, rfl⟩, by omega, fun _ _ => ⟨rfl, rfl, rfl⟩⟩⟩
theorem szTlb_ok : Sound Try.prog 39 (pureS [tlP, i64] [i64] (fun t => some (t.1.2.2.length ≤ maxLen ∧ 0 ≤ t.2 ∧ t.2 ≤ 1048576)) (fun t => szM t.1.2.2.length t.2)) := by
  refine pure_plain mixed Try.func39 (by kernel_rfl) (by kernel_rfl) FE1_ok (fun t h => ?_)
  obtain ⟨⟨a, b, m⟩, k⟩ : Tl × Int := t
  obtain ⟨h1, h2, h3⟩ : m.length ≤ 9223372036854775807 ∧ 0 ≤ k ∧ k ≤ 1048576 := h
  refine vc_by (vc_szTlb_eq a b m k) ⟨⟨rfl, h1, h2, h3⟩, fun g => ⟨szM_neg (of_decide_eq_true g), rfl⟩, fun g => ⟨rfl, rfl⟩⟩
theorem markTlb_ok : Sound Try.prog 55 (mutS [tlP, i64] [i64] (fun t => some (MarkR t.1.2.2.length t.2)) (fun t => (((t.1.1, t.1.2.1, markEs t.2 t.1.2.2.length), t.2), t.2 + 6 * t.1.2.2.length))) := by
  refine mut_plain mixed Try.func55 (by kernel_rfl) (by kernel_rfl) FE1_ok (fun t h => ?_)
  obtain ⟨⟨a, b, m⟩, k⟩ : Tl × Int := t
  have h : MarkR m.length k := h
  exact ⟨.none, vc_by (vc_markTlb_eq a b m k) ⟨⟨rfl, h⟩, rfl, rfl⟩⟩
theorem heldTlb_ok : Sound Try.prog 56 (pureS [tlP, i64] [i64] (fun t => some (MarkR t.1.2.2.length t.2 ∧ t.1.2.2 = markEs t.2 t.1.2.2.length)) (fun t => t.2 + 6 * t.1.2.2.length)) := by
  refine pure_plain mixed Try.func56 (by kernel_rfl) (by kernel_rfl) FE1_ok (fun t h => ?_)
  obtain ⟨⟨a, b, m⟩, k⟩ : Tl × Int := t
  obtain ⟨h1, h2⟩ : MarkR m.length k ∧ m = markEs k m.length := h
  refine vc_by (vc_heldTlb_eq a b m k) ⟨⟨rfl, h1, h2⟩, fun g => ?_, fun _ => ⟨rfl, rfl⟩⟩
  have g : k + 6 * (m.length : Int) < 0 := of_decide_eq_true g
  have := h1.2.1
  omega
theorem contains_ok : Sound Try.prog 186 (pureS [wsP, i64] [bl] (fun t => some (SzR t.1.length)) (fun t => hasM t.1 t.2)) := by
  refine pure_plain mixed Try.func186 (by kernel_rfl) (by kernel_rfl) FE1_ok (fun t h => ?_)
  obtain ⟨m, v⟩ : List Int × Int := t
  have h : SzR m.length := h
  refine vc_by (vc_contains_eq m v) ⟨⟨rfl, h⟩, ?_, rfl⟩
  unfold hasM idxOf
  cases e : m.findIdx? (· == v) with
  | none =>
    rw [List.findIdx?_eq_none_iff] at e
    have : m.contains v = false := by
      rw [List.contains_eq_any_beq, List.any_eq_false]
      intro x hx
      have := e x hx
      simp only [beq_eq_false_iff_ne] at this
      simp
      exact fun z => this z.symm
    rw [this]
    rfl
  | some i =>
    rw [List.findIdx?_eq_some_iff_getElem] at e
    obtain ⟨hi, h1, _⟩ := e
    have : m.contains v = true := by
      rw [List.contains_iff_mem]
      have : m[i] = v := by simpa using h1
      rw [← this]
      exact List.getElem_mem hi
    rw [this]
    simp [idxRes]
theorem iclone_ok : Sound Try.prog 128 (pureS [tlP] [tlP] (fun t => some (SzR t.2.2.length)) (fun t => t)) := by
  refine pure_plain mixed Try.func128 (by kernel_rfl) (by kernel_rfl) FE1_ok (fun t h => ?_)
  obtain ⟨a, b, m⟩ : Tl := t
  have h : SzR m.length := h
  exact vc_by (vc_iclone_eq a b m) ⟨⟨rfl, h⟩, rfl, rfl, rfl, rfl, rfl, rfl⟩
theorem scopy_ok : Sound Try.prog 127 (pureS [tlP] [tlP] (fun t => some (SzR t.2.2.length)) (fun t => t)) := by
  refine pure_plain mixed Try.func127 (by kernel_rfl) (by kernel_rfl) FE1_ok (fun t h => ?_)
  obtain ⟨a, b, m⟩ : Tl := t
  have h : m.length ≤ 2097152 := h
  exact vc_by (vc_scopy_eq a b m) ⟨⟨by omega, by omega, by simp; omega⟩, rfl, rfl, rfl, by simp, rfl, by simp⟩
theorem kE2_ok : KnowsD Try.prog kE2 :=
  .cons (by kernel_rfl) toEs_ok <| .cons (by kernel_rfl) eqEs_ok <| .cons (by kernel_rfl) szTlb_ok <| .cons (by kernel_rfl) markTlb_ok <| .cons (by kernel_rfl) heldTlb_ok <| .cons (by kernel_rfl) contains_ok <|
  .cons (by kernel_rfl) iclone_ok <| .cons (by kernel_rfl) scopy_ok kE1_ok
theorem FE2_ok : DictOk Try.prog FE2 := mkD_ok kE2_ok .nil .nil

theorem toTlb_ok : Sound Try.prog 41 (pureS [tlP] [tlP] (fun t => some (SzR t.2.2.length)) (fun t => t)) := by
  refine pure_plain mixed Try.func41 (by kernel_rfl) (by kernel_rfl) FE2_ok (fun t h => ?_)
  obtain ⟨a, b, m⟩ : Tl := t
  have h : SzR m.length := h
  exact vc_by (vc_toTlb_eq a b m) ⟨⟨rfl, h⟩, rfl, rfl, rfl, rfl, rfl, rfl⟩
theorem eqTlb_ok : Sound Try.prog 43 (pureS [tlP, tlP] [bl] (fun t => some (t.1 = t.2 ∧ SzR t.1.2.2.length)) (fun _ => true)) := by
  refine pure_plain mixed Try.func43 (by kernel_rfl) (by kernel_rfl) FE2_ok (fun t h => ?_)
  obtain ⟨x, y⟩ : Tl × Tl := t
  obtain ⟨h0, h⟩ : x = y ∧ SzR x.2.2.length := h
  subst h0
  obtain ⟨a, b, m⟩ := x
  have h : SzR m.length := h
  refine vc_by (vc_eqTlb_eq a b m) ?_
  simp [h]
theorem kE3_ok : KnowsD Try.prog kE3 := .cons (by kernel_rfl) toTlb_ok <| .cons (by kernel_rfl) eqTlb_ok kE2_ok
end Go.Proofs.Ytfiddfbagbaofaa.V
