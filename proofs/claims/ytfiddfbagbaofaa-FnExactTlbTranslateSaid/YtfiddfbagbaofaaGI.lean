/- Inserting into a cache answers as the model; the law on it returns true. Conditions: those in each statement. -/
import Derived.Test.YtfiddfbagbaofaaGH
import Derived.KernelRfl
namespace Go.Proofs.Ytfiddfbagbaofaa.V
open Go
/-- The first place of a tag's set; the first way that is free, or the picked one; the row with the entry in its place. -/
def fromM (s w tag : Int) : Int := (IntKind.i64.wrap tag).tmod s * w
/-- From way k on: the first free one, else d. -/
def freeM (m : Es) (f : Int) (d : Int) : Nat → Nat → Int
  | _, 0 => d
  | k, n + 1 => if (m.getD (f.toNat + k) zE).1 = false then (k : Int) else freeM m f d (k + 1) n
def wayM (m : Es) (s w tag pick : Int) : Int := freeM m (fromM s w tag) (pick.tmod w) 0 w.toNat
def insMs (m : Es) (s w : Int) (e : En) (pick : Int) : Es := m.set (fromM s w e.2.2.1 + wayM m s w e.2.2.1 pick).toNat e
def takesM (t : Tl) (e : En) (pick : Int) : Bool := decide (0 ≤ pick) && decide (pick ≤ 255) && ((validM false t && goodE false e) || (validM true t && goodE true e))
def insertM (t : Tl) (e : En) (pick : Int) : Tl := (t.1, t.2.1, if takesM t e pick = true then insMs t.2.2 t.1 t.2.1 e pick else t.2.2)
/-- What putting asks for. -/
def PutR (s w : Int) (m : Es) (e : En) (pick : Int) : Prop := headM s w m = true ∧ EnR e ∧ e.2.2.1 < 512 ∧ 0 ≤ pick ∧ pick ≤ 255

def entA (e : En) : List Av := [.v (.bool e.1), .v (.int .i64 e.2.1), .v (.int .u64 e.2.2.1), .v (.int .u64 e.2.2.2.1), .v (.bool e.2.2.2.2.1), .v (.int .u64 e.2.2.2.2.2)]
def tlA (s w : Int) (id n : Nat) : List Av := [.v (.int .i64 s), .v (.int .i64 w), .sl id 6 0 n]
def putL (s w : Int) (m : Es) (e : En) (pick : Int) : LoopS where
  α := Int
  I x := -1 ≤ x ∧ x ≤ w - 1
  sl x := slots 58 [(0, .ptr 0 0), (4, .ptr 2 0), (6, .v (.int .i64 (fromM s w e.2.2.1))), (7, .v (.int .i64 (freeM m (fromM s w e.2.2.1) (pick.tmod w) (x + 1).toNat (w - 1 - x).toNat))), (8, .v (.int .i64 x))]
  H _ := [.fix (tlA s w 1 m.length) true (some 52), .arr shE m true, .fix (entA e) true (some 71)]
  fams := [{ β := Unit, out := fun _ _ => True, ex := .ext 0, sl := fun _ => slots 58 [(0, .ptr 0 0), (4, .ptr 2 0), (6, .v (.int .i64 (fromM s w e.2.2.1))), (7, .v (.int .i64 (wayM m s w e.2.2.1 pick)))], H := fun _ => [.fix (tlA s w 1 m.length) true (some 52), .arr shE m true, .fix (entA e) true (some 71)] }]
def vc_put_r (s w : Int) (m : Es) (a : Bool) (b c d : Int) (g : Bool) (f pick x : Int) : Prop := vcRound Try.prog FF4 (.one 4 (putL s w m (a, b, c, d, g, f) pick)) 2 (loopAt Try.f131 0) (putL s w m (a, b, c, d, g, f) pick) (fun x : Int => (x + 1).toNat) x
def vc_put (s w : Int) (m : Es) (a : Bool) (b c d : Int) (g : Bool) (f pick : Int) : Prop := vcAt Try.prog FF4 (.one 4 (putL s w m (a, b, c, d, g, f) pick)) Try.f131 [.ptr 0 0, .agg (entA (a, b, c, d, g, f)), .v (.int .i64 pick)] [.fix (tlA s w 1 m.length) true (some 52), .arr shE m true] (.tup []) [.fix (tlA s w 1 m.length) true (some 52), .arr shE (insMs m s w (a, b, c, d, g, f) pick) true]
def putS : Sum := fun args H => match args, H with
  | [.ptr 0 0, .agg [.v (.bool a), .v (.int .i64 b), .v (.int .u64 c), .v (.int .u64 d), .v (.bool g), .v (.int .u64 f)], .v (.int .i64 pick)], [.fix [.v (.int .i64 s), .v (.int .i64 w), .sl 1 6 0 n] true (some 52), .arr sh m true] =>
    if h : sh = shE then some (some (n = m.length ∧ PutR s w (h ▸ m : List (El shE)) (a, b, c, d, g, f) pick), .tup [], [.fix (tlA s w 1 n) true (some 52), .arr shE (insMs (h ▸ m : List (El shE)) s w (a, b, c, d, g, f) pick) true]) else none
  | _, _ => none
def kI : Known := (131, putS) :: kF4
def FI : Dict := mkD (kI ++ kE3 ++ kA4) [] []
def vc_iInsert (s w : Int) (m : Es) (a : Bool) (b c d : Int) (g : Bool) (f pick : Int) : Prop := vcPure Try.prog FI .none Try.f54 [tlP, enP, i64] [tlP] ((s, w, m), (a, b, c, d, g, f), pick) (insertM (s, w, m) (a, b, c, d, g, f) pick)
def sinsL (s w : Int) (m : Es) (e : En) (pick : Int) : LoopS where
  α := Nat
  I k := PutR s w m e pick ∧ (k : Int) ≤ w ∧ wayM m s w e.2.2.1 pick = freeM m (fromM s w e.2.2.1) (pick.tmod w) k (w.toNat - k)
  sl k := slots 81 [(2, .v (.int .i64 pick)), (3, .ptr 1 0), (4, .ptr 2 0), (6, .ptr 3 0), (7, .ptr 4 0), (9, .v (.int .i64 (fromM s w e.2.2.1))), (10, .v (.int .i64 (k : Int)))]
  H _ := [.arr shE m false, .fix (tlA s w 0 m.length) true (some 52), .fix (entA e) true (some 71), .fix [.v (.int .i64 0), .v (.int .i64 0), .v (.slice none 0 0)] true (some 52), .fix (tlA s w 5 m.length) true (some 52), .arr shE m true]
  fams := [{ β := Unit, out := fun _ _ => PutR s w m e pick ∧ wayM m s w e.2.2.1 pick = pick.tmod w, ex := .ext 0, sl := fun _ => slots 81 [(2, .v (.int .i64 pick)), (3, .ptr 1 0), (4, .ptr 2 0), (6, .ptr 3 0), (7, .ptr 4 0), (9, .v (.int .i64 (fromM s w e.2.2.1)))], H := fun _ => [.arr shE m false, .fix (tlA s w 0 m.length) true (some 52), .fix (entA e) true (some 71), .fix [.v (.int .i64 0), .v (.int .i64 0), .v (.slice none 0 0)] true (some 52), .fix (tlA s w 5 m.length) true (some 52), .arr shE m true] },
    { β := Unit, out := fun _ _ => True, ex := .ret, sl := fun _ => slots 81 [(6, .ptr 1 0)], H := fun _ => [.arr shE m false, .fix (tlA s w 2 m.length) true (some 52), .arr shE (insMs m s w e pick) true] }]
def vc_sInsert_r (s w : Int) (m : Es) (a : Bool) (b c d : Int) (g : Bool) (f pick : Int) (k : Nat) : Prop := vcRound Try.prog FI (.one 7 (sinsL s w m (a, b, c, d, g, f) pick)) 1 (loopAt Try.f52 0) (sinsL s w m (a, b, c, d, g, f) pick) (fun k : Nat => w.toNat - k) k
def vc_sInsert (s w : Int) (m : Es) (a : Bool) (b c d : Int) (g : Bool) (f pick : Int) : Prop := vcPure Try.prog FI (.one 7 (sinsL s w m (a, b, c, d, g, f) pick)) Try.f52 [tlP, enP, i64] [tlP] ((s, w, m), (a, b, c, d, g, f), pick) (insertM (s, w, m) (a, b, c, d, g, f) pick)
def kI2 : Known := [
  (54, pureS [tlP, enP, i64] [tlP] (fun t => some (TlR t.1 ∧ EnR t.2.1)) (fun t => insertM t.1 t.2.1 t.2.2)),
  (52, pureS [tlP, enP, i64] [tlP] (fun t => some (TlR t.1 ∧ EnR t.2.1)) (fun t => insertM t.1 t.2.1 t.2.2))] ++ kI
def FI2 : Dict := mkD (kI2 ++ kE3 ++ kA4) [] []
def vc_lawInsert (s w : Int) (m : Es) (a : Bool) (b c d : Int) (g : Bool) (f pick : Int) : Prop := vcPure Try.prog FI2 .none Try.f14 [tlP, enP, i64] [bl] ((s, w, m), (a, b, c, d, g, f), pick) true
end Go.Proofs.Ytfiddfbagbaofaa.V
namespace Go.Proofs.Ytfiddfbagbaofaa.V
open Go
set_option linter.unusedVariables false
theorem vc_put_r_eq (s w : Int) (m : Es) (a : Bool) (b c d : Int) (g : Bool) (f pick x : Int) : vc_put_r s w m a b c d g f pick x = (
 (decide (x ≥ (0 : Int)) = true →
     ((0 : Int) ≤ IntKind.i64.wrap (fromM s w c + x) ∧ IntKind.i64.wrap (fromM s w c + x) < (↑(List.length m) : Int)) ∧
       (0 : Nat) + (IntKind.i64.wrap (fromM s w c + x)).toNat < List.length m ∧
         ((!(List.getD m ((0 : Nat) + (IntKind.i64.wrap (fromM s w c + x)).toNat) (El.zero shE)).fst) = true →
             ∃ (y : Int),
               (fromM s w c = fromM s w c ∧
                   freeM m (fromM s w c) (pick.tmod w) (y + (1 : Int)).toNat (w - (1 : Int) - y).toNat = x ∧
                     y = IntKind.i64.wrap (x - (1 : Int)) ∧ s = s ∧ w = w ∧ (0 : Nat) = (0 : Nat) ∧ List.length m = List.length m ∧ m = m ∧ a = a ∧ b = b ∧ c = c ∧ d = d ∧ g = g ∧ f = f) ∧
                 ((-1 : Int) ≤ y ∧ y ≤ w - (1 : Int)) ∧ (y + (1 : Int)).toNat < (x + (1 : Int)).toNat ∧ ∀ (z : Unit), True → True) ∧
           ((!(List.getD m ((0 : Nat) + (IntKind.i64.wrap (fromM s w c + x)).toNat) (El.zero shE)).fst) = false →
             ∃ (y : Int),
               (fromM s w c = fromM s w c ∧
                   freeM m (fromM s w c) (pick.tmod w) (y + (1 : Int)).toNat (w - (1 : Int) - y).toNat = freeM m (fromM s w c) (pick.tmod w) (x + (1 : Int)).toNat (w - (1 : Int) - x).toNat ∧
                     y = IntKind.i64.wrap (x - (1 : Int)) ∧ s = s ∧ w = w ∧ (0 : Nat) = (0 : Nat) ∧ List.length m = List.length m ∧ m = m ∧ a = a ∧ b = b ∧ c = c ∧ d = d ∧ g = g ∧ f = f) ∧
                 ((-1 : Int) ≤ y ∧ y ≤ w - (1 : Int)) ∧ (y + (1 : Int)).toNat < (x + (1 : Int)).toNat ∧ ∀ (z : Unit), True → True)) ∧
   (decide (x ≥ (0 : Int)) = false →
     ∃ (z : Unit),
       (fromM s w c = fromM s w c ∧
           wayM m s w c pick = freeM m (fromM s w c) (pick.tmod w) (x + (1 : Int)).toNat (w - (1 : Int) - x).toNat ∧
             s = s ∧ w = w ∧ (0 : Nat) = (0 : Nat) ∧ List.length m = List.length m ∧ m = m ∧ a = a ∧ b = b ∧ c = c ∧ d = d ∧ g = g ∧ f = f) ∧
         True)) := by kernel_rfl
theorem vc_put_eq (s w : Int) (m : Es) (a : Bool) (b c d : Int) (g : Bool) (f pick : Int) : vc_put s w m a b c d g f pick = (
 s ≠ (0 : Int) ∧
   w ≠ (0 : Int) ∧
     ∃ (x : Int),
       (fromM s w c = IntKind.i64.wrap ((IntKind.i64.wrap c).tmod s * w) ∧
           freeM m (fromM s w c) (pick.tmod w) (x + (1 : Int)).toNat (w - (1 : Int) - x).toNat = pick.tmod w ∧
             x = IntKind.i64.wrap (w - (1 : Int)) ∧ s = s ∧ w = w ∧ (0 : Nat) = (0 : Nat) ∧ List.length m = List.length m ∧ m = m ∧ a = a ∧ b = b ∧ c = c ∧ d = d ∧ g = g ∧ f = f) ∧
         ((-1 : Int) ≤ x ∧ x ≤ w - (1 : Int)) ∧
           ∀ (z : Unit),
             True →
               ((0 : Int) ≤ IntKind.i64.wrap (fromM s w c + wayM m s w c pick) ∧ IntKind.i64.wrap (fromM s w c + wayM m s w c pick) < (↑(List.length m) : Int)) ∧
                 (0 : Nat) + (IntKind.i64.wrap (fromM s w c + wayM m s w c pick)).toNat < List.length m ∧
                   s = s ∧
                     w = w ∧
                       (0 : Nat) = (0 : Nat) ∧
                         List.length m = List.length m ∧ insMs m s w (a, b, c, d, g, f) pick = List.set m ((0 : Nat) + (IntKind.i64.wrap (fromM s w c + wayM m s w c pick)).toNat) (a, b, c, d, g, f)) := by kernel_rfl
theorem vc_iInsert_eq (s w : Int) (m : Es) (a : Bool) (b c d : Int) (g : Bool) (f pick : Int) : vc_iInsert s w m a b c d g f pick = (
 (List.length m = List.length m ∧ SzR (List.length m)) ∧
   ((bif decide (pick ≥ (0 : Int)) then decide (pick ≤ (255 : Int)) else false) = true → List.length m = List.length m ∧ TlR (s, w, m) ∧ EnR (a, b, c, d, g, f)) ∧
     ((match bif decide (pick ≥ (0 : Int)) then decide (pick ≤ (255 : Int)) else false, !(validM false (s, w, m) && goodE false (a, b, c, d, g, f)) with
           | true, y => y
           | false, x => false) =
           true →
         List.length m = List.length m ∧ TlR (s, w, m) ∧ EnR (a, b, c, d, g, f)) ∧
       ((bif bif decide (pick ≥ (0 : Int)) then decide (pick ≤ (255 : Int)) else false then
               bif validM false (s, w, m) && goodE false (a, b, c, d, g, f) then true else validM true (s, w, m) && goodE true (a, b, c, d, g, f)
             else false) =
             true →
           (List.length m = List.length m ∧ PutR s w m (a, b, c, d, g, f) pick) ∧
             (insertM (s, w, m) (a, b, c, d, g, f) pick).fst = s ∧
               (insertM (s, w, m) (a, b, c, d, g, f) pick).snd.fst = w ∧
                 (0 : Nat) = (0 : Nat) ∧
                   List.length (insertM (s, w, m) (a, b, c, d, g, f) pick).snd.snd = List.length m ∧ m = m ∧ (insertM (s, w, m) (a, b, c, d, g, f) pick).snd.snd = insMs m s w (a, b, c, d, g, f) pick) ∧
         ((bif bif decide (pick ≥ (0 : Int)) then decide (pick ≤ (255 : Int)) else false then
               bif validM false (s, w, m) && goodE false (a, b, c, d, g, f) then true else validM true (s, w, m) && goodE true (a, b, c, d, g, f)
             else false) =
             false →
           (insertM (s, w, m) (a, b, c, d, g, f) pick).fst = s ∧
             (insertM (s, w, m) (a, b, c, d, g, f) pick).snd.fst = w ∧
               (0 : Nat) = (0 : Nat) ∧ List.length (insertM (s, w, m) (a, b, c, d, g, f) pick).snd.snd = List.length m ∧ m = m ∧ (insertM (s, w, m) (a, b, c, d, g, f) pick).snd.snd = m)) := by kernel_rfl
theorem vc_sInsert_r_eq (s w : Int) (m : Es) (a : Bool) (b c d : Int) (g : Bool) (f pick : Int) (k : Nat) : vc_sInsert_r s w m a b c d g f pick k = (
 (decide ((↑k : Int) < w) = true →
     ((0 : Int) ≤ IntKind.i64.wrap (fromM s w c + (↑k : Int)) ∧ IntKind.i64.wrap (fromM s w c + (↑k : Int)) < (↑(List.length m) : Int)) ∧
       (0 : Nat) + (IntKind.i64.wrap (fromM s w c + (↑k : Int))).toNat < List.length m ∧
         ((!(List.getD m ((0 : Nat) + (IntKind.i64.wrap (fromM s w c + (↑k : Int))).toNat) (El.zero shE)).fst) = true →
             ((0 : Int) ≤ IntKind.i64.wrap (fromM s w c + (↑k : Int)) ∧ IntKind.i64.wrap (fromM s w c + (↑k : Int)) < (↑(List.length m) : Int)) ∧
               (0 : Nat) + (IntKind.i64.wrap (fromM s w c + (↑k : Int))).toNat < List.length m ∧
                 ∃ (z : Unit),
                   (m = m ∧
                       s = s ∧
                         w = w ∧
                           (0 : Nat) = (0 : Nat) ∧
                             List.length m = List.length m ∧ insMs m s w (a, b, c, d, g, f) pick = List.set m ((0 : Nat) + (IntKind.i64.wrap (fromM s w c + (↑k : Int))).toNat) (a, b, c, d, g, f)) ∧
                     True) ∧
           ((!(List.getD m ((0 : Nat) + (IntKind.i64.wrap (fromM s w c + (↑k : Int))).toNat) (El.zero shE)).fst) = false →
             ∃ (y : Nat),
               (pick = pick ∧
                   fromM s w c = fromM s w c ∧
                     (↑y : Int) = IntKind.i64.wrap ((↑k : Int) + (1 : Int)) ∧
                       m = m ∧
                         s = s ∧
                           w = w ∧
                             (0 : Nat) = (0 : Nat) ∧
                               List.length m = List.length m ∧
                                 a = a ∧
                                   b = b ∧
                                     c = c ∧
                                       d = d ∧
                                         g = g ∧
                                           f = f ∧
                                             (0 : Int) = (0 : Int) ∧
                                               (0 : Int) = (0 : Int) ∧
                                                 Value.slice none (0 : Nat) (0 : Nat) = Value.slice none (0 : Nat) (0 : Nat) ∧
                                                   s = s ∧ w = w ∧ (0 : Nat) = (0 : Nat) ∧ List.length m = List.length m ∧ m = m) ∧
                 (PutR s w m (a, b, c, d, g, f) pick ∧ (↑y : Int) ≤ w ∧ wayM m s w c pick = freeM m (fromM s w c) (pick.tmod w) y (w.toNat - y)) ∧
                   w.toNat - y < w.toNat - k ∧
                     (∀ (z : Unit), PutR s w m (a, b, c, d, g, f) pick ∧ wayM m s w c pick = pick.tmod w → PutR s w m (a, b, c, d, g, f) pick ∧ wayM m s w c pick = pick.tmod w) ∧
                       ∀ (z : Unit), True → True)) ∧
   (decide ((↑k : Int) < w) = false →
     ∃ (z : Unit),
       (pick = pick ∧
           fromM s w c = fromM s w c ∧
             m = m ∧
               s = s ∧
                 w = w ∧
                   (0 : Nat) = (0 : Nat) ∧
                     List.length m = List.length m ∧
                       a = a ∧
                         b = b ∧
                           c = c ∧
                             d = d ∧
                               g = g ∧
                                 f = f ∧
                                   (0 : Int) = (0 : Int) ∧
                                     (0 : Int) = (0 : Int) ∧
                                       Value.slice none (0 : Nat) (0 : Nat) = Value.slice none (0 : Nat) (0 : Nat) ∧ s = s ∧ w = w ∧ (0 : Nat) = (0 : Nat) ∧ List.length m = List.length m ∧ m = m) ∧
         PutR s w m (a, b, c, d, g, f) pick ∧ wayM m s w c pick = pick.tmod w)) := by kernel_rfl
theorem vc_sInsert_eq (s w : Int) (m : Es) (a : Bool) (b c d : Int) (g : Bool) (f pick : Int) : vc_sInsert s w m a b c d g f pick = (
 (List.length m = List.length m ∧ SzR (List.length m)) ∧
   (List.length m = List.length m ∧ TlR (s, w, m)) ∧
     (validM true (s, w, m) = true → EnR (a, b, c, d, g, f)) ∧
       ((!bif validM true (s, w, m) then goodE true (a, b, c, d, g, f) else false) = true → List.length m = List.length m ∧ TlR (s, w, m)) ∧
         ((match !bif validM true (s, w, m) then goodE true (a, b, c, d, g, f) else false, validM false (s, w, m) with
               | true, y => y
               | false, x => false) =
               true →
             EnR (a, b, c, d, g, f)) ∧
           ((bif
                     bif !bif bif validM true (s, w, m) then goodE true (a, b, c, d, g, f) else false then true else bif validM false (s, w, m) then goodE false (a, b, c, d, g, f) else false then true
                     else decide (pick < (0 : Int)) then
                   true
                 else decide (pick > (255 : Int))) =
                 true →
               (insertM (s, w, m) (a, b, c, d, g, f) pick).fst = s ∧
                 (insertM (s, w, m) (a, b, c, d, g, f) pick).snd.fst = w ∧
                   (0 : Nat) = (0 : Nat) ∧ List.length (insertM (s, w, m) (a, b, c, d, g, f) pick).snd.snd = List.length m ∧ m = m ∧ (insertM (s, w, m) (a, b, c, d, g, f) pick).snd.snd = m) ∧
             ((bif
                     bif !bif bif validM true (s, w, m) then goodE true (a, b, c, d, g, f) else false then true else bif validM false (s, w, m) then goodE false (a, b, c, d, g, f) else false then true
                     else decide (pick < (0 : Int)) then
                   true
                 else decide (pick > (255 : Int))) =
                 false →
               s ≠ (0 : Int) ∧
                 ∃ (x : Nat),
                   (pick = pick ∧
                       fromM s w c = IntKind.i64.wrap ((IntKind.i64.wrap c).tmod s * w) ∧
                         (↑x : Int) = (0 : Int) ∧
                           m = m ∧
                             s = s ∧
                               w = w ∧
                                 (0 : Nat) = (0 : Nat) ∧
                                   List.length m = List.length m ∧
                                     a = a ∧
                                       b = b ∧
                                         c = c ∧
                                           d = d ∧
                                             g = g ∧
                                               f = f ∧
                                                 (0 : Int) = (0 : Int) ∧
                                                   (0 : Int) = (0 : Int) ∧
                                                     Value.slice none (0 : Nat) (0 : Nat) = Value.slice none (0 : Nat) (0 : Nat) ∧
                                                       s = s ∧ w = w ∧ (0 : Nat) = (0 : Nat) ∧ List.length m = List.length m ∧ m = m) ∧
                     (PutR s w m (a, b, c, d, g, f) pick ∧ (↑x : Int) ≤ w ∧ wayM m s w c pick = freeM m (fromM s w c) (pick.tmod w) x (w.toNat - x)) ∧
                       (∀ (z : Unit),
                           PutR s w m (a, b, c, d, g, f) pick ∧ wayM m s w c pick = pick.tmod w →
                             w ≠ (0 : Int) ∧
                               ((0 : Int) ≤ IntKind.i64.wrap (fromM s w c + pick.tmod w) ∧ IntKind.i64.wrap (fromM s w c + pick.tmod w) < (↑(List.length m) : Int)) ∧
                                 (0 : Nat) + (IntKind.i64.wrap (fromM s w c + pick.tmod w)).toNat < List.length m ∧
                                   (insertM (s, w, m) (a, b, c, d, g, f) pick).fst = s ∧
                                     (insertM (s, w, m) (a, b, c, d, g, f) pick).snd.fst = w ∧
                                       (0 : Nat) = (0 : Nat) ∧
                                         List.length (insertM (s, w, m) (a, b, c, d, g, f) pick).snd.snd = List.length m ∧
                                           m = m ∧
                                             (insertM (s, w, m) (a, b, c, d, g, f) pick).snd.snd = List.set m ((0 : Nat) + (IntKind.i64.wrap (fromM s w c + pick.tmod w)).toNat) (a, b, c, d, g, f)) ∧
                         ∀ (z : Unit),
                           True →
                             (insertM (s, w, m) (a, b, c, d, g, f) pick).fst = s ∧
                               (insertM (s, w, m) (a, b, c, d, g, f) pick).snd.fst = w ∧
                                 (0 : Nat) = (0 : Nat) ∧
                                   List.length (insertM (s, w, m) (a, b, c, d, g, f) pick).snd.snd = List.length m ∧
                                     m = m ∧ (insertM (s, w, m) (a, b, c, d, g, f) pick).snd.snd = insMs m s w (a, b, c, d, g, f) pick)) := by kernel_rfl
theorem vc_lawInsert_eq (s w : Int) (m : Es) (a : Bool) (b c d : Int) (g : Bool) (f pick : Int) : vc_lawInsert s w m a b c d g f pick = (
 (List.length m = List.length m ∧ List.length m ≤ (9223372036854775807 : Nat) ∧ (0 : PmT [i64]) ≤ (1048576 : Int) ∧ (1048576 : Int) ≤ (1048576 : PmT [i64])) ∧
   (decide (szM (List.length m) (1048576 : Int) < (0 : Int)) = true → true = true ∧ m = m) ∧
     (decide (szM (List.length m) (1048576 : Int) < (0 : Int)) = false →
       (List.length m = List.length m ∧ SzR (List.length m)) ∧
         (List.length m = List.length m ∧ TlR (s, w, m) ∧ EnR (a, b, c, d, g, f)) ∧
           (List.length m = List.length m ∧ SzR (List.length m)) ∧
             (List.length m = List.length m ∧ TlR (s, w, m) ∧ EnR (a, b, c, d, g, f)) ∧
               (List.length (insertM (s, w, m) (a, b, c, d, g, f) pick).snd.snd = List.length (insertM (s, w, m) (a, b, c, d, g, f) pick).snd.snd ∧
                   List.length (insertM (s, w, m) (a, b, c, d, g, f) pick).snd.snd = List.length (insertM (s, w, m) (a, b, c, d, g, f) pick).snd.snd ∧
                     ((insertM (s, w, m) (a, b, c, d, g, f) pick).fst, (insertM (s, w, m) (a, b, c, d, g, f) pick).snd.fst, (insertM (s, w, m) (a, b, c, d, g, f) pick).snd.snd) =
                         ((insertM (s, w, m) (a, b, c, d, g, f) pick).fst, (insertM (s, w, m) (a, b, c, d, g, f) pick).snd.fst, (insertM (s, w, m) (a, b, c, d, g, f) pick).snd.snd) ∧
                       SzR (List.length (insertM (s, w, m) (a, b, c, d, g, f) pick).snd.snd)) ∧
                 ((!true) = true → true = false ∧ m = m) ∧
                   ((!true) = false →
                     (List.length m = List.length m ∧ SzR (List.length m)) ∧
                       (List.length m = List.length m ∧ List.length m = List.length m ∧ (s, w, m) = (s, w, m) ∧ SzR (List.length m)) ∧
                         ((!true) = true → true = false ∧ m = m) ∧
                           ((!true) = false →
                             (List.length m = List.length m ∧ MarkR (List.length m) (1 : Int)) ∧
                               ((!false) = true →
                                   List.length (insertM (s, w, m) (a, b, c, d, g, f) pick).snd.snd = List.length (insertM (s, w, m) (a, b, c, d, g, f) pick).snd.snd ∧
                                     List.length (insertM (s, w, m) (a, b, c, d, g, f) pick).snd.snd = List.length (insertM (s, w, m) (a, b, c, d, g, f) pick).snd.snd ∧
                                       ((insertM (s, w, m) (a, b, c, d, g, f) pick).fst, (insertM (s, w, m) (a, b, c, d, g, f) pick).snd.fst, (insertM (s, w, m) (a, b, c, d, g, f) pick).snd.snd) =
                                           ((insertM (s, w, m) (a, b, c, d, g, f) pick).fst, (insertM (s, w, m) (a, b, c, d, g, f) pick).snd.fst, (insertM (s, w, m) (a, b, c, d, g, f) pick).snd.snd) ∧
                                         SzR (List.length (insertM (s, w, m) (a, b, c, d, g, f) pick).snd.snd)) ∧
                                 ((!true) = true → true = false ∧ m = m) ∧
                                   ((!true) = false →
                                     (List.length (insertM (s, w, m) (a, b, c, d, g, f) pick).snd.snd = List.length (insertM (s, w, m) (a, b, c, d, g, f) pick).snd.snd ∧
                                         MarkR (List.length (insertM (s, w, m) (a, b, c, d, g, f) pick).snd.snd) (1 : Int)) ∧
                                       (List.length (insertM (s, w, m) (a, b, c, d, g, f) pick).snd.snd =
                                             List.length (markEs (1 : Int) (List.length (insertM (s, w, m) (a, b, c, d, g, f) pick).snd.snd)) ∧
                                           MarkR (List.length (markEs (1 : Int) (List.length (insertM (s, w, m) (a, b, c, d, g, f) pick).snd.snd))) (1 : Int) ∧
                                             markEs (1 : Int) (List.length (insertM (s, w, m) (a, b, c, d, g, f) pick).snd.snd) =
                                               markEs (1 : Int) (List.length (markEs (1 : Int) (List.length (insertM (s, w, m) (a, b, c, d, g, f) pick).snd.snd)))) ∧
                                         (false = true → true = false ∧ m = m) ∧
                                           (false = false →
                                             (((1 : Int) + (6 : PmT [i64]) * (↑(List.length (markEs (1 : Int) (List.length (insertM (s, w, m) (a, b, c, d, g, f) pick).snd.snd))) : PmT [i64]) !=
                                                     (1 : Int) + (6 : PmT [i64]) * (↑(List.length (insertM (s, w, m) (a, b, c, d, g, f) pick).snd.snd) : PmT [i64])) =
                                                   true →
                                                 true = false ∧ m = m) ∧
                                               (((1 : Int) + (6 : PmT [i64]) * (↑(List.length (markEs (1 : Int) (List.length (insertM (s, w, m) (a, b, c, d, g, f) pick).snd.snd))) : PmT [i64]) !=
                                                     (1 : Int) + (6 : PmT [i64]) * (↑(List.length (insertM (s, w, m) (a, b, c, d, g, f) pick).snd.snd) : PmT [i64])) =
                                                   false →
                                                 (List.length m = List.length m ∧ SzR (List.length m)) ∧
                                                   (List.length m = List.length m ∧ TlR (s, w, m) ∧ EnR (a, b, c, d, g, f)) ∧
                                                     (List.length (insertM (s, w, m) (a, b, c, d, g, f) pick).snd.snd = List.length (insertM (s, w, m) (a, b, c, d, g, f) pick).snd.snd ∧
                                                         List.length (insertM (s, w, m) (a, b, c, d, g, f) pick).snd.snd = List.length (insertM (s, w, m) (a, b, c, d, g, f) pick).snd.snd ∧
                                                           ((insertM (s, w, m) (a, b, c, d, g, f) pick).fst, (insertM (s, w, m) (a, b, c, d, g, f) pick).snd.fst,
                                                                 (insertM (s, w, m) (a, b, c, d, g, f) pick).snd.snd) =
                                                               ((insertM (s, w, m) (a, b, c, d, g, f) pick).fst, (insertM (s, w, m) (a, b, c, d, g, f) pick).snd.fst,
                                                                 (insertM (s, w, m) (a, b, c, d, g, f) pick).snd.snd) ∧
                                                             SzR (List.length (insertM (s, w, m) (a, b, c, d, g, f) pick).snd.snd)) ∧
                                                       ((!true) = true → true = false ∧ m = m) ∧ ((!true) = false → true = true ∧ m = m)))))))) := by kernel_rfl
end Go.Proofs.Ytfiddfbagbaofaa.V
namespace Go.Proofs.Ytfiddfbagbaofaa.V
open Go
set_option linter.unusedSimpArgs false

theorem tag_wrap {c : Int} (h0 : 0 ≤ c) (h1 : c < 512) : IntKind.i64.wrap c = c := wrap_i64_in (by omega) (by omega)
theorem from_in {s w c : Int} (hs : 1 ≤ s) (hw : 1 ≤ w) (h0 : 0 ≤ c) (h1 : c < 512) : 0 ≤ fromM s w c ∧ fromM s w c + w ≤ s * w := by
  unfold fromM
  rw [tag_wrap h0 h1, tmod_pos h0]
  have a := Int.emod_nonneg c (show s ≠ 0 by omega)
  have b := Int.emod_lt_of_pos c (show 0 < s by omega)
  have e : c % s * w + w = (c % s + 1) * w := by rw [Int.add_mul, Int.one_mul]
  exact ⟨Int.mul_nonneg a (by omega), by rw [e]; exact Int.mul_le_mul_of_nonneg_right (by omega) (by omega)⟩
theorem from_wrap {s w c : Int} (hs : s = 1 ∨ s = 2 ∨ s = 4 ∨ s = 8) (hw : 1 ≤ w) (hw2 : w ≤ 4) (h0 : 0 ≤ c) (h1 : c < 512) : IntKind.i64.wrap ((IntKind.i64.wrap c).tmod s * w) = fromM s w c := by
  obtain ⟨a, b⟩ := from_in (s := s) (w := w) (by omega) hw h0 h1
  have : s * w ≤ 32 := by rcases hs with rfl | rfl | rfl | rfl <;> omega
  exact wrap_i64_in (by unfold fromM at a; omega) (by unfold fromM at b; omega)
theorem pick_in {p w : Int} (h0 : 0 ≤ p) (hw : 1 ≤ w) : 0 ≤ p.tmod w ∧ p.tmod w < w := by
  rw [tmod_pos h0]
  exact ⟨Int.emod_nonneg _ (by omega), Int.emod_lt_of_pos _ (by omega)⟩
theorem free_in {m : Es} {f d w : Int} (hd : 0 ≤ d ∧ d < w) : ∀ {n k : Nat}, (k : Int) + n ≤ w → 0 ≤ freeM m f d k n ∧ freeM m f d k n < w
  | 0, _, _ => hd
  | n + 1, k, h => by
    unfold freeM
    split
    · omega
    · exact free_in hd (by omega)
theorem way_in {m : Es} {s w c p : Int} (hw : 1 ≤ w) (h0 : 0 ≤ p) : 0 ≤ wayM m s w c p ∧ wayM m s w c p < w := free_in (pick_in h0 hw) (by omega)
theorem put_ok : Sound Try.prog 131 putS := by
  refine sound_loop mixed Try.func131 (by kernel_rfl) (b := loopAt Try.f131 0) (k := 4) (by kernel_rfl) (by kernel_rfl) (by kernel_rfl) FF4_ok (fun args H p v H' h hp => ?_)
  unfold putS at h
  split at h
  case h_2 => cases h
  rename_i a b c d g f pick s w n sh m
  split at h
  case isFalse => cases h
  rename_i hsh
  subst hsh
  simp only [Option.some.injEq, Prod.mk.injEq] at h
  obtain ⟨rfl, rfl, rfl⟩ := h
  obtain ⟨rfl, hd, ⟨e1, e2, e3, e4⟩, hc, p0, p1⟩ : n = m.length ∧ PutR s w m (a, b, c, d, g, f) pick := hp
  obtain ⟨hs, w1, w4, hl⟩ := head_sw hd
  have hc0 := e2.1
  simp only at hc hc0
  obtain ⟨f0, f1⟩ := from_in (s := s) (w := w) (by omega) w1 hc0 hc
  have hle : s * w ≤ 32 := by rcases hs with rfl | rfl | rfl | rfl <;> omega
  refine ⟨.one 4 (putL s w m (a, b, c, d, g, f) pick), putL s w m (a, b, c, d, g, f) pick, fun x : Int => (x + 1).toNat, one_loop _ _, fun (x : Int) hx => vc_by (vc_put_r_eq s w m a b c d g f pick x) ?_, vc_by (vc_put_eq s w m a b c d g f pick) ?_⟩
  · obtain ⟨x0, x1⟩ : -1 ≤ x ∧ x ≤ w - 1 := hx
    refine ⟨fun q => ?_, fun q => ?_⟩
    · have q : x ≥ 0 := of_decide_eq_true q
      have e1 : IntKind.i64.wrap (fromM s w c + x) = fromM s w c + x := wrap_i64_in (by omega) (by omega)
      have e2 : IntKind.i64.wrap (x - 1) = x - 1 := wrap_i64_in (by omega) (by omega)
      have hidx : 0 + (fromM s w c + x).toNat = (fromM s w c).toNat + x.toNat := by omega
      have step : freeM m (fromM s w c) (pick.tmod w) (x - 1 + 1).toNat (w - 1 - (x - 1)).toNat = if (m.getD ((fromM s w c).toNat + x.toNat) zE).1 = false then x else freeM m (fromM s w c) (pick.tmod w) (x + 1).toNat (w - 1 - x).toNat := by
        rw [show (x - 1 + 1).toNat = x.toNat by omega, show (w - 1 - (x - 1)).toNat = (w - 1 - x).toNat + 1 by omega, freeM, show ((x.toNat : Nat) : Int) = x by omega, show x.toNat + 1 = (x + 1).toNat by omega]
      rw [e1, e2, hidx, show El.zero shE = zE from rfl]
      refine ⟨⟨by omega, by omega⟩, by omega, fun z => ⟨x - 1, ⟨rfl, ?_, rfl, rfl, rfl, rfl, rfl, rfl, rfl, rfl, rfl, rfl, rfl, rfl⟩, ⟨by omega, by omega⟩, by omega, fun _ _ => trivial⟩, fun z => ⟨x - 1, ⟨rfl, ?_, rfl, rfl, rfl, rfl, rfl, rfl, rfl, rfl, rfl, rfl, rfl, rfl⟩, ⟨by omega, by omega⟩, by omega, fun _ _ => trivial⟩⟩
      · rw [step, if_pos (by rw [Bool.not_eq_true'] at z; exact z)]
      · rw [step, if_neg (by rw [Bool.not_eq_false'] at z; rw [z]; decide)]
    · have q : ¬ x ≥ 0 := of_decide_eq_false q
      have : x = -1 := by omega
      subst this
      refine ⟨(), ⟨rfl, ?_, rfl, rfl, rfl, rfl, rfl, rfl, rfl, rfl, rfl, rfl, rfl⟩, trivial⟩
      unfold wayM
      rw [show (-1 + 1 : Int).toNat = 0 by decide, show (w - 1 - -1).toNat = w.toNat by omega]
  · obtain ⟨y0, y1⟩ := way_in (m := m) (s := s) (w := w) (c := c) (p := pick) w1 p0
    refine ⟨by omega, by omega, w - 1, ⟨(from_wrap hs w1 w4 hc0 hc).symm, ?_, (wrap_i64_in (by omega) (by omega)).symm, rfl, rfl, rfl, rfl, rfl, rfl, rfl, rfl, rfl, rfl, rfl⟩, ⟨by omega, by omega⟩, fun _ _ => ?_⟩
    · rw [show (w - 1 - (w - 1)).toNat = 0 by omega, freeM]
    · rw [wrap_i64_in (by omega) (by omega), Nat.zero_add]
      exact ⟨⟨by omega, by omega⟩, by omega, rfl, rfl, rfl, rfl, rfl⟩
theorem kI_ok : KnowsD Try.prog kI := .cons (by kernel_rfl) put_ok kF4_ok
theorem FI_ok : DictOk Try.prog FI := mkD_ok ((kI_ok.append kE3_ok).append kA4_ok) .nil .nil
theorem good_tag {p : Bool} {e : En} (h : goodE p e = true) : e.2.2.1 < 512 := by
  simp only [goodE, Bool.and_eq_true, decide_eq_true_eq] at h
  obtain ⟨⟨⟨⟨⟨_, h1⟩, h2⟩, _⟩, _⟩, _⟩ := h
  have : (2 : Int) ^ (9 - 3 * e.2.1).toNat ≤ 512 := by rcases lv_cases (lvM_iff.1 h1) with q | q | q <;> rw [q] <;> decide
  omega
theorem valid_head {p : Bool} {s w : Int} {m : Es} (h : validM p (s, w, m) = true) : headM s w m = true := by
  simp only [validM, Bool.and_eq_true] at h
  exact h.1
theorem takes_put {s w : Int} {m : Es} {e : En} {pick : Int} (h : takesM (s, w, m) e pick = true) (he : EnR e) : PutR s w m e pick := by
  simp only [takesM, Bool.and_eq_true, Bool.or_eq_true, decide_eq_true_eq] at h
  obtain ⟨⟨h1, h2⟩, h3⟩ := h
  rcases h3 with ⟨h4, h5⟩ | ⟨h4, h5⟩
  · exact ⟨valid_head h4, he, good_tag h5, h1, h2⟩
  · exact ⟨valid_head h4, he, good_tag h5, h1, h2⟩
theorem insMs_length (m : Es) (s w : Int) (e : En) (pick : Int) : (insMs m s w e pick).length = m.length := by simp [insMs]
theorem insertM_length (s w : Int) (m : Es) (e : En) (pick : Int) : (insertM (s, w, m) e pick).2.2.length = m.length := by
  unfold insertM
  simp only
  split
  · exact insMs_length ..
  · rfl
theorem insertM_yes {s w : Int} {m : Es} {e : En} {pick : Int} (h : takesM (s, w, m) e pick = true) : insertM (s, w, m) e pick = (s, w, insMs m s w e pick) := by simp [insertM, h]
theorem insertM_no {s w : Int} {m : Es} {e : En} {pick : Int} (h : takesM (s, w, m) e pick = false) : insertM (s, w, m) e pick = (s, w, m) := by simp [insertM, h]
theorem iInsert_ok : Sound Try.prog 54 (pureS [tlP, enP, i64] [tlP] (fun t => some (TlR t.1 ∧ EnR t.2.1)) (fun t => insertM t.1 t.2.1 t.2.2)) := by
  refine pure_plain mixed Try.func54 (by kernel_rfl) (by kernel_rfl) FI_ok (fun t h => ?_)
  obtain ⟨⟨s, w, m⟩, ⟨a, b, c, d, g, f⟩, pick⟩ : Tl × En × Int := t
  obtain ⟨ht, he⟩ : TlR (s, w, m) ∧ EnR (a, b, c, d, g, f) := h
  have hz : SzR m.length := ht.2.2.1
  refine vc_by (vc_iInsert_eq s w m a b c d g f pick) ⟨⟨rfl, hz⟩, fun _ => ⟨rfl, ht, he⟩, fun _ => ⟨rfl, ht, he⟩, fun q => ?_, fun q => ?_⟩
  · have q : takesM (s, w, m) (a, b, c, d, g, f) pick = true := by rw [Bool.cond_false_right, Bool.cond_false_right, Bool.cond_true_left] at q; exact q
    rw [insertM_yes q]
    exact ⟨⟨rfl, takes_put q he⟩, rfl, rfl, rfl, insMs_length .., rfl, rfl⟩
  · have q : takesM (s, w, m) (a, b, c, d, g, f) pick = false := by rw [Bool.cond_false_right, Bool.cond_false_right, Bool.cond_true_left] at q; exact q
    rw [insertM_no q]
    exact ⟨rfl, rfl, rfl, rfl, rfl, rfl⟩
theorem takes_spec (s w : Int) (m : Es) (e : En) (pick : Int) : (bif bif !bif bif validM true (s, w, m) then goodE true e else false then true else bif validM false (s, w, m) then goodE false e else false then true else decide (pick < 0) then true else decide (pick > 255)) = !takesM (s, w, m) e pick := by
  have e1 : decide (0 ≤ pick) = !decide (pick < 0) := by
    by_cases h : pick < 0
    · have : ¬ 0 ≤ pick := by omega
      simp [h, this]
    · have : 0 ≤ pick := by omega
      simp [h, this]
  have e2 : decide (pick ≤ 255) = !decide (pick > 255) := by
    by_cases h : pick > 255
    · have : ¬ pick ≤ 255 := by omega
      simp [h, this]
    · have : pick ≤ 255 := by omega
      simp [h, this]
  unfold takesM
  rw [e1, e2]
  cases validM true (s, w, m) <;> cases goodE true e <;> cases validM false (s, w, m) <;> cases goodE false e <;> cases decide (pick < 0) <;> cases decide (pick > 255) <;> rfl
theorem sInsert_ok : Sound Try.prog 52 (pureS [tlP, enP, i64] [tlP] (fun t => some (TlR t.1 ∧ EnR t.2.1)) (fun t => insertM t.1 t.2.1 t.2.2)) := by
  refine pure_loop mixed Try.func52 (by kernel_rfl) (b := loopAt Try.f52 0) (k := 7) (by kernel_rfl) (by kernel_rfl) (by kernel_rfl) FI_ok (fun t h => ?_)
  obtain ⟨⟨s, w, m⟩, ⟨a, b, c, d, g, f⟩, pick⟩ : Tl × En × Int := t
  obtain ⟨ht, he⟩ : TlR (s, w, m) ∧ EnR (a, b, c, d, g, f) := h
  have hz : SzR m.length := ht.2.2.1
  have hc0 : 0 ≤ c := he.2.1.1
  refine ⟨.one 7 (sinsL s w m (a, b, c, d, g, f) pick), sinsL s w m (a, b, c, d, g, f) pick, fun k : Nat => w.toNat - k, one_loop _ _, fun (k : Nat) hk => vc_by (vc_sInsert_r_eq s w m a b c d g f pick k) ?_, vc_by (vc_sInsert_eq s w m a b c d g f pick) ?_⟩
  · obtain ⟨hP, k1, hw⟩ : PutR s w m (a, b, c, d, g, f) pick ∧ (k : Int) ≤ w ∧ wayM m s w c pick = freeM m (fromM s w c) (pick.tmod w) k (w.toNat - k) := hk
    obtain ⟨hd, _, hc, p0, p1⟩ := id hP
    obtain ⟨hs, w1, w4, hl⟩ := head_sw hd
    simp only at hc
    obtain ⟨f0, f1⟩ := from_in (s := s) (w := w) (by omega) w1 hc0 hc
    have hle : s * w ≤ 32 := by rcases hs with rfl | rfl | rfl | rfl <;> omega
    refine ⟨fun q => ?_, fun q => ?_⟩
    · have q : (k : Int) < w := of_decide_eq_true q
      have e1 : IntKind.i64.wrap (fromM s w c + (k : Int)) = fromM s w c + k := wrap_i64_in (by omega) (by omega)
      have e2 : IntKind.i64.wrap ((k : Int) + 1) = ((k + 1 : Nat) : Int) := by rw [wrap_i64_in (by omega) (by omega)]; omega
      have hidx : 0 + (fromM s w c + (k : Int)).toNat = (fromM s w c).toNat + k := by omega
      have step : wayM m s w c pick = if (m.getD ((fromM s w c).toNat + k) zE).1 = false then (k : Int) else freeM m (fromM s w c) (pick.tmod w) (k + 1) (w.toNat - (k + 1)) := by
        rw [hw, show w.toNat - k = (w.toNat - (k + 1)) + 1 by omega, freeM]
      rw [e1, e2, hidx, show El.zero shE = zE from rfl]
      refine ⟨⟨by omega, by omega⟩, by omega, fun z => ⟨⟨by omega, by omega⟩, by omega, (), ⟨rfl, rfl, rfl, rfl, rfl, ?_⟩, trivial⟩, fun z => ⟨k + 1, ⟨rfl, rfl, rfl, rfl, rfl, rfl, rfl, rfl, rfl, rfl, rfl, rfl, rfl, rfl, rfl, rfl, rfl, rfl, rfl, rfl, rfl, rfl⟩, ⟨hP, by omega, ?_⟩, by omega, fun _ z => z, fun _ _ => trivial⟩⟩
      · rw [if_pos (by rw [Bool.not_eq_true'] at z; exact z)] at step
        unfold insMs
        simp only
        rw [step, show (fromM s w c + (k : Int)).toNat = (fromM s w c).toNat + k by omega]
      · rw [if_neg (by rw [Bool.not_eq_false'] at z; rw [z]; decide)] at step
        exact step
    · have q : ¬ (k : Int) < w := of_decide_eq_false q
      have : w.toNat - k = 0 := by omega
      rw [this, freeM] at hw
      exact ⟨(), ⟨rfl, rfl, rfl, rfl, rfl, rfl, rfl, rfl, rfl, rfl, rfl, rfl, rfl, rfl, rfl, rfl, rfl, rfl, rfl, rfl, rfl⟩, hP, hw⟩
  · rw [takes_spec]
    refine ⟨⟨rfl, hz⟩, ⟨rfl, ht⟩, fun _ => he, fun _ => ⟨rfl, ht⟩, fun _ => he, fun q => ?_, fun q => ?_⟩
    · have q : takesM (s, w, m) (a, b, c, d, g, f) pick = false := by simpa using q
      rw [insertM_no q]
      exact ⟨rfl, rfl, rfl, rfl, rfl, rfl⟩
    · have q : takesM (s, w, m) (a, b, c, d, g, f) pick = true := by simpa using q
      have hP := takes_put q he
      obtain ⟨hd, _, hc, p0, p1⟩ := id hP
      obtain ⟨hs, w1, w4, hl⟩ := head_sw hd
      simp only at hc
      obtain ⟨f0, f1⟩ := from_in (s := s) (w := w) (by omega) w1 hc0 hc
      have hle : s * w ≤ 32 := by rcases hs with rfl | rfl | rfl | rfl <;> omega
      obtain ⟨y0, y1⟩ := pick_in (p := pick) p0 w1
      rw [insertM_yes q]
      refine ⟨by omega, 0, ⟨rfl, (from_wrap hs w1 w4 hc0 hc).symm, rfl, rfl, rfl, rfl, rfl, rfl, rfl, rfl, rfl, rfl, rfl, rfl, rfl, rfl, rfl, rfl, rfl, rfl, rfl, rfl⟩, ⟨hP, by omega, rfl⟩, fun _ z => ?_, fun _ _ => ⟨rfl, rfl, rfl, insMs_length .., rfl, rfl⟩⟩
      have e1 : IntKind.i64.wrap (fromM s w c + pick.tmod w) = fromM s w c + pick.tmod w := wrap_i64_in (by omega) (by omega)
      rw [e1, Nat.zero_add]
      refine ⟨by omega, ⟨by omega, by omega⟩, by omega, rfl, rfl, rfl, insMs_length .., rfl, ?_⟩
      unfold insMs
      simp only
      rw [z.2]
theorem kI2_ok : KnowsD Try.prog kI2 := .cons (by kernel_rfl) iInsert_ok <| .cons (by kernel_rfl) sInsert_ok kI_ok
theorem FI2_ok : DictOk Try.prog FI2 := mkD_ok ((kI2_ok.append kE3_ok).append kA4_ok) .nil .nil
theorem lawInsert_ok : Canon Try.prog 14 [tlP, enP, i64] [bl] (WfPs [tlP, enP, i64]) (fun _ => true) := by
  refine canon_plain mixed Try.func14 (by kernel_rfl) (by kernel_rfl) FI2_ok (fun t h => ?_)
  obtain ⟨⟨s, w, m⟩, ⟨a, b, c, d, g, f⟩, pick⟩ : Tl × En × Int := t
  obtain ⟨h1, h2, h3, h4⟩ := wf_tl (t := (s, w, m)) h.1
  have he : EnR (a, b, c, d, g, f) := wf_en (e := (a, b, c, d, g, f)) h.2.1
  refine ⟨.none, vc_by (vc_lawInsert_eq s w m a b c d g f pick) ⟨⟨rfl, h3, by show (0 : Int) ≤ 1048576; decide, by show (1048576 : Int) ≤ 1048576; decide⟩, fun _ => ⟨rfl, rfl⟩, fun q => ?_⟩⟩
  have hz : SzR m.length := sz_ok (Int.le_refl _) (of_decide_eq_false q)
  have ht : TlR (s, w, m) := ⟨h1, h2, hz, h4⟩
  have hk : MarkR m.length 1 := ⟨hz, by decide, by decide⟩
  have hI := insertM_length s w m (a, b, c, d, g, f) pick
  rw [hI, markEs_length]
  simp [hz, ht, he, hk, markEs_length]
end Go.Proofs.Ytfiddfbagbaofaa.V
