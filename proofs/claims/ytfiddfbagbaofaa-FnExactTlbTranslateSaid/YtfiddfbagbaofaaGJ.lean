/- Flushing a cache answers as the model; the law on it returns true. Conditions: those in each statement. -/
import Derived.Test.YtfiddfbagbaofaaGI
import Derived.KernelRfl
namespace Go.Proofs.Ytfiddfbagbaofaa.V
open Go
abbrev fnP : Pm := .st [.b, .i .u64, .b, .i .u64]
abbrev Fc := Bool × Int × Bool × Int
def coversM (f : Fc) (l t a : Int) (g : Bool) : Bool := (!f.1 || t == tagM f.2.1 l) && (!f.2.2.1 || (!g && a == f.2.2.2))
def scoversM (f : Fc) (l t a : Int) (g : Bool) : Bool := !(f.1 && (!canM f.2.1 || t != tagM f.2.1 l)) && (!f.2.2.1 || (!g && a == f.2.2.2))
def goodF (f : Fc) : Bool := !f.1 || canM f.2.1
def outM (f : Fc) (e : En) : En := if (e.1 && coversM f e.2.1 e.2.2.1 e.2.2.2.1 e.2.2.2.2.1) = true then zE else e
def soutM (f : Fc) (e : En) : En := if (e.1 && scoversM f e.2.1 e.2.2.1 e.2.2.2.1 e.2.2.2.2.1) = true then zE else e
def flushM (t : Tl) (f : Fc) : Tl := (t.1, t.2.1, if (eitherM t && goodF f) = true then t.2.2.map (outM f) else t.2.2)
/-- What flushing asks for. -/
def FlR (m : Es) (f : Fc) : Prop := SzR m.length ∧ U64 f.2.1 ∧ ∀ i, i < m.length → (m.getD i zE).1 = true → LvR (m.getD i zE).2.1
def fcA (f : Fc) : List Av := [.v (.bool f.1), .v (.int .u64 f.2.1), .v (.bool f.2.2.1), .v (.int .u64 f.2.2.2)]

def vc_toFence (a : Bool) (b : Int) (c : Bool) (d : Int) : Prop := vcPure Try.prog FF4 .none Try.f58 [fnP] [fnP] (a, b, c, d) (a, b, c, d)
def vc_goodF (a : Bool) (b : Int) (c : Bool) (d : Int) : Prop := vcPure Try.prog FF4 .none Try.f135 [fnP] [bl] (a, b, c, d) (goodF (a, b, c, d))
def vc_scovers (a : Bool) (b : Int) (c : Bool) (d l t s : Int) (g : Bool) : Prop := vcPure Try.prog FF4 .none Try.f134 [fnP, i64, u64, u64, bl] [bl] ((a, b, c, d), l, t, s, g) (scoversM (a, b, c, d) l t s g)
def vc_testT (a : Bool) (b : Int) (c : Bool) (d l t s : Int) (g : Bool) : Prop := vcAt Try.prog FF4 .none Try.f196 [.v (.int .i64 l), .v (.int .u64 t), .v (.int .u64 s), .v (.bool g), .ptr 0 0] [.fix (fcA (a, b, c, d)) true (some 78)] (.v (.bool (coversM (a, b, c, d) l t s g))) [.fix (fcA (a, b, c, d)) true (some 78)]
def vc_testF (a : Bool) (b : Int) (c : Bool) (d l t s : Int) (g : Bool) : Prop := vcAt Try.prog FF4 .none Try.f196 [.v (.int .i64 l), .v (.int .u64 t), .v (.int .u64 s), .v (.bool g), .ptr 0 0] [.fix (fcA (a, b, c, d)) false (some 78)] (.v (.bool (coversM (a, b, c, d) l t s g))) [.fix (fcA (a, b, c, d)) false (some 78)]
def testS : Sum := fun args H => match args, H with
  | [.v (.int .i64 l), .v (.int .u64 t), .v (.int .u64 s), .v (.bool g), .ptr 0 0], [.fix [.v (.bool a), .v (.int .u64 b), .v (.bool c), .v (.int .u64 d)] o (some 78)] =>
    some (some (U64 b ∧ LvR l), .v (.bool (coversM (a, b, c, d) l t s g)), [.fix (fcA (a, b, c, d)) o (some 78)])
  | _, _ => none
def vc_covers (a : Bool) (b : Int) (c : Bool) (d : Int) : Prop := vcAt Try.prog FF4 .none Try.f137 [.agg (fcA (a, b, c, d))] [] (.fn 196 [.ptr 0 0]) [.fix (fcA (a, b, c, d)) true (some 78)]
def coversS : Sum := fun args H => match args, H with
  | [.agg [.v (.bool a), .v (.int .u64 b), .v (.bool c), .v (.int .u64 d)]], [] => some (none, .fn 196 [.ptr 0 0], [.fix (fcA (a, b, c, d)) true (some 78)])
  | _, _ => none
def kJ1 : Known := [
  (58, pureS [fnP] [fnP] (fun _ => none) (fun f => f)),
  (135, pureS [fnP] [bl] (fun f => some (U64 f.2.1)) goodF),
  (134, pureS [fnP, i64, u64, u64, bl] [bl] (fun t => some (U64 t.1.2.1 ∧ LvR t.2.1)) (fun t => scoversM t.1 t.2.1 t.2.2.1 t.2.2.2.1 t.2.2.2.2)),
  (196, testS), (137, coversS)]
def FJ1 : Dict := mkD (kJ1 ++ kF4 ++ kE3 ++ kA4) [] []
def flL (s w : Int) (m : Es) (f : Fc) : LoopS where
  α := Nat
  I i := i ≤ m.length
  sl i := slots 38 [(0, .ptr 0 0), (1, .fn 196 [.ptr 2 0]), (9, .sl 1 6 0 m.length), (10, .v (.int .i64 m.length)), (11, .v (.int .i64 (i : Int)))]
  H i := [.fix (tlA s w 1 m.length) true (some 52), .arr shE ((m.map (outM f)).take i ++ m.drop i) true, .fix (fcA f) true (some 78)]
  fams := [{ β := Unit, out := fun _ _ => True, ex := .ext 0, sl := fun _ => slots 38 [], H := fun _ => [.fix (tlA s w 1 m.length) true (some 52), .arr shE (m.map (outM f)) true, .fix (fcA f) true (some 78)] }]
def vc_flush_r (s w : Int) (m : Es) (a : Bool) (b : Int) (c : Bool) (d : Int) (i : Nat) : Prop := vcRound Try.prog FJ1 (.one 1 (flL s w m (a, b, c, d))) 3 (loopAt Try.f136 0) (flL s w m (a, b, c, d)) (fun i : Nat => m.length - i) i
def vc_flush (s w : Int) (m : Es) (a : Bool) (b : Int) (c : Bool) (d : Int) : Prop := vcAt Try.prog FJ1 (.one 1 (flL s w m (a, b, c, d))) Try.f136 [.ptr 0 0, .fn 196 [.ptr 2 0]] [.fix (tlA s w 1 m.length) true (some 52), .arr shE m true, .fix (fcA (a, b, c, d)) true (some 78)] (.tup []) [.fix (tlA s w 1 m.length) true (some 52), .arr shE (m.map (outM (a, b, c, d))) true, .fix (fcA (a, b, c, d)) true (some 78)]
def flushS : Sum := fun args H => match args, H with
  | [.ptr 0 0, .fn 196 [.ptr 2 0]], [.fix [.v (.int .i64 s), .v (.int .i64 w), .sl 1 6 0 n] true (some 52), .arr sh m true, .fix [.v (.bool a), .v (.int .u64 b), .v (.bool c), .v (.int .u64 d)] true (some 78)] =>
    if h : sh = shE then some (some (n = m.length ∧ FlR (h ▸ m : List (El shE)) (a, b, c, d)), .tup [], [.fix (tlA s w 1 n) true (some 52), .arr shE ((h ▸ m : List (El shE)).map (outM (a, b, c, d))) true, .fix (fcA (a, b, c, d)) true (some 78)]) else none
  | _, _ => none
def sflL (s w : Int) (m : Es) (f : Fc) : LoopS where
  α := Nat
  I i := i ≤ m.length ∧ FlR m f
  sl i := slots 46 [(2, .ptr 1 0), (3, .ptr 2 0), (4, .ptr 3 0), (5, .ptr 4 0), (6, .v (.int .i64 (i : Int)))]
  H i := [.arr shE m false, .fix (tlA s w 0 m.length) true (some 52), .fix (fcA f) true (some 78), .fix [.v (.int .i64 0), .v (.int .i64 0), .v (.slice none 0 0)] true (some 52), .fix (tlA s w 5 m.length) true (some 52), .arr shE ((m.map (soutM f)).take i ++ m.drop i) true]
  fams := [{ β := Unit, out := fun _ _ => True, ex := .ext 0, sl := fun _ => slots 46 [(4, .ptr 1 0), (5, .ptr 2 0)], H := fun _ => [.arr shE m false, .fix [.v (.int .i64 0), .v (.int .i64 0), .v (.slice none 0 0)] true (some 52), .fix (tlA s w 3 m.length) true (some 52), .arr shE (m.map (soutM f)) true] }]
def vc_sFlush_r (s w : Int) (m : Es) (a : Bool) (b : Int) (c : Bool) (d : Int) (i : Nat) : Prop := vcRound Try.prog FJ1 (.one 5 (sflL s w m (a, b, c, d))) 1 (loopAt Try.f57 0) (sflL s w m (a, b, c, d)) (fun i : Nat => m.length - i) i
def vc_sFlush (s w : Int) (m : Es) (a : Bool) (b : Int) (c : Bool) (d : Int) : Prop := vcPure Try.prog FJ1 (.one 5 (sflL s w m (a, b, c, d))) Try.f57 [tlP, fnP] [tlP] ((s, w, m), (a, b, c, d)) (flushM (s, w, m) (a, b, c, d))
def kJ2 : Known := [(136, flushS), (57, pureS [tlP, fnP] [tlP] (fun t => some (TlR t.1 ∧ U64 t.2.2.1)) (fun t => flushM t.1 t.2))] ++ kJ1
def FJ2 : Dict := mkD (kJ2 ++ kF4 ++ kE3 ++ kA4) [] []
def vc_iFlush (s w : Int) (m : Es) (a : Bool) (b : Int) (c : Bool) (d : Int) : Prop := vcPure Try.prog FJ2 .none Try.f59 [tlP, fnP] [tlP] ((s, w, m), (a, b, c, d)) (flushM (s, w, m) (a, b, c, d))
def kJ3 : Known := (59, pureS [tlP, fnP] [tlP] (fun t => some (TlR t.1 ∧ U64 t.2.2.1)) (fun t => flushM t.1 t.2)) :: kJ2
def FJ3 : Dict := mkD (kJ3 ++ kF4 ++ kE3 ++ kA4) [] []
def vc_lawFlush (s w : Int) (m : Es) (a : Bool) (b : Int) (c : Bool) (d : Int) : Prop := vcPure Try.prog FJ3 .none Try.f15 [tlP, fnP] [bl] ((s, w, m), (a, b, c, d)) true
end Go.Proofs.Ytfiddfbagbaofaa.V
namespace Go.Proofs.Ytfiddfbagbaofaa.V
open Go
set_option linter.unusedVariables false
theorem vc_toFence_eq (a : Bool) (b : Int) (c : Bool) (d : Int) : vc_toFence a b c d = (
 a = a ∧ b = b ∧ c = c ∧ d = d) := by kernel_rfl
theorem vc_goodF_eq (a : Bool) (b : Int) (c : Bool) (d : Int) : vc_goodF a b c d = (
 ((!!a) = true → U64 b) ∧ goodF (a, b, c, d) = bif !a then true else canM b) := by kernel_rfl
theorem vc_scovers_eq (a : Bool) (b : Int) (c : Bool) (d l t s : Int) (g : Bool) : vc_scovers a b c d l t s g = (
 (a = true → U64 b) ∧
   ((match a, !!canM b with
         | true, y => y
         | false, x => false) =
         true →
       U64 b ∧ LvR l) ∧
     ((bif a then bif !canM b then true else t != tagM b l else false) = true → scoversM (a, b, c, d) l t s g = false) ∧
       ((bif a then bif !canM b then true else t != tagM b l else false) = false → scoversM (a, b, c, d) l t s g = bif !c then true else bif !g then s == d else false)) := by kernel_rfl
theorem vc_testT_eq (a : Bool) (b : Int) (c : Bool) (d l t s : Int) (g : Bool) : vc_testT a b c d l t s g = (
 ((!!a) = true → U64 b ∧ LvR l) ∧
   (coversM (a, b, c, d) l t s g = bif bif !a then true else t == tagM b l then bif !c then true else bif !g then s == d else false else false) ∧ a = a ∧ b = b ∧ c = c ∧ d = d) := by kernel_rfl
theorem vc_testF_eq (a : Bool) (b : Int) (c : Bool) (d l t s : Int) (g : Bool) : vc_testF a b c d l t s g = (
 ((!!a) = true → U64 b ∧ LvR l) ∧
   (coversM (a, b, c, d) l t s g = bif bif !a then true else t == tagM b l then bif !c then true else bif !g then s == d else false else false) ∧ a = a ∧ b = b ∧ c = c ∧ d = d) := by kernel_rfl
theorem vc_covers_eq (a : Bool) (b : Int) (c : Bool) (d : Int) : vc_covers a b c d = (
 a = a ∧ b = b ∧ c = c ∧ d = d) := by kernel_rfl
theorem vc_flush_r_eq (s w : Int) (m : Es) (a : Bool) (b : Int) (c : Bool) (d : Int) (i : Nat) : vc_flush_r s w m a b c d i = (
 (decide ((↑i : Int) < (↑(List.length m) : Int)) = true →
     ((0 : Int) ≤ (↑i : Int) ∧ (↑i : Int) < (↑(List.length m) : Int)) ∧
       (0 : Nat) + (↑i : Int).toNat < (List.take i (List.map (outM (a, b, c, d)) m) ++ List.drop i m).length ∧
         (((List.take i (List.map (outM (a, b, c, d)) m) ++ List.drop i m).getD ((0 : Nat) + (↑i : Int).toNat) (El.zero shE)).fst = true →
             U64 b ∧ LvR ((List.take i (List.map (outM (a, b, c, d)) m) ++ List.drop i m).getD ((0 : Nat) + (↑i : Int).toNat) (El.zero shE)).snd.fst) ∧
           ((bif ((List.take i (List.map (outM (a, b, c, d)) m) ++ List.drop i m).getD ((0 : Nat) + (↑i : Int).toNat) (El.zero shE)).fst then
                   coversM (a, b, c, d) ((List.take i (List.map (outM (a, b, c, d)) m) ++ List.drop i m).getD ((0 : Nat) + (↑i : Int).toNat) (El.zero shE)).snd.fst
                     ((List.take i (List.map (outM (a, b, c, d)) m) ++ List.drop i m).getD ((0 : Nat) + (↑i : Int).toNat) (El.zero shE)).snd.snd.fst
                     ((List.take i (List.map (outM (a, b, c, d)) m) ++ List.drop i m).getD ((0 : Nat) + (↑i : Int).toNat) (El.zero shE)).snd.snd.snd.fst
                     ((List.take i (List.map (outM (a, b, c, d)) m) ++ List.drop i m).getD ((0 : Nat) + (↑i : Int).toNat) (El.zero shE)).snd.snd.snd.snd.fst
                 else false) =
                 true →
               ((0 : Int) ≤ (↑i : Int) ∧ (↑i : Int) < (↑(List.length m) : Int)) ∧
                 (0 : Nat) + (↑i : Int).toNat < (List.take i (List.map (outM (a, b, c, d)) m) ++ List.drop i m).length ∧
                   ∃ (y : Nat),
                     ((0 : Nat) = (0 : Nat) ∧
                         List.length m = List.length m ∧
                           (↑(List.length m) : Int) = (↑(List.length m) : Int) ∧
                             (↑y : Int) = IntKind.i64.wrap ((↑i : Int) + (1 : Int)) ∧
                               s = s ∧
                                 w = w ∧
                                   (0 : Nat) = (0 : Nat) ∧
                                     List.length m = List.length m ∧
                                       List.take y (List.map (outM (a, b, c, d)) m) ++ List.drop y m =
                                           (List.take i (List.map (outM (a, b, c, d)) m) ++ List.drop i m).set ((0 : Nat) + (↑i : Int).toNat)
                                             (false, (0 : Int), (0 : Int), (0 : Int), false, (0 : Int)) ∧
                                         a = a ∧ b = b ∧ c = c ∧ d = d) ∧
                       y ≤ List.length m ∧ List.length m - y < List.length m - i ∧ ∀ (z : Unit), True → True) ∧
             ((bif ((List.take i (List.map (outM (a, b, c, d)) m) ++ List.drop i m).getD ((0 : Nat) + (↑i : Int).toNat) (El.zero shE)).fst then
                   coversM (a, b, c, d) ((List.take i (List.map (outM (a, b, c, d)) m) ++ List.drop i m).getD ((0 : Nat) + (↑i : Int).toNat) (El.zero shE)).snd.fst
                     ((List.take i (List.map (outM (a, b, c, d)) m) ++ List.drop i m).getD ((0 : Nat) + (↑i : Int).toNat) (El.zero shE)).snd.snd.fst
                     ((List.take i (List.map (outM (a, b, c, d)) m) ++ List.drop i m).getD ((0 : Nat) + (↑i : Int).toNat) (El.zero shE)).snd.snd.snd.fst
                     ((List.take i (List.map (outM (a, b, c, d)) m) ++ List.drop i m).getD ((0 : Nat) + (↑i : Int).toNat) (El.zero shE)).snd.snd.snd.snd.fst
                 else false) =
                 false →
               ∃ (y : Nat),
                 ((0 : Nat) = (0 : Nat) ∧
                     List.length m = List.length m ∧
                       (↑(List.length m) : Int) = (↑(List.length m) : Int) ∧
                         (↑y : Int) = IntKind.i64.wrap ((↑i : Int) + (1 : Int)) ∧
                           s = s ∧
                             w = w ∧
                               (0 : Nat) = (0 : Nat) ∧
                                 List.length m = List.length m ∧
                                   List.take y (List.map (outM (a, b, c, d)) m) ++ List.drop y m = List.take i (List.map (outM (a, b, c, d)) m) ++ List.drop i m ∧ a = a ∧ b = b ∧ c = c ∧ d = d) ∧
                   y ≤ List.length m ∧ List.length m - y < List.length m - i ∧ ∀ (z : Unit), True → True)) ∧
   (decide ((↑i : Int) < (↑(List.length m) : Int)) = false →
     ∃ (z : Unit),
       (s = s ∧
           w = w ∧
             (0 : Nat) = (0 : Nat) ∧ List.length m = List.length m ∧ List.map (outM (a, b, c, d)) m = List.take i (List.map (outM (a, b, c, d)) m) ++ List.drop i m ∧ a = a ∧ b = b ∧ c = c ∧ d = d) ∧
         True)) := by kernel_rfl
theorem vc_flush_eq (s w : Int) (m : Es) (a : Bool) (b : Int) (c : Bool) (d : Int) : vc_flush s w m a b c d = (
 ∃ (x : Nat),
   ((0 : Nat) = (0 : Nat) ∧
       List.length m = List.length m ∧
         (↑(List.length m) : Int) = (↑(List.length m) : Int) ∧
           (↑x : Int) = (0 : Int) ∧
             s = s ∧ w = w ∧ (0 : Nat) = (0 : Nat) ∧ List.length m = List.length m ∧ List.take x (List.map (outM (a, b, c, d)) m) ++ List.drop x m = m ∧ a = a ∧ b = b ∧ c = c ∧ d = d) ∧
     x ≤ List.length m ∧
       ∀ (z : Unit), True → s = s ∧ w = w ∧ (0 : Nat) = (0 : Nat) ∧ List.length m = List.length m ∧ List.map (outM (a, b, c, d)) m = List.map (outM (a, b, c, d)) m ∧ a = a ∧ b = b ∧ c = c ∧ d = d) := by kernel_rfl
theorem vc_sFlush_r_eq (s w : Int) (m : Es) (a : Bool) (b : Int) (c : Bool) (d : Int) (i : Nat) : vc_sFlush_r s w m a b c d i = (
 (decide ((↑i : Int) < (↑(List.length m) : Int)) = true →
     ((0 : Int) ≤ (↑i : Int) ∧ (↑i : Int) < (↑(List.length m) : Int)) ∧
       (0 : Nat) + (↑i : Int).toNat < List.length m ∧
         ((List.getD m ((0 : Nat) + (↑i : Int).toNat) (El.zero shE)).fst = true → U64 b ∧ LvR (List.getD m ((0 : Nat) + (↑i : Int).toNat) (El.zero shE)).snd.fst) ∧
           ((bif (List.getD m ((0 : Nat) + (↑i : Int).toNat) (El.zero shE)).fst then
                   scoversM (a, b, c, d) (List.getD m ((0 : Nat) + (↑i : Int).toNat) (El.zero shE)).snd.fst (List.getD m ((0 : Nat) + (↑i : Int).toNat) (El.zero shE)).snd.snd.fst
                     (List.getD m ((0 : Nat) + (↑i : Int).toNat) (El.zero shE)).snd.snd.snd.fst (List.getD m ((0 : Nat) + (↑i : Int).toNat) (El.zero shE)).snd.snd.snd.snd.fst
                 else false) =
                 true →
               ((0 : Int) ≤ (↑i : Int) ∧ (↑i : Int) < (↑(List.length m) : Int)) ∧
                 (0 : Nat) + (↑i : Int).toNat < (List.take i (List.map (soutM (a, b, c, d)) m) ++ List.drop i m).length ∧
                   ∃ (y : Nat),
                     ((↑y : Int) = IntKind.i64.wrap ((↑i : Int) + (1 : Int)) ∧
                         m = m ∧
                           s = s ∧
                             w = w ∧
                               (0 : Nat) = (0 : Nat) ∧
                                 List.length m = List.length m ∧
                                   a = a ∧
                                     b = b ∧
                                       c = c ∧
                                         d = d ∧
                                           (0 : Int) = (0 : Int) ∧
                                             (0 : Int) = (0 : Int) ∧
                                               Value.slice none (0 : Nat) (0 : Nat) = Value.slice none (0 : Nat) (0 : Nat) ∧
                                                 s = s ∧
                                                   w = w ∧
                                                     (0 : Nat) = (0 : Nat) ∧
                                                       List.length m = List.length m ∧
                                                         List.take y (List.map (soutM (a, b, c, d)) m) ++ List.drop y m =
                                                           (List.take i (List.map (soutM (a, b, c, d)) m) ++ List.drop i m).set ((0 : Nat) + (↑i : Int).toNat)
                                                             (false, (0 : Int), (0 : Int), (0 : Int), false, (0 : Int))) ∧
                       (y ≤ List.length m ∧ FlR m (a, b, c, d)) ∧ List.length m - y < List.length m - i ∧ ∀ (z : Unit), True → True) ∧
             ((bif (List.getD m ((0 : Nat) + (↑i : Int).toNat) (El.zero shE)).fst then
                   scoversM (a, b, c, d) (List.getD m ((0 : Nat) + (↑i : Int).toNat) (El.zero shE)).snd.fst (List.getD m ((0 : Nat) + (↑i : Int).toNat) (El.zero shE)).snd.snd.fst
                     (List.getD m ((0 : Nat) + (↑i : Int).toNat) (El.zero shE)).snd.snd.snd.fst (List.getD m ((0 : Nat) + (↑i : Int).toNat) (El.zero shE)).snd.snd.snd.snd.fst
                 else false) =
                 false →
               ∃ (y : Nat),
                 ((↑y : Int) = IntKind.i64.wrap ((↑i : Int) + (1 : Int)) ∧
                     m = m ∧
                       s = s ∧
                         w = w ∧
                           (0 : Nat) = (0 : Nat) ∧
                             List.length m = List.length m ∧
                               a = a ∧
                                 b = b ∧
                                   c = c ∧
                                     d = d ∧
                                       (0 : Int) = (0 : Int) ∧
                                         (0 : Int) = (0 : Int) ∧
                                           Value.slice none (0 : Nat) (0 : Nat) = Value.slice none (0 : Nat) (0 : Nat) ∧
                                             s = s ∧
                                               w = w ∧
                                                 (0 : Nat) = (0 : Nat) ∧
                                                   List.length m = List.length m ∧
                                                     List.take y (List.map (soutM (a, b, c, d)) m) ++ List.drop y m = List.take i (List.map (soutM (a, b, c, d)) m) ++ List.drop i m) ∧
                   (y ≤ List.length m ∧ FlR m (a, b, c, d)) ∧ List.length m - y < List.length m - i ∧ ∀ (z : Unit), True → True)) ∧
   (decide ((↑i : Int) < (↑(List.length m) : Int)) = false →
     ∃ (z : Unit),
       (m = m ∧
           (0 : Int) = (0 : Int) ∧
             (0 : Int) = (0 : Int) ∧
               Value.slice none (0 : Nat) (0 : Nat) = Value.slice none (0 : Nat) (0 : Nat) ∧
                 s = s ∧ w = w ∧ (0 : Nat) = (0 : Nat) ∧ List.length m = List.length m ∧ List.map (soutM (a, b, c, d)) m = List.take i (List.map (soutM (a, b, c, d)) m) ++ List.drop i m) ∧
         True)) := by kernel_rfl
theorem vc_sFlush_eq (s w : Int) (m : Es) (a : Bool) (b : Int) (c : Bool) (d : Int) : vc_sFlush s w m a b c d = (
 (List.length m = List.length m ∧ SzR (List.length m)) ∧
   (List.length m = List.length m ∧ TlR (s, w, m)) ∧
     ((!eitherM (s, w, m)) = true →
         (flushM (s, w, m) (a, b, c, d)).fst = s ∧
           (flushM (s, w, m) (a, b, c, d)).snd.fst = w ∧
             (0 : Nat) = (0 : Nat) ∧ List.length (flushM (s, w, m) (a, b, c, d)).snd.snd = List.length m ∧ m = m ∧ (flushM (s, w, m) (a, b, c, d)).snd.snd = m) ∧
       ((!eitherM (s, w, m)) = false →
         ∃ (x : Nat),
           ((↑x : Int) = (0 : Int) ∧
               m = m ∧
                 s = s ∧
                   w = w ∧
                     (0 : Nat) = (0 : Nat) ∧
                       List.length m = List.length m ∧
                         a = a ∧
                           b = b ∧
                             c = c ∧
                               d = d ∧
                                 (0 : Int) = (0 : Int) ∧
                                   (0 : Int) = (0 : Int) ∧
                                     Value.slice none (0 : Nat) (0 : Nat) = Value.slice none (0 : Nat) (0 : Nat) ∧
                                       s = s ∧ w = w ∧ (0 : Nat) = (0 : Nat) ∧ List.length m = List.length m ∧ List.take x (List.map (soutM (a, b, c, d)) m) ++ List.drop x m = m) ∧
             (x ≤ List.length m ∧ FlR m (a, b, c, d)) ∧
               ∀ (z : Unit),
                 True →
                   (flushM (s, w, m) (a, b, c, d)).fst = s ∧
                     (flushM (s, w, m) (a, b, c, d)).snd.fst = w ∧
                       (0 : Nat) = (0 : Nat) ∧ List.length (flushM (s, w, m) (a, b, c, d)).snd.snd = List.length m ∧ m = m ∧ (flushM (s, w, m) (a, b, c, d)).snd.snd = List.map (soutM (a, b, c, d)) m)) := by kernel_rfl
theorem vc_iFlush_eq (s w : Int) (m : Es) (a : Bool) (b : Int) (c : Bool) (d : Int) : vc_iFlush s w m a b c d = (
 (List.length m = List.length m ∧ SzR (List.length m)) ∧
   (List.length m = List.length m ∧ TlR (s, w, m)) ∧
     (eitherM (s, w, m) = true → U64 b) ∧
       ((bif eitherM (s, w, m) then goodF (a, b, c, d) else false) = true →
           (List.length m = List.length m ∧ FlR m (a, b, c, d)) ∧
             (flushM (s, w, m) (a, b, c, d)).fst = s ∧
               (flushM (s, w, m) (a, b, c, d)).snd.fst = w ∧
                 (0 : Nat) = (0 : Nat) ∧ List.length (flushM (s, w, m) (a, b, c, d)).snd.snd = List.length m ∧ m = m ∧ (flushM (s, w, m) (a, b, c, d)).snd.snd = List.map (outM (a, b, c, d)) m) ∧
         ((bif eitherM (s, w, m) then goodF (a, b, c, d) else false) = false →
           (flushM (s, w, m) (a, b, c, d)).fst = s ∧
             (flushM (s, w, m) (a, b, c, d)).snd.fst = w ∧
               (0 : Nat) = (0 : Nat) ∧ List.length (flushM (s, w, m) (a, b, c, d)).snd.snd = List.length m ∧ m = m ∧ (flushM (s, w, m) (a, b, c, d)).snd.snd = m)) := by kernel_rfl
theorem vc_lawFlush_eq (s w : Int) (m : Es) (a : Bool) (b : Int) (c : Bool) (d : Int) : vc_lawFlush s w m a b c d = (
 (List.length m = List.length m ∧ List.length m ≤ (9223372036854775807 : Nat) ∧ (0 : PmT [i64]) ≤ (1048576 : Int) ∧ (1048576 : Int) ≤ (1048576 : PmT [i64])) ∧
   (decide (szM (List.length m) (1048576 : Int) < (0 : Int)) = true → true = true ∧ m = m) ∧
     (decide (szM (List.length m) (1048576 : Int) < (0 : Int)) = false →
       (List.length m = List.length m ∧ SzR (List.length m)) ∧
         (List.length m = List.length m ∧ TlR (s, w, m) ∧ U64 b) ∧
           (List.length m = List.length m ∧ SzR (List.length m)) ∧
             (List.length m = List.length m ∧ TlR (s, w, m) ∧ U64 b) ∧
               (List.length (flushM (s, w, m) (a, b, c, d)).snd.snd = List.length (flushM (s, w, m) (a, b, c, d)).snd.snd ∧
                   List.length (flushM (s, w, m) (a, b, c, d)).snd.snd = List.length (flushM (s, w, m) (a, b, c, d)).snd.snd ∧
                     ((flushM (s, w, m) (a, b, c, d)).fst, (flushM (s, w, m) (a, b, c, d)).snd.fst, (flushM (s, w, m) (a, b, c, d)).snd.snd) =
                         ((flushM (s, w, m) (a, b, c, d)).fst, (flushM (s, w, m) (a, b, c, d)).snd.fst, (flushM (s, w, m) (a, b, c, d)).snd.snd) ∧
                       SzR (List.length (flushM (s, w, m) (a, b, c, d)).snd.snd)) ∧
                 ((!true) = true → true = false ∧ m = m) ∧
                   ((!true) = false →
                     (List.length m = List.length m ∧ SzR (List.length m)) ∧
                       (List.length m = List.length m ∧ List.length m = List.length m ∧ (s, w, m) = (s, w, m) ∧ SzR (List.length m)) ∧
                         ((!true) = true → true = false ∧ m = m) ∧
                           ((!true) = false →
                             (List.length m = List.length m ∧ MarkR (List.length m) (1 : Int)) ∧
                               ((!false) = true →
                                   List.length (flushM (s, w, m) (a, b, c, d)).snd.snd = List.length (flushM (s, w, m) (a, b, c, d)).snd.snd ∧
                                     List.length (flushM (s, w, m) (a, b, c, d)).snd.snd = List.length (flushM (s, w, m) (a, b, c, d)).snd.snd ∧
                                       ((flushM (s, w, m) (a, b, c, d)).fst, (flushM (s, w, m) (a, b, c, d)).snd.fst, (flushM (s, w, m) (a, b, c, d)).snd.snd) =
                                           ((flushM (s, w, m) (a, b, c, d)).fst, (flushM (s, w, m) (a, b, c, d)).snd.fst, (flushM (s, w, m) (a, b, c, d)).snd.snd) ∧
                                         SzR (List.length (flushM (s, w, m) (a, b, c, d)).snd.snd)) ∧
                                 ((!true) = true → true = false ∧ m = m) ∧
                                   ((!true) = false →
                                     (List.length (flushM (s, w, m) (a, b, c, d)).snd.snd = List.length (flushM (s, w, m) (a, b, c, d)).snd.snd ∧
                                         MarkR (List.length (flushM (s, w, m) (a, b, c, d)).snd.snd) (1 : Int)) ∧
                                       (List.length (flushM (s, w, m) (a, b, c, d)).snd.snd = List.length (markEs (1 : Int) (List.length (flushM (s, w, m) (a, b, c, d)).snd.snd)) ∧
                                           MarkR (List.length (markEs (1 : Int) (List.length (flushM (s, w, m) (a, b, c, d)).snd.snd))) (1 : Int) ∧
                                             markEs (1 : Int) (List.length (flushM (s, w, m) (a, b, c, d)).snd.snd) =
                                               markEs (1 : Int) (List.length (markEs (1 : Int) (List.length (flushM (s, w, m) (a, b, c, d)).snd.snd)))) ∧
                                         (false = true → true = false ∧ m = m) ∧
                                           (false = false →
                                             (((1 : Int) + (6 : PmT [i64]) * (↑(List.length (markEs (1 : Int) (List.length (flushM (s, w, m) (a, b, c, d)).snd.snd))) : PmT [i64]) !=
                                                     (1 : Int) + (6 : PmT [i64]) * (↑(List.length (flushM (s, w, m) (a, b, c, d)).snd.snd) : PmT [i64])) =
                                                   true →
                                                 true = false ∧ m = m) ∧
                                               (((1 : Int) + (6 : PmT [i64]) * (↑(List.length (markEs (1 : Int) (List.length (flushM (s, w, m) (a, b, c, d)).snd.snd))) : PmT [i64]) !=
                                                     (1 : Int) + (6 : PmT [i64]) * (↑(List.length (flushM (s, w, m) (a, b, c, d)).snd.snd) : PmT [i64])) =
                                                   false →
                                                 (List.length m = List.length m ∧ SzR (List.length m)) ∧
                                                   (List.length m = List.length m ∧ TlR (s, w, m) ∧ U64 b) ∧
                                                     (List.length (flushM (s, w, m) (a, b, c, d)).snd.snd = List.length (flushM (s, w, m) (a, b, c, d)).snd.snd ∧
                                                         List.length (flushM (s, w, m) (a, b, c, d)).snd.snd = List.length (flushM (s, w, m) (a, b, c, d)).snd.snd ∧
                                                           ((flushM (s, w, m) (a, b, c, d)).fst, (flushM (s, w, m) (a, b, c, d)).snd.fst, (flushM (s, w, m) (a, b, c, d)).snd.snd) =
                                                               ((flushM (s, w, m) (a, b, c, d)).fst, (flushM (s, w, m) (a, b, c, d)).snd.fst, (flushM (s, w, m) (a, b, c, d)).snd.snd) ∧
                                                             SzR (List.length (flushM (s, w, m) (a, b, c, d)).snd.snd)) ∧
                                                       ((!true) = true → true = false ∧ m = m) ∧ ((!true) = false → true = true ∧ m = m)))))))) := by kernel_rfl
end Go.Proofs.Ytfiddfbagbaofaa.V
namespace Go.Proofs.Ytfiddfbagbaofaa.V
open Go
set_option linter.unusedSimpArgs false

theorem half {α : Type} (f : α → α) (m : List α) {i : Nat} (h : i < m.length) : ∃ a b : List α, ∃ x : α, (∀ d, m.getD i d = x) ∧ a.length = i ∧ (m.map f).take i ++ m.drop i = a ++ x :: b ∧ (m.map f).take (i + 1) ++ m.drop (i + 1) = a ++ f x :: b := by
  refine ⟨(m.map f).take i, m.drop (i + 1), m[i], fun d => by rw [List.getD_eq_getElem?_getD, List.getElem?_eq_getElem h]; rfl, by simp; omega, by rw [← List.drop_eq_getElem_cons h], ?_⟩
  have h' : i < (m.map f).length := by simpa using h
  rw [List.take_succ_eq_append_getElem h', List.append_assoc]
  simp
theorem half_end {α : Type} (f : α → α) (m : List α) : m.map f = (m.map f).take m.length ++ m.drop m.length := by
  rw [List.drop_length, List.append_nil, List.take_of_length_le (by simp)]
theorem toFence_ok : Sound Try.prog 58 (pureS [fnP] [fnP] (fun _ => none) (fun f => f)) := by
  refine pure_plain mixed Try.func58 (by kernel_rfl) (by kernel_rfl) FF4_ok (fun t _ => ?_)
  obtain ⟨a, b, c, d⟩ : Fc := t
  exact vc_by (vc_toFence_eq a b c d) ⟨rfl, rfl, rfl, rfl⟩
theorem goodF_ok : Sound Try.prog 135 (pureS [fnP] [bl] (fun f => some (U64 f.2.1)) goodF) := by
  refine pure_plain mixed Try.func135 (by kernel_rfl) (by kernel_rfl) FF4_ok (fun t h => ?_)
  obtain ⟨a, b, c, d⟩ : Fc := t
  have h : U64 b := h
  refine vc_by (vc_goodF_eq a b c d) ⟨fun _ => h, ?_⟩
  rw [Bool.cond_true_left]
  rfl
theorem scovers_ok : Sound Try.prog 134 (pureS [fnP, i64, u64, u64, bl] [bl] (fun t => some (U64 t.1.2.1 ∧ LvR t.2.1)) (fun t => scoversM t.1 t.2.1 t.2.2.1 t.2.2.2.1 t.2.2.2.2)) := by
  refine pure_plain mixed Try.func134 (by kernel_rfl) (by kernel_rfl) FF4_ok (fun t h => ?_)
  obtain ⟨⟨a, b, c, d⟩, l, t, s, g⟩ : Fc × Int × Int × Int × Bool := t
  obtain ⟨h1, h2⟩ : U64 b ∧ LvR l := h
  refine vc_by (vc_scovers_eq a b c d l t s g) ⟨fun _ => h1, fun _ => ⟨h1, h2⟩, fun q => ?_, fun q => ?_⟩
  · rw [Bool.cond_false_right, Bool.cond_true_left] at q
    unfold scoversM
    simp only
    rw [q]
    rfl
  · rw [Bool.cond_false_right, Bool.cond_true_left] at q
    unfold scoversM
    simp only
    rw [q, Bool.cond_true_left, Bool.cond_false_right]
    rfl
theorem test_eq {a : Bool} {b : Int} {c : Bool} {d l t s : Int} {g : Bool} : coversM (a, b, c, d) l t s g = bif bif !a then true else t == tagM b l then bif !c then true else bif !g then s == d else false else false := by
  simp only [Bool.cond_true_left, Bool.cond_false_right]
  rfl
theorem test_ok : Sound Try.prog 196 testS := by
  refine sound_plain mixed Try.func196 (by kernel_rfl) (by kernel_rfl) FF4_ok (fun args H p v H' h hp => ?_)
  unfold testS at h
  split at h
  case h_2 => cases h
  rename_i l t s g a b c d o
  simp only [Option.some.injEq, Prod.mk.injEq] at h
  obtain ⟨rfl, rfl, rfl⟩ := h
  have hp : U64 b ∧ LvR l := hp
  cases o with
  | true => exact ⟨.none, vc_by (vc_testT_eq a b c d l t s g) ⟨fun _ => hp, test_eq, rfl, rfl, rfl, rfl⟩⟩
  | false => exact ⟨.none, vc_by (vc_testF_eq a b c d l t s g) ⟨fun _ => hp, test_eq, rfl, rfl, rfl, rfl⟩⟩
theorem covers_ok : Sound Try.prog 137 coversS := by
  refine sound_plain mixed Try.func137 (by kernel_rfl) (by kernel_rfl) FF4_ok (fun args H p v H' h hp => ?_)
  unfold coversS at h
  split at h
  case h_2 => cases h
  rename_i a b c d
  simp only [Option.some.injEq, Prod.mk.injEq] at h
  obtain ⟨rfl, rfl, rfl⟩ := h
  exact ⟨.none, vc_by (vc_covers_eq a b c d) ⟨rfl, rfl, rfl, rfl⟩⟩
theorem kJ1_ok : KnowsD Try.prog kJ1 := .cons (by kernel_rfl) toFence_ok <| .cons (by kernel_rfl) goodF_ok <| .cons (by kernel_rfl) scovers_ok <| .cons (by kernel_rfl) test_ok <| .cons (by kernel_rfl) covers_ok .nil
theorem FJ1_ok : DictOk Try.prog FJ1 := mkD_ok (((kJ1_ok.append kF4_ok).append kE3_ok).append kA4_ok) .nil .nil
theorem flush_ok : Sound Try.prog 136 flushS := by
  refine sound_loop mixed Try.func136 (by kernel_rfl) (b := loopAt Try.f136 0) (k := 1) (by kernel_rfl) (by kernel_rfl) (by kernel_rfl) FJ1_ok (fun args H p v H' h hp => ?_)
  unfold flushS at h
  split at h
  case h_2 => cases h
  rename_i s w n sh m a b c d
  split at h
  case isFalse => cases h
  rename_i hsh
  subst hsh
  simp only [Option.some.injEq, Prod.mk.injEq] at h
  obtain ⟨rfl, rfl, rfl⟩ := h
  obtain ⟨rfl, hz, hb, hlv⟩ : n = m.length ∧ FlR m (a, b, c, d) := hp
  have hs : m.length ≤ 2097152 := hz
  refine ⟨.one 1 (flL s w m (a, b, c, d)), flL s w m (a, b, c, d), fun i : Nat => m.length - i, one_loop _ _, fun (i : Nat) hi => vc_by (vc_flush_r_eq s w m a b c d i) ?_, vc_by (vc_flush_eq s w m a b c d) ?_⟩
  · have hi : i ≤ m.length := hi
    refine ⟨fun q => ?_, fun q => ?_⟩
    · have q : (i : Int) < m.length := of_decide_eq_true q
      have hlt : i < m.length := by omega
      obtain ⟨x, y, e, h1, h2, h3, h4⟩ := half (outM (a, b, c, d)) m hlt
      have hv := hlv i hlt
      rw [h1] at hv
      have hlen : i < (x ++ e :: y).length := by simp; omega
      rw [next_i64 hz hlt, show 0 + (i : Int).toNat = i by omega, h3, mid_get _ _ _ _ h2, mid_set _ _ _ _ h2]
      refine ⟨⟨by omega, by omega⟩, hlen, fun z => ⟨hb, hv z⟩, fun z => ⟨⟨by omega, by omega⟩, hlen, i + 1, ⟨rfl, rfl, rfl, rfl, rfl, rfl, rfl, rfl, ?_, rfl, rfl, rfl, rfl⟩, by omega, by omega, fun _ _ => trivial⟩, fun z => ⟨i + 1, ⟨rfl, rfl, rfl, rfl, rfl, rfl, rfl, rfl, ?_, rfl, rfl, rfl, rfl⟩, by omega, by omega, fun _ _ => trivial⟩⟩
      · rw [Bool.cond_false_right] at z
        rw [h4]
        unfold outM
        rw [if_pos z]
        rfl
      · rw [Bool.cond_false_right] at z
        rw [h4]
        unfold outM
        rw [if_neg (by rw [z]; decide)]
    · have q : ¬ (i : Int) < m.length := of_decide_eq_false q
      have : i = m.length := by omega
      subst this
      exact ⟨(), ⟨rfl, rfl, rfl, rfl, half_end _ m, rfl, rfl, rfl, rfl⟩, trivial⟩
  · exact ⟨0, ⟨rfl, rfl, rfl, rfl, rfl, rfl, rfl, rfl, rfl, rfl, rfl, rfl, rfl⟩, by omega, fun _ _ => ⟨rfl, rfl, rfl, rfl, rfl, rfl, rfl, rfl, rfl⟩⟩
theorem sout_good {f : Fc} (h : goodF f = true) (e : En) : soutM f e = outM f e := by
  obtain ⟨a, b, c, d⟩ := f
  have : scoversM (a, b, c, d) e.2.1 e.2.2.1 e.2.2.2.1 e.2.2.2.2.1 = coversM (a, b, c, d) e.2.1 e.2.2.1 e.2.2.2.1 e.2.2.2.2.1 := by
    unfold goodF at h
    unfold scoversM coversM
    simp only at h ⊢
    cases a with
    | false => rfl
    | true =>
      have h : canM b = true := by simpa using h
      rw [h]
      simp [bne]
  unfold soutM outM
  rw [this]
theorem sout_bad {f : Fc} (h : goodF f = false) (e : En) : soutM f e = e := by
  obtain ⟨a, b, c, d⟩ := f
  have : scoversM (a, b, c, d) e.2.1 e.2.2.1 e.2.2.2.1 e.2.2.2.2.1 = false := by
    unfold goodF at h
    unfold scoversM
    simp only [Bool.or_eq_false_iff, Bool.not_eq_false'] at h
    simp only at h ⊢
    rw [h.1, h.2]
    rfl
  unfold soutM
  rw [this, if_neg (by simp)]
theorem flushM_spec {t : Tl} {f : Fc} (h : eitherM t = true) : (flushM t f).2.2 = t.2.2.map (soutM f) := by
  unfold flushM
  simp only
  cases g : goodF f with
  | true =>
    rw [h, if_pos (by rfl)]
    exact List.map_congr_left (fun e _ => (sout_good g e).symm)
  | false =>
    rw [h, if_neg (by simp)]
    rw [List.map_congr_left (fun e _ => sout_bad g e)]
    simp
theorem flushM_length (t : Tl) (f : Fc) : (flushM t f).2.2.length = t.2.2.length := by
  unfold flushM
  simp only
  split <;> simp
theorem fl_of {s w : Int} {m : Es} {f : Fc} (ht : TlR (s, w, m)) (hb : U64 f.2.1) (he : eitherM (s, w, m) = true) : FlR m f := ⟨ht.2.2.1, hb, fun _ hi hv => either_lv (t := (s, w, m)) he hi hv⟩
theorem sFlush_ok : Sound Try.prog 57 (pureS [tlP, fnP] [tlP] (fun t => some (TlR t.1 ∧ U64 t.2.2.1)) (fun t => flushM t.1 t.2)) := by
  refine pure_loop mixed Try.func57 (by kernel_rfl) (b := loopAt Try.f57 0) (k := 5) (by kernel_rfl) (by kernel_rfl) (by kernel_rfl) FJ1_ok (fun t h => ?_)
  obtain ⟨⟨s, w, m⟩, a, b, c, d⟩ : Tl × Fc := t
  obtain ⟨ht, hb⟩ : TlR (s, w, m) ∧ U64 b := h
  have hz : SzR m.length := ht.2.2.1
  have hs : m.length ≤ 2097152 := hz
  refine ⟨.one 5 (sflL s w m (a, b, c, d)), sflL s w m (a, b, c, d), fun i : Nat => m.length - i, one_loop _ _, fun (i : Nat) hi => vc_by (vc_sFlush_r_eq s w m a b c d i) ?_, vc_by (vc_sFlush_eq s w m a b c d) ?_⟩
  · obtain ⟨hi, hF⟩ : i ≤ m.length ∧ FlR m (a, b, c, d) := hi
    refine ⟨fun q => ?_, fun q => ?_⟩
    · have q : (i : Int) < m.length := of_decide_eq_true q
      have hlt : i < m.length := by omega
      obtain ⟨x, y, e, h1, h2, h3, h4⟩ := half (soutM (a, b, c, d)) m hlt
      have hv := hF.2.2 i hlt
      rw [h1] at hv
      have hlen : i < (x ++ e :: y).length := by simp; omega
      rw [next_i64 hz hlt, show 0 + (i : Int).toNat = i by omega, h3, h1, mid_set _ _ _ _ h2]
      refine ⟨⟨by omega, by omega⟩, hlt, fun z => ⟨hb, hv z⟩, fun z => ⟨⟨by omega, by omega⟩, hlen, i + 1, ⟨rfl, rfl, rfl, rfl, rfl, rfl, rfl, rfl, rfl, rfl, rfl, rfl, rfl, rfl, rfl, rfl, rfl, ?_⟩, ⟨by omega, hF⟩, by omega, fun _ _ => trivial⟩, fun z => ⟨i + 1, ⟨rfl, rfl, rfl, rfl, rfl, rfl, rfl, rfl, rfl, rfl, rfl, rfl, rfl, rfl, rfl, rfl, rfl, ?_⟩, ⟨by omega, hF⟩, by omega, fun _ _ => trivial⟩⟩
      · rw [Bool.cond_false_right] at z
        rw [h4]
        unfold soutM
        rw [if_pos z]
        rfl
      · rw [Bool.cond_false_right] at z
        rw [h4]
        unfold soutM
        rw [if_neg (by rw [z]; decide)]
    · have q : ¬ (i : Int) < m.length := of_decide_eq_false q
      have : i = m.length := by omega
      subst this
      exact ⟨(), ⟨rfl, rfl, rfl, rfl, rfl, rfl, rfl, rfl, half_end _ m⟩, trivial⟩
  · refine ⟨⟨rfl, hz⟩, ⟨rfl, ht⟩, fun q => ?_, fun q => ?_⟩
    · have he : eitherM (s, w, m) = false := by simpa using q
      have e : flushM (s, w, m) (a, b, c, d) = (s, w, m) := by simp [flushM, he]
      rw [e]
      exact ⟨rfl, rfl, rfl, rfl, rfl, rfl⟩
    · have he : eitherM (s, w, m) = true := by simpa using q
      refine ⟨0, ⟨rfl, rfl, rfl, rfl, rfl, rfl, rfl, rfl, rfl, rfl, rfl, rfl, rfl, rfl, rfl, rfl, rfl, rfl⟩, ⟨by omega, fl_of ht hb he⟩, fun _ _ => ⟨rfl, rfl, rfl, flushM_length _ _, rfl, flushM_spec he⟩⟩
theorem kJ2_ok : KnowsD Try.prog kJ2 := .cons (by kernel_rfl) flush_ok <| .cons (by kernel_rfl) sFlush_ok kJ1_ok
theorem FJ2_ok : DictOk Try.prog FJ2 := mkD_ok (((kJ2_ok.append kF4_ok).append kE3_ok).append kA4_ok) .nil .nil
theorem iFlush_ok : Sound Try.prog 59 (pureS [tlP, fnP] [tlP] (fun t => some (TlR t.1 ∧ U64 t.2.2.1)) (fun t => flushM t.1 t.2)) := by
  refine pure_plain mixed Try.func59 (by kernel_rfl) (by kernel_rfl) FJ2_ok (fun t h => ?_)
  obtain ⟨⟨s, w, m⟩, a, b, c, d⟩ : Tl × Fc := t
  obtain ⟨ht, hb⟩ : TlR (s, w, m) ∧ U64 b := h
  refine vc_by (vc_iFlush_eq s w m a b c d) ⟨⟨rfl, ht.2.2.1⟩, ⟨rfl, ht⟩, fun _ => hb, fun q => ?_, fun q => ?_⟩
  · rw [Bool.cond_false_right] at q
    have e : flushM (s, w, m) (a, b, c, d) = (s, w, m.map (outM (a, b, c, d))) := by unfold flushM; simp only; rw [if_pos q]
    have he : eitherM (s, w, m) = true := by rw [Bool.and_eq_true] at q; exact q.1
    rw [e]
    exact ⟨⟨rfl, fl_of ht hb he⟩, rfl, rfl, rfl, by simp, rfl, rfl⟩
  · rw [Bool.cond_false_right] at q
    have e : flushM (s, w, m) (a, b, c, d) = (s, w, m) := by unfold flushM; simp only; rw [if_neg (by rw [q]; decide)]
    rw [e]
    exact ⟨rfl, rfl, rfl, rfl, rfl, rfl⟩
theorem kJ3_ok : KnowsD Try.prog kJ3 := .cons (by kernel_rfl) iFlush_ok kJ2_ok
theorem FJ3_ok : DictOk Try.prog FJ3 := mkD_ok (((kJ3_ok.append kF4_ok).append kE3_ok).append kA4_ok) .nil .nil
theorem lawFlush_ok : Canon Try.prog 15 [tlP, fnP] [bl] (WfPs [tlP, fnP]) (fun _ => true) := by
  refine canon_plain mixed Try.func15 (by kernel_rfl) (by kernel_rfl) FJ3_ok (fun t h => ?_)
  obtain ⟨⟨s, w, m⟩, a, b, c, d⟩ : Tl × Fc := t
  obtain ⟨h1, h2, h3, h4⟩ := wf_tl (t := (s, w, m)) h.1
  have hb : U64 b := wf_u64 h.2.2.1
  refine ⟨.none, vc_by (vc_lawFlush_eq s w m a b c d) ⟨⟨rfl, h3, by show (0 : Int) ≤ 1048576; decide, by show (1048576 : Int) ≤ 1048576; decide⟩, fun _ => ⟨rfl, rfl⟩, fun q => ?_⟩⟩
  have hz : SzR m.length := sz_ok (Int.le_refl _) (of_decide_eq_false q)
  have ht : TlR (s, w, m) := ⟨h1, h2, hz, h4⟩
  have hk : MarkR m.length 1 := ⟨hz, by decide, by decide⟩
  have hI := flushM_length (s, w, m) (a, b, c, d)
  simp only at hI
  rw [hI, markEs_length]
  simp [hz, ht, hb, hk, markEs_length]
end Go.Proofs.Ytfiddfbagbaofaa.V
