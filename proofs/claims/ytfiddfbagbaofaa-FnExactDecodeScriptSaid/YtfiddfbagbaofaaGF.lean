/- Valid caches, and finding in them, answer as their models. Conditions: those in each statement. -/
import Derived.Test.YtfiddfbagbaofaaGE
import Derived.KernelRfl
namespace Go.Proofs.Ytfiddfbagbaofaa.V
open Go

def EnR (e : En) : Prop := I64 e.2.1 ∧ U64 e.2.2.1 ∧ U64 e.2.2.2.1 ∧ U64 e.2.2.2.2.2
def TlR (t : Tl) : Prop := I64 t.1 ∧ I64 t.2.1 ∧ SzR t.2.2.length ∧ ∀ e ∈ t.2.2, EnR e
def wantM (ptr : Bool) : Int := if ptr = true then 1 else 2
def goodE (ptr : Bool) (e : En) : Bool := e.1 && lvM e.2.1 && decide (e.2.2.1 < 2 ^ (9 - 3 * e.2.1).toNat) && decide (e.2.2.2.1 ≤ 65535) && (e.2.2.2.2.1 == bitM e.2.2.2.2.2 5) && (kindM e.2.2.2.2.2 e.2.1 == wantM ptr)
def okAt (ptr : Bool) (s w : Int) (i : Nat) (e : En) : Bool := e == zE || (goodE ptr e && (IntKind.i64.wrap e.2.2.1).tmod s == ((i : Int).tdiv w))
def rowsM (ptr : Bool) (s w : Int) (m : Es) : Bool := (List.range m.length).all fun i => okAt ptr s w i (m.getD i zE)
def headM (s w : Int) (m : Es) : Bool := (s == 1 || s == 2 || s == 4 || s == 8) && decide (1 ≤ w) && decide (w ≤ 4) && (m.length : Int) == s * w
def validM (ptr : Bool) (t : Tl) : Bool := headM t.1 t.2.1 t.2.2 && rowsM ptr t.1 t.2.1 t.2.2
def eitherM (t : Tl) : Bool := validM true t || validM false t
def fitsM (e : En) (va asid : Int) : Bool := e.1 && (e.2.2.1 == tagM va e.2.1) && (e.2.2.2.2.1 || e.2.2.2.1 == asid)
abbrev stP : Pm := .st []
def FE3 : Dict := mkD (kE3 ++ kA4) [] []
def vc_keepsP (k : Int) : Prop := vcPure Try.prog F0 .none Try.f236 [stP, i64] [bl] ((), k) (k == 1)
def vc_keepsL (k : Int) : Prop := vcPure Try.prog F0 .none Try.f237 [stP, i64] [bl] ((), k) (k == 2)
def vc_l4Good (a : Bool) (b c d : Int) (e : Bool) (f : Int) (p : Bool) : Prop := vcPure Try.prog FE3 .none Try.f111 [enP, bl] [bl] ((a, b, c, d, e, f), p) (goodE p (a, b, c, d, e, f))
def vc_l4Fits (a : Bool) (b c d : Int) (e : Bool) (f : Int) (va asid : Int) : Prop := vcPure Try.prog FE3 .none Try.f117 [enP, u64, u64] [bl] ((a, b, c, d, e, f), va, asid) (fitsM (a, b, c, d, e, f) va asid)
def kF1 : Known := [
  (236, pureS [stP, i64] [bl] (fun _ => none) (fun t => t.2 == 1)),
  (237, pureS [stP, i64] [bl] (fun _ => none) (fun t => t.2 == 2)),
  (111, pureS [enP, bl] [bl] (fun t => some (EnR t.1)) (fun t => goodE t.2 t.1)),
  (117, pureS [enP, u64, u64] [bl] (fun t => some (EnR t.1 ∧ (t.1.1 = true → LvR t.1.2.1) ∧ U64 t.2.1)) (fun t => fitsM t.1 t.2.1 t.2.2))]
def FF1 : Dict := mkD (kF1 ++ kE3 ++ kA4) [] []
def vc_goodP (s w : Int) (m : Es) (a : Bool) (b c d : Int) (e : Bool) (f : Int) : Prop := vcPure Try.prog FF1 .none Try.f187 [tlP, enP] [bl] ((s, w, m), (a, b, c, d, e, f)) (goodE true (a, b, c, d, e, f))
def vc_goodL (s w : Int) (m : Es) (a : Bool) (b c d : Int) (e : Bool) (f : Int) : Prop := vcPure Try.prog FF1 .none Try.f188 [tlP, enP] [bl] ((s, w, m), (a, b, c, d, e, f)) (goodE false (a, b, c, d, e, f))
def kF2 : Known := [
  (187, pureS [tlP, enP] [bl] (fun t => some (EnR t.2)) (fun t => goodE true t.2)),
  (188, pureS [tlP, enP] [bl] (fun t => some (EnR t.2)) (fun t => goodE false t.2))] ++ kF1
def FF2 : Dict := mkD (kF2 ++ kE3 ++ kA4) [] []

def valL (ptr : Bool) (ty : TypeId) (s w : Int) (m : Es) : LoopS where
  α := Nat
  I i := headM s w m = true ∧ i ≤ m.length ∧ ∀ j, j < i → okAt ptr s w j (m.getD j zE) = true
  sl i := slots 71 [(1, .ptr 1 0), (39, .sl 0 6 0 m.length), (40, .v (.int .i64 m.length)), (41, .v (.int .i64 i))]
  H _ := [.arr shE m false, .fix [.v (.int .i64 s), .v (.int .i64 w), .sl 0 6 0 m.length] true (some ty)]
  fams := [{ β := Unit, out := fun _ _ => rowsM ptr s w m = true, ex := .ext 0, sl := fun _ => slots 71 [], H := fun _ => [.arr shE m false] },
    { β := Unit, out := fun _ _ => rowsM ptr s w m = false, ex := .ret, sl := fun _ => slots 71 [(2, .v (.bool false))], H := fun _ => [.arr shE m false] }]
def vc_valP_r (s w : Int) (m : Es) (i : Nat) : Prop := vcRound Try.prog FF2 (.one 4 (valL true 157 s w m)) 1 (loopAt Try.f113 0) (valL true 157 s w m) (fun i : Nat => m.length - i) i
def vc_valP (s w : Int) (m : Es) : Prop := vcPure Try.prog FF2 (.one 4 (valL true 157 s w m)) Try.f113 [tlP] [bl] (s, w, m) (validM true (s, w, m))
def vc_valL_r (s w : Int) (m : Es) (i : Nat) : Prop := vcRound Try.prog FF2 (.one 4 (valL false 160 s w m)) 1 (loopAt Try.f114 0) (valL false 160 s w m) (fun i : Nat => m.length - i) i
def vc_valL (s w : Int) (m : Es) : Prop := vcPure Try.prog FF2 (.one 4 (valL false 160 s w m)) Try.f114 [tlP] [bl] (s, w, m) (validM false (s, w, m))
def svalL (ptr : Bool) (s w : Int) (m : Es) : LoopS where
  α := Nat
  I i := headM s w m = true ∧ i ≤ m.length ∧ ∀ j, j < i → okAt ptr s w j (m.getD j zE) = true
  sl i := slots 80 [(1, .v (.bool ptr)), (2, .ptr 1 0), (5, .v (.int .i64 i))]
  H _ := [.arr shE m false, .fix [.v (.int .i64 s), .v (.int .i64 w), .sl 0 6 0 m.length] true (some 52)]
  fams := [{ β := Unit, out := fun _ _ => rowsM ptr s w m = true, ex := .ext 0, sl := fun _ => slots 80 [], H := fun _ => [.arr shE m false] },
    { β := Unit, out := fun _ _ => rowsM ptr s w m = false, ex := .ret, sl := fun _ => slots 80 [(4, .v (.bool false))], H := fun _ => [.arr shE m false] }]
def vc_sval_r (s w : Int) (m : Es) (p : Bool) (i : Nat) : Prop := vcRound Try.prog FF2 (.one 4 (svalL p s w m)) 1 (loopAt Try.f40 0) (svalL p s w m) (fun i : Nat => m.length - i) i
def vc_sval (s w : Int) (m : Es) (p : Bool) : Prop := vcPure Try.prog FF2 (.one 4 (svalL p s w m)) Try.f40 [tlP, bl] [bl] ((s, w, m), p) (validM p (s, w, m))
abbrev Hi := Bool × Int × Int × Int
def findStep (va asid : Int) (o : Hi) (i : Nat) (e : En) : Hi := if (fitsM e va asid && (!o.1 || decide (e.2.1 < o.2.2.1))) = true then (true, (i : Int), e.2.1, e.2.2.2.2.2) else o
def findP (va asid : Int) (m : Es) : Nat → Hi
  | 0 => (false, 0, 0, 0)
  | i + 1 => findStep va asid (findP va asid m i) i (m.getD i zE)
def findM (va asid : Int) (m : Es) : Hi := findP va asid m m.length
def hitA (o : Hi) : List Av := [.v (.bool o.1), .v (.int .i64 o.2.1), .v (.int .i64 o.2.2.1), .v (.int .u64 o.2.2.2)]
def findL (va asid : Int) (m : Es) : LoopS where
  α := Nat
  I i := i ≤ m.length
  sl i := slots 59 [(1, .v (.int .u64 va)), (2, .v (.int .u64 asid)), (6, .ptr 1 0), (7, .ptr 2 0), (11, .sl 0 6 0 m.length), (12, .v (.int .i64 m.length)), (13, .v (.int .i64 i))]
  H i := [.arr shE m false, .fix (hitA (false, 0, 0, 0)) true (some 57), .fix (hitA (findP va asid m i)) true (some 57)]
  fams := [{ β := Unit, out := fun _ _ => True, ex := .ext 0, sl := fun _ => slots 59 [(6, .ptr 1 0), (7, .ptr 2 0)], H := fun _ => [.arr shE m false, .fix (hitA (false, 0, 0, 0)) true (some 57), .fix (hitA (findM va asid m)) true (some 57)] }]
def vc_find_r (va asid : Int) (m : Es) (i : Nat) : Prop := vcRound Try.prog FF2 (.one 3 (findL va asid m)) 1 (loopAt Try.f119 0) (findL va asid m) (fun i : Nat => m.length - i) i
def vc_find (s w : Int) (m : Es) (va asid : Int) : Prop := vcPure Try.prog FF2 (.one 3 (findL va asid m)) Try.f119 [tlP, u64, u64] [hitP] ((s, w, m), va, asid) (findM va asid m)
def kF3 : Known := [
  (113, pureS [tlP] [bl] (fun t => some (TlR t)) (validM true)),
  (114, pureS [tlP] [bl] (fun t => some (TlR t)) (validM false)),
  (40, pureS [tlP, bl] [bl] (fun t => some (TlR t.1)) (fun t => validM t.2 t.1)),
  (119, pureS [tlP, u64, u64] [hitP] (fun t => some (eitherM t.1 = true ∧ TlR t.1 ∧ U64 t.2.1)) (fun t => findM t.2.1 t.2.2 t.1.2.2))] ++ kF2
def FF3 : Dict := mkD (kF3 ++ kE3 ++ kA4) [] []
def vc_ival (s w : Int) (m : Es) (p : Bool) : Prop := vcPure Try.prog FF3 .none Try.f42 [tlP, bl] [bl] ((s, w, m), p) (validM p (s, w, m))
def vc_tval (s w : Int) (m : Es) : Prop := vcPure Try.prog FF3 .none Try.f118 [tlP] [bl] (s, w, m) (eitherM (s, w, m))
def vc_either (s w : Int) (m : Es) : Prop := vcPure Try.prog FF3 .none Try.f116 [tlP] [bl] (s, w, m) (eitherM (s, w, m))
def vc_takesP (s w : Int) (m : Es) (a : Bool) (b c d : Int) (e : Bool) (f : Int) : Prop := vcPure Try.prog FF3 .none Try.f130 [tlP, enP] [bl] ((s, w, m), (a, b, c, d, e, f)) (validM true (s, w, m) && goodE true (a, b, c, d, e, f))
def vc_takesL (s w : Int) (m : Es) (a : Bool) (b c d : Int) (e : Bool) (f : Int) : Prop := vcPure Try.prog FF3 .none Try.f129 [tlP, enP] [bl] ((s, w, m), (a, b, c, d, e, f)) (validM false (s, w, m) && goodE false (a, b, c, d, e, f))
def kF4 : Known := [
  (42, pureS [tlP, bl] [bl] (fun t => some (TlR t.1)) (fun t => validM t.2 t.1)),
  (118, pureS [tlP] [bl] (fun t => some (TlR t)) eitherM),
  (116, pureS [tlP] [bl] (fun t => some (TlR t)) eitherM),
  (130, pureS [tlP, enP] [bl] (fun t => some (TlR t.1 ∧ EnR t.2)) (fun t => validM true t.1 && goodE true t.2)),
  (129, pureS [tlP, enP] [bl] (fun t => some (TlR t.1 ∧ EnR t.2)) (fun t => validM false t.1 && goodE false t.2))] ++ kF3
end Go.Proofs.Ytfiddfbagbaofaa.V
namespace Go.Proofs.Ytfiddfbagbaofaa.V
open Go
set_option linter.unusedVariables false
theorem vc_keepsP_eq (k : Int) : vc_keepsP k = (
 (k == (1 : Int)) = (k == (1 : Int))) := by kernel_rfl
theorem vc_keepsL_eq (k : Int) : vc_keepsL k = (
 (k == (2 : Int)) = (k == (2 : Int))) := by kernel_rfl
theorem vc_l4Good_eq (a : Bool) (b c d : Int) (e : Bool) (f : Int) (p : Bool) : vc_l4Good a b c d e f p = (
 (p = true →
     ((bif bif a then decide (b ≥ (0 : Int)) else false then decide (b ≤ (2 : Int)) else false) = true → IntKind.i64.wrap ((9 : Int) - IntKind.i64.wrap ((3 : Int) * b)) ≤ (64 : PmT [i64])) ∧
       ((bif
                 bif bif bif a then decide (b ≥ (0 : Int)) else false then decide (b ≤ (2 : Int)) else false then decide (c < pw (IntKind.i64.wrap ((9 : Int) - IntKind.i64.wrap ((3 : Int) * b))))
                 else false then
               decide (d ≤ (65535 : Int))
             else false) =
             true →
           bitR (f, (5 : Int))) ∧
         ((bif
                   bif
                       bif bif bif a then decide (b ≥ (0 : Int)) else false then decide (b ≤ (2 : Int)) else false then decide (c < pw (IntKind.i64.wrap ((9 : Int) - IntKind.i64.wrap ((3 : Int) * b))))
                       else false then
                     decide (d ≤ (65535 : Int))
                   else false then
                 e == bitM f (5 : Int)
               else false) =
               true →
             U64 f) ∧
           goodE p (a, b, c, d, e, f) =
             bif
                 bif
                     bif
                         bif bif bif a then decide (b ≥ (0 : Int)) else false then decide (b ≤ (2 : Int)) else false then
                           decide (c < pw (IntKind.i64.wrap ((9 : Int) - IntKind.i64.wrap ((3 : Int) * b))))
                         else false then
                       decide (d ≤ (65535 : Int))
                     else false then
                   e == bitM f (5 : Int)
                 else false then
               kindM f b == (1 : Int)
             else false) ∧
   (p = false →
     ((bif bif a then decide (b ≥ (0 : Int)) else false then decide (b ≤ (2 : Int)) else false) = true → IntKind.i64.wrap ((9 : Int) - IntKind.i64.wrap ((3 : Int) * b)) ≤ (64 : PmT [i64])) ∧
       ((bif
                 bif bif bif a then decide (b ≥ (0 : Int)) else false then decide (b ≤ (2 : Int)) else false then decide (c < pw (IntKind.i64.wrap ((9 : Int) - IntKind.i64.wrap ((3 : Int) * b))))
                 else false then
               decide (d ≤ (65535 : Int))
             else false) =
             true →
           bitR (f, (5 : Int))) ∧
         ((bif
                   bif
                       bif bif bif a then decide (b ≥ (0 : Int)) else false then decide (b ≤ (2 : Int)) else false then decide (c < pw (IntKind.i64.wrap ((9 : Int) - IntKind.i64.wrap ((3 : Int) * b))))
                       else false then
                     decide (d ≤ (65535 : Int))
                   else false then
                 e == bitM f (5 : Int)
               else false) =
               true →
             U64 f) ∧
           goodE p (a, b, c, d, e, f) =
             bif
                 bif
                     bif
                         bif bif bif a then decide (b ≥ (0 : Int)) else false then decide (b ≤ (2 : Int)) else false then
                           decide (c < pw (IntKind.i64.wrap ((9 : Int) - IntKind.i64.wrap ((3 : Int) * b))))
                         else false then
                       decide (d ≤ (65535 : Int))
                     else false then
                   e == bitM f (5 : Int)
                 else false then
               kindM f b == (2 : Int)
             else false)) := by kernel_rfl
theorem vc_l4Fits_eq (a : Bool) (b c d : Int) (e : Bool) (f : Int) (va asid : Int) : vc_l4Fits a b c d e f va asid = (
 (a = true → U64 va ∧ LvR b) ∧ fitsM (a, b, c, d, e, f) va asid = bif bif a then c == tagM va b else false then bif e then true else d == asid else false) := by kernel_rfl
theorem vc_goodP_eq (s w : Int) (m : Es) (a : Bool) (b c d : Int) (e : Bool) (f : Int) : vc_goodP s w m a b c d e f = (
 ((bif a then lvM b else false) = true → (0 : Int) ≤ IntKind.i64.wrap ((9 : Int) - IntKind.i64.wrap ((3 : Int) * b))) ∧
   ((bif
             bif bif a then lvM b else false then decide (c < IntKind.u64.wrap ((1 : Int) * (2 : Int) ^ min (IntKind.i64.wrap ((9 : Int) - IntKind.i64.wrap ((3 : Int) * b))).toNat (64 : Nat)))
             else false then
           decide (d ≤ (65535 : Int))
         else false) =
         true →
       bitR (f, (5 : Int))) ∧
     ((bif
               bif
                   bif bif a then lvM b else false then decide (c < IntKind.u64.wrap ((1 : Int) * (2 : Int) ^ min (IntKind.i64.wrap ((9 : Int) - IntKind.i64.wrap ((3 : Int) * b))).toNat (64 : Nat)))
                   else false then
                 decide (d ≤ (65535 : Int))
               else false then
             e == bitM f (5 : Int)
           else false) =
           true →
         U64 f) ∧
       (goodE true (a, b, c, d, e, f) =
           bif
               bif
                   bif
                       bif bif a then lvM b else false then
                         decide (c < IntKind.u64.wrap ((1 : Int) * (2 : Int) ^ min (IntKind.i64.wrap ((9 : Int) - IntKind.i64.wrap ((3 : Int) * b))).toNat (64 : Nat)))
                       else false then
                     decide (d ≤ (65535 : Int))
                   else false then
                 e == bitM f (5 : Int)
               else false then
             kindM f b == (1 : PmT [i64])
           else false) ∧
         m = m) := by kernel_rfl
theorem vc_goodL_eq (s w : Int) (m : Es) (a : Bool) (b c d : Int) (e : Bool) (f : Int) : vc_goodL s w m a b c d e f = (
 ((bif a then lvM b else false) = true → (0 : Int) ≤ IntKind.i64.wrap ((9 : Int) - IntKind.i64.wrap ((3 : Int) * b))) ∧
   ((bif
             bif bif a then lvM b else false then decide (c < IntKind.u64.wrap ((1 : Int) * (2 : Int) ^ min (IntKind.i64.wrap ((9 : Int) - IntKind.i64.wrap ((3 : Int) * b))).toNat (64 : Nat)))
             else false then
           decide (d ≤ (65535 : Int))
         else false) =
         true →
       bitR (f, (5 : Int))) ∧
     ((bif
               bif
                   bif bif a then lvM b else false then decide (c < IntKind.u64.wrap ((1 : Int) * (2 : Int) ^ min (IntKind.i64.wrap ((9 : Int) - IntKind.i64.wrap ((3 : Int) * b))).toNat (64 : Nat)))
                   else false then
                 decide (d ≤ (65535 : Int))
               else false then
             e == bitM f (5 : Int)
           else false) =
           true →
         U64 f) ∧
       (goodE false (a, b, c, d, e, f) =
           bif
               bif
                   bif
                       bif bif a then lvM b else false then
                         decide (c < IntKind.u64.wrap ((1 : Int) * (2 : Int) ^ min (IntKind.i64.wrap ((9 : Int) - IntKind.i64.wrap ((3 : Int) * b))).toNat (64 : Nat)))
                       else false then
                     decide (d ≤ (65535 : Int))
                   else false then
                 e == bitM f (5 : Int)
               else false then
             kindM f b == (2 : PmT [i64])
           else false) ∧
         m = m) := by kernel_rfl
theorem vc_valP_r_eq (s w : Int) (m : Es) (i : Nat) : vc_valP_r s w m i = (
 (decide ((↑i : Int) < (↑(List.length m) : Int)) = true →
     ((0 : Int) ≤ (↑i : Int) ∧ (↑i : Int) < (↑(List.length m) : Int)) ∧
       (0 : Nat) + (↑i : Int).toNat < List.length m ∧
         ((!((List.getD m ((0 : Nat) + (↑i : Int).toNat) (El.zero shE)).fst == false &&
                   ((List.getD m ((0 : Nat) + (↑i : Int).toNat) (El.zero shE)).snd.fst == (0 : Int) &&
                     ((List.getD m ((0 : Nat) + (↑i : Int).toNat) (El.zero shE)).snd.snd.fst == (0 : Int) &&
                       ((List.getD m ((0 : Nat) + (↑i : Int).toNat) (El.zero shE)).snd.snd.snd.fst == (0 : Int) &&
                         ((List.getD m ((0 : Nat) + (↑i : Int).toNat) (El.zero shE)).snd.snd.snd.snd.fst == false &&
                           ((List.getD m ((0 : Nat) + (↑i : Int).toNat) (El.zero shE)).snd.snd.snd.snd.snd == (0 : Int) && true))))))) =
               true →
             List.length m = List.length m ∧
               EnR
                 ((List.getD m ((0 : Nat) + (↑i : Int).toNat) (El.zero shE)).fst, (List.getD m ((0 : Nat) + (↑i : Int).toNat) (El.zero shE)).snd.fst,
                   (List.getD m ((0 : Nat) + (↑i : Int).toNat) (El.zero shE)).snd.snd.fst, (List.getD m ((0 : Nat) + (↑i : Int).toNat) (El.zero shE)).snd.snd.snd.fst,
                   (List.getD m ((0 : Nat) + (↑i : Int).toNat) (El.zero shE)).snd.snd.snd.snd.fst, (List.getD m ((0 : Nat) + (↑i : Int).toNat) (El.zero shE)).snd.snd.snd.snd.snd)) ∧
           ((match
                   !((List.getD m ((0 : Nat) + (↑i : Int).toNat) (El.zero shE)).fst == false &&
                       ((List.getD m ((0 : Nat) + (↑i : Int).toNat) (El.zero shE)).snd.fst == (0 : Int) &&
                         ((List.getD m ((0 : Nat) + (↑i : Int).toNat) (El.zero shE)).snd.snd.fst == (0 : Int) &&
                           ((List.getD m ((0 : Nat) + (↑i : Int).toNat) (El.zero shE)).snd.snd.snd.fst == (0 : Int) &&
                             ((List.getD m ((0 : Nat) + (↑i : Int).toNat) (El.zero shE)).snd.snd.snd.snd.fst == false &&
                               ((List.getD m ((0 : Nat) + (↑i : Int).toNat) (El.zero shE)).snd.snd.snd.snd.snd == (0 : Int) && true)))))),
                   !!goodE true
                         ((List.getD m ((0 : Nat) + (↑i : Int).toNat) (El.zero shE)).fst, (List.getD m ((0 : Nat) + (↑i : Int).toNat) (El.zero shE)).snd.fst,
                           (List.getD m ((0 : Nat) + (↑i : Int).toNat) (El.zero shE)).snd.snd.fst, (List.getD m ((0 : Nat) + (↑i : Int).toNat) (El.zero shE)).snd.snd.snd.fst,
                           (List.getD m ((0 : Nat) + (↑i : Int).toNat) (El.zero shE)).snd.snd.snd.snd.fst, (List.getD m ((0 : Nat) + (↑i : Int).toNat) (El.zero shE)).snd.snd.snd.snd.snd) with
                 | true, y => y
                 | false, x => false) =
                 true →
               s ≠ (0 : Int)) ∧
             ((match
                     !((List.getD m ((0 : Nat) + (↑i : Int).toNat) (El.zero shE)).fst == false &&
                         ((List.getD m ((0 : Nat) + (↑i : Int).toNat) (El.zero shE)).snd.fst == (0 : Int) &&
                           ((List.getD m ((0 : Nat) + (↑i : Int).toNat) (El.zero shE)).snd.snd.fst == (0 : Int) &&
                             ((List.getD m ((0 : Nat) + (↑i : Int).toNat) (El.zero shE)).snd.snd.snd.fst == (0 : Int) &&
                               ((List.getD m ((0 : Nat) + (↑i : Int).toNat) (El.zero shE)).snd.snd.snd.snd.fst == false &&
                                 ((List.getD m ((0 : Nat) + (↑i : Int).toNat) (El.zero shE)).snd.snd.snd.snd.snd == (0 : Int) && true)))))),
                     !!goodE true
                           ((List.getD m ((0 : Nat) + (↑i : Int).toNat) (El.zero shE)).fst, (List.getD m ((0 : Nat) + (↑i : Int).toNat) (El.zero shE)).snd.fst,
                             (List.getD m ((0 : Nat) + (↑i : Int).toNat) (El.zero shE)).snd.snd.fst, (List.getD m ((0 : Nat) + (↑i : Int).toNat) (El.zero shE)).snd.snd.snd.fst,
                             (List.getD m ((0 : Nat) + (↑i : Int).toNat) (El.zero shE)).snd.snd.snd.snd.fst, (List.getD m ((0 : Nat) + (↑i : Int).toNat) (El.zero shE)).snd.snd.snd.snd.snd) with
                   | true, y => y
                   | false, x => false) =
                   true →
                 w ≠ (0 : Int)) ∧
               ((bif
                         !((List.getD m ((0 : Nat) + (↑i : Int).toNat) (El.zero shE)).fst == false &&
                             ((List.getD m ((0 : Nat) + (↑i : Int).toNat) (El.zero shE)).snd.fst == (0 : Int) &&
                               ((List.getD m ((0 : Nat) + (↑i : Int).toNat) (El.zero shE)).snd.snd.fst == (0 : Int) &&
                                 ((List.getD m ((0 : Nat) + (↑i : Int).toNat) (El.zero shE)).snd.snd.snd.fst == (0 : Int) &&
                                   ((List.getD m ((0 : Nat) + (↑i : Int).toNat) (El.zero shE)).snd.snd.snd.snd.fst == false &&
                                     ((List.getD m ((0 : Nat) + (↑i : Int).toNat) (El.zero shE)).snd.snd.snd.snd.snd == (0 : Int) && true)))))) then
                       bif
                           !goodE true
                               ((List.getD m ((0 : Nat) + (↑i : Int).toNat) (El.zero shE)).fst, (List.getD m ((0 : Nat) + (↑i : Int).toNat) (El.zero shE)).snd.fst,
                                 (List.getD m ((0 : Nat) + (↑i : Int).toNat) (El.zero shE)).snd.snd.fst, (List.getD m ((0 : Nat) + (↑i : Int).toNat) (El.zero shE)).snd.snd.snd.fst,
                                 (List.getD m ((0 : Nat) + (↑i : Int).toNat) (El.zero shE)).snd.snd.snd.snd.fst, (List.getD m ((0 : Nat) + (↑i : Int).toNat) (El.zero shE)).snd.snd.snd.snd.snd) then
                         true
                       else (IntKind.i64.wrap (List.getD m ((0 : Nat) + (↑i : Int).toNat) (El.zero shE)).snd.snd.fst).tmod s != IntKind.i64.wrap ((↑i : Int).tdiv w)
                     else false) =
                     true →
                   ∃ (z : Unit), (false = false ∧ m = m) ∧ rowsM true s w m = false) ∧
                 ((bif
                         !((List.getD m ((0 : Nat) + (↑i : Int).toNat) (El.zero shE)).fst == false &&
                             ((List.getD m ((0 : Nat) + (↑i : Int).toNat) (El.zero shE)).snd.fst == (0 : Int) &&
                               ((List.getD m ((0 : Nat) + (↑i : Int).toNat) (El.zero shE)).snd.snd.fst == (0 : Int) &&
                                 ((List.getD m ((0 : Nat) + (↑i : Int).toNat) (El.zero shE)).snd.snd.snd.fst == (0 : Int) &&
                                   ((List.getD m ((0 : Nat) + (↑i : Int).toNat) (El.zero shE)).snd.snd.snd.snd.fst == false &&
                                     ((List.getD m ((0 : Nat) + (↑i : Int).toNat) (El.zero shE)).snd.snd.snd.snd.snd == (0 : Int) && true)))))) then
                       bif
                           !goodE true
                               ((List.getD m ((0 : Nat) + (↑i : Int).toNat) (El.zero shE)).fst, (List.getD m ((0 : Nat) + (↑i : Int).toNat) (El.zero shE)).snd.fst,
                                 (List.getD m ((0 : Nat) + (↑i : Int).toNat) (El.zero shE)).snd.snd.fst, (List.getD m ((0 : Nat) + (↑i : Int).toNat) (El.zero shE)).snd.snd.snd.fst,
                                 (List.getD m ((0 : Nat) + (↑i : Int).toNat) (El.zero shE)).snd.snd.snd.snd.fst, (List.getD m ((0 : Nat) + (↑i : Int).toNat) (El.zero shE)).snd.snd.snd.snd.snd) then
                         true
                       else (IntKind.i64.wrap (List.getD m ((0 : Nat) + (↑i : Int).toNat) (El.zero shE)).snd.snd.fst).tmod s != IntKind.i64.wrap ((↑i : Int).tdiv w)
                     else false) =
                     false →
                   ∃ (y : Nat),
                     ((0 : Nat) = (0 : Nat) ∧
                         List.length m = List.length m ∧
                           (↑(List.length m) : Int) = (↑(List.length m) : Int) ∧
                             (↑y : Int) = IntKind.i64.wrap ((↑i : Int) + (1 : Int)) ∧ m = m ∧ s = s ∧ w = w ∧ (0 : Nat) = (0 : Nat) ∧ List.length m = List.length m) ∧
                       (headM s w m = true ∧ y ≤ List.length m ∧ ∀ (j : Nat), j < y → okAt true s w j (List.getD m j zE) = true) ∧
                         List.length m - y < List.length m - i ∧
                           (∀ (z : Unit), rowsM true s w m = true → rowsM true s w m = true) ∧ ∀ (z : Unit), rowsM true s w m = false → rowsM true s w m = false)) ∧
   (decide ((↑i : Int) < (↑(List.length m) : Int)) = false → ∃ (z : Unit), m = m ∧ rowsM true s w m = true)) := by kernel_rfl
theorem vc_valP_eq (s w : Int) (m : Es) : vc_valP s w m = (
 ((4 : Nat) = (4 : Nat) ∧ SzR [(1 : Int), (2 : Int), (4 : Int), (8 : Int)].length) ∧
   ((bif bif bif !hasM [(1 : Int), (2 : Int), (4 : Int), (8 : Int)] s then true else decide (w < (1 : Int)) then true else decide (w > (4 : Int)) then true
         else (↑(List.length m) : Int) != IntKind.i64.wrap (s * w)) =
         true →
       validM true (s, w, m) = false ∧ m = m) ∧
     ((bif bif bif !hasM [(1 : Int), (2 : Int), (4 : Int), (8 : Int)] s then true else decide (w < (1 : Int)) then true else decide (w > (4 : Int)) then true
         else (↑(List.length m) : Int) != IntKind.i64.wrap (s * w)) =
         false →
       ∃ (x : Nat),
         ((0 : Nat) = (0 : Nat) ∧
             List.length m = List.length m ∧
               (↑(List.length m) : Int) = (↑(List.length m) : Int) ∧ (↑x : Int) = (0 : Int) ∧ m = m ∧ s = s ∧ w = w ∧ (0 : Nat) = (0 : Nat) ∧ List.length m = List.length m) ∧
           (headM s w m = true ∧ x ≤ List.length m ∧ ∀ (j : Nat), j < x → okAt true s w j (List.getD m j zE) = true) ∧
             (∀ (z : Unit), rowsM true s w m = true → validM true (s, w, m) = true ∧ m = m) ∧ ∀ (z : Unit), rowsM true s w m = false → validM true (s, w, m) = false ∧ m = m)) := by kernel_rfl
theorem vc_valL_r_eq (s w : Int) (m : Es) (i : Nat) : vc_valL_r s w m i = (
 (decide ((↑i : Int) < (↑(List.length m) : Int)) = true →
     ((0 : Int) ≤ (↑i : Int) ∧ (↑i : Int) < (↑(List.length m) : Int)) ∧
       (0 : Nat) + (↑i : Int).toNat < List.length m ∧
         ((!((List.getD m ((0 : Nat) + (↑i : Int).toNat) (El.zero shE)).fst == false &&
                   ((List.getD m ((0 : Nat) + (↑i : Int).toNat) (El.zero shE)).snd.fst == (0 : Int) &&
                     ((List.getD m ((0 : Nat) + (↑i : Int).toNat) (El.zero shE)).snd.snd.fst == (0 : Int) &&
                       ((List.getD m ((0 : Nat) + (↑i : Int).toNat) (El.zero shE)).snd.snd.snd.fst == (0 : Int) &&
                         ((List.getD m ((0 : Nat) + (↑i : Int).toNat) (El.zero shE)).snd.snd.snd.snd.fst == false &&
                           ((List.getD m ((0 : Nat) + (↑i : Int).toNat) (El.zero shE)).snd.snd.snd.snd.snd == (0 : Int) && true))))))) =
               true →
             List.length m = List.length m ∧
               EnR
                 ((List.getD m ((0 : Nat) + (↑i : Int).toNat) (El.zero shE)).fst, (List.getD m ((0 : Nat) + (↑i : Int).toNat) (El.zero shE)).snd.fst,
                   (List.getD m ((0 : Nat) + (↑i : Int).toNat) (El.zero shE)).snd.snd.fst, (List.getD m ((0 : Nat) + (↑i : Int).toNat) (El.zero shE)).snd.snd.snd.fst,
                   (List.getD m ((0 : Nat) + (↑i : Int).toNat) (El.zero shE)).snd.snd.snd.snd.fst, (List.getD m ((0 : Nat) + (↑i : Int).toNat) (El.zero shE)).snd.snd.snd.snd.snd)) ∧
           ((match
                   !((List.getD m ((0 : Nat) + (↑i : Int).toNat) (El.zero shE)).fst == false &&
                       ((List.getD m ((0 : Nat) + (↑i : Int).toNat) (El.zero shE)).snd.fst == (0 : Int) &&
                         ((List.getD m ((0 : Nat) + (↑i : Int).toNat) (El.zero shE)).snd.snd.fst == (0 : Int) &&
                           ((List.getD m ((0 : Nat) + (↑i : Int).toNat) (El.zero shE)).snd.snd.snd.fst == (0 : Int) &&
                             ((List.getD m ((0 : Nat) + (↑i : Int).toNat) (El.zero shE)).snd.snd.snd.snd.fst == false &&
                               ((List.getD m ((0 : Nat) + (↑i : Int).toNat) (El.zero shE)).snd.snd.snd.snd.snd == (0 : Int) && true)))))),
                   !!goodE false
                         ((List.getD m ((0 : Nat) + (↑i : Int).toNat) (El.zero shE)).fst, (List.getD m ((0 : Nat) + (↑i : Int).toNat) (El.zero shE)).snd.fst,
                           (List.getD m ((0 : Nat) + (↑i : Int).toNat) (El.zero shE)).snd.snd.fst, (List.getD m ((0 : Nat) + (↑i : Int).toNat) (El.zero shE)).snd.snd.snd.fst,
                           (List.getD m ((0 : Nat) + (↑i : Int).toNat) (El.zero shE)).snd.snd.snd.snd.fst, (List.getD m ((0 : Nat) + (↑i : Int).toNat) (El.zero shE)).snd.snd.snd.snd.snd) with
                 | true, y => y
                 | false, x => false) =
                 true →
               s ≠ (0 : Int)) ∧
             ((match
                     !((List.getD m ((0 : Nat) + (↑i : Int).toNat) (El.zero shE)).fst == false &&
                         ((List.getD m ((0 : Nat) + (↑i : Int).toNat) (El.zero shE)).snd.fst == (0 : Int) &&
                           ((List.getD m ((0 : Nat) + (↑i : Int).toNat) (El.zero shE)).snd.snd.fst == (0 : Int) &&
                             ((List.getD m ((0 : Nat) + (↑i : Int).toNat) (El.zero shE)).snd.snd.snd.fst == (0 : Int) &&
                               ((List.getD m ((0 : Nat) + (↑i : Int).toNat) (El.zero shE)).snd.snd.snd.snd.fst == false &&
                                 ((List.getD m ((0 : Nat) + (↑i : Int).toNat) (El.zero shE)).snd.snd.snd.snd.snd == (0 : Int) && true)))))),
                     !!goodE false
                           ((List.getD m ((0 : Nat) + (↑i : Int).toNat) (El.zero shE)).fst, (List.getD m ((0 : Nat) + (↑i : Int).toNat) (El.zero shE)).snd.fst,
                             (List.getD m ((0 : Nat) + (↑i : Int).toNat) (El.zero shE)).snd.snd.fst, (List.getD m ((0 : Nat) + (↑i : Int).toNat) (El.zero shE)).snd.snd.snd.fst,
                             (List.getD m ((0 : Nat) + (↑i : Int).toNat) (El.zero shE)).snd.snd.snd.snd.fst, (List.getD m ((0 : Nat) + (↑i : Int).toNat) (El.zero shE)).snd.snd.snd.snd.snd) with
                   | true, y => y
                   | false, x => false) =
                   true →
                 w ≠ (0 : Int)) ∧
               ((bif
                         !((List.getD m ((0 : Nat) + (↑i : Int).toNat) (El.zero shE)).fst == false &&
                             ((List.getD m ((0 : Nat) + (↑i : Int).toNat) (El.zero shE)).snd.fst == (0 : Int) &&
                               ((List.getD m ((0 : Nat) + (↑i : Int).toNat) (El.zero shE)).snd.snd.fst == (0 : Int) &&
                                 ((List.getD m ((0 : Nat) + (↑i : Int).toNat) (El.zero shE)).snd.snd.snd.fst == (0 : Int) &&
                                   ((List.getD m ((0 : Nat) + (↑i : Int).toNat) (El.zero shE)).snd.snd.snd.snd.fst == false &&
                                     ((List.getD m ((0 : Nat) + (↑i : Int).toNat) (El.zero shE)).snd.snd.snd.snd.snd == (0 : Int) && true)))))) then
                       bif
                           !goodE false
                               ((List.getD m ((0 : Nat) + (↑i : Int).toNat) (El.zero shE)).fst, (List.getD m ((0 : Nat) + (↑i : Int).toNat) (El.zero shE)).snd.fst,
                                 (List.getD m ((0 : Nat) + (↑i : Int).toNat) (El.zero shE)).snd.snd.fst, (List.getD m ((0 : Nat) + (↑i : Int).toNat) (El.zero shE)).snd.snd.snd.fst,
                                 (List.getD m ((0 : Nat) + (↑i : Int).toNat) (El.zero shE)).snd.snd.snd.snd.fst, (List.getD m ((0 : Nat) + (↑i : Int).toNat) (El.zero shE)).snd.snd.snd.snd.snd) then
                         true
                       else (IntKind.i64.wrap (List.getD m ((0 : Nat) + (↑i : Int).toNat) (El.zero shE)).snd.snd.fst).tmod s != IntKind.i64.wrap ((↑i : Int).tdiv w)
                     else false) =
                     true →
                   ∃ (z : Unit), (false = false ∧ m = m) ∧ rowsM false s w m = false) ∧
                 ((bif
                         !((List.getD m ((0 : Nat) + (↑i : Int).toNat) (El.zero shE)).fst == false &&
                             ((List.getD m ((0 : Nat) + (↑i : Int).toNat) (El.zero shE)).snd.fst == (0 : Int) &&
                               ((List.getD m ((0 : Nat) + (↑i : Int).toNat) (El.zero shE)).snd.snd.fst == (0 : Int) &&
                                 ((List.getD m ((0 : Nat) + (↑i : Int).toNat) (El.zero shE)).snd.snd.snd.fst == (0 : Int) &&
                                   ((List.getD m ((0 : Nat) + (↑i : Int).toNat) (El.zero shE)).snd.snd.snd.snd.fst == false &&
                                     ((List.getD m ((0 : Nat) + (↑i : Int).toNat) (El.zero shE)).snd.snd.snd.snd.snd == (0 : Int) && true)))))) then
                       bif
                           !goodE false
                               ((List.getD m ((0 : Nat) + (↑i : Int).toNat) (El.zero shE)).fst, (List.getD m ((0 : Nat) + (↑i : Int).toNat) (El.zero shE)).snd.fst,
                                 (List.getD m ((0 : Nat) + (↑i : Int).toNat) (El.zero shE)).snd.snd.fst, (List.getD m ((0 : Nat) + (↑i : Int).toNat) (El.zero shE)).snd.snd.snd.fst,
                                 (List.getD m ((0 : Nat) + (↑i : Int).toNat) (El.zero shE)).snd.snd.snd.snd.fst, (List.getD m ((0 : Nat) + (↑i : Int).toNat) (El.zero shE)).snd.snd.snd.snd.snd) then
                         true
                       else (IntKind.i64.wrap (List.getD m ((0 : Nat) + (↑i : Int).toNat) (El.zero shE)).snd.snd.fst).tmod s != IntKind.i64.wrap ((↑i : Int).tdiv w)
                     else false) =
                     false →
                   ∃ (y : Nat),
                     ((0 : Nat) = (0 : Nat) ∧
                         List.length m = List.length m ∧
                           (↑(List.length m) : Int) = (↑(List.length m) : Int) ∧
                             (↑y : Int) = IntKind.i64.wrap ((↑i : Int) + (1 : Int)) ∧ m = m ∧ s = s ∧ w = w ∧ (0 : Nat) = (0 : Nat) ∧ List.length m = List.length m) ∧
                       (headM s w m = true ∧ y ≤ List.length m ∧ ∀ (j : Nat), j < y → okAt false s w j (List.getD m j zE) = true) ∧
                         List.length m - y < List.length m - i ∧
                           (∀ (z : Unit), rowsM false s w m = true → rowsM false s w m = true) ∧ ∀ (z : Unit), rowsM false s w m = false → rowsM false s w m = false)) ∧
   (decide ((↑i : Int) < (↑(List.length m) : Int)) = false → ∃ (z : Unit), m = m ∧ rowsM false s w m = true)) := by kernel_rfl
theorem vc_valL_eq (s w : Int) (m : Es) : vc_valL s w m = (
 ((4 : Nat) = (4 : Nat) ∧ SzR [(1 : Int), (2 : Int), (4 : Int), (8 : Int)].length) ∧
   ((bif bif bif !hasM [(1 : Int), (2 : Int), (4 : Int), (8 : Int)] s then true else decide (w < (1 : Int)) then true else decide (w > (4 : Int)) then true
         else (↑(List.length m) : Int) != IntKind.i64.wrap (s * w)) =
         true →
       validM false (s, w, m) = false ∧ m = m) ∧
     ((bif bif bif !hasM [(1 : Int), (2 : Int), (4 : Int), (8 : Int)] s then true else decide (w < (1 : Int)) then true else decide (w > (4 : Int)) then true
         else (↑(List.length m) : Int) != IntKind.i64.wrap (s * w)) =
         false →
       ∃ (x : Nat),
         ((0 : Nat) = (0 : Nat) ∧
             List.length m = List.length m ∧
               (↑(List.length m) : Int) = (↑(List.length m) : Int) ∧ (↑x : Int) = (0 : Int) ∧ m = m ∧ s = s ∧ w = w ∧ (0 : Nat) = (0 : Nat) ∧ List.length m = List.length m) ∧
           (headM s w m = true ∧ x ≤ List.length m ∧ ∀ (j : Nat), j < x → okAt false s w j (List.getD m j zE) = true) ∧
             (∀ (z : Unit), rowsM false s w m = true → validM false (s, w, m) = true ∧ m = m) ∧ ∀ (z : Unit), rowsM false s w m = false → validM false (s, w, m) = false ∧ m = m)) := by kernel_rfl
theorem vc_sval_r_eq (s w : Int) (m : Es) (p : Bool) (i : Nat) : vc_sval_r s w m p i = (
 (decide ((↑i : Int) < (↑(List.length m) : Int)) = true →
     ((0 : Int) ≤ (↑i : Int) ∧ (↑i : Int) < (↑(List.length m) : Int)) ∧
       (0 : Nat) + (↑i : Int).toNat < List.length m ∧
         ((!((List.getD m ((0 : Nat) + (↑i : Int).toNat) (El.zero shE)).fst == false &&
                   ((List.getD m ((0 : Nat) + (↑i : Int).toNat) (El.zero shE)).snd.fst == (0 : Int) &&
                     ((List.getD m ((0 : Nat) + (↑i : Int).toNat) (El.zero shE)).snd.snd.fst == (0 : Int) &&
                       ((List.getD m ((0 : Nat) + (↑i : Int).toNat) (El.zero shE)).snd.snd.snd.fst == (0 : Int) &&
                         ((List.getD m ((0 : Nat) + (↑i : Int).toNat) (El.zero shE)).snd.snd.snd.snd.fst == false &&
                           ((List.getD m ((0 : Nat) + (↑i : Int).toNat) (El.zero shE)).snd.snd.snd.snd.snd == (0 : Int) && true))))))) =
               true →
             EnR
               ((List.getD m ((0 : Nat) + (↑i : Int).toNat) (El.zero shE)).fst, (List.getD m ((0 : Nat) + (↑i : Int).toNat) (El.zero shE)).snd.fst,
                 (List.getD m ((0 : Nat) + (↑i : Int).toNat) (El.zero shE)).snd.snd.fst, (List.getD m ((0 : Nat) + (↑i : Int).toNat) (El.zero shE)).snd.snd.snd.fst,
                 (List.getD m ((0 : Nat) + (↑i : Int).toNat) (El.zero shE)).snd.snd.snd.snd.fst, (List.getD m ((0 : Nat) + (↑i : Int).toNat) (El.zero shE)).snd.snd.snd.snd.snd)) ∧
           ((match
                   !((List.getD m ((0 : Nat) + (↑i : Int).toNat) (El.zero shE)).fst == false &&
                       ((List.getD m ((0 : Nat) + (↑i : Int).toNat) (El.zero shE)).snd.fst == (0 : Int) &&
                         ((List.getD m ((0 : Nat) + (↑i : Int).toNat) (El.zero shE)).snd.snd.fst == (0 : Int) &&
                           ((List.getD m ((0 : Nat) + (↑i : Int).toNat) (El.zero shE)).snd.snd.snd.fst == (0 : Int) &&
                             ((List.getD m ((0 : Nat) + (↑i : Int).toNat) (El.zero shE)).snd.snd.snd.snd.fst == false &&
                               ((List.getD m ((0 : Nat) + (↑i : Int).toNat) (El.zero shE)).snd.snd.snd.snd.snd == (0 : Int) && true)))))),
                   !!goodE p
                         ((List.getD m ((0 : Nat) + (↑i : Int).toNat) (El.zero shE)).fst, (List.getD m ((0 : Nat) + (↑i : Int).toNat) (El.zero shE)).snd.fst,
                           (List.getD m ((0 : Nat) + (↑i : Int).toNat) (El.zero shE)).snd.snd.fst, (List.getD m ((0 : Nat) + (↑i : Int).toNat) (El.zero shE)).snd.snd.snd.fst,
                           (List.getD m ((0 : Nat) + (↑i : Int).toNat) (El.zero shE)).snd.snd.snd.snd.fst, (List.getD m ((0 : Nat) + (↑i : Int).toNat) (El.zero shE)).snd.snd.snd.snd.snd) with
                 | true, y => y
                 | false, x => false) =
                 true →
               s ≠ (0 : Int)) ∧
             ((match
                     !((List.getD m ((0 : Nat) + (↑i : Int).toNat) (El.zero shE)).fst == false &&
                         ((List.getD m ((0 : Nat) + (↑i : Int).toNat) (El.zero shE)).snd.fst == (0 : Int) &&
                           ((List.getD m ((0 : Nat) + (↑i : Int).toNat) (El.zero shE)).snd.snd.fst == (0 : Int) &&
                             ((List.getD m ((0 : Nat) + (↑i : Int).toNat) (El.zero shE)).snd.snd.snd.fst == (0 : Int) &&
                               ((List.getD m ((0 : Nat) + (↑i : Int).toNat) (El.zero shE)).snd.snd.snd.snd.fst == false &&
                                 ((List.getD m ((0 : Nat) + (↑i : Int).toNat) (El.zero shE)).snd.snd.snd.snd.snd == (0 : Int) && true)))))),
                     !!goodE p
                           ((List.getD m ((0 : Nat) + (↑i : Int).toNat) (El.zero shE)).fst, (List.getD m ((0 : Nat) + (↑i : Int).toNat) (El.zero shE)).snd.fst,
                             (List.getD m ((0 : Nat) + (↑i : Int).toNat) (El.zero shE)).snd.snd.fst, (List.getD m ((0 : Nat) + (↑i : Int).toNat) (El.zero shE)).snd.snd.snd.fst,
                             (List.getD m ((0 : Nat) + (↑i : Int).toNat) (El.zero shE)).snd.snd.snd.snd.fst, (List.getD m ((0 : Nat) + (↑i : Int).toNat) (El.zero shE)).snd.snd.snd.snd.snd) with
                   | true, y => y
                   | false, x => false) =
                   true →
                 w ≠ (0 : Int)) ∧
               ((bif
                         !((List.getD m ((0 : Nat) + (↑i : Int).toNat) (El.zero shE)).fst == false &&
                             ((List.getD m ((0 : Nat) + (↑i : Int).toNat) (El.zero shE)).snd.fst == (0 : Int) &&
                               ((List.getD m ((0 : Nat) + (↑i : Int).toNat) (El.zero shE)).snd.snd.fst == (0 : Int) &&
                                 ((List.getD m ((0 : Nat) + (↑i : Int).toNat) (El.zero shE)).snd.snd.snd.fst == (0 : Int) &&
                                   ((List.getD m ((0 : Nat) + (↑i : Int).toNat) (El.zero shE)).snd.snd.snd.snd.fst == false &&
                                     ((List.getD m ((0 : Nat) + (↑i : Int).toNat) (El.zero shE)).snd.snd.snd.snd.snd == (0 : Int) && true)))))) then
                       bif
                           !goodE p
                               ((List.getD m ((0 : Nat) + (↑i : Int).toNat) (El.zero shE)).fst, (List.getD m ((0 : Nat) + (↑i : Int).toNat) (El.zero shE)).snd.fst,
                                 (List.getD m ((0 : Nat) + (↑i : Int).toNat) (El.zero shE)).snd.snd.fst, (List.getD m ((0 : Nat) + (↑i : Int).toNat) (El.zero shE)).snd.snd.snd.fst,
                                 (List.getD m ((0 : Nat) + (↑i : Int).toNat) (El.zero shE)).snd.snd.snd.snd.fst, (List.getD m ((0 : Nat) + (↑i : Int).toNat) (El.zero shE)).snd.snd.snd.snd.snd) then
                         true
                       else (IntKind.i64.wrap (List.getD m ((0 : Nat) + (↑i : Int).toNat) (El.zero shE)).snd.snd.fst).tmod s != IntKind.i64.wrap ((↑i : Int).tdiv w)
                     else false) =
                     true →
                   ∃ (z : Unit), (false = false ∧ m = m) ∧ rowsM p s w m = false) ∧
                 ((bif
                         !((List.getD m ((0 : Nat) + (↑i : Int).toNat) (El.zero shE)).fst == false &&
                             ((List.getD m ((0 : Nat) + (↑i : Int).toNat) (El.zero shE)).snd.fst == (0 : Int) &&
                               ((List.getD m ((0 : Nat) + (↑i : Int).toNat) (El.zero shE)).snd.snd.fst == (0 : Int) &&
                                 ((List.getD m ((0 : Nat) + (↑i : Int).toNat) (El.zero shE)).snd.snd.snd.fst == (0 : Int) &&
                                   ((List.getD m ((0 : Nat) + (↑i : Int).toNat) (El.zero shE)).snd.snd.snd.snd.fst == false &&
                                     ((List.getD m ((0 : Nat) + (↑i : Int).toNat) (El.zero shE)).snd.snd.snd.snd.snd == (0 : Int) && true)))))) then
                       bif
                           !goodE p
                               ((List.getD m ((0 : Nat) + (↑i : Int).toNat) (El.zero shE)).fst, (List.getD m ((0 : Nat) + (↑i : Int).toNat) (El.zero shE)).snd.fst,
                                 (List.getD m ((0 : Nat) + (↑i : Int).toNat) (El.zero shE)).snd.snd.fst, (List.getD m ((0 : Nat) + (↑i : Int).toNat) (El.zero shE)).snd.snd.snd.fst,
                                 (List.getD m ((0 : Nat) + (↑i : Int).toNat) (El.zero shE)).snd.snd.snd.snd.fst, (List.getD m ((0 : Nat) + (↑i : Int).toNat) (El.zero shE)).snd.snd.snd.snd.snd) then
                         true
                       else (IntKind.i64.wrap (List.getD m ((0 : Nat) + (↑i : Int).toNat) (El.zero shE)).snd.snd.fst).tmod s != IntKind.i64.wrap ((↑i : Int).tdiv w)
                     else false) =
                     false →
                   ∃ (y : Nat),
                     (p = p ∧ (↑y : Int) = IntKind.i64.wrap ((↑i : Int) + (1 : Int)) ∧ m = m ∧ s = s ∧ w = w ∧ (0 : Nat) = (0 : Nat) ∧ List.length m = List.length m) ∧
                       (headM s w m = true ∧ y ≤ List.length m ∧ ∀ (j : Nat), j < y → okAt p s w j (List.getD m j zE) = true) ∧
                         List.length m - y < List.length m - i ∧ (∀ (z : Unit), rowsM p s w m = true → rowsM p s w m = true) ∧ ∀ (z : Unit), rowsM p s w m = false → rowsM p s w m = false)) ∧
   (decide ((↑i : Int) < (↑(List.length m) : Int)) = false → ∃ (z : Unit), m = m ∧ rowsM p s w m = true)) := by kernel_rfl
theorem vc_sval_eq (s w : Int) (m : Es) (p : Bool) : vc_sval s w m p = (
 ((bif
           bif bif bif bif bif s != (1 : Int) then s != (2 : Int) else false then s != (4 : Int) else false then s != (8 : Int) else false then true else decide (w < (1 : Int)) then true
           else decide (w > (4 : Int)) then
         true
       else (↑(List.length m) : Int) != IntKind.i64.wrap (s * w)) =
       true →
     validM p (s, w, m) = false ∧ m = m) ∧
   ((bif
           bif bif bif bif bif s != (1 : Int) then s != (2 : Int) else false then s != (4 : Int) else false then s != (8 : Int) else false then true else decide (w < (1 : Int)) then true
           else decide (w > (4 : Int)) then
         true
       else (↑(List.length m) : Int) != IntKind.i64.wrap (s * w)) =
       false →
     ∃ (x : Nat),
       (p = p ∧ (↑x : Int) = (0 : Int) ∧ m = m ∧ s = s ∧ w = w ∧ (0 : Nat) = (0 : Nat) ∧ List.length m = List.length m) ∧
         (headM s w m = true ∧ x ≤ List.length m ∧ ∀ (j : Nat), j < x → okAt p s w j (List.getD m j zE) = true) ∧
           (∀ (z : Unit), rowsM p s w m = true → validM p (s, w, m) = true ∧ m = m) ∧ ∀ (z : Unit), rowsM p s w m = false → validM p (s, w, m) = false ∧ m = m)) := by kernel_rfl
theorem vc_find_r_eq (va asid : Int) (m : Es) (i : Nat) : vc_find_r va asid m i = (
 (decide ((↑i : Int) < (↑(List.length m) : Int)) = true →
     ((0 : Int) ≤ (↑i : Int) ∧ (↑i : Int) < (↑(List.length m) : Int)) ∧
       (0 : Nat) + (↑i : Int).toNat < List.length m ∧
         ((List.getD m ((0 : Nat) + (↑i : Int).toNat) (El.zero shE)).fst = true → U64 va ∧ LvR (List.getD m ((0 : Nat) + (↑i : Int).toNat) (El.zero shE)).snd.fst) ∧
           ((bif
                     bif
                         bif (List.getD m ((0 : Nat) + (↑i : Int).toNat) (El.zero shE)).fst then
                           (List.getD m ((0 : Nat) + (↑i : Int).toNat) (El.zero shE)).snd.snd.fst == tagM va (List.getD m ((0 : Nat) + (↑i : Int).toNat) (El.zero shE)).snd.fst
                         else false then
                       bif (List.getD m ((0 : Nat) + (↑i : Int).toNat) (El.zero shE)).snd.snd.snd.snd.fst then true
                       else (List.getD m ((0 : Nat) + (↑i : Int).toNat) (El.zero shE)).snd.snd.snd.fst == asid
                     else false then
                   bif !(findP va asid m i).fst then true else decide ((List.getD m ((0 : Nat) + (↑i : Int).toNat) (El.zero shE)).snd.fst < (findP va asid m i).snd.snd.fst)
                 else false) =
                 true →
               ∃ (y : Nat),
                 (va = va ∧
                     asid = asid ∧
                       (0 : Nat) = (0 : Nat) ∧
                         List.length m = List.length m ∧
                           (↑(List.length m) : Int) = (↑(List.length m) : Int) ∧
                             (↑y : Int) = IntKind.i64.wrap ((↑i : Int) + (1 : Int)) ∧
                               m = m ∧
                                 false = false ∧
                                   Int.ofNat (0 : Nat) = Int.ofNat (0 : Nat) ∧
                                     Int.ofNat (0 : Nat) = Int.ofNat (0 : Nat) ∧
                                       Int.ofNat (0 : Nat) = Int.ofNat (0 : Nat) ∧
                                         (findP va asid m y).fst = true ∧
                                           (findP va asid m y).snd.fst = (↑i : Int) ∧
                                             (findP va asid m y).snd.snd.fst = (List.getD m ((0 : Nat) + (↑i : Int).toNat) (El.zero shE)).snd.fst ∧
                                               (findP va asid m y).snd.snd.snd = (List.getD m ((0 : Nat) + (↑i : Int).toNat) (El.zero shE)).snd.snd.snd.snd.snd) ∧
                   y ≤ List.length m ∧ List.length m - y < List.length m - i ∧ ∀ (z : Unit), True → True) ∧
             ((bif
                     bif
                         bif (List.getD m ((0 : Nat) + (↑i : Int).toNat) (El.zero shE)).fst then
                           (List.getD m ((0 : Nat) + (↑i : Int).toNat) (El.zero shE)).snd.snd.fst == tagM va (List.getD m ((0 : Nat) + (↑i : Int).toNat) (El.zero shE)).snd.fst
                         else false then
                       bif (List.getD m ((0 : Nat) + (↑i : Int).toNat) (El.zero shE)).snd.snd.snd.snd.fst then true
                       else (List.getD m ((0 : Nat) + (↑i : Int).toNat) (El.zero shE)).snd.snd.snd.fst == asid
                     else false then
                   bif !(findP va asid m i).fst then true else decide ((List.getD m ((0 : Nat) + (↑i : Int).toNat) (El.zero shE)).snd.fst < (findP va asid m i).snd.snd.fst)
                 else false) =
                 false →
               ∃ (y : Nat),
                 (va = va ∧
                     asid = asid ∧
                       (0 : Nat) = (0 : Nat) ∧
                         List.length m = List.length m ∧
                           (↑(List.length m) : Int) = (↑(List.length m) : Int) ∧
                             (↑y : Int) = IntKind.i64.wrap ((↑i : Int) + (1 : Int)) ∧
                               m = m ∧
                                 false = false ∧
                                   Int.ofNat (0 : Nat) = Int.ofNat (0 : Nat) ∧
                                     Int.ofNat (0 : Nat) = Int.ofNat (0 : Nat) ∧
                                       Int.ofNat (0 : Nat) = Int.ofNat (0 : Nat) ∧
                                         (findP va asid m y).fst = (findP va asid m i).fst ∧
                                           (findP va asid m y).snd.fst = (findP va asid m i).snd.fst ∧
                                             (findP va asid m y).snd.snd.fst = (findP va asid m i).snd.snd.fst ∧ (findP va asid m y).snd.snd.snd = (findP va asid m i).snd.snd.snd) ∧
                   y ≤ List.length m ∧ List.length m - y < List.length m - i ∧ ∀ (z : Unit), True → True)) ∧
   (decide ((↑i : Int) < (↑(List.length m) : Int)) = false →
     ∃ (z : Unit),
       (m = m ∧
           false = false ∧
             Int.ofNat (0 : Nat) = Int.ofNat (0 : Nat) ∧
               Int.ofNat (0 : Nat) = Int.ofNat (0 : Nat) ∧
                 Int.ofNat (0 : Nat) = Int.ofNat (0 : Nat) ∧
                   (findM va asid m).fst = (findP va asid m i).fst ∧
                     (findM va asid m).snd.fst = (findP va asid m i).snd.fst ∧
                       (findM va asid m).snd.snd.fst = (findP va asid m i).snd.snd.fst ∧ (findM va asid m).snd.snd.snd = (findP va asid m i).snd.snd.snd) ∧
         True)) := by kernel_rfl
theorem vc_find_eq (s w : Int) (m : Es) (va asid : Int) : vc_find s w m va asid = (
 ∃ (x : Nat),
   (va = va ∧
       asid = asid ∧
         (0 : Nat) = (0 : Nat) ∧
           List.length m = List.length m ∧
             (↑(List.length m) : Int) = (↑(List.length m) : Int) ∧
               (↑x : Int) = (0 : Int) ∧
                 m = m ∧
                   false = false ∧
                     Int.ofNat (0 : Nat) = (0 : Int) ∧
                       Int.ofNat (0 : Nat) = (0 : Int) ∧
                         Int.ofNat (0 : Nat) = (0 : Int) ∧
                           (findP va asid m x).fst = false ∧ (findP va asid m x).snd.fst = (0 : Int) ∧ (findP va asid m x).snd.snd.fst = (0 : Int) ∧ (findP va asid m x).snd.snd.snd = (0 : Int)) ∧
     x ≤ List.length m ∧
       ∀ (z : Unit),
         True →
           (findM va asid m).fst = (findM va asid m).fst ∧
             (findM va asid m).snd.fst = (findM va asid m).snd.fst ∧
               (findM va asid m).snd.snd.fst = (findM va asid m).snd.snd.fst ∧ (findM va asid m).snd.snd.snd = (findM va asid m).snd.snd.snd ∧ m = m) := by kernel_rfl
theorem vc_ival_eq (s w : Int) (m : Es) (p : Bool) : vc_ival s w m p = (
 (p = true → (List.length m = List.length m ∧ TlR (s, w, m)) ∧ validM p (s, w, m) = validM true (s, w, m) ∧ m = m) ∧
   (p = false → (List.length m = List.length m ∧ TlR (s, w, m)) ∧ validM p (s, w, m) = validM false (s, w, m) ∧ m = m)) := by kernel_rfl
theorem vc_tval_eq (s w : Int) (m : Es) : vc_tval s w m = (
 (List.length m = List.length m ∧ TlR (s, w, m)) ∧
   ((!validM false (s, w, m)) = true → List.length m = List.length m ∧ TlR (s, w, m)) ∧ (eitherM (s, w, m) = bif validM false (s, w, m) then true else validM true (s, w, m)) ∧ m = m) := by kernel_rfl
theorem vc_either_eq (s w : Int) (m : Es) : vc_either s w m = (
 (List.length m = List.length m ∧ TlR (s, w, m)) ∧
   ((!validM true (s, w, m)) = true → List.length m = List.length m ∧ TlR (s, w, m)) ∧ (eitherM (s, w, m) = bif validM true (s, w, m) then true else validM false (s, w, m)) ∧ m = m) := by kernel_rfl
theorem vc_takesP_eq (s w : Int) (m : Es) (a : Bool) (b c d : Int) (e : Bool) (f : Int) : vc_takesP s w m a b c d e f = (
 (List.length m = List.length m ∧ TlR (s, w, m)) ∧
   (validM true (s, w, m) = true → List.length m = List.length m ∧ EnR (a, b, c, d, e, f)) ∧
     ((validM true (s, w, m) && goodE true (a, b, c, d, e, f)) = bif validM true (s, w, m) then goodE true (a, b, c, d, e, f) else false) ∧ m = m) := by kernel_rfl
theorem vc_takesL_eq (s w : Int) (m : Es) (a : Bool) (b c d : Int) (e : Bool) (f : Int) : vc_takesL s w m a b c d e f = (
 (List.length m = List.length m ∧ TlR (s, w, m)) ∧
   (validM false (s, w, m) = true → List.length m = List.length m ∧ EnR (a, b, c, d, e, f)) ∧
     ((validM false (s, w, m) && goodE false (a, b, c, d, e, f)) = bif validM false (s, w, m) then goodE false (a, b, c, d, e, f) else false) ∧ m = m) := by kernel_rfl
end Go.Proofs.Ytfiddfbagbaofaa.V
namespace Go.Proofs.Ytfiddfbagbaofaa.V
open Go
set_option linter.unusedSimpArgs false

theorem KnowsD.append {P : Program} : ∀ {l m : List (FuncId × Sum)}, KnowsD P l → KnowsD P m → KnowsD P (l ++ m) := by
  intro l m hl hm p hp
  rcases List.mem_append.1 hp with h | h
  · exact hl p h
  · exact hm p h
theorem kEA_ok : KnowsD Try.prog (kE3 ++ kA4) := kE3_ok.append kA4_ok
theorem FE3_ok : DictOk Try.prog FE3 := mkD_ok kEA_ok .nil .nil

theorem keepsP_ok : Sound Try.prog 236 (pureS [stP, i64] [bl] (fun _ => none) (fun t => t.2 == 1)) := by
  refine pure_plain mixed Try.func236 (by kernel_rfl) (by kernel_rfl) F0_ok (fun t _ => ?_)
  obtain ⟨⟨⟩, k⟩ : Unit × Int := t
  exact vc_by (vc_keepsP_eq k) rfl
theorem keepsL_ok : Sound Try.prog 237 (pureS [stP, i64] [bl] (fun _ => none) (fun t => t.2 == 2)) := by
  refine pure_plain mixed Try.func237 (by kernel_rfl) (by kernel_rfl) F0_ok (fun t _ => ?_)
  obtain ⟨⟨⟩, k⟩ : Unit × Int := t
  exact vc_by (vc_keepsL_eq k) rfl
theorem lv_ge (b : Int) : (decide (b ≥ 0) && decide (b ≤ 2)) = lvM b := rfl
theorem pw_lv {b : Int} (h : LvR b) : IntKind.i64.wrap (9 - IntKind.i64.wrap (3 * b)) = 9 - 3 * b ∧ pw (9 - 3 * b) = 2 ^ (9 - 3 * b).toNat ∧ (9 - 3 * b).toNat ≤ 9 ∧ 0 ≤ 9 - 3 * b ∧ 9 - 3 * b ≤ 64 := by
  rcases lv_cases h with rfl | rfl | rfl <;> decide
theorem l4Good_ok : Sound Try.prog 111 (pureS [enP, bl] [bl] (fun t => some (EnR t.1)) (fun t => goodE t.2 t.1)) := by
  refine pure_plain mixed Try.func111 (by kernel_rfl) (by kernel_rfl) FE3_ok (fun t h => ?_)
  obtain ⟨⟨a, b, c, d, e, f⟩, p⟩ : En × Bool := t
  obtain ⟨h1, h2, h3, h4⟩ : I64 b ∧ U64 c ∧ U64 d ∧ U64 f := h
  refine vc_by (vc_l4Good_eq a b c d e f p) ?_
  simp only [Bool.cond_false_right]
  have hb : (a && decide (b ≥ 0) && decide (b ≤ 2)) = (a && lvM b) := by rw [Bool.and_assoc, lv_ge]
  rw [hb]
  have main : ∀ k : Int, k = wantM p → ((a && lvM b) = true → IntKind.i64.wrap (9 - IntKind.i64.wrap (3 * b)) ≤ (64 : Int)) ∧
      ((a && lvM b && decide (c < pw (IntKind.i64.wrap (9 - IntKind.i64.wrap (3 * b)))) && decide (d ≤ 65535)) = true → bitR (f, 5)) ∧
      ((a && lvM b && decide (c < pw (IntKind.i64.wrap (9 - IntKind.i64.wrap (3 * b)))) && decide (d ≤ 65535) && (e == bitM f 5)) = true → U64 f) ∧
      goodE p (a, b, c, d, e, f) = (a && lvM b && decide (c < pw (IntKind.i64.wrap (9 - IntKind.i64.wrap (3 * b)))) && decide (d ≤ 65535) && (e == bitM f 5) && (kindM f b == k)) := by
    intro k hk
    refine ⟨fun g => ?_, fun _ => bitR_of h4 (by decide) (by decide), fun _ => h4, ?_⟩
    · have : LvR b := lvM_iff.1 (by simp at g; exact g.2)
      obtain ⟨w, _, _, _, _⟩ := pw_lv this
      rw [w]
      unfold LvR at this
      omega
    · rw [hk]
      by_cases hl : lvM b = true
      · obtain ⟨w, q, _⟩ := pw_lv (lvM_iff.1 hl)
        rw [w, q]
        rfl
      · have hl : lvM b = false := by simpa using hl
        simp [goodE, hl]
  refine ⟨fun g => main 1 (by simp [wantM, g]), fun g => main 2 (by simp [wantM, g])⟩
theorem l4Fits_ok : Sound Try.prog 117 (pureS [enP, u64, u64] [bl] (fun t => some (EnR t.1 ∧ (t.1.1 = true → LvR t.1.2.1) ∧ U64 t.2.1)) (fun t => fitsM t.1 t.2.1 t.2.2)) := by
  refine pure_plain mixed Try.func117 (by kernel_rfl) (by kernel_rfl) FE3_ok (fun t h => ?_)
  obtain ⟨⟨a, b, c, d, e, f⟩, va, asid⟩ : En × Int × Int := t
  obtain ⟨h1, h2, h3⟩ : EnR (a, b, c, d, e, f) ∧ (a = true → LvR b) ∧ U64 va := h
  refine vc_by (vc_l4Fits_eq a b c d e f va asid) ⟨fun g => ⟨h3, h2 g⟩, ?_⟩
  simp only [Bool.cond_false_right, Bool.cond_true_left]
  rfl
theorem kF1_ok : KnowsD Try.prog kF1 := .cons (by kernel_rfl) keepsP_ok <| .cons (by kernel_rfl) keepsL_ok <| .cons (by kernel_rfl) l4Good_ok <| .cons (by kernel_rfl) l4Fits_ok .nil
theorem FF1_ok : DictOk Try.prog FF1 := mkD_ok ((kF1_ok.append kE3_ok).append kA4_ok) .nil .nil
theorem good_plain {a : Bool} {b c d : Int} {e : Bool} {f : Int} {p : Bool} {k : Int} (hk : k = wantM p) :
    ((a && lvM b) = true → 0 ≤ IntKind.i64.wrap (9 - IntKind.i64.wrap (3 * b))) ∧
    goodE p (a, b, c, d, e, f) = (a && lvM b && decide (c < IntKind.u64.wrap (1 * 2 ^ min (IntKind.i64.wrap (9 - IntKind.i64.wrap (3 * b))).toNat 64)) && decide (d ≤ 65535) && (e == bitM f 5) && (kindM f b == k)) := by
  refine ⟨fun g => ?_, ?_⟩
  · have : LvR b := lvM_iff.1 (by simp at g; exact g.2)
    obtain ⟨w, _, _, q, _⟩ := pw_lv this
    rw [w]
    exact q
  · rw [hk]
    by_cases hl : lvM b = true
    · obtain ⟨w, q, _⟩ := pw_lv (lvM_iff.1 hl)
      have : IntKind.u64.wrap (1 * 2 ^ min (9 - 3 * b).toNat 64) = 2 ^ (9 - 3 * b).toNat := by
        rcases lv_cases (lvM_iff.1 hl) with rfl | rfl | rfl <;> decide
      rw [w, this]
      rfl
    · have hl : lvM b = false := by simpa using hl
      simp [goodE, hl]
theorem goodP_ok : Sound Try.prog 187 (pureS [tlP, enP] [bl] (fun t => some (EnR t.2)) (fun t => goodE true t.2)) := by
  refine pure_plain mixed Try.func187 (by kernel_rfl) (by kernel_rfl) FF1_ok (fun t h => ?_)
  obtain ⟨⟨s, w, m⟩, a, b, c, d, e, f⟩ : Tl × En := t
  obtain ⟨h1, h2, h3, h4⟩ : I64 b ∧ U64 c ∧ U64 d ∧ U64 f := h
  refine vc_by (vc_goodP_eq s w m a b c d e f) ?_
  simp only [Bool.cond_false_right]
  obtain ⟨q1, q2⟩ := good_plain (a := a) (b := b) (c := c) (d := d) (e := e) (p := true) (k := 1) rfl
  exact ⟨q1, fun _ => bitR_of h4 (by decide) (by decide), fun _ => h4, q2, trivial⟩
theorem goodL_ok : Sound Try.prog 188 (pureS [tlP, enP] [bl] (fun t => some (EnR t.2)) (fun t => goodE false t.2)) := by
  refine pure_plain mixed Try.func188 (by kernel_rfl) (by kernel_rfl) FF1_ok (fun t h => ?_)
  obtain ⟨⟨s, w, m⟩, a, b, c, d, e, f⟩ : Tl × En := t
  obtain ⟨h1, h2, h3, h4⟩ : I64 b ∧ U64 c ∧ U64 d ∧ U64 f := h
  refine vc_by (vc_goodL_eq s w m a b c d e f) ?_
  simp only [Bool.cond_false_right]
  obtain ⟨q1, q2⟩ := good_plain (a := a) (b := b) (c := c) (d := d) (e := e) (p := false) (k := 2) rfl
  exact ⟨q1, fun _ => bitR_of h4 (by decide) (by decide), fun _ => h4, q2, trivial⟩
theorem kF2_ok : KnowsD Try.prog kF2 := .cons (by kernel_rfl) goodP_ok <| .cons (by kernel_rfl) goodL_ok kF1_ok
theorem FF2_ok : DictOk Try.prog FF2 := mkD_ok ((kF2_ok.append kE3_ok).append kA4_ok) .nil .nil

theorem nz_eq (e : En) : (!(e.1 == false && (e.2.1 == 0 && (e.2.2.1 == 0 && (e.2.2.2.1 == 0 && (e.2.2.2.2.1 == false && (e.2.2.2.2.2 == 0 && true))))))) = !(e == zE) := by
  obtain ⟨a, b, c, d, g, f⟩ := e
  rw [Bool.and_true]
  rfl
theorem rowsM_iff {p : Bool} {s w : Int} {m : Es} : rowsM p s w m = true ↔ ∀ i, i < m.length → okAt p s w i (m.getD i zE) = true := by
  unfold rowsM
  rw [List.all_eq_true]
  exact ⟨fun h i hi => h i (List.mem_range.2 hi), fun h i hi => h i (List.mem_range.1 hi)⟩
theorem head_sw {s w : Int} {m : Es} (h : headM s w m = true) : (s = 1 ∨ s = 2 ∨ s = 4 ∨ s = 8) ∧ 1 ≤ w ∧ w ≤ 4 ∧ (m.length : Int) = s * w := by
  simp only [headM, Bool.and_eq_true, Bool.or_eq_true, beq_iff_eq, decide_eq_true_eq] at h
  obtain ⟨⟨⟨h1, h2⟩, h3⟩, h4⟩ := h
  exact ⟨by omega, h2, h3, h4⟩
theorem place_wrap {i : Nat} {w : Int} (hw : 1 ≤ w) (hi : i ≤ 2097152) : IntKind.i64.wrap ((i : Int).tdiv w) = (i : Int).tdiv w := by
  rw [tdiv_pos (by omega)]
  have h1 : 0 ≤ (i : Int) / w := Int.ediv_nonneg (by omega) (by omega)
  have h2 : (i : Int) / w ≤ i := Int.ediv_le_self _ (by omega)
  exact wrap_i64_in (by omega) (by omega)
theorem okAt_cond {p : Bool} {s w : Int} {i : Nat} {e : En} (hw : 1 ≤ w) (hi : i ≤ 2097152) : (bif !(e == zE) then bif !goodE p e then true else (IntKind.i64.wrap e.2.2.1).tmod s != IntKind.i64.wrap ((i : Int).tdiv w) else false) = !okAt p s w i e := by
  rw [place_wrap hw hi]
  unfold okAt
  cases e == zE <;> cases goodE p e <;> simp [bne]
theorem get_mem {m : Es} {i : Nat} (h : i < m.length) (d : En) : m.getD i d ∈ m := by
  rw [List.getD_eq_getElem?_getD, List.getElem?_eq_getElem h]
  exact List.getElem_mem h
theorem rows_next {p : Bool} {s w : Int} {m : Es} {i : Nat} (h : ∀ j, j < i → okAt p s w j (m.getD j zE) = true) (ho : okAt p s w i (m.getD i zE) = true) : ∀ j, j < i + 1 → okAt p s w j (m.getD j zE) = true := by
  intro j hj
  rcases Nat.lt_or_ge j i with z | z
  · exact h j z
  · have : j = i := by omega
    subst this
    exact ho
theorem rows_not {p : Bool} {s w : Int} {m : Es} {i : Nat} (hi : i < m.length) (ho : okAt p s w i (m.getD i zE) = false) : rowsM p s w m = false := by
  cases e : rowsM p s w m with
  | false => rfl
  | true => rw [rowsM_iff.1 e i hi] at ho; cases ho
theorem has_sets (s : Int) : hasM [1, 2, 4, 8] s = (s == 1 || s == 2 || s == 4 || s == 8) := by
  have e : ∀ a b : Int, decide (a = b) = (a == b) := fun a b => rfl
  unfold hasM
  simp [Bool.or_assoc, e]
theorem mul_wrap {s w : Int} (hs : s = 1 ∨ s = 2 ∨ s = 4 ∨ s = 8) (h1 : 1 ≤ w) (h2 : w ≤ 4) : IntKind.i64.wrap (s * w) = s * w := by
  rcases hs with rfl | rfl | rfl | rfl <;> exact wrap_i64_in (by omega) (by omega)
theorem head_cond (s w : Int) (m : Es) : (!(s == 1 || s == 2 || s == 4 || s == 8) || decide (w < 1) || decide (w > 4) || (m.length : Int) != IntKind.i64.wrap (s * w)) = !headM s w m := by
  unfold headM
  by_cases h0 : (s == 1 || s == 2 || s == 4 || s == 8) = true
  · by_cases h1 : 1 ≤ w
    · by_cases h2 : w ≤ 4
      · rw [mul_wrap (by simp at h0; omega) h1 h2, h0]
        have e1 : ¬ w < 1 := by omega
        have e2 : ¬ w > 4 := by omega
        simp [h1, h2, e1, e2, bne]
      · have e2 : w > 4 := by omega
        simp [h2, e2]
    · have e1 : w < 1 := by omega
      simp [h1, e1]
  · have h0 : (s == 1 || s == 2 || s == 4 || s == 8) = false := by simpa using h0
    simp [h0]
theorem head_bif (s w : Int) (m : Es) : (bif bif bif !hasM [1, 2, 4, 8] s then true else decide (w < 1) then true else decide (w > 4) then true else (m.length : Int) != IntKind.i64.wrap (s * w)) = !headM s w m := by
  rw [has_sets, ← head_cond]
  simp only [Bool.cond_true_left]
theorem head_bif2 (s w : Int) (m : Es) : (bif bif bif bif bif bif s != 1 then s != 2 else false then s != 4 else false then s != 8 else false then true else decide (w < 1) then true else decide (w > 4) then true else (m.length : Int) != IntKind.i64.wrap (s * w)) = !headM s w m := by
  have e : (s != 1 && s != 2 && s != 4 && s != 8) = !(s == 1 || s == 2 || s == 4 || s == 8) := by simp only [Bool.not_or, bne]
  rw [← head_cond, ← e]
  simp only [Bool.cond_true_left, Bool.cond_false_right]
theorem valP_ok : Sound Try.prog 113 (pureS [tlP] [bl] (fun t => some (TlR t)) (validM true)) := by
  refine pure_loop mixed Try.func113 (by kernel_rfl) (b := loopAt Try.f113 0) (k := 4) (by kernel_rfl) (by kernel_rfl) (by kernel_rfl) FF2_ok (fun t h => ?_)
  obtain ⟨s, w, m⟩ : Tl := t
  obtain ⟨h1, h2, h, h4⟩ : I64 s ∧ I64 w ∧ SzR m.length ∧ ∀ e ∈ m, EnR e := h
  have hs : m.length ≤ 2097152 := h
  refine ⟨.one 4 (valL true 157 s w m), valL true 157 s w m, fun i : Nat => m.length - i, one_loop _ _, fun (i : Nat) hi => vc_by (vc_valP_r_eq s w m i) ?_, vc_by (vc_valP_eq s w m) ?_⟩
  · obtain ⟨hd, hi, hb⟩ : headM s w m = true ∧ i ≤ m.length ∧ ∀ j, j < i → okAt true s w j (m.getD j zE) = true := hi
    obtain ⟨g1, g2, g3, g4⟩ := head_sw hd
    refine ⟨fun g => ?_, fun g => ?_⟩
    · have g : (i : Int) < m.length := of_decide_eq_true g
      have hlt : i < m.length := by omega
      have hm := h4 _ (get_mem hlt zE)
      rw [next_i64 h hlt, show 0 + (i : Int).toNat = i by omega, show El.zero shE = zE from rfl]
      have hno := fun q => rows_not (p := true) (s := s) (w := w) hlt q
      have hyes := fun q => rows_next (p := true) (s := s) (w := w) (m := m) hb q
      generalize m.getD i zE = e at *
      obtain ⟨a, b, c, d, k, f⟩ := e
      have hz := nz_eq (a, b, c, d, k, f)
      have hc := okAt_cond (p := true) (s := s) (w := w) (i := i) (e := (a, b, c, d, k, f)) g2 (by omega)
      simp only at hz hc
      rw [hz, hc]
      have s0 : s ≠ 0 := by omega
      have w0 : w ≠ 0 := by omega
      exact ⟨⟨by omega, by omega⟩, by omega, fun _ => ⟨rfl, hm⟩, fun _ => s0, fun _ => w0, fun q => ⟨(), ⟨rfl, rfl⟩, hno (by simpa using q)⟩, fun q => ⟨i + 1, ⟨rfl, rfl, rfl, rfl, rfl, rfl, rfl, rfl, rfl⟩, ⟨hd, by omega, hyes (by simpa using q)⟩, by omega, fun _ z => z, fun _ z => z⟩⟩
    · have g : ¬ (i : Int) < m.length := of_decide_eq_false g
      have : i = m.length := by omega
      subst this
      exact ⟨(), rfl, rowsM_iff.2 hb⟩
  · rw [head_bif]
    exact ⟨⟨rfl, by unfold SzR; decide⟩, fun q => ⟨by simp at q; simp [validM, q], rfl⟩, fun q => ⟨0, ⟨rfl, rfl, rfl, rfl, rfl, rfl, rfl, rfl, rfl⟩, ⟨by simpa using q, by omega, fun j hj => absurd hj (Nat.not_lt_zero _)⟩, fun _ z => ⟨by simp at q; simp [validM, q, z], rfl⟩, fun _ z => ⟨by simp [validM, z], rfl⟩⟩⟩
theorem valL_ok : Sound Try.prog 114 (pureS [tlP] [bl] (fun t => some (TlR t)) (validM false)) := by
  refine pure_loop mixed Try.func114 (by kernel_rfl) (b := loopAt Try.f114 0) (k := 4) (by kernel_rfl) (by kernel_rfl) (by kernel_rfl) FF2_ok (fun t h => ?_)
  obtain ⟨s, w, m⟩ : Tl := t
  obtain ⟨h1, h2, h, h4⟩ : I64 s ∧ I64 w ∧ SzR m.length ∧ ∀ e ∈ m, EnR e := h
  have hs : m.length ≤ 2097152 := h
  refine ⟨.one 4 (valL false 160 s w m), valL false 160 s w m, fun i : Nat => m.length - i, one_loop _ _, fun (i : Nat) hi => vc_by (vc_valL_r_eq s w m i) ?_, vc_by (vc_valL_eq s w m) ?_⟩
  · obtain ⟨hd, hi, hb⟩ : headM s w m = true ∧ i ≤ m.length ∧ ∀ j, j < i → okAt false s w j (m.getD j zE) = true := hi
    obtain ⟨g1, g2, g3, g4⟩ := head_sw hd
    refine ⟨fun g => ?_, fun g => ?_⟩
    · have g : (i : Int) < m.length := of_decide_eq_true g
      have hlt : i < m.length := by omega
      have hm := h4 _ (get_mem hlt zE)
      rw [next_i64 h hlt, show 0 + (i : Int).toNat = i by omega, show El.zero shE = zE from rfl]
      have hno := fun q => rows_not (p := false) (s := s) (w := w) hlt q
      have hyes := fun q => rows_next (p := false) (s := s) (w := w) (m := m) hb q
      generalize m.getD i zE = e at *
      obtain ⟨a, b, c, d, k, f⟩ := e
      have hz := nz_eq (a, b, c, d, k, f)
      have hc := okAt_cond (p := false) (s := s) (w := w) (i := i) (e := (a, b, c, d, k, f)) g2 (by omega)
      simp only at hz hc
      rw [hz, hc]
      have s0 : s ≠ 0 := by omega
      have w0 : w ≠ 0 := by omega
      exact ⟨⟨by omega, by omega⟩, by omega, fun _ => ⟨rfl, hm⟩, fun _ => s0, fun _ => w0, fun q => ⟨(), ⟨rfl, rfl⟩, hno (by simpa using q)⟩, fun q => ⟨i + 1, ⟨rfl, rfl, rfl, rfl, rfl, rfl, rfl, rfl, rfl⟩, ⟨hd, by omega, hyes (by simpa using q)⟩, by omega, fun _ z => z, fun _ z => z⟩⟩
    · have g : ¬ (i : Int) < m.length := of_decide_eq_false g
      have : i = m.length := by omega
      subst this
      exact ⟨(), rfl, rowsM_iff.2 hb⟩
  · rw [head_bif]
    exact ⟨⟨rfl, by unfold SzR; decide⟩, fun q => ⟨by simp at q; simp [validM, q], rfl⟩, fun q => ⟨0, ⟨rfl, rfl, rfl, rfl, rfl, rfl, rfl, rfl, rfl⟩, ⟨by simpa using q, by omega, fun j hj => absurd hj (Nat.not_lt_zero _)⟩, fun _ z => ⟨by simp at q; simp [validM, q, z], rfl⟩, fun _ z => ⟨by simp [validM, z], rfl⟩⟩⟩
theorem sval_ok : Sound Try.prog 40 (pureS [tlP, bl] [bl] (fun t => some (TlR t.1)) (fun t => validM t.2 t.1)) := by
  refine pure_loop mixed Try.func40 (by kernel_rfl) (b := loopAt Try.f40 0) (k := 4) (by kernel_rfl) (by kernel_rfl) (by kernel_rfl) FF2_ok (fun t h => ?_)
  obtain ⟨⟨s, w, m⟩, p⟩ : Tl × Bool := t
  obtain ⟨h1, h2, h, h4⟩ : I64 s ∧ I64 w ∧ SzR m.length ∧ ∀ e ∈ m, EnR e := h
  have hs : m.length ≤ 2097152 := h
  refine ⟨.one 4 (svalL p s w m), svalL p s w m, fun i : Nat => m.length - i, one_loop _ _, fun (i : Nat) hi => vc_by (vc_sval_r_eq s w m p i) ?_, vc_by (vc_sval_eq s w m p) ?_⟩
  · obtain ⟨hd, hi, hb⟩ : headM s w m = true ∧ i ≤ m.length ∧ ∀ j, j < i → okAt p s w j (m.getD j zE) = true := hi
    obtain ⟨g1, g2, g3, g4⟩ := head_sw hd
    refine ⟨fun g => ?_, fun g => ?_⟩
    · have g : (i : Int) < m.length := of_decide_eq_true g
      have hlt : i < m.length := by omega
      have hm := h4 _ (get_mem hlt zE)
      rw [next_i64 h hlt, show 0 + (i : Int).toNat = i by omega, show El.zero shE = zE from rfl]
      have hno := fun q => rows_not (p := p) (s := s) (w := w) hlt q
      have hyes := fun q => rows_next (p := p) (s := s) (w := w) (m := m) hb q
      generalize m.getD i zE = e at *
      obtain ⟨a, b, c, d, k, f⟩ := e
      have hz := nz_eq (a, b, c, d, k, f)
      have hc := okAt_cond (p := p) (s := s) (w := w) (i := i) (e := (a, b, c, d, k, f)) g2 (by omega)
      simp only at hz hc
      rw [hz, hc]
      have s0 : s ≠ 0 := by omega
      have w0 : w ≠ 0 := by omega
      exact ⟨⟨by omega, by omega⟩, by omega, fun _ => hm, fun _ => s0, fun _ => w0, fun q => ⟨(), ⟨rfl, rfl⟩, hno (by simpa using q)⟩, fun q => ⟨i + 1, ⟨rfl, rfl, rfl, rfl, rfl, rfl, rfl⟩, ⟨hd, by omega, hyes (by simpa using q)⟩, by omega, fun _ z => z, fun _ z => z⟩⟩
    · have g : ¬ (i : Int) < m.length := of_decide_eq_false g
      have : i = m.length := by omega
      subst this
      exact ⟨(), rfl, rowsM_iff.2 hb⟩
  · rw [head_bif2]
    exact ⟨fun q => ⟨by simp at q; simp [validM, q], rfl⟩, fun q => ⟨0, ⟨rfl, rfl, rfl, rfl, rfl, rfl, rfl⟩, ⟨by simpa using q, by omega, fun j hj => absurd hj (Nat.not_lt_zero _)⟩, fun _ z => ⟨by simp at q; simp [validM, q, z], rfl⟩, fun _ z => ⟨by simp [validM, z], rfl⟩⟩⟩
theorem valid_lv {p : Bool} {t : Tl} (h : validM p t = true) {i : Nat} (hi : i < t.2.2.length) (hv : (t.2.2.getD i zE).1 = true) : LvR (t.2.2.getD i zE).2.1 := by
  simp only [validM, Bool.and_eq_true] at h
  have := rowsM_iff.1 h.2 i hi
  simp only [okAt, Bool.or_eq_true, Bool.and_eq_true] at this
  rcases this with e | e
  · have e : t.2.2.getD i zE = zE := by simpa using e
    rw [e] at hv
    cases hv
  · have := e.1
    simp only [goodE, Bool.and_eq_true] at this
    exact lvM_iff.1 this.1.1.1.1.2
theorem either_lv {t : Tl} (h : eitherM t = true) {i : Nat} (hi : i < t.2.2.length) (hv : (t.2.2.getD i zE).1 = true) : LvR (t.2.2.getD i zE).2.1 := by
  simp only [eitherM, Bool.or_eq_true] at h
  rcases h with h | h <;> exact valid_lv h hi hv
theorem find_ok : Sound Try.prog 119 (pureS [tlP, u64, u64] [hitP] (fun t => some (eitherM t.1 = true ∧ TlR t.1 ∧ U64 t.2.1)) (fun t => findM t.2.1 t.2.2 t.1.2.2)) := by
  refine pure_loop mixed Try.func119 (by kernel_rfl) (b := loopAt Try.f119 0) (k := 3) (by kernel_rfl) (by kernel_rfl) (by kernel_rfl) FF2_ok (fun t h => ?_)
  obtain ⟨⟨s, w, m⟩, va, asid⟩ : Tl × Int × Int := t
  obtain ⟨h0, ⟨h1, h2, h, h4⟩, h5⟩ : eitherM (s, w, m) = true ∧ (I64 s ∧ I64 w ∧ SzR m.length ∧ ∀ e ∈ m, EnR e) ∧ U64 va := h
  have hs : m.length ≤ 2097152 := h
  refine ⟨.one 3 (findL va asid m), findL va asid m, fun i : Nat => m.length - i, one_loop _ _, fun (i : Nat) hi => vc_by (vc_find_r_eq va asid m i) ?_, vc_by (vc_find_eq s w m va asid) ?_⟩
  · have hi : i ≤ m.length := hi
    refine ⟨fun g => ?_, fun g => ?_⟩
    · have g : (i : Int) < m.length := of_decide_eq_true g
      have hlt : i < m.length := by omega
      have hlv := either_lv h0 hlt
      simp only at hlv
      have hnext : findP va asid m (i + 1) = findStep va asid (findP va asid m i) i (m.getD i zE) := rfl
      rw [next_i64 h hlt, show 0 + (i : Int).toNat = i by omega, show El.zero shE = zE from rfl]
      generalize m.getD i zE = e at *
      obtain ⟨a, b, c, d, k, f⟩ := e
      simp only [Bool.cond_true_left, Bool.cond_false_right]
      refine ⟨⟨by omega, by omega⟩, by omega, fun q => ⟨h5, hlv q⟩, fun q => ⟨i + 1, ⟨trivial, trivial, trivial, trivial, trivial, rfl, trivial, trivial, trivial, trivial, trivial, ?_⟩, by omega, by omega, fun _ _ => trivial⟩, fun q => ⟨i + 1, ⟨trivial, trivial, trivial, trivial, trivial, rfl, trivial, trivial, trivial, trivial, trivial, ?_⟩, by omega, by omega, fun _ _ => trivial⟩⟩
      · rw [hnext]
        unfold findStep
        rw [if_pos (by unfold fitsM; exact q)]
        exact ⟨rfl, rfl, rfl, rfl⟩
      · rw [hnext]
        unfold findStep
        rw [if_neg (by unfold fitsM; rw [q]; decide)]
        exact ⟨rfl, rfl, rfl, rfl⟩
    · have g : ¬ (i : Int) < m.length := of_decide_eq_false g
      have : i = m.length := by omega
      subst this
      exact ⟨(), ⟨rfl, rfl, rfl, rfl, rfl, rfl, rfl, rfl, rfl⟩, trivial⟩
  · exact ⟨0, ⟨rfl, rfl, rfl, rfl, rfl, rfl, rfl, rfl, rfl, rfl, rfl, rfl, rfl, rfl, rfl⟩, by omega, fun _ _ => ⟨rfl, rfl, rfl, rfl, rfl⟩⟩
theorem kF3_ok : KnowsD Try.prog kF3 := .cons (by kernel_rfl) valP_ok <| .cons (by kernel_rfl) valL_ok <| .cons (by kernel_rfl) sval_ok <| .cons (by kernel_rfl) find_ok kF2_ok
theorem FF3_ok : DictOk Try.prog FF3 := mkD_ok ((kF3_ok.append kE3_ok).append kA4_ok) .nil .nil

theorem ival_ok : Sound Try.prog 42 (pureS [tlP, bl] [bl] (fun t => some (TlR t.1)) (fun t => validM t.2 t.1)) := by
  refine pure_plain mixed Try.func42 (by kernel_rfl) (by kernel_rfl) FF3_ok (fun t h => ?_)
  obtain ⟨⟨s, w, m⟩, p⟩ : Tl × Bool := t
  have h : TlR (s, w, m) := h
  refine vc_by (vc_ival_eq s w m p) ⟨fun g => ?_, fun g => ?_⟩ <;> subst g <;> exact ⟨⟨rfl, h⟩, rfl, rfl⟩
theorem tval_ok : Sound Try.prog 118 (pureS [tlP] [bl] (fun t => some (TlR t)) eitherM) := by
  refine pure_plain mixed Try.func118 (by kernel_rfl) (by kernel_rfl) FF3_ok (fun t h => ?_)
  obtain ⟨s, w, m⟩ : Tl := t
  have h : TlR (s, w, m) := h
  refine vc_by (vc_tval_eq s w m) ⟨⟨rfl, h⟩, fun _ => ⟨rfl, h⟩, ?_, rfl⟩
  rw [Bool.cond_true_left, Bool.or_comm]
  rfl
theorem either_ok : Sound Try.prog 116 (pureS [tlP] [bl] (fun t => some (TlR t)) eitherM) := by
  refine pure_plain mixed Try.func116 (by kernel_rfl) (by kernel_rfl) FF3_ok (fun t h => ?_)
  obtain ⟨s, w, m⟩ : Tl := t
  have h : TlR (s, w, m) := h
  refine vc_by (vc_either_eq s w m) ⟨⟨rfl, h⟩, fun _ => ⟨rfl, h⟩, ?_, rfl⟩
  rw [Bool.cond_true_left]
  rfl
theorem takesP_ok : Sound Try.prog 130 (pureS [tlP, enP] [bl] (fun t => some (TlR t.1 ∧ EnR t.2)) (fun t => validM true t.1 && goodE true t.2)) := by
  refine pure_plain mixed Try.func130 (by kernel_rfl) (by kernel_rfl) FF3_ok (fun t h => ?_)
  obtain ⟨⟨s, w, m⟩, a, b, c, d, e, f⟩ : Tl × En := t
  obtain ⟨h1, h2⟩ : TlR (s, w, m) ∧ EnR (a, b, c, d, e, f) := h
  exact vc_by (vc_takesP_eq s w m a b c d e f) ⟨⟨rfl, h1⟩, fun _ => ⟨rfl, h2⟩, by rw [Bool.cond_false_right], rfl⟩
theorem takesL_ok : Sound Try.prog 129 (pureS [tlP, enP] [bl] (fun t => some (TlR t.1 ∧ EnR t.2)) (fun t => validM false t.1 && goodE false t.2)) := by
  refine pure_plain mixed Try.func129 (by kernel_rfl) (by kernel_rfl) FF3_ok (fun t h => ?_)
  obtain ⟨⟨s, w, m⟩, a, b, c, d, e, f⟩ : Tl × En := t
  obtain ⟨h1, h2⟩ : TlR (s, w, m) ∧ EnR (a, b, c, d, e, f) := h
  exact vc_by (vc_takesL_eq s w m a b c d e f) ⟨⟨rfl, h1⟩, fun _ => ⟨rfl, h2⟩, by rw [Bool.cond_false_right], rfl⟩
theorem kF4_ok : KnowsD Try.prog kF4 := .cons (by kernel_rfl) ival_ok <| .cons (by kernel_rfl) tval_ok <| .cons (by kernel_rfl) either_ok <| .cons (by kernel_rfl) takesP_ok <| .cons (by kernel_rfl) takesL_ok kF3_ok
end Go.Proofs.Ytfiddfbagbaofaa.V
