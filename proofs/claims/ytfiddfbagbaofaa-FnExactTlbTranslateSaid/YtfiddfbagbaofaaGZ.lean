/- The reference's translation with caches answers as the program's; the law returns true. Conditions: those in each statement. -/
import Derived.Test.YtfiddfbagbaofaaGY
import Derived.KernelRfl
namespace Go.Proofs.Ytfiddfbagbaofaa.V
open Go
def kZ0 : Known := kI2 ++ kH ++ kK2 ++ kY1 ++ kN2 ++ kO1 ++ kM
def FZ0 : Dict := mkD kZ0 [] []
abbrev Ans := Int × Int
/-- What the memory is like while the reference works: k: the caches, r: what it has so far. -/
def spH (box isI : Bool) (m : By) (c : Ct) (k : Cch) (P2 : Es) : Heap := [.arr [.i .u8] m false, .arr shE k.1.2.2 false, .arr shE k.2.1.2.2 false, .arr shE k.2.2.2.2 false,
  .fix [.v (.int .i64 c.1), .v (.bool c.2.1), .v (.bool c.2.2.1), .v (.int .u64 c.2.2.2)] true (some 86),
  cond box (.fix (tlA k.1.1 k.1.2.1 1 k.1.2.2.length ++ (tlA k.2.1.1 k.2.1.2.1 2 k.2.1.2.2.length ++ tlA k.2.2.1 k.2.2.2.1 3 k.2.2.2.2.length)) true (some 98)) .dead,
  .fix [.v (.int .i64 0), .v (.int .u64 0), .v (.int .i64 0), .v (.int .i64 0), .v (.slice none 0 0), .v (.int .i64 0), .v (.int .i64 0), .v (.slice none 0 0), .v (.int .i64 0), .v (.int .i64 0), .v (.slice none 0 0)] true (some 121),
  .fix ([.v (.int .i64 0), .v (.int .u64 0)] ++ (tlA k.1.1 k.1.2.1 8 k.1.2.2.length ++ (tlA k.2.1.1 k.2.1.2.1 9 k.2.1.2.2.length ++ tlA k.2.2.1 k.2.2.2.1 10 P2.length))) true (some 121),
  .arr shE k.1.2.2 true, .arr shE k.2.1.2.2 true, .arr shE P2 true,
  .fix (cond isI (tlA k.1.1 k.1.2.1 1 k.1.2.2.length) (tlA k.2.1.1 k.2.1.2.1 2 k.2.1.2.2.length)) true (some 52)]
def spSl (kind va pick : Int) (l : List (Nat × Av)) : List Av := slots 197 ([(3, .v (.int .i64 kind)), (4, .v (.int .u64 va)), (5, .v (.int .i64 pick)), (7, .ptr 4 0), (12, .ptr 6 0), (13, .ptr 7 0), (14, .ptr 11 0)] ++ l)
def wkA (W : Wr) (id : Nat) : List Av := [.v (.int .i64 W.1), .v (.int .i64 W.2.1), .v (.int .u64 W.2.2.1), .sl id 3 0 W.2.2.2.length]
/-- What is asked of the records. -/
def RecR (c : Ct) (k : Cch) (va pick : Int) (rs : Rs) : Prop := U64 c.2.2.2 ∧ U64 va ∧ 0 ≤ pick ∧ pick ≤ 255 ∧ validM true k.2.2 = true ∧ TlR k.2.2 ∧ rs.length ≤ 3 ∧ ∀ r ∈ rs, LvR r.1 ∧ U64 r.2.2
def spL (isI : Bool) (m : By) (c : Ct) (k : Cch) (kind va pick : Int) (W : Wr) : LoopS where
  α := Nat
  I i := i ≤ W.2.2.2.length ∧ RecR c k va pick W.2.2.2
  sl i := spSl kind va pick [(17, .ptr 12 0), (19, .v (.int .i64 (i : Int)))]
  H i := spH false isI m c k (keepAll va c.2.2.2 pick k.2.2 (W.2.2.2.take i)).2.2 ++ [.fix (wkA W 13) true (some 63), .arr shR W.2.2.2 true]
  fams := [{ β := Unit, out := fun _ _ => True, ex := .ext 0, sl := fun _ => spSl kind va pick [(17, .ptr 12 0)], H := fun _ => spH false isI m c k (keepAll va c.2.2.2 pick k.2.2 W.2.2.2).2.2 ++ [.fix (wkA W 13) true (some 63), .arr shR W.2.2.2 true] }]
def spX (isI : Bool) (m : By) (c : Ct) (k : Cch) (kind va pick : Int) (W : Wr) : Specs := { Specs.one 24 (spL isI m c k kind va pick W) with pick := fun r => if r = 12 then some isI else none, cut := fun r => if r = 14 then some (CutS.mk Hi (fun _ => spSl kind va pick [(0, .sl 0 1 0 m.length), (8, .ptr 5 0), (15, .ptr 12 0)]) (fun z => spH true isI m c k k.2.2.2.2 ++ [.fix (hitA z) true (some 57)])) else if r = 21 then some (CutS.mk (Wr × Hi) (fun _ => spSl kind va pick [(0, .sl 0 1 0 m.length), (17, .ptr 12 0), (18, .ptr 14 0)]) (fun z => spH false isI m c k k.2.2.2.2 ++ [.fix (wkA z.1 13) true (some 63), .arr shR z.1.2.2.2 true, .fix (hitA z.2) true (some 57)])) else if r = 29 then some (CutS.mk Ans (fun _ => spSl kind va pick [(17, .ptr 12 0), (20, .ptr 14 0)]) (fun z => spH false isI m c k (keepAll va c.2.2.2 pick k.2.2 W.2.2.2).2.2 ++ [.fix (wkA W 13) true (some 63), .arr shR W.2.2.2 true, .fix [.v (.int .i64 z.1), .v (.int .u64 z.2)] true (some 84)])) else none }
def vc_spI_r (m : By) (c0 : Int) (c1 c2 : Bool) (c3 : Int) (s1 w1 : Int) (m1 : Es) (s2 w2 : Int) (m2 : Es) (s3 w3 : Int) (m3 : Es) (kind va pick : Int) (q0 q1 q2 : Int) (rs : Rs) (i : Nat) : Prop := vcRound Try.prog FZ0 (spX true m (c0, c1, c2, c3) ((s1, w1, m1), (s2, w2, m2), (s3, w3, m3)) kind va pick (q0, q1, q2, rs)) 4 (loopAt Try.f79 0) (spL true m (c0, c1, c2, c3) ((s1, w1, m1), (s2, w2, m2), (s3, w3, m3)) kind va pick (q0, q1, q2, rs)) (fun i : Nat => rs.length - i) i
def vc_spI (m : By) (c0 : Int) (c1 c2 : Bool) (c3 : Int) (s1 w1 : Int) (m1 : Es) (s2 w2 : Int) (m2 : Es) (s3 w3 : Int) (m3 : Es) (kind va pick : Int) (q0 q1 q2 : Int) (rs : Rs) (e pa : Int) (t1 u1 : Int) (n1 : Es) (t2 u2 : Int) (n2 : Es) (t3 u3 : Int) (n3 : Es) : Prop := vcPure Try.prog FZ0 (spX true m (c0, c1, c2, c3) ((s1, w1, m1), (s2, w2, m2), (s3, w3, m3)) kind va pick (q0, q1, q2, rs)) Try.f79 [byP, ctxP, chP, i64, u64, i64] [ttP] (m, (c0, c1, c2, c3), (s1, w1, m1, s2, w2, m2, s3, w3, m3), kind, va, pick) (e, pa, t1, u1, n1, t2, u2, n2, t3, u3, n3)
def vc_spD_r (m : By) (c0 : Int) (c1 c2 : Bool) (c3 : Int) (s1 w1 : Int) (m1 : Es) (s2 w2 : Int) (m2 : Es) (s3 w3 : Int) (m3 : Es) (kind va pick : Int) (q0 q1 q2 : Int) (rs : Rs) (i : Nat) : Prop := vcRound Try.prog FZ0 (spX false m (c0, c1, c2, c3) ((s1, w1, m1), (s2, w2, m2), (s3, w3, m3)) kind va pick (q0, q1, q2, rs)) 4 (loopAt Try.f79 0) (spL false m (c0, c1, c2, c3) ((s1, w1, m1), (s2, w2, m2), (s3, w3, m3)) kind va pick (q0, q1, q2, rs)) (fun i : Nat => rs.length - i) i
def vc_spD (m : By) (c0 : Int) (c1 c2 : Bool) (c3 : Int) (s1 w1 : Int) (m1 : Es) (s2 w2 : Int) (m2 : Es) (s3 w3 : Int) (m3 : Es) (kind va pick : Int) (q0 q1 q2 : Int) (rs : Rs) (e pa : Int) (t1 u1 : Int) (n1 : Es) (t2 u2 : Int) (n2 : Es) (t3 u3 : Int) (n3 : Es) : Prop := vcPure Try.prog FZ0 (spX false m (c0, c1, c2, c3) ((s1, w1, m1), (s2, w2, m2), (s3, w3, m3)) kind va pick (q0, q1, q2, rs)) Try.f79 [byP, ctxP, chP, i64, u64, i64] [ttP] (m, (c0, c1, c2, c3), (s1, w1, m1, s2, w2, m2, s3, w3, m3), kind, va, pick) (e, pa, t1, u1, n1, t2, u2, n2, t3, u3, n3)
/-- What the law's sides ask for. -/
def TlbR (m : By) (c : Ct) (x : Cf) (va : Int) : Prop := ByteR m ∧ U64 c.2.2.2 ∧ ChR (toC x) ∧ U64 va
def kZ1 : Known := [
  (79, pureS [byP, ctxP, chP, i64, u64, i64] [ttP] (fun t => some (TlbR t.1 t.2.1 t.2.2.1 t.2.2.2.2.1)) (fun t => tlbF t.1 t.2.1 t.2.2.1 t.2.2.2.1 t.2.2.2.2.1 t.2.2.2.2.2)),
  (81, pureS [byP, ctxP, chP, i64, u64, i64] [ttP] (fun t => some (TlbR t.1 t.2.1 t.2.2.1 t.2.2.2.2.1)) (fun t => tlbF t.1 t.2.1 t.2.2.1 t.2.2.2.1 t.2.2.2.2.1 t.2.2.2.2.2)),
  (82, pureS [ttP, ttP] [bl] (fun t => some (t.1 = t.2 ∧ SzC (toC t.1.2.2))) (fun _ => true)),
  (85, mutS [ttP, i64] [i64] (fun t => some (MarkC (toC t.1.2.2) t.2)) (fun t => (((t.1.1, t.1.2.1, ofC (markC (toC t.1.2.2) t.2)), t.2), t.2 + 6 * t.1.2.2.2.2.1.length + 6 * t.1.2.2.2.2.2.2.2.1.length + 6 * t.1.2.2.2.2.2.2.2.2.2.2.length))),
  (86, pureS [ttP, i64] [i64] (fun t => some (MarkC (toC t.1.2.2) t.2 ∧ toC t.1.2.2 = markC (toC t.1.2.2) t.2)) (fun t => t.2 + 6 * t.1.2.2.2.2.1.length + 6 * t.1.2.2.2.2.2.2.2.1.length + 6 * t.1.2.2.2.2.2.2.2.2.2.2.length))]
def FZ1 : Dict := mkD (kZ1 ++ kY1 ++ kN2 ++ kB3) [] []
def vc_lawTlb (m : By) (c0 : Int) (c1 c2 : Bool) (c3 : Int) (s1 w1 : Int) (m1 : Es) (s2 w2 : Int) (m2 : Es) (s3 w3 : Int) (m3 : Es) (kind va pick : Int) : Prop := vcPure Try.prog FZ1 .none Try.f20 [byP, ctxP, chP, i64, u64, i64] [bl] (m, (c0, c1, c2, c3), (s1, w1, m1, s2, w2, m2, s3, w3, m3), kind, va, pick) true
end Go.Proofs.Ytfiddfbagbaofaa.V
namespace Go.Proofs.Ytfiddfbagbaofaa.V
open Go
set_option linter.unusedVariables false
theorem vc_spI_r_eq (m : By) (c0 : Int) (c1 c2 : Bool) (c3 : Int) (s1 w1 : Int) (m1 : Es) (s2 w2 : Int) (m2 : Es) (s3 w3 : Int) (m3 : Es) (kind va pick : Int) (q0 q1 q2 : Int) (rs : Rs) (i : Nat) : vc_spI_r m c0 c1 c2 c3 s1 w1 m1 s2 w2 m2 s3 w3 m3 kind va pick q0 q1 q2 rs i = (
 (decide ((↑i : Int) < (↑(List.length rs) : Int)) = true → ((0 : Int) ≤ (↑i : Int) ∧ (↑i : Int) < (↑(List.length rs) : Int)) ∧ (0 : Nat) + (↑i : Int).toNat < List.length rs ∧ ((0 : Int) ≤ (↑i : Int) ∧ (↑i : Int) < (↑(List.length rs) : Int))
 ∧ (0 : Nat) + (↑i : Int).toNat < List.length rs ∧ U64 (List.getD rs ((0 : Nat) + (↑i : Int).toNat) (El.zero shR)).snd.snd ∧ ((kindM (List.getD rs ((0 : Nat) + (↑i : Int).toNat) (El.zero shR)).snd.snd (List.getD rs ((0 : Nat) + (↑i :
 Int).toNat) (El.zero shR)).fst == (1 : Int)) = true → ((0 : Int) ≤ (↑i : Int) ∧ (↑i : Int) < (↑(List.length rs) : Int)) ∧ (0 : Nat) + (↑i : Int).toNat < List.length rs ∧ ((0 : Int) ≤ (↑i : Int) ∧ (↑i : Int) < (↑(List.length rs) : Int)) ∧ (0
 : Nat) + (↑i : Int).toNat < List.length rs ∧ (LvR (List.getD rs ((0 : Nat) + (↑i : Int).toNat) (El.zero shR)).fst ∧ U64 va ∧ U64 c3 ∧ U64 (List.getD rs ((0 : Nat) + (↑i : Int).toNat) (El.zero shR)).snd.snd) ∧ (List.length (keepAll va c3
 pick (s3, w3, m3) (List.take i rs)).snd.snd = List.length (keepAll va c3 pick (s3, w3, m3) (List.take i rs)).snd.snd ∧ TlR (s3, w3, (keepAll va c3 pick (s3, w3, m3) (List.take i rs)).snd.snd) ∧ EnR ((entM (List.getD rs ((0 : Nat) + (↑i :
 Int).toNat) (El.zero shR)).fst va c3 (List.getD rs ((0 : Nat) + (↑i : Int).toNat) (El.zero shR)).snd.snd).fst, (entM (List.getD rs ((0 : Nat) + (↑i : Int).toNat) (El.zero shR)).fst va c3 (List.getD rs ((0 : Nat) + (↑i : Int).toNat) (El.zero
 shR)).snd.snd).snd.fst, (entM (List.getD rs ((0 : Nat) + (↑i : Int).toNat) (El.zero shR)).fst va c3 (List.getD rs ((0 : Nat) + (↑i : Int).toNat) (El.zero shR)).snd.snd).snd.snd.fst, (entM (List.getD rs ((0 : Nat) + (↑i : Int).toNat)
 (El.zero shR)).fst va c3 (List.getD rs ((0 : Nat) + (↑i : Int).toNat) (El.zero shR)).snd.snd).snd.snd.snd.fst, (entM (List.getD rs ((0 : Nat) + (↑i : Int).toNat) (El.zero shR)).fst va c3 (List.getD rs ((0 : Nat) + (↑i : Int).toNat) (El.zero
 shR)).snd.snd).snd.snd.snd.snd.fst, (entM (List.getD rs ((0 : Nat) + (↑i : Int).toNat) (El.zero shR)).fst va c3 (List.getD rs ((0 : Nat) + (↑i : Int).toNat) (El.zero shR)).snd.snd).snd.snd.snd.snd.snd)) ∧ ∃ (y : Nat), (kind = kind ∧ va = va
 ∧ pick = pick ∧ (↑y : Int) = IntKind.i64.wrap ((↑i : Int) + (1 : Int)) ∧ m = m ∧ m1 = m1 ∧ m2 = m2 ∧ m3 = m3 ∧ c0 = c0 ∧ c1 = c1 ∧ c2 = c2 ∧ c3 = c3 ∧ (0 : Int) = (0 : Int) ∧ (0 : Int) = (0 : Int) ∧ (0 : Int) = (0 : Int) ∧ (0 : Int) = (0 :
 Int) ∧ Value.slice none (0 : Nat) (0 : Nat) = Value.slice none (0 : Nat) (0 : Nat) ∧ (0 : Int) = (0 : Int) ∧ (0 : Int) = (0 : Int) ∧ Value.slice none (0 : Nat) (0 : Nat) = Value.slice none (0 : Nat) (0 : Nat) ∧ (0 : Int) = (0 : Int) ∧ (0 :
 Int) = (0 : Int) ∧ Value.slice none (0 : Nat) (0 : Nat) = Value.slice none (0 : Nat) (0 : Nat) ∧ (0 : Int) = (0 : Int) ∧ (0 : Int) = (0 : Int) ∧ s1 = s1 ∧ w1 = w1 ∧ (0 : Nat) = (0 : Nat) ∧ List.length m1 = List.length m1 ∧ s2 = s2 ∧ w2 = w2
 ∧ (0 : Nat) = (0 : Nat) ∧ List.length m2 = List.length m2 ∧ s3 = (insertM (s3, w3, (keepAll va c3 pick (s3, w3, m3) (List.take i rs)).snd.snd) ((entM (List.getD rs ((0 : Nat) + (↑i : Int).toNat) (El.zero shR)).fst va c3 (List.getD rs ((0 :
 Nat) + (↑i : Int).toNat) (El.zero shR)).snd.snd).fst, (entM (List.getD rs ((0 : Nat) + (↑i : Int).toNat) (El.zero shR)).fst va c3 (List.getD rs ((0 : Nat) + (↑i : Int).toNat) (El.zero shR)).snd.snd).snd.fst, (entM (List.getD rs ((0 : Nat) +
 (↑i : Int).toNat) (El.zero shR)).fst va c3 (List.getD rs ((0 : Nat) + (↑i : Int).toNat) (El.zero shR)).snd.snd).snd.snd.fst, (entM (List.getD rs ((0 : Nat) + (↑i : Int).toNat) (El.zero shR)).fst va c3 (List.getD rs ((0 : Nat) + (↑i :
 Int).toNat) (El.zero shR)).snd.snd).snd.snd.snd.fst, (entM (List.getD rs ((0 : Nat) + (↑i : Int).toNat) (El.zero shR)).fst va c3 (List.getD rs ((0 : Nat) + (↑i : Int).toNat) (El.zero shR)).snd.snd).snd.snd.snd.snd.fst, (entM (List.getD rs
 ((0 : Nat) + (↑i : Int).toNat) (El.zero shR)).fst va c3 (List.getD rs ((0 : Nat) + (↑i : Int).toNat) (El.zero shR)).snd.snd).snd.snd.snd.snd.snd) pick).fst ∧ w3 = (insertM (s3, w3, (keepAll va c3 pick (s3, w3, m3) (List.take i rs)).snd.snd)
 ((entM (List.getD rs ((0 : Nat) + (↑i : Int).toNat) (El.zero shR)).fst va c3 (List.getD rs ((0 : Nat) + (↑i : Int).toNat) (El.zero shR)).snd.snd).fst, (entM (List.getD rs ((0 : Nat) + (↑i : Int).toNat) (El.zero shR)).fst va c3 (List.getD rs
 ((0 : Nat) + (↑i : Int).toNat) (El.zero shR)).snd.snd).snd.fst, (entM (List.getD rs ((0 : Nat) + (↑i : Int).toNat) (El.zero shR)).fst va c3 (List.getD rs ((0 : Nat) + (↑i : Int).toNat) (El.zero shR)).snd.snd).snd.snd.fst, (entM (List.getD
 rs ((0 : Nat) + (↑i : Int).toNat) (El.zero shR)).fst va c3 (List.getD rs ((0 : Nat) + (↑i : Int).toNat) (El.zero shR)).snd.snd).snd.snd.snd.fst, (entM (List.getD rs ((0 : Nat) + (↑i : Int).toNat) (El.zero shR)).fst va c3 (List.getD rs ((0 :
 Nat) + (↑i : Int).toNat) (El.zero shR)).snd.snd).snd.snd.snd.snd.fst, (entM (List.getD rs ((0 : Nat) + (↑i : Int).toNat) (El.zero shR)).fst va c3 (List.getD rs ((0 : Nat) + (↑i : Int).toNat) (El.zero shR)).snd.snd).snd.snd.snd.snd.snd)
 pick).snd.fst ∧ (0 : Nat) = (0 : Nat) ∧ List.length (keepAll va c3 pick (s3, w3, m3) (List.take y rs)).snd.snd = List.length (insertM (s3, w3, (keepAll va c3 pick (s3, w3, m3) (List.take i rs)).snd.snd) ((entM (List.getD rs ((0 : Nat) + (↑i
 : Int).toNat) (El.zero shR)).fst va c3 (List.getD rs ((0 : Nat) + (↑i : Int).toNat) (El.zero shR)).snd.snd).fst, (entM (List.getD rs ((0 : Nat) + (↑i : Int).toNat) (El.zero shR)).fst va c3 (List.getD rs ((0 : Nat) + (↑i : Int).toNat)
 (El.zero shR)).snd.snd).snd.fst, (entM (List.getD rs ((0 : Nat) + (↑i : Int).toNat) (El.zero shR)).fst va c3 (List.getD rs ((0 : Nat) + (↑i : Int).toNat) (El.zero shR)).snd.snd).snd.snd.fst, (entM (List.getD rs ((0 : Nat) + (↑i :
 Int).toNat) (El.zero shR)).fst va c3 (List.getD rs ((0 : Nat) + (↑i : Int).toNat) (El.zero shR)).snd.snd).snd.snd.snd.fst, (entM (List.getD rs ((0 : Nat) + (↑i : Int).toNat) (El.zero shR)).fst va c3 (List.getD rs ((0 : Nat) + (↑i :
 Int).toNat) (El.zero shR)).snd.snd).snd.snd.snd.snd.fst, (entM (List.getD rs ((0 : Nat) + (↑i : Int).toNat) (El.zero shR)).fst va c3 (List.getD rs ((0 : Nat) + (↑i : Int).toNat) (El.zero shR)).snd.snd).snd.snd.snd.snd.snd) pick).snd.snd ∧
 m1 = m1 ∧ m2 = m2 ∧ (keepAll va c3 pick (s3, w3, m3) (List.take y rs)).snd.snd = (insertM (s3, w3, (keepAll va c3 pick (s3, w3, m3) (List.take i rs)).snd.snd) ((entM (List.getD rs ((0 : Nat) + (↑i : Int).toNat) (El.zero shR)).fst va c3
 (List.getD rs ((0 : Nat) + (↑i : Int).toNat) (El.zero shR)).snd.snd).fst, (entM (List.getD rs ((0 : Nat) + (↑i : Int).toNat) (El.zero shR)).fst va c3 (List.getD rs ((0 : Nat) + (↑i : Int).toNat) (El.zero shR)).snd.snd).snd.fst, (entM
 (List.getD rs ((0 : Nat) + (↑i : Int).toNat) (El.zero shR)).fst va c3 (List.getD rs ((0 : Nat) + (↑i : Int).toNat) (El.zero shR)).snd.snd).snd.snd.fst, (entM (List.getD rs ((0 : Nat) + (↑i : Int).toNat) (El.zero shR)).fst va c3 (List.getD
 rs ((0 : Nat) + (↑i : Int).toNat) (El.zero shR)).snd.snd).snd.snd.snd.fst, (entM (List.getD rs ((0 : Nat) + (↑i : Int).toNat) (El.zero shR)).fst va c3 (List.getD rs ((0 : Nat) + (↑i : Int).toNat) (El.zero shR)).snd.snd).snd.snd.snd.snd.fst,
 (entM (List.getD rs ((0 : Nat) + (↑i : Int).toNat) (El.zero shR)).fst va c3 (List.getD rs ((0 : Nat) + (↑i : Int).toNat) (El.zero shR)).snd.snd).snd.snd.snd.snd.snd) pick).snd.snd ∧ s1 = s1 ∧ w1 = w1 ∧ (0 : Nat) = (0 : Nat) ∧ List.length m1
 = List.length m1 ∧ q0 = q0 ∧ q1 = q1 ∧ q2 = q2 ∧ (0 : Nat) = (0 : Nat) ∧ List.length rs = List.length rs ∧ rs = rs) ∧ (y ≤ List.length rs ∧ RecR (c0, c1, c2, c3) ((s1, w1, m1), (s2, w2, m2), s3, w3, m3) va pick rs) ∧ List.length rs - y <
 List.length rs - i ∧ ∀ (z : Unit), True → True) ∧ ((kindM (List.getD rs ((0 : Nat) + (↑i : Int).toNat) (El.zero shR)).snd.snd (List.getD rs ((0 : Nat) + (↑i : Int).toNat) (El.zero shR)).fst == (1 : Int)) = false → ∃ (y : Nat), (kind = kind
 ∧ va = va ∧ pick = pick ∧ (↑y : Int) = IntKind.i64.wrap ((↑i : Int) + (1 : Int)) ∧ m = m ∧ m1 = m1 ∧ m2 = m2 ∧ m3 = m3 ∧ c0 = c0 ∧ c1 = c1 ∧ c2 = c2 ∧ c3 = c3 ∧ (0 : Int) = (0 : Int) ∧ (0 : Int) = (0 : Int) ∧ (0 : Int) = (0 : Int) ∧ (0 :
 Int) = (0 : Int) ∧ Value.slice none (0 : Nat) (0 : Nat) = Value.slice none (0 : Nat) (0 : Nat) ∧ (0 : Int) = (0 : Int) ∧ (0 : Int) = (0 : Int) ∧ Value.slice none (0 : Nat) (0 : Nat) = Value.slice none (0 : Nat) (0 : Nat) ∧ (0 : Int) = (0 :
 Int) ∧ (0 : Int) = (0 : Int) ∧ Value.slice none (0 : Nat) (0 : Nat) = Value.slice none (0 : Nat) (0 : Nat) ∧ (0 : Int) = (0 : Int) ∧ (0 : Int) = (0 : Int) ∧ s1 = s1 ∧ w1 = w1 ∧ (0 : Nat) = (0 : Nat) ∧ List.length m1 = List.length m1 ∧ s2 =
 s2 ∧ w2 = w2 ∧ (0 : Nat) = (0 : Nat) ∧ List.length m2 = List.length m2 ∧ s3 = s3 ∧ w3 = w3 ∧ (0 : Nat) = (0 : Nat) ∧ List.length (keepAll va c3 pick (s3, w3, m3) (List.take y rs)).snd.snd = List.length (keepAll va c3 pick (s3, w3, m3)
 (List.take i rs)).snd.snd ∧ m1 = m1 ∧ m2 = m2 ∧ (keepAll va c3 pick (s3, w3, m3) (List.take y rs)).snd.snd = (keepAll va c3 pick (s3, w3, m3) (List.take i rs)).snd.snd ∧ s1 = s1 ∧ w1 = w1 ∧ (0 : Nat) = (0 : Nat) ∧ List.length m1 =
 List.length m1 ∧ q0 = q0 ∧ q1 = q1 ∧ q2 = q2 ∧ (0 : Nat) = (0 : Nat) ∧ List.length rs = List.length rs ∧ rs = rs) ∧ (y ≤ List.length rs ∧ RecR (c0, c1, c2, c3) ((s1, w1, m1), (s2, w2, m2), s3, w3, m3) va pick rs) ∧ List.length rs - y <
 List.length rs - i ∧ ∀ (z : Unit), True → True)) ∧ (decide ((↑i : Int) < (↑(List.length rs) : Int)) = false → ∃ (z : Unit), (kind = kind ∧ va = va ∧ pick = pick ∧ m = m ∧ m1 = m1 ∧ m2 = m2 ∧ m3 = m3 ∧ c0 = c0 ∧ c1 = c1 ∧ c2 = c2 ∧ c3 = c3
 ∧ (0 : Int) = (0 : Int) ∧ (0 : Int) = (0 : Int) ∧ (0 : Int) = (0 : Int) ∧ (0 : Int) = (0 : Int) ∧ Value.slice none (0 : Nat) (0 : Nat) = Value.slice none (0 : Nat) (0 : Nat) ∧ (0 : Int) = (0 : Int) ∧ (0 : Int) = (0 : Int) ∧ Value.slice none
 (0 : Nat) (0 : Nat) = Value.slice none (0 : Nat) (0 : Nat) ∧ (0 : Int) = (0 : Int) ∧ (0 : Int) = (0 : Int) ∧ Value.slice none (0 : Nat) (0 : Nat) = Value.slice none (0 : Nat) (0 : Nat) ∧ (0 : Int) = (0 : Int) ∧ (0 : Int) = (0 : Int) ∧ s1 =
 s1 ∧ w1 = w1 ∧ (0 : Nat) = (0 : Nat) ∧ List.length m1 = List.length m1 ∧ s2 = s2 ∧ w2 = w2 ∧ (0 : Nat) = (0 : Nat) ∧ List.length m2 = List.length m2 ∧ s3 = s3 ∧ w3 = w3 ∧ (0 : Nat) = (0 : Nat) ∧ List.length (keepAll va c3 pick (s3, w3, m3)
 rs).snd.snd = List.length (keepAll va c3 pick (s3, w3, m3) (List.take i rs)).snd.snd ∧ m1 = m1 ∧ m2 = m2 ∧ (keepAll va c3 pick (s3, w3, m3) rs).snd.snd = (keepAll va c3 pick (s3, w3, m3) (List.take i rs)).snd.snd ∧ s1 = s1 ∧ w1 = w1 ∧ (0 :
 Nat) = (0 : Nat) ∧ List.length m1 = List.length m1 ∧ q0 = q0 ∧ q1 = q1 ∧ q2 = q2 ∧ (0 : Nat) = (0 : Nat) ∧ List.length rs = List.length rs ∧ rs = rs) ∧ True)) := by kernel_rfl
theorem vc_spI_eq (m : By) (c0 : Int) (c1 c2 : Bool) (c3 : Int) (s1 w1 : Int) (m1 : Es) (s2 w2 : Int) (m2 : Es) (s3 w3 : Int) (m3 : Es) (kind va pick : Int) (q0 q1 q2 : Int) (rs : Rs) (e pa : Int) (t1 u1 : Int) (n1 : Es) (t2 u2 : Int) (n2 : Es) (t3 u3 : Int) (n3 : Es) : vc_spI m c0 c1 c2 c3 s1 w1 m1 s2 w2 m2 s3 w3 m3 kind va pick q0 q1 q2 rs e pa t1 u1 n1 t2 u2 n2 t3 u3 n3 = (
 (List.length m1 = List.length m1 ∧ List.length m2 = List.length m2 ∧ List.length m3 = List.length m3 ∧ TlR (s1, w1, m1) ∧ TlR (s2, w2, m2) ∧ TlR (s3, w3, m3)) ∧ ((bif bif bif bif bif bif !goodC ((s1, w1, m1), (s2, w2, m2), s3, w3, m3) then
 true else decide (kind < (0 : Int)) then true else decide (kind > (2 : Int)) then true else decide (c0 < (0 : Int)) then true else decide (c0 > (2 : Int)) then true else decide (pick < (0 : Int)) then true else decide (pick > (255 : Int)))
 = true → e = (63 : Int) ∧ pa = (0 : Int) ∧ t1 = (0 : Int) ∧ u1 = (0 : Int) ∧ (0 : Nat) = (0 : Nat) ∧ List.length n1 = (0 : Nat) ∧ t2 = (0 : Int) ∧ u2 = (0 : Int) ∧ (0 : Nat) = (0 : Nat) ∧ List.length n2 = (0 : Nat) ∧ t3 = (0 : Int) ∧ u3 =
 (0 : Int) ∧ (0 : Nat) = (0 : Nat) ∧ List.length n3 = (0 : Nat) ∧ m = m ∧ m1 = m1 ∧ m2 = m2 ∧ m3 = m3 ∧ n1 = [] ∧ n2 = [] ∧ n3 = []) ∧ ((bif bif bif bif bif bif !goodC ((s1, w1, m1), (s2, w2, m2), s3, w3, m3) then true else decide (kind < (0
 : Int)) then true else decide (kind > (2 : Int)) then true else decide (c0 < (0 : Int)) then true else decide (c0 > (2 : Int)) then true else decide (pick < (0 : Int)) then true else decide (pick > (255 : Int))) = false → (List.length m1 =
 List.length m1 ∧ List.length m2 = List.length m2 ∧ List.length m3 = List.length m3 ∧ SzR (List.length m1) ∧ SzR (List.length m2) ∧ SzR (List.length m3)) ∧ U64 c3 ∧ ((!onM (c0, c1, c2, c3)) = true → e = (0 : Int) ∧ pa = va ∧ t1 = s1 ∧ u1 =
 w1 ∧ (0 : Nat) = (0 : Nat) ∧ List.length n1 = List.length m1 ∧ t2 = s2 ∧ u2 = w2 ∧ (0 : Nat) = (0 : Nat) ∧ List.length n2 = List.length m2 ∧ t3 = s3 ∧ u3 = w3 ∧ (0 : Nat) = (0 : Nat) ∧ List.length n3 = List.length m3 ∧ m = m ∧ m1 = m1 ∧ m2
 = m2 ∧ m3 = m3 ∧ n1 = m1 ∧ n2 = m2 ∧ n3 = m3) ∧ ((!onM (c0, c1, c2, c3)) = false → U64 va ∧ ((!canM va) = true → e = pfM kind ∧ pa = (0 : Int) ∧ t1 = s1 ∧ u1 = w1 ∧ (0 : Nat) = (0 : Nat) ∧ List.length n1 = List.length m1 ∧ t2 = s2 ∧ u2 = w2
 ∧ (0 : Nat) = (0 : Nat) ∧ List.length n2 = List.length m2 ∧ t3 = s3 ∧ u3 = w3 ∧ (0 : Nat) = (0 : Nat) ∧ List.length n3 = List.length m3 ∧ m = m ∧ m1 = m1 ∧ m2 = m2 ∧ m3 = m3 ∧ n1 = m1 ∧ n2 = m2 ∧ n3 = m3) ∧ ((!canM va) = false → (kind == (0
 : Int)) = true ∧ U64 c3 ∧ (List.length m1 = List.length m1 ∧ TlR (s1, w1, m1) ∧ U64 va) ∧ ∃ (z : Bool × Int × Int × Int), ((0 : Nat) = (0 : Nat) ∧ List.length m = List.length m ∧ kind = kind ∧ va = va ∧ pick = pick ∧ m = m ∧ m1 = m1 ∧ m2 =
 m2 ∧ m3 = m3 ∧ c0 = c0 ∧ c1 = c1 ∧ c2 = c2 ∧ c3 = c3 ∧ s1 = s1 ∧ w1 = w1 ∧ (0 : Nat) = (0 : Nat) ∧ List.length m1 = List.length m1 ∧ s2 = s2 ∧ w2 = w2 ∧ (0 : Nat) = (0 : Nat) ∧ List.length m2 = List.length m2 ∧ s3 = s3 ∧ w3 = w3 ∧ (0 : Nat)
 = (0 : Nat) ∧ List.length m3 = List.length m3 ∧ (0 : Int) = (0 : Int) ∧ (0 : Int) = (0 : Int) ∧ (0 : Int) = (0 : Int) ∧ (0 : Int) = (0 : Int) ∧ Value.slice none (0 : Nat) (0 : Nat) = Value.slice none (0 : Nat) (0 : Nat) ∧ (0 : Int) = (0 :
 Int) ∧ (0 : Int) = (0 : Int) ∧ Value.slice none (0 : Nat) (0 : Nat) = Value.slice none (0 : Nat) (0 : Nat) ∧ (0 : Int) = (0 : Int) ∧ (0 : Int) = (0 : Int) ∧ Value.slice none (0 : Nat) (0 : Nat) = Value.slice none (0 : Nat) (0 : Nat) ∧ (0 :
 Int) = (0 : Int) ∧ (0 : Int) = (0 : Int) ∧ s1 = s1 ∧ w1 = w1 ∧ (0 : Nat) = (0 : Nat) ∧ List.length m1 = List.length m1 ∧ s2 = s2 ∧ w2 = w2 ∧ (0 : Nat) = (0 : Nat) ∧ List.length m2 = List.length m2 ∧ s3 = s3 ∧ w3 = w3 ∧ (0 : Nat) = (0 : Nat)
 ∧ List.length m3 = List.length m3 ∧ m1 = m1 ∧ m2 = m2 ∧ m3 = m3 ∧ s1 = s1 ∧ w1 = w1 ∧ (0 : Nat) = (0 : Nat) ∧ List.length m1 = List.length m1 ∧ z.fst = (lookM (s1, w1, m1) va (asidM c3)).fst ∧ z.snd.fst = (lookM (s1, w1, m1) va (asidM
 c3)).snd.fst ∧ z.snd.snd.fst = (lookM (s1, w1, m1) va (asidM c3)).snd.snd.fst ∧ z.snd.snd.snd = (lookM (s1, w1, m1) va (asidM c3)).snd.snd.snd) ∧ (z.fst = true → (U64 z.snd.snd.snd ∧ U64 va) ∧ e = (leafM z.snd.snd.snd z.snd.snd.fst (c0, c1,
 c2, c3) kind va).fst ∧ pa = (leafM z.snd.snd.snd z.snd.snd.fst (c0, c1, c2, c3) kind va).snd ∧ t1 = s1 ∧ u1 = w1 ∧ (0 : Nat) = (0 : Nat) ∧ List.length n1 = List.length m1 ∧ t2 = s2 ∧ u2 = w2 ∧ (0 : Nat) = (0 : Nat) ∧ List.length n2 =
 List.length m2 ∧ t3 = s3 ∧ u3 = w3 ∧ (0 : Nat) = (0 : Nat) ∧ List.length n3 = List.length m3 ∧ m = m ∧ m1 = m1 ∧ m2 = m2 ∧ m3 = m3 ∧ n1 = m1 ∧ n2 = m2 ∧ n3 = m3) ∧ (z.fst = false → (List.length m = List.length m ∧ ByteR m ∧ U64 c3 ∧ U64 va)
 ∧ U64 c3 ∧ (List.length m3 = List.length m3 ∧ TlR (s3, w3, m3) ∧ U64 va) ∧ ∃ (z : Wr × Hi), ((0 : Nat) = (0 : Nat) ∧ List.length m = List.length m ∧ kind = kind ∧ va = va ∧ pick = pick ∧ m = m ∧ m1 = m1 ∧ m2 = m2 ∧ m3 = m3 ∧ c0 = c0 ∧ c1 =
 c1 ∧ c2 = c2 ∧ c3 = c3 ∧ (0 : Int) = (0 : Int) ∧ (0 : Int) = (0 : Int) ∧ (0 : Int) = (0 : Int) ∧ (0 : Int) = (0 : Int) ∧ Value.slice none (0 : Nat) (0 : Nat) = Value.slice none (0 : Nat) (0 : Nat) ∧ (0 : Int) = (0 : Int) ∧ (0 : Int) = (0 :
 Int) ∧ Value.slice none (0 : Nat) (0 : Nat) = Value.slice none (0 : Nat) (0 : Nat) ∧ (0 : Int) = (0 : Int) ∧ (0 : Int) = (0 : Int) ∧ Value.slice none (0 : Nat) (0 : Nat) = Value.slice none (0 : Nat) (0 : Nat) ∧ (0 : Int) = (0 : Int) ∧ (0 :
 Int) = (0 : Int) ∧ s1 = s1 ∧ w1 = w1 ∧ (0 : Nat) = (0 : Nat) ∧ List.length m1 = List.length m1 ∧ s2 = s2 ∧ w2 = w2 ∧ (0 : Nat) = (0 : Nat) ∧ List.length m2 = List.length m2 ∧ s3 = s3 ∧ w3 = w3 ∧ (0 : Nat) = (0 : Nat) ∧ List.length m3 =
 List.length m3 ∧ m1 = m1 ∧ m2 = m2 ∧ m3 = m3 ∧ s1 = s1 ∧ w1 = w1 ∧ (0 : Nat) = (0 : Nat) ∧ List.length m1 = List.length m1 ∧ z.fst.fst = (walkM m c3 va).fst ∧ z.fst.snd.fst = (walkM m c3 va).snd.fst ∧ z.fst.snd.snd.fst = (walkM m c3
 va).snd.snd.fst ∧ (0 : Nat) = (0 : Nat) ∧ List.length z.fst.snd.snd.snd = List.length (walkM m c3 va).snd.snd.snd ∧ z.fst.snd.snd.snd = (walkM m c3 va).snd.snd.snd ∧ z.snd.fst = (lookM (s3, w3, m3) va (asidM c3)).fst ∧ z.snd.snd.fst =
 (lookM (s3, w3, m3) va (asidM c3)).snd.fst ∧ z.snd.snd.snd.fst = (lookM (s3, w3, m3) va (asidM c3)).snd.snd.fst ∧ z.snd.snd.snd.snd = (lookM (s3, w3, m3) va (asidM c3)).snd.snd.snd) ∧ (z.snd.fst = true → U64 z.snd.snd.snd.snd ∧ (List.length
 m = List.length m ∧ FromR m (ppnM z.snd.snd.snd.snd) (IntKind.i64.wrap (z.snd.snd.snd.fst - (1 : Int))) va) ∧ ∃ (x : Nat), (kind = kind ∧ va = va ∧ pick = pick ∧ (↑x : Int) = (0 : Int) ∧ m = m ∧ m1 = m1 ∧ m2 = m2 ∧ m3 = m3 ∧ c0 = c0 ∧ c1 =
 c1 ∧ c2 = c2 ∧ c3 = c3 ∧ (0 : Int) = (0 : Int) ∧ (0 : Int) = (0 : Int) ∧ (0 : Int) = (0 : Int) ∧ (0 : Int) = (0 : Int) ∧ Value.slice none (0 : Nat) (0 : Nat) = Value.slice none (0 : Nat) (0 : Nat) ∧ (0 : Int) = (0 : Int) ∧ (0 : Int) = (0 :
 Int) ∧ Value.slice none (0 : Nat) (0 : Nat) = Value.slice none (0 : Nat) (0 : Nat) ∧ (0 : Int) = (0 : Int) ∧ (0 : Int) = (0 : Int) ∧ Value.slice none (0 : Nat) (0 : Nat) = Value.slice none (0 : Nat) (0 : Nat) ∧ (0 : Int) = (0 : Int) ∧ (0 :
 Int) = (0 : Int) ∧ s1 = s1 ∧ w1 = w1 ∧ (0 : Nat) = (0 : Nat) ∧ List.length m1 = List.length m1 ∧ s2 = s2 ∧ w2 = w2 ∧ (0 : Nat) = (0 : Nat) ∧ List.length m2 = List.length m2 ∧ s3 = s3 ∧ w3 = w3 ∧ (0 : Nat) = (0 : Nat) ∧ List.length (keepAll
 va c3 pick (s3, w3, m3) (List.take x rs)).snd.snd = List.length m3 ∧ m1 = m1 ∧ m2 = m2 ∧ (keepAll va c3 pick (s3, w3, m3) (List.take x rs)).snd.snd = m3 ∧ s1 = s1 ∧ w1 = w1 ∧ (0 : Nat) = (0 : Nat) ∧ List.length m1 = List.length m1 ∧ q0 =
 (walkN m va ((IntKind.i64.wrap (z.snd.snd.snd.fst - (1 : Int))).toNat + (1 : Nat)) (ppnM z.snd.snd.snd.snd)).fst ∧ q1 = (walkN m va ((IntKind.i64.wrap (z.snd.snd.snd.fst - (1 : Int))).toNat + (1 : Nat)) (ppnM z.snd.snd.snd.snd)).snd.fst ∧
 q2 = (walkN m va ((IntKind.i64.wrap (z.snd.snd.snd.fst - (1 : Int))).toNat + (1 : Nat)) (ppnM z.snd.snd.snd.snd)).snd.snd.fst ∧ (0 : Nat) = (0 : Nat) ∧ List.length rs = List.length (walkN m va ((IntKind.i64.wrap (z.snd.snd.snd.fst - (1 :
 Int))).toNat + (1 : Nat)) (ppnM z.snd.snd.snd.snd)).snd.snd.snd ∧ rs = (walkN m va ((IntKind.i64.wrap (z.snd.snd.snd.fst - (1 : Int))).toNat + (1 : Nat)) (ppnM z.snd.snd.snd.snd)).snd.snd.snd) ∧ (x ≤ List.length rs ∧ RecR (c0, c1, c2, c3)
 ((s1, w1, m1), (s2, w2, m2), s3, w3, m3) va pick rs) ∧ ∀ (z : Unit), True → (List.length rs = List.length rs ∧ (q0 ≠ (2 : (Cs.i IntKind.i64).T) → q0 ≠ (3 : (Cs.i IntKind.i64).T) → U64 q2) ∧ U64 va) ∧ ∃ (z : Int × Int), (kind = kind ∧ va =
 va ∧ pick = pick ∧ m = m ∧ m1 = m1 ∧ m2 = m2 ∧ m3 = m3 ∧ c0 = c0 ∧ c1 = c1 ∧ c2 = c2 ∧ c3 = c3 ∧ (0 : Int) = (0 : Int) ∧ (0 : Int) = (0 : Int) ∧ (0 : Int) = (0 : Int) ∧ (0 : Int) = (0 : Int) ∧ Value.slice none (0 : Nat) (0 : Nat) =
 Value.slice none (0 : Nat) (0 : Nat) ∧ (0 : Int) = (0 : Int) ∧ (0 : Int) = (0 : Int) ∧ Value.slice none (0 : Nat) (0 : Nat) = Value.slice none (0 : Nat) (0 : Nat) ∧ (0 : Int) = (0 : Int) ∧ (0 : Int) = (0 : Int) ∧ Value.slice none (0 : Nat)
 (0 : Nat) = Value.slice none (0 : Nat) (0 : Nat) ∧ (0 : Int) = (0 : Int) ∧ (0 : Int) = (0 : Int) ∧ s1 = s1 ∧ w1 = w1 ∧ (0 : Nat) = (0 : Nat) ∧ List.length m1 = List.length m1 ∧ s2 = s2 ∧ w2 = w2 ∧ (0 : Nat) = (0 : Nat) ∧ List.length m2 =
 List.length m2 ∧ s3 = s3 ∧ w3 = w3 ∧ (0 : Nat) = (0 : Nat) ∧ List.length (keepAll va c3 pick (s3, w3, m3) rs).snd.snd = List.length (keepAll va c3 pick (s3, w3, m3) rs).snd.snd ∧ m1 = m1 ∧ m2 = m2 ∧ (keepAll va c3 pick (s3, w3, m3)
 rs).snd.snd = (keepAll va c3 pick (s3, w3, m3) rs).snd.snd ∧ s1 = s1 ∧ w1 = w1 ∧ (0 : Nat) = (0 : Nat) ∧ List.length m1 = List.length m1 ∧ q0 = q0 ∧ q1 = q1 ∧ q2 = q2 ∧ (0 : Nat) = (0 : Nat) ∧ List.length rs = List.length rs ∧ rs = rs ∧
 z.fst = (answerM (q0, q1, q2, rs) (c0, c1, c2, c3) kind va).fst ∧ z.snd = (answerM (q0, q1, q2, rs) (c0, c1, c2, c3) kind va).snd) ∧ ((z.fst == (0 : Int)) = true → (LvR q1 ∧ U64 va ∧ U64 c3 ∧ U64 q2) ∧ (List.length m1 = List.length m1 ∧ TlR
 (s1, w1, m1) ∧ EnR ((entM q1 va c3 q2).fst, (entM q1 va c3 q2).snd.fst, (entM q1 va c3 q2).snd.snd.fst, (entM q1 va c3 q2).snd.snd.snd.fst, (entM q1 va c3 q2).snd.snd.snd.snd.fst, (entM q1 va c3 q2).snd.snd.snd.snd.snd)) ∧ ((kind == (0 :
 Int)) = true → e = z.fst ∧ pa = z.snd ∧ t1 = (insertM (s1, w1, m1) ((entM q1 va c3 q2).fst, (entM q1 va c3 q2).snd.fst, (entM q1 va c3 q2).snd.snd.fst, (entM q1 va c3 q2).snd.snd.snd.fst, (entM q1 va c3 q2).snd.snd.snd.snd.fst, (entM q1 va
 c3 q2).snd.snd.snd.snd.snd) pick).fst ∧ u1 = (insertM (s1, w1, m1) ((entM q1 va c3 q2).fst, (entM q1 va c3 q2).snd.fst, (entM q1 va c3 q2).snd.snd.fst, (entM q1 va c3 q2).snd.snd.snd.fst, (entM q1 va c3 q2).snd.snd.snd.snd.fst, (entM q1 va
 c3 q2).snd.snd.snd.snd.snd) pick).snd.fst ∧ (0 : Nat) = (0 : Nat) ∧ List.length n1 = List.length (insertM (s1, w1, m1) ((entM q1 va c3 q2).fst, (entM q1 va c3 q2).snd.fst, (entM q1 va c3 q2).snd.snd.fst, (entM q1 va c3 q2).snd.snd.snd.fst,
 (entM q1 va c3 q2).snd.snd.snd.snd.fst, (entM q1 va c3 q2).snd.snd.snd.snd.snd) pick).snd.snd ∧ t2 = s2 ∧ u2 = w2 ∧ (0 : Nat) = (0 : Nat) ∧ List.length n2 = List.length m2 ∧ t3 = s3 ∧ u3 = w3 ∧ (0 : Nat) = (0 : Nat) ∧ List.length n3 =
 List.length (keepAll va c3 pick (s3, w3, m3) rs).snd.snd ∧ m = m ∧ m1 = m1 ∧ m2 = m2 ∧ m3 = m3 ∧ n1 = (insertM (s1, w1, m1) ((entM q1 va c3 q2).fst, (entM q1 va c3 q2).snd.fst, (entM q1 va c3 q2).snd.snd.fst, (entM q1 va c3
 q2).snd.snd.snd.fst, (entM q1 va c3 q2).snd.snd.snd.snd.fst, (entM q1 va c3 q2).snd.snd.snd.snd.snd) pick).snd.snd ∧ n2 = m2 ∧ n3 = (keepAll va c3 pick (s3, w3, m3) rs).snd.snd) ∧ ((kind == (0 : Int)) = false → e = z.fst ∧ pa = z.snd ∧ t1 =
 s1 ∧ u1 = w1 ∧ (0 : Nat) = (0 : Nat) ∧ List.length n1 = List.length m1 ∧ t2 = (insertM (s1, w1, m1) ((entM q1 va c3 q2).fst, (entM q1 va c3 q2).snd.fst, (entM q1 va c3 q2).snd.snd.fst, (entM q1 va c3 q2).snd.snd.snd.fst, (entM q1 va c3
 q2).snd.snd.snd.snd.fst, (entM q1 va c3 q2).snd.snd.snd.snd.snd) pick).fst ∧ u2 = (insertM (s1, w1, m1) ((entM q1 va c3 q2).fst, (entM q1 va c3 q2).snd.fst, (entM q1 va c3 q2).snd.snd.fst, (entM q1 va c3 q2).snd.snd.snd.fst, (entM q1 va c3
 q2).snd.snd.snd.snd.fst, (entM q1 va c3 q2).snd.snd.snd.snd.snd) pick).snd.fst ∧ (0 : Nat) = (0 : Nat) ∧ List.length n2 = List.length (insertM (s1, w1, m1) ((entM q1 va c3 q2).fst, (entM q1 va c3 q2).snd.fst, (entM q1 va c3 q2).snd.snd.fst,
 (entM q1 va c3 q2).snd.snd.snd.fst, (entM q1 va c3 q2).snd.snd.snd.snd.fst, (entM q1 va c3 q2).snd.snd.snd.snd.snd) pick).snd.snd ∧ t3 = s3 ∧ u3 = w3 ∧ (0 : Nat) = (0 : Nat) ∧ List.length n3 = List.length (keepAll va c3 pick (s3, w3, m3)
 rs).snd.snd ∧ m = m ∧ m1 = m1 ∧ m2 = m2 ∧ m3 = m3 ∧ n1 = m1 ∧ n2 = (insertM (s1, w1, m1) ((entM q1 va c3 q2).fst, (entM q1 va c3 q2).snd.fst, (entM q1 va c3 q2).snd.snd.fst, (entM q1 va c3 q2).snd.snd.snd.fst, (entM q1 va c3
 q2).snd.snd.snd.snd.fst, (entM q1 va c3 q2).snd.snd.snd.snd.snd) pick).snd.snd ∧ n3 = (keepAll va c3 pick (s3, w3, m3) rs).snd.snd)) ∧ ((z.fst == (0 : Int)) = false → e = z.fst ∧ pa = z.snd ∧ t1 = s1 ∧ u1 = w1 ∧ (0 : Nat) = (0 : Nat) ∧
 List.length n1 = List.length m1 ∧ t2 = s2 ∧ u2 = w2 ∧ (0 : Nat) = (0 : Nat) ∧ List.length n2 = List.length m2 ∧ t3 = s3 ∧ u3 = w3 ∧ (0 : Nat) = (0 : Nat) ∧ List.length n3 = List.length (keepAll va c3 pick (s3, w3, m3) rs).snd.snd ∧ m = m ∧
 m1 = m1 ∧ m2 = m2 ∧ m3 = m3 ∧ n1 = m1 ∧ n2 = m2 ∧ n3 = (keepAll va c3 pick (s3, w3, m3) rs).snd.snd)) ∧ (z.snd.fst = false → ∃ (x : Nat), (kind = kind ∧ va = va ∧ pick = pick ∧ (↑x : Int) = (0 : Int) ∧ m = m ∧ m1 = m1 ∧ m2 = m2 ∧ m3 = m3 ∧
 c0 = c0 ∧ c1 = c1 ∧ c2 = c2 ∧ c3 = c3 ∧ (0 : Int) = (0 : Int) ∧ (0 : Int) = (0 : Int) ∧ (0 : Int) = (0 : Int) ∧ (0 : Int) = (0 : Int) ∧ Value.slice none (0 : Nat) (0 : Nat) = Value.slice none (0 : Nat) (0 : Nat) ∧ (0 : Int) = (0 : Int) ∧ (0
 : Int) = (0 : Int) ∧ Value.slice none (0 : Nat) (0 : Nat) = Value.slice none (0 : Nat) (0 : Nat) ∧ (0 : Int) = (0 : Int) ∧ (0 : Int) = (0 : Int) ∧ Value.slice none (0 : Nat) (0 : Nat) = Value.slice none (0 : Nat) (0 : Nat) ∧ (0 : Int) = (0
 : Int) ∧ (0 : Int) = (0 : Int) ∧ s1 = s1 ∧ w1 = w1 ∧ (0 : Nat) = (0 : Nat) ∧ List.length m1 = List.length m1 ∧ s2 = s2 ∧ w2 = w2 ∧ (0 : Nat) = (0 : Nat) ∧ List.length m2 = List.length m2 ∧ s3 = s3 ∧ w3 = w3 ∧ (0 : Nat) = (0 : Nat) ∧
 List.length (keepAll va c3 pick (s3, w3, m3) (List.take x rs)).snd.snd = List.length m3 ∧ m1 = m1 ∧ m2 = m2 ∧ (keepAll va c3 pick (s3, w3, m3) (List.take x rs)).snd.snd = m3 ∧ s1 = s1 ∧ w1 = w1 ∧ (0 : Nat) = (0 : Nat) ∧ List.length m1 =
 List.length m1 ∧ q0 = z.fst.fst ∧ q1 = z.fst.snd.fst ∧ q2 = z.fst.snd.snd.fst ∧ (0 : Nat) = (0 : Nat) ∧ List.length rs = List.length z.fst.snd.snd.snd ∧ rs = z.fst.snd.snd.snd) ∧ (x ≤ List.length rs ∧ RecR (c0, c1, c2, c3) ((s1, w1, m1),
 (s2, w2, m2), s3, w3, m3) va pick rs) ∧ ∀ (z : Unit), True → (List.length rs = List.length rs ∧ (q0 ≠ (2 : (Cs.i IntKind.i64).T) → q0 ≠ (3 : (Cs.i IntKind.i64).T) → U64 q2) ∧ U64 va) ∧ ∃ (z : Int × Int), (kind = kind ∧ va = va ∧ pick =
 pick ∧ m = m ∧ m1 = m1 ∧ m2 = m2 ∧ m3 = m3 ∧ c0 = c0 ∧ c1 = c1 ∧ c2 = c2 ∧ c3 = c3 ∧ (0 : Int) = (0 : Int) ∧ (0 : Int) = (0 : Int) ∧ (0 : Int) = (0 : Int) ∧ (0 : Int) = (0 : Int) ∧ Value.slice none (0 : Nat) (0 : Nat) = Value.slice none (0
 : Nat) (0 : Nat) ∧ (0 : Int) = (0 : Int) ∧ (0 : Int) = (0 : Int) ∧ Value.slice none (0 : Nat) (0 : Nat) = Value.slice none (0 : Nat) (0 : Nat) ∧ (0 : Int) = (0 : Int) ∧ (0 : Int) = (0 : Int) ∧ Value.slice none (0 : Nat) (0 : Nat) =
 Value.slice none (0 : Nat) (0 : Nat) ∧ (0 : Int) = (0 : Int) ∧ (0 : Int) = (0 : Int) ∧ s1 = s1 ∧ w1 = w1 ∧ (0 : Nat) = (0 : Nat) ∧ List.length m1 = List.length m1 ∧ s2 = s2 ∧ w2 = w2 ∧ (0 : Nat) = (0 : Nat) ∧ List.length m2 = List.length m2
 ∧ s3 = s3 ∧ w3 = w3 ∧ (0 : Nat) = (0 : Nat) ∧ List.length (keepAll va c3 pick (s3, w3, m3) rs).snd.snd = List.length (keepAll va c3 pick (s3, w3, m3) rs).snd.snd ∧ m1 = m1 ∧ m2 = m2 ∧ (keepAll va c3 pick (s3, w3, m3) rs).snd.snd = (keepAll
 va c3 pick (s3, w3, m3) rs).snd.snd ∧ s1 = s1 ∧ w1 = w1 ∧ (0 : Nat) = (0 : Nat) ∧ List.length m1 = List.length m1 ∧ q0 = q0 ∧ q1 = q1 ∧ q2 = q2 ∧ (0 : Nat) = (0 : Nat) ∧ List.length rs = List.length rs ∧ rs = rs ∧ z.fst = (answerM (q0, q1,
 q2, rs) (c0, c1, c2, c3) kind va).fst ∧ z.snd = (answerM (q0, q1, q2, rs) (c0, c1, c2, c3) kind va).snd) ∧ ((z.fst == (0 : Int)) = true → (LvR q1 ∧ U64 va ∧ U64 c3 ∧ U64 q2) ∧ (List.length m1 = List.length m1 ∧ TlR (s1, w1, m1) ∧ EnR ((entM
 q1 va c3 q2).fst, (entM q1 va c3 q2).snd.fst, (entM q1 va c3 q2).snd.snd.fst, (entM q1 va c3 q2).snd.snd.snd.fst, (entM q1 va c3 q2).snd.snd.snd.snd.fst, (entM q1 va c3 q2).snd.snd.snd.snd.snd)) ∧ ((kind == (0 : Int)) = true → e = z.fst ∧
 pa = z.snd ∧ t1 = (insertM (s1, w1, m1) ((entM q1 va c3 q2).fst, (entM q1 va c3 q2).snd.fst, (entM q1 va c3 q2).snd.snd.fst, (entM q1 va c3 q2).snd.snd.snd.fst, (entM q1 va c3 q2).snd.snd.snd.snd.fst, (entM q1 va c3 q2).snd.snd.snd.snd.snd)
 pick).fst ∧ u1 = (insertM (s1, w1, m1) ((entM q1 va c3 q2).fst, (entM q1 va c3 q2).snd.fst, (entM q1 va c3 q2).snd.snd.fst, (entM q1 va c3 q2).snd.snd.snd.fst, (entM q1 va c3 q2).snd.snd.snd.snd.fst, (entM q1 va c3 q2).snd.snd.snd.snd.snd)
 pick).snd.fst ∧ (0 : Nat) = (0 : Nat) ∧ List.length n1 = List.length (insertM (s1, w1, m1) ((entM q1 va c3 q2).fst, (entM q1 va c3 q2).snd.fst, (entM q1 va c3 q2).snd.snd.fst, (entM q1 va c3 q2).snd.snd.snd.fst, (entM q1 va c3
 q2).snd.snd.snd.snd.fst, (entM q1 va c3 q2).snd.snd.snd.snd.snd) pick).snd.snd ∧ t2 = s2 ∧ u2 = w2 ∧ (0 : Nat) = (0 : Nat) ∧ List.length n2 = List.length m2 ∧ t3 = s3 ∧ u3 = w3 ∧ (0 : Nat) = (0 : Nat) ∧ List.length n3 = List.length (keepAll
 va c3 pick (s3, w3, m3) rs).snd.snd ∧ m = m ∧ m1 = m1 ∧ m2 = m2 ∧ m3 = m3 ∧ n1 = (insertM (s1, w1, m1) ((entM q1 va c3 q2).fst, (entM q1 va c3 q2).snd.fst, (entM q1 va c3 q2).snd.snd.fst, (entM q1 va c3 q2).snd.snd.snd.fst, (entM q1 va c3
 q2).snd.snd.snd.snd.fst, (entM q1 va c3 q2).snd.snd.snd.snd.snd) pick).snd.snd ∧ n2 = m2 ∧ n3 = (keepAll va c3 pick (s3, w3, m3) rs).snd.snd) ∧ ((kind == (0 : Int)) = false → e = z.fst ∧ pa = z.snd ∧ t1 = s1 ∧ u1 = w1 ∧ (0 : Nat) = (0 :
 Nat) ∧ List.length n1 = List.length m1 ∧ t2 = (insertM (s1, w1, m1) ((entM q1 va c3 q2).fst, (entM q1 va c3 q2).snd.fst, (entM q1 va c3 q2).snd.snd.fst, (entM q1 va c3 q2).snd.snd.snd.fst, (entM q1 va c3 q2).snd.snd.snd.snd.fst, (entM q1 va
 c3 q2).snd.snd.snd.snd.snd) pick).fst ∧ u2 = (insertM (s1, w1, m1) ((entM q1 va c3 q2).fst, (entM q1 va c3 q2).snd.fst, (entM q1 va c3 q2).snd.snd.fst, (entM q1 va c3 q2).snd.snd.snd.fst, (entM q1 va c3 q2).snd.snd.snd.snd.fst, (entM q1 va
 c3 q2).snd.snd.snd.snd.snd) pick).snd.fst ∧ (0 : Nat) = (0 : Nat) ∧ List.length n2 = List.length (insertM (s1, w1, m1) ((entM q1 va c3 q2).fst, (entM q1 va c3 q2).snd.fst, (entM q1 va c3 q2).snd.snd.fst, (entM q1 va c3 q2).snd.snd.snd.fst,
 (entM q1 va c3 q2).snd.snd.snd.snd.fst, (entM q1 va c3 q2).snd.snd.snd.snd.snd) pick).snd.snd ∧ t3 = s3 ∧ u3 = w3 ∧ (0 : Nat) = (0 : Nat) ∧ List.length n3 = List.length (keepAll va c3 pick (s3, w3, m3) rs).snd.snd ∧ m = m ∧ m1 = m1 ∧ m2 =
 m2 ∧ m3 = m3 ∧ n1 = m1 ∧ n2 = (insertM (s1, w1, m1) ((entM q1 va c3 q2).fst, (entM q1 va c3 q2).snd.fst, (entM q1 va c3 q2).snd.snd.fst, (entM q1 va c3 q2).snd.snd.snd.fst, (entM q1 va c3 q2).snd.snd.snd.snd.fst, (entM q1 va c3
 q2).snd.snd.snd.snd.snd) pick).snd.snd ∧ n3 = (keepAll va c3 pick (s3, w3, m3) rs).snd.snd)) ∧ ((z.fst == (0 : Int)) = false → e = z.fst ∧ pa = z.snd ∧ t1 = s1 ∧ u1 = w1 ∧ (0 : Nat) = (0 : Nat) ∧ List.length n1 = List.length m1 ∧ t2 = s2 ∧
 u2 = w2 ∧ (0 : Nat) = (0 : Nat) ∧ List.length n2 = List.length m2 ∧ t3 = s3 ∧ u3 = w3 ∧ (0 : Nat) = (0 : Nat) ∧ List.length n3 = List.length (keepAll va c3 pick (s3, w3, m3) rs).snd.snd ∧ m = m ∧ m1 = m1 ∧ m2 = m2 ∧ m3 = m3 ∧ n1 = m1 ∧ n2 =
 m2 ∧ n3 = (keepAll va c3 pick (s3, w3, m3) rs).snd.snd))))))) := by kernel_rfl
theorem vc_spD_r_eq (m : By) (c0 : Int) (c1 c2 : Bool) (c3 : Int) (s1 w1 : Int) (m1 : Es) (s2 w2 : Int) (m2 : Es) (s3 w3 : Int) (m3 : Es) (kind va pick : Int) (q0 q1 q2 : Int) (rs : Rs) (i : Nat) : vc_spD_r m c0 c1 c2 c3 s1 w1 m1 s2 w2 m2 s3 w3 m3 kind va pick q0 q1 q2 rs i = (
 (decide ((↑i : Int) < (↑(List.length rs) : Int)) = true → ((0 : Int) ≤ (↑i : Int) ∧ (↑i : Int) < (↑(List.length rs) : Int)) ∧ (0 : Nat) + (↑i : Int).toNat < List.length rs ∧ ((0 : Int) ≤ (↑i : Int) ∧ (↑i : Int) < (↑(List.length rs) : Int))
 ∧ (0 : Nat) + (↑i : Int).toNat < List.length rs ∧ U64 (List.getD rs ((0 : Nat) + (↑i : Int).toNat) (El.zero shR)).snd.snd ∧ ((kindM (List.getD rs ((0 : Nat) + (↑i : Int).toNat) (El.zero shR)).snd.snd (List.getD rs ((0 : Nat) + (↑i :
 Int).toNat) (El.zero shR)).fst == (1 : Int)) = true → ((0 : Int) ≤ (↑i : Int) ∧ (↑i : Int) < (↑(List.length rs) : Int)) ∧ (0 : Nat) + (↑i : Int).toNat < List.length rs ∧ ((0 : Int) ≤ (↑i : Int) ∧ (↑i : Int) < (↑(List.length rs) : Int)) ∧ (0
 : Nat) + (↑i : Int).toNat < List.length rs ∧ (LvR (List.getD rs ((0 : Nat) + (↑i : Int).toNat) (El.zero shR)).fst ∧ U64 va ∧ U64 c3 ∧ U64 (List.getD rs ((0 : Nat) + (↑i : Int).toNat) (El.zero shR)).snd.snd) ∧ (List.length (keepAll va c3
 pick (s3, w3, m3) (List.take i rs)).snd.snd = List.length (keepAll va c3 pick (s3, w3, m3) (List.take i rs)).snd.snd ∧ TlR (s3, w3, (keepAll va c3 pick (s3, w3, m3) (List.take i rs)).snd.snd) ∧ EnR ((entM (List.getD rs ((0 : Nat) + (↑i :
 Int).toNat) (El.zero shR)).fst va c3 (List.getD rs ((0 : Nat) + (↑i : Int).toNat) (El.zero shR)).snd.snd).fst, (entM (List.getD rs ((0 : Nat) + (↑i : Int).toNat) (El.zero shR)).fst va c3 (List.getD rs ((0 : Nat) + (↑i : Int).toNat) (El.zero
 shR)).snd.snd).snd.fst, (entM (List.getD rs ((0 : Nat) + (↑i : Int).toNat) (El.zero shR)).fst va c3 (List.getD rs ((0 : Nat) + (↑i : Int).toNat) (El.zero shR)).snd.snd).snd.snd.fst, (entM (List.getD rs ((0 : Nat) + (↑i : Int).toNat)
 (El.zero shR)).fst va c3 (List.getD rs ((0 : Nat) + (↑i : Int).toNat) (El.zero shR)).snd.snd).snd.snd.snd.fst, (entM (List.getD rs ((0 : Nat) + (↑i : Int).toNat) (El.zero shR)).fst va c3 (List.getD rs ((0 : Nat) + (↑i : Int).toNat) (El.zero
 shR)).snd.snd).snd.snd.snd.snd.fst, (entM (List.getD rs ((0 : Nat) + (↑i : Int).toNat) (El.zero shR)).fst va c3 (List.getD rs ((0 : Nat) + (↑i : Int).toNat) (El.zero shR)).snd.snd).snd.snd.snd.snd.snd)) ∧ ∃ (y : Nat), (kind = kind ∧ va = va
 ∧ pick = pick ∧ (↑y : Int) = IntKind.i64.wrap ((↑i : Int) + (1 : Int)) ∧ m = m ∧ m1 = m1 ∧ m2 = m2 ∧ m3 = m3 ∧ c0 = c0 ∧ c1 = c1 ∧ c2 = c2 ∧ c3 = c3 ∧ (0 : Int) = (0 : Int) ∧ (0 : Int) = (0 : Int) ∧ (0 : Int) = (0 : Int) ∧ (0 : Int) = (0 :
 Int) ∧ Value.slice none (0 : Nat) (0 : Nat) = Value.slice none (0 : Nat) (0 : Nat) ∧ (0 : Int) = (0 : Int) ∧ (0 : Int) = (0 : Int) ∧ Value.slice none (0 : Nat) (0 : Nat) = Value.slice none (0 : Nat) (0 : Nat) ∧ (0 : Int) = (0 : Int) ∧ (0 :
 Int) = (0 : Int) ∧ Value.slice none (0 : Nat) (0 : Nat) = Value.slice none (0 : Nat) (0 : Nat) ∧ (0 : Int) = (0 : Int) ∧ (0 : Int) = (0 : Int) ∧ s1 = s1 ∧ w1 = w1 ∧ (0 : Nat) = (0 : Nat) ∧ List.length m1 = List.length m1 ∧ s2 = s2 ∧ w2 = w2
 ∧ (0 : Nat) = (0 : Nat) ∧ List.length m2 = List.length m2 ∧ s3 = (insertM (s3, w3, (keepAll va c3 pick (s3, w3, m3) (List.take i rs)).snd.snd) ((entM (List.getD rs ((0 : Nat) + (↑i : Int).toNat) (El.zero shR)).fst va c3 (List.getD rs ((0 :
 Nat) + (↑i : Int).toNat) (El.zero shR)).snd.snd).fst, (entM (List.getD rs ((0 : Nat) + (↑i : Int).toNat) (El.zero shR)).fst va c3 (List.getD rs ((0 : Nat) + (↑i : Int).toNat) (El.zero shR)).snd.snd).snd.fst, (entM (List.getD rs ((0 : Nat) +
 (↑i : Int).toNat) (El.zero shR)).fst va c3 (List.getD rs ((0 : Nat) + (↑i : Int).toNat) (El.zero shR)).snd.snd).snd.snd.fst, (entM (List.getD rs ((0 : Nat) + (↑i : Int).toNat) (El.zero shR)).fst va c3 (List.getD rs ((0 : Nat) + (↑i :
 Int).toNat) (El.zero shR)).snd.snd).snd.snd.snd.fst, (entM (List.getD rs ((0 : Nat) + (↑i : Int).toNat) (El.zero shR)).fst va c3 (List.getD rs ((0 : Nat) + (↑i : Int).toNat) (El.zero shR)).snd.snd).snd.snd.snd.snd.fst, (entM (List.getD rs
 ((0 : Nat) + (↑i : Int).toNat) (El.zero shR)).fst va c3 (List.getD rs ((0 : Nat) + (↑i : Int).toNat) (El.zero shR)).snd.snd).snd.snd.snd.snd.snd) pick).fst ∧ w3 = (insertM (s3, w3, (keepAll va c3 pick (s3, w3, m3) (List.take i rs)).snd.snd)
 ((entM (List.getD rs ((0 : Nat) + (↑i : Int).toNat) (El.zero shR)).fst va c3 (List.getD rs ((0 : Nat) + (↑i : Int).toNat) (El.zero shR)).snd.snd).fst, (entM (List.getD rs ((0 : Nat) + (↑i : Int).toNat) (El.zero shR)).fst va c3 (List.getD rs
 ((0 : Nat) + (↑i : Int).toNat) (El.zero shR)).snd.snd).snd.fst, (entM (List.getD rs ((0 : Nat) + (↑i : Int).toNat) (El.zero shR)).fst va c3 (List.getD rs ((0 : Nat) + (↑i : Int).toNat) (El.zero shR)).snd.snd).snd.snd.fst, (entM (List.getD
 rs ((0 : Nat) + (↑i : Int).toNat) (El.zero shR)).fst va c3 (List.getD rs ((0 : Nat) + (↑i : Int).toNat) (El.zero shR)).snd.snd).snd.snd.snd.fst, (entM (List.getD rs ((0 : Nat) + (↑i : Int).toNat) (El.zero shR)).fst va c3 (List.getD rs ((0 :
 Nat) + (↑i : Int).toNat) (El.zero shR)).snd.snd).snd.snd.snd.snd.fst, (entM (List.getD rs ((0 : Nat) + (↑i : Int).toNat) (El.zero shR)).fst va c3 (List.getD rs ((0 : Nat) + (↑i : Int).toNat) (El.zero shR)).snd.snd).snd.snd.snd.snd.snd)
 pick).snd.fst ∧ (0 : Nat) = (0 : Nat) ∧ List.length (keepAll va c3 pick (s3, w3, m3) (List.take y rs)).snd.snd = List.length (insertM (s3, w3, (keepAll va c3 pick (s3, w3, m3) (List.take i rs)).snd.snd) ((entM (List.getD rs ((0 : Nat) + (↑i
 : Int).toNat) (El.zero shR)).fst va c3 (List.getD rs ((0 : Nat) + (↑i : Int).toNat) (El.zero shR)).snd.snd).fst, (entM (List.getD rs ((0 : Nat) + (↑i : Int).toNat) (El.zero shR)).fst va c3 (List.getD rs ((0 : Nat) + (↑i : Int).toNat)
 (El.zero shR)).snd.snd).snd.fst, (entM (List.getD rs ((0 : Nat) + (↑i : Int).toNat) (El.zero shR)).fst va c3 (List.getD rs ((0 : Nat) + (↑i : Int).toNat) (El.zero shR)).snd.snd).snd.snd.fst, (entM (List.getD rs ((0 : Nat) + (↑i :
 Int).toNat) (El.zero shR)).fst va c3 (List.getD rs ((0 : Nat) + (↑i : Int).toNat) (El.zero shR)).snd.snd).snd.snd.snd.fst, (entM (List.getD rs ((0 : Nat) + (↑i : Int).toNat) (El.zero shR)).fst va c3 (List.getD rs ((0 : Nat) + (↑i :
 Int).toNat) (El.zero shR)).snd.snd).snd.snd.snd.snd.fst, (entM (List.getD rs ((0 : Nat) + (↑i : Int).toNat) (El.zero shR)).fst va c3 (List.getD rs ((0 : Nat) + (↑i : Int).toNat) (El.zero shR)).snd.snd).snd.snd.snd.snd.snd) pick).snd.snd ∧
 m1 = m1 ∧ m2 = m2 ∧ (keepAll va c3 pick (s3, w3, m3) (List.take y rs)).snd.snd = (insertM (s3, w3, (keepAll va c3 pick (s3, w3, m3) (List.take i rs)).snd.snd) ((entM (List.getD rs ((0 : Nat) + (↑i : Int).toNat) (El.zero shR)).fst va c3
 (List.getD rs ((0 : Nat) + (↑i : Int).toNat) (El.zero shR)).snd.snd).fst, (entM (List.getD rs ((0 : Nat) + (↑i : Int).toNat) (El.zero shR)).fst va c3 (List.getD rs ((0 : Nat) + (↑i : Int).toNat) (El.zero shR)).snd.snd).snd.fst, (entM
 (List.getD rs ((0 : Nat) + (↑i : Int).toNat) (El.zero shR)).fst va c3 (List.getD rs ((0 : Nat) + (↑i : Int).toNat) (El.zero shR)).snd.snd).snd.snd.fst, (entM (List.getD rs ((0 : Nat) + (↑i : Int).toNat) (El.zero shR)).fst va c3 (List.getD
 rs ((0 : Nat) + (↑i : Int).toNat) (El.zero shR)).snd.snd).snd.snd.snd.fst, (entM (List.getD rs ((0 : Nat) + (↑i : Int).toNat) (El.zero shR)).fst va c3 (List.getD rs ((0 : Nat) + (↑i : Int).toNat) (El.zero shR)).snd.snd).snd.snd.snd.snd.fst,
 (entM (List.getD rs ((0 : Nat) + (↑i : Int).toNat) (El.zero shR)).fst va c3 (List.getD rs ((0 : Nat) + (↑i : Int).toNat) (El.zero shR)).snd.snd).snd.snd.snd.snd.snd) pick).snd.snd ∧ s2 = s2 ∧ w2 = w2 ∧ (0 : Nat) = (0 : Nat) ∧ List.length m2
 = List.length m2 ∧ q0 = q0 ∧ q1 = q1 ∧ q2 = q2 ∧ (0 : Nat) = (0 : Nat) ∧ List.length rs = List.length rs ∧ rs = rs) ∧ (y ≤ List.length rs ∧ RecR (c0, c1, c2, c3) ((s1, w1, m1), (s2, w2, m2), s3, w3, m3) va pick rs) ∧ List.length rs - y <
 List.length rs - i ∧ ∀ (z : Unit), True → True) ∧ ((kindM (List.getD rs ((0 : Nat) + (↑i : Int).toNat) (El.zero shR)).snd.snd (List.getD rs ((0 : Nat) + (↑i : Int).toNat) (El.zero shR)).fst == (1 : Int)) = false → ∃ (y : Nat), (kind = kind
 ∧ va = va ∧ pick = pick ∧ (↑y : Int) = IntKind.i64.wrap ((↑i : Int) + (1 : Int)) ∧ m = m ∧ m1 = m1 ∧ m2 = m2 ∧ m3 = m3 ∧ c0 = c0 ∧ c1 = c1 ∧ c2 = c2 ∧ c3 = c3 ∧ (0 : Int) = (0 : Int) ∧ (0 : Int) = (0 : Int) ∧ (0 : Int) = (0 : Int) ∧ (0 :
 Int) = (0 : Int) ∧ Value.slice none (0 : Nat) (0 : Nat) = Value.slice none (0 : Nat) (0 : Nat) ∧ (0 : Int) = (0 : Int) ∧ (0 : Int) = (0 : Int) ∧ Value.slice none (0 : Nat) (0 : Nat) = Value.slice none (0 : Nat) (0 : Nat) ∧ (0 : Int) = (0 :
 Int) ∧ (0 : Int) = (0 : Int) ∧ Value.slice none (0 : Nat) (0 : Nat) = Value.slice none (0 : Nat) (0 : Nat) ∧ (0 : Int) = (0 : Int) ∧ (0 : Int) = (0 : Int) ∧ s1 = s1 ∧ w1 = w1 ∧ (0 : Nat) = (0 : Nat) ∧ List.length m1 = List.length m1 ∧ s2 =
 s2 ∧ w2 = w2 ∧ (0 : Nat) = (0 : Nat) ∧ List.length m2 = List.length m2 ∧ s3 = s3 ∧ w3 = w3 ∧ (0 : Nat) = (0 : Nat) ∧ List.length (keepAll va c3 pick (s3, w3, m3) (List.take y rs)).snd.snd = List.length (keepAll va c3 pick (s3, w3, m3)
 (List.take i rs)).snd.snd ∧ m1 = m1 ∧ m2 = m2 ∧ (keepAll va c3 pick (s3, w3, m3) (List.take y rs)).snd.snd = (keepAll va c3 pick (s3, w3, m3) (List.take i rs)).snd.snd ∧ s2 = s2 ∧ w2 = w2 ∧ (0 : Nat) = (0 : Nat) ∧ List.length m2 =
 List.length m2 ∧ q0 = q0 ∧ q1 = q1 ∧ q2 = q2 ∧ (0 : Nat) = (0 : Nat) ∧ List.length rs = List.length rs ∧ rs = rs) ∧ (y ≤ List.length rs ∧ RecR (c0, c1, c2, c3) ((s1, w1, m1), (s2, w2, m2), s3, w3, m3) va pick rs) ∧ List.length rs - y <
 List.length rs - i ∧ ∀ (z : Unit), True → True)) ∧ (decide ((↑i : Int) < (↑(List.length rs) : Int)) = false → ∃ (z : Unit), (kind = kind ∧ va = va ∧ pick = pick ∧ m = m ∧ m1 = m1 ∧ m2 = m2 ∧ m3 = m3 ∧ c0 = c0 ∧ c1 = c1 ∧ c2 = c2 ∧ c3 = c3
 ∧ (0 : Int) = (0 : Int) ∧ (0 : Int) = (0 : Int) ∧ (0 : Int) = (0 : Int) ∧ (0 : Int) = (0 : Int) ∧ Value.slice none (0 : Nat) (0 : Nat) = Value.slice none (0 : Nat) (0 : Nat) ∧ (0 : Int) = (0 : Int) ∧ (0 : Int) = (0 : Int) ∧ Value.slice none
 (0 : Nat) (0 : Nat) = Value.slice none (0 : Nat) (0 : Nat) ∧ (0 : Int) = (0 : Int) ∧ (0 : Int) = (0 : Int) ∧ Value.slice none (0 : Nat) (0 : Nat) = Value.slice none (0 : Nat) (0 : Nat) ∧ (0 : Int) = (0 : Int) ∧ (0 : Int) = (0 : Int) ∧ s1 =
 s1 ∧ w1 = w1 ∧ (0 : Nat) = (0 : Nat) ∧ List.length m1 = List.length m1 ∧ s2 = s2 ∧ w2 = w2 ∧ (0 : Nat) = (0 : Nat) ∧ List.length m2 = List.length m2 ∧ s3 = s3 ∧ w3 = w3 ∧ (0 : Nat) = (0 : Nat) ∧ List.length (keepAll va c3 pick (s3, w3, m3)
 rs).snd.snd = List.length (keepAll va c3 pick (s3, w3, m3) (List.take i rs)).snd.snd ∧ m1 = m1 ∧ m2 = m2 ∧ (keepAll va c3 pick (s3, w3, m3) rs).snd.snd = (keepAll va c3 pick (s3, w3, m3) (List.take i rs)).snd.snd ∧ s2 = s2 ∧ w2 = w2 ∧ (0 :
 Nat) = (0 : Nat) ∧ List.length m2 = List.length m2 ∧ q0 = q0 ∧ q1 = q1 ∧ q2 = q2 ∧ (0 : Nat) = (0 : Nat) ∧ List.length rs = List.length rs ∧ rs = rs) ∧ True)) := by kernel_rfl
theorem vc_spD_eq (m : By) (c0 : Int) (c1 c2 : Bool) (c3 : Int) (s1 w1 : Int) (m1 : Es) (s2 w2 : Int) (m2 : Es) (s3 w3 : Int) (m3 : Es) (kind va pick : Int) (q0 q1 q2 : Int) (rs : Rs) (e pa : Int) (t1 u1 : Int) (n1 : Es) (t2 u2 : Int) (n2 : Es) (t3 u3 : Int) (n3 : Es) : vc_spD m c0 c1 c2 c3 s1 w1 m1 s2 w2 m2 s3 w3 m3 kind va pick q0 q1 q2 rs e pa t1 u1 n1 t2 u2 n2 t3 u3 n3 = (
 (List.length m1 = List.length m1 ∧ List.length m2 = List.length m2 ∧ List.length m3 = List.length m3 ∧ TlR (s1, w1, m1) ∧ TlR (s2, w2, m2) ∧ TlR (s3, w3, m3)) ∧ ((bif bif bif bif bif bif !goodC ((s1, w1, m1), (s2, w2, m2), s3, w3, m3) then
 true else decide (kind < (0 : Int)) then true else decide (kind > (2 : Int)) then true else decide (c0 < (0 : Int)) then true else decide (c0 > (2 : Int)) then true else decide (pick < (0 : Int)) then true else decide (pick > (255 : Int)))
 = true → e = (63 : Int) ∧ pa = (0 : Int) ∧ t1 = (0 : Int) ∧ u1 = (0 : Int) ∧ (0 : Nat) = (0 : Nat) ∧ List.length n1 = (0 : Nat) ∧ t2 = (0 : Int) ∧ u2 = (0 : Int) ∧ (0 : Nat) = (0 : Nat) ∧ List.length n2 = (0 : Nat) ∧ t3 = (0 : Int) ∧ u3 =
 (0 : Int) ∧ (0 : Nat) = (0 : Nat) ∧ List.length n3 = (0 : Nat) ∧ m = m ∧ m1 = m1 ∧ m2 = m2 ∧ m3 = m3 ∧ n1 = [] ∧ n2 = [] ∧ n3 = []) ∧ ((bif bif bif bif bif bif !goodC ((s1, w1, m1), (s2, w2, m2), s3, w3, m3) then true else decide (kind < (0
 : Int)) then true else decide (kind > (2 : Int)) then true else decide (c0 < (0 : Int)) then true else decide (c0 > (2 : Int)) then true else decide (pick < (0 : Int)) then true else decide (pick > (255 : Int))) = false → (List.length m1 =
 List.length m1 ∧ List.length m2 = List.length m2 ∧ List.length m3 = List.length m3 ∧ SzR (List.length m1) ∧ SzR (List.length m2) ∧ SzR (List.length m3)) ∧ U64 c3 ∧ ((!onM (c0, c1, c2, c3)) = true → e = (0 : Int) ∧ pa = va ∧ t1 = s1 ∧ u1 =
 w1 ∧ (0 : Nat) = (0 : Nat) ∧ List.length n1 = List.length m1 ∧ t2 = s2 ∧ u2 = w2 ∧ (0 : Nat) = (0 : Nat) ∧ List.length n2 = List.length m2 ∧ t3 = s3 ∧ u3 = w3 ∧ (0 : Nat) = (0 : Nat) ∧ List.length n3 = List.length m3 ∧ m = m ∧ m1 = m1 ∧ m2
 = m2 ∧ m3 = m3 ∧ n1 = m1 ∧ n2 = m2 ∧ n3 = m3) ∧ ((!onM (c0, c1, c2, c3)) = false → U64 va ∧ ((!canM va) = true → e = pfM kind ∧ pa = (0 : Int) ∧ t1 = s1 ∧ u1 = w1 ∧ (0 : Nat) = (0 : Nat) ∧ List.length n1 = List.length m1 ∧ t2 = s2 ∧ u2 = w2
 ∧ (0 : Nat) = (0 : Nat) ∧ List.length n2 = List.length m2 ∧ t3 = s3 ∧ u3 = w3 ∧ (0 : Nat) = (0 : Nat) ∧ List.length n3 = List.length m3 ∧ m = m ∧ m1 = m1 ∧ m2 = m2 ∧ m3 = m3 ∧ n1 = m1 ∧ n2 = m2 ∧ n3 = m3) ∧ ((!canM va) = false → (kind == (0
 : Int)) = false ∧ U64 c3 ∧ (List.length m2 = List.length m2 ∧ TlR (s2, w2, m2) ∧ U64 va) ∧ ∃ (z : Bool × Int × Int × Int), ((0 : Nat) = (0 : Nat) ∧ List.length m = List.length m ∧ kind = kind ∧ va = va ∧ pick = pick ∧ m = m ∧ m1 = m1 ∧ m2 =
 m2 ∧ m3 = m3 ∧ c0 = c0 ∧ c1 = c1 ∧ c2 = c2 ∧ c3 = c3 ∧ s1 = s1 ∧ w1 = w1 ∧ (0 : Nat) = (0 : Nat) ∧ List.length m1 = List.length m1 ∧ s2 = s2 ∧ w2 = w2 ∧ (0 : Nat) = (0 : Nat) ∧ List.length m2 = List.length m2 ∧ s3 = s3 ∧ w3 = w3 ∧ (0 : Nat)
 = (0 : Nat) ∧ List.length m3 = List.length m3 ∧ (0 : Int) = (0 : Int) ∧ (0 : Int) = (0 : Int) ∧ (0 : Int) = (0 : Int) ∧ (0 : Int) = (0 : Int) ∧ Value.slice none (0 : Nat) (0 : Nat) = Value.slice none (0 : Nat) (0 : Nat) ∧ (0 : Int) = (0 :
 Int) ∧ (0 : Int) = (0 : Int) ∧ Value.slice none (0 : Nat) (0 : Nat) = Value.slice none (0 : Nat) (0 : Nat) ∧ (0 : Int) = (0 : Int) ∧ (0 : Int) = (0 : Int) ∧ Value.slice none (0 : Nat) (0 : Nat) = Value.slice none (0 : Nat) (0 : Nat) ∧ (0 :
 Int) = (0 : Int) ∧ (0 : Int) = (0 : Int) ∧ s1 = s1 ∧ w1 = w1 ∧ (0 : Nat) = (0 : Nat) ∧ List.length m1 = List.length m1 ∧ s2 = s2 ∧ w2 = w2 ∧ (0 : Nat) = (0 : Nat) ∧ List.length m2 = List.length m2 ∧ s3 = s3 ∧ w3 = w3 ∧ (0 : Nat) = (0 : Nat)
 ∧ List.length m3 = List.length m3 ∧ m1 = m1 ∧ m2 = m2 ∧ m3 = m3 ∧ s2 = s2 ∧ w2 = w2 ∧ (0 : Nat) = (0 : Nat) ∧ List.length m2 = List.length m2 ∧ z.fst = (lookM (s2, w2, m2) va (asidM c3)).fst ∧ z.snd.fst = (lookM (s2, w2, m2) va (asidM
 c3)).snd.fst ∧ z.snd.snd.fst = (lookM (s2, w2, m2) va (asidM c3)).snd.snd.fst ∧ z.snd.snd.snd = (lookM (s2, w2, m2) va (asidM c3)).snd.snd.snd) ∧ (z.fst = true → (U64 z.snd.snd.snd ∧ U64 va) ∧ e = (leafM z.snd.snd.snd z.snd.snd.fst (c0, c1,
 c2, c3) kind va).fst ∧ pa = (leafM z.snd.snd.snd z.snd.snd.fst (c0, c1, c2, c3) kind va).snd ∧ t1 = s1 ∧ u1 = w1 ∧ (0 : Nat) = (0 : Nat) ∧ List.length n1 = List.length m1 ∧ t2 = s2 ∧ u2 = w2 ∧ (0 : Nat) = (0 : Nat) ∧ List.length n2 =
 List.length m2 ∧ t3 = s3 ∧ u3 = w3 ∧ (0 : Nat) = (0 : Nat) ∧ List.length n3 = List.length m3 ∧ m = m ∧ m1 = m1 ∧ m2 = m2 ∧ m3 = m3 ∧ n1 = m1 ∧ n2 = m2 ∧ n3 = m3) ∧ (z.fst = false → (List.length m = List.length m ∧ ByteR m ∧ U64 c3 ∧ U64 va)
 ∧ U64 c3 ∧ (List.length m3 = List.length m3 ∧ TlR (s3, w3, m3) ∧ U64 va) ∧ ∃ (z : Wr × Hi), ((0 : Nat) = (0 : Nat) ∧ List.length m = List.length m ∧ kind = kind ∧ va = va ∧ pick = pick ∧ m = m ∧ m1 = m1 ∧ m2 = m2 ∧ m3 = m3 ∧ c0 = c0 ∧ c1 =
 c1 ∧ c2 = c2 ∧ c3 = c3 ∧ (0 : Int) = (0 : Int) ∧ (0 : Int) = (0 : Int) ∧ (0 : Int) = (0 : Int) ∧ (0 : Int) = (0 : Int) ∧ Value.slice none (0 : Nat) (0 : Nat) = Value.slice none (0 : Nat) (0 : Nat) ∧ (0 : Int) = (0 : Int) ∧ (0 : Int) = (0 :
 Int) ∧ Value.slice none (0 : Nat) (0 : Nat) = Value.slice none (0 : Nat) (0 : Nat) ∧ (0 : Int) = (0 : Int) ∧ (0 : Int) = (0 : Int) ∧ Value.slice none (0 : Nat) (0 : Nat) = Value.slice none (0 : Nat) (0 : Nat) ∧ (0 : Int) = (0 : Int) ∧ (0 :
 Int) = (0 : Int) ∧ s1 = s1 ∧ w1 = w1 ∧ (0 : Nat) = (0 : Nat) ∧ List.length m1 = List.length m1 ∧ s2 = s2 ∧ w2 = w2 ∧ (0 : Nat) = (0 : Nat) ∧ List.length m2 = List.length m2 ∧ s3 = s3 ∧ w3 = w3 ∧ (0 : Nat) = (0 : Nat) ∧ List.length m3 =
 List.length m3 ∧ m1 = m1 ∧ m2 = m2 ∧ m3 = m3 ∧ s2 = s2 ∧ w2 = w2 ∧ (0 : Nat) = (0 : Nat) ∧ List.length m2 = List.length m2 ∧ z.fst.fst = (walkM m c3 va).fst ∧ z.fst.snd.fst = (walkM m c3 va).snd.fst ∧ z.fst.snd.snd.fst = (walkM m c3
 va).snd.snd.fst ∧ (0 : Nat) = (0 : Nat) ∧ List.length z.fst.snd.snd.snd = List.length (walkM m c3 va).snd.snd.snd ∧ z.fst.snd.snd.snd = (walkM m c3 va).snd.snd.snd ∧ z.snd.fst = (lookM (s3, w3, m3) va (asidM c3)).fst ∧ z.snd.snd.fst =
 (lookM (s3, w3, m3) va (asidM c3)).snd.fst ∧ z.snd.snd.snd.fst = (lookM (s3, w3, m3) va (asidM c3)).snd.snd.fst ∧ z.snd.snd.snd.snd = (lookM (s3, w3, m3) va (asidM c3)).snd.snd.snd) ∧ (z.snd.fst = true → U64 z.snd.snd.snd.snd ∧ (List.length
 m = List.length m ∧ FromR m (ppnM z.snd.snd.snd.snd) (IntKind.i64.wrap (z.snd.snd.snd.fst - (1 : Int))) va) ∧ ∃ (x : Nat), (kind = kind ∧ va = va ∧ pick = pick ∧ (↑x : Int) = (0 : Int) ∧ m = m ∧ m1 = m1 ∧ m2 = m2 ∧ m3 = m3 ∧ c0 = c0 ∧ c1 =
 c1 ∧ c2 = c2 ∧ c3 = c3 ∧ (0 : Int) = (0 : Int) ∧ (0 : Int) = (0 : Int) ∧ (0 : Int) = (0 : Int) ∧ (0 : Int) = (0 : Int) ∧ Value.slice none (0 : Nat) (0 : Nat) = Value.slice none (0 : Nat) (0 : Nat) ∧ (0 : Int) = (0 : Int) ∧ (0 : Int) = (0 :
 Int) ∧ Value.slice none (0 : Nat) (0 : Nat) = Value.slice none (0 : Nat) (0 : Nat) ∧ (0 : Int) = (0 : Int) ∧ (0 : Int) = (0 : Int) ∧ Value.slice none (0 : Nat) (0 : Nat) = Value.slice none (0 : Nat) (0 : Nat) ∧ (0 : Int) = (0 : Int) ∧ (0 :
 Int) = (0 : Int) ∧ s1 = s1 ∧ w1 = w1 ∧ (0 : Nat) = (0 : Nat) ∧ List.length m1 = List.length m1 ∧ s2 = s2 ∧ w2 = w2 ∧ (0 : Nat) = (0 : Nat) ∧ List.length m2 = List.length m2 ∧ s3 = s3 ∧ w3 = w3 ∧ (0 : Nat) = (0 : Nat) ∧ List.length (keepAll
 va c3 pick (s3, w3, m3) (List.take x rs)).snd.snd = List.length m3 ∧ m1 = m1 ∧ m2 = m2 ∧ (keepAll va c3 pick (s3, w3, m3) (List.take x rs)).snd.snd = m3 ∧ s2 = s2 ∧ w2 = w2 ∧ (0 : Nat) = (0 : Nat) ∧ List.length m2 = List.length m2 ∧ q0 =
 (walkN m va ((IntKind.i64.wrap (z.snd.snd.snd.fst - (1 : Int))).toNat + (1 : Nat)) (ppnM z.snd.snd.snd.snd)).fst ∧ q1 = (walkN m va ((IntKind.i64.wrap (z.snd.snd.snd.fst - (1 : Int))).toNat + (1 : Nat)) (ppnM z.snd.snd.snd.snd)).snd.fst ∧
 q2 = (walkN m va ((IntKind.i64.wrap (z.snd.snd.snd.fst - (1 : Int))).toNat + (1 : Nat)) (ppnM z.snd.snd.snd.snd)).snd.snd.fst ∧ (0 : Nat) = (0 : Nat) ∧ List.length rs = List.length (walkN m va ((IntKind.i64.wrap (z.snd.snd.snd.fst - (1 :
 Int))).toNat + (1 : Nat)) (ppnM z.snd.snd.snd.snd)).snd.snd.snd ∧ rs = (walkN m va ((IntKind.i64.wrap (z.snd.snd.snd.fst - (1 : Int))).toNat + (1 : Nat)) (ppnM z.snd.snd.snd.snd)).snd.snd.snd) ∧ (x ≤ List.length rs ∧ RecR (c0, c1, c2, c3)
 ((s1, w1, m1), (s2, w2, m2), s3, w3, m3) va pick rs) ∧ ∀ (z : Unit), True → (List.length rs = List.length rs ∧ (q0 ≠ (2 : (Cs.i IntKind.i64).T) → q0 ≠ (3 : (Cs.i IntKind.i64).T) → U64 q2) ∧ U64 va) ∧ ∃ (z : Int × Int), (kind = kind ∧ va =
 va ∧ pick = pick ∧ m = m ∧ m1 = m1 ∧ m2 = m2 ∧ m3 = m3 ∧ c0 = c0 ∧ c1 = c1 ∧ c2 = c2 ∧ c3 = c3 ∧ (0 : Int) = (0 : Int) ∧ (0 : Int) = (0 : Int) ∧ (0 : Int) = (0 : Int) ∧ (0 : Int) = (0 : Int) ∧ Value.slice none (0 : Nat) (0 : Nat) =
 Value.slice none (0 : Nat) (0 : Nat) ∧ (0 : Int) = (0 : Int) ∧ (0 : Int) = (0 : Int) ∧ Value.slice none (0 : Nat) (0 : Nat) = Value.slice none (0 : Nat) (0 : Nat) ∧ (0 : Int) = (0 : Int) ∧ (0 : Int) = (0 : Int) ∧ Value.slice none (0 : Nat)
 (0 : Nat) = Value.slice none (0 : Nat) (0 : Nat) ∧ (0 : Int) = (0 : Int) ∧ (0 : Int) = (0 : Int) ∧ s1 = s1 ∧ w1 = w1 ∧ (0 : Nat) = (0 : Nat) ∧ List.length m1 = List.length m1 ∧ s2 = s2 ∧ w2 = w2 ∧ (0 : Nat) = (0 : Nat) ∧ List.length m2 =
 List.length m2 ∧ s3 = s3 ∧ w3 = w3 ∧ (0 : Nat) = (0 : Nat) ∧ List.length (keepAll va c3 pick (s3, w3, m3) rs).snd.snd = List.length (keepAll va c3 pick (s3, w3, m3) rs).snd.snd ∧ m1 = m1 ∧ m2 = m2 ∧ (keepAll va c3 pick (s3, w3, m3)
 rs).snd.snd = (keepAll va c3 pick (s3, w3, m3) rs).snd.snd ∧ s2 = s2 ∧ w2 = w2 ∧ (0 : Nat) = (0 : Nat) ∧ List.length m2 = List.length m2 ∧ q0 = q0 ∧ q1 = q1 ∧ q2 = q2 ∧ (0 : Nat) = (0 : Nat) ∧ List.length rs = List.length rs ∧ rs = rs ∧
 z.fst = (answerM (q0, q1, q2, rs) (c0, c1, c2, c3) kind va).fst ∧ z.snd = (answerM (q0, q1, q2, rs) (c0, c1, c2, c3) kind va).snd) ∧ ((z.fst == (0 : Int)) = true → (LvR q1 ∧ U64 va ∧ U64 c3 ∧ U64 q2) ∧ (List.length m2 = List.length m2 ∧ TlR
 (s2, w2, m2) ∧ EnR ((entM q1 va c3 q2).fst, (entM q1 va c3 q2).snd.fst, (entM q1 va c3 q2).snd.snd.fst, (entM q1 va c3 q2).snd.snd.snd.fst, (entM q1 va c3 q2).snd.snd.snd.snd.fst, (entM q1 va c3 q2).snd.snd.snd.snd.snd)) ∧ ((kind == (0 :
 Int)) = true → e = z.fst ∧ pa = z.snd ∧ t1 = (insertM (s2, w2, m2) ((entM q1 va c3 q2).fst, (entM q1 va c3 q2).snd.fst, (entM q1 va c3 q2).snd.snd.fst, (entM q1 va c3 q2).snd.snd.snd.fst, (entM q1 va c3 q2).snd.snd.snd.snd.fst, (entM q1 va
 c3 q2).snd.snd.snd.snd.snd) pick).fst ∧ u1 = (insertM (s2, w2, m2) ((entM q1 va c3 q2).fst, (entM q1 va c3 q2).snd.fst, (entM q1 va c3 q2).snd.snd.fst, (entM q1 va c3 q2).snd.snd.snd.fst, (entM q1 va c3 q2).snd.snd.snd.snd.fst, (entM q1 va
 c3 q2).snd.snd.snd.snd.snd) pick).snd.fst ∧ (0 : Nat) = (0 : Nat) ∧ List.length n1 = List.length (insertM (s2, w2, m2) ((entM q1 va c3 q2).fst, (entM q1 va c3 q2).snd.fst, (entM q1 va c3 q2).snd.snd.fst, (entM q1 va c3 q2).snd.snd.snd.fst,
 (entM q1 va c3 q2).snd.snd.snd.snd.fst, (entM q1 va c3 q2).snd.snd.snd.snd.snd) pick).snd.snd ∧ t2 = s2 ∧ u2 = w2 ∧ (0 : Nat) = (0 : Nat) ∧ List.length n2 = List.length m2 ∧ t3 = s3 ∧ u3 = w3 ∧ (0 : Nat) = (0 : Nat) ∧ List.length n3 =
 List.length (keepAll va c3 pick (s3, w3, m3) rs).snd.snd ∧ m = m ∧ m1 = m1 ∧ m2 = m2 ∧ m3 = m3 ∧ n1 = (insertM (s2, w2, m2) ((entM q1 va c3 q2).fst, (entM q1 va c3 q2).snd.fst, (entM q1 va c3 q2).snd.snd.fst, (entM q1 va c3
 q2).snd.snd.snd.fst, (entM q1 va c3 q2).snd.snd.snd.snd.fst, (entM q1 va c3 q2).snd.snd.snd.snd.snd) pick).snd.snd ∧ n2 = m2 ∧ n3 = (keepAll va c3 pick (s3, w3, m3) rs).snd.snd) ∧ ((kind == (0 : Int)) = false → e = z.fst ∧ pa = z.snd ∧ t1 =
 s1 ∧ u1 = w1 ∧ (0 : Nat) = (0 : Nat) ∧ List.length n1 = List.length m1 ∧ t2 = (insertM (s2, w2, m2) ((entM q1 va c3 q2).fst, (entM q1 va c3 q2).snd.fst, (entM q1 va c3 q2).snd.snd.fst, (entM q1 va c3 q2).snd.snd.snd.fst, (entM q1 va c3
 q2).snd.snd.snd.snd.fst, (entM q1 va c3 q2).snd.snd.snd.snd.snd) pick).fst ∧ u2 = (insertM (s2, w2, m2) ((entM q1 va c3 q2).fst, (entM q1 va c3 q2).snd.fst, (entM q1 va c3 q2).snd.snd.fst, (entM q1 va c3 q2).snd.snd.snd.fst, (entM q1 va c3
 q2).snd.snd.snd.snd.fst, (entM q1 va c3 q2).snd.snd.snd.snd.snd) pick).snd.fst ∧ (0 : Nat) = (0 : Nat) ∧ List.length n2 = List.length (insertM (s2, w2, m2) ((entM q1 va c3 q2).fst, (entM q1 va c3 q2).snd.fst, (entM q1 va c3 q2).snd.snd.fst,
 (entM q1 va c3 q2).snd.snd.snd.fst, (entM q1 va c3 q2).snd.snd.snd.snd.fst, (entM q1 va c3 q2).snd.snd.snd.snd.snd) pick).snd.snd ∧ t3 = s3 ∧ u3 = w3 ∧ (0 : Nat) = (0 : Nat) ∧ List.length n3 = List.length (keepAll va c3 pick (s3, w3, m3)
 rs).snd.snd ∧ m = m ∧ m1 = m1 ∧ m2 = m2 ∧ m3 = m3 ∧ n1 = m1 ∧ n2 = (insertM (s2, w2, m2) ((entM q1 va c3 q2).fst, (entM q1 va c3 q2).snd.fst, (entM q1 va c3 q2).snd.snd.fst, (entM q1 va c3 q2).snd.snd.snd.fst, (entM q1 va c3
 q2).snd.snd.snd.snd.fst, (entM q1 va c3 q2).snd.snd.snd.snd.snd) pick).snd.snd ∧ n3 = (keepAll va c3 pick (s3, w3, m3) rs).snd.snd)) ∧ ((z.fst == (0 : Int)) = false → e = z.fst ∧ pa = z.snd ∧ t1 = s1 ∧ u1 = w1 ∧ (0 : Nat) = (0 : Nat) ∧
 List.length n1 = List.length m1 ∧ t2 = s2 ∧ u2 = w2 ∧ (0 : Nat) = (0 : Nat) ∧ List.length n2 = List.length m2 ∧ t3 = s3 ∧ u3 = w3 ∧ (0 : Nat) = (0 : Nat) ∧ List.length n3 = List.length (keepAll va c3 pick (s3, w3, m3) rs).snd.snd ∧ m = m ∧
 m1 = m1 ∧ m2 = m2 ∧ m3 = m3 ∧ n1 = m1 ∧ n2 = m2 ∧ n3 = (keepAll va c3 pick (s3, w3, m3) rs).snd.snd)) ∧ (z.snd.fst = false → ∃ (x : Nat), (kind = kind ∧ va = va ∧ pick = pick ∧ (↑x : Int) = (0 : Int) ∧ m = m ∧ m1 = m1 ∧ m2 = m2 ∧ m3 = m3 ∧
 c0 = c0 ∧ c1 = c1 ∧ c2 = c2 ∧ c3 = c3 ∧ (0 : Int) = (0 : Int) ∧ (0 : Int) = (0 : Int) ∧ (0 : Int) = (0 : Int) ∧ (0 : Int) = (0 : Int) ∧ Value.slice none (0 : Nat) (0 : Nat) = Value.slice none (0 : Nat) (0 : Nat) ∧ (0 : Int) = (0 : Int) ∧ (0
 : Int) = (0 : Int) ∧ Value.slice none (0 : Nat) (0 : Nat) = Value.slice none (0 : Nat) (0 : Nat) ∧ (0 : Int) = (0 : Int) ∧ (0 : Int) = (0 : Int) ∧ Value.slice none (0 : Nat) (0 : Nat) = Value.slice none (0 : Nat) (0 : Nat) ∧ (0 : Int) = (0
 : Int) ∧ (0 : Int) = (0 : Int) ∧ s1 = s1 ∧ w1 = w1 ∧ (0 : Nat) = (0 : Nat) ∧ List.length m1 = List.length m1 ∧ s2 = s2 ∧ w2 = w2 ∧ (0 : Nat) = (0 : Nat) ∧ List.length m2 = List.length m2 ∧ s3 = s3 ∧ w3 = w3 ∧ (0 : Nat) = (0 : Nat) ∧
 List.length (keepAll va c3 pick (s3, w3, m3) (List.take x rs)).snd.snd = List.length m3 ∧ m1 = m1 ∧ m2 = m2 ∧ (keepAll va c3 pick (s3, w3, m3) (List.take x rs)).snd.snd = m3 ∧ s2 = s2 ∧ w2 = w2 ∧ (0 : Nat) = (0 : Nat) ∧ List.length m2 =
 List.length m2 ∧ q0 = z.fst.fst ∧ q1 = z.fst.snd.fst ∧ q2 = z.fst.snd.snd.fst ∧ (0 : Nat) = (0 : Nat) ∧ List.length rs = List.length z.fst.snd.snd.snd ∧ rs = z.fst.snd.snd.snd) ∧ (x ≤ List.length rs ∧ RecR (c0, c1, c2, c3) ((s1, w1, m1),
 (s2, w2, m2), s3, w3, m3) va pick rs) ∧ ∀ (z : Unit), True → (List.length rs = List.length rs ∧ (q0 ≠ (2 : (Cs.i IntKind.i64).T) → q0 ≠ (3 : (Cs.i IntKind.i64).T) → U64 q2) ∧ U64 va) ∧ ∃ (z : Int × Int), (kind = kind ∧ va = va ∧ pick =
 pick ∧ m = m ∧ m1 = m1 ∧ m2 = m2 ∧ m3 = m3 ∧ c0 = c0 ∧ c1 = c1 ∧ c2 = c2 ∧ c3 = c3 ∧ (0 : Int) = (0 : Int) ∧ (0 : Int) = (0 : Int) ∧ (0 : Int) = (0 : Int) ∧ (0 : Int) = (0 : Int) ∧ Value.slice none (0 : Nat) (0 : Nat) = Value.slice none (0
 : Nat) (0 : Nat) ∧ (0 : Int) = (0 : Int) ∧ (0 : Int) = (0 : Int) ∧ Value.slice none (0 : Nat) (0 : Nat) = Value.slice none (0 : Nat) (0 : Nat) ∧ (0 : Int) = (0 : Int) ∧ (0 : Int) = (0 : Int) ∧ Value.slice none (0 : Nat) (0 : Nat) =
 Value.slice none (0 : Nat) (0 : Nat) ∧ (0 : Int) = (0 : Int) ∧ (0 : Int) = (0 : Int) ∧ s1 = s1 ∧ w1 = w1 ∧ (0 : Nat) = (0 : Nat) ∧ List.length m1 = List.length m1 ∧ s2 = s2 ∧ w2 = w2 ∧ (0 : Nat) = (0 : Nat) ∧ List.length m2 = List.length m2
 ∧ s3 = s3 ∧ w3 = w3 ∧ (0 : Nat) = (0 : Nat) ∧ List.length (keepAll va c3 pick (s3, w3, m3) rs).snd.snd = List.length (keepAll va c3 pick (s3, w3, m3) rs).snd.snd ∧ m1 = m1 ∧ m2 = m2 ∧ (keepAll va c3 pick (s3, w3, m3) rs).snd.snd = (keepAll
 va c3 pick (s3, w3, m3) rs).snd.snd ∧ s2 = s2 ∧ w2 = w2 ∧ (0 : Nat) = (0 : Nat) ∧ List.length m2 = List.length m2 ∧ q0 = q0 ∧ q1 = q1 ∧ q2 = q2 ∧ (0 : Nat) = (0 : Nat) ∧ List.length rs = List.length rs ∧ rs = rs ∧ z.fst = (answerM (q0, q1,
 q2, rs) (c0, c1, c2, c3) kind va).fst ∧ z.snd = (answerM (q0, q1, q2, rs) (c0, c1, c2, c3) kind va).snd) ∧ ((z.fst == (0 : Int)) = true → (LvR q1 ∧ U64 va ∧ U64 c3 ∧ U64 q2) ∧ (List.length m2 = List.length m2 ∧ TlR (s2, w2, m2) ∧ EnR ((entM
 q1 va c3 q2).fst, (entM q1 va c3 q2).snd.fst, (entM q1 va c3 q2).snd.snd.fst, (entM q1 va c3 q2).snd.snd.snd.fst, (entM q1 va c3 q2).snd.snd.snd.snd.fst, (entM q1 va c3 q2).snd.snd.snd.snd.snd)) ∧ ((kind == (0 : Int)) = true → e = z.fst ∧
 pa = z.snd ∧ t1 = (insertM (s2, w2, m2) ((entM q1 va c3 q2).fst, (entM q1 va c3 q2).snd.fst, (entM q1 va c3 q2).snd.snd.fst, (entM q1 va c3 q2).snd.snd.snd.fst, (entM q1 va c3 q2).snd.snd.snd.snd.fst, (entM q1 va c3 q2).snd.snd.snd.snd.snd)
 pick).fst ∧ u1 = (insertM (s2, w2, m2) ((entM q1 va c3 q2).fst, (entM q1 va c3 q2).snd.fst, (entM q1 va c3 q2).snd.snd.fst, (entM q1 va c3 q2).snd.snd.snd.fst, (entM q1 va c3 q2).snd.snd.snd.snd.fst, (entM q1 va c3 q2).snd.snd.snd.snd.snd)
 pick).snd.fst ∧ (0 : Nat) = (0 : Nat) ∧ List.length n1 = List.length (insertM (s2, w2, m2) ((entM q1 va c3 q2).fst, (entM q1 va c3 q2).snd.fst, (entM q1 va c3 q2).snd.snd.fst, (entM q1 va c3 q2).snd.snd.snd.fst, (entM q1 va c3
 q2).snd.snd.snd.snd.fst, (entM q1 va c3 q2).snd.snd.snd.snd.snd) pick).snd.snd ∧ t2 = s2 ∧ u2 = w2 ∧ (0 : Nat) = (0 : Nat) ∧ List.length n2 = List.length m2 ∧ t3 = s3 ∧ u3 = w3 ∧ (0 : Nat) = (0 : Nat) ∧ List.length n3 = List.length (keepAll
 va c3 pick (s3, w3, m3) rs).snd.snd ∧ m = m ∧ m1 = m1 ∧ m2 = m2 ∧ m3 = m3 ∧ n1 = (insertM (s2, w2, m2) ((entM q1 va c3 q2).fst, (entM q1 va c3 q2).snd.fst, (entM q1 va c3 q2).snd.snd.fst, (entM q1 va c3 q2).snd.snd.snd.fst, (entM q1 va c3
 q2).snd.snd.snd.snd.fst, (entM q1 va c3 q2).snd.snd.snd.snd.snd) pick).snd.snd ∧ n2 = m2 ∧ n3 = (keepAll va c3 pick (s3, w3, m3) rs).snd.snd) ∧ ((kind == (0 : Int)) = false → e = z.fst ∧ pa = z.snd ∧ t1 = s1 ∧ u1 = w1 ∧ (0 : Nat) = (0 :
 Nat) ∧ List.length n1 = List.length m1 ∧ t2 = (insertM (s2, w2, m2) ((entM q1 va c3 q2).fst, (entM q1 va c3 q2).snd.fst, (entM q1 va c3 q2).snd.snd.fst, (entM q1 va c3 q2).snd.snd.snd.fst, (entM q1 va c3 q2).snd.snd.snd.snd.fst, (entM q1 va
 c3 q2).snd.snd.snd.snd.snd) pick).fst ∧ u2 = (insertM (s2, w2, m2) ((entM q1 va c3 q2).fst, (entM q1 va c3 q2).snd.fst, (entM q1 va c3 q2).snd.snd.fst, (entM q1 va c3 q2).snd.snd.snd.fst, (entM q1 va c3 q2).snd.snd.snd.snd.fst, (entM q1 va
 c3 q2).snd.snd.snd.snd.snd) pick).snd.fst ∧ (0 : Nat) = (0 : Nat) ∧ List.length n2 = List.length (insertM (s2, w2, m2) ((entM q1 va c3 q2).fst, (entM q1 va c3 q2).snd.fst, (entM q1 va c3 q2).snd.snd.fst, (entM q1 va c3 q2).snd.snd.snd.fst,
 (entM q1 va c3 q2).snd.snd.snd.snd.fst, (entM q1 va c3 q2).snd.snd.snd.snd.snd) pick).snd.snd ∧ t3 = s3 ∧ u3 = w3 ∧ (0 : Nat) = (0 : Nat) ∧ List.length n3 = List.length (keepAll va c3 pick (s3, w3, m3) rs).snd.snd ∧ m = m ∧ m1 = m1 ∧ m2 =
 m2 ∧ m3 = m3 ∧ n1 = m1 ∧ n2 = (insertM (s2, w2, m2) ((entM q1 va c3 q2).fst, (entM q1 va c3 q2).snd.fst, (entM q1 va c3 q2).snd.snd.fst, (entM q1 va c3 q2).snd.snd.snd.fst, (entM q1 va c3 q2).snd.snd.snd.snd.fst, (entM q1 va c3
 q2).snd.snd.snd.snd.snd) pick).snd.snd ∧ n3 = (keepAll va c3 pick (s3, w3, m3) rs).snd.snd)) ∧ ((z.fst == (0 : Int)) = false → e = z.fst ∧ pa = z.snd ∧ t1 = s1 ∧ u1 = w1 ∧ (0 : Nat) = (0 : Nat) ∧ List.length n1 = List.length m1 ∧ t2 = s2 ∧
 u2 = w2 ∧ (0 : Nat) = (0 : Nat) ∧ List.length n2 = List.length m2 ∧ t3 = s3 ∧ u3 = w3 ∧ (0 : Nat) = (0 : Nat) ∧ List.length n3 = List.length (keepAll va c3 pick (s3, w3, m3) rs).snd.snd ∧ m = m ∧ m1 = m1 ∧ m2 = m2 ∧ m3 = m3 ∧ n1 = m1 ∧ n2 =
 m2 ∧ n3 = (keepAll va c3 pick (s3, w3, m3) rs).snd.snd))))))) := by kernel_rfl
theorem vc_lawTlb_eq (m : By) (c0 : Int) (c1 c2 : Bool) (c3 : Int) (s1 w1 : Int) (m1 : Es) (s2 w2 : Int) (m2 : Es) (s3 w3 : Int) (m3 : Es) (kind va pick : Int) : vc_lawTlb m c0 c1 c2 c3 s1 w1 m1 s2 w2 m2 s3 w3 m3 kind va pick = (
 (decide ((↑(List.length m) : Int) > (1048576 : Int)) = true → true = true ∧ m = m ∧ m1 = m1 ∧ m2 = m2 ∧ m3 = m3) ∧ (decide ((↑(List.length m) : Int) > (1048576 : Int)) = false → (List.length m1 = List.length m1 ∧ List.length m2 =
 List.length m2 ∧ List.length m3 = List.length m3 ∧ (List.length m1 ≤ (9223372036854775807 : Nat) ∧ List.length m2 ≤ (9223372036854775807 : Nat) ∧ List.length m3 ≤ (9223372036854775807 : Nat)) ∧ (0 : PmT [i64]) ≤ (1048576 : Int) ∧ (1048576 :
 Int) ≤ (1048576 : PmT [i64])) ∧ (decide (szC ((s1, w1, m1), (s2, w2, m2), s3, w3, m3) (1048576 : Int) < (0 : Int)) = true → true = true ∧ m = m ∧ m1 = m1 ∧ m2 = m2 ∧ m3 = m3) ∧ (decide (szC ((s1, w1, m1), (s2, w2, m2), s3, w3, m3) (1048576
 : Int) < (0 : Int)) = false → (List.length m = List.length m ∧ SzR (List.length m)) ∧ (List.length m1 = List.length m1 ∧ List.length m2 = List.length m2 ∧ List.length m3 = List.length m3 ∧ SzR (List.length m1) ∧ SzR (List.length m2) ∧ SzR
 (List.length m3)) ∧ (List.length m = List.length m ∧ List.length m1 = List.length m1 ∧ List.length m2 = List.length m2 ∧ List.length m3 = List.length m3 ∧ TlbR m (c0, c1, c2, c3) (s1, w1, m1, s2, w2, m2, s3, w3, m3) va) ∧ (List.length m =
 List.length m ∧ SzR (List.length m)) ∧ (List.length m1 = List.length m1 ∧ List.length m2 = List.length m2 ∧ List.length m3 = List.length m3 ∧ SzR (List.length m1) ∧ SzR (List.length m2) ∧ SzR (List.length m3)) ∧ (List.length m = List.length
 m ∧ List.length m1 = List.length m1 ∧ List.length m2 = List.length m2 ∧ List.length m3 = List.length m3 ∧ TlbR m (c0, c1, c2, c3) (s1, w1, m1, s2, w2, m2, s3, w3, m3) va) ∧ (List.length (tlbF m (c0, c1, c2, c3) (s1, w1, m1, s2, w2, m2, s3,
 w3, m3) kind va pick).snd.snd.snd.snd.fst = List.length (tlbF m (c0, c1, c2, c3) (s1, w1, m1, s2, w2, m2, s3, w3, m3) kind va pick).snd.snd.snd.snd.fst ∧ List.length (tlbF m (c0, c1, c2, c3) (s1, w1, m1, s2, w2, m2, s3, w3, m3) kind va
 pick).snd.snd.snd.snd.snd.snd.snd.fst = List.length (tlbF m (c0, c1, c2, c3) (s1, w1, m1, s2, w2, m2, s3, w3, m3) kind va pick).snd.snd.snd.snd.snd.snd.snd.fst ∧ List.length (tlbF m (c0, c1, c2, c3) (s1, w1, m1, s2, w2, m2, s3, w3, m3) kind
 va pick).snd.snd.snd.snd.snd.snd.snd.snd.snd.snd = List.length (tlbF m (c0, c1, c2, c3) (s1, w1, m1, s2, w2, m2, s3, w3, m3) kind va pick).snd.snd.snd.snd.snd.snd.snd.snd.snd.snd ∧ List.length (tlbF m (c0, c1, c2, c3) (s1, w1, m1, s2, w2,
 m2, s3, w3, m3) kind va pick).snd.snd.snd.snd.fst = List.length (tlbF m (c0, c1, c2, c3) (s1, w1, m1, s2, w2, m2, s3, w3, m3) kind va pick).snd.snd.snd.snd.fst ∧ List.length (tlbF m (c0, c1, c2, c3) (s1, w1, m1, s2, w2, m2, s3, w3, m3) kind
 va pick).snd.snd.snd.snd.snd.snd.snd.fst = List.length (tlbF m (c0, c1, c2, c3) (s1, w1, m1, s2, w2, m2, s3, w3, m3) kind va pick).snd.snd.snd.snd.snd.snd.snd.fst ∧ List.length (tlbF m (c0, c1, c2, c3) (s1, w1, m1, s2, w2, m2, s3, w3, m3)
 kind va pick).snd.snd.snd.snd.snd.snd.snd.snd.snd.snd = List.length (tlbF m (c0, c1, c2, c3) (s1, w1, m1, s2, w2, m2, s3, w3, m3) kind va pick).snd.snd.snd.snd.snd.snd.snd.snd.snd.snd ∧ ((tlbF m (c0, c1, c2, c3) (s1, w1, m1, s2, w2, m2, s3,
 w3, m3) kind va pick).fst, (tlbF m (c0, c1, c2, c3) (s1, w1, m1, s2, w2, m2, s3, w3, m3) kind va pick).snd.fst, (tlbF m (c0, c1, c2, c3) (s1, w1, m1, s2, w2, m2, s3, w3, m3) kind va pick).snd.snd.fst, (tlbF m (c0, c1, c2, c3) (s1, w1, m1,
 s2, w2, m2, s3, w3, m3) kind va pick).snd.snd.snd.fst, (tlbF m (c0, c1, c2, c3) (s1, w1, m1, s2, w2, m2, s3, w3, m3) kind va pick).snd.snd.snd.snd.fst, (tlbF m (c0, c1, c2, c3) (s1, w1, m1, s2, w2, m2, s3, w3, m3) kind va
 pick).snd.snd.snd.snd.snd.fst, (tlbF m (c0, c1, c2, c3) (s1, w1, m1, s2, w2, m2, s3, w3, m3) kind va pick).snd.snd.snd.snd.snd.snd.fst, (tlbF m (c0, c1, c2, c3) (s1, w1, m1, s2, w2, m2, s3, w3, m3) kind va
 pick).snd.snd.snd.snd.snd.snd.snd.fst, (tlbF m (c0, c1, c2, c3) (s1, w1, m1, s2, w2, m2, s3, w3, m3) kind va pick).snd.snd.snd.snd.snd.snd.snd.snd.fst, (tlbF m (c0, c1, c2, c3) (s1, w1, m1, s2, w2, m2, s3, w3, m3) kind va
 pick).snd.snd.snd.snd.snd.snd.snd.snd.snd.fst, (tlbF m (c0, c1, c2, c3) (s1, w1, m1, s2, w2, m2, s3, w3, m3) kind va pick).snd.snd.snd.snd.snd.snd.snd.snd.snd.snd) = ((tlbF m (c0, c1, c2, c3) (s1, w1, m1, s2, w2, m2, s3, w3, m3) kind va
 pick).fst, (tlbF m (c0, c1, c2, c3) (s1, w1, m1, s2, w2, m2, s3, w3, m3) kind va pick).snd.fst, (tlbF m (c0, c1, c2, c3) (s1, w1, m1, s2, w2, m2, s3, w3, m3) kind va pick).snd.snd.fst, (tlbF m (c0, c1, c2, c3) (s1, w1, m1, s2, w2, m2, s3,
 w3, m3) kind va pick).snd.snd.snd.fst, (tlbF m (c0, c1, c2, c3) (s1, w1, m1, s2, w2, m2, s3, w3, m3) kind va pick).snd.snd.snd.snd.fst, (tlbF m (c0, c1, c2, c3) (s1, w1, m1, s2, w2, m2, s3, w3, m3) kind va pick).snd.snd.snd.snd.snd.fst,
 (tlbF m (c0, c1, c2, c3) (s1, w1, m1, s2, w2, m2, s3, w3, m3) kind va pick).snd.snd.snd.snd.snd.snd.fst, (tlbF m (c0, c1, c2, c3) (s1, w1, m1, s2, w2, m2, s3, w3, m3) kind va pick).snd.snd.snd.snd.snd.snd.snd.fst, (tlbF m (c0, c1, c2, c3)
 (s1, w1, m1, s2, w2, m2, s3, w3, m3) kind va pick).snd.snd.snd.snd.snd.snd.snd.snd.fst, (tlbF m (c0, c1, c2, c3) (s1, w1, m1, s2, w2, m2, s3, w3, m3) kind va pick).snd.snd.snd.snd.snd.snd.snd.snd.snd.fst, (tlbF m (c0, c1, c2, c3) (s1, w1,
 m1, s2, w2, m2, s3, w3, m3) kind va pick).snd.snd.snd.snd.snd.snd.snd.snd.snd.snd) ∧ SzR (List.length (tlbF m (c0, c1, c2, c3) (s1, w1, m1, s2, w2, m2, s3, w3, m3) kind va pick).snd.snd.snd.snd.fst) ∧ SzR (List.length (tlbF m (c0, c1, c2,
 c3) (s1, w1, m1, s2, w2, m2, s3, w3, m3) kind va pick).snd.snd.snd.snd.snd.snd.snd.fst) ∧ SzR (List.length (tlbF m (c0, c1, c2, c3) (s1, w1, m1, s2, w2, m2, s3, w3, m3) kind va pick).snd.snd.snd.snd.snd.snd.snd.snd.snd.snd)) ∧ ((!true) =
 true → true = false ∧ m = m ∧ m1 = m1 ∧ m2 = m2 ∧ m3 = m3) ∧ ((!true) = false → (List.length m = List.length m ∧ SzR (List.length m)) ∧ (List.length m = List.length m ∧ List.length m = List.length m ∧ m = m ∧ SzR (List.length m)) ∧ ((!true)
 = true → true = false ∧ m = m ∧ m1 = m1 ∧ m2 = m2 ∧ m3 = m3) ∧ ((!true) = false → (List.length m1 = List.length m1 ∧ List.length m2 = List.length m2 ∧ List.length m3 = List.length m3 ∧ SzR (List.length m1) ∧ SzR (List.length m2) ∧ SzR
 (List.length m3)) ∧ (List.length m1 = List.length m1 ∧ List.length m2 = List.length m2 ∧ List.length m3 = List.length m3 ∧ List.length m1 = List.length m1 ∧ List.length m2 = List.length m2 ∧ List.length m3 = List.length m3 ∧ (s1, w1, m1,
 s2, w2, m2, s3, w3, m3) = (s1, w1, m1, s2, w2, m2, s3, w3, m3) ∧ SzR (List.length m1) ∧ SzR (List.length m2) ∧ SzR (List.length m3)) ∧ ((!true) = true → true = false ∧ m = m ∧ m1 = m1 ∧ m2 = m2 ∧ m3 = m3) ∧ ((!true) = false → (List.length m
 = List.length m ∧ MarkR (List.length m) (1 : Int)) ∧ (List.length m1 = List.length m1 ∧ List.length m2 = List.length m2 ∧ List.length m3 = List.length m3 ∧ (SzR (List.length m1) ∧ SzR (List.length m2) ∧ SzR (List.length m3)) ∧ (0 : Int) ≤
 (1 : Int) + (↑(List.length m) : PmT [i64]) ∧ (1 : Int) + (↑(List.length m) : PmT [i64]) ≤ (1099511627776 : Int) - (60000000 : Int)) ∧ ((!false) = true → List.length (tlbF m (c0, c1, c2, c3) (s1, w1, m1, s2, w2, m2, s3, w3, m3) kind va
 pick).snd.snd.snd.snd.fst = List.length (tlbF m (c0, c1, c2, c3) (s1, w1, m1, s2, w2, m2, s3, w3, m3) kind va pick).snd.snd.snd.snd.fst ∧ List.length (tlbF m (c0, c1, c2, c3) (s1, w1, m1, s2, w2, m2, s3, w3, m3) kind va
 pick).snd.snd.snd.snd.snd.snd.snd.fst = List.length (tlbF m (c0, c1, c2, c3) (s1, w1, m1, s2, w2, m2, s3, w3, m3) kind va pick).snd.snd.snd.snd.snd.snd.snd.fst ∧ List.length (tlbF m (c0, c1, c2, c3) (s1, w1, m1, s2, w2, m2, s3, w3, m3) kind
 va pick).snd.snd.snd.snd.snd.snd.snd.snd.snd.snd = List.length (tlbF m (c0, c1, c2, c3) (s1, w1, m1, s2, w2, m2, s3, w3, m3) kind va pick).snd.snd.snd.snd.snd.snd.snd.snd.snd.snd ∧ List.length (tlbF m (c0, c1, c2, c3) (s1, w1, m1, s2, w2,
 m2, s3, w3, m3) kind va pick).snd.snd.snd.snd.fst = List.length (tlbF m (c0, c1, c2, c3) (s1, w1, m1, s2, w2, m2, s3, w3, m3) kind va pick).snd.snd.snd.snd.fst ∧ List.length (tlbF m (c0, c1, c2, c3) (s1, w1, m1, s2, w2, m2, s3, w3, m3) kind
 va pick).snd.snd.snd.snd.snd.snd.snd.fst = List.length (tlbF m (c0, c1, c2, c3) (s1, w1, m1, s2, w2, m2, s3, w3, m3) kind va pick).snd.snd.snd.snd.snd.snd.snd.fst ∧ List.length (tlbF m (c0, c1, c2, c3) (s1, w1, m1, s2, w2, m2, s3, w3, m3)
 kind va pick).snd.snd.snd.snd.snd.snd.snd.snd.snd.snd = List.length (tlbF m (c0, c1, c2, c3) (s1, w1, m1, s2, w2, m2, s3, w3, m3) kind va pick).snd.snd.snd.snd.snd.snd.snd.snd.snd.snd ∧ ((tlbF m (c0, c1, c2, c3) (s1, w1, m1, s2, w2, m2, s3,
 w3, m3) kind va pick).fst, (tlbF m (c0, c1, c2, c3) (s1, w1, m1, s2, w2, m2, s3, w3, m3) kind va pick).snd.fst, (tlbF m (c0, c1, c2, c3) (s1, w1, m1, s2, w2, m2, s3, w3, m3) kind va pick).snd.snd.fst, (tlbF m (c0, c1, c2, c3) (s1, w1, m1,
 s2, w2, m2, s3, w3, m3) kind va pick).snd.snd.snd.fst, (tlbF m (c0, c1, c2, c3) (s1, w1, m1, s2, w2, m2, s3, w3, m3) kind va pick).snd.snd.snd.snd.fst, (tlbF m (c0, c1, c2, c3) (s1, w1, m1, s2, w2, m2, s3, w3, m3) kind va
 pick).snd.snd.snd.snd.snd.fst, (tlbF m (c0, c1, c2, c3) (s1, w1, m1, s2, w2, m2, s3, w3, m3) kind va pick).snd.snd.snd.snd.snd.snd.fst, (tlbF m (c0, c1, c2, c3) (s1, w1, m1, s2, w2, m2, s3, w3, m3) kind va
 pick).snd.snd.snd.snd.snd.snd.snd.fst, (tlbF m (c0, c1, c2, c3) (s1, w1, m1, s2, w2, m2, s3, w3, m3) kind va pick).snd.snd.snd.snd.snd.snd.snd.snd.fst, (tlbF m (c0, c1, c2, c3) (s1, w1, m1, s2, w2, m2, s3, w3, m3) kind va
 pick).snd.snd.snd.snd.snd.snd.snd.snd.snd.fst, (tlbF m (c0, c1, c2, c3) (s1, w1, m1, s2, w2, m2, s3, w3, m3) kind va pick).snd.snd.snd.snd.snd.snd.snd.snd.snd.snd) = ((tlbF m (c0, c1, c2, c3) (s1, w1, m1, s2, w2, m2, s3, w3, m3) kind va
 pick).fst, (tlbF m (c0, c1, c2, c3) (s1, w1, m1, s2, w2, m2, s3, w3, m3) kind va pick).snd.fst, (tlbF m (c0, c1, c2, c3) (s1, w1, m1, s2, w2, m2, s3, w3, m3) kind va pick).snd.snd.fst, (tlbF m (c0, c1, c2, c3) (s1, w1, m1, s2, w2, m2, s3,
 w3, m3) kind va pick).snd.snd.snd.fst, (tlbF m (c0, c1, c2, c3) (s1, w1, m1, s2, w2, m2, s3, w3, m3) kind va pick).snd.snd.snd.snd.fst, (tlbF m (c0, c1, c2, c3) (s1, w1, m1, s2, w2, m2, s3, w3, m3) kind va pick).snd.snd.snd.snd.snd.fst,
 (tlbF m (c0, c1, c2, c3) (s1, w1, m1, s2, w2, m2, s3, w3, m3) kind va pick).snd.snd.snd.snd.snd.snd.fst, (tlbF m (c0, c1, c2, c3) (s1, w1, m1, s2, w2, m2, s3, w3, m3) kind va pick).snd.snd.snd.snd.snd.snd.snd.fst, (tlbF m (c0, c1, c2, c3)
 (s1, w1, m1, s2, w2, m2, s3, w3, m3) kind va pick).snd.snd.snd.snd.snd.snd.snd.snd.fst, (tlbF m (c0, c1, c2, c3) (s1, w1, m1, s2, w2, m2, s3, w3, m3) kind va pick).snd.snd.snd.snd.snd.snd.snd.snd.snd.fst, (tlbF m (c0, c1, c2, c3) (s1, w1,
 m1, s2, w2, m2, s3, w3, m3) kind va pick).snd.snd.snd.snd.snd.snd.snd.snd.snd.snd) ∧ SzR (List.length (tlbF m (c0, c1, c2, c3) (s1, w1, m1, s2, w2, m2, s3, w3, m3) kind va pick).snd.snd.snd.snd.fst) ∧ SzR (List.length (tlbF m (c0, c1, c2,
 c3) (s1, w1, m1, s2, w2, m2, s3, w3, m3) kind va pick).snd.snd.snd.snd.snd.snd.snd.fst) ∧ SzR (List.length (tlbF m (c0, c1, c2, c3) (s1, w1, m1, s2, w2, m2, s3, w3, m3) kind va pick).snd.snd.snd.snd.snd.snd.snd.snd.snd.snd)) ∧ ((!true) =
 true → true = false ∧ m = m ∧ m1 = m1 ∧ m2 = m2 ∧ m3 = m3) ∧ ((!true) = false → (List.length (tlbF m (c0, c1, c2, c3) (s1, w1, m1, s2, w2, m2, s3, w3, m3) kind va pick).snd.snd.snd.snd.fst = List.length (tlbF m (c0, c1, c2, c3) (s1, w1, m1,
 s2, w2, m2, s3, w3, m3) kind va pick).snd.snd.snd.snd.fst ∧ List.length (tlbF m (c0, c1, c2, c3) (s1, w1, m1, s2, w2, m2, s3, w3, m3) kind va pick).snd.snd.snd.snd.snd.snd.snd.fst = List.length (tlbF m (c0, c1, c2, c3) (s1, w1, m1, s2, w2,
 m2, s3, w3, m3) kind va pick).snd.snd.snd.snd.snd.snd.snd.fst ∧ List.length (tlbF m (c0, c1, c2, c3) (s1, w1, m1, s2, w2, m2, s3, w3, m3) kind va pick).snd.snd.snd.snd.snd.snd.snd.snd.snd.snd = List.length (tlbF m (c0, c1, c2, c3) (s1, w1,
 m1, s2, w2, m2, s3, w3, m3) kind va pick).snd.snd.snd.snd.snd.snd.snd.snd.snd.snd ∧ (SzR (List.length (tlbF m (c0, c1, c2, c3) (s1, w1, m1, s2, w2, m2, s3, w3, m3) kind va pick).snd.snd.snd.snd.fst) ∧ SzR (List.length (tlbF m (c0, c1, c2,
 c3) (s1, w1, m1, s2, w2, m2, s3, w3, m3) kind va pick).snd.snd.snd.snd.snd.snd.snd.fst) ∧ SzR (List.length (tlbF m (c0, c1, c2, c3) (s1, w1, m1, s2, w2, m2, s3, w3, m3) kind va pick).snd.snd.snd.snd.snd.snd.snd.snd.snd.snd)) ∧ (0 : Int) ≤
 (1 : Int) ∧ (1 : Int) ≤ (1099511627776 : Int) - (60000000 : Int)) ∧ (List.length (tlbF m (c0, c1, c2, c3) (s1, w1, m1, s2, w2, m2, s3, w3, m3) kind va pick).snd.snd.snd.snd.fst = List.length (markEs (1 : Int) (List.length (tlbF m (c0, c1,
 c2, c3) (s1, w1, m1, s2, w2, m2, s3, w3, m3) kind va pick).snd.snd.snd.snd.fst)) ∧ List.length (tlbF m (c0, c1, c2, c3) (s1, w1, m1, s2, w2, m2, s3, w3, m3) kind va pick).snd.snd.snd.snd.snd.snd.snd.fst = List.length (markEs ((1 : Int) + (6
 : Int) * (↑(List.length (tlbF m (c0, c1, c2, c3) (s1, w1, m1, s2, w2, m2, s3, w3, m3) kind va pick).snd.snd.snd.snd.fst) : Int)) (List.length (tlbF m (c0, c1, c2, c3) (s1, w1, m1, s2, w2, m2, s3, w3, m3) kind va
 pick).snd.snd.snd.snd.snd.snd.snd.fst)) ∧ List.length (tlbF m (c0, c1, c2, c3) (s1, w1, m1, s2, w2, m2, s3, w3, m3) kind va pick).snd.snd.snd.snd.snd.snd.snd.snd.snd.snd = List.length (markEs ((1 : Int) + (6 : Int) * (↑(List.length (tlbF m
 (c0, c1, c2, c3) (s1, w1, m1, s2, w2, m2, s3, w3, m3) kind va pick).snd.snd.snd.snd.fst) : Int) + (6 : Int) * (↑(List.length (tlbF m (c0, c1, c2, c3) (s1, w1, m1, s2, w2, m2, s3, w3, m3) kind va pick).snd.snd.snd.snd.snd.snd.snd.fst) :
 Int)) (List.length (tlbF m (c0, c1, c2, c3) (s1, w1, m1, s2, w2, m2, s3, w3, m3) kind va pick).snd.snd.snd.snd.snd.snd.snd.snd.snd.snd)) ∧ ((SzR (List.length (markEs (1 : Int) (List.length (tlbF m (c0, c1, c2, c3) (s1, w1, m1, s2, w2, m2,
 s3, w3, m3) kind va pick).snd.snd.snd.snd.fst))) ∧ SzR (List.length (markEs ((1 : Int) + (6 : Int) * (↑(List.length (tlbF m (c0, c1, c2, c3) (s1, w1, m1, s2, w2, m2, s3, w3, m3) kind va pick).snd.snd.snd.snd.fst) : Int)) (List.length (tlbF
 m (c0, c1, c2, c3) (s1, w1, m1, s2, w2, m2, s3, w3, m3) kind va pick).snd.snd.snd.snd.snd.snd.snd.fst))) ∧ SzR (List.length (markEs ((1 : Int) + (6 : Int) * (↑(List.length (tlbF m (c0, c1, c2, c3) (s1, w1, m1, s2, w2, m2, s3, w3, m3) kind
 va pick).snd.snd.snd.snd.fst) : Int) + (6 : Int) * (↑(List.length (tlbF m (c0, c1, c2, c3) (s1, w1, m1, s2, w2, m2, s3, w3, m3) kind va pick).snd.snd.snd.snd.snd.snd.snd.fst) : Int)) (List.length (tlbF m (c0, c1, c2, c3) (s1, w1, m1, s2,
 w2, m2, s3, w3, m3) kind va pick).snd.snd.snd.snd.snd.snd.snd.snd.snd.snd)))) ∧ (0 : Int) ≤ (1 : Int) ∧ (1 : Int) ≤ (1099511627776 : Int) - (60000000 : Int)) ∧ (((tlbF m (c0, c1, c2, c3) (s1, w1, m1, s2, w2, m2, s3, w3, m3) kind va
 pick).snd.snd.fst, (tlbF m (c0, c1, c2, c3) (s1, w1, m1, s2, w2, m2, s3, w3, m3) kind va pick).snd.snd.snd.fst, markEs (1 : Int) (List.length (tlbF m (c0, c1, c2, c3) (s1, w1, m1, s2, w2, m2, s3, w3, m3) kind va pick).snd.snd.snd.snd.fst)),
 ((tlbF m (c0, c1, c2, c3) (s1, w1, m1, s2, w2, m2, s3, w3, m3) kind va pick).snd.snd.snd.snd.snd.fst, (tlbF m (c0, c1, c2, c3) (s1, w1, m1, s2, w2, m2, s3, w3, m3) kind va pick).snd.snd.snd.snd.snd.snd.fst, markEs ((1 : Int) + (6 : Int) *
 (↑(List.length (tlbF m (c0, c1, c2, c3) (s1, w1, m1, s2, w2, m2, s3, w3, m3) kind va pick).snd.snd.snd.snd.fst) : Int)) (List.length (tlbF m (c0, c1, c2, c3) (s1, w1, m1, s2, w2, m2, s3, w3, m3) kind va
 pick).snd.snd.snd.snd.snd.snd.snd.fst)), (tlbF m (c0, c1, c2, c3) (s1, w1, m1, s2, w2, m2, s3, w3, m3) kind va pick).snd.snd.snd.snd.snd.snd.snd.snd.fst, (tlbF m (c0, c1, c2, c3) (s1, w1, m1, s2, w2, m2, s3, w3, m3) kind va
 pick).snd.snd.snd.snd.snd.snd.snd.snd.snd.fst, markEs ((1 : Int) + (6 : Int) * (↑(List.length (tlbF m (c0, c1, c2, c3) (s1, w1, m1, s2, w2, m2, s3, w3, m3) kind va pick).snd.snd.snd.snd.fst) : Int) + (6 : Int) * (↑(List.length (tlbF m (c0,
 c1, c2, c3) (s1, w1, m1, s2, w2, m2, s3, w3, m3) kind va pick).snd.snd.snd.snd.snd.snd.snd.fst) : Int)) (List.length (tlbF m (c0, c1, c2, c3) (s1, w1, m1, s2, w2, m2, s3, w3, m3) kind va pick).snd.snd.snd.snd.snd.snd.snd.snd.snd.snd)) =
 (((tlbF m (c0, c1, c2, c3) (s1, w1, m1, s2, w2, m2, s3, w3, m3) kind va pick).snd.snd.fst, (tlbF m (c0, c1, c2, c3) (s1, w1, m1, s2, w2, m2, s3, w3, m3) kind va pick).snd.snd.snd.fst, markEs (1 : Int) (List.length (markEs (1 : Int)
 (List.length (tlbF m (c0, c1, c2, c3) (s1, w1, m1, s2, w2, m2, s3, w3, m3) kind va pick).snd.snd.snd.snd.fst)))), ((tlbF m (c0, c1, c2, c3) (s1, w1, m1, s2, w2, m2, s3, w3, m3) kind va pick).snd.snd.snd.snd.snd.fst, (tlbF m (c0, c1, c2, c3)
 (s1, w1, m1, s2, w2, m2, s3, w3, m3) kind va pick).snd.snd.snd.snd.snd.snd.fst, markEs ((1 : Int) + (6 : Int) * (↑(List.length (markEs (1 : Int) (List.length (tlbF m (c0, c1, c2, c3) (s1, w1, m1, s2, w2, m2, s3, w3, m3) kind va
 pick).snd.snd.snd.snd.fst))) : Int)) (List.length (markEs ((1 : Int) + (6 : Int) * (↑(List.length (tlbF m (c0, c1, c2, c3) (s1, w1, m1, s2, w2, m2, s3, w3, m3) kind va pick).snd.snd.snd.snd.fst) : Int)) (List.length (tlbF m (c0, c1, c2, c3)
 (s1, w1, m1, s2, w2, m2, s3, w3, m3) kind va pick).snd.snd.snd.snd.snd.snd.snd.fst)))), (tlbF m (c0, c1, c2, c3) (s1, w1, m1, s2, w2, m2, s3, w3, m3) kind va pick).snd.snd.snd.snd.snd.snd.snd.snd.fst, (tlbF m (c0, c1, c2, c3) (s1, w1, m1,
 s2, w2, m2, s3, w3, m3) kind va pick).snd.snd.snd.snd.snd.snd.snd.snd.snd.fst, markEs ((1 : Int) + (6 : Int) * (↑(List.length (markEs (1 : Int) (List.length (tlbF m (c0, c1, c2, c3) (s1, w1, m1, s2, w2, m2, s3, w3, m3) kind va
 pick).snd.snd.snd.snd.fst))) : Int) + (6 : Int) * (↑(List.length (markEs ((1 : Int) + (6 : Int) * (↑(List.length (tlbF m (c0, c1, c2, c3) (s1, w1, m1, s2, w2, m2, s3, w3, m3) kind va pick).snd.snd.snd.snd.fst) : Int)) (List.length (tlbF m
 (c0, c1, c2, c3) (s1, w1, m1, s2, w2, m2, s3, w3, m3) kind va pick).snd.snd.snd.snd.snd.snd.snd.fst))) : Int)) (List.length (markEs ((1 : Int) + (6 : Int) * (↑(List.length (tlbF m (c0, c1, c2, c3) (s1, w1, m1, s2, w2, m2, s3, w3, m3) kind
 va pick).snd.snd.snd.snd.fst) : Int) + (6 : Int) * (↑(List.length (tlbF m (c0, c1, c2, c3) (s1, w1, m1, s2, w2, m2, s3, w3, m3) kind va pick).snd.snd.snd.snd.snd.snd.snd.fst) : Int)) (List.length (tlbF m (c0, c1, c2, c3) (s1, w1, m1, s2,
 w2, m2, s3, w3, m3) kind va pick).snd.snd.snd.snd.snd.snd.snd.snd.snd.snd))))) ∧ (false = true → true = false ∧ m = m ∧ m1 = m1 ∧ m2 = m2 ∧ m3 = m3) ∧ (false = false → (((1 : Int) + (6 : PmT [i64]) * (↑(List.length (markEs (1 : Int)
 (List.length (tlbF m (c0, c1, c2, c3) (s1, w1, m1, s2, w2, m2, s3, w3, m3) kind va pick).snd.snd.snd.snd.fst))) : PmT [i64]) + (6 : PmT [i64]) * (↑(List.length (markEs ((1 : Int) + (6 : Int) * (↑(List.length (tlbF m (c0, c1, c2, c3) (s1,
 w1, m1, s2, w2, m2, s3, w3, m3) kind va pick).snd.snd.snd.snd.fst) : Int)) (List.length (tlbF m (c0, c1, c2, c3) (s1, w1, m1, s2, w2, m2, s3, w3, m3) kind va pick).snd.snd.snd.snd.snd.snd.snd.fst))) : PmT [i64]) + (6 : PmT [i64]) *
 (↑(List.length (markEs ((1 : Int) + (6 : Int) * (↑(List.length (tlbF m (c0, c1, c2, c3) (s1, w1, m1, s2, w2, m2, s3, w3, m3) kind va pick).snd.snd.snd.snd.fst) : Int) + (6 : Int) * (↑(List.length (tlbF m (c0, c1, c2, c3) (s1, w1, m1, s2,
 w2, m2, s3, w3, m3) kind va pick).snd.snd.snd.snd.snd.snd.snd.fst) : Int)) (List.length (tlbF m (c0, c1, c2, c3) (s1, w1, m1, s2, w2, m2, s3, w3, m3) kind va pick).snd.snd.snd.snd.snd.snd.snd.snd.snd.snd))) : PmT [i64]) != (1 : Int) + (6 :
 PmT [i64]) * (↑(List.length (tlbF m (c0, c1, c2, c3) (s1, w1, m1, s2, w2, m2, s3, w3, m3) kind va pick).snd.snd.snd.snd.fst) : PmT [i64]) + (6 : PmT [i64]) * (↑(List.length (tlbF m (c0, c1, c2, c3) (s1, w1, m1, s2, w2, m2, s3, w3, m3) kind
 va pick).snd.snd.snd.snd.snd.snd.snd.fst) : PmT [i64]) + (6 : PmT [i64]) * (↑(List.length (tlbF m (c0, c1, c2, c3) (s1, w1, m1, s2, w2, m2, s3, w3, m3) kind va pick).snd.snd.snd.snd.snd.snd.snd.snd.snd.snd) : PmT [i64])) = true → true =
 false ∧ m = m ∧ m1 = m1 ∧ m2 = m2 ∧ m3 = m3) ∧ (((1 : Int) + (6 : PmT [i64]) * (↑(List.length (markEs (1 : Int) (List.length (tlbF m (c0, c1, c2, c3) (s1, w1, m1, s2, w2, m2, s3, w3, m3) kind va pick).snd.snd.snd.snd.fst))) : PmT [i64]) +
 (6 : PmT [i64]) * (↑(List.length (markEs ((1 : Int) + (6 : Int) * (↑(List.length (tlbF m (c0, c1, c2, c3) (s1, w1, m1, s2, w2, m2, s3, w3, m3) kind va pick).snd.snd.snd.snd.fst) : Int)) (List.length (tlbF m (c0, c1, c2, c3) (s1, w1, m1, s2,
 w2, m2, s3, w3, m3) kind va pick).snd.snd.snd.snd.snd.snd.snd.fst))) : PmT [i64]) + (6 : PmT [i64]) * (↑(List.length (markEs ((1 : Int) + (6 : Int) * (↑(List.length (tlbF m (c0, c1, c2, c3) (s1, w1, m1, s2, w2, m2, s3, w3, m3) kind va
 pick).snd.snd.snd.snd.fst) : Int) + (6 : Int) * (↑(List.length (tlbF m (c0, c1, c2, c3) (s1, w1, m1, s2, w2, m2, s3, w3, m3) kind va pick).snd.snd.snd.snd.snd.snd.snd.fst) : Int)) (List.length (tlbF m (c0, c1, c2, c3) (s1, w1, m1, s2, w2,
 m2, s3, w3, m3) kind va pick).snd.snd.snd.snd.snd.snd.snd.snd.snd.snd))) : PmT [i64]) != (1 : Int) + (6 : PmT [i64]) * (↑(List.length (tlbF m (c0, c1, c2, c3) (s1, w1, m1, s2, w2, m2, s3, w3, m3) kind va pick).snd.snd.snd.snd.fst) : PmT
 [i64]) + (6 : PmT [i64]) * (↑(List.length (tlbF m (c0, c1, c2, c3) (s1, w1, m1, s2, w2, m2, s3, w3, m3) kind va pick).snd.snd.snd.snd.snd.snd.snd.fst) : PmT [i64]) + (6 : PmT [i64]) * (↑(List.length (tlbF m (c0, c1, c2, c3) (s1, w1, m1, s2,
 w2, m2, s3, w3, m3) kind va pick).snd.snd.snd.snd.snd.snd.snd.snd.snd.snd) : PmT [i64])) = false → (List.length m = List.length m ∧ SzR (List.length m)) ∧ (List.length m1 = List.length m1 ∧ List.length m2 = List.length m2 ∧ List.length m3 =
 List.length m3 ∧ SzR (List.length m1) ∧ SzR (List.length m2) ∧ SzR (List.length m3)) ∧ (List.length m = List.length m ∧ List.length m1 = List.length m1 ∧ List.length m2 = List.length m2 ∧ List.length m3 = List.length m3 ∧ TlbR m (c0, c1,
 c2, c3) (s1, w1, m1, s2, w2, m2, s3, w3, m3) va) ∧ (List.length (tlbF m (c0, c1, c2, c3) (s1, w1, m1, s2, w2, m2, s3, w3, m3) kind va pick).snd.snd.snd.snd.fst = List.length (tlbF m (c0, c1, c2, c3) (s1, w1, m1, s2, w2, m2, s3, w3, m3) kind
 va pick).snd.snd.snd.snd.fst ∧ List.length (tlbF m (c0, c1, c2, c3) (s1, w1, m1, s2, w2, m2, s3, w3, m3) kind va pick).snd.snd.snd.snd.snd.snd.snd.fst = List.length (tlbF m (c0, c1, c2, c3) (s1, w1, m1, s2, w2, m2, s3, w3, m3) kind va
 pick).snd.snd.snd.snd.snd.snd.snd.fst ∧ List.length (tlbF m (c0, c1, c2, c3) (s1, w1, m1, s2, w2, m2, s3, w3, m3) kind va pick).snd.snd.snd.snd.snd.snd.snd.snd.snd.snd = List.length (tlbF m (c0, c1, c2, c3) (s1, w1, m1, s2, w2, m2, s3, w3,
 m3) kind va pick).snd.snd.snd.snd.snd.snd.snd.snd.snd.snd ∧ List.length (tlbF m (c0, c1, c2, c3) (s1, w1, m1, s2, w2, m2, s3, w3, m3) kind va pick).snd.snd.snd.snd.fst = List.length (tlbF m (c0, c1, c2, c3) (s1, w1, m1, s2, w2, m2, s3, w3,
 m3) kind va pick).snd.snd.snd.snd.fst ∧ List.length (tlbF m (c0, c1, c2, c3) (s1, w1, m1, s2, w2, m2, s3, w3, m3) kind va pick).snd.snd.snd.snd.snd.snd.snd.fst = List.length (tlbF m (c0, c1, c2, c3) (s1, w1, m1, s2, w2, m2, s3, w3, m3) kind
 va pick).snd.snd.snd.snd.snd.snd.snd.fst ∧ List.length (tlbF m (c0, c1, c2, c3) (s1, w1, m1, s2, w2, m2, s3, w3, m3) kind va pick).snd.snd.snd.snd.snd.snd.snd.snd.snd.snd = List.length (tlbF m (c0, c1, c2, c3) (s1, w1, m1, s2, w2, m2, s3,
 w3, m3) kind va pick).snd.snd.snd.snd.snd.snd.snd.snd.snd.snd ∧ ((tlbF m (c0, c1, c2, c3) (s1, w1, m1, s2, w2, m2, s3, w3, m3) kind va pick).fst, (tlbF m (c0, c1, c2, c3) (s1, w1, m1, s2, w2, m2, s3, w3, m3) kind va pick).snd.fst, (tlbF m
 (c0, c1, c2, c3) (s1, w1, m1, s2, w2, m2, s3, w3, m3) kind va pick).snd.snd.fst, (tlbF m (c0, c1, c2, c3) (s1, w1, m1, s2, w2, m2, s3, w3, m3) kind va pick).snd.snd.snd.fst, (tlbF m (c0, c1, c2, c3) (s1, w1, m1, s2, w2, m2, s3, w3, m3) kind
 va pick).snd.snd.snd.snd.fst, (tlbF m (c0, c1, c2, c3) (s1, w1, m1, s2, w2, m2, s3, w3, m3) kind va pick).snd.snd.snd.snd.snd.fst, (tlbF m (c0, c1, c2, c3) (s1, w1, m1, s2, w2, m2, s3, w3, m3) kind va pick).snd.snd.snd.snd.snd.snd.fst,
 (tlbF m (c0, c1, c2, c3) (s1, w1, m1, s2, w2, m2, s3, w3, m3) kind va pick).snd.snd.snd.snd.snd.snd.snd.fst, (tlbF m (c0, c1, c2, c3) (s1, w1, m1, s2, w2, m2, s3, w3, m3) kind va pick).snd.snd.snd.snd.snd.snd.snd.snd.fst, (tlbF m (c0, c1,
 c2, c3) (s1, w1, m1, s2, w2, m2, s3, w3, m3) kind va pick).snd.snd.snd.snd.snd.snd.snd.snd.snd.fst, (tlbF m (c0, c1, c2, c3) (s1, w1, m1, s2, w2, m2, s3, w3, m3) kind va pick).snd.snd.snd.snd.snd.snd.snd.snd.snd.snd) = ((tlbF m (c0, c1, c2,
 c3) (s1, w1, m1, s2, w2, m2, s3, w3, m3) kind va pick).fst, (tlbF m (c0, c1, c2, c3) (s1, w1, m1, s2, w2, m2, s3, w3, m3) kind va pick).snd.fst, (tlbF m (c0, c1, c2, c3) (s1, w1, m1, s2, w2, m2, s3, w3, m3) kind va pick).snd.snd.fst, (tlbF
 m (c0, c1, c2, c3) (s1, w1, m1, s2, w2, m2, s3, w3, m3) kind va pick).snd.snd.snd.fst, (tlbF m (c0, c1, c2, c3) (s1, w1, m1, s2, w2, m2, s3, w3, m3) kind va pick).snd.snd.snd.snd.fst, (tlbF m (c0, c1, c2, c3) (s1, w1, m1, s2, w2, m2, s3,
 w3, m3) kind va pick).snd.snd.snd.snd.snd.fst, (tlbF m (c0, c1, c2, c3) (s1, w1, m1, s2, w2, m2, s3, w3, m3) kind va pick).snd.snd.snd.snd.snd.snd.fst, (tlbF m (c0, c1, c2, c3) (s1, w1, m1, s2, w2, m2, s3, w3, m3) kind va
 pick).snd.snd.snd.snd.snd.snd.snd.fst, (tlbF m (c0, c1, c2, c3) (s1, w1, m1, s2, w2, m2, s3, w3, m3) kind va pick).snd.snd.snd.snd.snd.snd.snd.snd.fst, (tlbF m (c0, c1, c2, c3) (s1, w1, m1, s2, w2, m2, s3, w3, m3) kind va
 pick).snd.snd.snd.snd.snd.snd.snd.snd.snd.fst, (tlbF m (c0, c1, c2, c3) (s1, w1, m1, s2, w2, m2, s3, w3, m3) kind va pick).snd.snd.snd.snd.snd.snd.snd.snd.snd.snd) ∧ SzR (List.length (tlbF m (c0, c1, c2, c3) (s1, w1, m1, s2, w2, m2, s3, w3,
 m3) kind va pick).snd.snd.snd.snd.fst) ∧ SzR (List.length (tlbF m (c0, c1, c2, c3) (s1, w1, m1, s2, w2, m2, s3, w3, m3) kind va pick).snd.snd.snd.snd.snd.snd.snd.fst) ∧ SzR (List.length (tlbF m (c0, c1, c2, c3) (s1, w1, m1, s2, w2, m2, s3,
 w3, m3) kind va pick).snd.snd.snd.snd.snd.snd.snd.snd.snd.snd)) ∧ ((!true) = true → true = false ∧ m = m ∧ m1 = m1 ∧ m2 = m2 ∧ m3 = m3) ∧ ((!true) = false → true = true ∧ m = m ∧ m1 = m1 ∧ m2 = m2 ∧ m3 = m3)))))))))) := by kernel_rfl
end Go.Proofs.Ytfiddfbagbaofaa.V
namespace Go.Proofs.Ytfiddfbagbaofaa.V
open Go
set_option linter.unusedSimpArgs false
/-! ### plain facts -/
theorem getD_set {α : Type} (m : List α) (k i : Nat) (e d : α) : (m.set k e).getD i d = if i = k ∧ k < m.length then e else m.getD i d := by
  simp only [List.getD_eq_getElem?_getD, List.getElem?_set]
  split
  · rename_i h
    subst h
    split
    · rename_i h2; simp [h2]
    · rename_i h2
      rw [if_neg (fun h => h2 h.2), List.getElem?_eq_none (by omega)]
  · rename_i h
    rw [if_neg (fun h' => h h'.1.symm)]
theorem good_ent {ptr : Bool} {l va satp p : Int} (hl : LvR l) (hk : kindM p l = wantM ptr) : goodE ptr (entM l va satp p) = true := by
  obtain ⟨a0, a1⟩ := asid_in satp
  have ht : tagM va l < 2 ^ (9 - 3 * l).toNat := by
    unfold tagM
    have h0 : 0 ≤ va % 32768 := Int.emod_nonneg _ (by decide)
    have h1 : va % 32768 < 32768 := Int.emod_lt_of_pos _ (by decide)
    rcases lv_cases hl with rfl | rfl | rfl
    · rw [show ((2 : Int) ^ (6 + 3 * 0 : Int).toNat) = 64 by decide, show ((2 : Int) ^ (9 - 3 * 0 : Int).toNat) = 512 by decide]; omega
    · rw [show ((2 : Int) ^ (6 + 3 * 1 : Int).toNat) = 512 by decide, show ((2 : Int) ^ (9 - 3 * 1 : Int).toNat) = 64 by decide]; omega
    · rw [show ((2 : Int) ^ (6 + 3 * 2 : Int).toNat) = 4096 by decide, show ((2 : Int) ^ (9 - 3 * 2 : Int).toNat) = 8 by decide]; omega
  simp only [goodE, entM, Bool.and_eq_true, decide_eq_true_eq, beq_iff_eq]
  exact ⟨⟨⟨⟨⟨trivial, lvM_iff.2 hl⟩, decide_eq_true ht⟩, decide_eq_true (by omega)⟩, trivial⟩, hk⟩
theorem valid_ins {ptr : Bool} {t : Tl} {e : En} {pick : Int} (hv : validM ptr t = true) (he : goodE ptr e = true) (h0 : 0 ≤ e.2.2.1) (p0 : 0 ≤ pick) : validM ptr (insT t e pick) = true := by
  obtain ⟨s, w, m⟩ := t
  have hd := valid_head hv
  obtain ⟨hs, w1, w4, hl⟩ := head_sw hd
  have hc := good_tag he
  obtain ⟨f0, f1⟩ := from_in (s := s) (w := w) (by omega) w1 h0 hc
  obtain ⟨y0, y1⟩ := way_in (m := m) (s := s) (w := w) (c := e.2.2.1) (p := pick) w1 p0
  simp only [validM, Bool.and_eq_true] at hv
  simp only [validM, insT, Bool.and_eq_true]
  refine ⟨by rw [headM_len (insMs_length ..)]; exact hd, rowsM_iff.2 (fun i hi => ?_)⟩
  rw [insMs_length] at hi
  have hold := rowsM_iff.1 hv.2 i hi
  unfold insMs
  rw [getD_set]
  split
  · rename_i hik
    simp only [okAt, Bool.or_eq_true, Bool.and_eq_true, beq_iff_eq]
    refine .inr ⟨he, ?_⟩
    have hi2 : (i : Int) = fromM s w e.2.2.1 + wayM m s w e.2.2.1 pick := by omega
    have hw0 : 0 ≤ (i : Int) := by omega
    rw [tag_wrap h0 hc, tmod_pos h0, tdiv_pos hw0, hi2]
    unfold fromM
    rw [tag_wrap h0 hc, tmod_pos h0, Int.add_comm, Int.add_mul_ediv_right _ _ (by omega), Int.ediv_eq_zero_of_lt y0 y1, Int.zero_add]
  · exact hold
theorem TlR_ins {t : Tl} {e : En} {pick : Int} (h : TlR t) (he : EnR e) : TlR (insT t e pick) := by
  obtain ⟨a, b, c, d⟩ := h
  refine ⟨a, b, ?_, fun x hx => ?_⟩
  · show SzR (insMs ..).length
    rw [insMs_length]; exact c
  · rcases List.mem_or_eq_of_mem_set hx with g | g
    · exact d x g
    · rw [g]; exact he
theorem insert_ins {ptr : Bool} {t : Tl} {e : En} {pick : Int} (hv : validM ptr t = true) (he : goodE ptr e = true) (p0 : 0 ≤ pick) (p1 : pick ≤ 255) : insertM t e pick = insT t e pick := by
  have h : takesM t e pick = true := by
    simp only [takesM, Bool.and_eq_true, Bool.or_eq_true, decide_eq_true_eq]
    refine ⟨⟨p0, p1⟩, ?_⟩
    cases ptr
    · exact .inl ⟨hv, he⟩
    · exact .inr ⟨hv, he⟩
  unfold insertM insT
  rw [if_pos h]
theorem walkN_recs {m : By} {va : Int} (hm : ByteR m) : ∀ (n : Nat) (p : Int), ∀ r ∈ (walkN m va n p).2.2.2, 0 ≤ r.1 ∧ r.1 < n ∧ U64 r.2.2
  | 0, _, r, h => by cases h
  | n + 1, p, r, h => by
    have hr := rd_u64 (a := 64 * p + 8 * idxM va n) hm
    unfold walkN at h
    split at h
    · cases h
    · split at h
      · cases h
      · split at h
        · simp only [List.mem_singleton] at h
          subst h
          exact ⟨by show (0 : Int) ≤ (n : Int); omega, by show (n : Int) < ((n + 1 : Nat) : Int); omega, hr⟩
        · rcases List.mem_cons.1 h with g | g
          · subst g
            exact ⟨by show (0 : Int) ≤ (n : Int); omega, by show (n : Int) < ((n + 1 : Nat) : Int); omega, hr⟩
          · obtain ⟨a, b, c⟩ := walkN_recs hm n _ r g
            exact ⟨a, by omega, c⟩
theorem ent_tag {l va satp p : Int} (hl : LvR l) : 0 ≤ (entM l va satp p).2.2.1 := (tag_in hl).1
theorem keepP_good {va satp pick : Int} {t : Tl} {r : Rc} (p0 : 0 ≤ pick) (hv : validM true t = true) (ht : TlR t) (hr : LvR r.1 ∧ U64 r.2.2) : validM true (keepP va satp pick t r) = true ∧ TlR (keepP va satp pick t r) := by
  unfold keepP
  split
  · rename_i hk
    exact ⟨valid_ins hv (good_ent hr.1 hk) (ent_tag hr.1) p0, TlR_ins ht (ent_in hr.1 hr.2)⟩
  · exact ⟨hv, ht⟩
theorem keepAll_good {va satp pick : Int} (p0 : 0 ≤ pick) : ∀ (rs : Rs) (t : Tl), validM true t = true → TlR t → (∀ r ∈ rs, LvR r.1 ∧ U64 r.2.2) → validM true (keepAll va satp pick t rs) = true ∧ TlR (keepAll va satp pick t rs)
  | [], _, hv, ht, _ => ⟨hv, ht⟩
  | r :: rs, t, hv, ht, hr => by
    obtain ⟨a, b⟩ := keepP_good (va := va) (satp := satp) p0 hv ht (hr r List.mem_cons_self)
    exact keepAll_good p0 rs _ a b (fun x hx => hr x (List.mem_cons_of_mem _ hx))
theorem take_next {α : Type} {m : List α} {i : Nat} (h : i < m.length) (d : α) : m.take (i + 1) = m.take i ++ [m.getD i d] := by
  rw [List.take_add_one, List.getElem?_eq_getElem h, List.getD_eq_getElem?_getD, List.getElem?_eq_getElem h]
  rfl
theorem kZ0_ok : KnowsD Try.prog kZ0 := (((((kI2_ok.append kH_ok).append kK2_ok).append kY1_ok).append kN2_ok).append kO1_ok).append kM_ok
theorem FZ0_ok : DictOk Try.prog FZ0 := mkD_ok kZ0_ok .nil .nil
theorem goodT_bif (c : Ct) (k : Cch) (kind pick : Int) : (bif bif bif bif bif bif !goodC k then true else decide (kind < 0) then true else decide (kind > 2) then true else decide (c.1 < 0) then true else decide (c.1 > 2) then true else decide (pick < 0) then true else decide (pick > 255)) = !okT c k kind pick := by
  have f : ∀ x y : Int, decide (x ≤ y) = !decide (x > y) := fun x y => by
    by_cases h : x > y
    · have : ¬ x ≤ y := by omega
      simp [h, this]
    · have : x ≤ y := by omega
      simp [h, this]
  have g : ∀ x y : Int, decide (x ≤ y) = !decide (y < x) := f
  unfold okT askM
  rw [g 0 kind, f kind 2, g 0 c.1, f c.1 2, g 0 pick, f pick 255]
  cases goodC k <;> cases decide (kind < 0) <;> cases decide (kind > 2) <;> cases decide (c.1 < 0) <;> cases decide (c.1 > 2) <;> cases decide (pick < 0) <;> cases decide (pick > 255) <;> rfl
theorem spI_round (m : By) (c0 : Int) (c1 c2 : Bool) (c3 : Int) (s1 w1 : Int) (m1 : Es) (s2 w2 : Int) (m2 : Es) (s3 w3 : Int) (m3 : Es) (kind va pick : Int) (q0 q1 q2 : Int) (rs : Rs) {i : Nat} (h : i ≤ rs.length ∧ RecR (c0, c1, c2, c3) ((s1, w1, m1), (s2, w2, m2), (s3, w3, m3)) va pick rs) : vcRound Try.prog FZ0 (spX true m (c0, c1, c2, c3) ((s1, w1, m1), (s2, w2, m2), (s3, w3, m3)) kind va pick (q0, q1, q2, rs)) 4 (loopAt Try.f79 0) (spL true m (c0, c1, c2, c3) ((s1, w1, m1), (s2, w2, m2), (s3, w3, m3)) kind va pick (q0, q1, q2, rs)) (fun i : Nat => rs.length - i) i := by
  obtain ⟨hi, hs, hv, p0, p1, hP, hT, hlen, hrs⟩ := h
  have hs : U64 c3 := hs
  obtain ⟨k1, k2, k3⟩ := keepAll_head va c3 pick (rs.take i) (s3, w3, m3)
  have ks := keepAll_eta va c3 pick (s3, w3, m3) (rs.take i)
  obtain ⟨g1, g2⟩ := keepAll_good (va := va) (satp := c3) p0 (rs.take i) (s3, w3, m3) hP hT (fun r hr => hrs r (List.mem_of_mem_take hr))
  simp only at k1 k2 k3 ks
  refine vc_by (vc_spI_r_eq m c0 c1 c2 c3 s1 w1 m1 s2 w2 m2 s3 w3 m3 kind va pick q0 q1 q2 rs i) ⟨fun q => ?_, fun q => ?_⟩
  · have q : (i : Int) < rs.length := of_decide_eq_true q
    have hlt : i < rs.length := by omega
    have e0 : 0 + (i : Int).toNat = i := by omega
    have e1 : IntKind.i64.wrap ((i : Int) + 1) = ((i + 1 : Nat) : Int) := by rw [wrap_i64_in (by omega) (by omega)]; omega
    have hR := hrs (rs.getD i (El.zero shR)) (by rw [List.getD_eq_getElem?_getD, List.getElem?_eq_getElem hlt]; exact List.getElem_mem hlt)
    have enx : keepAll va c3 pick (s3, w3, m3) (rs.take (i + 1)) = keepP va c3 pick (keepAll va c3 pick (s3, w3, m3) (rs.take i)) (rs.getD i (El.zero shR)) := by rw [take_next hlt (El.zero shR), keepAll_snoc]
    rw [e0, e1]
    obtain ⟨j1, j2, -⟩ := keepAll_head va c3 pick (rs.take (i + 1)) (s3, w3, m3)
    simp only at j1 j2
    generalize rs.getD i (El.zero shR) = R at *
    obtain ⟨r0, r1, r2⟩ : Rc := R
    obtain ⟨hl, hu⟩ : LvR r0 ∧ U64 r2 := hR
    refine ⟨⟨by omega, by omega⟩, hlt, ⟨by omega, by omega⟩, hlt, hu, fun a => ⟨⟨by omega, by omega⟩, hlt, ⟨by omega, by omega⟩, hlt, ⟨hl, hv, hs, hu⟩, ⟨rfl, by rw [ks]; exact g2, ent_in hl hu⟩, i + 1, ?_, ⟨by omega, hs, hv, p0, p1, hP, hT, hlen, hrs⟩, by omega, fun _ _ => trivial⟩, fun a => ⟨i + 1, ?_, ⟨by omega, hs, hv, p0, p1, hP, hT, hlen, hrs⟩, by omega, fun _ _ => trivial⟩⟩
    · have a : kindM r2 r0 = 1 := by simpa using a
      have e : insertM (s3, w3, (keepAll va c3 pick (s3, w3, m3) (rs.take i)).2.2) ((entM r0 va c3 r2).1, (entM r0 va c3 r2).2.1, (entM r0 va c3 r2).2.2.1, (entM r0 va c3 r2).2.2.2.1, (entM r0 va c3 r2).2.2.2.2.1, (entM r0 va c3 r2).2.2.2.2.2) pick = keepAll va c3 pick (s3, w3, m3) (rs.take (i + 1)) := by
        show insertM _ (entM r0 va c3 r2) pick = _
        rw [enx, ks, insert_ins g1 (good_ent hl a) p0 p1]
        unfold keepP
        rw [if_pos a]
      simp only [e]
      simp [j1, j2]
    · have a : ¬ kindM r2 r0 = 1 := by simpa using a
      have e : keepAll va c3 pick (s3, w3, m3) (rs.take (i + 1)) = keepAll va c3 pick (s3, w3, m3) (rs.take i) := by
        rw [enx]
        unfold keepP
        rw [if_neg a]
      simp only [e]
      simp
  · have q : ¬ (i : Int) < rs.length := of_decide_eq_false q
    have : i = rs.length := by omega
    subst this
    rw [List.take_length]
    exact ⟨(), by simp, trivial⟩
theorem spD_round (m : By) (c0 : Int) (c1 c2 : Bool) (c3 : Int) (s1 w1 : Int) (m1 : Es) (s2 w2 : Int) (m2 : Es) (s3 w3 : Int) (m3 : Es) (kind va pick : Int) (q0 q1 q2 : Int) (rs : Rs) {i : Nat} (h : i ≤ rs.length ∧ RecR (c0, c1, c2, c3) ((s1, w1, m1), (s2, w2, m2), (s3, w3, m3)) va pick rs) : vcRound Try.prog FZ0 (spX false m (c0, c1, c2, c3) ((s1, w1, m1), (s2, w2, m2), (s3, w3, m3)) kind va pick (q0, q1, q2, rs)) 4 (loopAt Try.f79 0) (spL false m (c0, c1, c2, c3) ((s1, w1, m1), (s2, w2, m2), (s3, w3, m3)) kind va pick (q0, q1, q2, rs)) (fun i : Nat => rs.length - i) i := by
  obtain ⟨hi, hs, hv, p0, p1, hP, hT, hlen, hrs⟩ := h
  have hs : U64 c3 := hs
  obtain ⟨k1, k2, k3⟩ := keepAll_head va c3 pick (rs.take i) (s3, w3, m3)
  have ks := keepAll_eta va c3 pick (s3, w3, m3) (rs.take i)
  obtain ⟨g1, g2⟩ := keepAll_good (va := va) (satp := c3) p0 (rs.take i) (s3, w3, m3) hP hT (fun r hr => hrs r (List.mem_of_mem_take hr))
  simp only at k1 k2 k3 ks
  refine vc_by (vc_spD_r_eq m c0 c1 c2 c3 s1 w1 m1 s2 w2 m2 s3 w3 m3 kind va pick q0 q1 q2 rs i) ⟨fun q => ?_, fun q => ?_⟩
  · have q : (i : Int) < rs.length := of_decide_eq_true q
    have hlt : i < rs.length := by omega
    have e0 : 0 + (i : Int).toNat = i := by omega
    have e1 : IntKind.i64.wrap ((i : Int) + 1) = ((i + 1 : Nat) : Int) := by rw [wrap_i64_in (by omega) (by omega)]; omega
    have hR := hrs (rs.getD i (El.zero shR)) (by rw [List.getD_eq_getElem?_getD, List.getElem?_eq_getElem hlt]; exact List.getElem_mem hlt)
    have enx : keepAll va c3 pick (s3, w3, m3) (rs.take (i + 1)) = keepP va c3 pick (keepAll va c3 pick (s3, w3, m3) (rs.take i)) (rs.getD i (El.zero shR)) := by rw [take_next hlt (El.zero shR), keepAll_snoc]
    rw [e0, e1]
    obtain ⟨j1, j2, -⟩ := keepAll_head va c3 pick (rs.take (i + 1)) (s3, w3, m3)
    simp only at j1 j2
    generalize rs.getD i (El.zero shR) = R at *
    obtain ⟨r0, r1, r2⟩ : Rc := R
    obtain ⟨hl, hu⟩ : LvR r0 ∧ U64 r2 := hR
    refine ⟨⟨by omega, by omega⟩, hlt, ⟨by omega, by omega⟩, hlt, hu, fun a => ⟨⟨by omega, by omega⟩, hlt, ⟨by omega, by omega⟩, hlt, ⟨hl, hv, hs, hu⟩, ⟨rfl, by rw [ks]; exact g2, ent_in hl hu⟩, i + 1, ?_, ⟨by omega, hs, hv, p0, p1, hP, hT, hlen, hrs⟩, by omega, fun _ _ => trivial⟩, fun a => ⟨i + 1, ?_, ⟨by omega, hs, hv, p0, p1, hP, hT, hlen, hrs⟩, by omega, fun _ _ => trivial⟩⟩
    · have a : kindM r2 r0 = 1 := by simpa using a
      have e : insertM (s3, w3, (keepAll va c3 pick (s3, w3, m3) (rs.take i)).2.2) ((entM r0 va c3 r2).1, (entM r0 va c3 r2).2.1, (entM r0 va c3 r2).2.2.1, (entM r0 va c3 r2).2.2.2.1, (entM r0 va c3 r2).2.2.2.2.1, (entM r0 va c3 r2).2.2.2.2.2) pick = keepAll va c3 pick (s3, w3, m3) (rs.take (i + 1)) := by
        show insertM _ (entM r0 va c3 r2) pick = _
        rw [enx, ks, insert_ins g1 (good_ent hl a) p0 p1]
        unfold keepP
        rw [if_pos a]
      simp only [e]
      simp [j1, j2]
    · have a : ¬ kindM r2 r0 = 1 := by simpa using a
      have e : keepAll va c3 pick (s3, w3, m3) (rs.take (i + 1)) = keepAll va c3 pick (s3, w3, m3) (rs.take i) := by
        rw [enx]
        unfold keepP
        rw [if_neg a]
      simp only [e]
      simp
  · have q : ¬ (i : Int) < rs.length := of_decide_eq_false q
    have : i = rs.length := by omega
    subst this
    rw [List.take_length]
    exact ⟨(), by simp, trivial⟩
theorem walkN_kind {m : By} {va : Int} : ∀ (n : Nat) (p : Int), (walkN m va n p).1 = 1 → kindM (walkN m va n p).2.2.1 (walkN m va n p).2.1 = 2
  | 0, _, h => by cases h
  | n + 1, p, h => by
    unfold walkN at h ⊢
    split at h
    · cases h
    · rename_i c1
      rw [if_neg c1]
      split at h
      · cases h
      · rename_i c2
        rw [if_neg c2]
        split at h
        · rename_i c3
          rw [if_pos c3]
          exact c3
        · rename_i c3
          rw [if_neg c3]
          exact walkN_kind n _ h
theorem look_find {p : Bool} {t : Tl} {va asid : Int} (h : validM p t = true) : lookM t va asid = findM va asid t.2.2 := by unfold lookM; rw [if_pos (good_either h)]
theorem walkM_can {m : By} {root va : Int} (h : canM va = true) : walkM m root va = walkN m va 3 (rootM root) := by unfold walkM; rw [if_pos h]; rfl
theorem pf_ne (k : Int) : pfM k ≠ 0 := by unfold pfM; split <;> (try split) <;> decide
theorem af_ne (k : Int) : afM k ≠ 0 := by unfold afM; split <;> (try split) <;> decide
theorem spI_main (m : By) (c0 : Int) (c1 c2 : Bool) (c3 : Int) (s1 w1 : Int) (m1 : Es) (s2 w2 : Int) (m2 : Es) (s3 w3 : Int) (m3 : Es) (kind va pick : Int) (q0 q1 q2 : Int) (rs : Rs) (h : TlbR m (c0, c1, c2, c3) (s1, w1, m1, s2, w2, m2, s3, w3, m3) va) (hk : kind = 0) (ok : okT (c0, c1, c2, c3) ((s1, w1, m1), (s2, w2, m2), (s3, w3, m3)) kind pick = true) (hW : walkN m va ((startM c3 va (s3, w3, m3)).2 + 1).toNat (startM c3 va (s3, w3, m3)).1 = (q0, q1, q2, rs)) {e : Nat} {pa l : Int} {t1 t2 t3 : Es} (hr : trM m (c0, c1, c2, c3) ((s1, w1, m1), (s2, w2, m2), (s3, w3, m3)) kind va pick = (e, pa, l, (s1, w1, t1), (s2, w2, t2), (s3, w3, t3))) : vc_spI m c0 c1 c2 c3 s1 w1 m1 s2 w2 m2 s3 w3 m3 kind va pick q0 q1 q2 rs (causeM e kind) pa s1 w1 t1 s2 w2 t2 s3 w3 t3 := by
  obtain ⟨hm, hc3, ⟨r1, r2, r3⟩, hv⟩ : ByteR m ∧ U64 c3 ∧ (TlR (s1, w1, m1) ∧ TlR (s2, w2, m2) ∧ TlR (s3, w3, m3)) ∧ U64 va := h
  obtain ⟨hgc, hask, p0, p1⟩ := okT_use ok
  simp only [goodC, Bool.and_eq_true] at hgc
  obtain ⟨⟨g1, g2⟩, g3⟩ := hgc
  have hpick : ∀ k : Cch, pickT kind k = k.1 := fun k => by unfold pickT; rw [if_pos hk]
  have hput : ∀ (k : Cch) (t : Tl), putT kind k t = (t, k.2.1, k.2.2) := fun k t => by unfold putT; rw [if_pos hk]
  have hq := vc_spI_eq m c0 c1 c2 c3 s1 w1 m1 s2 w2 m2 s3 w3 m3 kind va pick q0 q1 q2 rs (causeM e kind) pa s1 w1 t1 s2 w2 t2 s3 w3 t3
  have gb := goodT_bif (c0, c1, c2, c3) ((s1, w1, m1), (s2, w2, m2), (s3, w3, m3)) kind pick
  simp only at gb
  have lk1 : lookM (s1, w1, m1) va (asidM c3) = findM va (asidM c3) m1 := look_find g1
  have lk3 : lookM (s3, w3, m3) va (asidM c3) = findM va (asidM c3) m3 := look_find g3
  rw [gb, ok, lk1, lk3] at hq
  refine vc_by hq ⟨⟨rfl, rfl, rfl, r1, r2, r3⟩, fun q => (by cases q), fun _ => ⟨⟨rfl, rfl, rfl, r1.2.2.1, r2.2.2.1, r3.2.2.1⟩, hc3, fun qa => ?_, fun qa => ⟨hv, fun qb => ?_, fun qb => ⟨by simp [hk], hc3, ⟨rfl, r1, hv⟩, findM va (asidM c3) m1, by simp, fun qc => ?_, fun qc => ⟨⟨rfl, hm, hc3, hv⟩, hc3, ⟨rfl, r3, hv⟩, (walkM m c3 va, findM va (asidM c3) m3), by simp, fun qd => ?_, fun qd => ?_⟩⟩⟩⟩⟩
  · have qa : onM (c0, c1, c2, c3) = false := by simpa using qa
    unfold trM at hr
    rw [if_pos qa] at hr
    cases hr
    simp [causeM]
  · have qa : ¬ onM (c0, c1, c2, c3) = false := by simpa using qa
    have qb : canM va = false := by simpa using qb
    unfold trM at hr
    rw [if_neg qa, if_pos qb] at hr
    cases hr
    simp [causeM]
  · have qa : ¬ onM (c0, c1, c2, c3) = false := by simpa using qa
    have qb : ¬ canM va = false := by simpa using qb
    unfold trM at hr
    rw [if_neg qa, if_neg qb, hpick, if_pos qc] at hr
    obtain ⟨u1, u2, u3⟩ := hit_spec g1 r1 qc
    simp only at u1 u2 hr
    generalize findM va (asidM c3) m1 = H at *
    by_cases g : grantM H.2.2.2 kind c0 c1 c2 = true
    · have hr2 : ((0, physM H.2.2.2 H.2.2.1 va, 0, ((s1, w1, m1), (s2, w2, m2), (s3, w3, m3))) : TrR) = (e, pa, l, (s1, w1, t1), (s2, w2, t2), (s3, w3, t3)) := by rw [← hr]; unfold hitM; rw [if_pos g]
      cases hr2
      simp [leafM, g, causeM, u2, hv]
    · have hr2 : ((2, 0, H.2.2.1, ((s1, w1, m1), (s2, w2, m2), (s3, w3, m3))) : TrR) = (e, pa, l, (s1, w1, t1), (s2, w2, t2), (s3, w3, t3)) := by rw [← hr]; unfold hitM; rw [if_neg g]
      cases hr2
      simp [leafM, g, causeM, u2, hv]
  · have qa : ¬ onM (c0, c1, c2, c3) = false := by simpa using qa
    have qb' : canM va = true := by simpa using qb
    have qb : ¬ canM va = false := by simpa using qb
    unfold trM at hr
    rw [if_neg qa, if_neg qb, hpick, if_neg (by rw [qc]; simp)] at hr
    unfold missM at hr
    simp only at hr
    have hst := start_in (satp := c3) hm hv g3 r3
    have hrec := walkN_recs (va := va) hm ((startM c3 va (s3, w3, m3)).2 + 1).toNat (startM c3 va (s3, w3, m3)).1
    have hlen := walkN_length m va ((startM c3 va (s3, w3, m3)).2 + 1).toNat (startM c3 va (s3, w3, m3)).1
    have hc := walkN_code m va ((startM c3 va (s3, w3, m3)).2 + 1).toNat (startM c3 va (s3, w3, m3)).1
    have hleaf := walkN_leaf (va := va) hm ((startM c3 va (s3, w3, m3)).2 + 1).toNat (startM c3 va (s3, w3, m3)).1
    have hkind := walkN_kind (m := m) (va := va) ((startM c3 va (s3, w3, m3)).2 + 1).toNat (startM c3 va (s3, w3, m3)).1
    have hst2 := hst.2.2.2.1
    have hn3 : ((startM c3 va (s3, w3, m3)).2 + 1).toNat ≤ 3 := by have := hst2.2; omega
    rw [hW] at hr hrec hlen hc hleaf hkind
    simp only at hr hrec hlen hc hleaf hkind
    have hRec : RecR (c0, c1, c2, c3) ((s1, w1, m1), (s2, w2, m2), (s3, w3, m3)) va pick rs := ⟨hc3, hv, p0, p1, g3, r3, by omega, fun r hr => by obtain ⟨a, b, c⟩ := hrec r hr; exact ⟨⟨a, by omega⟩, c⟩⟩
    have qd : (findM va (asidM c3) m3).1 = true := qd
    have es : startM c3 va (s3, w3, m3) = (ppnM (findM va (asidM c3) m3).2.2.2, (findM va (asidM c3) m3).2.2.1 - 1) := by unfold startM; rw [if_pos qd]
    obtain ⟨u1, u2, u3⟩ := hit_spec g3 r3 qd
    have u4 := kind_ptr (show kindM _ _ = 1 from u3)
    simp only at u1 u2 u4
    have ew : IntKind.i64.wrap ((findM va (asidM c3) m3).2.2.1 - 1) = (findM va (asidM c3) m3).2.2.1 - 1 := wrap_i64_in (by have := u1.1; omega) (by have := u1.2; omega)
    rw [es] at hW hst
    simp only at hW hst
    have en : ((findM va (asidM c3) m3).2.2.1 - 1).toNat + 1 = ((findM va (asidM c3) m3).2.2.1 - 1 + 1).toNat := by have := u1.1; omega
    refine ⟨u2, ⟨rfl, by rw [ew]; exact hst⟩, 0, by simp only [ew, en, hW]; simp [keepAll], ⟨by omega, hRec⟩, ?_⟩
    clear es ew en hW hst
    refine fun _ _ => ⟨⟨rfl, fun n2 n3 => ?_, hv⟩, answerM (q0, q1, q2, rs) (c0, c1, c2, c3) kind va, by simp, fun a => ?_, fun a => ?_⟩
    · rcases hc with z | z | z
      · exact (hleaf z).1
      · exact absurd z n3
      · exact absurd z n2
    · have a : (answerM (q0, q1, q2, rs) (c0, c1, c2, c3) kind va).1 = 0 := by simpa using a
      rcases hc with z | z | z
      · obtain ⟨u1, u2, u3⟩ := hleaf z
        have ul : LvR q1 := ⟨u2, by omega⟩
        have uk := hkind z
        subst z
        have g : grantM q2 kind c0 c1 c2 = true := by
          by_cases g : grantM q2 kind c0 c1 c2 = true
          · exact g
          · simp [answerM, leafM, g] at a
            exact absurd a (pf_ne kind)
        have he : insertM (s1, w1, m1) ((entM q1 va c3 q2).1, (entM q1 va c3 q2).2.1, (entM q1 va c3 q2).2.2.1, (entM q1 va c3 q2).2.2.2.1, (entM q1 va c3 q2).2.2.2.2.1, (entM q1 va c3 q2).2.2.2.2.2) pick = insT (s1, w1, m1) (entM q1 va c3 q2) pick := by
          show insertM _ (entM q1 va c3 q2) pick = _
          exact insert_ins g1 (good_ent ul uk) p0 p1
        have hr2 : ((0, physM q2 q1 va, 0, putT kind ((s1, w1, m1), (s2, w2, m2), (s3, w3, (keepAll va c3 pick (s3, w3, m3) rs).2.2)) (insT (pickT kind ((s1, w1, m1), (s2, w2, m2), (s3, w3, (keepAll va c3 pick (s3, w3, m3) rs).2.2))) (entM q1 va c3 q2) pick)) : TrR) = (e, pa, l, (s1, w1, t1), (s2, w2, t2), (s3, w3, t3)) := by
          rw [← hr]; unfold endM; rw [if_pos rfl, if_pos g]
        rw [hput, hpick] at hr2
        simp only [Prod.mk.injEq] at hr2
        obtain ⟨rfl, rfl, -, h1, h2, h3⟩ := hr2
        obtain ⟨-, -, rfl⟩ := h2
        obtain ⟨-, -, rfl⟩ := h3
        have h1 : insT (s1, w1, m1) (entM q1 va c3 q2) pick = (s1, w1, t1) := h1
        have ea : answerM (1, q1, q2, rs) (c0, c1, c2, c3) kind va = (0, physM q2 q1 va) := by simp [answerM, leafM, g]
        rw [he, h1, ea]
        refine ⟨⟨ul, hv, hc3, u1⟩, ⟨rfl, r1, ent_in ul u1⟩, fun b => ?_, fun b => ?_⟩
        · simp [causeM]
        · exact absurd hk (by simpa using b)
      · subst z
        exact absurd a (by simp [answerM]; exact af_ne kind)
      · subst z
        exact absurd a (by simp [answerM]; exact pf_ne kind)
    · have a : ¬ (answerM (q0, q1, q2, rs) (c0, c1, c2, c3) kind va).1 = 0 := by simpa using a
      rcases hc with z | z | z
      · subst z
        have g : grantM q2 kind c0 c1 c2 = false := by
          by_cases g : grantM q2 kind c0 c1 c2 = true
          · exact absurd (by simp [answerM, leafM, g]) a
          · simpa using g
        have hr2 : ((2, 0, q1, (s1, w1, m1), (s2, w2, m2), (s3, w3, (keepAll va c3 pick (s3, w3, m3) rs).2.2)) : TrR) = (e, pa, l, (s1, w1, t1), (s2, w2, t2), (s3, w3, t3)) := by
          rw [← hr]; unfold endM; rw [if_pos rfl, if_neg (by rw [g]; simp)]
        cases hr2
        simp [answerM, leafM, g, causeM]
      · subst z
        have hr2 : ((1, 0, q1, (s1, w1, m1), (s2, w2, m2), (s3, w3, (keepAll va c3 pick (s3, w3, m3) rs).2.2)) : TrR) = (e, pa, l, (s1, w1, t1), (s2, w2, t2), (s3, w3, t3)) := by
          rw [← hr]; unfold endM; rw [if_neg (by simp), if_pos rfl]
        cases hr2
        simp [answerM, causeM]
      · subst z
        have hr2 : ((2, 0, q1, (s1, w1, m1), (s2, w2, m2), (s3, w3, (keepAll va c3 pick (s3, w3, m3) rs).2.2)) : TrR) = (e, pa, l, (s1, w1, t1), (s2, w2, t2), (s3, w3, t3)) := by
          rw [← hr]; unfold endM; rw [if_neg (by simp), if_neg (by simp)]
        cases hr2
        simp [answerM, causeM]
  · have qa : ¬ onM (c0, c1, c2, c3) = false := by simpa using qa
    have qb' : canM va = true := by simpa using qb
    have qb : ¬ canM va = false := by simpa using qb
    unfold trM at hr
    rw [if_neg qa, if_neg qb, hpick, if_neg (by rw [qc]; simp)] at hr
    unfold missM at hr
    simp only at hr
    have hst := start_in (satp := c3) hm hv g3 r3
    have hrec := walkN_recs (va := va) hm ((startM c3 va (s3, w3, m3)).2 + 1).toNat (startM c3 va (s3, w3, m3)).1
    have hlen := walkN_length m va ((startM c3 va (s3, w3, m3)).2 + 1).toNat (startM c3 va (s3, w3, m3)).1
    have hc := walkN_code m va ((startM c3 va (s3, w3, m3)).2 + 1).toNat (startM c3 va (s3, w3, m3)).1
    have hleaf := walkN_leaf (va := va) hm ((startM c3 va (s3, w3, m3)).2 + 1).toNat (startM c3 va (s3, w3, m3)).1
    have hkind := walkN_kind (m := m) (va := va) ((startM c3 va (s3, w3, m3)).2 + 1).toNat (startM c3 va (s3, w3, m3)).1
    have hst2 := hst.2.2.2.1
    have hn3 : ((startM c3 va (s3, w3, m3)).2 + 1).toNat ≤ 3 := by have := hst2.2; omega
    rw [hW] at hr hrec hlen hc hleaf hkind
    simp only at hr hrec hlen hc hleaf hkind
    have hRec : RecR (c0, c1, c2, c3) ((s1, w1, m1), (s2, w2, m2), (s3, w3, m3)) va pick rs := ⟨hc3, hv, p0, p1, g3, r3, by omega, fun r hr => by obtain ⟨a, b, c⟩ := hrec r hr; exact ⟨⟨a, by omega⟩, c⟩⟩
    have qd : (findM va (asidM c3) m3).1 = false := qd
    have es : startM c3 va (s3, w3, m3) = (rootM c3, 2) := by unfold startM; rw [if_neg (by rw [qd]; simp)]
    rw [es] at hW
    have ew : walkM m c3 va = (q0, q1, q2, rs) := by rw [walkM_can qb']; exact hW
    refine ⟨0, by rw [ew]; simp [keepAll], ⟨by omega, hRec⟩, ?_⟩
    clear es ew hW hst
    refine fun _ _ => ⟨⟨rfl, fun n2 n3 => ?_, hv⟩, answerM (q0, q1, q2, rs) (c0, c1, c2, c3) kind va, by simp, fun a => ?_, fun a => ?_⟩
    · rcases hc with z | z | z
      · exact (hleaf z).1
      · exact absurd z n3
      · exact absurd z n2
    · have a : (answerM (q0, q1, q2, rs) (c0, c1, c2, c3) kind va).1 = 0 := by simpa using a
      rcases hc with z | z | z
      · obtain ⟨u1, u2, u3⟩ := hleaf z
        have ul : LvR q1 := ⟨u2, by omega⟩
        have uk := hkind z
        subst z
        have g : grantM q2 kind c0 c1 c2 = true := by
          by_cases g : grantM q2 kind c0 c1 c2 = true
          · exact g
          · simp [answerM, leafM, g] at a
            exact absurd a (pf_ne kind)
        have he : insertM (s1, w1, m1) ((entM q1 va c3 q2).1, (entM q1 va c3 q2).2.1, (entM q1 va c3 q2).2.2.1, (entM q1 va c3 q2).2.2.2.1, (entM q1 va c3 q2).2.2.2.2.1, (entM q1 va c3 q2).2.2.2.2.2) pick = insT (s1, w1, m1) (entM q1 va c3 q2) pick := by
          show insertM _ (entM q1 va c3 q2) pick = _
          exact insert_ins g1 (good_ent ul uk) p0 p1
        have hr2 : ((0, physM q2 q1 va, 0, putT kind ((s1, w1, m1), (s2, w2, m2), (s3, w3, (keepAll va c3 pick (s3, w3, m3) rs).2.2)) (insT (pickT kind ((s1, w1, m1), (s2, w2, m2), (s3, w3, (keepAll va c3 pick (s3, w3, m3) rs).2.2))) (entM q1 va c3 q2) pick)) : TrR) = (e, pa, l, (s1, w1, t1), (s2, w2, t2), (s3, w3, t3)) := by
          rw [← hr]; unfold endM; rw [if_pos rfl, if_pos g]
        rw [hput, hpick] at hr2
        simp only [Prod.mk.injEq] at hr2
        obtain ⟨rfl, rfl, -, h1, h2, h3⟩ := hr2
        obtain ⟨-, -, rfl⟩ := h2
        obtain ⟨-, -, rfl⟩ := h3
        have h1 : insT (s1, w1, m1) (entM q1 va c3 q2) pick = (s1, w1, t1) := h1
        have ea : answerM (1, q1, q2, rs) (c0, c1, c2, c3) kind va = (0, physM q2 q1 va) := by simp [answerM, leafM, g]
        rw [he, h1, ea]
        refine ⟨⟨ul, hv, hc3, u1⟩, ⟨rfl, r1, ent_in ul u1⟩, fun b => ?_, fun b => ?_⟩
        · simp [causeM]
        · exact absurd hk (by simpa using b)
      · subst z
        exact absurd a (by simp [answerM]; exact af_ne kind)
      · subst z
        exact absurd a (by simp [answerM]; exact pf_ne kind)
    · have a : ¬ (answerM (q0, q1, q2, rs) (c0, c1, c2, c3) kind va).1 = 0 := by simpa using a
      rcases hc with z | z | z
      · subst z
        have g : grantM q2 kind c0 c1 c2 = false := by
          by_cases g : grantM q2 kind c0 c1 c2 = true
          · exact absurd (by simp [answerM, leafM, g]) a
          · simpa using g
        have hr2 : ((2, 0, q1, (s1, w1, m1), (s2, w2, m2), (s3, w3, (keepAll va c3 pick (s3, w3, m3) rs).2.2)) : TrR) = (e, pa, l, (s1, w1, t1), (s2, w2, t2), (s3, w3, t3)) := by
          rw [← hr]; unfold endM; rw [if_pos rfl, if_neg (by rw [g]; simp)]
        cases hr2
        simp [answerM, leafM, g, causeM]
      · subst z
        have hr2 : ((1, 0, q1, (s1, w1, m1), (s2, w2, m2), (s3, w3, (keepAll va c3 pick (s3, w3, m3) rs).2.2)) : TrR) = (e, pa, l, (s1, w1, t1), (s2, w2, t2), (s3, w3, t3)) := by
          rw [← hr]; unfold endM; rw [if_neg (by simp), if_pos rfl]
        cases hr2
        simp [answerM, causeM]
      · subst z
        have hr2 : ((2, 0, q1, (s1, w1, m1), (s2, w2, m2), (s3, w3, (keepAll va c3 pick (s3, w3, m3) rs).2.2)) : TrR) = (e, pa, l, (s1, w1, t1), (s2, w2, t2), (s3, w3, t3)) := by
          rw [← hr]; unfold endM; rw [if_neg (by simp), if_neg (by simp)]
        cases hr2
        simp [answerM, causeM]
theorem spD_main (m : By) (c0 : Int) (c1 c2 : Bool) (c3 : Int) (s1 w1 : Int) (m1 : Es) (s2 w2 : Int) (m2 : Es) (s3 w3 : Int) (m3 : Es) (kind va pick : Int) (q0 q1 q2 : Int) (rs : Rs) (h : TlbR m (c0, c1, c2, c3) (s1, w1, m1, s2, w2, m2, s3, w3, m3) va) (hk : kind ≠ 0) (ok : okT (c0, c1, c2, c3) ((s1, w1, m1), (s2, w2, m2), (s3, w3, m3)) kind pick = true) (hW : walkN m va ((startM c3 va (s3, w3, m3)).2 + 1).toNat (startM c3 va (s3, w3, m3)).1 = (q0, q1, q2, rs)) {e : Nat} {pa l : Int} {t1 t2 t3 : Es} (hr : trM m (c0, c1, c2, c3) ((s1, w1, m1), (s2, w2, m2), (s3, w3, m3)) kind va pick = (e, pa, l, (s1, w1, t1), (s2, w2, t2), (s3, w3, t3))) : vc_spD m c0 c1 c2 c3 s1 w1 m1 s2 w2 m2 s3 w3 m3 kind va pick q0 q1 q2 rs (causeM e kind) pa s1 w1 t1 s2 w2 t2 s3 w3 t3 := by
  obtain ⟨hm, hc3, ⟨r1, r2, r3⟩, hv⟩ : ByteR m ∧ U64 c3 ∧ (TlR (s1, w1, m1) ∧ TlR (s2, w2, m2) ∧ TlR (s3, w3, m3)) ∧ U64 va := h
  obtain ⟨hgc, hask, p0, p1⟩ := okT_use ok
  simp only [goodC, Bool.and_eq_true] at hgc
  obtain ⟨⟨g1, g2⟩, g3⟩ := hgc
  have hpick : ∀ k : Cch, pickT kind k = k.2.1 := fun k => by unfold pickT; rw [if_neg hk]
  have hput : ∀ (k : Cch) (t : Tl), putT kind k t = (k.1, t, k.2.2) := fun k t => by unfold putT; rw [if_neg hk]
  have hq := vc_spD_eq m c0 c1 c2 c3 s1 w1 m1 s2 w2 m2 s3 w3 m3 kind va pick q0 q1 q2 rs (causeM e kind) pa s1 w1 t1 s2 w2 t2 s3 w3 t3
  have gb := goodT_bif (c0, c1, c2, c3) ((s1, w1, m1), (s2, w2, m2), (s3, w3, m3)) kind pick
  simp only at gb
  have lk1 : lookM (s2, w2, m2) va (asidM c3) = findM va (asidM c3) m2 := look_find g2
  have lk3 : lookM (s3, w3, m3) va (asidM c3) = findM va (asidM c3) m3 := look_find g3
  rw [gb, ok, lk1, lk3] at hq
  refine vc_by hq ⟨⟨rfl, rfl, rfl, r1, r2, r3⟩, fun q => (by cases q), fun _ => ⟨⟨rfl, rfl, rfl, r1.2.2.1, r2.2.2.1, r3.2.2.1⟩, hc3, fun qa => ?_, fun qa => ⟨hv, fun qb => ?_, fun qb => ⟨by simp [hk], hc3, ⟨rfl, r2, hv⟩, findM va (asidM c3) m2, by simp, fun qc => ?_, fun qc => ⟨⟨rfl, hm, hc3, hv⟩, hc3, ⟨rfl, r3, hv⟩, (walkM m c3 va, findM va (asidM c3) m3), by simp, fun qd => ?_, fun qd => ?_⟩⟩⟩⟩⟩
  · have qa : onM (c0, c1, c2, c3) = false := by simpa using qa
    unfold trM at hr
    rw [if_pos qa] at hr
    cases hr
    simp [causeM]
  · have qa : ¬ onM (c0, c1, c2, c3) = false := by simpa using qa
    have qb : canM va = false := by simpa using qb
    unfold trM at hr
    rw [if_neg qa, if_pos qb] at hr
    cases hr
    simp [causeM]
  · have qa : ¬ onM (c0, c1, c2, c3) = false := by simpa using qa
    have qb : ¬ canM va = false := by simpa using qb
    unfold trM at hr
    rw [if_neg qa, if_neg qb, hpick, if_pos qc] at hr
    obtain ⟨u1, u2, u3⟩ := hit_spec g2 r2 qc
    simp only at u1 u2 hr
    generalize findM va (asidM c3) m2 = H at *
    by_cases g : grantM H.2.2.2 kind c0 c1 c2 = true
    · have hr2 : ((0, physM H.2.2.2 H.2.2.1 va, 0, ((s1, w1, m1), (s2, w2, m2), (s3, w3, m3))) : TrR) = (e, pa, l, (s1, w1, t1), (s2, w2, t2), (s3, w3, t3)) := by rw [← hr]; unfold hitM; rw [if_pos g]
      cases hr2
      simp [leafM, g, causeM, u2, hv]
    · have hr2 : ((2, 0, H.2.2.1, ((s1, w1, m1), (s2, w2, m2), (s3, w3, m3))) : TrR) = (e, pa, l, (s1, w1, t1), (s2, w2, t2), (s3, w3, t3)) := by rw [← hr]; unfold hitM; rw [if_neg g]
      cases hr2
      simp [leafM, g, causeM, u2, hv]
  · have qa : ¬ onM (c0, c1, c2, c3) = false := by simpa using qa
    have qb' : canM va = true := by simpa using qb
    have qb : ¬ canM va = false := by simpa using qb
    unfold trM at hr
    rw [if_neg qa, if_neg qb, hpick, if_neg (by rw [qc]; simp)] at hr
    unfold missM at hr
    simp only at hr
    have hst := start_in (satp := c3) hm hv g3 r3
    have hrec := walkN_recs (va := va) hm ((startM c3 va (s3, w3, m3)).2 + 1).toNat (startM c3 va (s3, w3, m3)).1
    have hlen := walkN_length m va ((startM c3 va (s3, w3, m3)).2 + 1).toNat (startM c3 va (s3, w3, m3)).1
    have hc := walkN_code m va ((startM c3 va (s3, w3, m3)).2 + 1).toNat (startM c3 va (s3, w3, m3)).1
    have hleaf := walkN_leaf (va := va) hm ((startM c3 va (s3, w3, m3)).2 + 1).toNat (startM c3 va (s3, w3, m3)).1
    have hkind := walkN_kind (m := m) (va := va) ((startM c3 va (s3, w3, m3)).2 + 1).toNat (startM c3 va (s3, w3, m3)).1
    have hst2 := hst.2.2.2.1
    have hn3 : ((startM c3 va (s3, w3, m3)).2 + 1).toNat ≤ 3 := by have := hst2.2; omega
    rw [hW] at hr hrec hlen hc hleaf hkind
    simp only at hr hrec hlen hc hleaf hkind
    have hRec : RecR (c0, c1, c2, c3) ((s1, w1, m1), (s2, w2, m2), (s3, w3, m3)) va pick rs := ⟨hc3, hv, p0, p1, g3, r3, by omega, fun r hr => by obtain ⟨a, b, c⟩ := hrec r hr; exact ⟨⟨a, by omega⟩, c⟩⟩
    have qd : (findM va (asidM c3) m3).1 = true := qd
    have es : startM c3 va (s3, w3, m3) = (ppnM (findM va (asidM c3) m3).2.2.2, (findM va (asidM c3) m3).2.2.1 - 1) := by unfold startM; rw [if_pos qd]
    obtain ⟨u1, u2, u3⟩ := hit_spec g3 r3 qd
    have u4 := kind_ptr (show kindM _ _ = 1 from u3)
    simp only at u1 u2 u4
    have ew : IntKind.i64.wrap ((findM va (asidM c3) m3).2.2.1 - 1) = (findM va (asidM c3) m3).2.2.1 - 1 := wrap_i64_in (by have := u1.1; omega) (by have := u1.2; omega)
    rw [es] at hW hst
    simp only at hW hst
    have en : ((findM va (asidM c3) m3).2.2.1 - 1).toNat + 1 = ((findM va (asidM c3) m3).2.2.1 - 1 + 1).toNat := by have := u1.1; omega
    refine ⟨u2, ⟨rfl, by rw [ew]; exact hst⟩, 0, by simp only [ew, en, hW]; simp [keepAll], ⟨by omega, hRec⟩, ?_⟩
    clear es ew en hW hst
    refine fun _ _ => ⟨⟨rfl, fun n2 n3 => ?_, hv⟩, answerM (q0, q1, q2, rs) (c0, c1, c2, c3) kind va, by simp, fun a => ?_, fun a => ?_⟩
    · rcases hc with z | z | z
      · exact (hleaf z).1
      · exact absurd z n3
      · exact absurd z n2
    · have a : (answerM (q0, q1, q2, rs) (c0, c1, c2, c3) kind va).1 = 0 := by simpa using a
      rcases hc with z | z | z
      · obtain ⟨u1, u2, u3⟩ := hleaf z
        have ul : LvR q1 := ⟨u2, by omega⟩
        have uk := hkind z
        subst z
        have g : grantM q2 kind c0 c1 c2 = true := by
          by_cases g : grantM q2 kind c0 c1 c2 = true
          · exact g
          · simp [answerM, leafM, g] at a
            exact absurd a (pf_ne kind)
        have he : insertM (s2, w2, m2) ((entM q1 va c3 q2).1, (entM q1 va c3 q2).2.1, (entM q1 va c3 q2).2.2.1, (entM q1 va c3 q2).2.2.2.1, (entM q1 va c3 q2).2.2.2.2.1, (entM q1 va c3 q2).2.2.2.2.2) pick = insT (s2, w2, m2) (entM q1 va c3 q2) pick := by
          show insertM _ (entM q1 va c3 q2) pick = _
          exact insert_ins g2 (good_ent ul uk) p0 p1
        have hr2 : ((0, physM q2 q1 va, 0, putT kind ((s1, w1, m1), (s2, w2, m2), (s3, w3, (keepAll va c3 pick (s3, w3, m3) rs).2.2)) (insT (pickT kind ((s1, w1, m1), (s2, w2, m2), (s3, w3, (keepAll va c3 pick (s3, w3, m3) rs).2.2))) (entM q1 va c3 q2) pick)) : TrR) = (e, pa, l, (s1, w1, t1), (s2, w2, t2), (s3, w3, t3)) := by
          rw [← hr]; unfold endM; rw [if_pos rfl, if_pos g]
        rw [hput, hpick] at hr2
        simp only [Prod.mk.injEq] at hr2
        obtain ⟨rfl, rfl, -, h1, h2, h3⟩ := hr2
        obtain ⟨-, -, rfl⟩ := h1
        obtain ⟨-, -, rfl⟩ := h3
        have h1 : insT (s2, w2, m2) (entM q1 va c3 q2) pick = (s2, w2, t2) := h2
        have ea : answerM (1, q1, q2, rs) (c0, c1, c2, c3) kind va = (0, physM q2 q1 va) := by simp [answerM, leafM, g]
        rw [he, h1, ea]
        refine ⟨⟨ul, hv, hc3, u1⟩, ⟨rfl, r2, ent_in ul u1⟩, fun b => ?_, fun b => ?_⟩
        · exact absurd (by simpa using b) hk
        · simp [causeM]
      · subst z
        exact absurd a (by simp [answerM]; exact af_ne kind)
      · subst z
        exact absurd a (by simp [answerM]; exact pf_ne kind)
    · have a : ¬ (answerM (q0, q1, q2, rs) (c0, c1, c2, c3) kind va).1 = 0 := by simpa using a
      rcases hc with z | z | z
      · subst z
        have g : grantM q2 kind c0 c1 c2 = false := by
          by_cases g : grantM q2 kind c0 c1 c2 = true
          · exact absurd (by simp [answerM, leafM, g]) a
          · simpa using g
        have hr2 : ((2, 0, q1, (s1, w1, m1), (s2, w2, m2), (s3, w3, (keepAll va c3 pick (s3, w3, m3) rs).2.2)) : TrR) = (e, pa, l, (s1, w1, t1), (s2, w2, t2), (s3, w3, t3)) := by
          rw [← hr]; unfold endM; rw [if_pos rfl, if_neg (by rw [g]; simp)]
        cases hr2
        simp [answerM, leafM, g, causeM]
      · subst z
        have hr2 : ((1, 0, q1, (s1, w1, m1), (s2, w2, m2), (s3, w3, (keepAll va c3 pick (s3, w3, m3) rs).2.2)) : TrR) = (e, pa, l, (s1, w1, t1), (s2, w2, t2), (s3, w3, t3)) := by
          rw [← hr]; unfold endM; rw [if_neg (by simp), if_pos rfl]
        cases hr2
        simp [answerM, causeM]
      · subst z
        have hr2 : ((2, 0, q1, (s1, w1, m1), (s2, w2, m2), (s3, w3, (keepAll va c3 pick (s3, w3, m3) rs).2.2)) : TrR) = (e, pa, l, (s1, w1, t1), (s2, w2, t2), (s3, w3, t3)) := by
          rw [← hr]; unfold endM; rw [if_neg (by simp), if_neg (by simp)]
        cases hr2
        simp [answerM, causeM]
  · have qa : ¬ onM (c0, c1, c2, c3) = false := by simpa using qa
    have qb' : canM va = true := by simpa using qb
    have qb : ¬ canM va = false := by simpa using qb
    unfold trM at hr
    rw [if_neg qa, if_neg qb, hpick, if_neg (by rw [qc]; simp)] at hr
    unfold missM at hr
    simp only at hr
    have hst := start_in (satp := c3) hm hv g3 r3
    have hrec := walkN_recs (va := va) hm ((startM c3 va (s3, w3, m3)).2 + 1).toNat (startM c3 va (s3, w3, m3)).1
    have hlen := walkN_length m va ((startM c3 va (s3, w3, m3)).2 + 1).toNat (startM c3 va (s3, w3, m3)).1
    have hc := walkN_code m va ((startM c3 va (s3, w3, m3)).2 + 1).toNat (startM c3 va (s3, w3, m3)).1
    have hleaf := walkN_leaf (va := va) hm ((startM c3 va (s3, w3, m3)).2 + 1).toNat (startM c3 va (s3, w3, m3)).1
    have hkind := walkN_kind (m := m) (va := va) ((startM c3 va (s3, w3, m3)).2 + 1).toNat (startM c3 va (s3, w3, m3)).1
    have hst2 := hst.2.2.2.1
    have hn3 : ((startM c3 va (s3, w3, m3)).2 + 1).toNat ≤ 3 := by have := hst2.2; omega
    rw [hW] at hr hrec hlen hc hleaf hkind
    simp only at hr hrec hlen hc hleaf hkind
    have hRec : RecR (c0, c1, c2, c3) ((s1, w1, m1), (s2, w2, m2), (s3, w3, m3)) va pick rs := ⟨hc3, hv, p0, p1, g3, r3, by omega, fun r hr => by obtain ⟨a, b, c⟩ := hrec r hr; exact ⟨⟨a, by omega⟩, c⟩⟩
    have qd : (findM va (asidM c3) m3).1 = false := qd
    have es : startM c3 va (s3, w3, m3) = (rootM c3, 2) := by unfold startM; rw [if_neg (by rw [qd]; simp)]
    rw [es] at hW
    have ew : walkM m c3 va = (q0, q1, q2, rs) := by rw [walkM_can qb']; exact hW
    refine ⟨0, by rw [ew]; simp [keepAll], ⟨by omega, hRec⟩, ?_⟩
    clear es ew hW hst
    refine fun _ _ => ⟨⟨rfl, fun n2 n3 => ?_, hv⟩, answerM (q0, q1, q2, rs) (c0, c1, c2, c3) kind va, by simp, fun a => ?_, fun a => ?_⟩
    · rcases hc with z | z | z
      · exact (hleaf z).1
      · exact absurd z n3
      · exact absurd z n2
    · have a : (answerM (q0, q1, q2, rs) (c0, c1, c2, c3) kind va).1 = 0 := by simpa using a
      rcases hc with z | z | z
      · obtain ⟨u1, u2, u3⟩ := hleaf z
        have ul : LvR q1 := ⟨u2, by omega⟩
        have uk := hkind z
        subst z
        have g : grantM q2 kind c0 c1 c2 = true := by
          by_cases g : grantM q2 kind c0 c1 c2 = true
          · exact g
          · simp [answerM, leafM, g] at a
            exact absurd a (pf_ne kind)
        have he : insertM (s2, w2, m2) ((entM q1 va c3 q2).1, (entM q1 va c3 q2).2.1, (entM q1 va c3 q2).2.2.1, (entM q1 va c3 q2).2.2.2.1, (entM q1 va c3 q2).2.2.2.2.1, (entM q1 va c3 q2).2.2.2.2.2) pick = insT (s2, w2, m2) (entM q1 va c3 q2) pick := by
          show insertM _ (entM q1 va c3 q2) pick = _
          exact insert_ins g2 (good_ent ul uk) p0 p1
        have hr2 : ((0, physM q2 q1 va, 0, putT kind ((s1, w1, m1), (s2, w2, m2), (s3, w3, (keepAll va c3 pick (s3, w3, m3) rs).2.2)) (insT (pickT kind ((s1, w1, m1), (s2, w2, m2), (s3, w3, (keepAll va c3 pick (s3, w3, m3) rs).2.2))) (entM q1 va c3 q2) pick)) : TrR) = (e, pa, l, (s1, w1, t1), (s2, w2, t2), (s3, w3, t3)) := by
          rw [← hr]; unfold endM; rw [if_pos rfl, if_pos g]
        rw [hput, hpick] at hr2
        simp only [Prod.mk.injEq] at hr2
        obtain ⟨rfl, rfl, -, h1, h2, h3⟩ := hr2
        obtain ⟨-, -, rfl⟩ := h1
        obtain ⟨-, -, rfl⟩ := h3
        have h1 : insT (s2, w2, m2) (entM q1 va c3 q2) pick = (s2, w2, t2) := h2
        have ea : answerM (1, q1, q2, rs) (c0, c1, c2, c3) kind va = (0, physM q2 q1 va) := by simp [answerM, leafM, g]
        rw [he, h1, ea]
        refine ⟨⟨ul, hv, hc3, u1⟩, ⟨rfl, r2, ent_in ul u1⟩, fun b => ?_, fun b => ?_⟩
        · exact absurd (by simpa using b) hk
        · simp [causeM]
      · subst z
        exact absurd a (by simp [answerM]; exact af_ne kind)
      · subst z
        exact absurd a (by simp [answerM]; exact pf_ne kind)
    · have a : ¬ (answerM (q0, q1, q2, rs) (c0, c1, c2, c3) kind va).1 = 0 := by simpa using a
      rcases hc with z | z | z
      · subst z
        have g : grantM q2 kind c0 c1 c2 = false := by
          by_cases g : grantM q2 kind c0 c1 c2 = true
          · exact absurd (by simp [answerM, leafM, g]) a
          · simpa using g
        have hr2 : ((2, 0, q1, (s1, w1, m1), (s2, w2, m2), (s3, w3, (keepAll va c3 pick (s3, w3, m3) rs).2.2)) : TrR) = (e, pa, l, (s1, w1, t1), (s2, w2, t2), (s3, w3, t3)) := by
          rw [← hr]; unfold endM; rw [if_pos rfl, if_neg (by rw [g]; simp)]
        cases hr2
        simp [answerM, leafM, g, causeM]
      · subst z
        have hr2 : ((1, 0, q1, (s1, w1, m1), (s2, w2, m2), (s3, w3, (keepAll va c3 pick (s3, w3, m3) rs).2.2)) : TrR) = (e, pa, l, (s1, w1, t1), (s2, w2, t2), (s3, w3, t3)) := by
          rw [← hr]; unfold endM; rw [if_neg (by simp), if_pos rfl]
        cases hr2
        simp [answerM, causeM]
      · subst z
        have hr2 : ((2, 0, q1, (s1, w1, m1), (s2, w2, m2), (s3, w3, (keepAll va c3 pick (s3, w3, m3) rs).2.2)) : TrR) = (e, pa, l, (s1, w1, t1), (s2, w2, t2), (s3, w3, t3)) := by
          rw [← hr]; unfold endM; rw [if_neg (by simp), if_neg (by simp)]
        cases hr2
        simp [answerM, causeM]
theorem sTlb_ok : Sound Try.prog 79 (pureS [byP, ctxP, chP, i64, u64, i64] [ttP] (fun t => some (TlbR t.1 t.2.1 t.2.2.1 t.2.2.2.2.1)) (fun t => tlbF t.1 t.2.1 t.2.2.1 t.2.2.2.1 t.2.2.2.2.1 t.2.2.2.2.2)) := by
  refine pure_loop mixed Try.func79 (by kernel_rfl) (b := loopAt Try.f79 0) (k := 24) (by kernel_rfl) (by kernel_rfl) (by kernel_rfl) FZ0_ok (fun t h => ?_)
  obtain ⟨m, ⟨c0, c1, c2, c3⟩, ⟨s1, w1, m1, s2, w2, m2, s3, w3, m3⟩, kind, va, pick⟩ : By × Ct × Cf × Int × Int × Int := t
  have h : TlbR m (c0, c1, c2, c3) (s1, w1, m1, s2, w2, m2, s3, w3, m3) va := h
  have goal : ∀ (isI : Bool) (q0 q1 q2 : Int) (rs : Rs), (∀ i : Nat, (i ≤ rs.length ∧ RecR (c0, c1, c2, c3) ((s1, w1, m1), (s2, w2, m2), (s3, w3, m3)) va pick rs) → vcRound Try.prog FZ0 (spX isI m (c0, c1, c2, c3) ((s1, w1, m1), (s2, w2, m2), (s3, w3, m3)) kind va pick (q0, q1, q2, rs)) 4 (loopAt Try.f79 0) (spL isI m (c0, c1, c2, c3) ((s1, w1, m1), (s2, w2, m2), (s3, w3, m3)) kind va pick (q0, q1, q2, rs)) (fun i : Nat => rs.length - i) i) → vcPure Try.prog FZ0 (spX isI m (c0, c1, c2, c3) ((s1, w1, m1), (s2, w2, m2), (s3, w3, m3)) kind va pick (q0, q1, q2, rs)) Try.f79 [byP, ctxP, chP, i64, u64, i64] [ttP] (m, (c0, c1, c2, c3), (s1, w1, m1, s2, w2, m2, s3, w3, m3), kind, va, pick) (tlbF m (c0, c1, c2, c3) (s1, w1, m1, s2, w2, m2, s3, w3, m3) kind va pick) → ∃ (Ξ : Specs) (L : LoopS) (μ : L.α → Nat), Ξ.loop 24 = some L ∧ (∀ y, L.I y → vcRound Try.prog FZ0 Ξ 4 (loopAt Try.f79 0) L μ y) ∧ vcPure Try.prog FZ0 Ξ Try.f79 [byP, ctxP, chP, i64, u64, i64] [ttP] (m, (c0, c1, c2, c3), (s1, w1, m1, s2, w2, m2, s3, w3, m3), kind, va, pick) (tlbF m (c0, c1, c2, c3) (s1, w1, m1, s2, w2, m2, s3, w3, m3) kind va pick) :=
    fun isI q0 q1 q2 rs a b => ⟨spX isI m (c0, c1, c2, c3) ((s1, w1, m1), (s2, w2, m2), (s3, w3, m3)) kind va pick (q0, q1, q2, rs), spL isI m (c0, c1, c2, c3) ((s1, w1, m1), (s2, w2, m2), (s3, w3, m3)) kind va pick (q0, q1, q2, rs), fun i : Nat => rs.length - i, (show (Specs.one 24 (spL isI m (c0, c1, c2, c3) ((s1, w1, m1), (s2, w2, m2), (s3, w3, m3)) kind va pick (q0, q1, q2, rs))).loop 24 = some (spL isI m (c0, c1, c2, c3) ((s1, w1, m1), (s2, w2, m2), (s3, w3, m3)) kind va pick (q0, q1, q2, rs)) from one_loop 24 _), a, b⟩
  have el : tlbF m (c0, c1, c2, c3) (s1, w1, m1, s2, w2, m2, s3, w3, m3) kind va pick = ((tlbM m (c0, c1, c2, c3) ((s1, w1, m1), (s2, w2, m2), (s3, w3, m3)) kind va pick).1, (tlbM m (c0, c1, c2, c3) ((s1, w1, m1), (s2, w2, m2), (s3, w3, m3)) kind va pick).2.1, ofC (tlbM m (c0, c1, c2, c3) ((s1, w1, m1), (s2, w2, m2), (s3, w3, m3)) kind va pick).2.2) := rfl
  generalize hW : walkN m va ((startM c3 va (s3, w3, m3)).2 + 1).toNat (startM c3 va (s3, w3, m3)).1 = W
  obtain ⟨q0, q1, q2, rs⟩ := W
  by_cases ok : okT (c0, c1, c2, c3) ((s1, w1, m1), (s2, w2, m2), (s3, w3, m3)) kind pick = true
  · obtain ⟨e, pa, l, t1, t2, t3, hr, -⟩ := trM_shape m (c0, c1, c2, c3) (s1, w1, m1) (s2, w2, m2) (s3, w3, m3) kind va pick
    have et : tlbF m (c0, c1, c2, c3) (s1, w1, m1, s2, w2, m2, s3, w3, m3) kind va pick = (causeM e kind, pa, s1, w1, t1, s2, w2, t2, s3, w3, t3) := by
      rw [el]
      unfold tlbM
      rw [if_pos ok, hr]
      rfl
    by_cases hk : kind = 0
    · refine goal true q0 q1 q2 rs (fun i hi => spI_round m c0 c1 c2 c3 s1 w1 m1 s2 w2 m2 s3 w3 m3 kind va pick q0 q1 q2 rs hi) ?_
      rw [et]
      exact spI_main m c0 c1 c2 c3 s1 w1 m1 s2 w2 m2 s3 w3 m3 kind va pick q0 q1 q2 rs h hk ok hW hr
    · refine goal false q0 q1 q2 rs (fun i hi => spD_round m c0 c1 c2 c3 s1 w1 m1 s2 w2 m2 s3 w3 m3 kind va pick q0 q1 q2 rs hi) ?_
      rw [et]
      exact spD_main m c0 c1 c2 c3 s1 w1 m1 s2 w2 m2 s3 w3 m3 kind va pick q0 q1 q2 rs h hk ok hW hr
  · have et : tlbF m (c0, c1, c2, c3) (s1, w1, m1, s2, w2, m2, s3, w3, m3) kind va pick = (63, 0, 0, 0, [], 0, 0, [], 0, 0, []) := by
      rw [el]
      unfold tlbM
      rw [if_neg ok]
      rfl
    obtain ⟨hm, hc3, ⟨r1, r2, r3⟩, hv⟩ : ByteR m ∧ U64 c3 ∧ (TlR (s1, w1, m1) ∧ TlR (s2, w2, m2) ∧ TlR (s3, w3, m3)) ∧ U64 va := h
    have ok : okT (c0, c1, c2, c3) ((s1, w1, m1), (s2, w2, m2), (s3, w3, m3)) kind pick = false := by simpa using ok
    refine goal true q0 q1 q2 rs (fun i hi => spI_round m c0 c1 c2 c3 s1 w1 m1 s2 w2 m2 s3 w3 m3 kind va pick q0 q1 q2 rs hi) ?_
    rw [et]
    have hq := vc_spI_eq m c0 c1 c2 c3 s1 w1 m1 s2 w2 m2 s3 w3 m3 kind va pick q0 q1 q2 rs 63 0 0 0 [] 0 0 [] 0 0 []
    have gb := goodT_bif (c0, c1, c2, c3) ((s1, w1, m1), (s2, w2, m2), (s3, w3, m3)) kind pick
    simp only at gb
    rw [gb, ok] at hq
    refine vc_by hq ⟨⟨rfl, rfl, rfl, r1, r2, r3⟩, fun _ => ?_, fun q => by cases q⟩
    simp
theorem iTlbR_ok : Sound Try.prog 81 (pureS [byP, ctxP, chP, i64, u64, i64] [ttP] (fun t => some (TlbR t.1 t.2.1 t.2.2.1 t.2.2.2.2.1)) (fun t => tlbF t.1 t.2.1 t.2.2.1 t.2.2.2.1 t.2.2.2.2.1 t.2.2.2.2.2)) := pureS_weaken iTlb_ok (fun _ h => h)
theorem kZ1_ok : KnowsD Try.prog kZ1 := .cons (by kernel_rfl) sTlb_ok <| .cons (by kernel_rfl) iTlbR_ok <| .cons (by kernel_rfl) eqTT_ok <| .cons (by kernel_rfl) markTT_ok <| .cons (by kernel_rfl) heldTT_ok .nil
theorem FZ1_ok : DictOk Try.prog FZ1 := mkD_ok (((kZ1_ok.append kY1_ok).append kN2_ok).append kB3_ok) .nil .nil
theorem tlbF_size (m : By) (c : Ct) (x : Cf) (kind va pick : Int) (h : SzC (toC x)) : SzC (toC (tlbF m c x kind va pick).2.2) := by
  obtain ⟨s1, w1, m1, s2, w2, m2, s3, w3, m3⟩ := x
  obtain ⟨h1, h2, h3⟩ : SzR m1.length ∧ SzR m2.length ∧ SzR m3.length := h
  unfold tlbF tlbM
  split
  · obtain ⟨e, pa, l, t1, t2, t3, hr, l1, l2, l3, -⟩ := trM_shape m c (s1, w1, m1) (s2, w2, m2) (s3, w3, m3) kind va pick
    have e0 : toC (s1, w1, m1, s2, w2, m2, s3, w3, m3) = ((s1, w1, m1), (s2, w2, m2), (s3, w3, m3)) := rfl
    rw [e0, hr]
    exact ⟨by show SzR t1.length; rw [l1]; exact h1, by show SzR t2.length; rw [l2]; exact h2, by show SzR t3.length; rw [l3]; exact h3⟩
  · exact ⟨Nat.zero_le _, Nat.zero_le _, Nat.zero_le _⟩
theorem lawTlb_ok : Canon Try.prog 20 [byP, ctxP, chP, i64, u64, i64] [bl] (WfPs [byP, ctxP, chP, i64, u64, i64]) (fun _ => true) := by
  refine canon_plain mixed Try.func20 (by kernel_rfl) (by kernel_rfl) FZ1_ok (fun t h => ?_)
  obtain ⟨m, ⟨c0, c1, c2, c3⟩, ⟨s1, w1, m1, s2, w2, m2, s3, w3, m3⟩, kind, va, pick⟩ : By × Ct × Cf × Int × Int × Int := t
  have b1 := wf_bytes (m := m) h.1
  have b2 : U64 c3 := wf_u64 h.2.1.2.2.2
  obtain ⟨a1, a2, a3, a4, a5, a6, a7, a8, a9⟩ := h.2.2.1
  have b4 : U64 va := wf_u64 h.2.2.2.2.1
  have l3 : m1.length ≤ 9223372036854775807 := a3.1
  have l4 : m2.length ≤ 9223372036854775807 := a6.1
  have l5 : m3.length ≤ 9223372036854775807 := a9.1
  refine ⟨.none, vc_by (vc_lawTlb_eq m c0 c1 c2 c3 s1 w1 m1 s2 w2 m2 s3 w3 m3 kind va pick) ⟨fun _ => by simp, fun g => ⟨⟨rfl, rfl, rfl, ⟨l3, l4, l5⟩, by show (0 : Int) ≤ _; omega, by show _ ≤ (1048576 : Int); omega⟩, fun _ => by simp, fun q => ?_⟩⟩⟩
  have g : ¬ (m.length : Int) > 1048576 := of_decide_eq_false g
  have q := of_decide_eq_false q
  obtain ⟨z3, z4, z5⟩ := szC_use (by omega) q
  have z1 : SzR m.length := by unfold SzR; omega
  have z3 : SzR m1.length := z3
  have z4 : SzR m2.length := z4
  have z5 : SzR m3.length := z5
  have hr : TlbR m (c0, c1, c2, c3) (s1, w1, m1, s2, w2, m2, s3, w3, m3) va := ⟨⟨z1, b1⟩, b2, ⟨⟨wf_i64 a1, wf_i64 a2, z3, fun e he => wf_en (a3.2 e he)⟩, ⟨wf_i64 a4, wf_i64 a5, z4, fun e he => wf_en (a6.2 e he)⟩, ⟨wf_i64 a7, wf_i64 a8, z5, fun e he => wf_en (a9.2 e he)⟩⟩, b4⟩
  have hz := tlbF_size m (c0, c1, c2, c3) (s1, w1, m1, s2, w2, m2, s3, w3, m3) kind va pick ⟨z3, z4, z5⟩
  generalize tlbF m (c0, c1, c2, c3) (s1, w1, m1, s2, w2, m2, s3, w3, m3) kind va pick = T at hz ⊢
  obtain ⟨e, pa, t1, u1, n1, t2, u2, n2, t3, u3, n3⟩ : Int × Int × Cf := T
  obtain ⟨y1, y2, y3⟩ : SzR n1.length ∧ SzR n2.length ∧ SzR n3.length := hz
  have z1' : m.length ≤ 2097152 := z1
  have mk1 : MarkR m.length 1 := ⟨z1, by omega, by omega⟩
  have y1' : n1.length ≤ 2097152 := y1
  have y2' : n2.length ≤ 2097152 := y2
  have y3' : n3.length ≤ 2097152 := y3
  simp [z1, z3, z4, z5, hr, y1, y2, y3, mk1, markEs_length]
  omega

end Go.Proofs.Ytfiddfbagbaofaa.V
