/- The program's walk answers as the model. Conditions: those in each statement. -/
import Derived.Test.YtfiddfbagbaofaaGK
import Derived.KernelRfl
namespace Go.Proofs.Ytfiddfbagbaofaa.V
open Go
def wrA (id n : Nat) : List Av := [.v (.int .i64 0), .v (.int .i64 0), .v (.int .u64 0), .sl id 3 0 n]
def rcA (r : Rc) : List Av := [.v (.int .i64 r.1), .v (.int .u64 r.2.1), .v (.int .u64 r.2.2)]
/-- Where the walk stands: at level l, in the table at page p, with the records xs; W is what the whole walk comes to. -/
def StR (m : By) (va : Int) (W : Wr) (l p : Int) (xs : Rs) : Prop := -1 ≤ l ∧ l ≤ 2 ∧ 0 ≤ p ∧ p < 17592186044416 ∧ W.1 = (walkN m va (l + 1).toNat p).1 ∧ W.2.1 = (walkN m va (l + 1).toNat p).2.1 ∧ W.2.2.1 = (walkN m va (l + 1).toNat p).2.2.1 ∧ W.2.2.2 = xs ++ (walkN m va (l + 1).toNat p).2.2.2 ∧ xs.length + (l + 1).toNat ≤ 3

/-- The record's test function puts it into the answer. -/
def recS : Sum := fun args H => match args, H with
  | [.agg [.v (.int .i64 a), .v (.int .u64 b), .v (.int .u64 c)], .ptr 0 0], [.fix [.v (.int .i64 0), .v (.int .i64 0), .v (.int .u64 0), .sl 1 3 0 n] true (some 63), .arr sh xs true] =>
    if h : sh = shR then some (some (n = xs.length ∧ n ≤ 100), .tup [], [.fix (wrA 2 (n + 1)) true (some 63), .dead, .arr shR ((h ▸ xs : List (El shR)) ++ [(a, b, c)]) true]) else none
  | _, _ => none
def vc_rec (a b c : Int) (xs : Rs) : Prop := vcAt Try.prog F0 .none Try.f123 [.agg (rcA (a, b, c)), .ptr 0 0] [.fix (wrA 1 xs.length) true (some 63), .arr shR xs true] (.tup []) [.fix (wrA 2 (xs.length + 1)) true (some 63), .dead, .arr shR (xs ++ [(a, b, c)]) true]
def kL1 : Known := (123, recS) :: kK2
def FL1 : Dict := mkD (kL1 ++ kB3 ++ kA4) [] []
def walkL (m : By) (va : Int) (W : Wr) : LoopS where
  α := Int × Int × Rs
  I x := StR m va W x.1 x.2.1 x.2.2
  sl x := slots 66 [(0, .ifc 138 (.sl 0 1 0 m.length)), (1, .v (.int .u64 x.2.1)), (2, .v (.int .i64 x.1)), (3, .v (.int .u64 va)), (4, .fn 123 [.ptr 1 0])]
  H x := [.arr [.i .u8] m false, .fix (wrA 2 x.2.2.length) true (some 63), .arr shR x.2.2 true]
  fams := [{ β := Unit, out := fun _ _ => W.1 = 2 ∧ W.2.1 = 0 ∧ W.2.2.1 = 0, ex := .ext 0, sl := fun _ => slots 66 [], H := fun _ => [.arr [.i .u8] m false, .fix (wrA 2 W.2.2.2.length) true (some 63), .arr shR W.2.2.2 true] },
    { β := Unit, out := fun _ _ => W.1 = 3 ∧ W.2.2.1 = 0, ex := .ret, sl := fun _ => slots 66 [(10, .v (.int .u64 0)), (11, .v (.int .i64 W.2.1)), (12, .ifc 174 (.agg [.v (.int .i64 W.2.1)]))], H := fun _ => [.arr [.i .u8] m false, .fix (wrA 2 W.2.2.2.length) true (some 63), .arr shR W.2.2.2 true] },
    { β := Unit, out := fun _ _ => W.1 = 2 ∧ W.2.2.1 = 0, ex := .ret, sl := fun _ => slots 66 [(10, .v (.int .u64 0)), (11, .v (.int .i64 W.2.1)), (12, .ifc 189 (.agg [.v (.int .i64 W.2.1)]))], H := fun _ => [.arr [.i .u8] m false, .fix (wrA 2 W.2.2.2.length) true (some 63), .arr shR W.2.2.2 true] },
    { β := Unit, out := fun _ _ => W.1 = 1, ex := .ret, sl := fun _ => slots 66 [(10, .v (.int .u64 W.2.2.1)), (11, .v (.int .i64 W.2.1)), (12, .v .nilIface)], H := fun _ => [.arr [.i .u8] m false, .fix (wrA 2 W.2.2.2.length) true (some 63), .arr shR W.2.2.2 true] }]
def vc_walk_r (m : By) (va : Int) (a b c : Int) (rs : Rs) (l p : Int) (xs : Rs) : Prop := vcRound Try.prog FL1 (.one 1 (walkL m va (a, b, c, rs))) 2 (loopAt Try.f121 0) (walkL m va (a, b, c, rs)) (fun x : Int × Int × Rs => (x.1 + 1).toNat) (l, p, xs)
def errA (k : Nat) (W : Wr) : Av := match k with | 0 => .v .nilIface | 1 => .ifc 174 (.agg [.v (.int .i64 W.2.1)]) | _ => .ifc 189 (.agg [.v (.int .i64 W.2.1)])
def codeK (k : Nat) (W : Wr) : Prop := match k with | 0 => W.1 = 1 | 1 => W.1 = 3 | _ => W.1 = 2
def resA (k : Nat) (W : Wr) : Av := .tup [.v (.int .u64 W.2.2.1), .v (.int .i64 W.2.1), errA k W]
def endH (m : By) (W : Wr) : Heap := [.arr [.i .u8] m false, .fix (wrA 2 W.2.2.2.length) true (some 63), .arr shR W.2.2.2 true]
def walkArgs (n : Nat) (p va : Int) : List Av := [.ifc 138 (.sl 0 1 0 n), .v (.int .u64 p), .v (.int .i64 2), .v (.int .u64 va), .fn 123 [.ptr 1 0]]
def begH (m : By) : Heap := [.arr [.i .u8] m false, .fix [.v (.int .i64 0), .v (.int .i64 0), .v (.int .u64 0), .v (.slice none 0 0)] true (some 63)]
def walkS (k : Nat) : Sum := fun args H => match args, H with
  | [.ifc 138 (.sl 0 1 0 n), .v (.int .u64 p), .v (.int .i64 l), .v (.int .u64 va), .fn 123 [.ptr 1 0]], [.arr sh m false, .fix [.v (.int .i64 0), .v (.int .i64 0), .v (.int .u64 0), .v (.slice none 0 0)] true (some 63)] =>
    if h : sh = [.i .u8] then some (some (n = (h ▸ m : List (El [.i .u8])).length ∧ l = 2 ∧ FromR (h ▸ m : List (El [.i .u8])) p 2 va ∧ codeK k (walkN (h ▸ m : List (El [.i .u8])) va 3 p)), resA k (walkN (h ▸ m : List (El [.i .u8])) va 3 p), endH (h ▸ m : List (El [.i .u8])) (walkN (h ▸ m : List (El [.i .u8])) va 3 p)) else none
  | _, _ => none
def vc_walk0 (m : By) (p va a b c : Int) (rs : Rs) : Prop := vcAt Try.prog FL1 (.one 1 (walkL m va (a, b, c, rs))) Try.f121 (walkArgs m.length p va) (begH m) (resA 0 (a, b, c, rs)) (endH m (a, b, c, rs))
def vc_walk1 (m : By) (p va a b c : Int) (rs : Rs) : Prop := vcAt Try.prog FL1 (.one 1 (walkL m va (a, b, c, rs))) Try.f121 (walkArgs m.length p va) (begH m) (resA 1 (a, b, c, rs)) (endH m (a, b, c, rs))
def vc_walk2 (m : By) (p va a b c : Int) (rs : Rs) : Prop := vcAt Try.prog FL1 (.one 1 (walkL m va (a, b, c, rs))) Try.f121 (walkArgs m.length p va) (begH m) (resA 2 (a, b, c, rs)) (endH m (a, b, c, rs))
def FL2 : Dict := mkD (kL1 ++ kB3 ++ kA4) [(121, (3, walkS))] []
def vc_iWalk (m : By) (root va : Int) : Prop := vcPure Try.prog FL2 .none Try.f48 [byP, u64, u64] [wrP] (m, root, va) (walkM m root va)
end Go.Proofs.Ytfiddfbagbaofaa.V
namespace Go.Proofs.Ytfiddfbagbaofaa.V
open Go
set_option linter.unusedVariables false
theorem vc_rec_eq (a b c : Int) (xs : Rs) : vc_rec a b c xs = (
 ((0 : Nat) + (1 : Nat) ≤ [(a, b, c)].length ∧ List.length xs ≤ List.length xs ∧ List.length xs + (List.take (1 : Nat) (List.drop (0 : Nat) [(a, b, c)])).length ≤ (1073741824 : Nat)) ∧ (0 : Int) = (0 : Int) ∧ (0 : Int) = (0 : Int) ∧ (0 :
 Int) = (0 : Int) ∧ (0 : Nat) = (0 : Nat) ∧ List.length xs + (1 : Nat) = List.length xs + (List.take (1 : Nat) (List.drop (0 : Nat) [(a, b, c)])).length ∧ xs ++ [(a, b, c)] = List.take (List.length xs) xs ++ List.take (1 : Nat) (List.drop (0
 : Nat) [(a, b, c)])) := by kernel_rfl
theorem vc_walk_r_eq (m : By) (va : Int) (a b c : Int) (rs : Rs) (l p : Int) (xs : Rs) : vc_walk_r m va a b c rs l p xs = (
 (decide (l ≥ (0 : Int)) = true → (0 : Int) ≤ (6 : Int) ∧ (0 : Int) ≤ IntKind.i64.wrap ((6 : Int) + IntKind.i64.wrap ((3 : Int) * l)) ∧ (0 : Int) ≤ (3 : Int) ∧ (List.length m = List.length m ∧ ByteR m ∧ U64 (IntKind.u64.wrap
 (IntKind.u64.wrap (p * (2 : Int) ^ min (Int.toNat (6 : Int)) (64 : Nat)) + IntKind.u64.wrap (bits BinOp.and IntKind.u64 (va / (2 : Int) ^ min (IntKind.i64.wrap ((6 : Int) + IntKind.i64.wrap ((3 : Int) * l))).toNat (64 : Nat)) (7 : Int) * (2
 : Int) ^ min (Int.toNat (3 : Int)) (64 : Nat))))) ∧ ((!(readM m (IntKind.u64.wrap (IntKind.u64.wrap (p * (2 : Int) ^ min (Int.toNat (6 : Int)) (64 : Nat)) + IntKind.u64.wrap (bits BinOp.and IntKind.u64 (va / (2 : Int) ^ min
 (IntKind.i64.wrap ((6 : Int) + IntKind.i64.wrap ((3 : Int) * l))).toNat (64 : Nat)) (7 : Int) * (2 : Int) ^ min (Int.toNat (3 : Int)) (64 : Nat)))) (8 : Int)).fst) = true → (∃ (z : Unit), ((0 : Int) = (0 : Int) ∧ b = l ∧ b = l ∧ m = m ∧ (0
 : Int) = (0 : Int) ∧ (0 : Int) = (0 : Int) ∧ (0 : Int) = (0 : Int) ∧ (0 : Nat) = (0 : Nat) ∧ List.length rs = List.length xs ∧ rs = xs) ∧ a = (3 : Int) ∧ c = (0 : Int)) ∨ (∃ (z : Unit), False ∧ a = (2 : Int) ∧ c = (0 : Int)) ∨ ∃ (z :
 Unit), False ∧ a = (1 : Int)) ∧ ((!(readM m (IntKind.u64.wrap (IntKind.u64.wrap (p * (2 : Int) ^ min (Int.toNat (6 : Int)) (64 : Nat)) + IntKind.u64.wrap (bits BinOp.and IntKind.u64 (va / (2 : Int) ^ min (IntKind.i64.wrap ((6 : Int) +
 IntKind.i64.wrap ((3 : Int) * l))).toNat (64 : Nat)) (7 : Int) * (2 : Int) ^ min (Int.toNat (3 : Int)) (64 : Nat)))) (8 : Int)).fst) = false → U64 (readM m (IntKind.u64.wrap (IntKind.u64.wrap (p * (2 : Int) ^ min (Int.toNat (6 : Int)) (64 :
 Nat)) + IntKind.u64.wrap (bits BinOp.and IntKind.u64 (va / (2 : Int) ^ min (IntKind.i64.wrap ((6 : Int) + IntKind.i64.wrap ((3 : Int) * l))).toNat (64 : Nat)) (7 : Int) * (2 : Int) ^ min (Int.toNat (3 : Int)) (64 : Nat)))) (8 : Int)).snd ∧
 ((kindM (readM m (IntKind.u64.wrap (IntKind.u64.wrap (p * (2 : Int) ^ min (Int.toNat (6 : Int)) (64 : Nat)) + IntKind.u64.wrap (bits BinOp.and IntKind.u64 (va / (2 : Int) ^ min (IntKind.i64.wrap ((6 : Int) + IntKind.i64.wrap ((3 : Int) *
 l))).toNat (64 : Nat)) (7 : Int) * (2 : Int) ^ min (Int.toNat (3 : Int)) (64 : Nat)))) (8 : Int)).snd l == (0 : Int)) = true → (∃ (z : Unit), False ∧ a = (3 : Int) ∧ c = (0 : Int)) ∨ (∃ (z : Unit), ((0 : Int) = (0 : Int) ∧ b = l ∧ b = l ∧
 m = m ∧ (0 : Int) = (0 : Int) ∧ (0 : Int) = (0 : Int) ∧ (0 : Int) = (0 : Int) ∧ (0 : Nat) = (0 : Nat) ∧ List.length rs = List.length xs ∧ rs = xs) ∧ a = (2 : Int) ∧ c = (0 : Int)) ∨ ∃ (z : Unit), False ∧ a = (1 : Int)) ∧ ((kindM (readM m
 (IntKind.u64.wrap (IntKind.u64.wrap (p * (2 : Int) ^ min (Int.toNat (6 : Int)) (64 : Nat)) + IntKind.u64.wrap (bits BinOp.and IntKind.u64 (va / (2 : Int) ^ min (IntKind.i64.wrap ((6 : Int) + IntKind.i64.wrap ((3 : Int) * l))).toNat (64 :
 Nat)) (7 : Int) * (2 : Int) ^ min (Int.toNat (3 : Int)) (64 : Nat)))) (8 : Int)).snd l == (0 : Int)) = false → (List.length xs = List.length xs ∧ List.length xs ≤ (100 : Nat)) ∧ ((kindM (readM m (IntKind.u64.wrap (IntKind.u64.wrap (p * (2 :
 Int) ^ min (Int.toNat (6 : Int)) (64 : Nat)) + IntKind.u64.wrap (bits BinOp.and IntKind.u64 (va / (2 : Int) ^ min (IntKind.i64.wrap ((6 : Int) + IntKind.i64.wrap ((3 : Int) * l))).toNat (64 : Nat)) (7 : Int) * (2 : Int) ^ min (Int.toNat (3
 : Int)) (64 : Nat)))) (8 : Int)).snd l == (2 : Int)) = true → (∃ (z : Unit), False ∧ a = (3 : Int) ∧ c = (0 : Int)) ∨ (∃ (z : Unit), False ∧ a = (2 : Int) ∧ c = (0 : Int)) ∨ ∃ (z : Unit), (c = (readM m (IntKind.u64.wrap (IntKind.u64.wrap
 (p * (2 : Int) ^ min (Int.toNat (6 : Int)) (64 : Nat)) + IntKind.u64.wrap (bits BinOp.and IntKind.u64 (va / (2 : Int) ^ min (IntKind.i64.wrap ((6 : Int) + IntKind.i64.wrap ((3 : Int) * l))).toNat (64 : Nat)) (7 : Int) * (2 : Int) ^ min
 (Int.toNat (3 : Int)) (64 : Nat)))) (8 : Int)).snd ∧ b = l ∧ Value.nilIface = Value.nilIface ∧ m = m ∧ (0 : Int) = (0 : Int) ∧ (0 : Int) = (0 : Int) ∧ (0 : Int) = (0 : Int) ∧ (0 : Nat) = (0 : Nat) ∧ List.length rs = List.length xs + (1 :
 Nat) ∧ rs = xs ++ [(l, IntKind.u64.wrap (IntKind.u64.wrap (p * (2 : Int) ^ min (Int.toNat (6 : Int)) (64 : Nat)) + IntKind.u64.wrap (bits BinOp.and IntKind.u64 (va / (2 : Int) ^ min (IntKind.i64.wrap ((6 : Int) + IntKind.i64.wrap ((3 : Int)
 * l))).toNat (64 : Nat)) (7 : Int) * (2 : Int) ^ min (Int.toNat (3 : Int)) (64 : Nat))), (readM m (IntKind.u64.wrap (IntKind.u64.wrap (p * (2 : Int) ^ min (Int.toNat (6 : Int)) (64 : Nat)) + IntKind.u64.wrap (bits BinOp.and IntKind.u64 (va
 / (2 : Int) ^ min (IntKind.i64.wrap ((6 : Int) + IntKind.i64.wrap ((3 : Int) * l))).toNat (64 : Nat)) (7 : Int) * (2 : Int) ^ min (Int.toNat (3 : Int)) (64 : Nat)))) (8 : Int)).snd)]) ∧ a = (1 : Int)) ∧ ((kindM (readM m (IntKind.u64.wrap
 (IntKind.u64.wrap (p * (2 : Int) ^ min (Int.toNat (6 : Int)) (64 : Nat)) + IntKind.u64.wrap (bits BinOp.and IntKind.u64 (va / (2 : Int) ^ min (IntKind.i64.wrap ((6 : Int) + IntKind.i64.wrap ((3 : Int) * l))).toNat (64 : Nat)) (7 : Int) * (2
 : Int) ^ min (Int.toNat (3 : Int)) (64 : Nat)))) (8 : Int)).snd l == (2 : Int)) = false → U64 (readM m (IntKind.u64.wrap (IntKind.u64.wrap (p * (2 : Int) ^ min (Int.toNat (6 : Int)) (64 : Nat)) + IntKind.u64.wrap (bits BinOp.and IntKind.u64
 (va / (2 : Int) ^ min (IntKind.i64.wrap ((6 : Int) + IntKind.i64.wrap ((3 : Int) * l))).toNat (64 : Nat)) (7 : Int) * (2 : Int) ^ min (Int.toNat (3 : Int)) (64 : Nat)))) (8 : Int)).snd ∧ ∃ (y : Int × Int × Rs), ((0 : Nat) = (0 : Nat) ∧
 List.length m = List.length m ∧ y.snd.fst = ppnM (readM m (IntKind.u64.wrap (IntKind.u64.wrap (p * (2 : Int) ^ min (Int.toNat (6 : Int)) (64 : Nat)) + IntKind.u64.wrap (bits BinOp.and IntKind.u64 (va / (2 : Int) ^ min (IntKind.i64.wrap ((6
 : Int) + IntKind.i64.wrap ((3 : Int) * l))).toNat (64 : Nat)) (7 : Int) * (2 : Int) ^ min (Int.toNat (3 : Int)) (64 : Nat)))) (8 : Int)).snd ∧ y.fst = IntKind.i64.wrap (l - (1 : Int)) ∧ va = va ∧ m = m ∧ (0 : Int) = (0 : Int) ∧ (0 : Int) =
 (0 : Int) ∧ (0 : Int) = (0 : Int) ∧ (0 : Nat) = (0 : Nat) ∧ List.length y.snd.snd = List.length xs + (1 : Nat) ∧ y.snd.snd = xs ++ [(l, IntKind.u64.wrap (IntKind.u64.wrap (p * (2 : Int) ^ min (Int.toNat (6 : Int)) (64 : Nat)) +
 IntKind.u64.wrap (bits BinOp.and IntKind.u64 (va / (2 : Int) ^ min (IntKind.i64.wrap ((6 : Int) + IntKind.i64.wrap ((3 : Int) * l))).toNat (64 : Nat)) (7 : Int) * (2 : Int) ^ min (Int.toNat (3 : Int)) (64 : Nat))), (readM m
 (IntKind.u64.wrap (IntKind.u64.wrap (p * (2 : Int) ^ min (Int.toNat (6 : Int)) (64 : Nat)) + IntKind.u64.wrap (bits BinOp.and IntKind.u64 (va / (2 : Int) ^ min (IntKind.i64.wrap ((6 : Int) + IntKind.i64.wrap ((3 : Int) * l))).toNat (64 :
 Nat)) (7 : Int) * (2 : Int) ^ min (Int.toNat (3 : Int)) (64 : Nat)))) (8 : Int)).snd)]) ∧ StR m va (a, b, c, rs) y.fst y.snd.fst y.snd.snd ∧ (y.fst + (1 : Int)).toNat < (l + (1 : Int)).toNat ∧ (∀ (z : Unit), a = (2 : Int) ∧ b = (0 : Int) ∧
 c = (0 : Int) → a = (2 : Int) ∧ b = (0 : Int) ∧ c = (0 : Int)) ∧ (∀ (z : Unit), a = (3 : Int) ∧ c = (0 : Int) → a = (3 : Int) ∧ c = (0 : Int)) ∧ (∀ (z : Unit), a = (2 : Int) ∧ c = (0 : Int) → a = (2 : Int) ∧ c = (0 : Int)) ∧ ∀ (z :
 Unit), a = (1 : Int) → a = (1 : Int))))) ∧ (decide (l ≥ (0 : Int)) = false → ∃ (z : Unit), (m = m ∧ (0 : Int) = (0 : Int) ∧ (0 : Int) = (0 : Int) ∧ (0 : Int) = (0 : Int) ∧ (0 : Nat) = (0 : Nat) ∧ List.length rs = List.length xs ∧ rs = xs)
 ∧ a = (2 : Int) ∧ b = (0 : Int) ∧ c = (0 : Int))) := by kernel_rfl
theorem vc_walk0_eq (m : By) (p va a b c : Int) (rs : Rs) : vc_walk0 m p va a b c rs = (
 ∃ (x : Int × Int × Rs), ((0 : Nat) = (0 : Nat) ∧ List.length m = List.length m ∧ x.snd.fst = p ∧ x.fst = (2 : Int) ∧ va = va ∧ m = m ∧ (0 : Int) = (0 : Int) ∧ (0 : Int) = (0 : Int) ∧ (0 : Int) = (0 : Int) ∧ (0 : Nat) = (0 : Nat) ∧
 List.length x.snd.snd = (0 : Nat) ∧ x.snd.snd = []) ∧ StR m va (a, b, c, rs) x.fst x.snd.fst x.snd.snd ∧ (∀ (z : Unit), a = (2 : Int) ∧ b = (0 : Int) ∧ c = (0 : Int) → False) ∧ (∀ (z : Unit), a = (3 : Int) ∧ c = (0 : Int) → False) ∧ (∀ (z
 : Unit), a = (2 : Int) ∧ c = (0 : Int) → False) ∧ ∀ (z : Unit), a = (1 : Int) → c = c ∧ b = b ∧ Value.nilIface = Value.nilIface ∧ m = m ∧ (0 : Int) = (0 : Int) ∧ (0 : Int) = (0 : Int) ∧ (0 : Int) = (0 : Int) ∧ (0 : Nat) = (0 : Nat) ∧
 List.length rs = List.length rs ∧ rs = rs) := by kernel_rfl
theorem vc_walk1_eq (m : By) (p va a b c : Int) (rs : Rs) : vc_walk1 m p va a b c rs = (
 ∃ (x : Int × Int × Rs), ((0 : Nat) = (0 : Nat) ∧ List.length m = List.length m ∧ x.snd.fst = p ∧ x.fst = (2 : Int) ∧ va = va ∧ m = m ∧ (0 : Int) = (0 : Int) ∧ (0 : Int) = (0 : Int) ∧ (0 : Int) = (0 : Int) ∧ (0 : Nat) = (0 : Nat) ∧
 List.length x.snd.snd = (0 : Nat) ∧ x.snd.snd = []) ∧ StR m va (a, b, c, rs) x.fst x.snd.fst x.snd.snd ∧ (∀ (z : Unit), a = (2 : Int) ∧ b = (0 : Int) ∧ c = (0 : Int) → False) ∧ (∀ (z : Unit), a = (3 : Int) ∧ c = (0 : Int) → c = (0 : Int)
 ∧ b = b ∧ b = b ∧ m = m ∧ (0 : Int) = (0 : Int) ∧ (0 : Int) = (0 : Int) ∧ (0 : Int) = (0 : Int) ∧ (0 : Nat) = (0 : Nat) ∧ List.length rs = List.length rs ∧ rs = rs) ∧ (∀ (z : Unit), a = (2 : Int) ∧ c = (0 : Int) → False) ∧ ∀ (z : Unit), a
 = (1 : Int) → False) := by kernel_rfl
theorem vc_walk2_eq (m : By) (p va a b c : Int) (rs : Rs) : vc_walk2 m p va a b c rs = (
 ∃ (x : Int × Int × Rs), ((0 : Nat) = (0 : Nat) ∧ List.length m = List.length m ∧ x.snd.fst = p ∧ x.fst = (2 : Int) ∧ va = va ∧ m = m ∧ (0 : Int) = (0 : Int) ∧ (0 : Int) = (0 : Int) ∧ (0 : Int) = (0 : Int) ∧ (0 : Nat) = (0 : Nat) ∧
 List.length x.snd.snd = (0 : Nat) ∧ x.snd.snd = []) ∧ StR m va (a, b, c, rs) x.fst x.snd.fst x.snd.snd ∧ (∀ (z : Unit), a = (2 : Int) ∧ b = (0 : Int) ∧ c = (0 : Int) → c = (0 : Int) ∧ b = (0 : Int) ∧ b = (0 : Int) ∧ m = m ∧ (0 : Int) = (0
 : Int) ∧ (0 : Int) = (0 : Int) ∧ (0 : Int) = (0 : Int) ∧ (0 : Nat) = (0 : Nat) ∧ List.length rs = List.length rs ∧ rs = rs) ∧ (∀ (z : Unit), a = (3 : Int) ∧ c = (0 : Int) → False) ∧ (∀ (z : Unit), a = (2 : Int) ∧ c = (0 : Int) → c = (0 :
 Int) ∧ b = b ∧ b = b ∧ m = m ∧ (0 : Int) = (0 : Int) ∧ (0 : Int) = (0 : Int) ∧ (0 : Int) = (0 : Int) ∧ (0 : Nat) = (0 : Nat) ∧ List.length rs = List.length rs ∧ rs = rs) ∧ ∀ (z : Unit), a = (1 : Int) → False) := by kernel_rfl
theorem vc_iWalk_eq (m : By) (root va : Int) : vc_iWalk m root va = (
 U64 va ∧ ((!canM va) = true → (walkM m root va).fst = (2 : Int) ∧ (walkM m root va).snd.fst = (2 : Int) ∧ (walkM m root va).snd.snd.fst = (0 : Int) ∧ (0 : Nat) = (0 : Nat) ∧ List.length (walkM m root va).snd.snd.snd = (0 : Nat) ∧ m = m ∧
 (walkM m root va).snd.snd.snd = []) ∧ ((!canM va) = false → U64 root ∧ (List.length m = List.length m ∧ (2 : Int) = (2 : Int) ∧ FromR m (rootM root) (2 : Int) va ∧ codeK (0 : Nat) (walkN m va (3 : Nat) (rootM root)) ∨ List.length m =
 List.length m ∧ (2 : Int) = (2 : Int) ∧ FromR m (rootM root) (2 : Int) va ∧ codeK ((0 : Nat) + (1 : Nat)) (walkN m va (3 : Nat) (rootM root)) ∨ List.length m = List.length m ∧ (2 : Int) = (2 : Int) ∧ FromR m (rootM root) (2 : Int) va ∧
 codeK ((0 : Nat) + (1 : Nat) + (1 : Nat)) (walkN m va (3 : Nat) (rootM root))) ∧ (List.length m = List.length m ∧ (2 : Int) = (2 : Int) ∧ FromR m (rootM root) (2 : Int) va ∧ codeK (0 : Nat) (walkN m va (3 : Nat) (rootM root)) → (true = true
 → (walkM m root va).fst = (1 : Int) ∧ (walkM m root va).snd.fst = (walkN m va (3 : Nat) (rootM root)).snd.fst ∧ (walkM m root va).snd.snd.fst = (walkN m va (3 : Nat) (rootM root)).snd.snd.fst ∧ (0 : Nat) = (0 : Nat) ∧ List.length (walkM m
 root va).snd.snd.snd = List.length (walkN m va (3 : Nat) (rootM root)).snd.snd.snd ∧ m = m ∧ (walkM m root va).snd.snd.snd = (walkN m va (3 : Nat) (rootM root)).snd.snd.snd) ∧ (true = false → (walkM m root va).fst = (2 : Int) ∧ (walkM m
 root va).snd.fst = (walkN m va (3 : Nat) (rootM root)).snd.fst ∧ (walkM m root va).snd.snd.fst = (walkN m va (3 : Nat) (rootM root)).snd.snd.fst ∧ (0 : Nat) = (0 : Nat) ∧ List.length (walkM m root va).snd.snd.snd = List.length (walkN m va
 (3 : Nat) (rootM root)).snd.snd.snd ∧ m = m ∧ (walkM m root va).snd.snd.snd = (walkN m va (3 : Nat) (rootM root)).snd.snd.snd)) ∧ (List.length m = List.length m ∧ (2 : Int) = (2 : Int) ∧ FromR m (rootM root) (2 : Int) va ∧ codeK ((0 : Nat)
 + (1 : Nat)) (walkN m va (3 : Nat) (rootM root)) → (walkM m root va).fst = (3 : Int) ∧ (walkM m root va).snd.fst = (walkN m va (3 : Nat) (rootM root)).snd.fst ∧ (walkM m root va).snd.snd.fst = (walkN m va (3 : Nat) (rootM root)).snd.snd.fst
 ∧ (0 : Nat) = (0 : Nat) ∧ List.length (walkM m root va).snd.snd.snd = List.length (walkN m va (3 : Nat) (rootM root)).snd.snd.snd ∧ m = m ∧ (walkM m root va).snd.snd.snd = (walkN m va (3 : Nat) (rootM root)).snd.snd.snd) ∧ (List.length m =
 List.length m ∧ (2 : Int) = (2 : Int) ∧ FromR m (rootM root) (2 : Int) va ∧ codeK ((0 : Nat) + (1 : Nat) + (1 : Nat)) (walkN m va (3 : Nat) (rootM root)) → (walkM m root va).fst = (2 : Int) ∧ (walkM m root va).snd.fst = (walkN m va (3 :
 Nat) (rootM root)).snd.fst ∧ (walkM m root va).snd.snd.fst = (walkN m va (3 : Nat) (rootM root)).snd.snd.fst ∧ (0 : Nat) = (0 : Nat) ∧ List.length (walkM m root va).snd.snd.snd = List.length (walkN m va (3 : Nat) (rootM root)).snd.snd.snd ∧
 m = m ∧ (walkM m root va).snd.snd.snd = (walkN m va (3 : Nat) (rootM root)).snd.snd.snd))) := by kernel_rfl
end Go.Proofs.Ytfiddfbagbaofaa.V
namespace Go.Proofs.Ytfiddfbagbaofaa.V
open Go
set_option linter.unusedSimpArgs false

theorem rec_ok : Sound Try.prog 123 recS := by
  refine sound_plain mixed Try.func123 (by kernel_rfl) (by kernel_rfl) F0_ok (fun args H p v H' h hp => ?_)
  unfold recS at h
  split at h
  case h_2 => cases h
  rename_i a b c n sh xs
  split at h
  case isFalse => cases h
  rename_i hsh
  subst hsh
  simp only [Option.some.injEq, Prod.mk.injEq] at h
  obtain ⟨rfl, rfl, rfl⟩ := h
  obtain ⟨rfl, hn⟩ : n = xs.length ∧ n ≤ 100 := hp
  refine ⟨.none, vc_by (vc_rec_eq a b c xs) ?_⟩
  simp
  omega
theorem kL1_ok : KnowsD Try.prog kL1 := .cons (by kernel_rfl) rec_ok kK2_ok
theorem FL1_ok : DictOk Try.prog FL1 := mkD_ok ((kL1_ok.append kB3_ok).append kA4_ok) .nil .nil
theorem addr_impl {p va l : Int} (hl : LvR l) (hv : U64 va) (h0 : 0 ≤ p) (h1 : p < 17592186044416) : IntKind.u64.wrap (IntKind.u64.wrap (p * 2 ^ min (Int.toNat 6) 64) + IntKind.u64.wrap (bits .and .u64 (va / 2 ^ min (IntKind.i64.wrap (6 + IntKind.i64.wrap (3 * l))).toNat 64) 7 * 2 ^ min (Int.toNat 3) 64)) = 64 * p + 8 * idxM va l ∧ 0 ≤ IntKind.i64.wrap (6 + IntKind.i64.wrap (3 * l)) := by
  have e6 : (2 : Int) ^ min (Int.toNat 6) 64 = 64 := by decide
  have e3 : (2 : Int) ^ min (Int.toNat 3) 64 = 8 := by decide
  have key : ∀ n : Nat, bits .and .u64 (va / 2 ^ n) 7 = va / 2 ^ n % 8 := fun n => and_lit 3 7 8 (by decide) (by decide) (by decide) (div_U64 n hv).1 (div_U64 n hv).2
  have hi := idx_in va l
  have hx : bits .and .u64 (va / 2 ^ min (IntKind.i64.wrap (6 + IntKind.i64.wrap (3 * l))).toNat 64) 7 = idxM va l := by
    rw [key]
    rcases lv_cases hl with rfl | rfl | rfl <;> rfl
  rw [e6, e3, hx, wrap_u64_in (n := p * 64) (by omega) (by omega), wrap_u64_in (n := idxM va l * 8) (by omega) (by omega), wrap_u64_in (by omega) (by omega)]
  refine ⟨by omega, ?_⟩
  rcases lv_cases hl with rfl | rfl | rfl <;> decide
theorem walk_round {m : By} {va a b c : Int} {rs : Rs} (hm : ByteR m) (hv : U64 va) {l p : Int} {xs : Rs} (h : StR m va (a, b, c, rs) l p xs) : vcRound Try.prog FL1 (.one 1 (walkL m va (a, b, c, rs))) 2 (loopAt Try.f121 0) (walkL m va (a, b, c, rs)) (fun x : Int × Int × Rs => (x.1 + 1).toNat) (l, p, xs) := by
  obtain ⟨l0, l1, p0, p1, ha, hb, hc, hr, hx⟩ := h
  simp only at ha hb hc hr
  refine vc_by (vc_walk_r_eq m va a b c rs l p xs) ⟨fun g => ?_, fun g => ?_⟩
  · have g : l ≥ 0 := of_decide_eq_true g
    have hl : LvR l := ⟨g, l1⟩
    obtain ⟨hA, hS⟩ := addr_impl hl hv p0 p1
    have hrd := rd_u64 (a := 64 * p + 8 * idxM va l) hm
    obtain ⟨i0, i1⟩ := idx_in va l
    have hAu : U64 (64 * p + 8 * idxM va l) := ⟨by omega, by omega⟩
    rw [show (l + 1).toNat = l.toNat + 1 by omega, walk_step g] at ha hb hc hr
    rw [hA]
    generalize 64 * p + 8 * idxM va l = A at *
    generalize readM m A 8 = r at *
    refine ⟨by decide, hS, by decide, ⟨rfl, hm, hAu⟩, fun q => ?_, fun q => ⟨hrd, fun q2 => ?_, fun q2 => ⟨⟨rfl, by omega⟩, fun q3 => ?_, fun q3 => ⟨hrd, ?_⟩⟩⟩⟩
    · have q : r.1 = false := by simpa using q
      rw [if_pos q] at ha hb hc hr
      simp only [List.append_nil] at hr
      exact .inl ⟨(), ⟨rfl, hb, hb, rfl, rfl, rfl, rfl, rfl, by rw [hr], hr⟩, ha, hc⟩
    · have q : r.1 ≠ false := by simpa using q
      have q2 : kindM r.2 l = 0 := by simpa using q2
      rw [if_neg q, if_pos q2] at ha hb hc hr
      simp only [List.append_nil] at hr
      exact .inr (.inl ⟨(), ⟨rfl, hb, hb, rfl, rfl, rfl, rfl, rfl, by rw [hr], hr⟩, ha, hc⟩)
    · have q : r.1 ≠ false := by simpa using q
      have q2 : kindM r.2 l ≠ 0 := by simpa using q2
      have q3 : kindM r.2 l = 2 := by simpa using q3
      rw [if_neg q, if_neg q2, if_pos q3] at ha hb hc hr
      exact .inr (.inr ⟨(), ⟨hc, hb, rfl, rfl, rfl, rfl, rfl, rfl, by rw [hr]; simp, hr⟩, ha⟩)
    · have q : r.1 ≠ false := by simpa using q
      have q2 : kindM r.2 l ≠ 0 := by simpa using q2
      have q3 : kindM r.2 l ≠ 2 := by simpa using q3
      obtain ⟨g0, g1⟩ := ppn_in hrd
      rw [if_neg q, if_neg q2, if_neg q3] at ha hb hc hr
      have e1 : IntKind.i64.wrap (l - 1) = l - 1 := wrap_i64_in (by omega) (by omega)
      have e2 : (l - 1 + 1).toNat = l.toNat := by omega
      refine ⟨(l - 1, ppnM r.2, xs ++ [(l, A, r.2)]), ⟨rfl, rfl, rfl, e1.symm, rfl, rfl, rfl, rfl, rfl, rfl, by simp, rfl⟩, ⟨by simp only; omega, by simp only; omega, g0, g1, ?_, ?_, ?_, ?_, ?_⟩, by simp only; omega, fun _ z => z, fun _ z => z, fun _ z => z, fun _ z => z⟩
      · simp only [e2]; exact ha
      · simp only [e2]; exact hb
      · simp only [e2]; exact hc
      · simp only [e2, List.append_assoc]; exact hr
      · simp only [List.length_append, List.length_singleton]; omega
  · have g : ¬ l ≥ 0 := of_decide_eq_false g
    have e : (l + 1).toNat = 0 := by omega
    rw [e] at ha hb hc hr
    have ha : a = 2 := ha
    have hb : b = 0 := hb
    have hc : c = 0 := hc
    have hr : rs = xs ++ [] := hr
    rw [List.append_nil] at hr
    exact ⟨(), ⟨rfl, rfl, rfl, rfl, rfl, by rw [hr], hr⟩, ha, hb, hc⟩
theorem walk_ok (k : Nat) : Sound Try.prog 121 (walkS k) := by
  refine sound_loop mixed Try.func121 (by kernel_rfl) (b := loopAt Try.f121 0) (k := 1) (by kernel_rfl) (by kernel_rfl) (by kernel_rfl) FL1_ok (fun args H p v H' h hp => ?_)
  unfold walkS at h
  split at h
  case h_2 => cases h
  rename_i n p l va sh m
  split at h
  case isFalse => cases h
  rename_i hsh
  subst hsh
  simp only [Option.some.injEq, Prod.mk.injEq] at h
  obtain ⟨rfl, rfl, rfl⟩ := h
  obtain ⟨rfl, rfl, ⟨hm, p0, p1, hl, hv⟩, hk⟩ : n = m.length ∧ l = 2 ∧ FromR m p 2 va ∧ codeK k (walkN m va 3 p) := hp
  generalize hW : walkN m va 3 p = W at *
  obtain ⟨a, b, c, rs⟩ := W
  have h0 : StR m va (a, b, c, rs) 2 p [] := by
    refine ⟨by decide, by decide, p0, p1, ?_, ?_, ?_, ?_, by decide⟩ <;> (rw [show ((2 : Int) + 1).toNat = 3 by decide, hW]; try rfl)
  refine ⟨.one 1 (walkL m va (a, b, c, rs)), walkL m va (a, b, c, rs), fun x : Int × Int × Rs => (x.1 + 1).toNat, one_loop _ _, fun y hy => ?_, ?_⟩
  · obtain ⟨l, q, xs⟩ : Int × Int × Rs := y
    exact walk_round hm hv hy
  · match k, hk with
    | 0, hk =>
      have hk : a = 1 := hk
      subst hk
      exact vc_by (vc_walk0_eq m p va 1 b c rs) ⟨(2, p, []), ⟨rfl, rfl, rfl, rfl, rfl, rfl, rfl, rfl, rfl, rfl, rfl, rfl⟩, h0, fun _ z => absurd z.1 (by decide), fun _ z => absurd z.1 (by decide), fun _ z => absurd z.1 (by decide), fun _ _ => ⟨rfl, rfl, rfl, rfl, rfl, rfl, rfl, rfl, rfl, rfl⟩⟩
    | 1, hk =>
      have hk : a = 3 := hk
      subst hk
      exact vc_by (vc_walk1_eq m p va 3 b c rs) ⟨(2, p, []), ⟨rfl, rfl, rfl, rfl, rfl, rfl, rfl, rfl, rfl, rfl, rfl, rfl⟩, h0, fun _ z => absurd z.1 (by decide), fun _ z => ⟨z.2, rfl, rfl, rfl, rfl, rfl, rfl, rfl, rfl, rfl⟩, fun _ z => absurd z.1 (by decide), fun _ z => absurd z (by decide)⟩
    | k + 2, hk =>
      have hk : a = 2 := hk
      subst hk
      exact vc_by (vc_walk2_eq m p va 2 b c rs) ⟨(2, p, []), ⟨rfl, rfl, rfl, rfl, rfl, rfl, rfl, rfl, rfl, rfl, rfl, rfl⟩, h0, fun _ z => ⟨z.2.2, z.2.1, z.2.1, rfl, rfl, rfl, rfl, rfl, rfl, rfl⟩, fun _ z => absurd z.1 (by decide), fun _ z => ⟨z.2, rfl, rfl, rfl, rfl, rfl, rfl, rfl, rfl, rfl⟩, fun _ z => absurd z (by decide)⟩
theorem FL2_ok : DictOk Try.prog FL2 := mkD_ok ((kL1_ok.append kB3_ok).append kA4_ok) (.cons (by kernel_rfl) walk_ok .nil) .nil
theorem walkN_code (m : By) (va : Int) : ∀ (n : Nat) (p : Int), (walkN m va n p).1 = 1 ∨ (walkN m va n p).1 = 3 ∨ (walkN m va n p).1 = 2
  | 0, _ => .inr (.inr rfl)
  | n + 1, p => by
    unfold walkN
    split
    · exact .inr (.inl rfl)
    · split
      · exact .inr (.inr rfl)
      · split
        · exact .inl rfl
        · exact walkN_code m va n _
theorem iWalk_ok : Sound Try.prog 48 (pureS [byP, u64, u64] [wrP] (fun t => some (ByteR t.1 ∧ U64 t.2.1 ∧ U64 t.2.2)) (fun t => walkM t.1 t.2.1 t.2.2)) := by
  refine pure_plain mixed Try.func48 (by kernel_rfl) (by kernel_rfl) FL2_ok (fun t h => ?_)
  obtain ⟨m, root, va⟩ : By × Int × Int := t
  obtain ⟨h1, h2, h3⟩ : ByteR m ∧ U64 root ∧ U64 va := h
  refine vc_by (vc_iWalk_eq m root va) ⟨h3, fun q => ?_, fun q => ⟨h2, ?_⟩⟩
  · have q : canM va = false := by simpa using q
    have : walkM m root va = (2, 2, 0, []) := by simp [walkM, q]
    rw [this]
    exact ⟨rfl, rfl, rfl, rfl, rfl, rfl, rfl⟩
  · have q : canM va = true := by simpa using q
    have e : walkM m root va = walkN m va 3 (rootM root) := by simp [walkM, q, rootM]
    have hF : FromR m (rootM root) 2 va := ⟨h1, Int.emod_nonneg _ (by decide), Int.emod_lt_of_pos _ (by decide), ⟨by decide, by decide⟩, h3⟩
    have hc := walkN_code m va 3 (rootM root)
    rw [e]
    generalize walkN m va 3 (rootM root) = W at *
    refine ⟨?_, fun z => ⟨fun _ => ?_, fun z => by cases z⟩, fun z => ?_, fun z => ?_⟩
    · rcases hc with z | z | z
      · exact .inl ⟨rfl, rfl, hF, z⟩
      · exact .inr (.inl ⟨rfl, rfl, hF, z⟩)
      · exact .inr (.inr ⟨rfl, rfl, hF, z⟩)
    · exact ⟨z.2.2.2, rfl, rfl, rfl, rfl, rfl, rfl⟩
    · exact ⟨z.2.2.2, rfl, rfl, rfl, rfl, rfl, rfl⟩
    · exact ⟨z.2.2.2, rfl, rfl, rfl, rfl, rfl, rfl⟩
end Go.Proofs.Ytfiddfbagbaofaa.V
