/- The plain translation answers as the model. Conditions: those in each statement. -/
import Derived.Test.YtfiddfbagbaofaaGM
import Derived.KernelRfl
namespace Go.Proofs.Ytfiddfbagbaofaa.V
open Go
abbrev Ct := Int × Bool × Bool × Int
abbrev trP : Pm := .st [.i .i64, .i .u64]
def leafM (pte l : Int) (c : Ct) (k va : Int) : Int × Int := if grantM pte k c.1 c.2.1 c.2.2.1 = true then (0, physM pte l va) else (pfM k, 0)
def answerM (W : Wr) (c : Ct) (k va : Int) : Int × Int := if W.1 = 2 then (pfM k, 0) else if W.1 = 3 then (afM k, 0) else leafM W.2.2.1 W.2.1 c k va
def plainM (m : By) (c : Ct) (k va : Int) : Int × Int := if askM c k = true then (if onM c = true then answerM (walkM m c.2.2.2 va) c k va else (0, va)) else (63, 0)
def FN0 : Dict := mkD (kM ++ kB3 ++ kA4) [] []
def vc_toCtx (a : Int) (b c : Bool) (d : Int) : Prop := vcPure Try.prog FN0 .none Try.f61 [ctxP] [ctxP] (a, b, c, d) (a, b, c, d)
def vc_eqTrans (a b : Int) : Prop := vcPure Try.prog FN0 .none Try.f63 [trP, trP] [bl] ((a, b), (a, b)) true
def vc_leaf (p l : Int) (a : Int) (b c : Bool) (d k va : Int) : Prop := vcPure Try.prog FN0 .none Try.f176 [u64, i64, ctxP, i64, u64] [trP] (p, l, (a, b, c, d), k, va) (leafM p l (a, b, c, d) k va)
def vc_cause0 (k : Int) : Prop := vcAt Try.prog FN0 .none Try.f143 [.v .nilIface, .v (.int .i64 k)] [] (.v (.int .i64 0)) []
def vc_cause1 (l k : Int) : Prop := vcAt Try.prog FN0 .none Try.f143 [.ifc 174 (.agg [.v (.int .i64 l)]), .v (.int .i64 k)] [] (.v (.int .i64 (afM k))) []
def vc_cause2 (l k : Int) : Prop := vcAt Try.prog FN0 .none Try.f143 [.ifc 189 (.agg [.v (.int .i64 l)]), .v (.int .i64 k)] [] (.v (.int .i64 (pfM k))) []
def vc_skip (a b c : Int) : Prop := vcAt Try.prog F0 .none Try.f142 [.agg (rcA (a, b, c))] [] (.tup []) []
def skipS : Sum := fun args H => match args, H with
  | [.agg [.v (.int .i64 _), .v (.int .u64 _), .v (.int .u64 _)]], [] => some (none, .tup [], [])
  | _, _ => none
def kN1 : Known := (142, skipS) :: kK2
def FN1 : Dict := mkD (kN1 ++ kB3 ++ kA4) [] []
def StP (m : By) (va : Int) (W : Wr) (l p : Int) : Prop := -1 ≤ l ∧ l ≤ 2 ∧ 0 ≤ p ∧ p < 17592186044416 ∧ W.1 = (walkN m va (l + 1).toNat p).1 ∧ W.2.1 = (walkN m va (l + 1).toNat p).2.1 ∧ W.2.2.1 = (walkN m va (l + 1).toNat p).2.2.1
def walkPL (m : By) (va : Int) (W : Wr) : LoopS where
  α := Int × Int
  I x := StP m va W x.1 x.2
  sl x := slots 66 [(0, .ifc 138 (.sl 0 1 0 m.length)), (1, .v (.int .u64 x.2)), (2, .v (.int .i64 x.1)), (3, .v (.int .u64 va)), (4, .fn 142 [])]
  H _ := [.arr [.i .u8] m false]
  fams := [{ β := Unit, out := fun _ _ => W.1 = 2 ∧ W.2.1 = 0 ∧ W.2.2.1 = 0, ex := .ext 0, sl := fun _ => slots 66 [], H := fun _ => [.arr [.i .u8] m false] },
    { β := Unit, out := fun _ _ => W.1 = 3 ∧ W.2.2.1 = 0, ex := .ret, sl := fun _ => slots 66 [(10, .v (.int .u64 0)), (11, .v (.int .i64 W.2.1)), (12, .ifc 174 (.agg [.v (.int .i64 W.2.1)]))], H := fun _ => [.arr [.i .u8] m false] },
    { β := Unit, out := fun _ _ => W.1 = 2 ∧ W.2.2.1 = 0, ex := .ret, sl := fun _ => slots 66 [(10, .v (.int .u64 0)), (11, .v (.int .i64 W.2.1)), (12, .ifc 189 (.agg [.v (.int .i64 W.2.1)]))], H := fun _ => [.arr [.i .u8] m false] },
    { β := Unit, out := fun _ _ => W.1 = 1, ex := .ret, sl := fun _ => slots 66 [(10, .v (.int .u64 W.2.2.1)), (11, .v (.int .i64 W.2.1)), (12, .v .nilIface)], H := fun _ => [.arr [.i .u8] m false] }]
def vc_walkP_r (m : By) (va : Int) (a b c : Int) (rs : Rs) (l p : Int) : Prop := vcRound Try.prog FN1 (.one 1 (walkPL m va (a, b, c, rs))) 1 (loopAt Try.f121 0) (walkPL m va (a, b, c, rs)) (fun x : Int × Int => (x.1 + 1).toNat) (l, p)
def walkPArgs (n : Nat) (p va : Int) : List Av := [.ifc 138 (.sl 0 1 0 n), .v (.int .u64 p), .v (.int .i64 2), .v (.int .u64 va), .fn 142 []]
def walkPS (k : Nat) : Sum := fun args H => match args, H with
  | [.ifc 138 (.sl 0 1 0 n), .v (.int .u64 p), .v (.int .i64 l), .v (.int .u64 va), .fn 142 []], [.arr sh m false] =>
    if h : sh = [.i .u8] then some (some (n = (h ▸ m : List (El [.i .u8])).length ∧ l = 2 ∧ FromR (h ▸ m : List (El [.i .u8])) p 2 va ∧ codeK k (walkN (h ▸ m : List (El [.i .u8])) va 3 p)), resA k (walkN (h ▸ m : List (El [.i .u8])) va 3 p), [.arr [.i .u8] (h ▸ m : List (El [.i .u8])) false]) else none
  | _, _ => none
def vc_walkP0 (m : By) (p va a b c : Int) (rs : Rs) : Prop := vcAt Try.prog FN1 (.one 1 (walkPL m va (a, b, c, rs))) Try.f121 (walkPArgs m.length p va) [.arr [.i .u8] m false] (resA 0 (a, b, c, rs)) [.arr [.i .u8] m false]
def vc_walkP1 (m : By) (p va a b c : Int) (rs : Rs) : Prop := vcAt Try.prog FN1 (.one 1 (walkPL m va (a, b, c, rs))) Try.f121 (walkPArgs m.length p va) [.arr [.i .u8] m false] (resA 1 (a, b, c, rs)) [.arr [.i .u8] m false]
def vc_walkP2 (m : By) (p va a b c : Int) (rs : Rs) : Prop := vcAt Try.prog FN1 (.one 1 (walkPL m va (a, b, c, rs))) Try.f121 (walkPArgs m.length p va) [.arr [.i .u8] m false] (resA 2 (a, b, c, rs)) [.arr [.i .u8] m false]
def causeS : Sum := fun args H => match args, H with
  | [.v .nilIface, .v (.int .i64 k)], [] => some (some (0 ≤ k ∧ k ≤ 2), .v (.int .i64 0), [])
  | [.ifc 174 (.agg [.v (.int .i64 _)]), .v (.int .i64 k)], [] => some (some (0 ≤ k ∧ k ≤ 2), .v (.int .i64 (afM k)), [])
  | [.ifc 189 (.agg [.v (.int .i64 _)]), .v (.int .i64 k)], [] => some (some (0 ≤ k ∧ k ≤ 2), .v (.int .i64 (pfM k)), [])
  | _, _ => none
def kN2 : Known := [
  (61, pureS [ctxP] [ctxP] (fun _ => none) (fun c => c)),
  (63, pureS [trP, trP] [bl] (fun t => some (t.1 = t.2)) (fun _ => true)),
  (176, pureS [u64, i64, ctxP, i64, u64] [trP] (fun t => some (U64 t.1 ∧ U64 t.2.2.2.2)) (fun t => leafM t.1 t.2.1 t.2.2.1 t.2.2.2.1 t.2.2.2.2)),
  (143, causeS)]
def FN2 : Dict := mkD (kN2 ++ kM ++ kB3 ++ kA4) [(121, (3, walkPS))] []
def vc_answer (w1 w2 w3 : Int) (rs : Rs) (a : Int) (b c : Bool) (d k va : Int) : Prop := vcPure Try.prog FN2 .none Try.f139 [wrP, ctxP, i64, u64] [trP] ((w1, w2, w3, rs), (a, b, c, d), k, va) (answerM (w1, w2, w3, rs) (a, b, c, d) k va)
def vc_iPlain (m : By) (a : Int) (b c : Bool) (d k va : Int) : Prop := vcPure Try.prog FN2 .none Try.f62 [byP, ctxP, i64, u64] [trP] (m, (a, b, c, d), k, va) (plainM m (a, b, c, d) k va)
end Go.Proofs.Ytfiddfbagbaofaa.V
namespace Go.Proofs.Ytfiddfbagbaofaa.V
open Go
set_option linter.unusedVariables false
theorem vc_toCtx_eq (a : Int) (b c : Bool) (d : Int) : vc_toCtx a b c d = (
 a = a ∧ b = b ∧ c = c ∧ d = d) := by kernel_rfl
theorem vc_eqTrans_eq (a b : Int) : vc_eqTrans a b = (
 ((a != a) = true → true = false) ∧ ((a != a) = false → ((b != b) = true → true = false) ∧ ((b != b) = false → true = true))) := by kernel_rfl
theorem vc_leaf_eq (p l : Int) (a : Int) (b c : Bool) (d k va : Int) : vc_leaf p l a b c d k va = (
 U64 p ∧ (grantM p k a b c = true → (U64 p ∧ U64 va) ∧ (leafM p l (a, b, c, d) k va).fst = (0 : Int) ∧ (leafM p l (a, b, c, d) k va).snd = physM p l va) ∧ (grantM p k a b c = false → (leafM p l (a, b, c, d) k va).fst = pfM k ∧ (leafM p l (a,
 b, c, d) k va).snd = (0 : Int))) := by kernel_rfl
theorem vc_cause0_eq (k : Int) : vc_cause0 k = (
 (true = true → (0 : Int) = (0 : Int)) ∧ (true = false → ((0 : Int) ≤ k ∧ k < (↑(3 : Nat) : Int)) ∧ (0 : Int) = [(12 : Int), (13 : Int), (15 : Int)].getD k.toNat (0 : Int))) := by kernel_rfl
theorem vc_cause1_eq (l k : Int) : vc_cause1 l k = (
 ((0 : Int) ≤ k ∧ k < (↑(3 : Nat) : Int)) ∧ afM k = [(1 : Int), (5 : Int), (7 : Int)].getD k.toNat (0 : Int)) := by kernel_rfl
theorem vc_cause2_eq (l k : Int) : vc_cause2 l k = (
 ((0 : Int) ≤ k ∧ k < (↑(3 : Nat) : Int)) ∧ pfM k = [(12 : Int), (13 : Int), (15 : Int)].getD k.toNat (0 : Int)) := by kernel_rfl
theorem vc_skip_eq (a b c : Int) : vc_skip a b c = (
 True) := by kernel_rfl
theorem vc_walkP_r_eq (m : By) (va : Int) (a b c : Int) (rs : Rs) (l p : Int) : vc_walkP_r m va a b c rs l p = (
 (decide (l ≥ (0 : Int)) = true → (0 : Int) ≤ (6 : Int) ∧ (0 : Int) ≤ IntKind.i64.wrap ((6 : Int) + IntKind.i64.wrap ((3 : Int) * l)) ∧ (0 : Int) ≤ (3 : Int) ∧ (List.length m = List.length m ∧ ByteR m ∧ U64 (IntKind.u64.wrap
 (IntKind.u64.wrap (p * (2 : Int) ^ min (Int.toNat (6 : Int)) (64 : Nat)) + IntKind.u64.wrap (bits BinOp.and IntKind.u64 (va / (2 : Int) ^ min (IntKind.i64.wrap ((6 : Int) + IntKind.i64.wrap ((3 : Int) * l))).toNat (64 : Nat)) (7 : Int) * (2
 : Int) ^ min (Int.toNat (3 : Int)) (64 : Nat))))) ∧ ((!(readM m (IntKind.u64.wrap (IntKind.u64.wrap (p * (2 : Int) ^ min (Int.toNat (6 : Int)) (64 : Nat)) + IntKind.u64.wrap (bits BinOp.and IntKind.u64 (va / (2 : Int) ^ min
 (IntKind.i64.wrap ((6 : Int) + IntKind.i64.wrap ((3 : Int) * l))).toNat (64 : Nat)) (7 : Int) * (2 : Int) ^ min (Int.toNat (3 : Int)) (64 : Nat)))) (8 : Int)).fst) = true → (∃ (z : Unit), ((0 : Int) = (0 : Int) ∧ b = l ∧ b = l ∧ m = m) ∧ a
 = (3 : Int) ∧ c = (0 : Int)) ∨ (∃ (z : Unit), False ∧ a = (2 : Int) ∧ c = (0 : Int)) ∨ ∃ (z : Unit), False ∧ a = (1 : Int)) ∧ ((!(readM m (IntKind.u64.wrap (IntKind.u64.wrap (p * (2 : Int) ^ min (Int.toNat (6 : Int)) (64 : Nat)) +
 IntKind.u64.wrap (bits BinOp.and IntKind.u64 (va / (2 : Int) ^ min (IntKind.i64.wrap ((6 : Int) + IntKind.i64.wrap ((3 : Int) * l))).toNat (64 : Nat)) (7 : Int) * (2 : Int) ^ min (Int.toNat (3 : Int)) (64 : Nat)))) (8 : Int)).fst) = false →
 U64 (readM m (IntKind.u64.wrap (IntKind.u64.wrap (p * (2 : Int) ^ min (Int.toNat (6 : Int)) (64 : Nat)) + IntKind.u64.wrap (bits BinOp.and IntKind.u64 (va / (2 : Int) ^ min (IntKind.i64.wrap ((6 : Int) + IntKind.i64.wrap ((3 : Int) *
 l))).toNat (64 : Nat)) (7 : Int) * (2 : Int) ^ min (Int.toNat (3 : Int)) (64 : Nat)))) (8 : Int)).snd ∧ ((kindM (readM m (IntKind.u64.wrap (IntKind.u64.wrap (p * (2 : Int) ^ min (Int.toNat (6 : Int)) (64 : Nat)) + IntKind.u64.wrap (bits
 BinOp.and IntKind.u64 (va / (2 : Int) ^ min (IntKind.i64.wrap ((6 : Int) + IntKind.i64.wrap ((3 : Int) * l))).toNat (64 : Nat)) (7 : Int) * (2 : Int) ^ min (Int.toNat (3 : Int)) (64 : Nat)))) (8 : Int)).snd l == (0 : Int)) = true → (∃ (z :
 Unit), False ∧ a = (3 : Int) ∧ c = (0 : Int)) ∨ (∃ (z : Unit), ((0 : Int) = (0 : Int) ∧ b = l ∧ b = l ∧ m = m) ∧ a = (2 : Int) ∧ c = (0 : Int)) ∨ ∃ (z : Unit), False ∧ a = (1 : Int)) ∧ ((kindM (readM m (IntKind.u64.wrap (IntKind.u64.wrap
 (p * (2 : Int) ^ min (Int.toNat (6 : Int)) (64 : Nat)) + IntKind.u64.wrap (bits BinOp.and IntKind.u64 (va / (2 : Int) ^ min (IntKind.i64.wrap ((6 : Int) + IntKind.i64.wrap ((3 : Int) * l))).toNat (64 : Nat)) (7 : Int) * (2 : Int) ^ min
 (Int.toNat (3 : Int)) (64 : Nat)))) (8 : Int)).snd l == (0 : Int)) = false → ((kindM (readM m (IntKind.u64.wrap (IntKind.u64.wrap (p * (2 : Int) ^ min (Int.toNat (6 : Int)) (64 : Nat)) + IntKind.u64.wrap (bits BinOp.and IntKind.u64 (va / (2
 : Int) ^ min (IntKind.i64.wrap ((6 : Int) + IntKind.i64.wrap ((3 : Int) * l))).toNat (64 : Nat)) (7 : Int) * (2 : Int) ^ min (Int.toNat (3 : Int)) (64 : Nat)))) (8 : Int)).snd l == (2 : Int)) = true → (∃ (z : Unit), False ∧ a = (3 : Int) ∧
 c = (0 : Int)) ∨ (∃ (z : Unit), False ∧ a = (2 : Int) ∧ c = (0 : Int)) ∨ ∃ (z : Unit), (c = (readM m (IntKind.u64.wrap (IntKind.u64.wrap (p * (2 : Int) ^ min (Int.toNat (6 : Int)) (64 : Nat)) + IntKind.u64.wrap (bits BinOp.and IntKind.u64
 (va / (2 : Int) ^ min (IntKind.i64.wrap ((6 : Int) + IntKind.i64.wrap ((3 : Int) * l))).toNat (64 : Nat)) (7 : Int) * (2 : Int) ^ min (Int.toNat (3 : Int)) (64 : Nat)))) (8 : Int)).snd ∧ b = l ∧ Value.nilIface = Value.nilIface ∧ m = m) ∧ a
 = (1 : Int)) ∧ ((kindM (readM m (IntKind.u64.wrap (IntKind.u64.wrap (p * (2 : Int) ^ min (Int.toNat (6 : Int)) (64 : Nat)) + IntKind.u64.wrap (bits BinOp.and IntKind.u64 (va / (2 : Int) ^ min (IntKind.i64.wrap ((6 : Int) + IntKind.i64.wrap
 ((3 : Int) * l))).toNat (64 : Nat)) (7 : Int) * (2 : Int) ^ min (Int.toNat (3 : Int)) (64 : Nat)))) (8 : Int)).snd l == (2 : Int)) = false → U64 (readM m (IntKind.u64.wrap (IntKind.u64.wrap (p * (2 : Int) ^ min (Int.toNat (6 : Int)) (64 :
 Nat)) + IntKind.u64.wrap (bits BinOp.and IntKind.u64 (va / (2 : Int) ^ min (IntKind.i64.wrap ((6 : Int) + IntKind.i64.wrap ((3 : Int) * l))).toNat (64 : Nat)) (7 : Int) * (2 : Int) ^ min (Int.toNat (3 : Int)) (64 : Nat)))) (8 : Int)).snd ∧
 ∃ (y : Int × Int), ((0 : Nat) = (0 : Nat) ∧ List.length m = List.length m ∧ y.snd = ppnM (readM m (IntKind.u64.wrap (IntKind.u64.wrap (p * (2 : Int) ^ min (Int.toNat (6 : Int)) (64 : Nat)) + IntKind.u64.wrap (bits BinOp.and IntKind.u64 (va
 / (2 : Int) ^ min (IntKind.i64.wrap ((6 : Int) + IntKind.i64.wrap ((3 : Int) * l))).toNat (64 : Nat)) (7 : Int) * (2 : Int) ^ min (Int.toNat (3 : Int)) (64 : Nat)))) (8 : Int)).snd ∧ y.fst = IntKind.i64.wrap (l - (1 : Int)) ∧ va = va ∧ m =
 m) ∧ StP m va (a, b, c, rs) y.fst y.snd ∧ (y.fst + (1 : Int)).toNat < (l + (1 : Int)).toNat ∧ (∀ (z : Unit), a = (2 : Int) ∧ b = (0 : Int) ∧ c = (0 : Int) → a = (2 : Int) ∧ b = (0 : Int) ∧ c = (0 : Int)) ∧ (∀ (z : Unit), a = (3 : Int) ∧ c
 = (0 : Int) → a = (3 : Int) ∧ c = (0 : Int)) ∧ (∀ (z : Unit), a = (2 : Int) ∧ c = (0 : Int) → a = (2 : Int) ∧ c = (0 : Int)) ∧ ∀ (z : Unit), a = (1 : Int) → a = (1 : Int))))) ∧ (decide (l ≥ (0 : Int)) = false → ∃ (z : Unit), m = m ∧ a =
 (2 : Int) ∧ b = (0 : Int) ∧ c = (0 : Int))) := by kernel_rfl
theorem vc_walkP0_eq (m : By) (p va a b c : Int) (rs : Rs) : vc_walkP0 m p va a b c rs = (
 ∃ (x : Int × Int), ((0 : Nat) = (0 : Nat) ∧ List.length m = List.length m ∧ x.snd = p ∧ x.fst = (2 : Int) ∧ va = va ∧ m = m) ∧ StP m va (a, b, c, rs) x.fst x.snd ∧ (∀ (z : Unit), a = (2 : Int) ∧ b = (0 : Int) ∧ c = (0 : Int) → False) ∧ (∀
 (z : Unit), a = (3 : Int) ∧ c = (0 : Int) → False) ∧ (∀ (z : Unit), a = (2 : Int) ∧ c = (0 : Int) → False) ∧ ∀ (z : Unit), a = (1 : Int) → c = c ∧ b = b ∧ Value.nilIface = Value.nilIface ∧ m = m) := by kernel_rfl
theorem vc_walkP1_eq (m : By) (p va a b c : Int) (rs : Rs) : vc_walkP1 m p va a b c rs = (
 ∃ (x : Int × Int), ((0 : Nat) = (0 : Nat) ∧ List.length m = List.length m ∧ x.snd = p ∧ x.fst = (2 : Int) ∧ va = va ∧ m = m) ∧ StP m va (a, b, c, rs) x.fst x.snd ∧ (∀ (z : Unit), a = (2 : Int) ∧ b = (0 : Int) ∧ c = (0 : Int) → False) ∧ (∀
 (z : Unit), a = (3 : Int) ∧ c = (0 : Int) → c = (0 : Int) ∧ b = b ∧ b = b ∧ m = m) ∧ (∀ (z : Unit), a = (2 : Int) ∧ c = (0 : Int) → False) ∧ ∀ (z : Unit), a = (1 : Int) → False) := by kernel_rfl
theorem vc_walkP2_eq (m : By) (p va a b c : Int) (rs : Rs) : vc_walkP2 m p va a b c rs = (
 ∃ (x : Int × Int), ((0 : Nat) = (0 : Nat) ∧ List.length m = List.length m ∧ x.snd = p ∧ x.fst = (2 : Int) ∧ va = va ∧ m = m) ∧ StP m va (a, b, c, rs) x.fst x.snd ∧ (∀ (z : Unit), a = (2 : Int) ∧ b = (0 : Int) ∧ c = (0 : Int) → c = (0 :
 Int) ∧ b = (0 : Int) ∧ b = (0 : Int) ∧ m = m) ∧ (∀ (z : Unit), a = (3 : Int) ∧ c = (0 : Int) → False) ∧ (∀ (z : Unit), a = (2 : Int) ∧ c = (0 : Int) → c = (0 : Int) ∧ b = b ∧ b = b ∧ m = m) ∧ ∀ (z : Unit), a = (1 : Int) → False) := by kernel_rfl
theorem vc_answer_eq (w1 w2 w3 : Int) (rs : Rs) (a : Int) (b c : Bool) (d k va : Int) : vc_answer w1 w2 w3 rs a b c d k va = (
 ((w1 == (2 : Int)) = true → (answerM (w1, w2, w3, rs) (a, b, c, d) k va).fst = pfM k ∧ (answerM (w1, w2, w3, rs) (a, b, c, d) k va).snd = (0 : Int) ∧ rs = rs) ∧ ((w1 == (2 : Int)) = false → ((w1 == (3 : Int)) = true → (answerM (w1, w2, w3,
 rs) (a, b, c, d) k va).fst = afM k ∧ (answerM (w1, w2, w3, rs) (a, b, c, d) k va).snd = (0 : Int) ∧ rs = rs) ∧ ((w1 == (3 : Int)) = false → (U64 w3 ∧ U64 va) ∧ (answerM (w1, w2, w3, rs) (a, b, c, d) k va).fst = (leafM w3 w2 (a, b, c, d) k
 va).fst ∧ (answerM (w1, w2, w3, rs) (a, b, c, d) k va).snd = (leafM w3 w2 (a, b, c, d) k va).snd ∧ rs = rs))) := by kernel_rfl
theorem vc_iPlain_eq (m : By) (a : Int) (b c : Bool) (d k va : Int) : vc_iPlain m a b c d k va = (
 ((!askM (a, b, c, d) k) = true → (plainM m (a, b, c, d) k va).fst = (63 : Int) ∧ (plainM m (a, b, c, d) k va).snd = (0 : Int) ∧ m = m) ∧ ((!askM (a, b, c, d) k) = false → U64 d ∧ ((!onM (a, b, c, d)) = true → (plainM m (a, b, c, d) k
 va).fst = (0 : Int) ∧ (plainM m (a, b, c, d) k va).snd = va ∧ m = m) ∧ ((!onM (a, b, c, d)) = false → U64 va ∧ (canM va = true → U64 d ∧ (List.length m = List.length m ∧ (2 : Int) = (2 : Int) ∧ FromR m (rootM d) (2 : Int) va ∧ codeK (0 :
 Nat) (walkN m va (3 : Nat) (rootM d)) ∨ List.length m = List.length m ∧ (2 : Int) = (2 : Int) ∧ FromR m (rootM d) (2 : Int) va ∧ codeK ((0 : Nat) + (1 : Nat)) (walkN m va (3 : Nat) (rootM d)) ∨ List.length m = List.length m ∧ (2 : Int) = (2
 : Int) ∧ FromR m (rootM d) (2 : Int) va ∧ codeK ((0 : Nat) + (1 : Nat) + (1 : Nat)) (walkN m va (3 : Nat) (rootM d))) ∧ (List.length m = List.length m ∧ (2 : Int) = (2 : Int) ∧ FromR m (rootM d) (2 : Int) va ∧ codeK (0 : Nat) (walkN m va (3
 : Nat) (rootM d)) → (true = true → U64 (walkN m va (3 : Nat) (rootM d)).snd.snd.fst) ∧ ((!grantM (walkN m va (3 : Nat) (rootM d)).snd.snd.fst k a b c) = true → ((0 : Int) ≤ k ∧ k ≤ (2 : Int)) ∧ (plainM m (a, b, c, d) k va).fst = pfM k ∧
 (plainM m (a, b, c, d) k va).snd = (0 : Int) ∧ m = m) ∧ ((!grantM (walkN m va (3 : Nat) (rootM d)).snd.snd.fst k a b c) = false → ((!true) = true → ((0 : Int) ≤ k ∧ k ≤ (2 : Int)) ∧ (plainM m (a, b, c, d) k va).fst = (0 : Int) ∧ (plainM m
 (a, b, c, d) k va).snd = (0 : Int) ∧ m = m) ∧ ((!true) = false → (U64 (walkN m va (3 : Nat) (rootM d)).snd.snd.fst ∧ LvR (walkN m va (3 : Nat) (rootM d)).snd.fst ∧ U64 va) ∧ (plainM m (a, b, c, d) k va).fst = (0 : Int) ∧ (plainM m (a, b, c,
 d) k va).snd = physM (walkN m va (3 : Nat) (rootM d)).snd.snd.fst (walkN m va (3 : Nat) (rootM d)).snd.fst va ∧ m = m))) ∧ (List.length m = List.length m ∧ (2 : Int) = (2 : Int) ∧ FromR m (rootM d) (2 : Int) va ∧ codeK ((0 : Nat) + (1 :
 Nat)) (walkN m va (3 : Nat) (rootM d)) → ((0 : Int) ≤ k ∧ k ≤ (2 : Int)) ∧ (plainM m (a, b, c, d) k va).fst = afM k ∧ (plainM m (a, b, c, d) k va).snd = (0 : Int) ∧ m = m) ∧ (List.length m = List.length m ∧ (2 : Int) = (2 : Int) ∧ FromR m
 (rootM d) (2 : Int) va ∧ codeK ((0 : Nat) + (1 : Nat) + (1 : Nat)) (walkN m va (3 : Nat) (rootM d)) → ((0 : Int) ≤ k ∧ k ≤ (2 : Int)) ∧ (plainM m (a, b, c, d) k va).fst = pfM k ∧ (plainM m (a, b, c, d) k va).snd = (0 : Int) ∧ m = m)) ∧
 (canM va = false → ((0 : Int) ≤ k ∧ k ≤ (2 : Int)) ∧ (plainM m (a, b, c, d) k va).fst = pfM k ∧ (plainM m (a, b, c, d) k va).snd = (0 : Int) ∧ m = m)))) := by kernel_rfl
end Go.Proofs.Ytfiddfbagbaofaa.V
namespace Go.Proofs.Ytfiddfbagbaofaa.V
open Go
set_option linter.unusedSimpArgs false

theorem skip_ok : Sound Try.prog 142 skipS := by
  refine sound_plain mixed Try.func142 (by kernel_rfl) (by kernel_rfl) F0_ok (fun args H p v H' h hp => ?_)
  unfold skipS at h
  split at h
  case h_2 => cases h
  rename_i a b c
  simp only [Option.some.injEq, Prod.mk.injEq] at h
  obtain ⟨rfl, rfl, rfl⟩ := h
  exact ⟨.none, vc_by (vc_skip_eq a b c) trivial⟩
theorem kN1_ok : KnowsD Try.prog kN1 := .cons (by kernel_rfl) skip_ok kK2_ok
theorem FN1_ok : DictOk Try.prog FN1 := mkD_ok ((kN1_ok.append kB3_ok).append kA4_ok) .nil .nil
theorem walkP_round {m : By} {va a b c : Int} {rs : Rs} (hm : ByteR m) (hv : U64 va) {l p : Int} (h : StP m va (a, b, c, rs) l p) : vcRound Try.prog FN1 (.one 1 (walkPL m va (a, b, c, rs))) 1 (loopAt Try.f121 0) (walkPL m va (a, b, c, rs)) (fun x : Int × Int => (x.1 + 1).toNat) (l, p) := by
  obtain ⟨l0, l1, p0, p1, ha, hb, hc⟩ := h
  simp only at ha hb hc
  refine vc_by (vc_walkP_r_eq m va a b c rs l p) ⟨fun g => ?_, fun g => ?_⟩
  · have g : l ≥ 0 := of_decide_eq_true g
    have hl : LvR l := ⟨g, l1⟩
    obtain ⟨hA, hS⟩ := addr_impl hl hv p0 p1
    have hrd := rd_u64 (a := 64 * p + 8 * idxM va l) hm
    obtain ⟨i0, i1⟩ := idx_in va l
    have hAu : U64 (64 * p + 8 * idxM va l) := ⟨by omega, by omega⟩
    rw [show (l + 1).toNat = l.toNat + 1 by omega, walk_step g] at ha hb hc
    rw [hA]
    generalize 64 * p + 8 * idxM va l = A at *
    generalize readM m A 8 = r at *
    refine ⟨by decide, hS, by decide, ⟨rfl, hm, hAu⟩, fun q => ?_, fun q => ⟨hrd, fun q2 => ?_, fun q2 => ⟨fun q3 => ?_, fun q3 => ⟨hrd, ?_⟩⟩⟩⟩
    · have q : r.1 = false := by simpa using q
      rw [if_pos q] at ha hb hc
      exact .inl ⟨(), ⟨rfl, hb, hb, rfl⟩, ha, hc⟩
    · have q : r.1 ≠ false := by simpa using q
      have q2 : kindM r.2 l = 0 := by simpa using q2
      rw [if_neg q, if_pos q2] at ha hb hc
      exact .inr (.inl ⟨(), ⟨rfl, hb, hb, rfl⟩, ha, hc⟩)
    · have q : r.1 ≠ false := by simpa using q
      have q2 : kindM r.2 l ≠ 0 := by simpa using q2
      have q3 : kindM r.2 l = 2 := by simpa using q3
      rw [if_neg q, if_neg q2, if_pos q3] at ha hb hc
      exact .inr (.inr ⟨(), ⟨hc, hb, rfl, rfl⟩, ha⟩)
    · have q : r.1 ≠ false := by simpa using q
      have q2 : kindM r.2 l ≠ 0 := by simpa using q2
      have q3 : kindM r.2 l ≠ 2 := by simpa using q3
      obtain ⟨g0, g1⟩ := ppn_in hrd
      rw [if_neg q, if_neg q2, if_neg q3] at ha hb hc
      have e1 : IntKind.i64.wrap (l - 1) = l - 1 := wrap_i64_in (by omega) (by omega)
      have e2 : (l - 1 + 1).toNat = l.toNat := by omega
      refine ⟨(l - 1, ppnM r.2), ⟨rfl, rfl, rfl, e1.symm, rfl, rfl⟩, ⟨by simp only; omega, by simp only; omega, g0, g1, ?_, ?_, ?_⟩, by simp only; omega, fun _ z => z, fun _ z => z, fun _ z => z, fun _ z => z⟩
      · simp only [e2]; exact ha
      · simp only [e2]; exact hb
      · simp only [e2]; exact hc
  · have g : ¬ l ≥ 0 := of_decide_eq_false g
    have e : (l + 1).toNat = 0 := by omega
    rw [e] at ha hb hc
    have ha : a = 2 := ha
    have hb : b = 0 := hb
    have hc : c = 0 := hc
    exact ⟨(), rfl, ha, hb, hc⟩
theorem walkP_ok (k : Nat) : Sound Try.prog 121 (walkPS k) := by
  refine sound_loop mixed Try.func121 (by kernel_rfl) (b := loopAt Try.f121 0) (k := 1) (by kernel_rfl) (by kernel_rfl) (by kernel_rfl) FN1_ok (fun args H p v H' h hp => ?_)
  unfold walkPS at h
  split at h
  case h_2 => cases h
  rename_i n p l va sh m
  split at h
  case isFalse => cases h
  rename_i hsh
  subst hsh
  simp only [Option.some.injEq, Prod.mk.injEq] at h
  obtain ⟨rfl, rfl, rfl⟩ := h
  obtain ⟨rfl, rfl, ⟨hm, p0, p1, hl, hv⟩, hk⟩ : n = m.length ∧ l = 2 ∧ FromR m p 2 va ∧ codeK k (walkN m va 3 p) := hp
  generalize hW : walkN m va 3 p = W at *
  obtain ⟨a, b, c, rs⟩ := W
  have h0 : StP m va (a, b, c, rs) 2 p := by
    refine ⟨by decide, by decide, p0, p1, ?_, ?_, ?_⟩ <;> (rw [show ((2 : Int) + 1).toNat = 3 by decide, hW]; try rfl)
  refine ⟨.one 1 (walkPL m va (a, b, c, rs)), walkPL m va (a, b, c, rs), fun x : Int × Int => (x.1 + 1).toNat, one_loop _ _, fun y hy => ?_, ?_⟩
  · obtain ⟨l, q⟩ : Int × Int := y
    exact walkP_round hm hv hy
  · match k, hk with
    | 0, hk =>
      have hk : a = 1 := hk
      subst hk
      exact vc_by (vc_walkP0_eq m p va 1 b c rs) ⟨(2, p), ⟨rfl, rfl, rfl, rfl, rfl, rfl⟩, h0, fun _ z => absurd z.1 (by decide), fun _ z => absurd z.1 (by decide), fun _ z => absurd z.1 (by decide), fun _ _ => ⟨rfl, rfl, rfl, rfl⟩⟩
    | 1, hk =>
      have hk : a = 3 := hk
      subst hk
      exact vc_by (vc_walkP1_eq m p va 3 b c rs) ⟨(2, p), ⟨rfl, rfl, rfl, rfl, rfl, rfl⟩, h0, fun _ z => absurd z.1 (by decide), fun _ z => ⟨z.2, rfl, rfl, rfl⟩, fun _ z => absurd z.1 (by decide), fun _ z => absurd z (by decide)⟩
    | k + 2, hk =>
      have hk : a = 2 := hk
      subst hk
      exact vc_by (vc_walkP2_eq m p va 2 b c rs) ⟨(2, p), ⟨rfl, rfl, rfl, rfl, rfl, rfl⟩, h0, fun _ z => ⟨z.2.2, z.2.1, z.2.1, rfl⟩, fun _ z => absurd z.1 (by decide), fun _ z => ⟨z.2, rfl, rfl, rfl⟩, fun _ z => absurd z (by decide)⟩
theorem toCtx_ok : Sound Try.prog 61 (pureS [ctxP] [ctxP] (fun _ => none) (fun c => c)) := by
  refine pure_plain mixed Try.func61 (by kernel_rfl) (by kernel_rfl) (D := FN0) (mkD_ok ((kM_ok.append kB3_ok).append kA4_ok) .nil .nil) (fun t _ => ?_)
  obtain ⟨a, b, c, d⟩ : Ct := t
  exact vc_by (vc_toCtx_eq a b c d) ⟨rfl, rfl, rfl, rfl⟩
theorem FN0_ok : DictOk Try.prog FN0 := mkD_ok ((kM_ok.append kB3_ok).append kA4_ok) .nil .nil
theorem eqTrans_ok : Sound Try.prog 63 (pureS [trP, trP] [bl] (fun t => some (t.1 = t.2)) (fun _ => true)) := by
  refine pure_plain mixed Try.func63 (by kernel_rfl) (by kernel_rfl) FN0_ok (fun t h => ?_)
  obtain ⟨x, y⟩ : (Int × Int) × (Int × Int) := t
  have h : x = y := h
  subst h
  obtain ⟨a, b⟩ := x
  refine vc_by (vc_eqTrans_eq a b) ?_
  simp
theorem leaf_ok : Sound Try.prog 176 (pureS [u64, i64, ctxP, i64, u64] [trP] (fun t => some (U64 t.1 ∧ U64 t.2.2.2.2)) (fun t => leafM t.1 t.2.1 t.2.2.1 t.2.2.2.1 t.2.2.2.2)) := by
  refine pure_plain mixed Try.func176 (by kernel_rfl) (by kernel_rfl) FN0_ok (fun t h => ?_)
  obtain ⟨p, l, ⟨a, b, c, d⟩, k, va⟩ : Int × Int × Ct × Int × Int := t
  obtain ⟨h1, h2⟩ : U64 p ∧ U64 va := h
  refine vc_by (vc_leaf_eq p l a b c d k va) ⟨h1, fun q => ⟨⟨h1, h2⟩, ?_⟩, fun q => ?_⟩
  · simp [leafM, q]
  · simp [leafM, q]
theorem cause_ok : Sound Try.prog 143 causeS := by
  refine sound_plain mixed Try.func143 (by kernel_rfl) (by kernel_rfl) FN0_ok (fun args H p v H' h hp => ?_)
  unfold causeS at h
  have kc : ∀ {k : Int}, 0 ≤ k ∧ k ≤ 2 → k = 0 ∨ k = 1 ∨ k = 2 := fun h => by omega
  split at h
  · simp only [Option.some.injEq, Prod.mk.injEq] at h
    obtain ⟨rfl, rfl, rfl⟩ := h
    exact ⟨.none, vc_by (vc_cause0_eq _) ⟨fun _ => rfl, fun e => by cases e⟩⟩
  · rename_i l k
    simp only [Option.some.injEq, Prod.mk.injEq] at h
    obtain ⟨rfl, rfl, rfl⟩ := h
    have hp : 0 ≤ k ∧ k ≤ 2 := hp
    refine ⟨.none, vc_by (vc_cause1_eq l k) ?_⟩
    rcases kc hp with rfl | rfl | rfl <;> exact ⟨⟨by decide, by decide⟩, rfl⟩
  · rename_i l k
    simp only [Option.some.injEq, Prod.mk.injEq] at h
    obtain ⟨rfl, rfl, rfl⟩ := h
    have hp : 0 ≤ k ∧ k ≤ 2 := hp
    refine ⟨.none, vc_by (vc_cause2_eq l k) ?_⟩
    rcases kc hp with rfl | rfl | rfl <;> exact ⟨⟨by decide, by decide⟩, rfl⟩
  · cases h
theorem kN2_ok : KnowsD Try.prog kN2 := .cons (by kernel_rfl) toCtx_ok <| .cons (by kernel_rfl) eqTrans_ok <| .cons (by kernel_rfl) leaf_ok <| .cons (by kernel_rfl) cause_ok .nil
theorem FN2_ok : DictOk Try.prog FN2 := mkD_ok (((kN2_ok.append kM_ok).append kB3_ok).append kA4_ok) (.cons (by kernel_rfl) walkP_ok .nil) .nil
theorem answer_ok : Sound Try.prog 139 (pureS [wrP, ctxP, i64, u64] [trP] (fun t => some ((t.1.1 ≠ 2 → t.1.1 ≠ 3 → U64 t.1.2.2.1) ∧ U64 t.2.2.2)) (fun t => answerM t.1 t.2.1 t.2.2.1 t.2.2.2)) := by
  refine pure_plain mixed Try.func139 (by kernel_rfl) (by kernel_rfl) FN2_ok (fun t h => ?_)
  obtain ⟨⟨w1, w2, w3, rs⟩, ⟨a, b, c, d⟩, k, va⟩ : Wr × Ct × Int × Int := t
  obtain ⟨h1, h2⟩ : (w1 ≠ 2 → w1 ≠ 3 → U64 w3) ∧ U64 va := h
  refine vc_by (vc_answer_eq w1 w2 w3 rs a b c d k va) ⟨fun q => ?_, fun q => ⟨fun q2 => ?_, fun q2 => ?_⟩⟩
  · have q : w1 = 2 := by simpa using q
    simp [answerM, q]
  · have q2 : w1 = 3 := by simpa using q2
    simp [answerM, q2]
  · have q : w1 ≠ 2 := by simpa using q
    have q2 : w1 ≠ 3 := by simpa using q2
    exact ⟨⟨h1 q q2, h2⟩, by simp [answerM, q, q2], by simp [answerM, q, q2], rfl⟩
theorem walkN_leaf {m : By} {va : Int} (hm : ByteR m) : ∀ (n : Nat) (p : Int), (walkN m va n p).1 = 1 → U64 (walkN m va n p).2.2.1 ∧ 0 ≤ (walkN m va n p).2.1 ∧ (walkN m va n p).2.1 < n
  | 0, _, h => by cases h
  | n + 1, p, h => by
    have hr := rd_u64 (a := 64 * p + 8 * idxM va n) hm
    unfold walkN at h ⊢
    split at h
    · cases h
    · rename_i c1
      rw [if_neg c1]
      split at h
      · cases h
      · rename_i c2
        rw [if_neg c2]
        split at h
        · rename_i c3
          rw [if_pos c3]
          exact ⟨hr, by simp only; omega, by simp only; omega⟩
        · rename_i c3
          rw [if_neg c3]
          obtain ⟨g1, g2, g3⟩ := walkN_leaf hm n _ h
          exact ⟨g1, g2, by simp only; omega⟩
theorem iPlain_ok : Sound Try.prog 62 (pureS [byP, ctxP, i64, u64] [trP] (fun t => some (ByteR t.1 ∧ U64 t.2.1.2.2.2 ∧ U64 t.2.2.2)) (fun t => plainM t.1 t.2.1 t.2.2.1 t.2.2.2)) := by
  refine pure_plain mixed Try.func62 (by kernel_rfl) (by kernel_rfl) FN2_ok (fun t h => ?_)
  obtain ⟨m, ⟨a, b, c, d⟩, k, va⟩ : By × Ct × Int × Int := t
  obtain ⟨h1, h2, h3⟩ : ByteR m ∧ U64 d ∧ U64 va := h
  refine vc_by (vc_iPlain_eq m a b c d k va) ⟨fun q => ?_, fun q => ⟨h2, fun q2 => ?_, fun q2 => ⟨h3, fun q3 => ⟨h2, ?_⟩, fun q3 => ?_⟩⟩⟩
  · have q : askM (a, b, c, d) k = false := by simpa using q
    simp [plainM, q]
  · have q : askM (a, b, c, d) k = true := by simpa using q
    have q2 : onM (a, b, c, d) = false := by simpa using q2
    simp [plainM, q, q2]
  · have q : askM (a, b, c, d) k = true := by simpa using q
    have q2 : onM (a, b, c, d) = true := by simpa using q2
    have hk : 0 ≤ k ∧ k ≤ 2 := by simp only [askM, Bool.and_eq_true, decide_eq_true_eq] at q; exact q.1.1
    have hF : FromR m (rootM d) 2 va := ⟨h1, Int.emod_nonneg _ (by decide), Int.emod_lt_of_pos _ (by decide), ⟨by decide, by decide⟩, h3⟩
    have hc := walkN_code m va 3 (rootM d)
    have hl := walkN_leaf (va := va) h1 3 (rootM d)
    have e : plainM m (a, b, c, d) k va = answerM (walkN m va 3 (rootM d)) (a, b, c, d) k va := by
      unfold plainM
      rw [if_pos q, if_pos q2]
      simp [walkM, q3, rootM]
    rw [e]
    generalize walkN m va 3 (rootM d) = W at *
    refine ⟨?_, fun z => ?_, fun z => ?_, fun z => ?_⟩
    · rcases hc with z | z | z
      · exact .inl ⟨rfl, rfl, hF, z⟩
      · exact .inr (.inl ⟨rfl, rfl, hF, z⟩)
      · exact .inr (.inr ⟨rfl, rfl, hF, z⟩)
    · have z1 : W.1 = 1 := z.2.2.2
      obtain ⟨g1, g2, g3⟩ := hl z1
      have ea : answerM W (a, b, c, d) k va = leafM W.2.2.1 W.2.1 (a, b, c, d) k va := by simp [answerM, z1]
      rw [ea]
      refine ⟨fun _ => g1, fun y => ⟨hk, ?_⟩, fun y => ⟨fun z => (by cases z), fun _ => ⟨⟨g1, ⟨g2, by omega⟩, h3⟩, ?_⟩⟩⟩
      · have y : grantM W.2.2.1 k a b c = false := by simpa using y
        simp [leafM, y]
      · have y : grantM W.2.2.1 k a b c = true := by simpa using y
        simp [leafM, y]
    · have z1 : W.1 = 3 := z.2.2.2
      simp [answerM, z1, hk]
    · have z1 : W.1 = 2 := z.2.2.2
      simp [answerM, z1, hk]
  · have q : askM (a, b, c, d) k = true := by simpa using q
    have q2 : onM (a, b, c, d) = true := by simpa using q2
    have hk : 0 ≤ k ∧ k ≤ 2 := by simp only [askM, Bool.and_eq_true, decide_eq_true_eq] at q; exact q.1.1
    simp [plainM, q, q2, hk, walkM, q3, answerM]
end Go.Proofs.Ytfiddfbagbaofaa.V
