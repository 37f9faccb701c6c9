/- Valid caches, and finding in them, answer as their models. Conditions: those in each statement. -/
import Derived.Test.YtfiddfbagbaofaaGreatGE
import Derived.KernelRfl
namespace Go.Proofs.YtfiddfbagbaofaaGreat.V
open Go
def EnR (e : En) : Prop := I64 e.2.1 ∧ U64 e.2.2.1 ∧ U64 e.2.2.2.1 ∧ U64 e.2.2.2.2.2
def TlR (t : Tl) : Prop := I64 t.1 ∧ I64 t.2.1 ∧ SzR t.2.2.length ∧ ∀ e ∈ t.2.2, EnR e
def zs9 (ptr : Bool) : Int := if ptr = true then 1 else 2
def zbm (ptr : Bool) (e : En) : Bool := e.1 && lvM e.2.1 && decide (e.2.2.1 < 2 ^ (9 - 3 * e.2.1).toNat) && decide (e.2.2.2.1 ≤ 65535) && (e.2.2.2.2.1 == zaw e.2.2.2.2.2 5) && (zbg e.2.2.2.2.2 e.2.1 == zs9 ptr)
def zkg (ptr : Bool) (s w : Int) (i : Nat) (e : En) : Bool := e == zE || (zbm ptr e && (IntKind.i64.wrap e.2.2.1).tmod s == ((i : Int).tdiv w))
def zhp (ptr : Bool) (s w : Int) (m : Es) : Bool := (List.range m.length).all fun i => zkg ptr s w i (m.getD i zE)
def zdm (s w : Int) (m : Es) : Bool := (s == 1 || s == 2 || s == 4 || s == 8) && decide (1 ≤ w) && decide (w ≤ 4) && (m.length : Int) == s * w
def zak (ptr : Bool) (t : Tl) : Bool := zdm t.1 t.2.1 t.2.2 && zhp ptr t.1 t.2.1 t.2.2
def zax (t : Tl) : Bool := zak true t || zak false t
def zc7 (e : En) (va asid : Int) : Bool := e.1 && (e.2.2.1 == zjr va e.2.1) && (e.2.2.2.2.1 || e.2.2.2.1 == asid)
abbrev stP : Pm := .st []
def FE3 : Dict := mkD (kE3 ++ kA4) [] []
def yfk (k : Int) : Prop := zan Tryz.prog F0 .none Tryz.f264 [stP, i64] [bl] ((), k) (k == 1)
def yfj (k : Int) : Prop := zan Tryz.prog F0 .none Tryz.f263 [stP, i64] [bl] ((), k) (k == 2)
def yfn (a : Bool) (b c d : Int) (e : Bool) (f : Int) (p : Bool) : Prop := zan Tryz.prog FE3 .none Tryz.f92 [enP, bl] [bl] ((a, b, c, d, e, f), p) (zbm p (a, b, c, d, e, f))
def yfm (a : Bool) (b c d : Int) (e : Bool) (f : Int) (va asid : Int) : Prop := zan Tryz.prog FE3 .none Tryz.f90 [enP, u64, u64] [bl] ((a, b, c, d, e, f), va, asid) (zc7 (a, b, c, d, e, f) va asid)
def kF1 : Known := [
 (264, zag [stP, i64] [bl] (fun _ => none) (fun t => t.2 == 1)),
 (263, zag [stP, i64] [bl] (fun _ => none) (fun t => t.2 == 2)),
 (92, zag [enP, bl] [bl] (fun t => some (EnR t.1)) (fun t => zbm t.2 t.1)),
 (90, zag [enP, u64, u64] [bl] (fun t => some (EnR t.1 ∧ (t.1.1 = true → LvR t.1.2.1) ∧ U64 t.2.1)) (fun t => zc7 t.1 t.2.1 t.2.2))]
def FF1 : Dict := mkD (kF1 ++ kE3 ++ kA4) [] []
def yjf (s w : Int) (m : Es) (a : Bool) (b c d : Int) (e : Bool) (f : Int) : Prop := zan Tryz.prog FF1 .none Tryz.f186 [tlP, enP] [bl] ((s, w, m), (a, b, c, d, e, f)) (zbm true (a, b, c, d, e, f))
def yje (s w : Int) (m : Es) (a : Bool) (b c d : Int) (e : Bool) (f : Int) : Prop := zan Tryz.prog FF1 .none Tryz.f184 [tlP, enP] [bl] ((s, w, m), (a, b, c, d, e, f)) (zbm false (a, b, c, d, e, f))
def kF2 : Known := [
 (186, zag [tlP, enP] [bl] (fun t => some (EnR t.2)) (fun t => zbm true t.2)),
 (184, zag [tlP, enP] [bl] (fun t => some (EnR t.2)) (fun t => zbm false t.2))] ++ kF1
def FF2 : Dict := mkD (kF2 ++ kE3 ++ kA4) [] []
def ygr (ptr : Bool) (ty : TypeId) (s w : Int) (m : Es) : LoopS where
 α := Nat
 I i := zdm s w m = true ∧ i ≤ m.length ∧ ∀ j, j < i → zkg ptr s w j (m.getD j zE) = true
 sl i := slots 71 [(1, .ptr 1 0), (39, .sl 0 6 0 m.length), (40, .v (.int .i64 m.length)), (41, .v (.int .i64 i))]
 H _ := [.arr shE m false, .fix [.v (.int .i64 s), .v (.int .i64 w), .sl 0 6 0 m.length] true (some ty)]
 fams := [{ β := Unit, out := fun _ _ => zhp ptr s w m = true, ex := .ext 0, sl := fun _ => slots 71 [], H := fun _ => [.arr shE m false] },
  { β := Unit, out := fun _ _ => zhp ptr s w m = false, ex := .ret, sl := fun _ => slots 71 [(2, .v (.bool false))], H := fun _ => [.arr shE m false] }]
def yga (s w : Int) (m : Es) (i : Nat) : Prop := zau Tryz.prog FF2 (.one 4 (ygr true 159 s w m)) 1 (zaj Tryz.f185 0) (ygr true 159 s w m) (fun i : Nat => m.length - i) i
def yo6 (s w : Int) (m : Es) : Prop := zan Tryz.prog FF2 (.one 4 (ygr true 159 s w m)) Tryz.f185 [tlP] [bl] (s, w, m) (zak true (s, w, m))
def yf9 (s w : Int) (m : Es) (i : Nat) : Prop := zau Tryz.prog FF2 (.one 4 (ygr false 155 s w m)) 1 (zaj Tryz.f183 0) (ygr false 155 s w m) (fun i : Nat => m.length - i) i
def yo5 (s w : Int) (m : Es) : Prop := zan Tryz.prog FF2 (.one 4 (ygr false 155 s w m)) Tryz.f183 [tlP] [bl] (s, w, m) (zak false (s, w, m))
def yem (ptr : Bool) (s w : Int) (m : Es) : LoopS where
 α := Nat
 I i := zdm s w m = true ∧ i ≤ m.length ∧ ∀ j, j < i → zkg ptr s w j (m.getD j zE) = true
 sl i := slots 80 [(1, .v (.bool ptr)), (2, .ptr 1 0), (5, .v (.int .i64 i))]
 H _ := [.arr shE m false, .fix [.v (.int .i64 s), .v (.int .i64 w), .sl 0 6 0 m.length] true (some 37)]
 fams := [{ β := Unit, out := fun _ _ => zhp ptr s w m = true, ex := .ext 0, sl := fun _ => slots 80 [], H := fun _ => [.arr shE m false] },
  { β := Unit, out := fun _ _ => zhp ptr s w m = false, ex := .ret, sl := fun _ => slots 80 [(4, .v (.bool false))], H := fun _ => [.arr shE m false] }]
def yf5 (s w : Int) (m : Es) (p : Bool) (i : Nat) : Prop := zau Tryz.prog FF2 (.one 4 (yem p s w m)) 1 (zaj Tryz.f40 0) (yem p s w m) (fun i : Nat => m.length - i) i
def yo3 (s w : Int) (m : Es) (p : Bool) : Prop := zan Tryz.prog FF2 (.one 4 (yem p s w m)) Tryz.f40 [tlP, bl] [bl] ((s, w, m), p) (zak p (s, w, m))
abbrev Hi := Bool × Int × Int × Int
def zcx (va asid : Int) (o : Hi) (i : Nat) (e : En) : Hi := if (zc7 e va asid && (!o.1 || decide (e.2.1 < o.2.2.1))) = true then (true, (i : Int), e.2.1, e.2.2.2.2.2) else o
def zdl (va asid : Int) (m : Es) : Nat → Hi
 | 0 => (false, 0, 0, 0)
 | i + 1 => zcx va asid (zdl va asid m i) i (m.getD i zE)
def za4 (va asid : Int) (m : Es) : Hi := zdl va asid m m.length
def zyb (o : Hi) : List Av := [.v (.bool o.1), .v (.int .i64 o.2.1), .v (.int .i64 o.2.2.1), .v (.int .u64 o.2.2.2)]
def ybw (va asid : Int) (m : Es) : LoopS where
 α := Nat
 I i := i ≤ m.length
 sl i := slots 59 [(1, .v (.int .u64 va)), (2, .v (.int .u64 asid)), (6, .ptr 1 0), (7, .ptr 2 0), (11, .sl 0 6 0 m.length), (12, .v (.int .i64 m.length)), (13, .v (.int .i64 i))]
 H i := [.arr shE m false, .fix (zyb (false, 0, 0, 0)) true (some 52), .fix (zyb (zdl va asid m i)) true (some 52)]
 fams := [{ β := Unit, out := fun _ _ => True, ex := .ext 0, sl := fun _ => slots 59 [(6, .ptr 1 0), (7, .ptr 2 0)], H := fun _ => [.arr shE m false, .fix (zyb (false, 0, 0, 0)) true (some 52), .fix (zyb (za4 va asid m)) true (some 52)] }]
def yfc (va asid : Int) (m : Es) (i : Nat) : Prop := zau Tryz.prog FF2 (.one 3 (ybw va asid m)) 1 (zaj Tryz.f98 0) (ybw va asid m) (fun i : Nat => m.length - i) i
def yoq (s w : Int) (m : Es) (va asid : Int) : Prop := zan Tryz.prog FF2 (.one 3 (ybw va asid m)) Tryz.f98 [tlP, u64, u64] [yhn] ((s, w, m), va, asid) (za4 va asid m)
def kF3 : Known := [
 (185, zag [tlP] [bl] (fun t => some (TlR t)) (zak true)),
 (183, zag [tlP] [bl] (fun t => some (TlR t)) (zak false)),
 (40, zag [tlP, bl] [bl] (fun t => some (TlR t.1)) (fun t => zak t.2 t.1)),
 (98, zag [tlP, u64, u64] [yhn] (fun t => some (zax t.1 = true ∧ TlR t.1 ∧ U64 t.2.1)) (fun t => za4 t.2.1 t.2.2 t.1.2.2))] ++ kF2
def FF3 : Dict := mkD (kF3 ++ kE3 ++ kA4) [] []
def yo4 (s w : Int) (m : Es) : Prop := zan Tryz.prog FF3 .none Tryz.f97 [tlP] [bl] (s, w, m) (zax (s, w, m))
def ye5 (s w : Int) (m : Es) : Prop := zan Tryz.prog FF3 .none Tryz.f89 [tlP] [bl] (s, w, m) (zax (s, w, m))
def yf8 (s w : Int) (m : Es) (a : Bool) (b c d : Int) (e : Bool) (f : Int) : Prop := zan Tryz.prog FF3 .none Tryz.f95 [tlP, enP] [bl] ((s, w, m), (a, b, c, d, e, f)) (zak true (s, w, m) && zbm true (a, b, c, d, e, f))
def yf7 (s w : Int) (m : Es) (a : Bool) (b c d : Int) (e : Bool) (f : Int) : Prop := zan Tryz.prog FF3 .none Tryz.f94 [tlP, enP] [bl] ((s, w, m), (a, b, c, d, e, f)) (zak false (s, w, m) && zbm false (a, b, c, d, e, f))
def kF4 : Known := [
 (97, zag [tlP] [bl] (fun t => some (TlR t)) zax),
 (89, zag [tlP] [bl] (fun t => some (TlR t)) zax),
 (95, zag [tlP, enP] [bl] (fun t => some (TlR t.1 ∧ EnR t.2)) (fun t => zak true t.1 && zbm true t.2)),
 (94, zag [tlP, enP] [bl] (fun t => some (TlR t.1 ∧ EnR t.2)) (fun t => zak false t.1 && zbm false t.2))] ++ kF3
def FF4 : Dict := mkD (kF4 ++ kE3 ++ kA4) [] []
set_option linter.unusedVariables false
theorem zsf (k : Int) : yfk k = (
 (k == (1 : Int)) = (k == (1 : Int))) := by kernel_rfl
theorem zse (k : Int) : yfj k = (
 (k == (2 : Int)) = (k == (2 : Int))) := by kernel_rfl
theorem zsi (a : Bool) (b c d : Int) (e : Bool) (f : Int) (p : Bool) : yfn a b c d e f p = (
 let A0 (a b : Bool) := bif a then b else false;
 let A1 (a : Int) := IntKind.i64.wrap a;
 let A2 := A0 (A0 a (decide (b ≥ (0 : Int)))) (decide (b ≤ (2 : Int)));
 let A3 := (9 : Int) - A1 ((3 : Int) * b);
 let A4 := A0 (A0 A2 (decide (c < (pw (A1 A3))))) (decide (d ≤ (65535 : Int)));
 let A5 (a : Bool) (b c : Prop) := (a = true → b) ∧ c;
 let A6 (g : Int) := A5 A2 (A1 A3 ≤ (64 : PmT [i64])) (A5 A4 (zhw (f, (5 : Int))) (A5 (A0 A4 (e == zaw f (5 : Int))) (U64 f) (zbm p (a, b, c, d, e, f) = A0 (A0 A4 (e == zaw f (5 : Int))) (zbg f b == g))));
 A5 p (A6 (1 : Int)) (p = false → A6 (2 : Int))) := by kernel_rfl
theorem zsh (a : Bool) (b c d : Int) (e : Bool) (f : Int) (va asid : Int) : yfm a b c d e f va asid = (
 (a = true → U64 va ∧ LvR b) ∧ zc7 (a, b, c, d, e, f) va asid = bif bif a then c == zjr va b else false then bif e then true else d == asid else false) := by kernel_rfl
theorem zva (s w : Int) (m : Es) (a : Bool) (b c d : Int) (e : Bool) (f : Int) : yjf s w m a b c d e f = (
 let A0 (a b : Bool) := bif a then b else false;
 let A1 := decide (d ≤ (65535 : Int));
 let A2 (a b c : Bool) := A0 (A0 a b) c;
 let A3 := IntKind.i64.wrap ((9 : Int) - IntKind.i64.wrap ((3 : Int) * b));
 let A4 := decide (c < (IntKind.u64.wrap ((1 : Int) * (2 : Int) ^ (min A3.toNat (64 : Nat)))));
 let A5 := A2 (A2 a (lvM b) A4) A1 (e == zaw f (5 : Int));
 (A0 a (lvM b) = true → (0 : Int) ≤ A3) ∧ (A0 (A2 a (lvM b) A4) A1 = true → zhw (f, (5 : Int))) ∧ (A5 = true → U64 f) ∧ zbm true (a, b, c, d, e, f) = A0 A5 (zbg f b == (1 : PmT [i64])) ∧ m = m) := by kernel_rfl
theorem zu9 (s w : Int) (m : Es) (a : Bool) (b c d : Int) (e : Bool) (f : Int) : yje s w m a b c d e f = (
 let A0 (a b : Bool) := bif a then b else false;
 let A1 := decide (d ≤ (65535 : Int));
 let A2 (a b c : Bool) := A0 (A0 a b) c;
 let A3 := IntKind.i64.wrap ((9 : Int) - IntKind.i64.wrap ((3 : Int) * b));
 let A4 := decide (c < (IntKind.u64.wrap ((1 : Int) * (2 : Int) ^ (min A3.toNat (64 : Nat)))));
 let A5 := A2 (A2 a (lvM b) A4) A1 (e == zaw f (5 : Int));
 (A0 a (lvM b) = true → (0 : Int) ≤ A3) ∧ (A0 (A2 a (lvM b) A4) A1 = true → zhw (f, (5 : Int))) ∧ (A5 = true → U64 f) ∧ zbm false (a, b, c, d, e, f) = A0 A5 (zbg f b == (2 : PmT [i64])) ∧ m = m) := by kernel_rfl
theorem zs3 (s w : Int) (m : Es) (i : Nat) : yga s w m i = (
 let A0 := (0 : Nat) + (↑i : Int).toNat;
 let A1 := (List.getD m A0 (El.zero shE)).snd;
 let A2 := List.length m;
 let A3 := A1.snd.snd;
 let A4 := (↑i : Int);
 let A5 := A1.snd.fst;
 let A6 := zhp true s w m;
 let A7 := (List.getD m A0 (El.zero shE)).fst;
 let A8 := (0 : Nat) = (0 : Nat);
 let A9 (a : Bool) := a = true;
 let Aa (a b c : Prop) := a ∧ b ∧ c;
 let Ab (a b c d e : Prop) := Aa a b (Aa c d e);
 let Ac := (A7, A1.fst, A5, A3.fst, A3.snd.fst, A3.snd.snd);
 let Ad := A7 == false && (A1.fst == (0 : Int) && (A5 == (0 : Int) && (A3.fst == (0 : Int) && (A3.snd.fst == false && (A3.snd.snd == (0 : Int) && true)))));
 let Ae := decide (A4 < (↑A2 : Int));
 let Af := A6 = false;
 let Ah (a : Int) := (match (!Ad), (!!zbm true Ac) with | true, y => y | false, x => false) = true → a ≠ (0 : Int);
 let Ai := bif !Ad then bif !zbm true Ac then true else (IntKind.i64.wrap A5).tmod s != IntKind.i64.wrap (A4.tdiv w) else false;
 (A9 Ae → Aa ((0 : Int) ≤ A4 ∧ A4 < (↑A2 : Int)) (A0 < A2) (Ab (A9 (!Ad) → A2 = A2 ∧ EnR Ac) (Ah s) (Ah w) (A9 Ai → ∃ (x0' : Unit), (false = false ∧ m = m) ∧ Af) (Ai = false → ∃ (x1' : Nat), Ab (Ab A8 (A2 = A2) ((↑A2 : Int) = (↑A2 : Int))
  ((↑x1' : Int) = IntKind.i64.wrap (A4 + (1 : Int))) (Ab (m = m) (s = s) (w = w) A8 (A2 = A2))) (Aa (A9 (zdm s w m)) (x1' ≤ A2) (∀ (x2' : Nat), x2' < x1' → A9 (zkg true s w x2' (List.getD m x2' zE)))) (A2 - x1' < A2 - i) (∀ (x3' : Unit),
  A9 A6 → A9 A6) (∀ (x4' : Unit), Af → Af)))) ∧ (Ae = false → ∃ (x5' : Unit), m = m ∧ A9 A6)) := by kernel_rfl
theorem zz9 (s w : Int) (m : Es) : yo6 s w m = (
 let A0 := List.length m;
 let A1 (a b : Bool) := bif a then true else b;
 let A2 := (↑A0 : Int);
 let A3 := (0 : Nat) = (0 : Nat);
 let A4 := (1 : Int) :: (2 : Int) :: (4 : Int) :: (8 : Int) :: [];
 let A5 (a : Bool) := a = true;
 let A6 (a b c : Prop) := a ∧ b ∧ c;
 let A7 := zak true (s, w, m) = false;
 let A8 := A1 (A1 (A1 (!ygn A4 s) (decide (w < (1 : Int)))) (decide (w > (4 : Int)))) (A2 != IntKind.i64.wrap (s * w));
 let A9 := zhp true s w m;
 A6 ((4 : Nat) = (4 : Nat) ∧ SzR A4.length) (A5 A8 → A7 ∧ m = m) (A8 = false → ∃ (x0' : Nat), A6 A3 (A0 = A0) (A6 (A2 = A2) ((↑x0' : Int) = (0 : Int)) (A6 (m = m) (s = s) (A6 (w = w) A3 (A0 = A0)))) ∧ A6 (A6 (A5 (zdm s w m)) (x0' ≤ A0) (∀
  (x1' : Nat), x1' < x0' → A5 (zkg true s w x1' (List.getD m x1' zE)))) (∀ (x2' : Unit), A5 A9 → A5 (zak true (s, w, m)) ∧ m = m) (∀ (x3' : Unit), A9 = false → A7 ∧ m = m))) := by kernel_rfl
theorem zs2 (s w : Int) (m : Es) (i : Nat) : yf9 s w m i = (
 let A0 := (0 : Nat) + (↑i : Int).toNat;
 let A1 := (List.getD m A0 (El.zero shE)).snd;
 let A2 := List.length m;
 let A3 := A1.snd.snd;
 let A4 := (↑i : Int);
 let A5 := A1.snd.fst;
 let A6 := zhp false s w m;
 let A7 (a : Bool) := a = true;
 let A8 := (List.getD m A0 (El.zero shE)).fst;
 let A9 := (0 : Nat) = (0 : Nat);
 let Aa (a b c : Prop) := a ∧ b ∧ c;
 let Ab (a b c d e : Prop) := Aa a b (Aa c d e);
 let Ac := (A8, A1.fst, A5, A3.fst, A3.snd.fst, A3.snd.snd);
 let Ad := A8 == false && (A1.fst == (0 : Int) && (A5 == (0 : Int) && (A3.fst == (0 : Int) && (A3.snd.fst == false && (A3.snd.snd == (0 : Int) && true)))));
 let Ae := decide (A4 < (↑A2 : Int));
 let Af := A6 = false;
 let Ah (a : Int) := (match (!Ad), (!!zbm false Ac) with | true, y => y | false, x => false) = true → a ≠ (0 : Int);
 let Ai := bif !Ad then bif !zbm false Ac then true else (IntKind.i64.wrap A5).tmod s != IntKind.i64.wrap (A4.tdiv w) else false;
 (A7 Ae → Aa ((0 : Int) ≤ A4 ∧ A4 < (↑A2 : Int)) (A0 < A2) (Ab (A7 (!Ad) → A2 = A2 ∧ EnR Ac) (Ah s) (Ah w) (A7 Ai → ∃ (x0' : Unit), (false = false ∧ m = m) ∧ Af) (Ai = false → ∃ (x1' : Nat), Ab (Ab A9 (A2 = A2) ((↑A2 : Int) = (↑A2 : Int))
  ((↑x1' : Int) = IntKind.i64.wrap (A4 + (1 : Int))) (Ab (m = m) (s = s) (w = w) A9 (A2 = A2))) (Aa (A7 (zdm s w m)) (x1' ≤ A2) (∀ (x2' : Nat), x2' < x1' → A7 (zkg false s w x2' (List.getD m x2' zE)))) (A2 - x1' < A2 - i) (∀ (x3' : Unit),
  A7 A6 → A7 A6) (∀ (x4' : Unit), Af → Af)))) ∧ (Ae = false → ∃ (x5' : Unit), m = m ∧ A7 A6)) := by kernel_rfl
theorem zz8 (s w : Int) (m : Es) : yo5 s w m = (
 let A0 := List.length m;
 let A1 (a b : Bool) := bif a then true else b;
 let A2 := (↑A0 : Int);
 let A3 := (0 : Nat) = (0 : Nat);
 let A4 := (1 : Int) :: (2 : Int) :: (4 : Int) :: (8 : Int) :: [];
 let A5 (a : Bool) := a = true;
 let A6 (a b c : Prop) := a ∧ b ∧ c;
 let A7 := zhp false s w m;
 let A8 := A1 (A1 (A1 (!ygn A4 s) (decide (w < (1 : Int)))) (decide (w > (4 : Int)))) (A2 != IntKind.i64.wrap (s * w));
 let A9 := zak false (s, w, m) = false;
 A6 ((4 : Nat) = (4 : Nat) ∧ SzR A4.length) (A5 A8 → A9 ∧ m = m) (A8 = false → ∃ (x0' : Nat), A6 A3 (A0 = A0) (A6 (A2 = A2) ((↑x0' : Int) = (0 : Int)) (A6 (m = m) (s = s) (A6 (w = w) A3 (A0 = A0)))) ∧ A6 (A6 (A5 (zdm s w m)) (x0' ≤ A0) (∀
  (x1' : Nat), x1' < x0' → A5 (zkg false s w x1' (List.getD m x1' zE)))) (∀ (x2' : Unit), A5 A7 → A5 (zak false (s, w, m)) ∧ m = m) (∀ (x3' : Unit), A7 = false → A9 ∧ m = m))) := by kernel_rfl
theorem zsz (s w : Int) (m : Es) (p : Bool) (i : Nat) : yf5 s w m p i = (
 let A0 := (0 : Nat) + (↑i : Int).toNat;
 let A1 := (List.getD m A0 (El.zero shE)).snd;
 let A2 := A1.snd.snd;
 let A3 := List.length m;
 let A4 := (↑i : Int);
 let A5 := A1.snd.fst;
 let A6 (a : Bool) := zhp p s w m = a;
 let A7 := (List.getD m A0 (El.zero shE)).fst;
 let A8 := (A1.fst, A5, A2.fst, A2.snd.fst, A2.snd.snd);
 let A9 (a b c : Prop) := a ∧ b ∧ c;
 let Aa := A7 == false && (A1.fst == (0 : Int) && (A5 == (0 : Int) && (A2.fst == (0 : Int) && (A2.snd.fst == false && (A2.snd.snd == (0 : Int) && true)))));
 let Ab := decide (A4 < (↑A3 : Int));
 let Ac (a : Bool) (b : Prop) := a = true → b;
 let Ad := bif !Aa then bif !zbm p (A7, A8) then true else (IntKind.i64.wrap A5).tmod s != IntKind.i64.wrap (A4.tdiv w) else false;
 let Ae (a : Int) := (match (!Aa), (!!zbm p (A7, A8)) with | true, y => y | false, x => false) = true → a ≠ (0 : Int);
 Ac Ab (A9 ((0 : Int) ≤ A4 ∧ A4 < (↑A3 : Int)) (A0 < A3) (A9 (Ac (!Aa) (EnR (A7, A8))) (Ae s) (A9 (Ae w) (Ac Ad (∃ (x0' : Unit), (false = false ∧ m = m) ∧ A6 false)) (Ad = false → ∃ (x1' : Nat), A9 (A9 (p = p) ((↑x1' : Int) =
  IntKind.i64.wrap (A4 + (1 : Int))) (A9 (m = m) (s = s) (A9 (w = w) ((0 : Nat) = (0 : Nat)) (A3 = A3)))) (A9 (zdm s w m = true) (x1' ≤ A3) (∀ (x2' : Nat), x2' < x1' → zkg p s w x2' (List.getD m x2' zE) = true)) (A9 (A3 - x1' < A3 - i) (∀
  (x3' : Unit), A6 true → A6 true) (∀ (x4' : Unit), A6 false → A6 false)))))) ∧ (Ab = false → ∃ (x5' : Unit), m = m ∧ A6 true)) := by kernel_rfl
theorem zz6 (s w : Int) (m : Es) (p : Bool) : yo3 s w m p = (
 let A0 (a b c d e : Bool) := bif bif a then b else c then d else e;
 let A1 := List.length m;
 let A2 := zak p (s, w, m) = false;
 let A3 (a : Bool) (b : Prop) := zhp p s w m = a → b ∧ m = m;
 let A4 (a : Bool) (b : Prop) := A0 (A0 (A0 (s != (1 : Int)) (s != (2 : Int)) false (s != (4 : Int)) false) (s != (8 : Int)) false true (decide (w < (1 : Int)))) true (decide (w > (4 : Int))) true ((↑(List.length m) : Int) !=
  IntKind.i64.wrap (s * w)) = a → b;
 A4 true (A2 ∧ m = m) ∧ A4 false (∃ (x0' : Nat), (p = p ∧ (↑x0' : Int) = (0 : Int) ∧ m = m ∧ s = s ∧ w = w ∧ (0 : Nat) = (0 : Nat) ∧ A1 = A1) ∧ (zdm s w m = true ∧ x0' ≤ A1 ∧ ∀ (x1' : Nat), x1' < x0' → zkg p s w x1' (List.getD m x1' zE) =
  true) ∧ (∀ (x2' : Unit), A3 true (zak p (s, w, m) = true)) ∧ ∀ (x3' : Unit), A3 false A2)) := by kernel_rfl
theorem zr8 (va asid : Int) (m : Es) (i : Nat) : yfc va asid m i = (
 let A0 := Int.ofNat (0 : Nat);
 let A1 := (0 : Nat) + (↑i : Int).toNat;
 let A2 := List.getD m A1 (El.zero shE);
 let A3 := List.length m;
 let A4 (a : Nat) := (zdl va asid m a).snd;
 let A5 := (↑A3 : Int);
 let A6 := (↑i : Int);
 let A7 (a b c : Prop) := a ∧ b ∧ c;
 let A8 (a b : Int) (c d : Prop) := A7 (a = b) c d;
 let A9 := A2.snd.fst;
 let Aa (a b c d : Int) (e : Prop) := A8 a b (c = d) e;
 let Ab (a : Nat) := (A4 a).snd.fst;
 let Ac (a : Nat) := (zdl va asid m a).fst;
 let Ad := A2.snd.snd.snd;
 let Ae (a : Bool) (b : Prop) := decide (A6 < A5) = a → b;
 let Af (a : Nat) (b : Bool) (c : Prop) := Aa va va asid asid (A7 ((0 : Nat) = (0 : Nat)) (A3 = A3) (Aa A5 A5 (↑a : Int) (IntKind.i64.wrap (A6 + (1 : Int))) (A7 (m = m) (false = false) (Aa A0 A0 A0 A0 (A8 A0 A0 (Ac a = b) c))))) ∧ A7 (a ≤
  A3) (A3 - a < A3 - i) (∀ (x1' : Unit), True → True);
 let Ah (a : Bool) (b : Prop) := (bif bif bif A2.fst then A2.snd.snd.fst == zjr va A9 else false then bif Ad.snd.fst then true else Ad.fst == asid else false then bif !Ac i then true else decide (A9 < (Ab i)) else false) = a → b;
 let Ai (a b c : Int) := Aa a (A4 i).fst b (Ab i) (c = (A4 i).snd.snd);
 let Aj := za4 va asid m;
 let Ak := (za4 va asid m).snd.snd;
 Ae true (A7 ((0 : Int) ≤ A6 ∧ A6 < A5) (A1 < A3) (A7 (A2.fst = true → U64 va ∧ LvR A9) (Ah true (∃ (x0' : Nat), Af x0' true (A8 (A4 x0').fst A6 (Ab x0' = A9) ((A4 x0').snd.snd = Ad.snd.snd)))) (Ah false (∃ (x2' : Nat), Af x2' (Ac i) (Ai (A4
  x2').fst (Ab x2') (A4 x2').snd.snd))))) ∧ Ae false (∃ (x3' : Unit), A7 (m = m) (false = false) (Aa A0 A0 A0 A0 (A8 A0 A0 (Aj.fst = Ac i) (Ai Aj.snd.fst Ak.fst Ak.snd))) ∧ True)) := by kernel_rfl
theorem zzb (s w : Int) (m : Es) (va asid : Int) : yoq s w m va asid = (
 let A0 := Int.ofNat (0 : Nat);
 let A1 := za4 va asid m;
 let A2 := List.length m;
 let A3 (a : Int) (b : Prop) := a = (0 : Int) ∧ b;
 let A4 (a : Nat) := (zdl va asid m a).snd.snd;
 let A5 := (↑(List.length m) : Int);
 ∃ (x0' : Nat), (va = va ∧ asid = asid ∧ (0 : Nat) = (0 : Nat) ∧ A2 = A2 ∧ A5 = A5 ∧ A3 (↑x0' : Int) (m = m ∧ false = false ∧ A3 A0 (A3 A0 (A3 A0 ((zdl va asid m x0').fst = false ∧ A3 (zdl va asid m x0').snd.fst (A3 (A4 x0').fst ((A4
  x0').snd = (0 : Int)))))))) ∧ x0' ≤ A2 ∧ ∀ (x1' : Unit), True → A1.fst = A1.fst ∧ A1.snd.fst = A1.snd.fst ∧ A1.snd.snd.fst = A1.snd.snd.fst ∧ A1.snd.snd.snd = A1.snd.snd.snd ∧ m = m) := by kernel_rfl
theorem zz7 (s w : Int) (m : Es) : yo4 s w m = (
 (List.length m = List.length m ∧ TlR (s, w, m)) ∧
   ((!zak false (s, w, m)) = true → List.length m = List.length m ∧ TlR (s, w, m)) ∧ (zax (s, w, m) = bif zak false (s, w, m) then true else zak true (s, w, m)) ∧ m = m) := by kernel_rfl
theorem zr7 (s w : Int) (m : Es) : ye5 s w m = (
 (List.length m = List.length m ∧ TlR (s, w, m)) ∧
   ((!zak true (s, w, m)) = true → List.length m = List.length m ∧ TlR (s, w, m)) ∧ (zax (s, w, m) = bif zak true (s, w, m) then true else zak false (s, w, m)) ∧ m = m) := by kernel_rfl
theorem zs1 (s w : Int) (m : Es) (a : Bool) (b c d : Int) (e : Bool) (f : Int) : yf8 s w m a b c d e f = (
 (List.length m = List.length m ∧ TlR (s, w, m)) ∧
   (zak true (s, w, m) = true → List.length m = List.length m ∧ EnR (a, b, c, d, e, f)) ∧
     ((zak true (s, w, m) && zbm true (a, b, c, d, e, f)) = bif zak true (s, w, m) then zbm true (a, b, c, d, e, f) else false) ∧ m = m) := by kernel_rfl
theorem zs0 (s w : Int) (m : Es) (a : Bool) (b c d : Int) (e : Bool) (f : Int) : yf7 s w m a b c d e f = (
 (List.length m = List.length m ∧ TlR (s, w, m)) ∧
   (zak false (s, w, m) = true → List.length m = List.length m ∧ EnR (a, b, c, d, e, f)) ∧
     ((zak false (s, w, m) && zbm false (a, b, c, d, e, f)) = bif zak false (s, w, m) then zbm false (a, b, c, d, e, f) else false) ∧ m = m) := by kernel_rfl
set_option linter.unusedSimpArgs false
theorem zaz.append {P : Program} : ∀ {l m : List (FuncId × Sum)}, zaz P l → zaz P m → zaz P (l ++ m) := by
 intro l m hl hm p hp
 rcases List.mem_append.1 hp with h | h
 · exact hl p h
 · exact hm p h
theorem yqw : zaz Tryz.prog (kE3 ++ kA4) := zh5.append zcb
theorem yal : DictOk Tryz.prog FE3 := za1 yqw .nil .nil
theorem yco : Sound Tryz.prog 264 (zag [stP, i64] [bl] (fun _ => none) (fun t => t.2 == 1)) := by
 refine zae mixed Tryz.func264 (by kernel_rfl) (by kernel_rfl) zf2 (fun t _ => ?_)
 obtain ⟨⟨⟩, k⟩ : Unit × Int := t
 exact zah (zsf k) rfl
theorem ycn : Sound Tryz.prog 263 (zag [stP, i64] [bl] (fun _ => none) (fun t => t.2 == 2)) := by
 refine zae mixed Tryz.func263 (by kernel_rfl) (by kernel_rfl) zf2 (fun t _ => ?_)
 obtain ⟨⟨⟩, k⟩ : Unit × Int := t
 exact zah (zse k) rfl
theorem lv_ge (b : Int) : (decide (b ≥ 0) && decide (b ≤ 2)) = lvM b := rfl
theorem yih {b : Int} (h : LvR b) : IntKind.i64.wrap (9 - IntKind.i64.wrap (3 * b)) = 9 - 3 * b ∧ pw (9 - 3 * b) = 2 ^ (9 - 3 * b).toNat ∧ (9 - 3 * b).toNat ≤ 9 ∧ 0 ≤ 9 - 3 * b ∧ 9 - 3 * b ≤ 64 := by
 rcases zcy h with rfl | rfl | rfl <;> decide
theorem ycs : Sound Tryz.prog 92 (zag [enP, bl] [bl] (fun t => some (EnR t.1)) (fun t => zbm t.2 t.1)) := by
 refine zae mixed Tryz.func92 (by kernel_rfl) (by kernel_rfl) yal (fun t h => ?_)
 obtain ⟨⟨a, b, c, d, e, f⟩, p⟩ : En × Bool := t
 obtain ⟨h1, h2, h3, h4⟩ : I64 b ∧ U64 c ∧ U64 d ∧ U64 f := h
 refine zah (zsi a b c d e f p) ?_
 conv => zeta
 simp only [Bool.cond_false_right]
 have hb : (a && decide (b ≥ 0) && decide (b ≤ 2)) = (a && lvM b) := by rw [Bool.and_assoc, lv_ge]
 rw [hb]
 have main : ∀ k : Int, k = zs9 p → ((a && lvM b) = true → IntKind.i64.wrap (9 - IntKind.i64.wrap (3 * b)) ≤ (64 : Int)) ∧
  ((a && lvM b && decide (c < pw (IntKind.i64.wrap (9 - IntKind.i64.wrap (3 * b)))) && decide (d ≤ 65535)) = true → zhw (f, 5)) ∧
  ((a && lvM b && decide (c < pw (IntKind.i64.wrap (9 - IntKind.i64.wrap (3 * b)))) && decide (d ≤ 65535) && (e == zaw f 5)) = true → U64 f) ∧
  zbm p (a, b, c, d, e, f) = (a && lvM b && decide (c < pw (IntKind.i64.wrap (9 - IntKind.i64.wrap (3 * b)))) && decide (d ≤ 65535) && (e == zaw f 5) && (zbg f b == k)) := by
  intro k hk
  refine ⟨fun g => ?_, fun _ => zn5 h4 (by decide) (by decide), fun _ => h4, ?_⟩
  · have : LvR b := zds.1 (by simp at g; exact g.2)
    obtain ⟨w, _, _, _, _⟩ := yih this
    rw [w]
    unfold LvR at this
    omega
  · rw [hk]
    by_cases hl : lvM b = true
    · obtain ⟨w, q, _⟩ := yih (zds.1 hl)
      rw [w, q]
      rfl
    · have hl : lvM b = false := by simpa using hl
      simp [zbm, hl]
 refine ⟨fun g => main 1 (by simp [zs9, g]), fun g => main 2 (by simp [zs9, g])⟩
theorem ycr : Sound Tryz.prog 90 (zag [enP, u64, u64] [bl] (fun t => some (EnR t.1 ∧ (t.1.1 = true → LvR t.1.2.1) ∧ U64 t.2.1)) (fun t => zc7 t.1 t.2.1 t.2.2)) := by
 refine zae mixed Tryz.func90 (by kernel_rfl) (by kernel_rfl) yal (fun t h => ?_)
 obtain ⟨⟨a, b, c, d, e, f⟩, va, asid⟩ : En × Int × Int := t
 obtain ⟨h1, h2, h3⟩ : EnR (a, b, c, d, e, f) ∧ (a = true → LvR b) ∧ U64 va := h
 refine zah (zsh a b c d e f va asid) ⟨fun g => ⟨h3, h2 g⟩, ?_⟩
 simp only [Bool.cond_false_right, Bool.cond_true_left]
 rfl
theorem yk0 : zaz Tryz.prog kF1 := .cons (by kernel_rfl) yco <| .cons (by kernel_rfl) ycn <| .cons (by kernel_rfl) ycs <| .cons (by kernel_rfl) ycr .nil
theorem ykh : DictOk Tryz.prog FF1 := za1 ((yk0.append zh5).append zcb) .nil .nil
theorem zm6 {a : Bool} {b c d : Int} {e : Bool} {f : Int} {p : Bool} {k : Int} (hk : k = zs9 p) :
 ((a && lvM b) = true → 0 ≤ IntKind.i64.wrap (9 - IntKind.i64.wrap (3 * b))) ∧
 zbm p (a, b, c, d, e, f) = (a && lvM b && decide (c < IntKind.u64.wrap (1 * 2 ^ min (IntKind.i64.wrap (9 - IntKind.i64.wrap (3 * b))).toNat 64)) && decide (d ≤ 65535) && (e == zaw f 5) && (zbg f b == k)) := by
 refine ⟨fun g => ?_, ?_⟩
 · have : LvR b := zds.1 (by simp at g; exact g.2)
   obtain ⟨w, _, _, q, _⟩ := yih this
   rw [w]
   exact q
 · rw [hk]
   by_cases hl : lvM b = true
   · obtain ⟨w, q, _⟩ := yih (zds.1 hl)
     have : IntKind.u64.wrap (1 * 2 ^ min (9 - 3 * b).toNat 64) = 2 ^ (9 - 3 * b).toNat := by
      rcases zcy (zds.1 hl) with rfl | rfl | rfl <;> decide
     rw [w, this]
     rfl
   · have hl : lvM b = false := by simpa using hl
     simp [zbm, hl]
theorem yhl : Sound Tryz.prog 186 (zag [tlP, enP] [bl] (fun t => some (EnR t.2)) (fun t => zbm true t.2)) := by
 refine zae mixed Tryz.func186 (by kernel_rfl) (by kernel_rfl) ykh (fun t h => ?_)
 obtain ⟨⟨s, w, m⟩, a, b, c, d, e, f⟩ : Tl × En := t
 obtain ⟨h1, h2, h3, h4⟩ : I64 b ∧ U64 c ∧ U64 d ∧ U64 f := h
 refine zah (zva s w m a b c d e f) ?_
 conv => zeta
 simp only [Bool.cond_false_right]
 obtain ⟨q1, q2⟩ := zm6 (a := a) (b := b) (c := c) (d := d) (e := e) (p := true) (k := 1) rfl
 exact ⟨q1, fun _ => zn5 h4 (by decide) (by decide), fun _ => h4, q2, trivial⟩
theorem yhk : Sound Tryz.prog 184 (zag [tlP, enP] [bl] (fun t => some (EnR t.2)) (fun t => zbm false t.2)) := by
 refine zae mixed Tryz.func184 (by kernel_rfl) (by kernel_rfl) ykh (fun t h => ?_)
 obtain ⟨⟨s, w, m⟩, a, b, c, d, e, f⟩ : Tl × En := t
 obtain ⟨h1, h2, h3, h4⟩ : I64 b ∧ U64 c ∧ U64 d ∧ U64 f := h
 refine zah (zu9 s w m a b c d e f) ?_
 conv => zeta
 simp only [Bool.cond_false_right]
 obtain ⟨q1, q2⟩ := zm6 (a := a) (b := b) (c := c) (d := d) (e := e) (p := false) (k := 2) rfl
 exact ⟨q1, fun _ => zn5 h4 (by decide) (by decide), fun _ => h4, q2, trivial⟩
theorem yk1 : zaz Tryz.prog kF2 := .cons (by kernel_rfl) yhl <| .cons (by kernel_rfl) yhk yk0
theorem zwd : DictOk Tryz.prog FF2 := za1 ((yk1.append zh5).append zcb) .nil .nil
theorem ynk (e : En) : (!(e.1 == false && (e.2.1 == 0 && (e.2.2.1 == 0 && (e.2.2.2.1 == 0 && (e.2.2.2.2.1 == false && (e.2.2.2.2.2 == 0 && true))))))) = !(e == zE) := by
 obtain ⟨a, b, c, d, g, f⟩ := e
 rw [Bool.and_true]
 rfl
theorem zb8 {p : Bool} {s w : Int} {m : Es} : zhp p s w m = true ↔ ∀ i, i < m.length → zkg p s w i (m.getD i zE) = true := by
 unfold zhp
 rw [List.all_eq_true]
 exact ⟨fun h i hi => h i (List.mem_range.2 hi), fun h i hi => h i (List.mem_range.1 hi)⟩
theorem zfv {s w : Int} {m : Es} (h : zdm s w m = true) : (s = 1 ∨ s = 2 ∨ s = 4 ∨ s = 8) ∧ 1 ≤ w ∧ w ≤ 4 ∧ (m.length : Int) = s * w := by
 simp only [zdm, Bool.and_eq_true, Bool.or_eq_true, beq_iff_eq, decide_eq_true_eq] at h
 obtain ⟨⟨⟨h1, h2⟩, h3⟩, h4⟩ := h
 exact ⟨by omega, h2, h3, h4⟩
theorem zyp {i : Nat} {w : Int} (hw : 1 ≤ w) (hi : i ≤ 2097152) : IntKind.i64.wrap ((i : Int).tdiv w) = (i : Int).tdiv w := by
 rw [zd3 (by omega)]
 have h1 : 0 ≤ (i : Int) / w := Int.ediv_nonneg (by omega) (by omega)
 have h2 : (i : Int) / w ≤ i := Int.ediv_le_self _ (by omega)
 exact zac (by omega) (by omega)
theorem zlt {p : Bool} {s w : Int} {i : Nat} {e : En} (hw : 1 ≤ w) (hi : i ≤ 2097152) : (bif !(e == zE) then bif !zbm p e then true else (IntKind.i64.wrap e.2.2.1).tmod s != IntKind.i64.wrap ((i : Int).tdiv w) else false) = !zkg p s w i e := by
 rw [zyp hw hi]
 unfold zkg
 cases e == zE <;> cases zbm p e <;> simp [bne]
theorem zk7 {m : Es} {i : Nat} (h : i < m.length) (d : En) : m.getD i d ∈ m := by
 rw [List.getD_eq_getElem?_getD, List.getElem?_eq_getElem h]
 exact List.getElem_mem h
theorem zl1 {p : Bool} {s w : Int} {m : Es} {i : Nat} (h : ∀ j, j < i → zkg p s w j (m.getD j zE) = true) (ho : zkg p s w i (m.getD i zE) = true) : ∀ j, j < i + 1 → zkg p s w j (m.getD j zE) = true := by
 intro j hj
 rcases Nat.lt_or_ge j i with z | z
 · exact h j z
 · have : j = i := by omega
   subst this
   exact ho
theorem zo2 {p : Bool} {s w : Int} {m : Es} {i : Nat} (hi : i < m.length) (ho : zkg p s w i (m.getD i zE) = false) : zhp p s w m = false := by
 cases e : zhp p s w m with
 | false => rfl
 | true => rw [zb8.1 e i hi] at ho; cases ho
theorem yhm (s : Int) : ygn [1, 2, 4, 8] s = (s == 1 || s == 2 || s == 4 || s == 8) := by
 have e : ∀ a b : Int, decide (a = b) = (a == b) := fun a b => rfl
 unfold ygn
 simp [Bool.or_assoc, e]
theorem yh5 {s w : Int} (hs : s = 1 ∨ s = 2 ∨ s = 4 ∨ s = 8) (h1 : 1 ≤ w) (h2 : w ≤ 4) : IntKind.i64.wrap (s * w) = s * w := by
 rcases hs with rfl | rfl | rfl | rfl <;> exact zac (by omega) (by omega)
theorem zq1 (s w : Int) (m : Es) : (!(s == 1 || s == 2 || s == 4 || s == 8) || decide (w < 1) || decide (w > 4) || (m.length : Int) != IntKind.i64.wrap (s * w)) = !zdm s w m := by
 unfold zdm
 by_cases h0 : (s == 1 || s == 2 || s == 4 || s == 8) = true
 · by_cases h1 : 1 ≤ w
   · by_cases h2 : w ≤ 4
     · rw [yh5 (by simp at h0; omega) h1 h2, h0]
       have e1 : ¬ w < 1 := by omega
       have e2 : ¬ w > 4 := by omega
       simp [h1, h2, e1, e2, bne]
     · have e2 : w > 4 := by omega
       simp [h2, e2]
   · have e1 : w < 1 := by omega
     simp [h1, e1]
 · have h0 : (s == 1 || s == 2 || s == 4 || s == 8) = false := by simpa using h0
   simp [h0]
theorem zwy (s w : Int) (m : Es) : (bif bif bif !ygn [1, 2, 4, 8] s then true else decide (w < 1) then true else decide (w > 4) then true else (m.length : Int) != IntKind.i64.wrap (s * w)) = !zdm s w m := by
 rw [yhm, ← zq1]
 simp only [Bool.cond_true_left]
theorem yb5 (s w : Int) (m : Es) : (bif bif bif bif bif bif s != 1 then s != 2 else false then s != 4 else false then s != 8 else false then true else decide (w < 1) then true else decide (w > 4) then true else (m.length : Int) != IntKind.i64.wrap (s * w)) = !zdm s w m := by
 have e : (s != 1 && s != 2 && s != 4 && s != 8) = !(s == 1 || s == 2 || s == 4 || s == 8) := by simp only [Bool.not_or, bne]
 rw [← zq1, ← e]
 simp only [Bool.cond_true_left, Bool.cond_false_right]
theorem yol : Sound Tryz.prog 185 (zag [tlP] [bl] (fun t => some (TlR t)) (zak true)) := by
 refine zcm mixed Tryz.func185 (by kernel_rfl) (b := zaj Tryz.f185 0) (k := 4) (by kernel_rfl) (by kernel_rfl) (by kernel_rfl) zwd (fun t h => ?_)
 obtain ⟨s, w, m⟩ : Tl := t
 obtain ⟨h1, h2, h, h4⟩ : I64 s ∧ I64 w ∧ SzR m.length ∧ ∀ e ∈ m, EnR e := h
 have hs : m.length ≤ 2097152 := h
 refine ⟨.one 4 (ygr true 159 s w m), ygr true 159 s w m, fun i : Nat => m.length - i, zby _ _, fun (i : Nat) hi => zah (zs3 s w m i) ?_, zah (zz9 s w m) ?_⟩
 all_goals (try conv => zeta)
 · obtain ⟨hd, hi, hb⟩ : zdm s w m = true ∧ i ≤ m.length ∧ ∀ j, j < i → zkg true s w j (m.getD j zE) = true := hi
   obtain ⟨g1, g2, g3, g4⟩ := zfv hd
   refine ⟨fun g => ?_, fun g => ?_⟩
   · have g : (i : Int) < m.length := of_decide_eq_true g
     have hlt : i < m.length := by omega
     have hm := h4 _ (zk7 hlt zE)
     rw [zd1 h hlt, show 0 + (i : Int).toNat = i by omega, show El.zero shE = zE from rfl]
     have hno := fun q => zo2 (p := true) (s := s) (w := w) hlt q
     have hyes := fun q => zl1 (p := true) (s := s) (w := w) (m := m) hb q
     generalize m.getD i zE = e at *
     obtain ⟨a, b, c, d, k, f⟩ := e
     have hz := ynk (a, b, c, d, k, f)
     have hc := zlt (p := true) (s := s) (w := w) (i := i) (e := (a, b, c, d, k, f)) g2 (by omega)
     simp only at hz hc
     rw [hz, hc]
     have s0 : s ≠ 0 := by omega
     have w0 : w ≠ 0 := by omega
     exact ⟨⟨by omega, by omega⟩, by omega, fun _ => ⟨rfl, hm⟩, fun _ => s0, fun _ => w0, fun q => ⟨(), ⟨rfl, rfl⟩, hno (by simpa using q)⟩, fun q => ⟨i + 1, ⟨rfl, rfl, rfl, rfl, rfl, rfl, rfl, rfl, rfl⟩, ⟨hd, by omega, hyes (by simpa using q)⟩, by omega, fun _ z => z, fun _ z => z⟩⟩
   · have g : ¬ (i : Int) < m.length := of_decide_eq_false g
     have : i = m.length := by omega
     subst this
     exact ⟨(), rfl, zb8.2 hb⟩
 · rw [zwy]
   exact ⟨⟨rfl, by unfold SzR; decide⟩, fun q => ⟨by simp at q; simp [zak, q], rfl⟩, fun q => ⟨0, ⟨rfl, rfl, rfl, rfl, rfl, rfl, rfl, rfl, rfl⟩, ⟨by simpa using q, by omega, fun j hj => absurd hj (Nat.not_lt_zero _)⟩, fun _ z => ⟨by simp at q; simp [zak, q, z], rfl⟩, fun _ z => ⟨by simp [zak, z], rfl⟩⟩⟩
theorem yok : Sound Tryz.prog 183 (zag [tlP] [bl] (fun t => some (TlR t)) (zak false)) := by
 refine zcm mixed Tryz.func183 (by kernel_rfl) (b := zaj Tryz.f183 0) (k := 4) (by kernel_rfl) (by kernel_rfl) (by kernel_rfl) zwd (fun t h => ?_)
 obtain ⟨s, w, m⟩ : Tl := t
 obtain ⟨h1, h2, h, h4⟩ : I64 s ∧ I64 w ∧ SzR m.length ∧ ∀ e ∈ m, EnR e := h
 have hs : m.length ≤ 2097152 := h
 refine ⟨.one 4 (ygr false 155 s w m), ygr false 155 s w m, fun i : Nat => m.length - i, zby _ _, fun (i : Nat) hi => zah (zs2 s w m i) ?_, zah (zz8 s w m) ?_⟩
 all_goals (try conv => zeta)
 · obtain ⟨hd, hi, hb⟩ : zdm s w m = true ∧ i ≤ m.length ∧ ∀ j, j < i → zkg false s w j (m.getD j zE) = true := hi
   obtain ⟨g1, g2, g3, g4⟩ := zfv hd
   refine ⟨fun g => ?_, fun g => ?_⟩
   · have g : (i : Int) < m.length := of_decide_eq_true g
     have hlt : i < m.length := by omega
     have hm := h4 _ (zk7 hlt zE)
     rw [zd1 h hlt, show 0 + (i : Int).toNat = i by omega, show El.zero shE = zE from rfl]
     have hno := fun q => zo2 (p := false) (s := s) (w := w) hlt q
     have hyes := fun q => zl1 (p := false) (s := s) (w := w) (m := m) hb q
     generalize m.getD i zE = e at *
     obtain ⟨a, b, c, d, k, f⟩ := e
     have hz := ynk (a, b, c, d, k, f)
     have hc := zlt (p := false) (s := s) (w := w) (i := i) (e := (a, b, c, d, k, f)) g2 (by omega)
     simp only at hz hc
     rw [hz, hc]
     have s0 : s ≠ 0 := by omega
     have w0 : w ≠ 0 := by omega
     exact ⟨⟨by omega, by omega⟩, by omega, fun _ => ⟨rfl, hm⟩, fun _ => s0, fun _ => w0, fun q => ⟨(), ⟨rfl, rfl⟩, hno (by simpa using q)⟩, fun q => ⟨i + 1, ⟨rfl, rfl, rfl, rfl, rfl, rfl, rfl, rfl, rfl⟩, ⟨hd, by omega, hyes (by simpa using q)⟩, by omega, fun _ z => z, fun _ z => z⟩⟩
   · have g : ¬ (i : Int) < m.length := of_decide_eq_false g
     have : i = m.length := by omega
     subst this
     exact ⟨(), rfl, zb8.2 hb⟩
 · rw [zwy]
   exact ⟨⟨rfl, by unfold SzR; decide⟩, fun q => ⟨by simp at q; simp [zak, q], rfl⟩, fun q => ⟨0, ⟨rfl, rfl, rfl, rfl, rfl, rfl, rfl, rfl, rfl⟩, ⟨by simpa using q, by omega, fun j hj => absurd hj (Nat.not_lt_zero _)⟩, fun _ z => ⟨by simp at q; simp [zak, q, z], rfl⟩, fun _ z => ⟨by simp [zak, z], rfl⟩⟩⟩
theorem yod : Sound Tryz.prog 40 (zag [tlP, bl] [bl] (fun t => some (TlR t.1)) (fun t => zak t.2 t.1)) := by
 refine zcm mixed Tryz.func40 (by kernel_rfl) (b := zaj Tryz.f40 0) (k := 4) (by kernel_rfl) (by kernel_rfl) (by kernel_rfl) zwd (fun t h => ?_)
 obtain ⟨⟨s, w, m⟩, p⟩ : Tl × Bool := t
 obtain ⟨h1, h2, h, h4⟩ : I64 s ∧ I64 w ∧ SzR m.length ∧ ∀ e ∈ m, EnR e := h
 have hs : m.length ≤ 2097152 := h
 refine ⟨.one 4 (yem p s w m), yem p s w m, fun i : Nat => m.length - i, zby _ _, fun (i : Nat) hi => zah (zsz s w m p i) ?_, zah (zz6 s w m p) ?_⟩
 all_goals (try conv => zeta)
 · obtain ⟨hd, hi, hb⟩ : zdm s w m = true ∧ i ≤ m.length ∧ ∀ j, j < i → zkg p s w j (m.getD j zE) = true := hi
   obtain ⟨g1, g2, g3, g4⟩ := zfv hd
   refine ⟨fun g => ?_, fun g => ?_⟩
   · have g : (i : Int) < m.length := of_decide_eq_true g
     have hlt : i < m.length := by omega
     have hm := h4 _ (zk7 hlt zE)
     rw [zd1 h hlt, show 0 + (i : Int).toNat = i by omega, show El.zero shE = zE from rfl]
     have hno := fun q => zo2 (p := p) (s := s) (w := w) hlt q
     have hyes := fun q => zl1 (p := p) (s := s) (w := w) (m := m) hb q
     generalize m.getD i zE = e at *
     obtain ⟨a, b, c, d, k, f⟩ := e
     have hz := ynk (a, b, c, d, k, f)
     have hc := zlt (p := p) (s := s) (w := w) (i := i) (e := (a, b, c, d, k, f)) g2 (by omega)
     simp only at hz hc
     rw [hz, hc]
     have s0 : s ≠ 0 := by omega
     have w0 : w ≠ 0 := by omega
     exact ⟨⟨by omega, by omega⟩, by omega, fun _ => hm, fun _ => s0, fun _ => w0, fun q => ⟨(), ⟨rfl, rfl⟩, hno (by simpa using q)⟩, fun q => ⟨i + 1, ⟨rfl, rfl, rfl, rfl, rfl, rfl, rfl⟩, ⟨hd, by omega, hyes (by simpa using q)⟩, by omega, fun _ z => z, fun _ z => z⟩⟩
   · have g : ¬ (i : Int) < m.length := of_decide_eq_false g
     have : i = m.length := by omega
     subst this
     exact ⟨(), rfl, zb8.2 hb⟩
 · rw [yb5]
   exact ⟨fun q => ⟨by simp at q; simp [zak, q], rfl⟩, fun q => ⟨0, ⟨rfl, rfl, rfl, rfl, rfl, rfl, rfl⟩, ⟨by simpa using q, by omega, fun j hj => absurd hj (Nat.not_lt_zero _)⟩, fun _ z => ⟨by simp at q; simp [zak, q, z], rfl⟩, fun _ z => ⟨by simp [zak, z], rfl⟩⟩⟩
theorem yi8 {p : Bool} {t : Tl} (h : zak p t = true) {i : Nat} (hi : i < t.2.2.length) (hv : (t.2.2.getD i zE).1 = true) : LvR (t.2.2.getD i zE).2.1 := by
 simp only [zak, Bool.and_eq_true] at h
 have := zb8.1 h.2 i hi
 simp only [zkg, Bool.or_eq_true, Bool.and_eq_true] at this
 rcases this with e | e
 · have e : t.2.2.getD i zE = zE := by simpa using e
   rw [e] at hv
   cases hv
 · have := e.1
   simp only [zbm, Bool.and_eq_true] at this
   exact zds.1 this.1.1.1.1.2
theorem zkz {t : Tl} (h : zax t = true) {i : Nat} (hi : i < t.2.2.length) (hv : (t.2.2.getD i zE).1 = true) : LvR (t.2.2.getD i zE).2.1 := by
 simp only [zax, Bool.or_eq_true] at h
 rcases h with h | h <;> exact yi8 h hi hv
theorem ymw : Sound Tryz.prog 98 (zag [tlP, u64, u64] [yhn] (fun t => some (zax t.1 = true ∧ TlR t.1 ∧ U64 t.2.1)) (fun t => za4 t.2.1 t.2.2 t.1.2.2)) := by
 refine zcm mixed Tryz.func98 (by kernel_rfl) (b := zaj Tryz.f98 0) (k := 3) (by kernel_rfl) (by kernel_rfl) (by kernel_rfl) zwd (fun t h => ?_)
 obtain ⟨⟨s, w, m⟩, va, asid⟩ : Tl × Int × Int := t
 obtain ⟨h0, ⟨h1, h2, h, h4⟩, h5⟩ : zax (s, w, m) = true ∧ (I64 s ∧ I64 w ∧ SzR m.length ∧ ∀ e ∈ m, EnR e) ∧ U64 va := h
 have hs : m.length ≤ 2097152 := h
 refine ⟨.one 3 (ybw va asid m), ybw va asid m, fun i : Nat => m.length - i, zby _ _, fun (i : Nat) hi => zah (zr8 va asid m i) ?_, zah (zzb s w m va asid) ?_⟩
 all_goals (try conv => zeta)
 · have hi : i ≤ m.length := hi
   refine ⟨fun g => ?_, fun g => ?_⟩
   · have g : (i : Int) < m.length := of_decide_eq_true g
     have hlt : i < m.length := by omega
     have hlv := zkz h0 hlt
     simp only at hlv
     have hnext : zdl va asid m (i + 1) = zcx va asid (zdl va asid m i) i (m.getD i zE) := rfl
     rw [zd1 h hlt, show 0 + (i : Int).toNat = i by omega, show El.zero shE = zE from rfl]
     generalize m.getD i zE = e at *
     obtain ⟨a, b, c, d, k, f⟩ := e
     simp only [Bool.cond_true_left, Bool.cond_false_right]
     refine ⟨⟨by omega, by omega⟩, by omega, fun q => ⟨h5, hlv q⟩, fun q => ⟨i + 1, ⟨trivial, trivial, trivial, trivial, trivial, rfl, trivial, trivial, trivial, trivial, trivial, ?_⟩, by omega, by omega, fun _ _ => trivial⟩, fun q => ⟨i + 1, ⟨trivial, trivial, trivial, trivial, trivial, rfl, trivial, trivial, trivial, trivial, trivial, ?_⟩, by omega, by omega, fun _ _ => trivial⟩⟩
     · rw [hnext]
       unfold zcx
       rw [if_pos (by unfold zc7; exact q)]
       exact ⟨rfl, rfl, rfl, rfl⟩
     · rw [hnext]
       unfold zcx
       rw [if_neg (by unfold zc7; rw [q]; decide)]
       exact ⟨rfl, rfl, rfl, rfl⟩
   · have g : ¬ (i : Int) < m.length := of_decide_eq_false g
     have : i = m.length := by omega
     subst this
     exact ⟨(), ⟨rfl, rfl, rfl, rfl, rfl, rfl, rfl, rfl, rfl⟩, trivial⟩
 · exact ⟨0, ⟨rfl, rfl, rfl, rfl, rfl, rfl, rfl, rfl, rfl, rfl, rfl, rfl, rfl, rfl, rfl⟩, by omega, fun _ _ => ⟨rfl, rfl, rfl, rfl, rfl⟩⟩
theorem yk2 : zaz Tryz.prog kF3 := .cons (by kernel_rfl) yol <| .cons (by kernel_rfl) yok <| .cons (by kernel_rfl) yod <| .cons (by kernel_rfl) ymw yk1
theorem zwe : DictOk Tryz.prog FF3 := za1 ((yk2.append zh5).append zcb) .nil .nil
theorem yoi : Sound Tryz.prog 97 (zag [tlP] [bl] (fun t => some (TlR t)) zax) := by
 refine zae mixed Tryz.func97 (by kernel_rfl) (by kernel_rfl) zwe (fun t h => ?_)
 obtain ⟨s, w, m⟩ : Tl := t
 have h : TlR (s, w, m) := h
 refine zah (zz7 s w m) ⟨⟨rfl, h⟩, fun _ => ⟨rfl, h⟩, ?_, rfl⟩
 rw [Bool.cond_true_left, Bool.or_comm]
 rfl
theorem ybr : Sound Tryz.prog 89 (zag [tlP] [bl] (fun t => some (TlR t)) zax) := by
 refine zae mixed Tryz.func89 (by kernel_rfl) (by kernel_rfl) zwe (fun t h => ?_)
 obtain ⟨s, w, m⟩ : Tl := t
 have h : TlR (s, w, m) := h
 refine zah (zr7 s w m) ⟨⟨rfl, h⟩, fun _ => ⟨rfl, h⟩, ?_, rfl⟩
 rw [Bool.cond_true_left]
 rfl
theorem yeo : Sound Tryz.prog 95 (zag [tlP, enP] [bl] (fun t => some (TlR t.1 ∧ EnR t.2)) (fun t => zak true t.1 && zbm true t.2)) := by
 refine zae mixed Tryz.func95 (by kernel_rfl) (by kernel_rfl) zwe (fun t h => ?_)
 obtain ⟨⟨s, w, m⟩, a, b, c, d, e, f⟩ : Tl × En := t
 obtain ⟨h1, h2⟩ : TlR (s, w, m) ∧ EnR (a, b, c, d, e, f) := h
 exact zah (zs1 s w m a b c d e f) ⟨⟨rfl, h1⟩, fun _ => ⟨rfl, h2⟩, by rw [Bool.cond_false_right], rfl⟩
theorem yen : Sound Tryz.prog 94 (zag [tlP, enP] [bl] (fun t => some (TlR t.1 ∧ EnR t.2)) (fun t => zak false t.1 && zbm false t.2)) := by
 refine zae mixed Tryz.func94 (by kernel_rfl) (by kernel_rfl) zwe (fun t h => ?_)
 obtain ⟨⟨s, w, m⟩, a, b, c, d, e, f⟩ : Tl × En := t
 obtain ⟨h1, h2⟩ : TlR (s, w, m) ∧ EnR (a, b, c, d, e, f) := h
 exact zah (zs0 s w m a b c d e f) ⟨⟨rfl, h1⟩, fun _ => ⟨rfl, h2⟩, by rw [Bool.cond_false_right], rfl⟩
theorem zna : zaz Tryz.prog kF4 := .cons (by kernel_rfl) yoi <| .cons (by kernel_rfl) ybr <| .cons (by kernel_rfl) yeo <| .cons (by kernel_rfl) yen yk2
theorem zkm : DictOk Tryz.prog FF4 := za1 ((zna.append zh5).append zcb) .nil .nil
end Go.Proofs.YtfiddfbagbaofaaGreat.V
