/- Flushing a cache answers as the model; the law on it returns true. Conditions: those in each statement. -/
import Derived.Test.YtfiddfbagbaofaaGreatGI
import Derived.KernelRfl
namespace Go.Proofs.YtfiddfbagbaofaaGreat.V
open Go
abbrev fnP : Pm := .st [.b, .i .u64, .b, .i .u64]
abbrev Fc := Bool × Int × Bool × Int
def zee (f : Fc) (l t a : Int) (g : Bool) : Bool := (!f.1 || t == zjr f.2.1 l) && (!f.2.2.1 || (!g && a == f.2.2.2))
def zcp (f : Fc) (l t a : Int) (g : Bool) : Bool := !(f.1 && (!ze5 f.2.1 || t != zjr f.2.1 l)) && (!f.2.2.1 || (!g && a == f.2.2.2))
def zju (f : Fc) : Bool := !f.1 || ze5 f.2.1
def znf (f : Fc) (e : En) : En := if (e.1 && zee f e.2.1 e.2.2.1 e.2.2.2.1 e.2.2.2.2.1) = true then zE else e
def zih (f : Fc) (e : En) : En := if (e.1 && zcp f e.2.1 e.2.2.1 e.2.2.2.1 e.2.2.2.2.1) = true then zE else e
def zbt (t : Tl) (f : Fc) : Tl := (t.1, t.2.1, if (zax t && zju f) = true then t.2.2.map (znf f) else t.2.2)
def FlR (m : Es) (f : Fc) : Prop := SzR m.length ∧ U64 f.2.1 ∧ ∀ i, i < m.length → (m.getD i zE).1 = true → LvR (m.getD i zE).2.1
def fcA (f : Fc) : List Av := [.v (.bool f.1), .v (.int .u64 f.2.1), .v (.bool f.2.2.1), .v (.int .u64 f.2.2.2)]
def yjd (a : Bool) (b : Int) (c : Bool) (d : Int) : Prop := zan Tryz.prog FF4 .none Tryz.f100 [fnP] [bl] (a, b, c, d) (zju (a, b, c, d))
def zzx (a : Bool) (b : Int) (c : Bool) (d l t s : Int) (g : Bool) : Prop := zan Tryz.prog FF4 .none Tryz.f165 [fnP, i64, u64, u64, bl] [bl] ((a, b, c, d), l, t, s, g) (zcp (a, b, c, d) l t s g)
def yj7 (a : Bool) (b : Int) (c : Bool) (d l t s : Int) (g : Bool) : Prop := zte Tryz.prog FF4 .none Tryz.f187 [.v (.int .i64 l), .v (.int .u64 t), .v (.int .u64 s), .v (.bool g), .ptr 0 0] [.fix (fcA (a, b, c, d)) true (some 58)] (.v (.bool (zee (a, b, c, d) l t s g))) [.fix (fcA (a, b, c, d)) true (some 58)]
def yj6 (a : Bool) (b : Int) (c : Bool) (d l t s : Int) (g : Bool) : Prop := zte Tryz.prog FF4 .none Tryz.f187 [.v (.int .i64 l), .v (.int .u64 t), .v (.int .u64 s), .v (.bool g), .ptr 0 0] [.fix (fcA (a, b, c, d)) false (some 58)] (.v (.bool (zee (a, b, c, d) l t s g))) [.fix (fcA (a, b, c, d)) false (some 58)]
def yoe : Sum := fun args H => match args, H with
 | [.v (.int .i64 l), .v (.int .u64 t), .v (.int .u64 s), .v (.bool g), .ptr 0 0], [.fix [.v (.bool a), .v (.int .u64 b), .v (.bool c), .v (.int .u64 d)] o (some 58)] =>
  some (some (U64 b ∧ LvR l), .v (.bool (zee (a, b, c, d) l t s g)), [.fix (fcA (a, b, c, d)) o (some 58)])
 | _, _ => none
def ye3 (a : Bool) (b : Int) (c : Bool) (d : Int) : Prop := zte Tryz.prog FF4 .none Tryz.f102 [.agg (fcA (a, b, c, d))] [] (.fn 187 [.ptr 0 0]) [.fix (fcA (a, b, c, d)) true (some 58)]
def ztz : Sum := fun args H => match args, H with
 | [.agg [.v (.bool a), .v (.int .u64 b), .v (.bool c), .v (.int .u64 d)]], [] => some (none, .fn 187 [.ptr 0 0], [.fix (fcA (a, b, c, d)) true (some 58)])
 | _, _ => none
def kJ1 : Known := [
 (100, zag [fnP] [bl] (fun f => some (U64 f.2.1)) zju),
 (165, zag [fnP, i64, u64, u64, bl] [bl] (fun t => some (U64 t.1.2.1 ∧ LvR t.2.1)) (fun t => zcp t.1 t.2.1 t.2.2.1 t.2.2.2.1 t.2.2.2.2)),
 (187, yoe), (102, ztz)]
def FJ1 : Dict := mkD (kJ1 ++ kF4 ++ kE3 ++ kA4) [] []
def flL (s w : Int) (m : Es) (f : Fc) : LoopS where
 α := Nat
 I i := i ≤ m.length
 sl i := slots 38 [(0, .ptr 0 0), (1, .fn 187 [.ptr 2 0]), (9, .sl 1 6 0 m.length), (10, .v (.int .i64 m.length)), (11, .v (.int .i64 (i : Int)))]
 H i := [.fix (tlA s w 1 m.length) true (some 37), .arr shE ((m.map (znf f)).take i ++ m.drop i) true, .fix (fcA f) true (some 58)]
 fams := [{ β := Unit, out := fun _ _ => True, ex := .ext 0, sl := fun _ => slots 38 [], H := fun _ => [.fix (tlA s w 1 m.length) true (some 37), .arr shE (m.map (znf f)) true, .fix (fcA f) true (some 58)] }]
def zzc (s w : Int) (m : Es) (a : Bool) (b : Int) (c : Bool) (d : Int) (i : Nat) : Prop := zau Tryz.prog FJ1 (.one 1 (flL s w m (a, b, c, d))) 3 (zaj Tryz.f101 0) (flL s w m (a, b, c, d)) (fun i : Nat => m.length - i) i
def yjc (s w : Int) (m : Es) (a : Bool) (b : Int) (c : Bool) (d : Int) : Prop := zte Tryz.prog FJ1 (.one 1 (flL s w m (a, b, c, d))) Tryz.f101 [.ptr 0 0, .fn 187 [.ptr 2 0]] [.fix (tlA s w 1 m.length) true (some 37), .arr shE m true, .fix (fcA (a, b, c, d)) true (some 58)] (.tup []) [.fix (tlA s w 1 m.length) true (some 37), .arr shE (m.map (znf (a, b, c, d))) true, .fix (fcA (a, b, c, d)) true (some 58)]
def ybx : Sum := fun args H => match args, H with
 | [.ptr 0 0, .fn 187 [.ptr 2 0]], [.fix [.v (.int .i64 s), .v (.int .i64 w), .sl 1 6 0 n] true (some 37), .arr sh m true, .fix [.v (.bool a), .v (.int .u64 b), .v (.bool c), .v (.int .u64 d)] true (some 58)] =>
  if h : sh = shE then some (some (n = m.length ∧ FlR (h ▸ m : List (El shE)) (a, b, c, d)), .tup [], [.fix (tlA s w 1 n) true (some 37), .arr shE ((h ▸ m : List (El shE)).map (znf (a, b, c, d))) true, .fix (fcA (a, b, c, d)) true (some 58)]) else none
 | _, _ => none
def yrt (s w : Int) (m : Es) (f : Fc) : LoopS where
 α := Nat
 I i := i ≤ m.length ∧ FlR m f
 sl i := slots 46 [(2, .ptr 1 0), (3, .ptr 2 0), (4, .ptr 3 0), (5, .ptr 4 0), (6, .v (.int .i64 (i : Int)))]
 H i := [.arr shE m false, .fix (tlA s w 0 m.length) true (some 37), .fix (fcA f) true (some 58), .fix [.v (.int .i64 0), .v (.int .i64 0), .v (.slice none 0 0)] true (some 37), .fix (tlA s w 5 m.length) true (some 37), .arr shE ((m.map (zih f)).take i ++ m.drop i) true]
 fams := [{ β := Unit, out := fun _ _ => True, ex := .ext 0, sl := fun _ => slots 46 [(4, .ptr 1 0), (5, .ptr 2 0)], H := fun _ => [.arr shE m false, .fix [.v (.int .i64 0), .v (.int .i64 0), .v (.slice none 0 0)] true (some 37), .fix (tlA s w 3 m.length) true (some 37), .arr shE (m.map (zih f)) true] }]
def zvs (s w : Int) (m : Es) (a : Bool) (b : Int) (c : Bool) (d : Int) (i : Nat) : Prop := zau Tryz.prog FJ1 (.one 5 (yrt s w m (a, b, c, d))) 1 (zaj Tryz.f236 0) (yrt s w m (a, b, c, d)) (fun i : Nat => m.length - i) i
def yfy (s w : Int) (m : Es) (a : Bool) (b : Int) (c : Bool) (d : Int) : Prop := zan Tryz.prog FJ1 (.one 5 (yrt s w m (a, b, c, d))) Tryz.f236 [tlP, fnP] [tlP] ((s, w, m), (a, b, c, d)) (zbt (s, w, m) (a, b, c, d))
def kJ2 : Known := [(101, ybx), (236, zag [tlP, fnP] [tlP] (fun t => some (TlR t.1 ∧ U64 t.2.2.1)) (fun t => zbt t.1 t.2))] ++ kJ1
def FJ2 : Dict := mkD (kJ2 ++ kF4 ++ kE3 ++ kA4) [] []
def yfe (s w : Int) (m : Es) (a : Bool) (b : Int) (c : Bool) (d : Int) : Prop := zan Tryz.prog FJ2 .none Tryz.f29 [tlP, fnP] [tlP] ((s, w, m), (a, b, c, d)) (zbt (s, w, m) (a, b, c, d))
def kJ3 : Known := (29, zag [tlP, fnP] [tlP] (fun t => some (TlR t.1 ∧ U64 t.2.2.1)) (fun t => zbt t.1 t.2)) :: kJ2
set_option linter.unusedVariables false
theorem zu8 (a : Bool) (b : Int) (c : Bool) (d : Int) : yjd a b c d = (
 ((!!a) = true → U64 b) ∧ zju (a, b, c, d) = bif !a then true else ze5 b) := by kernel_rfl
theorem zpu (a : Bool) (b : Int) (c : Bool) (d l t s : Int) (g : Bool) : zzx a b c d l t s g = (
 (a = true → U64 b) ∧
   ((match a, !!ze5 b with
         | true, y => y
         | false, x => false) =
         true →
       U64 b ∧ LvR l) ∧
     ((bif a then bif !ze5 b then true else t != zjr b l else false) = true → zcp (a, b, c, d) l t s g = false) ∧
       ((bif a then bif !ze5 b then true else t != zjr b l else false) = false → zcp (a, b, c, d) l t s g = bif !c then true else bif !g then s == d else false)) := by kernel_rfl
theorem zv7 (a : Bool) (b : Int) (c : Bool) (d l t s : Int) (g : Bool) : yj7 a b c d l t s g = (
 ((!!a) = true → U64 b ∧ LvR l) ∧
   (zee (a, b, c, d) l t s g = bif bif !a then true else t == zjr b l then bif !c then true else bif !g then s == d else false else false) ∧ a = a ∧ b = b ∧ c = c ∧ d = d) := by kernel_rfl
theorem zv6 (a : Bool) (b : Int) (c : Bool) (d l t s : Int) (g : Bool) : yj6 a b c d l t s g = (
 ((!!a) = true → U64 b ∧ LvR l) ∧
   (zee (a, b, c, d) l t s g = bif bif !a then true else t == zjr b l then bif !c then true else bif !g then s == d else false else false) ∧ a = a ∧ b = b ∧ c = c ∧ d = d) := by kernel_rfl
theorem zr6 (a : Bool) (b : Int) (c : Bool) (d : Int) : ye3 a b c d = (
 a = a ∧ b = b ∧ c = c ∧ d = d) := by kernel_rfl
theorem zph (s w : Int) (m : Es) (a : Bool) (b : Int) (c : Bool) (d : Int) (i : Nat) : zzc s w m a b c d i = (
 let A0 := List.length m;
 let A1 := (0 : Nat) + (↑i : Int).toNat;
 let A2 := (↑A0 : Int);
 let A3 := (a, b, c, d);
 let A4 (a : Nat) := List.take a (List.map (znf A3) m) ++ List.drop a m;
 let A5 := (A4 i).getD A1 (El.zero shE);
 let A6 := (↑i : Int);
 let A7 (a b c : Prop) := a ∧ b ∧ c;
 let A8 (a b c d e : Prop) := A7 a b (A7 c d e);
 let A9 := (0 : Nat) = (0 : Nat);
 let Aa := A5.snd;
 let Ab (a : Bool) (b : Prop) := decide (A6 < A2) = a → b;
 let Ac := (0 : Int) ≤ A6 ∧ A6 < A2;
 let Ad (e : Nat) (f : Prop) := A8 A9 (A0 = A0) (A2 = A2) ((↑e : Int) = IntKind.i64.wrap (A6 + (1 : Int))) (A8 (s = s) (w = w) A9 (A0 = A0) (A8 f (a = a) (b = b) (c = c) (d = d))) ∧ A7 (e ≤ A0) (A0 - e < A0 - i) (∀ (x1' : Unit), True →
  True);
 let Ae (a : Bool) (b : Prop) := (bif A5.fst then zee A3 Aa.fst Aa.snd.fst Aa.snd.snd.fst Aa.snd.snd.snd.fst else false) = a → b;
 let Af := A1 < (A4 i).length;
 Ab true (A8 Ac Af (A5.fst = true → U64 b ∧ LvR Aa.fst) (Ae true (A7 Ac Af (∃ (x0' : Nat), Ad x0' (A4 x0' = (A4 i).set A1 (false, (0 : Int), (0 : Int), (0 : Int), false, (0 : Int)))))) (Ae false (∃ (x2' : Nat), Ad x2' (A4 x2' = A4 i)))) ∧ Ab
  false (∃ (x3' : Unit), A8 (s = s) (w = w) A9 (A0 = A0) (A8 (List.map (znf A3) m = A4 i) (a = a) (b = b) (c = c) (d = d)) ∧ True)) := by kernel_rfl
theorem zu7 (s w : Int) (m : Es) (a : Bool) (b : Int) (c : Bool) (d : Int) : yjc s w m a b c d = (
 ∃ (x : Nat),
   ((0 : Nat) = (0 : Nat) ∧
       List.length m = List.length m ∧
         (↑(List.length m) : Int) = (↑(List.length m) : Int) ∧
           (↑x : Int) = (0 : Int) ∧
             s = s ∧ w = w ∧ (0 : Nat) = (0 : Nat) ∧ List.length m = List.length m ∧ List.take x (List.map (znf (a, b, c, d)) m) ++ List.drop x m = m ∧ a = a ∧ b = b ∧ c = c ∧ d = d) ∧
     x ≤ List.length m ∧
       ∀ (z : Unit), True → s = s ∧ w = w ∧ (0 : Nat) = (0 : Nat) ∧ List.length m = List.length m ∧ List.map (znf (a, b, c, d)) m = List.map (znf (a, b, c, d)) m ∧ a = a ∧ b = b ∧ c = c ∧ d = d) := by kernel_rfl
theorem zmq (s w : Int) (m : Es) (a : Bool) (b : Int) (c : Bool) (d : Int) (i : Nat) : zvs s w m a b c d i = (
 let A0 := List.length m;
 let A1 := (0 : Nat) + (↑i : Int).toNat;
 let A2 := List.getD m A1 (El.zero shE);
 let A3 := (↑i : Int);
 let A4 (a b c : Prop) := a ∧ b ∧ c;
 let A5 (a b c d e : Prop) := A4 a b (A4 c d e);
 let A6 := (0 : Int) = (0 : Int);
 let A7 := A2.snd;
 let A8 := (b, c, d);
 let A9 := Value.slice none (0 : Nat) (0 : Nat);
 let Aa := (0 : Nat) = (0 : Nat);
 let Ab (b : Nat) := List.take b (List.map (zih (a, A8)) m) ++ List.drop b m;
 let Ac (a b c d e f g h i : Prop) := A5 a b c d (A5 e f g h i);
 let Ad := (0 : Int) ≤ A3 ∧ A3 < (↑A0 : Int);
 let Ae (a : Bool) (b : Prop) := decide (A3 < (↑A0 : Int)) = a → b;
 let Af (e : Nat) (f : Prop) := ((↑e : Int) = IntKind.i64.wrap (A3 + (1 : Int)) ∧ Ac (m = m) (s = s) (w = w) Aa (A0 = A0) (a = a) (b = b) (c = c) (Ac (d = d) A6 A6 (A9 = A9) (s = s) (w = w) Aa (A0 = A0) f)) ∧ A4 (e ≤ A0 ∧ FlR m (a, A8)) (A0
  - e < A0 - i) (∀ (x1' : Unit), True → True);
 let Ah (e : Bool) (f : Prop) := (bif A2.fst then zcp (a, b, c, d) A7.fst A7.snd.fst A7.snd.snd.fst A7.snd.snd.snd.fst else false) = e → f;
 Ae true (A5 Ad (A1 < A0) (A2.fst = true → U64 b ∧ LvR A7.fst) (Ah true (A4 Ad (A1 < (Ab i).length) (∃ (x0' : Nat), Af x0' (Ab x0' = (Ab i).set A1 (false, (0 : Int), (0 : Int), (0 : Int), false, (0 : Int)))))) (Ah false (∃ (x2' : Nat), Af
  x2' (Ab x2' = Ab i)))) ∧ Ae false (∃ (x3' : Unit), Ac (m = m) A6 A6 (A9 = A9) (s = s) (w = w) Aa (A0 = A0) (List.map (zih (a, A8)) m = Ab i) ∧ True)) := by kernel_rfl
theorem zss (s w : Int) (m : Es) (a : Bool) (b : Int) (c : Bool) (d : Int) : yfy s w m a b c d = (
 let A0 := List.length m;
 let A1 := (b, c, d);
 let A2 (a b c d e : Prop) := a ∧ b ∧ c ∧ d ∧ e;
 let A3 := (zbt (s, w, m) (a, A1)).snd;
 let A4 := (0 : Nat) = (0 : Nat);
 let A5 := (0 : Int) = (0 : Int);
 let A6 := Value.slice none (0 : Nat) (0 : Nat);
 let A7 (a : Bool) := (!zax (s, w, m)) = a;
 let A8 (b c : Prop) := b → (zbt (s, w, m) (a, A1)).fst = s ∧ A2 (A3.fst = w) A4 (List.length A3.snd = A0) (m = m) c;
 let A9 := A0 = A0;
 (A9 ∧ SzR A0) ∧ (A9 ∧ TlR (s, w, m)) ∧ A8 (A7 true) (A3.snd = m) ∧ (A7 false → ∃ (x0' : Nat), ((↑x0' : Int) = (0 : Int) ∧ A2 (m = m) (s = s) (w = w) A4 (A2 A9 (a = a) (b = b) (c = c) (A2 (d = d) A5 A5 (A6 = A6) (A2 (s = s) (w = w) A4 A9
  (List.take x0' (List.map (zih (a, A1)) m) ++ List.drop x0' m = m))))) ∧ (x0' ≤ A0 ∧ FlR m (a, A1)) ∧ ∀ (x1' : Unit), A8 True (A3.snd = List.map (zih (a, A1)) m))) := by kernel_rfl
theorem zsa (s w : Int) (m : Es) (a : Bool) (b : Int) (c : Bool) (d : Int) : yfe s w m a b c d = (
 let A0 := List.length m;
 let A1 := zbt (s, w, m) (a, b, c, d);
 let A2 := (a, b, c, d);
 let A3 := bif zax (s, w, m) then zju (a, b, c, d) else false;
 let A4 (a : Prop) := A1.fst = s ∧ A1.snd.fst = w ∧ (0 : Nat) = (0 : Nat) ∧ List.length A1.snd.snd = A0 ∧ m = m ∧ a;
 (A0 = A0 ∧ SzR A0) ∧ (A0 = A0 ∧ TlR (s, w, m)) ∧ (zax (s, w, m) = true → U64 b) ∧ (A3 = true → (A0 = A0 ∧ FlR m A2) ∧ A4 (A1.snd.snd = List.map (znf A2) m)) ∧ (A3 = false → A4 (A1.snd.snd = m))) := by kernel_rfl
set_option linter.unusedSimpArgs false
theorem half {α : Type} (f : α → α) (m : List α) {i : Nat} (h : i < m.length) : ∃ a b : List α, ∃ x : α, (∀ d, m.getD i d = x) ∧ a.length = i ∧ (m.map f).take i ++ m.drop i = a ++ x :: b ∧ (m.map f).take (i + 1) ++ m.drop (i + 1) = a ++ f x :: b := by
 refine ⟨(m.map f).take i, m.drop (i + 1), m[i], fun d => by rw [List.getD_eq_getElem?_getD, List.getElem?_eq_getElem h]; rfl, by simp; omega, by rw [← List.drop_eq_getElem_cons h], ?_⟩
 have h' : i < (m.map f).length := by simpa using h
 rw [List.take_succ_eq_append_getElem h', List.append_assoc]
 simp
theorem zwx {α : Type} (f : α → α) (m : List α) : m.map f = (m.map f).take m.length ++ m.drop m.length := by
 rw [List.drop_length, List.append_nil, List.take_of_length_le (by simp)]
theorem yhj : Sound Tryz.prog 100 (zag [fnP] [bl] (fun f => some (U64 f.2.1)) zju) := by
 refine zae mixed Tryz.func100 (by kernel_rfl) (by kernel_rfl) zkm (fun t h => ?_)
 obtain ⟨a, b, c, d⟩ : Fc := t
 have h : U64 b := h
 refine zah (zu8 a b c d) ⟨fun _ => h, ?_⟩
 rw [Bool.cond_true_left]
 rfl
theorem zy1 : Sound Tryz.prog 165 (zag [fnP, i64, u64, u64, bl] [bl] (fun t => some (U64 t.1.2.1 ∧ LvR t.2.1)) (fun t => zcp t.1 t.2.1 t.2.2.1 t.2.2.2.1 t.2.2.2.2)) := by
 refine zae mixed Tryz.func165 (by kernel_rfl) (by kernel_rfl) zkm (fun t h => ?_)
 obtain ⟨⟨a, b, c, d⟩, l, t, s, g⟩ : Fc × Int × Int × Int × Bool := t
 obtain ⟨h1, h2⟩ : U64 b ∧ LvR l := h
 refine zah (zpu a b c d l t s g) ⟨fun _ => h1, fun _ => ⟨h1, h2⟩, fun q => ?_, fun q => ?_⟩
 · rw [Bool.cond_false_right, Bool.cond_true_left] at q
   unfold zcp
   simp only
   rw [q]
   rfl
 · rw [Bool.cond_false_right, Bool.cond_true_left] at q
   unfold zcp
   simp only
   rw [q, Bool.cond_true_left, Bool.cond_false_right]
   rfl
theorem yep {a : Bool} {b : Int} {c : Bool} {d l t s : Int} {g : Bool} : zee (a, b, c, d) l t s g = bif bif !a then true else t == zjr b l then bif !c then true else bif !g then s == d else false else false := by
 simp only [Bool.cond_true_left, Bool.cond_false_right]
 rfl
theorem yof : Sound Tryz.prog 187 yoe := by
 refine zek mixed Tryz.func187 (by kernel_rfl) (by kernel_rfl) zkm (fun args H p v H' h hp => ?_)
 unfold yoe at h
 split at h
 case h_2 => cases h
 rename_i l t s g a b c d o
 simp only [Option.some.injEq, Prod.mk.injEq] at h
 obtain ⟨rfl, rfl, rfl⟩ := h
 have hp : U64 b ∧ LvR l := hp
 cases o with
 | true => exact ⟨.none, zah (zv7 a b c d l t s g) ⟨fun _ => hp, yep, rfl, rfl, rfl, rfl⟩⟩
 | false => exact ⟨.none, zah (zv6 a b c d l t s g) ⟨fun _ => hp, yep, rfl, rfl, rfl, rfl⟩⟩
theorem ybi : Sound Tryz.prog 102 ztz := by
 refine zek mixed Tryz.func102 (by kernel_rfl) (by kernel_rfl) zkm (fun args H p v H' h hp => ?_)
 unfold ztz at h
 split at h
 case h_2 => cases h
 rename_i a b c d
 simp only [Option.some.injEq, Prod.mk.injEq] at h
 obtain ⟨rfl, rfl, rfl⟩ := h
 exact ⟨.none, zah (zr6 a b c d) ⟨rfl, rfl, rfl, rfl⟩⟩
theorem yk4 : zaz Tryz.prog kJ1 := .cons (by kernel_rfl) yhj <| .cons (by kernel_rfl) zy1 <| .cons (by kernel_rfl) yof <| .cons (by kernel_rfl) ybi .nil
theorem yki : DictOk Tryz.prog FJ1 := za1 (((yk4.append zna).append zh5).append zcb) .nil .nil
theorem yhe : Sound Tryz.prog 101 ybx := by
 refine zfq mixed Tryz.func101 (by kernel_rfl) (b := zaj Tryz.f101 0) (k := 1) (by kernel_rfl) (by kernel_rfl) (by kernel_rfl) yki (fun args H p v H' h hp => ?_)
 unfold ybx at h
 split at h
 case h_2 => cases h
 rename_i s w n sh m a b c d
 split at h
 case isFalse => cases h
 rename_i hsh
 subst hsh
 simp only [Option.some.injEq, Prod.mk.injEq] at h
 obtain ⟨rfl, rfl, rfl⟩ := h
 obtain ⟨rfl, hz, hb, hlv⟩ : n = m.length ∧ FlR m (a, b, c, d) := hp
 have hs : m.length ≤ 2097152 := hz
 refine ⟨.one 1 (flL s w m (a, b, c, d)), flL s w m (a, b, c, d), fun i : Nat => m.length - i, zby _ _, fun (i : Nat) hi => zah (zph s w m a b c d i) ?_, zah (zu7 s w m a b c d) ?_⟩
 all_goals (try conv => zeta)
 · have hi : i ≤ m.length := hi
   refine ⟨fun q => ?_, fun q => ?_⟩
   · have q : (i : Int) < m.length := of_decide_eq_true q
     have hlt : i < m.length := by omega
     obtain ⟨x, y, e, h1, h2, h3, h4⟩ := half (znf (a, b, c, d)) m hlt
     have hv := hlv i hlt
     rw [h1] at hv
     have hlen : i < (x ++ e :: y).length := by simp; omega
     rw [zd1 hz hlt, show 0 + (i : Int).toNat = i by omega, h3, ynh _ _ _ _ h2, ydd _ _ _ _ h2]
     refine ⟨⟨by omega, by omega⟩, hlen, fun z => ⟨hb, hv z⟩, fun z => ⟨⟨by omega, by omega⟩, hlen, i + 1, ⟨rfl, rfl, rfl, rfl, rfl, rfl, rfl, rfl, ?_, rfl, rfl, rfl, rfl⟩, by omega, by omega, fun _ _ => trivial⟩, fun z => ⟨i + 1, ⟨rfl, rfl, rfl, rfl, rfl, rfl, rfl, rfl, ?_, rfl, rfl, rfl, rfl⟩, by omega, by omega, fun _ _ => trivial⟩⟩
     · rw [Bool.cond_false_right] at z
       rw [h4]
       unfold znf
       rw [if_pos z]
       rfl
     · rw [Bool.cond_false_right] at z
       rw [h4]
       unfold znf
       rw [if_neg (by rw [z]; decide)]
   · have q : ¬ (i : Int) < m.length := of_decide_eq_false q
     have : i = m.length := by omega
     subst this
     exact ⟨(), ⟨rfl, rfl, rfl, rfl, zwx _ m, rfl, rfl, rfl, rfl⟩, trivial⟩
 · exact ⟨0, ⟨rfl, rfl, rfl, rfl, rfl, rfl, rfl, rfl, rfl, rfl, rfl, rfl, rfl⟩, by omega, fun _ _ => ⟨rfl, rfl, rfl, rfl, rfl, rfl, rfl, rfl, rfl⟩⟩
theorem yei {f : Fc} (h : zju f = true) (e : En) : zih f e = znf f e := by
 obtain ⟨a, b, c, d⟩ := f
 have : zcp (a, b, c, d) e.2.1 e.2.2.1 e.2.2.2.1 e.2.2.2.2.1 = zee (a, b, c, d) e.2.1 e.2.2.1 e.2.2.2.1 e.2.2.2.2.1 := by
  unfold zju at h
  unfold zcp zee
  simp only at h ⊢
  cases a with
  | false => rfl
  | true =>
   have h : ze5 b = true := by simpa using h
   rw [h]
   simp [bne]
 unfold zih znf
 rw [this]
theorem yiz {f : Fc} (h : zju f = false) (e : En) : zih f e = e := by
 obtain ⟨a, b, c, d⟩ := f
 have : zcp (a, b, c, d) e.2.1 e.2.2.1 e.2.2.2.1 e.2.2.2.2.1 = false := by
  unfold zju at h
  unfold zcp
  simp only [Bool.or_eq_false_iff, Bool.not_eq_false'] at h
  simp only at h ⊢
  rw [h.1, h.2]
  rfl
 unfold zih
 rw [this, if_neg (by simp)]
theorem zt9 {t : Tl} {f : Fc} (h : zax t = true) : (zbt t f).2.2 = t.2.2.map (zih f) := by
 unfold zbt
 simp only
 cases g : zju f with
 | true =>
  rw [h, if_pos (by rfl)]
  exact List.map_congr_left (fun e _ => (yei g e).symm)
 | false =>
  rw [h, if_neg (by simp)]
  rw [List.map_congr_left (fun e _ => yiz g e)]
  simp
theorem zoi (t : Tl) (f : Fc) : (zbt t f).2.2.length = t.2.2.length := by
 unfold zbt
 simp only
 split <;> simp
theorem yqj {s w : Int} {m : Es} {f : Fc} (ht : TlR (s, w, m)) (hb : U64 f.2.1) (he : zax (s, w, m) = true) : FlR m f := ⟨ht.2.2.1, hb, fun _ hi hv => zkz (t := (s, w, m)) he hi hv⟩
theorem yd5 : Sound Tryz.prog 236 (zag [tlP, fnP] [tlP] (fun t => some (TlR t.1 ∧ U64 t.2.2.1)) (fun t => zbt t.1 t.2)) := by
 refine zcm mixed Tryz.func236 (by kernel_rfl) (b := zaj Tryz.f236 0) (k := 5) (by kernel_rfl) (by kernel_rfl) (by kernel_rfl) yki (fun t h => ?_)
 obtain ⟨⟨s, w, m⟩, a, b, c, d⟩ : Tl × Fc := t
 obtain ⟨ht, hb⟩ : TlR (s, w, m) ∧ U64 b := h
 have hz : SzR m.length := ht.2.2.1
 have hs : m.length ≤ 2097152 := hz
 refine ⟨.one 5 (yrt s w m (a, b, c, d)), yrt s w m (a, b, c, d), fun i : Nat => m.length - i, zby _ _, fun (i : Nat) hi => zah (zmq s w m a b c d i) ?_, zah (zss s w m a b c d) ?_⟩
 all_goals (try conv => zeta)
 · obtain ⟨hi, hF⟩ : i ≤ m.length ∧ FlR m (a, b, c, d) := hi
   refine ⟨fun q => ?_, fun q => ?_⟩
   · have q : (i : Int) < m.length := of_decide_eq_true q
     have hlt : i < m.length := by omega
     obtain ⟨x, y, e, h1, h2, h3, h4⟩ := half (zih (a, b, c, d)) m hlt
     have hv := hF.2.2 i hlt
     rw [h1] at hv
     have hlen : i < (x ++ e :: y).length := by simp; omega
     rw [zd1 hz hlt, show 0 + (i : Int).toNat = i by omega, h3, h1, ydd _ _ _ _ h2]
     refine ⟨⟨by omega, by omega⟩, hlt, fun z => ⟨hb, hv z⟩, fun z => ⟨⟨by omega, by omega⟩, hlen, i + 1, ⟨rfl, rfl, rfl, rfl, rfl, rfl, rfl, rfl, rfl, rfl, rfl, rfl, rfl, rfl, rfl, rfl, rfl, ?_⟩, ⟨by omega, hF⟩, by omega, fun _ _ => trivial⟩, fun z => ⟨i + 1, ⟨rfl, rfl, rfl, rfl, rfl, rfl, rfl, rfl, rfl, rfl, rfl, rfl, rfl, rfl, rfl, rfl, rfl, ?_⟩, ⟨by omega, hF⟩, by omega, fun _ _ => trivial⟩⟩
     · rw [Bool.cond_false_right] at z
       rw [h4]
       unfold zih
       rw [if_pos z]
       rfl
     · rw [Bool.cond_false_right] at z
       rw [h4]
       unfold zih
       rw [if_neg (by rw [z]; decide)]
   · have q : ¬ (i : Int) < m.length := of_decide_eq_false q
     have : i = m.length := by omega
     subst this
     exact ⟨(), ⟨rfl, rfl, rfl, rfl, rfl, rfl, rfl, rfl, zwx _ m⟩, trivial⟩
 · refine ⟨⟨rfl, hz⟩, ⟨rfl, ht⟩, fun q => ?_, fun q => ?_⟩
   · have he : zax (s, w, m) = false := by simpa using q
     have e : zbt (s, w, m) (a, b, c, d) = (s, w, m) := by simp [zbt, he]
     rw [e]
     exact ⟨rfl, rfl, rfl, rfl, rfl, rfl⟩
   · have he : zax (s, w, m) = true := by simpa using q
     refine ⟨0, ⟨rfl, rfl, rfl, rfl, rfl, rfl, rfl, rfl, rfl, rfl, rfl, rfl, rfl, rfl, rfl, rfl, rfl, rfl⟩, ⟨by omega, yqj ht hb he⟩, fun _ _ => ⟨rfl, rfl, rfl, zoi _ _, rfl, zt9 he⟩⟩
theorem yci : zaz Tryz.prog kJ2 := .cons (by kernel_rfl) yhe <| .cons (by kernel_rfl) yd5 yk4
theorem ypq : DictOk Tryz.prog FJ2 := za1 (((yci.append zna).append zh5).append zcb) .nil .nil
theorem yb6 : Sound Tryz.prog 29 (zag [tlP, fnP] [tlP] (fun t => some (TlR t.1 ∧ U64 t.2.2.1)) (fun t => zbt t.1 t.2)) := by
 refine zae mixed Tryz.func29 (by kernel_rfl) (by kernel_rfl) ypq (fun t h => ?_)
 obtain ⟨⟨s, w, m⟩, a, b, c, d⟩ : Tl × Fc := t
 obtain ⟨ht, hb⟩ : TlR (s, w, m) ∧ U64 b := h
 refine zah (zsa s w m a b c d) ?_
 conv => zeta
 refine ⟨⟨rfl, ht.2.2.1⟩, ⟨rfl, ht⟩, fun _ => hb, fun q => ?_, fun q => ?_⟩
 · rw [Bool.cond_false_right] at q
   have e : zbt (s, w, m) (a, b, c, d) = (s, w, m.map (znf (a, b, c, d))) := by unfold zbt; simp only; rw [if_pos q]
   have he : zax (s, w, m) = true := by rw [Bool.and_eq_true] at q; exact q.1
   rw [e]
   exact ⟨⟨rfl, yqj ht hb he⟩, rfl, rfl, rfl, by simp, rfl, rfl⟩
 · rw [Bool.cond_false_right] at q
   have e : zbt (s, w, m) (a, b, c, d) = (s, w, m) := by unfold zbt; simp only; rw [if_neg (by rw [q]; decide)]
   rw [e]
   exact ⟨rfl, rfl, rfl, rfl, rfl, rfl⟩
theorem yq1 : zaz Tryz.prog kJ3 := .cons (by kernel_rfl) yb6 yci
end Go.Proofs.YtfiddfbagbaofaaGreat.V
