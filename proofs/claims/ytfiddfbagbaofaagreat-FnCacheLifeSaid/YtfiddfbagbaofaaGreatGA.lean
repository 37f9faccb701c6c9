/- The small functions on bits answer as their models. Conditions: those in each statement. -/
import Derived.Test.YtfiddfbagbaofaaGreatProg
import Derived.Test.YtfiddfbagbaofaaGreatV3
import Derived.KernelRfl
namespace Go.Proofs.YtfiddfbagbaofaaGreat.V
open Go
abbrev u64 : Pm := .one (.i .u64)
abbrev i64 : Pm := .one (.i .i64)
abbrev bl : Pm := .one .b
abbrev ze6 : Pm := .st [.i .i64, .b, .b, .i .u64]
def U64 (x : Int) : Prop := 0 ≤ x ∧ x < 18446744073709551616
def I64 (x : Int) : Prop := -9223372036854775808 ≤ x ∧ x < 9223372036854775808
def LvR (l : Int) : Prop := 0 ≤ l ∧ l ≤ 2
abbrev Known := List (FuncId × Sum)
def pw (n : Int) : Int := if n ≤ 0 then 1 else 2 ^ n.toNat % 18446744073709551616
def zdz (x i j : Int) : Int := x / 2 ^ i.toNat % 2 ^ (j - i + 1).toNat
def zhf (t : Int × Int × Int) : Prop := U64 t.1 ∧ 0 ≤ t.2.1 ∧ t.2.1 ≤ t.2.2 ∧ t.2.2 ≤ 63 ∧ (0 < t.2.1 ∨ t.2.2 < 63)
def zaw (x i : Int) : Bool := x / 2 ^ i.toNat % 2 == 1
def zhw (t : Int × Int) : Prop := U64 t.1 ∧ 0 ≤ t.2 ∧ t.2 ≤ 62
def zda (p : Int) : Int := p / 1024 % 17592186044416
def ze5 (va : Int) : Bool := va / 16384 == 0 || va / 16384 == 1125899906842623
def lvM (l : Int) : Bool := decide (0 ≤ l) && decide (l ≤ 2)
def zbg (p l : Int) : Int :=
 if (!lvM l || !zaw p 0 || p / 18014398509481984 != 0 || (zaw p 2 && !zaw p 1)) = true then 0
 else if (!zaw p 1 && !zaw p 3) = true then (if (l == 0 || zaw p 4 || zaw p 6 || zaw p 7) = true then 0 else 1)
 else if zda p % 2 ^ (3 * l).toNat = 0 then 2 else 0
def mayM (p kind : Int) (mxr : Bool) : Bool := if kind = 0 then zaw p 3 else if kind = 1 then (zaw p 1 || (zaw p 3 && mxr)) else if kind = 2 then (zaw p 2 && zaw p 7) else false
def whoM (p kind mode : Int) (sum : Bool) : Bool := if mode = 0 then zaw p 4 else if mode = 1 then (!zaw p 4 || (kind != 0 && sum)) else false
def zb5 (p kind mode : Int) (sum mxr : Bool) : Bool := mayM p kind mxr && whoM p kind mode sum && zaw p 6
def zeg (p l va : Int) : Int := if lvM l = true then zda p * 64 / 2 ^ (6 + 3 * l).toNat * 2 ^ (6 + 3 * l).toNat + va % 2 ^ (6 + 3 * l).toNat else 0
def zjr (va l : Int) : Int := va % 32768 / 2 ^ (6 + 3 * l).toNat
def onM (c : Int × Bool × Bool × Int) : Bool := c.2.2.2 / 1152921504606846976 == 8 && (c.1 == 0 || c.1 == 1)
def zbv (satp : Int) : Int := satp / 17592186044416 % 65536
def ybb (c : Int × Bool × Bool × Int) (kind : Int) : Bool := decide (0 ≤ kind) && decide (kind ≤ 2) && decide (0 ≤ c.1) && decide (c.1 ≤ 2)
def zfi (va l : Int) : Int := va / 2 ^ (6 + 3 * l).toNat % 8
def pfM (kind : Int) : Int := if kind = 0 then 12 else if kind = 1 then 13 else 15
def afM (kind : Int) : Int := if kind = 0 then 1 else if kind = 1 then 5 else 7
def yim (x : Int) : Int := x % 17592186044416
def powS (k : Nat) : Sum := zag [i64] [u64] (fun n => some (n ≤ 64 ∧ n.toNat < k)) pw
def ysa (k : Nat) (n : Int) : Prop := zan Tryz.prog (mkD [(88, powS k)] [] []) .none Tryz.f88 [i64] [u64] n (pw n)
def F0 : Dict := mkD [] [] []
def yos (x i : Int) : Prop := zan Tryz.prog F0 .none Tryz.f174 [u64, i64] [bl] (x, i) (zaw x i)
def yox (x : Int) : Prop := zan Tryz.prog F0 .none Tryz.f196 [u64] [u64] x (zda x)
def zr9 (x : Int) : Prop := zan Tryz.prog F0 .none Tryz.f217 [i64] [bl] x (lvM x)
def yff (x : Int) : Prop := zan Tryz.prog F0 .none Tryz.f136 [u64] [bl] x (ze5 x)
def yse (x l : Int) : Prop := zan Tryz.prog F0 .none Tryz.f170 [u64, i64] [u64] (x, l) (zjr x l)
def vc_pf (k : Int) : Prop := zan Tryz.prog F0 .none Tryz.f121 [i64] [i64] k (pfM k)
def vc_af (k : Int) : Prop := zan Tryz.prog F0 .none Tryz.f194 [i64] [i64] k (afM k)
def kA1 : Known := [
 (88, zag [i64] [u64] (fun n => some (n ≤ 64)) pw),
 (174, zag [u64, i64] [bl] (fun t => some (zhw t)) (fun t => zaw t.1 t.2)),
 (196, zag [u64] [u64] (fun x => some (U64 x)) zda),
 (217, zag [i64] [bl] (fun _ => none) lvM),
 (136, zag [u64] [bl] (fun x => some (U64 x)) ze5),
 (170, zag [u64, i64] [u64] (fun t => some (U64 t.1 ∧ LvR t.2)) (fun t => zjr t.1 t.2)),
 (121, zag [i64] [i64] (fun _ => none) pfM),
 (194, zag [i64] [i64] (fun _ => none) afM)]
def F1 : Dict := mkD kA1 [] []
def yop (x i j : Int) : Prop := zan Tryz.prog F1 .none Tryz.f99 [u64, i64, i64] [u64] (x, i, j) (zdz x i j)
def yq4 (p l : Int) : Specs := { Specs.none with cond := fun i => if i = 2 then some { β := Bool, sl := fun z => slots 54 [(0, .v (.int .u64 p)), (1, .v (.int .i64 l)), (5, .v (.bool z))], H := fun _ => [] } else none }
def yot (p l : Int) : Prop := zan Tryz.prog F1 (yq4 p l) Tryz.f173 [u64, i64] [i64] (p, l) (zbg p l)
def kA2 : Known := [
 (99, zag [u64, i64, i64] [u64] (fun t => some (zhf t)) (fun t => zdz t.1 t.2.1 t.2.2)),
 (173, zag [u64, i64] [i64] (fun t => some (U64 t.1)) (fun t => zbg t.1 t.2)),
 ] ++ kA1
def F2 : Dict := mkD kA2 [] []
def yr5 (x i : Int) : Prop := zan Tryz.prog F2 .none Tryz.f134 [u64, i64] [bl] (x, i) (zaw x i)
def ysb (x : Int) : Prop := zan Tryz.prog F2 .none Tryz.f126 [u64] [u64] x (zda x)
def yf0 (x : Int) : Prop := zan Tryz.prog F2 .none Tryz.f28 [u64] [bl] x (ze5 x)
def yji (x l : Int) : Prop := zan Tryz.prog F2 .none Tryz.f191 [u64, i64] [u64] (x, l) (zfi x l)
def ysd (m : Int) (s x : Bool) (t : Int) : Prop := zan Tryz.prog F2 .none Tryz.f112 [ze6] [bl] (m, s, x, t) (onM (m, s, x, t))
def yjy (t : Int) : Prop := zan Tryz.prog F2 .none Tryz.f122 [u64] [u64] t (zbv t)
def yo2 (x l : Int) : Prop := zan Tryz.prog F2 .none Tryz.f164 [u64, i64] [u64] (x, l) (zjr x l)
def kA3 : Known := [
 (134, zag [u64, i64] [bl] (fun t => some (zhw t)) (fun t => zaw t.1 t.2)),
 (126, zag [u64] [u64] (fun x => some (U64 x)) zda),
 (28, zag [u64] [bl] (fun x => some (U64 x)) ze5),
 (191, zag [u64, i64] [u64] (fun t => some (U64 t.1 ∧ LvR t.2)) (fun t => zfi t.1 t.2)),
 (112, zag [ze6] [bl] (fun c => some (U64 c.2.2.2)) onM),
 (122, zag [u64] [u64] (fun x => some (U64 x)) zbv),
 (164, zag [u64, i64] [u64] (fun t => some (U64 t.1 ∧ LvR t.2)) (fun t => zjr t.1 t.2))] ++ kA2
def F3 : Dict := mkD kA3 [] []
def yj0 (p l : Int) : Prop := zan Tryz.prog F3 .joins Tryz.f127 [u64, i64] [i64] (p, l) (zbg p l)
def yee (p k m : Int) (s x : Bool) (i : Nat) : Option CutS :=
 if i = 9 ∨ i = 11 ∨ i = 13 then some (CutS.mk Bool (fun z => slots 70 [(0, .v (.int .u64 p)), (1, .v (.int .i64 k)), (2, .v (.int .i64 m)), (3, .v (.bool s)), (4, .v (.bool x)), (11, .v (.bool (zaw p 1))), (12, .v (.bool (zaw p 2))), (13, .v (.bool (zaw p 3))), (14, .v (.bool (zaw p 4))), (15, .v (.bool (zaw p 6))), (16, .v (.bool (zaw p 7))), (17, .v (.bool z))]) (fun _ => []))
 else if i = 16 ∨ i = 18 then some (CutS.mk (Bool × Bool) (fun z => slots 70 [(1, .v (.int .i64 k)), (2, .v (.int .i64 m)), (3, .v (.bool s)), (14, .v (.bool (zaw p 4))), (15, .v (.bool (zaw p 6))), (17, .v (.bool z.1)), (18, .v (.bool z.2))]) (fun _ => []))
 else none
def zru (p k m : Int) (s x : Bool) : Specs := { Specs.none with cond := yee p k m s x }
def zvx (p k m : Int) (s x : Bool) : Prop := zan Tryz.prog F3 (zru p k m s x) Tryz.f43 [u64, i64, i64, bl, bl] [bl] (p, k, m, s, x) (zb5 p k m s x)
def yj4 (p l va : Int) : Prop := zan Tryz.prog F3 .none Tryz.f44 [u64, i64, u64] [u64] (p, l, va) (zeg p l va)
def kA4 : Known := [
 (127, zag [u64, i64] [i64] (fun t => some (U64 t.1)) (fun t => zbg t.1 t.2)),
 (43, zag [u64, i64, i64, bl, bl] [bl] (fun t => some (U64 t.1)) (fun t => zb5 t.1 t.2.1 t.2.2.1 t.2.2.2.1 t.2.2.2.2)),
 (44, zag [u64, i64, u64] [u64] (fun t => some (U64 t.1 ∧ U64 t.2.2)) (fun t => zeg t.1 t.2.1 t.2.2))] ++ kA3
set_option linter.unusedVariables false
theorem yfv (k : Nat) (n : Int) : ysa k n = (
 (decide (n ≤ (0 : Int)) = true → pw n = (1 : Int)) ∧
   (decide (n ≤ (0 : Int)) = false →
     (IntKind.i64.wrap (n - (1 : Int)) ≤ (64 : PmT [i64]) ∧ (IntKind.i64.wrap (n - (1 : Int))).toNat < k) ∧ pw n = IntKind.u64.wrap ((2 : Int) * pw (IntKind.i64.wrap (n - (1 : Int)))))) := by kernel_rfl
theorem zzf (x i : Int) : yos x i = (
 (0 : Int) ≤ i ∧ zaw x i = (bits BinOp.and IntKind.u64 (x / (2 : Int) ^ min i.toNat (64 : Nat)) (1 : Int) == (1 : Int))) := by kernel_rfl
theorem zzs (x : Int) : yox x = (
 (0 : Int) ≤ (10 : Int) ∧ zda x = bits BinOp.and IntKind.u64 (x / (2 : Int) ^ min (Int.toNat (10 : Int)) (64 : Nat)) (17592186044415 : Int)) := by kernel_rfl
theorem zl7 (x : Int) : zr9 x = (
 lvM x = bif decide (x ≥ (0 : Int)) then decide (x ≤ (2 : Int)) else false) := by kernel_rfl
theorem zsb (x : Int) : yff x = (
 (0 : Int) ≤ (14 : Int) ∧
   ((!x / (2 : Int) ^ min (Int.toNat (14 : Int)) (64 : Nat) == (0 : Int)) = true → (0 : Int) ≤ (14 : Int)) ∧
     ze5 x = bif x / (2 : Int) ^ min (Int.toNat (14 : Int)) (64 : Nat) == (0 : Int) then true else x / (2 : Int) ^ min (Int.toNat (14 : Int)) (64 : Nat) == (1125899906842623 : Int)) := by kernel_rfl
theorem yf6 (x l : Int) : yse x l = (
 (0 : Int) ≤ IntKind.i64.wrap ((6 : Int) + IntKind.i64.wrap ((3 : Int) * l)) ∧
   zjr x l = bits BinOp.and IntKind.u64 x (32767 : Int) / (2 : Int) ^ min (IntKind.i64.wrap ((6 : Int) + IntKind.i64.wrap ((3 : Int) * l))).toNat (64 : Nat)) := by kernel_rfl
theorem yjt (k : Int) : vc_pf k = (
 ((k == (0 : Int)) = true → pfM k = (12 : Int)) ∧ ((k == (0 : Int)) = false → ((k == (1 : Int)) = true → pfM k = (13 : Int)) ∧ ((k == (1 : Int)) = false → pfM k = (15 : Int)))) := by kernel_rfl
theorem yi9 (k : Int) : vc_af k = (
 ((k == (0 : Int)) = true → afM k = (1 : Int)) ∧ ((k == (0 : Int)) = false → ((k == (1 : Int)) = true → afM k = (5 : Int)) ∧ ((k == (1 : Int)) = false → afM k = (7 : Int)))) := by kernel_rfl
theorem zy8 (x i j : Int) : yop x i j = (
 i ≤ (64 : PmT [i64]) ∧
   pw i ≠ (0 : Int) ∧
     IntKind.i64.wrap (IntKind.i64.wrap (j - i) + (1 : Int)) ≤ (64 : PmT [i64]) ∧
       pw (IntKind.i64.wrap (IntKind.i64.wrap (j - i) + (1 : Int))) ≠ (0 : Int) ∧ zdz x i j = (IntKind.u64.wrap (x.tdiv (pw i))).tmod (pw (IntKind.i64.wrap (IntKind.i64.wrap (j - i) + (1 : Int))))) := by kernel_rfl
theorem zzg (p l : Int) : yot p l = (
 let A0 (a : Int) := zhw (p, a);
 let A1 (a : Bool) (b : Int) := bif a then true else zaw p b;
 let A2 (a b : Bool) := bif a then b else false;
 let A3 (a : Bool) (b c : Prop) := (a = true → b) ∧ c;
 let A4 (a : Int) := (2 : Int) ^ (min a.toNat (64 : Nat));
 let A5 := A1 (l == (0 : Int)) (4 : Int);
 let A6 (a : Bool) (b : Int) (c : Prop) := A3 a (A0 b) c;
 let A7 (a : Bool) (b c d : Prop) := A3 a b (a = false → c ∧ d);
 let A8 (a b : Bool) (c : Bool → Prop) := (p = p ∧ l = l ∧ a = b) ∧ c a;
 let A9 (a b : Bool) (c : Bool → Prop) := (p = p ∧ l = l ∧ a = (!b)) ∧ c a;
 let Aa (a : Bool) (b : Int) := A3 a (zbg p l = (0 : Int)) (a = false → zbg p l = b);
 let Ab := !zaw p (1 : Int);
 let Ac := zaw p (2 : Int);
 let Ad := p / A4 (54 : Int) != (0 : Int);
 ∃ (x0' : Bool → Prop), A7 (!lvM l) (∃ (x1' : Bool), A9 x1' (lvM l) x0') (A0 (0 : Int)) (A7 (!zaw p (0 : Int)) (∃ (x2' : Bool), A9 x2' (zaw p (0 : Int)) x0') ((0 : Int) ≤ (54 : Int)) (A7 Ad (∃ (x3' : Bool), A8 x3' Ad x0') (A0 (2 : Int))
  (A3 Ac (A0 (1 : Int)) (∃ (x4' : Bool), A8 x4' (A2 Ac Ab) x0')))) ∧ ∀ (x5' : Bool), x0' x5' → A7 x5' (zbg p l = (0 : Int)) (A0 (1 : Int)) (A6 Ab (3 : Int) (A7 (A2 (!zaw p (1 : Int)) (!zaw p (3 : Int))) (A6 (!l == (0 : Int)) (4 : Int) (A6
  (!A5) (6 : Int) (A6 (!A1 A5 (6 : Int)) (7 : Int) (Aa (A1 (A1 A5 (6 : Int)) (7 : Int)) (1 : Int))))) (U64 p) ((0 : Int) ≤ IntKind.i64.wrap ((3 : Int) * l) ∧ Aa (bits BinOp.and IntKind.u64 (zda p) (IntKind.u64.wrap (IntKind.u64.wrap ((1 :
  Int) * A4 (IntKind.i64.wrap ((3 : Int) * l))) - (1 : Int))) != (0 : Int)) (2 : Int))))) := by kernel_rfl
theorem ye2 (x i : Int) : yr5 x i = (
 zhf (x, i, i) ∧ zaw x i = (zdz x i i == (1 : Int))) := by kernel_rfl
theorem yfw (x : Int) : ysb x = (
 zhf (x, (10 : Int), (53 : Int)) ∧ zda x = zdz x (10 : Int) (53 : Int)) := by kernel_rfl
theorem zsv (x : Int) : yf0 x = (
 zhf (x, (14 : Int), (63 : Int)) ∧
   ((!zdz x (14 : Int) (63 : Int) == (0 : Int)) = true → (50 : Int) ≤ (64 : PmT [i64])) ∧
     ze5 x = bif zdz x (14 : Int) (63 : Int) == (0 : Int) then true else zdz x (14 : Int) (63 : Int) == IntKind.u64.wrap (pw (50 : Int) - (1 : Int))) := by kernel_rfl
theorem zvd (x l : Int) : yji x l = (
 zhf (x, IntKind.i64.wrap ((6 : Int) + IntKind.i64.wrap ((3 : Int) * l)), IntKind.i64.wrap ((8 : Int) + IntKind.i64.wrap ((3 : Int) * l))) ∧
   zfi x l = zdz x (IntKind.i64.wrap ((6 : Int) + IntKind.i64.wrap ((3 : Int) * l))) (IntKind.i64.wrap ((8 : Int) + IntKind.i64.wrap ((3 : Int) * l)))) := by kernel_rfl
theorem yf3 (m : Int) (s x : Bool) (t : Int) : ysd m s x t = (
 zhf (t, (60 : Int), (63 : Int)) ∧ onM (m, s, x, t) = bif zdz t (60 : Int) (63 : Int) == (8 : Int) then bif m == (0 : Int) then true else m == (1 : Int) else false) := by kernel_rfl
theorem zvv (t : Int) : yjy t = (
 zhf (t, (44 : Int), (59 : Int)) ∧ zbv t = zdz t (44 : Int) (59 : Int)) := by kernel_rfl
theorem zz5 (x l : Int) : yo2 x l = (
 zhf (x, IntKind.i64.wrap ((6 : Int) + IntKind.i64.wrap ((3 : Int) * l)), (14 : Int)) ∧ zjr x l = zdz x (IntKind.i64.wrap ((6 : Int) + IntKind.i64.wrap ((3 : Int) * l))) (14 : Int)) := by kernel_rfl
theorem zvy (p l : Int) : yj0 p l = (
 let A0 (a b : Bool) := bif a then true else b;
 let A1 (a b : Bool) := bif a then b else false;
 let A2 (a : Int) := zaw p a;
 let A3 (a : Bool) (b : Int) := A0 a (A2 b);
 let A4 := IntKind.i64.wrap ((3 : Int) * l);
 let A5 := A0 (decide (l < (0 : Int))) (decide (l > (2 : Int)));
 let A6 (a : Bool) (b c : Prop) := (a = true → b) ∧ c;
 let A7 (a b : Int) (c : Prop) := zhw (p, a) ∧ zhw (p, b) ∧ c;
 let A8 (a : Bool) (b : Int) := A6 a (zbg p l = (0 : Int)) (a = false → zbg p l = b);
 let A9 := A1 (A1 (!A2 (1 : Int)) (!A2 (2 : Int))) (!A2 (3 : Int));
 let Aa := A0 (A0 (A0 A5 (!A2 (0 : Int))) (decide ((zdz p (54 : Int) (63 : Int)) > (0 : Int)))) (A1 (A2 (2 : Int)) (!A2 (1 : Int)));
 A7 (1 : Int) (2 : Int) (A7 (3 : Int) (4 : Int) (A7 (6 : Int) (7 : Int) (A6 (!A5) (zhw (p, (0 : Int))) (A6 (!A0 A5 (!A2 (0 : Int))) (zhf (p, (54 : Int), (63 : Int))) (A6 Aa (zbg p l = (0 : Int)) (Aa = false → A6 A9 (A8 (A3 (A3 (A3 (l ==
  (0 : Int)) (4 : Int)) (6 : Int)) (7 : Int)) (1 : Int)) (A9 = false → U64 p ∧ A4 ≤ (64 : PmT [i64]) ∧ pw A4 ≠ (0 : Int) ∧ A8 (decide (((zda p).tmod (pw A4)) > (0 : Int))) (2 : Int))))))))) := by kernel_rfl
theorem zmr (p k m : Int) (s x : Bool) : zvx p k m s x = (
 zhw (p, (1 : Int)) ∧
   zhw (p, (2 : Int)) ∧
     zhw (p, (3 : Int)) ∧
       zhw (p, (4 : Int)) ∧
         zhw (p, (6 : Int)) ∧
           zhw (p, (7 : Int)) ∧
             ∃ (J : Bool → Prop),
               (((k == (0 : Int)) = true →
                     ∃ (z : Bool),
                       (p = p ∧
                           k = k ∧
                             m = m ∧
                               s = s ∧
                                 x = x ∧
                                   zaw p (1 : Int) = zaw p (1 : Int) ∧
                                     zaw p (2 : Int) = zaw p (2 : Int) ∧
                                       zaw p (3 : Int) = zaw p (3 : Int) ∧
                                         zaw p (4 : Int) = zaw p (4 : Int) ∧ zaw p (6 : Int) = zaw p (6 : Int) ∧ zaw p (7 : Int) = zaw p (7 : Int) ∧ z = zaw p (3 : Int)) ∧
                         J z) ∧
                   ((k == (0 : Int)) = false →
                     ∃ (z : Bool),
                       (p = p ∧
                           k = k ∧
                             m = m ∧
                               s = s ∧
                                 x = x ∧
                                   zaw p (1 : Int) = zaw p (1 : Int) ∧
                                     zaw p (2 : Int) = zaw p (2 : Int) ∧
                                       zaw p (3 : Int) = zaw p (3 : Int) ∧
                                         zaw p (4 : Int) = zaw p (4 : Int) ∧ zaw p (6 : Int) = zaw p (6 : Int) ∧ zaw p (7 : Int) = zaw p (7 : Int) ∧ z = false) ∧
                         J z)) ∧
                 ∀ (z : Bool),
                   J z →
                     ∃ (J : Bool → Prop),
                       (((k == (1 : Int)) = true →
                             ∃ (z : Bool),
                               (p = p ∧
                                   k = k ∧
                                     m = m ∧
                                       s = s ∧
                                         x = x ∧
                                           zaw p (1 : Int) = zaw p (1 : Int) ∧
                                             zaw p (2 : Int) = zaw p (2 : Int) ∧
                                               zaw p (3 : Int) = zaw p (3 : Int) ∧
                                                 zaw p (4 : Int) = zaw p (4 : Int) ∧
                                                   zaw p (6 : Int) = zaw p (6 : Int) ∧
                                                     zaw p (7 : Int) = zaw p (7 : Int) ∧ z = bif zaw p (1 : Int) then true else bif x then zaw p (3 : Int) else false) ∧
                                 J z) ∧
                           ((k == (1 : Int)) = false →
                             ∃ (z_1 : Bool),
                               (p = p ∧
                                   k = k ∧
                                     m = m ∧
                                       s = s ∧
                                         x = x ∧
                                           zaw p (1 : Int) = zaw p (1 : Int) ∧
                                             zaw p (2 : Int) = zaw p (2 : Int) ∧
                                               zaw p (3 : Int) = zaw p (3 : Int) ∧
                                                 zaw p (4 : Int) = zaw p (4 : Int) ∧ zaw p (6 : Int) = zaw p (6 : Int) ∧ zaw p (7 : Int) = zaw p (7 : Int) ∧ z_1 = z) ∧
                                 J z_1)) ∧
                         ∀ (z : Bool),
                           J z →
                             ∃ (J : Bool → Prop),
                               (((k == (2 : Int)) = true →
                                     ∃ (z : Bool),
                                       (p = p ∧
                                           k = k ∧
                                             m = m ∧
                                               s = s ∧
                                                 x = x ∧
                                                   zaw p (1 : Int) = zaw p (1 : Int) ∧
                                                     zaw p (2 : Int) = zaw p (2 : Int) ∧
                                                       zaw p (3 : Int) = zaw p (3 : Int) ∧
                                                         zaw p (4 : Int) = zaw p (4 : Int) ∧
                                                           zaw p (6 : Int) = zaw p (6 : Int) ∧ zaw p (7 : Int) = zaw p (7 : Int) ∧ z = bif zaw p (2 : Int) then zaw p (7 : Int) else false) ∧
                                         J z) ∧
                                   ((k == (2 : Int)) = false →
                                     ∃ (z_1 : Bool),
                                       (p = p ∧
                                           k = k ∧
                                             m = m ∧
                                               s = s ∧
                                                 x = x ∧
                                                   zaw p (1 : Int) = zaw p (1 : Int) ∧
                                                     zaw p (2 : Int) = zaw p (2 : Int) ∧
                                                       zaw p (3 : Int) = zaw p (3 : Int) ∧
                                                         zaw p (4 : Int) = zaw p (4 : Int) ∧ zaw p (6 : Int) = zaw p (6 : Int) ∧ zaw p (7 : Int) = zaw p (7 : Int) ∧ z_1 = z) ∧
                                         J z_1)) ∧
                                 ∀ (z : Bool),
                                   J z →
                                     ∃ (J : Bool × Bool → Prop),
                                       (((m == (0 : Int)) = true →
                                             ∃ (z_1 : Bool × Bool),
                                               (k = k ∧ m = m ∧ s = s ∧ zaw p (4 : Int) = zaw p (4 : Int) ∧ zaw p (6 : Int) = zaw p (6 : Int) ∧ z_1.fst = z ∧ z_1.snd = zaw p (4 : Int)) ∧ J z_1) ∧
                                           ((m == (0 : Int)) = false →
                                             ∃ (z_1 : Bool × Bool),
                                               (k = k ∧ m = m ∧ s = s ∧ zaw p (4 : Int) = zaw p (4 : Int) ∧ zaw p (6 : Int) = zaw p (6 : Int) ∧ z_1.fst = z ∧ z_1.snd = false) ∧ J z_1)) ∧
                                         ∀ (z : Bool × Bool),
                                           J z →
                                             ∃ (J : Bool × Bool → Prop),
                                               (((m == (1 : Int)) = true →
                                                     ∃ (z_1 : Bool × Bool),
                                                       (k = k ∧
                                                           m = m ∧
                                                             s = s ∧
                                                               zaw p (4 : Int) = zaw p (4 : Int) ∧
                                                                 zaw p (6 : Int) = zaw p (6 : Int) ∧
                                                                   z_1.fst = z.fst ∧ z_1.snd = bif !zaw p (4 : Int) then true else bif k != (0 : Int) then s else false) ∧
                                                         J z_1) ∧
                                                   ((m == (1 : Int)) = false →
                                                     ∃ (z_1 : Bool × Bool),
                                                       (k = k ∧ m = m ∧ s = s ∧ zaw p (4 : Int) = zaw p (4 : Int) ∧ zaw p (6 : Int) = zaw p (6 : Int) ∧ z_1.fst = z.fst ∧ z_1.snd = z.snd) ∧
                                                         J z_1)) ∧
                                                 ∀ (z : Bool × Bool), J z → zb5 p k m s x = bif bif z.fst then z.snd else false then zaw p (6 : Int) else false) := by kernel_rfl
theorem zv4 (p l va : Int) : yj4 p l va = (
 let A0 (a : Int) := IntKind.i64.wrap a;
 let A1 (a : Int) := IntKind.u64.wrap a;
 let A2 := (6 : Int) + A0 ((3 : Int) * l);
 let A3 (a : Bool) (b : Prop) := (bif decide (l < (0 : Int)) then true else decide (l > (2 : Int))) = a → b;
 let A4 (a : Prop) := pw (A0 A2) ≠ (0 : Int) ∧ a;
 let A5 := pw (A0 A2);
 A3 true (zeg p l va = (0 : Int)) ∧ A3 false (A0 A2 ≤ (64 : PmT [i64]) ∧ U64 p ∧ A4 (A4 (zeg p l va = A1 (A1 (A1 ((A1 (zda p * (64 : Int))).tdiv A5) * A5) + va.tmod A5))))) := by kernel_rfl
set_option linter.unusedSimpArgs false
theorem mixed : Tryz.prog.follows .mixedOrders = true := by kernel_rfl
theorem ynt {n : Int} (h0 : 0 ≤ n) (h1 : n ≤ 63) : pw n = 2 ^ n.toNat := by
 unfold pw
 split
 · have : n = 0 := by omega
   subst this; rfl
 · have h := ylg (m := n.toNat) (n := 63) (by omega)
   have := pow_pos n.toNat
   rw [Int.emod_eq_of_lt (by omega) (by omega)]
theorem ynu {n : Int} (h : 0 < n) : pw n = IntKind.u64.wrap (2 * pw (n - 1)) := by
 rw [IntKind.wrap_u64]
 unfold pw
 rw [if_neg (by omega)]
 by_cases h1 : n - 1 ≤ 0
 · have : n = 1 := by omega
   subst this; rfl
 · rw [if_neg h1]
   have e : n.toNat = (n - 1).toNat + 1 := by omega
   rw [e, Int.pow_succ]
   omega
theorem zcy {l : Int} (h : LvR l) : l = 0 ∨ l = 1 ∨ l = 2 := by unfold LvR at h; omega
theorem ylh : ∀ k : Nat, Sound Tryz.prog 88 (powS k)
 | 0 => zae mixed Tryz.func88 (by kernel_rfl) (by kernel_rfl) (D := mkD [] [] []) (za1 .nil .nil .nil) (fun (n : Int) h => absurd h.2 (Nat.not_lt_zero _))
 | k + 1 => by
  refine zae mixed Tryz.func88 (by kernel_rfl) (by kernel_rfl) (D := mkD [(88, powS k)] [] []) (za1 (.cons (by kernel_rfl) (ylh k) .nil) .nil .nil) (fun (n : Int) h => ?_)
  have h : n ≤ 64 ∧ n.toNat < k + 1 := h
  refine zah (yfv k n) ⟨fun hn => ?_, fun hn => ?_⟩
  · have : n ≤ 0 := by simpa using hn
    simp [pw, this]
  · have hn' : 0 < n := by simpa using hn
    rw [zac (by omega) (by omega)]
    exact ⟨by omega, ynu hn'⟩
theorem ynr : Sound Tryz.prog 88 (zag [i64] [u64] (fun n => some (n ≤ 64)) pw) :=
 zeu (ylh 65) (fun (n : Int) h => by have h : n ≤ 64 := h; exact ⟨h, by omega⟩)
theorem zf2 : DictOk Tryz.prog F0 := za1 .nil .nil .nil
theorem ymg {x : Int} (h : U64 x) : bits .and .u64 x 1 = x % 2 := zix 1 1 2 (by decide) (by decide) (by decide) h.1 h.2
theorem zkw {x : Int} (n : Nat) (h : U64 x) : U64 (x / 2 ^ n) := by
 have := ykr n h.1
 exact ⟨this.1, by have := h.2; omega⟩
theorem ym0 : Sound Tryz.prog 174 (zag [u64, i64] [bl] (fun t => some (zhw t)) (fun t => zaw t.1 t.2)) := by
 refine zae mixed Tryz.func174 (by kernel_rfl) (by kernel_rfl) zf2 (fun t h => ?_)
 obtain ⟨x, i⟩ := t
 obtain ⟨h1, h2, h3⟩ : zhw (x, i) := h
 simp only at h1 h2 h3
 refine zah (zzf x i) ⟨h2, ?_⟩
 rw [show min i.toNat 64 = i.toNat by omega, ymg (zkw _ h1)]
 rfl
theorem yno : Sound Tryz.prog 196 (zag [u64] [u64] (fun x => some (U64 x)) zda) := by
 refine zae mixed Tryz.func196 (by kernel_rfl) (by kernel_rfl) zf2 (fun x h => ?_)
 have h : U64 x := h
 refine zah (zzs x) ⟨by decide, ?_⟩
 have e : (2 : Int) ^ min (Int.toNat 10) 64 = 2 ^ 10 := by decide
 rw [e, zix 44 17592186044415 17592186044416 (by decide) (by decide) (by decide) (zkw 10 h).1 (zkw 10 h).2]
 rfl
theorem zqy : Sound Tryz.prog 217 (zag [i64] [bl] (fun _ => none) lvM) := by
 refine zae mixed Tryz.func217 (by kernel_rfl) (by kernel_rfl) zf2 (fun (x : Int) _ => ?_)
 refine zah (zl7 x) ?_
 unfold lvM
 cases h : decide (0 ≤ x) <;> simp_all
theorem yb7 : Sound Tryz.prog 136 (zag [u64] [bl] (fun x => some (U64 x)) ze5) := by
 refine zae mixed Tryz.func136 (by kernel_rfl) (by kernel_rfl) zf2 (fun x _ => ?_)
 refine zah (zsb x) ⟨by decide, fun _ => by decide, ?_⟩
 have e : (2 : Int) ^ min (Int.toNat 14) 64 = 16384 := by decide
 rw [e]
 unfold ze5
 cases x / 16384 == 0 <;> rfl
theorem yr1 : Sound Tryz.prog 170 (zag [u64, i64] [u64] (fun t => some (U64 t.1 ∧ LvR t.2)) (fun t => zjr t.1 t.2)) := by
 refine zae mixed Tryz.func170 (by kernel_rfl) (by kernel_rfl) zf2 (fun t h => ?_)
 obtain ⟨x, l⟩ := t
 obtain ⟨h1, h2⟩ : U64 x ∧ LvR l := h
 refine zah (yf6 x l) ?_
 have e : bits .and .u64 x 32767 = x % 32768 := zix 15 32767 32768 (by decide) (by decide) (by decide) h1.1 h1.2
 rw [e]
 rcases zcy h2 with rfl | rfl | rfl <;> exact ⟨by decide, rfl⟩
theorem pf_ok : Sound Tryz.prog 121 (zag [i64] [i64] (fun _ => none) pfM) := by
 refine zae mixed Tryz.func121 (by kernel_rfl) (by kernel_rfl) zf2 (fun k _ => ?_)
 refine zah (yjt k) ⟨fun h => ?_, fun h => ⟨fun g => ?_, fun g => ?_⟩⟩ <;> simp_all [pfM]
theorem af_ok : Sound Tryz.prog 194 (zag [i64] [i64] (fun _ => none) afM) := by
 refine zae mixed Tryz.func194 (by kernel_rfl) (by kernel_rfl) zf2 (fun k _ => ?_)
 refine zah (yi9 k) ⟨fun h => ?_, fun h => ⟨fun g => ?_, fun g => ?_⟩⟩ <;> simp_all [afM]
theorem yku : zaz Tryz.prog kA1 :=
 .cons (by kernel_rfl) ynr <| .cons (by kernel_rfl) ym0 <| .cons (by kernel_rfl) yno <| .cons (by kernel_rfl) zqy <| .cons (by kernel_rfl) yb7 <| .cons (by kernel_rfl) yr1 <| .cons (by kernel_rfl) pf_ok <| .cons (by kernel_rfl) af_ok .nil
theorem ypj : DictOk Tryz.prog F1 := za1 yku .nil .nil
theorem zn5 {p i : Int} (h : U64 p) (h0 : 0 ≤ i) (h1 : i ≤ 62) : zhw (p, i) := ⟨h, h0, h1⟩
theorem ymi : Sound Tryz.prog 99 (zag [u64, i64, i64] [u64] (fun t => some (zhf t)) (fun t => zdz t.1 t.2.1 t.2.2)) := by
 refine zae mixed Tryz.func99 (by kernel_rfl) (by kernel_rfl) ypj (fun t h => ?_)
 obtain ⟨x, i, j⟩ : Int × Int × Int := t
 obtain ⟨h1, h2, h3, h4, h5⟩ : zhf (x, i, j) := h
 simp only at h1 h2 h3 h4 h5
 refine zah (zy8 x i j) ?_
 have w : IntKind.i64.wrap (IntKind.i64.wrap (j - i) + 1) = j - i + 1 := by
  rw [zac (n := j - i) (by omega) (by omega), zac (by omega) (by omega)]
 have q1 := pow_pos i.toNat
 have q2 := pow_pos (j - i + 1).toNat
 have := zkw i.toNat h1
 rw [w, ynt h2 (by omega), ynt (n := j - i + 1) (by omega) (by omega), zd3 h1.1, za0 this.1 this.2, zcd this.1]
 exact ⟨by show i ≤ (64 : Int); omega, by omega, by show j - i + 1 ≤ (64 : Int); omega, by omega, rfl⟩
theorem zrk {p : Int} (_h : U64 p) : 0 ≤ zda p ∧ zda p < 17592186044416 := by
 unfold zda
 exact ⟨Int.emod_nonneg _ (by decide), Int.emod_lt_of_pos _ (by decide)⟩
theorem yna : Sound Tryz.prog 173 (zag [u64, i64] [i64] (fun t => some (U64 t.1)) (fun t => zbg t.1 t.2)) := by
 refine zoy mixed Tryz.func173 (by kernel_rfl) (by kernel_rfl) ypj (fun t h => ?_)
 obtain ⟨p, l⟩ : Int × Int := t
 have h : U64 p := h
 have e : (2 : Int) ^ min (Int.toNat 54) 64 = 18014398509481984 := by decide
 refine ⟨yq4 p l, zah (zzg p l) ?_⟩
 conv => zeta
 rw [e]
 have hk : ∀ k : Int, 0 ≤ k → k ≤ 62 → zhw (p, k) := fun k h0 h1 => ⟨h, h0, h1⟩
 refine ⟨fun z => z = (!lvM l || !zaw p 0 || p / 18014398509481984 != 0 || (zaw p 2 && !zaw p 1)), ⟨fun g => ⟨_, ⟨rfl, rfl, rfl⟩, ?_⟩, fun g => ⟨hk _ (by decide) (by decide), fun g2 => ⟨_, ⟨rfl, rfl, rfl⟩, ?_⟩, fun g2 => ⟨by decide, fun g3 => ⟨_, ⟨rfl, rfl, rfl⟩, ?_⟩, fun g3 => ⟨hk _ (by decide) (by decide), fun _ => hk _ (by decide) (by decide), _, ⟨rfl, rfl, rfl⟩, ?_⟩⟩⟩⟩, fun z hz => ?_⟩
 · simp [g]
 · simp [g2]
 · simp [g3]
 · simp only [g, g2, g3, Bool.false_or, Bool.cond_false_right]
 · simp only at hz
   refine ⟨fun g => ?_, fun g => ⟨hk _ (by decide) (by decide), fun _ => hk _ (by decide) (by decide), fun g2 => ⟨fun _ => hk _ (by decide) (by decide), fun _ => hk _ (by decide) (by decide), fun _ => hk _ (by decide) (by decide), fun g3 => ?_, fun g3 => ?_⟩, fun g2 => ?_⟩⟩
   · unfold zbg
     rw [← hz, if_pos g]
   · simp only [Bool.cond_true_left, Bool.cond_false_right] at g2 g3
     unfold zbg
     rw [← hz, if_neg (by simp [g]), if_pos g2, if_pos g3]
   · simp only [Bool.cond_true_left, Bool.cond_false_right] at g2 g3
     unfold zbg
     rw [← hz, if_neg (by simp [g]), if_pos g2, if_neg (by simp [g3])]
   · simp only [Bool.cond_false_right] at g2
     have hl : LvR l := by
      rw [hz] at g
      simp only [Bool.or_eq_false_iff, Bool.not_eq_false', lvM, Bool.and_eq_true, decide_eq_true_eq] at g
      exact g.1.1.1
     have hp := zrk h
     have key : bits .and .u64 (zda p) (IntKind.u64.wrap (IntKind.u64.wrap (1 * 2 ^ min (IntKind.i64.wrap (3 * l)).toNat 64) - 1)) = zda p % 2 ^ (3 * l).toNat ∧ 0 ≤ IntKind.i64.wrap (3 * l) := by
      rcases zcy hl with rfl | rfl | rfl
      · exact ⟨zix 0 _ _ (by decide) (by decide) (by decide) hp.1 (by omega), by decide⟩
      · exact ⟨zix 3 _ _ (by decide) (by decide) (by decide) hp.1 (by omega), by decide⟩
      · exact ⟨zix 6 _ _ (by decide) (by decide) (by decide) hp.1 (by omega), by decide⟩
     rw [key.1]
     refine ⟨h, key.2, fun g3 => ?_, fun g3 => ?_⟩
     · unfold zbg
       rw [← hz, if_neg (by simp [g]), if_neg (by simp [g2]), if_neg (by simpa using g3)]
     · unfold zbg
       rw [← hz, if_neg (by simp [g]), if_neg (by simp [g2]), if_pos (by simpa using g3)]
theorem ykv : zaz Tryz.prog kA2 :=
 .cons (by kernel_rfl) ymi <| .cons (by kernel_rfl) yna <| yku
theorem zth : DictOk Tryz.prog F2 := za1 ykv .nil .nil
theorem yp3 : Sound Tryz.prog 134 (zag [u64, i64] [bl] (fun t => some (zhw t)) (fun t => zaw t.1 t.2)) := by
 refine zae mixed Tryz.func134 (by kernel_rfl) (by kernel_rfl) zth (fun t h => ?_)
 obtain ⟨x, i⟩ : Int × Int := t
 obtain ⟨h1, h2, h3⟩ : zhw (x, i) := h
 simp only at h1 h2 h3
 refine zah (ye2 x i) ⟨⟨h1, h2, by simp, by simp only; omega, by simp only; omega⟩, ?_⟩
 unfold zaw zdz
 rw [show (i - i + 1).toNat = 1 by omega]
 rfl
theorem yrh : Sound Tryz.prog 126 (zag [u64] [u64] (fun x => some (U64 x)) zda) := by
 refine zae mixed Tryz.func126 (by kernel_rfl) (by kernel_rfl) zth (fun (x : Int) h => ?_)
 exact zah (yfw x) ⟨⟨h, by simp only; omega⟩, rfl⟩
theorem yd8 : Sound Tryz.prog 28 (zag [u64] [bl] (fun x => some (U64 x)) ze5) := by
 refine zae mixed Tryz.func28 (by kernel_rfl) (by kernel_rfl) zth (fun (x : Int) h => ?_)
 have h : U64 x := h
 have e : zdz x 14 63 = x / 16384 := by
  have := h.1; have := h.2
  show x / 2 ^ 14 % 2 ^ 50 = x / 16384
  rw [show (2 : Int) ^ 14 = 16384 by decide]
  exact Int.emod_eq_of_lt (by omega) (by omega)
 have e2 : IntKind.u64.wrap (pw 50 - 1) = 1125899906842623 := by decide
 refine zah (zsv x) ⟨⟨h, by simp only; omega⟩, fun _ => by decide, ?_⟩
 rw [e, e2]
 unfold ze5
 cases x / 16384 == 0 <;> rfl
theorem yhp : Sound Tryz.prog 191 (zag [u64, i64] [u64] (fun t => some (U64 t.1 ∧ LvR t.2)) (fun t => zfi t.1 t.2)) := by
 refine zae mixed Tryz.func191 (by kernel_rfl) (by kernel_rfl) zth (fun t h => ?_)
 obtain ⟨x, l⟩ : Int × Int := t
 obtain ⟨h1, h2⟩ : U64 x ∧ LvR l := h
 refine zah (zvd x l) ?_
 rcases zcy h2 with rfl | rfl | rfl
 · exact ⟨⟨h1, by simp only; decide⟩, rfl⟩
 · exact ⟨⟨h1, by simp only; decide⟩, rfl⟩
 · exact ⟨⟨h1, by simp only; decide⟩, rfl⟩
theorem zxj {t : Int} (h : U64 t) : zdz t 60 63 = t / 1152921504606846976 := by
 have := h.1; have := h.2
 show t / 2 ^ 60 % 2 ^ 4 = _
 rw [show (2 : Int) ^ 60 = 1152921504606846976 by decide]
 exact Int.emod_eq_of_lt (by omega) (by omega)
theorem yrx : Sound Tryz.prog 112 (zag [ze6] [bl] (fun c => some (U64 c.2.2.2)) onM) := by
 refine zae mixed Tryz.func112 (by kernel_rfl) (by kernel_rfl) zth (fun c h => ?_)
 obtain ⟨m, s, x, t⟩ : Int × Bool × Bool × Int := c
 have h : U64 t := h
 refine zah (yf3 m s x t) ⟨⟨h, by simp only; omega⟩, ?_⟩
 rw [zxj h]
 unfold onM
 cases t / 1152921504606846976 == 8 <;> cases m == 0 <;> rfl
theorem yis : Sound Tryz.prog 122 (zag [u64] [u64] (fun x => some (U64 x)) zbv) := by
 refine zae mixed Tryz.func122 (by kernel_rfl) (by kernel_rfl) zth (fun (x : Int) h => ?_)
 exact zah (zvv x) ⟨⟨h, by simp only; omega⟩, rfl⟩
theorem yoc : Sound Tryz.prog 164 (zag [u64, i64] [u64] (fun t => some (U64 t.1 ∧ LvR t.2)) (fun t => zjr t.1 t.2)) := by
 refine zae mixed Tryz.func164 (by kernel_rfl) (by kernel_rfl) zth (fun t h => ?_)
 obtain ⟨x, l⟩ : Int × Int := t
 obtain ⟨h1, h2⟩ : U64 x ∧ LvR l := h
 refine zah (zz5 x l) ?_
 have := h1.1
 rcases zcy h2 with rfl | rfl | rfl
 · refine ⟨⟨h1, by simp only; decide⟩, ?_⟩
   show x % 32768 / 64 = x / 64 % 512
   omega
 · refine ⟨⟨h1, by simp only; decide⟩, ?_⟩
   show x % 32768 / 512 = x / 512 % 64
   omega
 · refine ⟨⟨h1, by simp only; decide⟩, ?_⟩
   show x % 32768 / 4096 = x / 4096 % 8
   omega
theorem zds {l : Int} : lvM l = true ↔ LvR l := by simp [lvM, LvR]
theorem ykw : zaz Tryz.prog kA3 :=
 .cons (by kernel_rfl) yp3 <| .cons (by kernel_rfl) yrh <| .cons (by kernel_rfl) yd8 <| .cons (by kernel_rfl) yhp <| .cons (by kernel_rfl) yrx <| .cons (by kernel_rfl) yis <| .cons (by kernel_rfl) yoc <|
 ykv
theorem yl1 : DictOk Tryz.prog F3 := za1 ykw .nil .nil
theorem yk8 (l : Int) : (bif decide (l < 0) then true else decide (l > 2)) = !lvM l := by
 by_cases a : l < 0 <;> by_cases b : l > 2 <;> simp [lvM, a, b] <;> omega
theorem yix : Sound Tryz.prog 127 (zag [u64, i64] [i64] (fun t => some (U64 t.1)) (fun t => zbg t.1 t.2)) := by
 refine zys mixed Tryz.func127 (by kernel_rfl) (by kernel_rfl) yl1 (fun t h => ?_)
 obtain ⟨p, l⟩ : Int × Int := t
 have h : U64 p := h
 have hk : ∀ k : Int, 0 ≤ k → k ≤ 62 → zhw (p, k) := fun k h0 h1 => ⟨h, h0, h1⟩
 have e : decide (zdz p 54 63 > 0) = (p / 18014398509481984 != 0) := by
  have := h.1; have := h.2
  have e : zdz p 54 63 = p / 18014398509481984 := by
   show p / 2 ^ 54 % 2 ^ 10 = _
   rw [show (2 : Int) ^ 54 = 18014398509481984 by decide]
   exact Int.emod_eq_of_lt (by omega) (by omega)
  rw [e]
  by_cases g : p / 18014398509481984 = 0
  · simp [g]
  · have : p / 18014398509481984 > 0 := by omega
    simp [g, this]
 refine zah (zvy p l) ?_
 conv => zeta
 rw [e, yk8]
 simp only [Bool.cond_true_left, Bool.cond_false_right]
 have hp := zrk h
 refine ⟨hk _ (by decide) (by decide), hk _ (by decide) (by decide), hk _ (by decide) (by decide), hk _ (by decide) (by decide), hk _ (by decide) (by decide), hk _ (by decide) (by decide), fun _ => hk _ (by decide) (by decide), fun _ => ⟨h, by simp only; omega⟩, fun g => ?_, fun g => ?_⟩
 · unfold zbg
   rw [if_pos g]
 · have hl : LvR l := by
    simp only [Bool.or_eq_false_iff, Bool.not_eq_false'] at g
    exact zds.1 g.1.1.1
   have hn : (!zaw p 1 && !zaw p 2 && !zaw p 3) = (!zaw p 1 && !zaw p 3) := by
    simp only [Bool.or_eq_false_iff] at g
    have := g.2
    revert this
    cases zaw p 1 <;> cases zaw p 2 <;> simp
   rw [hn]
   refine ⟨fun g2 => ⟨fun g3 => ?_, fun g3 => ?_⟩, fun g2 => ?_⟩
   · unfold zbg
     rw [if_neg (by simp [g]), if_pos g2, if_pos g3]
   · unfold zbg
     rw [if_neg (by simp [g]), if_pos g2, if_neg (by simp [g3])]
   · have key : pw (IntKind.i64.wrap (3 * l)) = 2 ^ (3 * l).toNat ∧ IntKind.i64.wrap (3 * l) ≤ (64 : Int) := by
      rcases zcy hl with rfl | rfl | rfl <;> exact ⟨by decide, by decide⟩
     have hq := pow_pos (3 * l).toNat
     have hm := (yde (zda p) (3 * l).toNat).1
     rw [key.1, zcd hp.1]
     refine ⟨h, key.2, by omega, fun g3 => ?_, fun g3 => ?_⟩
     · have : zda p % 2 ^ (3 * l).toNat ≠ 0 := by
        have := of_decide_eq_true g3
        omega
       unfold zbg
       rw [if_neg (by simp [g]), if_neg (by simp [g2]), if_neg this]
     · have : zda p % 2 ^ (3 * l).toNat = 0 := by
        have := of_decide_eq_false g3
        omega
       unfold zbg
       rw [if_neg (by simp [g]), if_neg (by simp [g2]), if_pos this]
theorem zu1 : Sound Tryz.prog 43 (zag [u64, i64, i64, bl, bl] [bl] (fun t => some (U64 t.1)) (fun t => zb5 t.1 t.2.1 t.2.2.1 t.2.2.2.1 t.2.2.2.2)) := by
 refine zoy mixed Tryz.func43 (by kernel_rfl) (by kernel_rfl) yl1 (fun t h => ?_)
 obtain ⟨p, k, m, s, x⟩ : Int × Int × Int × Bool × Bool := t
 have h : U64 p := h
 have hk : ∀ k : Int, 0 ≤ k → k ≤ 62 → zhw (p, k) := fun k h0 h1 => ⟨h, h0, h1⟩
 refine ⟨zru p k m s x, zah (zmr p k m s x) ⟨hk _ (by decide) (by decide), hk _ (by decide) (by decide), hk _ (by decide) (by decide), hk _ (by decide) (by decide), hk _ (by decide) (by decide), hk _ (by decide) (by decide), ?_⟩⟩
 refine ⟨fun z => z = if k = 0 then zaw p 3 else false, ⟨fun g => ⟨_, ⟨rfl, rfl, rfl, rfl, rfl, rfl, rfl, rfl, rfl, rfl, rfl, rfl⟩, ?_⟩, fun g => ⟨_, ⟨rfl, rfl, rfl, rfl, rfl, rfl, rfl, rfl, rfl, rfl, rfl, rfl⟩, ?_⟩⟩, fun z1 h1 => ?_⟩
 · simp_all
 · simp_all
 refine ⟨fun z => z = if k = 1 then zaw p 1 || (x && zaw p 3) else z1, ⟨fun g => ⟨_, ⟨rfl, rfl, rfl, rfl, rfl, rfl, rfl, rfl, rfl, rfl, rfl, rfl⟩, ?_⟩, fun g => ⟨_, ⟨rfl, rfl, rfl, rfl, rfl, rfl, rfl, rfl, rfl, rfl, rfl, rfl⟩, ?_⟩⟩, fun z2 h2 => ?_⟩
 · simp only [beq_iff_eq] at g; simp [g]
 · simp only [beq_eq_false_iff_ne] at g; simp [g]
 refine ⟨fun z => z = if k = 2 then zaw p 2 && zaw p 7 else z2, ⟨fun g => ⟨_, ⟨rfl, rfl, rfl, rfl, rfl, rfl, rfl, rfl, rfl, rfl, rfl, rfl⟩, ?_⟩, fun g => ⟨_, ⟨rfl, rfl, rfl, rfl, rfl, rfl, rfl, rfl, rfl, rfl, rfl, rfl⟩, ?_⟩⟩, fun z3 h3 => ?_⟩
 · simp only [beq_iff_eq] at g; simp [g]
 · simp only [beq_eq_false_iff_ne] at g; simp [g]
 refine ⟨fun z => z = (z3, if m = 0 then zaw p 4 else false), ⟨fun g => ⟨(z3, zaw p 4), ⟨rfl, rfl, rfl, rfl, rfl, rfl, rfl⟩, ?_⟩, fun g => ⟨(z3, false), ⟨rfl, rfl, rfl, rfl, rfl, rfl, rfl⟩, ?_⟩⟩, fun z4 h4 => ?_⟩
 · simp only [beq_iff_eq] at g; simp [g]
 · simp only [beq_eq_false_iff_ne] at g; simp [g]
 refine ⟨fun z => z = (z3, if m = 1 then !zaw p 4 || (k != 0 && s) else z4.2), ⟨fun g => ⟨(z4.1, bif !zaw p 4 then true else bif k != 0 then s else false), ⟨rfl, rfl, rfl, rfl, rfl, rfl, rfl⟩, ?_⟩, fun g => ⟨z4, ⟨rfl, rfl, rfl, rfl, rfl, rfl, rfl⟩, ?_⟩⟩, fun z5 h5 => ?_⟩
 · simp only [beq_iff_eq] at g; simp only at h4; simp [g, h4]
 · simp only [beq_eq_false_iff_ne] at g; simp only at h4; simp [g, h4]
 simp only at h1 h2 h3 h4 h5
 subst h1 h2 h3 h4 h5
 have e1 : (if k = 2 then zaw p 2 && zaw p 7 else if k = 1 then zaw p 1 || (x && zaw p 3) else if k = 0 then zaw p 3 else false) = mayM p k x := by
  unfold mayM
  by_cases a : k = 0
  · subst a; rfl
  · by_cases b : k = 1
    · subst b; simp [Bool.and_comm]
    · simp [a, b]
 have e2 : (if m = 1 then !zaw p 4 || (k != 0 && s) else if m = 0 then zaw p 4 else false) = whoM p k m s := by
  unfold whoM
  by_cases a : m = 0
  · subst a; rfl
  · simp [a]
 simp only [e1, e2]
 simp [zb5]
theorem yi2 : Sound Tryz.prog 44 (zag [u64, i64, u64] [u64] (fun t => some (U64 t.1 ∧ U64 t.2.2)) (fun t => zeg t.1 t.2.1 t.2.2)) := by
 refine zae mixed Tryz.func44 (by kernel_rfl) (by kernel_rfl) yl1 (fun t h => ?_)
 obtain ⟨p, l, va⟩ : Int × Int × Int := t
 obtain ⟨h1, h2⟩ : U64 p ∧ U64 va := h
 refine zah (zv4 p l va) ?_
 conv => zeta
 rw [yk8]
 refine ⟨fun g => ?_, fun g => ?_⟩
 · unfold zeg
   rw [if_neg (by simpa using g)]
 · have hl : lvM l = true := by simpa using g
   have hr := zds.1 hl
   obtain ⟨a, b⟩ := zrk h1
   have c := h2.1
   have d := h2.2
   have key : IntKind.i64.wrap (6 + IntKind.i64.wrap (3 * l)) ≤ (64 : Int) ∧ pw (IntKind.i64.wrap (6 + IntKind.i64.wrap (3 * l))) = 2 ^ (6 + 3 * l).toNat ∧ (6 + 3 * l).toNat ≤ 12 := by
    rcases zcy hr with rfl | rfl | rfl <;> exact ⟨by decide, by decide, by decide⟩
   have hq := pow_pos (6 + 3 * l).toNat
   have hle := ylg (m := (6 + 3 * l).toNat) (n := 12) key.2.2
   have hd := Int.emod_add_mul_ediv (zda p * 64) (2 ^ (6 + 3 * l).toNat)
   have hm := yde (zda p * 64) (6 + 3 * l).toNat
   have hv := yde va (6 + 3 * l).toNat
   have hdv := ykr (x := zda p * 64) (6 + 3 * l).toNat (by omega)
   rw [key.2.1, za0 (n := zda p * 64) (by omega) (by omega), zd3 (by omega), zcd c, za0 hdv.1 (by omega)]
   rw [Int.mul_comm (2 ^ (6 + 3 * l).toNat) (zda p * 64 / 2 ^ (6 + 3 * l).toNat)] at hd
   have hnn := Int.mul_nonneg hdv.1 (Int.le_of_lt hq)
   rw [za0 (n := zda p * 64 / 2 ^ (6 + 3 * l).toNat * 2 ^ (6 + 3 * l).toNat) hnn (by omega), za0 (by omega) (by omega)]
   refine ⟨key.1, h1, by omega, by omega, ?_⟩
   unfold zeg
   rw [if_pos hl]
theorem zcb : zaz Tryz.prog kA4 :=
 .cons (by kernel_rfl) yix <| .cons (by kernel_rfl) zu1 <| .cons (by kernel_rfl) yi2 ykw
end Go.Proofs.YtfiddfbagbaofaaGreat.V
