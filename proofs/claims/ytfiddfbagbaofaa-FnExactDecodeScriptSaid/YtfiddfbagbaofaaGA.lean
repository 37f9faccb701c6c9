/- The small functions on bits answer as their models. Conditions: those in each statement. -/
import Derived.Test.YtfiddfbagbaofaaProg
import Derived.Test.YtfiddfbagbaofaaV3
import Derived.KernelRfl
namespace Go.Proofs.Ytfiddfbagbaofaa.V
open Go


/-- One whole number of 64 bits without a sign; with one; a bool; what a translation depends on. -/
abbrev u64 : Pm := .one (.i .u64)
abbrev i64 : Pm := .one (.i .i64)
abbrev bl : Pm := .one .b
abbrev ctxP : Pm := .st [.i .i64, .b, .b, .i .u64]
def U64 (x : Int) : Prop := 0 ≤ x ∧ x < 18446744073709551616
def I64 (x : Int) : Prop := -9223372036854775808 ≤ x ∧ x < 9223372036854775808
def LvR (l : Int) : Prop := 0 ≤ l ∧ l ≤ 2
abbrev Known := List (FuncId × Sum)

def pw (n : Int) : Int := if n ≤ 0 then 1 else 2 ^ n.toNat % 18446744073709551616
def bitsM (x i j : Int) : Int := x / 2 ^ i.toNat % 2 ^ (j - i + 1).toNat
def bitsR (t : Int × Int × Int) : Prop := U64 t.1 ∧ 0 ≤ t.2.1 ∧ t.2.1 ≤ t.2.2 ∧ t.2.2 ≤ 63 ∧ (0 < t.2.1 ∨ t.2.2 < 63)
def bitM (x i : Int) : Bool := x / 2 ^ i.toNat % 2 == 1
def bitR (t : Int × Int) : Prop := U64 t.1 ∧ 0 ≤ t.2 ∧ t.2 ≤ 62
def ppnM (p : Int) : Int := p / 1024 % 17592186044416
def canM (va : Int) : Bool := va / 16384 == 0 || va / 16384 == 1125899906842623
def lvM (l : Int) : Bool := decide (0 ≤ l) && decide (l ≤ 2)
def kindM (p l : Int) : Int :=
  if (!lvM l || !bitM p 0 || p / 18014398509481984 != 0 || (bitM p 2 && !bitM p 1)) = true then 0
  else if (!bitM p 1 && !bitM p 3) = true then (if (l == 0 || bitM p 4 || bitM p 6 || bitM p 7) = true then 0 else 1)
  else if ppnM p % 2 ^ (3 * l).toNat = 0 then 2 else 0
def mayM (p kind : Int) (mxr : Bool) : Bool := if kind = 0 then bitM p 3 else if kind = 1 then (bitM p 1 || (bitM p 3 && mxr)) else if kind = 2 then (bitM p 2 && bitM p 7) else false
def whoM (p kind mode : Int) (sum : Bool) : Bool := if mode = 0 then bitM p 4 else if mode = 1 then (!bitM p 4 || (kind != 0 && sum)) else false
def grantM (p kind mode : Int) (sum mxr : Bool) : Bool := mayM p kind mxr && whoM p kind mode sum && bitM p 6
def physM (p l va : Int) : Int := if lvM l = true then ppnM p * 64 / 2 ^ (6 + 3 * l).toNat * 2 ^ (6 + 3 * l).toNat + va % 2 ^ (6 + 3 * l).toNat else 0
def tagM (va l : Int) : Int := va % 32768 / 2 ^ (6 + 3 * l).toNat
def onM (c : Int × Bool × Bool × Int) : Bool := c.2.2.2 / 1152921504606846976 == 8 && (c.1 == 0 || c.1 == 1)
def asidM (satp : Int) : Int := satp / 17592186044416 % 65536
def askM (c : Int × Bool × Bool × Int) (kind : Int) : Bool := decide (0 ≤ kind) && decide (kind ≤ 2) && decide (0 ≤ c.1) && decide (c.1 ≤ 2)
def idxM (va l : Int) : Int := va / 2 ^ (6 + 3 * l).toNat % 8
def pfM (kind : Int) : Int := if kind = 0 then 12 else if kind = 1 then 13 else 15
def afM (kind : Int) : Int := if kind = 0 then 1 else if kind = 1 then 5 else 7
def rootM (x : Int) : Int := x % 17592186044416

def powS (k : Nat) : Sum := pureS [i64] [u64] (fun n => some (n ≤ 64 ∧ n.toNat < k)) pw
def vc_pow (k : Nat) (n : Int) : Prop := vcPure Try.prog (mkD [(88, powS k)] [] []) .none Try.f88 [i64] [u64] n (pw n)
def F0 : Dict := mkD [] [] []
def vc_ibit (x i : Int) : Prop := vcPure Try.prog F0 .none Try.f182 [u64, i64] [bl] (x, i) (bitM x i)
def vc_page (x : Int) : Prop := vcPure Try.prog F0 .none Try.f181 [u64] [u64] x (ppnM x)
def vc_goodLevel (x : Int) : Prop := vcPure Try.prog F0 .none Try.f90 [i64] [bl] x (lvM x)
def vc_icanon (x : Int) : Prop := vcPure Try.prog F0 .none Try.f22 [u64] [bl] x (canM x)
def vc_rootPage (x : Int) : Prop := vcPure Try.prog F0 .none Try.f122 [u64] [u64] x (rootM x)
def vc_on (m : Int) (s x : Bool) (t : Int) : Prop := vcPure Try.prog F0 .none Try.f141 [ctxP] [bl] (m, s, x, t) (onM (m, s, x, t))
def vc_asid (m : Int) (s x : Bool) (t : Int) : Prop := vcPure Try.prog F0 .none Try.f200 [ctxP] [u64] (m, s, x, t) (asidM t)
def vc_tag (x l : Int) : Prop := vcPure Try.prog F0 .none Try.f191 [u64, i64] [u64] (x, l) (tagM x l)
def vc_goodAsk (m : Int) (s x : Bool) (t k : Int) : Prop := vcPure Try.prog F0 .none Try.f140 [ctxP, i64] [bl] ((m, s, x, t), k) (askM (m, s, x, t) k)
def vc_pf (k : Int) : Prop := vcPure Try.prog F0 .none Try.f174 [i64] [i64] k (pfM k)
def vc_af (k : Int) : Prop := vcPure Try.prog F0 .none Try.f197 [i64] [i64] k (afM k)
def kA1 : Known := [
  (88, pureS [i64] [u64] (fun n => some (n ≤ 64)) pw),
  (182, pureS [u64, i64] [bl] (fun t => some (bitR t)) (fun t => bitM t.1 t.2)),
  (181, pureS [u64] [u64] (fun x => some (U64 x)) ppnM),
  (90, pureS [i64] [bl] (fun _ => none) lvM),
  (22, pureS [u64] [bl] (fun x => some (U64 x)) canM),
  (122, pureS [u64] [u64] (fun x => some (U64 x)) rootM),
  (141, pureS [ctxP] [bl] (fun c => some (U64 c.2.2.2)) onM),
  (200, pureS [ctxP] [u64] (fun c => some (U64 c.2.2.2)) (fun c => asidM c.2.2.2)),
  (191, pureS [u64, i64] [u64] (fun t => some (U64 t.1 ∧ LvR t.2)) (fun t => tagM t.1 t.2)),
  (140, pureS [ctxP, i64] [bl] (fun _ => none) (fun t => askM t.1 t.2)),
  (174, pureS [i64] [i64] (fun _ => none) pfM),
  (197, pureS [i64] [i64] (fun _ => none) afM)]

def F1 : Dict := mkD kA1 [] []
def vc_bits (x i j : Int) : Prop := vcPure Try.prog F1 .none Try.f87 [u64, i64, i64] [u64] (x, i, j) (bitsM x i j)
/-- Behind the first choice. -/
def kindX (p l : Int) : Specs := { Specs.none with cond := fun i => if i = 2 then some { β := Bool, sl := fun z => slots 54 [(0, .v (.int .u64 p)), (1, .v (.int .i64 l)), (5, .v (.bool z))], H := fun _ => [] } else none }
def vc_kind (p l : Int) : Prop := vcPure Try.prog F1 (kindX p l) Try.f93 [u64, i64] [i64] (p, l) (kindM p l)
/-- Behind the first and the second choice: what is allowed so far. -/
def grantsX (p k m : Int) (s x : Bool) (t : Int) : Specs := { Specs.none with blk := fun i => some { β := Bool, sl := fun z => slots 63 (if i = 0 then [(0, .v (.int .u64 p)), (1, .v (.int .i64 k)), (5, .ptr 0 0), (7, .v (.bool z))] else [(0, .v (.int .u64 p)), (7, .v (.bool z))]), H := fun _ => if i = 0 then [.fix [.v (.int .i64 m), .v (.bool s), .v (.bool x), .v (.int .u64 t)] true none] else [] } }
def vc_grants (p k m : Int) (s x : Bool) (t : Int) : Prop := vcPure Try.prog F1 (grantsX p k m s x t) Try.f94 [u64, i64, ctxP] [bl] (p, k, m, s, x, t) (grantM p k m s x)
def vc_physical (p l va : Int) : Prop := vcPure Try.prog F1 .none Try.f91 [u64, i64, u64] [u64] (p, l, va) (physM p l va)
def kA2 : Known := [
  (87, pureS [u64, i64, i64] [u64] (fun t => some (bitsR t)) (fun t => bitsM t.1 t.2.1 t.2.2)),
  (93, pureS [u64, i64] [i64] (fun t => some (U64 t.1)) (fun t => kindM t.1 t.2)),
  (94, pureS [u64, i64, ctxP] [bl] (fun t => some (U64 t.1)) (fun t => grantM t.1 t.2.1 t.2.2.1 t.2.2.2.1 t.2.2.2.2.1)),
  (91, pureS [u64, i64, u64] [u64] (fun t => some (U64 t.1 ∧ LvR t.2.1 ∧ U64 t.2.2)) (fun t => physM t.1 t.2.1 t.2.2))] ++ kA1

def F2 : Dict := mkD kA2 [] []
def vc_bit (x i : Int) : Prop := vcPure Try.prog F2 .none Try.f92 [u64, i64] [bl] (x, i) (bitM x i)
def vc_ppn (x : Int) : Prop := vcPure Try.prog F2 .none Try.f89 [u64] [u64] x (ppnM x)
def vc_scanon (x : Int) : Prop := vcPure Try.prog F2 .none Try.f21 [u64] [bl] x (canM x)
def vc_index (x l : Int) : Prop := vcPure Try.prog F2 .none Try.f192 [u64, i64] [u64] (x, l) (idxM x l)
def vc_son (m : Int) (s x : Bool) (t : Int) : Prop := vcPure Try.prog F2 .none Try.f138 [ctxP] [bl] (m, s, x, t) (onM (m, s, x, t))
def vc_sasid (t : Int) : Prop := vcPure Try.prog F2 .none Try.f175 [u64] [u64] t (asidM t)
def vc_stag (x l : Int) : Prop := vcPure Try.prog F2 .none Try.f190 [u64, i64] [u64] (x, l) (tagM x l)
def vc_ikind (p l : Int) : Prop := vcPure Try.prog F2 .none Try.f26 [u64, i64] [i64] (p, l) (kindM p l)
def vc_igranted (p k m : Int) (s x : Bool) : Prop := vcPure Try.prog F2 .none Try.f28 [u64, i64, i64, bl, bl] [bl] (p, k, m, s, x) (grantM p k m s x)
def vc_iphys (p l va : Int) : Prop := vcPure Try.prog F2 .none Try.f24 [u64, i64, u64] [u64] (p, l, va) (physM p l va)
def kA3 : Known := [
  (92, pureS [u64, i64] [bl] (fun t => some (bitR t)) (fun t => bitM t.1 t.2)),
  (89, pureS [u64] [u64] (fun x => some (U64 x)) ppnM),
  (21, pureS [u64] [bl] (fun x => some (U64 x)) canM),
  (192, pureS [u64, i64] [u64] (fun t => some (U64 t.1 ∧ LvR t.2)) (fun t => idxM t.1 t.2)),
  (138, pureS [ctxP] [bl] (fun c => some (U64 c.2.2.2)) onM),
  (175, pureS [u64] [u64] (fun x => some (U64 x)) asidM),
  (190, pureS [u64, i64] [u64] (fun t => some (U64 t.1 ∧ LvR t.2)) (fun t => tagM t.1 t.2)),
  (26, pureS [u64, i64] [i64] (fun t => some (U64 t.1)) (fun t => kindM t.1 t.2)),
  (28, pureS [u64, i64, i64, bl, bl] [bl] (fun t => some (U64 t.1)) (fun t => grantM t.1 t.2.1 t.2.2.1 t.2.2.2.1 t.2.2.2.2)),
  (24, pureS [u64, i64, u64] [u64] (fun t => some (U64 t.1 ∧ U64 t.2.2)) (fun t => physM t.1 t.2.1 t.2.2))] ++ kA2

def F3 : Dict := mkD kA3 [] []
def vc_skind (p l : Int) : Prop := vcPure Try.prog F3 .joins Try.f25 [u64, i64] [i64] (p, l) (kindM p l)
/-- Behind each choice: what is allowed so far. -/
def sgrantedC (p k m : Int) (s x : Bool) (i : Nat) : Option CutS :=
  if i = 9 ∨ i = 11 ∨ i = 13 then some (CutS.mk Bool (fun z => slots 70 [(0, .v (.int .u64 p)), (1, .v (.int .i64 k)), (2, .v (.int .i64 m)), (3, .v (.bool s)), (4, .v (.bool x)), (11, .v (.bool (bitM p 1))), (12, .v (.bool (bitM p 2))), (13, .v (.bool (bitM p 3))), (14, .v (.bool (bitM p 4))), (15, .v (.bool (bitM p 6))), (16, .v (.bool (bitM p 7))), (17, .v (.bool z))]) (fun _ => []))
  else if i = 16 ∨ i = 18 then some (CutS.mk (Bool × Bool) (fun z => slots 70 [(1, .v (.int .i64 k)), (2, .v (.int .i64 m)), (3, .v (.bool s)), (14, .v (.bool (bitM p 4))), (15, .v (.bool (bitM p 6))), (17, .v (.bool z.1)), (18, .v (.bool z.2))]) (fun _ => []))
  else none
def sgrantedX (p k m : Int) (s x : Bool) : Specs := { Specs.none with cond := sgrantedC p k m s x }
def vc_sgranted (p k m : Int) (s x : Bool) : Prop := vcPure Try.prog F3 (sgrantedX p k m s x) Try.f27 [u64, i64, i64, bl, bl] [bl] (p, k, m, s, x) (grantM p k m s x)
def vc_sphys (p l va : Int) : Prop := vcPure Try.prog F3 .none Try.f23 [u64, i64, u64] [u64] (p, l, va) (physM p l va)
def kA4 : Known := [
  (25, pureS [u64, i64] [i64] (fun t => some (U64 t.1)) (fun t => kindM t.1 t.2)),
  (27, pureS [u64, i64, i64, bl, bl] [bl] (fun t => some (U64 t.1)) (fun t => grantM t.1 t.2.1 t.2.2.1 t.2.2.2.1 t.2.2.2.2)),
  (23, pureS [u64, i64, u64] [u64] (fun t => some (U64 t.1 ∧ U64 t.2.2)) (fun t => physM t.1 t.2.1 t.2.2))] ++ kA3
end Go.Proofs.Ytfiddfbagbaofaa.V
namespace Go.Proofs.Ytfiddfbagbaofaa.V
open Go
set_option linter.unusedVariables false
theorem vc_pow_eq (k : Nat) (n : Int) : vc_pow k n = (
 (decide (n ≤ (0 : Int)) = true → pw n = (1 : Int)) ∧
   (decide (n ≤ (0 : Int)) = false →
     (IntKind.i64.wrap (n - (1 : Int)) ≤ (64 : PmT [i64]) ∧ (IntKind.i64.wrap (n - (1 : Int))).toNat < k) ∧ pw n = IntKind.u64.wrap ((2 : Int) * pw (IntKind.i64.wrap (n - (1 : Int)))))) := by kernel_rfl
theorem vc_ibit_eq (x i : Int) : vc_ibit x i = (
 (0 : Int) ≤ i ∧ bitM x i = (bits BinOp.and IntKind.u64 (x / (2 : Int) ^ min i.toNat (64 : Nat)) (1 : Int) == (1 : Int))) := by kernel_rfl
theorem vc_page_eq (x : Int) : vc_page x = (
 (0 : Int) ≤ (10 : Int) ∧ ppnM x = bits BinOp.and IntKind.u64 (x / (2 : Int) ^ min (Int.toNat (10 : Int)) (64 : Nat)) (17592186044415 : Int)) := by kernel_rfl
theorem vc_goodLevel_eq (x : Int) : vc_goodLevel x = (
 lvM x = bif decide (x ≥ (0 : Int)) then decide (x ≤ (2 : Int)) else false) := by kernel_rfl
theorem vc_icanon_eq (x : Int) : vc_icanon x = (
 (0 : Int) ≤ (14 : Int) ∧
   ((!x / (2 : Int) ^ min (Int.toNat (14 : Int)) (64 : Nat) == (0 : Int)) = true → (0 : Int) ≤ (14 : Int)) ∧
     canM x = bif x / (2 : Int) ^ min (Int.toNat (14 : Int)) (64 : Nat) == (0 : Int) then true else x / (2 : Int) ^ min (Int.toNat (14 : Int)) (64 : Nat) == (1125899906842623 : Int)) := by kernel_rfl
theorem vc_rootPage_eq (x : Int) : vc_rootPage x = (
 rootM x = bits BinOp.and IntKind.u64 x (17592186044415 : Int)) := by kernel_rfl
theorem vc_on_eq (m : Int) (s x : Bool) (t : Int) : vc_on m s x t = (
 (0 : Int) ≤ (60 : Int) ∧ onM (m, s, x, t) = bif t / (2 : Int) ^ min (Int.toNat (60 : Int)) (64 : Nat) == (8 : Int) then bif m == (0 : Int) then true else m == (1 : Int) else false) := by kernel_rfl
theorem vc_asid_eq (m : Int) (s x : Bool) (t : Int) : vc_asid m s x t = (
 (0 : Int) ≤ (44 : Int) ∧ asidM t = bits BinOp.and IntKind.u64 (t / (2 : Int) ^ min (Int.toNat (44 : Int)) (64 : Nat)) (65535 : Int)) := by kernel_rfl
theorem vc_tag_eq (x l : Int) : vc_tag x l = (
 (0 : Int) ≤ IntKind.i64.wrap ((6 : Int) + IntKind.i64.wrap ((3 : Int) * l)) ∧
   tagM x l = bits BinOp.and IntKind.u64 x (32767 : Int) / (2 : Int) ^ min (IntKind.i64.wrap ((6 : Int) + IntKind.i64.wrap ((3 : Int) * l))).toNat (64 : Nat)) := by kernel_rfl
theorem vc_goodAsk_eq (m : Int) (s x : Bool) (t k : Int) : vc_goodAsk m s x t k = (
 askM (m, s, x, t) k = bif bif bif decide (k ≥ (0 : Int)) then decide (k ≤ (2 : Int)) else false then decide (m ≥ (0 : Int)) else false then decide (m ≤ (2 : Int)) else false) := by kernel_rfl
theorem vc_pf_eq (k : Int) : vc_pf k = (
 ((k == (0 : Int)) = true → pfM k = (12 : Int)) ∧ ((k == (0 : Int)) = false → ((k == (1 : Int)) = true → pfM k = (13 : Int)) ∧ ((k == (1 : Int)) = false → pfM k = (15 : Int)))) := by kernel_rfl
theorem vc_af_eq (k : Int) : vc_af k = (
 ((k == (0 : Int)) = true → afM k = (1 : Int)) ∧ ((k == (0 : Int)) = false → ((k == (1 : Int)) = true → afM k = (5 : Int)) ∧ ((k == (1 : Int)) = false → afM k = (7 : Int)))) := by kernel_rfl
theorem vc_bits_eq (x i j : Int) : vc_bits x i j = (
 i ≤ (64 : PmT [i64]) ∧
   pw i ≠ (0 : Int) ∧
     IntKind.i64.wrap (IntKind.i64.wrap (j - i) + (1 : Int)) ≤ (64 : PmT [i64]) ∧
       pw (IntKind.i64.wrap (IntKind.i64.wrap (j - i) + (1 : Int))) ≠ (0 : Int) ∧ bitsM x i j = (IntKind.u64.wrap (x.tdiv (pw i))).tmod (pw (IntKind.i64.wrap (IntKind.i64.wrap (j - i) + (1 : Int))))) := by kernel_rfl
theorem vc_kind_eq (p l : Int) : vc_kind p l = (
 ∃ (J : Bool → Prop),
   (((!lvM l) = true → ∃ (z : Bool), (p = p ∧ l = l ∧ z = !lvM l) ∧ J z) ∧
       ((!lvM l) = false →
         bitR (p, (0 : Int)) ∧
           ((!bitM p (0 : Int)) = true → ∃ (z : Bool), (p = p ∧ l = l ∧ z = !bitM p (0 : Int)) ∧ J z) ∧
             ((!bitM p (0 : Int)) = false →
               (0 : Int) ≤ (54 : Int) ∧
                 ((p / (2 : Int) ^ min (Int.toNat (54 : Int)) (64 : Nat) != (0 : Int)) = true →
                     ∃ (z : Bool), (p = p ∧ l = l ∧ z = (p / (2 : Int) ^ min (Int.toNat (54 : Int)) (64 : Nat) != (0 : Int))) ∧ J z) ∧
                   ((p / (2 : Int) ^ min (Int.toNat (54 : Int)) (64 : Nat) != (0 : Int)) = false →
                     bitR (p, (2 : Int)) ∧ (bitM p (2 : Int) = true → bitR (p, (1 : Int))) ∧ ∃ (z : Bool), (p = p ∧ l = l ∧ z = bif bitM p (2 : Int) then !bitM p (1 : Int) else false) ∧ J z)))) ∧
     ∀ (z : Bool),
       J z →
         (z = true → kindM p l = (0 : Int)) ∧
           (z = false →
             bitR (p, (1 : Int)) ∧
               ((!bitM p (1 : Int)) = true → bitR (p, (3 : Int))) ∧
                 ((bif !bitM p (1 : Int) then !bitM p (3 : Int) else false) = true →
                     ((!l == (0 : Int)) = true → bitR (p, (4 : Int))) ∧
                       ((!bif l == (0 : Int) then true else bitM p (4 : Int)) = true → bitR (p, (6 : Int))) ∧
                         ((!bif bif l == (0 : Int) then true else bitM p (4 : Int) then true else bitM p (6 : Int)) = true → bitR (p, (7 : Int))) ∧
                           ((bif bif bif l == (0 : Int) then true else bitM p (4 : Int) then true else bitM p (6 : Int) then true else bitM p (7 : Int)) = true → kindM p l = (0 : Int)) ∧
                             ((bif bif bif l == (0 : Int) then true else bitM p (4 : Int) then true else bitM p (6 : Int) then true else bitM p (7 : Int)) = false → kindM p l = (1 : Int))) ∧
                   ((bif !bitM p (1 : Int) then !bitM p (3 : Int) else false) = false →
                     U64 p ∧
                       (0 : Int) ≤ IntKind.i64.wrap ((3 : Int) * l) ∧
                         ((bits BinOp.and IntKind.u64 (ppnM p) (IntKind.u64.wrap (IntKind.u64.wrap ((1 : Int) * (2 : Int) ^ min (IntKind.i64.wrap ((3 : Int) * l)).toNat (64 : Nat)) - (1 : Int))) !=
                                 (0 : Int)) =
                               true →
                             kindM p l = (0 : Int)) ∧
                           ((bits BinOp.and IntKind.u64 (ppnM p) (IntKind.u64.wrap (IntKind.u64.wrap ((1 : Int) * (2 : Int) ^ min (IntKind.i64.wrap ((3 : Int) * l)).toNat (64 : Nat)) - (1 : Int))) !=
                                 (0 : Int)) =
                               false →
                             kindM p l = (2 : Int))))) := by kernel_rfl
theorem vc_grants_eq (p k m : Int) (s x : Bool) (t : Int) : vc_grants p k m s x t = (
 ∃ (J : Bool → Prop),
   (((k == (0 : Int)) = true → bitR (p, (3 : Int)) ∧ ∃ (z : Bool), (p = p ∧ k = k ∧ z = bitM p (3 : Int) ∧ m = m ∧ s = s ∧ x = x ∧ t = t) ∧ J z) ∧
       ((k == (0 : Int)) = false →
         ((k == (1 : Int)) = true →
             bitR (p, (1 : Int)) ∧
               ((!bitM p (1 : Int)) = true → bitR (p, (3 : Int))) ∧
                 ∃ (z : Bool), (p = p ∧ k = k ∧ (z = bif bitM p (1 : Int) then true else bif bitM p (3 : Int) then x else false) ∧ m = m ∧ s = s ∧ x = x ∧ t = t) ∧ J z) ∧
           ((k == (1 : Int)) = false →
             ((k == (2 : Int)) = true →
                 bitR (p, (2 : Int)) ∧
                   (bitM p (2 : Int) = true → bitR (p, (7 : Int))) ∧ ∃ (z : Bool), (p = p ∧ k = k ∧ (z = bif bitM p (2 : Int) then bitM p (7 : Int) else false) ∧ m = m ∧ s = s ∧ x = x ∧ t = t) ∧ J z) ∧
               ((k == (2 : Int)) = false → ∃ (z : Bool), (p = p ∧ k = k ∧ z = false ∧ m = m ∧ s = s ∧ x = x ∧ t = t) ∧ J z)))) ∧
     ∀ (z : Bool),
       J z →
         ∃ (J : Bool → Prop),
           (((m == (0 : Int)) = true → (z = true → bitR (p, (4 : Int))) ∧ ∃ (z_1 : Bool), (p = p ∧ z_1 = bif z then bitM p (4 : Int) else false) ∧ J z_1) ∧
               ((m == (0 : Int)) = false →
                 ((m == (1 : Int)) = true →
                     (z = true → bitR (p, (4 : Int))) ∧ ∃ (z_1 : Bool), (p = p ∧ z_1 = bif z then bif !bitM p (4 : Int) then true else bif k != (0 : Int) then s else false else false) ∧ J z_1) ∧
                   ((m == (1 : Int)) = false → ∃ (z : Bool), (p = p ∧ z = false) ∧ J z))) ∧
             ∀ (z : Bool), J z → (z = true → bitR (p, (6 : Int))) ∧ grantM p k m s x = bif z then bitM p (6 : Int) else false) := by kernel_rfl
theorem vc_physical_eq (p l va : Int) : vc_physical p l va = (
 (0 : Int) ≤ IntKind.i64.wrap ((6 : Int) + IntKind.i64.wrap ((3 : Int) * l)) ∧
   U64 p ∧
     (0 : Int) ≤ (6 : Int) ∧
       physM p l va =
         bits BinOp.or IntKind.u64
           (bits BinOp.andNot IntKind.u64 (IntKind.u64.wrap (ppnM p * (2 : Int) ^ min (Int.toNat (6 : Int)) (64 : Nat)))
             (IntKind.u64.wrap (IntKind.u64.wrap ((1 : Int) * (2 : Int) ^ min (IntKind.i64.wrap ((6 : Int) + IntKind.i64.wrap ((3 : Int) * l))).toNat (64 : Nat)) - (1 : Int))))
           (bits BinOp.and IntKind.u64 va
             (IntKind.u64.wrap (IntKind.u64.wrap ((1 : Int) * (2 : Int) ^ min (IntKind.i64.wrap ((6 : Int) + IntKind.i64.wrap ((3 : Int) * l))).toNat (64 : Nat)) - (1 : Int))))) := by kernel_rfl
theorem vc_bit_eq (x i : Int) : vc_bit x i = (
 bitsR (x, i, i) ∧ bitM x i = (bitsM x i i == (1 : Int))) := by kernel_rfl
theorem vc_ppn_eq (x : Int) : vc_ppn x = (
 bitsR (x, (10 : Int), (53 : Int)) ∧ ppnM x = bitsM x (10 : Int) (53 : Int)) := by kernel_rfl
theorem vc_scanon_eq (x : Int) : vc_scanon x = (
 bitsR (x, (14 : Int), (63 : Int)) ∧
   ((!bitsM x (14 : Int) (63 : Int) == (0 : Int)) = true → (50 : Int) ≤ (64 : PmT [i64])) ∧
     canM x = bif bitsM x (14 : Int) (63 : Int) == (0 : Int) then true else bitsM x (14 : Int) (63 : Int) == IntKind.u64.wrap (pw (50 : Int) - (1 : Int))) := by kernel_rfl
theorem vc_index_eq (x l : Int) : vc_index x l = (
 bitsR (x, IntKind.i64.wrap ((6 : Int) + IntKind.i64.wrap ((3 : Int) * l)), IntKind.i64.wrap ((8 : Int) + IntKind.i64.wrap ((3 : Int) * l))) ∧
   idxM x l = bitsM x (IntKind.i64.wrap ((6 : Int) + IntKind.i64.wrap ((3 : Int) * l))) (IntKind.i64.wrap ((8 : Int) + IntKind.i64.wrap ((3 : Int) * l)))) := by kernel_rfl
theorem vc_son_eq (m : Int) (s x : Bool) (t : Int) : vc_son m s x t = (
 bitsR (t, (60 : Int), (63 : Int)) ∧ onM (m, s, x, t) = bif bitsM t (60 : Int) (63 : Int) == (8 : Int) then bif m == (0 : Int) then true else m == (1 : Int) else false) := by kernel_rfl
theorem vc_sasid_eq (t : Int) : vc_sasid t = (
 bitsR (t, (44 : Int), (59 : Int)) ∧ asidM t = bitsM t (44 : Int) (59 : Int)) := by kernel_rfl
theorem vc_stag_eq (x l : Int) : vc_stag x l = (
 bitsR (x, IntKind.i64.wrap ((6 : Int) + IntKind.i64.wrap ((3 : Int) * l)), (14 : Int)) ∧ tagM x l = bitsM x (IntKind.i64.wrap ((6 : Int) + IntKind.i64.wrap ((3 : Int) * l))) (14 : Int)) := by kernel_rfl
theorem vc_ikind_eq (p l : Int) : vc_ikind p l = (
 U64 p ∧ kindM p l = kindM p l) := by kernel_rfl
theorem vc_igranted_eq (p k m : Int) (s x : Bool) : vc_igranted p k m s x = (
 U64 p ∧ grantM p k m s x = grantM p k m s x) := by kernel_rfl
theorem vc_iphys_eq (p l va : Int) : vc_iphys p l va = (
 ((!lvM l) = true → physM p l va = (0 : Int)) ∧ ((!lvM l) = false → (U64 p ∧ LvR l ∧ U64 va) ∧ physM p l va = physM p l va)) := by kernel_rfl
theorem vc_skind_eq (p l : Int) : vc_skind p l = (
 bitR (p, (1 : Int)) ∧
   bitR (p, (2 : Int)) ∧
     bitR (p, (3 : Int)) ∧
       bitR (p, (4 : Int)) ∧
         bitR (p, (6 : Int)) ∧
           bitR (p, (7 : Int)) ∧
             ((!bif decide (l < (0 : Int)) then true else decide (l > (2 : Int))) = true → bitR (p, (0 : Int))) ∧
               ((!bif bif decide (l < (0 : Int)) then true else decide (l > (2 : Int)) then true else !bitM p (0 : Int)) = true → bitsR (p, (54 : Int), (63 : Int))) ∧
                 ((bif bif bif bif decide (l < (0 : Int)) then true else decide (l > (2 : Int)) then true else !bitM p (0 : Int) then true else decide (bitsM p (54 : Int) (63 : Int) > (0 : Int)) then
                         true
                       else bif bitM p (2 : Int) then !bitM p (1 : Int) else false) =
                       true →
                     kindM p l = (0 : Int)) ∧
                   ((bif bif bif bif decide (l < (0 : Int)) then true else decide (l > (2 : Int)) then true else !bitM p (0 : Int) then true else decide (bitsM p (54 : Int) (63 : Int) > (0 : Int)) then
                         true
                       else bif bitM p (2 : Int) then !bitM p (1 : Int) else false) =
                       false →
                     ((bif bif !bitM p (1 : Int) then !bitM p (2 : Int) else false then !bitM p (3 : Int) else false) = true →
                         ((bif bif bif l == (0 : Int) then true else bitM p (4 : Int) then true else bitM p (6 : Int) then true else bitM p (7 : Int)) = true → kindM p l = (0 : Int)) ∧
                           ((bif bif bif l == (0 : Int) then true else bitM p (4 : Int) then true else bitM p (6 : Int) then true else bitM p (7 : Int)) = false → kindM p l = (1 : Int))) ∧
                       ((bif bif !bitM p (1 : Int) then !bitM p (2 : Int) else false then !bitM p (3 : Int) else false) = false →
                         U64 p ∧
                           IntKind.i64.wrap ((3 : Int) * l) ≤ (64 : PmT [i64]) ∧
                             pw (IntKind.i64.wrap ((3 : Int) * l)) ≠ (0 : Int) ∧
                               (decide ((ppnM p).tmod (pw (IntKind.i64.wrap ((3 : Int) * l))) > (0 : Int)) = true → kindM p l = (0 : Int)) ∧
                                 (decide ((ppnM p).tmod (pw (IntKind.i64.wrap ((3 : Int) * l))) > (0 : Int)) = false → kindM p l = (2 : Int))))) := by kernel_rfl
theorem vc_sgranted_eq (p k m : Int) (s x : Bool) : vc_sgranted p k m s x = (
 bitR (p, (1 : Int)) ∧
   bitR (p, (2 : Int)) ∧
     bitR (p, (3 : Int)) ∧
       bitR (p, (4 : Int)) ∧
         bitR (p, (6 : Int)) ∧
           bitR (p, (7 : Int)) ∧
             ∃ (J : Bool → Prop),
               (((k == (0 : Int)) = true →
                     ∃ (z : Bool),
                       (p = p ∧
                           k = k ∧
                             m = m ∧
                               s = s ∧
                                 x = x ∧
                                   bitM p (1 : Int) = bitM p (1 : Int) ∧
                                     bitM p (2 : Int) = bitM p (2 : Int) ∧
                                       bitM p (3 : Int) = bitM p (3 : Int) ∧
                                         bitM p (4 : Int) = bitM p (4 : Int) ∧ bitM p (6 : Int) = bitM p (6 : Int) ∧ bitM p (7 : Int) = bitM p (7 : Int) ∧ z = bitM p (3 : Int)) ∧
                         J z) ∧
                   ((k == (0 : Int)) = false →
                     ∃ (z : Bool),
                       (p = p ∧
                           k = k ∧
                             m = m ∧
                               s = s ∧
                                 x = x ∧
                                   bitM p (1 : Int) = bitM p (1 : Int) ∧
                                     bitM p (2 : Int) = bitM p (2 : Int) ∧
                                       bitM p (3 : Int) = bitM p (3 : Int) ∧
                                         bitM p (4 : Int) = bitM p (4 : Int) ∧ bitM p (6 : Int) = bitM p (6 : Int) ∧ bitM p (7 : Int) = bitM p (7 : Int) ∧ z = false) ∧
                         J z)) ∧
                 ∀ (z : Bool),
                   J z →
                     ∃ (J : Bool → Prop),
                       (((k == (1 : Int)) = true →
                             ∃ (z : Bool),
                               (p = p ∧
                                   k = k ∧
                                     m = m ∧
                                       s = s ∧
                                         x = x ∧
                                           bitM p (1 : Int) = bitM p (1 : Int) ∧
                                             bitM p (2 : Int) = bitM p (2 : Int) ∧
                                               bitM p (3 : Int) = bitM p (3 : Int) ∧
                                                 bitM p (4 : Int) = bitM p (4 : Int) ∧
                                                   bitM p (6 : Int) = bitM p (6 : Int) ∧
                                                     bitM p (7 : Int) = bitM p (7 : Int) ∧ z = bif bitM p (1 : Int) then true else bif x then bitM p (3 : Int) else false) ∧
                                 J z) ∧
                           ((k == (1 : Int)) = false →
                             ∃ (z_1 : Bool),
                               (p = p ∧
                                   k = k ∧
                                     m = m ∧
                                       s = s ∧
                                         x = x ∧
                                           bitM p (1 : Int) = bitM p (1 : Int) ∧
                                             bitM p (2 : Int) = bitM p (2 : Int) ∧
                                               bitM p (3 : Int) = bitM p (3 : Int) ∧
                                                 bitM p (4 : Int) = bitM p (4 : Int) ∧ bitM p (6 : Int) = bitM p (6 : Int) ∧ bitM p (7 : Int) = bitM p (7 : Int) ∧ z_1 = z) ∧
                                 J z_1)) ∧
                         ∀ (z : Bool),
                           J z →
                             ∃ (J : Bool → Prop),
                               (((k == (2 : Int)) = true →
                                     ∃ (z : Bool),
                                       (p = p ∧
                                           k = k ∧
                                             m = m ∧
                                               s = s ∧
                                                 x = x ∧
                                                   bitM p (1 : Int) = bitM p (1 : Int) ∧
                                                     bitM p (2 : Int) = bitM p (2 : Int) ∧
                                                       bitM p (3 : Int) = bitM p (3 : Int) ∧
                                                         bitM p (4 : Int) = bitM p (4 : Int) ∧
                                                           bitM p (6 : Int) = bitM p (6 : Int) ∧ bitM p (7 : Int) = bitM p (7 : Int) ∧ z = bif bitM p (2 : Int) then bitM p (7 : Int) else false) ∧
                                         J z) ∧
                                   ((k == (2 : Int)) = false →
                                     ∃ (z_1 : Bool),
                                       (p = p ∧
                                           k = k ∧
                                             m = m ∧
                                               s = s ∧
                                                 x = x ∧
                                                   bitM p (1 : Int) = bitM p (1 : Int) ∧
                                                     bitM p (2 : Int) = bitM p (2 : Int) ∧
                                                       bitM p (3 : Int) = bitM p (3 : Int) ∧
                                                         bitM p (4 : Int) = bitM p (4 : Int) ∧ bitM p (6 : Int) = bitM p (6 : Int) ∧ bitM p (7 : Int) = bitM p (7 : Int) ∧ z_1 = z) ∧
                                         J z_1)) ∧
                                 ∀ (z : Bool),
                                   J z →
                                     ∃ (J : Bool × Bool → Prop),
                                       (((m == (0 : Int)) = true →
                                             ∃ (z_1 : Bool × Bool),
                                               (k = k ∧ m = m ∧ s = s ∧ bitM p (4 : Int) = bitM p (4 : Int) ∧ bitM p (6 : Int) = bitM p (6 : Int) ∧ z_1.fst = z ∧ z_1.snd = bitM p (4 : Int)) ∧ J z_1) ∧
                                           ((m == (0 : Int)) = false →
                                             ∃ (z_1 : Bool × Bool),
                                               (k = k ∧ m = m ∧ s = s ∧ bitM p (4 : Int) = bitM p (4 : Int) ∧ bitM p (6 : Int) = bitM p (6 : Int) ∧ z_1.fst = z ∧ z_1.snd = false) ∧ J z_1)) ∧
                                         ∀ (z : Bool × Bool),
                                           J z →
                                             ∃ (J : Bool × Bool → Prop),
                                               (((m == (1 : Int)) = true →
                                                     ∃ (z_1 : Bool × Bool),
                                                       (k = k ∧
                                                           m = m ∧
                                                             s = s ∧
                                                               bitM p (4 : Int) = bitM p (4 : Int) ∧
                                                                 bitM p (6 : Int) = bitM p (6 : Int) ∧
                                                                   z_1.fst = z.fst ∧ z_1.snd = bif !bitM p (4 : Int) then true else bif k != (0 : Int) then s else false) ∧
                                                         J z_1) ∧
                                                   ((m == (1 : Int)) = false →
                                                     ∃ (z_1 : Bool × Bool),
                                                       (k = k ∧ m = m ∧ s = s ∧ bitM p (4 : Int) = bitM p (4 : Int) ∧ bitM p (6 : Int) = bitM p (6 : Int) ∧ z_1.fst = z.fst ∧ z_1.snd = z.snd) ∧
                                                         J z_1)) ∧
                                                 ∀ (z : Bool × Bool), J z → grantM p k m s x = bif bif z.fst then z.snd else false then bitM p (6 : Int) else false) := by kernel_rfl
theorem vc_sphys_eq (p l va : Int) : vc_sphys p l va = (
 ((bif decide (l < (0 : Int)) then true else decide (l > (2 : Int))) = true → physM p l va = (0 : Int)) ∧
   ((bif decide (l < (0 : Int)) then true else decide (l > (2 : Int))) = false →
     IntKind.i64.wrap ((6 : Int) + IntKind.i64.wrap ((3 : Int) * l)) ≤ (64 : PmT [i64]) ∧
       U64 p ∧
         pw (IntKind.i64.wrap ((6 : Int) + IntKind.i64.wrap ((3 : Int) * l))) ≠ (0 : Int) ∧
           pw (IntKind.i64.wrap ((6 : Int) + IntKind.i64.wrap ((3 : Int) * l))) ≠ (0 : Int) ∧
             physM p l va =
               IntKind.u64.wrap
                 (IntKind.u64.wrap
                     (IntKind.u64.wrap ((IntKind.u64.wrap (ppnM p * (64 : Int))).tdiv (pw (IntKind.i64.wrap ((6 : Int) + IntKind.i64.wrap ((3 : Int) * l))))) *
                       pw (IntKind.i64.wrap ((6 : Int) + IntKind.i64.wrap ((3 : Int) * l)))) +
                   va.tmod (pw (IntKind.i64.wrap ((6 : Int) + IntKind.i64.wrap ((3 : Int) * l))))))) := by kernel_rfl
end Go.Proofs.Ytfiddfbagbaofaa.V
namespace Go.Proofs.Ytfiddfbagbaofaa.V
open Go
set_option linter.unusedSimpArgs false

theorem mixed : Try.prog.follows .mixedOrders = true := by kernel_rfl

theorem pw_in {n : Int} (h0 : 0 ≤ n) (h1 : n ≤ 63) : pw n = 2 ^ n.toNat := by
  unfold pw
  split
  · have : n = 0 := by omega
    subst this; rfl
  · have h := pow_le (m := n.toNat) (n := 63) (by omega)
    have := pow_pos n.toNat
    rw [Int.emod_eq_of_lt (by omega) (by omega)]
theorem pw_succ {n : Int} (h : 0 < n) : pw n = IntKind.u64.wrap (2 * pw (n - 1)) := by
  rw [IntKind.wrap_u64]
  unfold pw
  rw [if_neg (by omega)]
  by_cases h1 : n - 1 ≤ 0
  · have : n = 1 := by omega
    subst this; rfl
  · rw [if_neg h1]
    have e : n.toNat = (n - 1).toNat + 1 := by omega
    rw [e, Int.pow_succ]
    omega
theorem lv_cases {l : Int} (h : LvR l) : l = 0 ∨ l = 1 ∨ l = 2 := by unfold LvR at h; omega

theorem pow_ok : ∀ k : Nat, Sound Try.prog 88 (powS k)
  | 0 => pure_plain mixed Try.func88 (by kernel_rfl) (by kernel_rfl) (D := mkD [] [] []) (mkD_ok .nil .nil .nil) (fun (n : Int) h => absurd h.2 (Nat.not_lt_zero _))
  | k + 1 => by
    refine pure_plain mixed Try.func88 (by kernel_rfl) (by kernel_rfl) (D := mkD [(88, powS k)] [] []) (mkD_ok (.cons (by kernel_rfl) (pow_ok k) .nil) .nil .nil) (fun (n : Int) h => ?_)
    have h : n ≤ 64 ∧ n.toNat < k + 1 := h
    refine vc_by (vc_pow_eq k n) ⟨fun hn => ?_, fun hn => ?_⟩
    · have : n ≤ 0 := by simpa using hn
      simp [pw, this]
    · have hn' : 0 < n := by simpa using hn
      rw [wrap_i64_in (by omega) (by omega)]
      exact ⟨by omega, pw_succ hn'⟩
theorem pow_all : Sound Try.prog 88 (pureS [i64] [u64] (fun n => some (n ≤ 64)) pw) :=
  pureS_weaken (pow_ok 65) (fun (n : Int) h => by have h : n ≤ 64 := h; exact ⟨h, by omega⟩)
theorem F0_ok : DictOk Try.prog F0 := mkD_ok .nil .nil .nil
theorem and_one {x : Int} (h : U64 x) : bits .and .u64 x 1 = x % 2 := and_lit 1 1 2 (by decide) (by decide) (by decide) h.1 h.2
theorem div_U64 {x : Int} (n : Nat) (h : U64 x) : U64 (x / 2 ^ n) := by
  have := div_in n h.1
  exact ⟨this.1, by have := h.2; omega⟩
theorem ibit_ok : Sound Try.prog 182 (pureS [u64, i64] [bl] (fun t => some (bitR t)) (fun t => bitM t.1 t.2)) := by
  refine pure_plain mixed Try.func182 (by kernel_rfl) (by kernel_rfl) F0_ok (fun t h => ?_)
  obtain ⟨x, i⟩ := t
  obtain ⟨h1, h2, h3⟩ : bitR (x, i) := h
  simp only at h1 h2 h3
  refine vc_by (vc_ibit_eq x i) ⟨h2, ?_⟩
  rw [show min i.toNat 64 = i.toNat by omega, and_one (div_U64 _ h1)]
  rfl
theorem page_ok : Sound Try.prog 181 (pureS [u64] [u64] (fun x => some (U64 x)) ppnM) := by
  refine pure_plain mixed Try.func181 (by kernel_rfl) (by kernel_rfl) F0_ok (fun x h => ?_)
  have h : U64 x := h
  refine vc_by (vc_page_eq x) ⟨by decide, ?_⟩
  have e : (2 : Int) ^ min (Int.toNat 10) 64 = 2 ^ 10 := by decide
  rw [e, and_lit 44 17592186044415 17592186044416 (by decide) (by decide) (by decide) (div_U64 10 h).1 (div_U64 10 h).2]
  rfl
theorem goodLevel_ok : Sound Try.prog 90 (pureS [i64] [bl] (fun _ => none) lvM) := by
  refine pure_plain mixed Try.func90 (by kernel_rfl) (by kernel_rfl) F0_ok (fun (x : Int) _ => ?_)
  refine vc_by (vc_goodLevel_eq x) ?_
  unfold lvM
  cases h : decide (0 ≤ x) <;> simp_all
theorem icanon_ok : Sound Try.prog 22 (pureS [u64] [bl] (fun x => some (U64 x)) canM) := by
  refine pure_plain mixed Try.func22 (by kernel_rfl) (by kernel_rfl) F0_ok (fun x _ => ?_)
  refine vc_by (vc_icanon_eq x) ⟨by decide, fun _ => by decide, ?_⟩
  have e : (2 : Int) ^ min (Int.toNat 14) 64 = 16384 := by decide
  rw [e]
  unfold canM
  cases x / 16384 == 0 <;> rfl
theorem rootPage_ok : Sound Try.prog 122 (pureS [u64] [u64] (fun x => some (U64 x)) rootM) := by
  refine pure_plain mixed Try.func122 (by kernel_rfl) (by kernel_rfl) F0_ok (fun x h => ?_)
  have h : U64 x := h
  exact vc_by (vc_rootPage_eq x) (and_lit 44 17592186044415 17592186044416 (by decide) (by decide) (by decide) h.1 h.2).symm
theorem on_ok : Sound Try.prog 141 (pureS [ctxP] [bl] (fun c => some (U64 c.2.2.2)) onM) := by
  refine pure_plain mixed Try.func141 (by kernel_rfl) (by kernel_rfl) F0_ok (fun c _ => ?_)
  obtain ⟨m, s, x, t⟩ : Int × Bool × Bool × Int := c
  refine vc_by (vc_on_eq m s x t) ⟨by decide, ?_⟩
  have e : (2 : Int) ^ min (Int.toNat 60) 64 = 1152921504606846976 := by decide
  rw [e]
  unfold onM
  cases t / 1152921504606846976 == 8 <;> cases m == 0 <;> rfl
theorem asid_ok : Sound Try.prog 200 (pureS [ctxP] [u64] (fun c => some (U64 c.2.2.2)) (fun c => asidM c.2.2.2)) := by
  refine pure_plain mixed Try.func200 (by kernel_rfl) (by kernel_rfl) F0_ok (fun c h => ?_)
  obtain ⟨m, s, x, t⟩ : Int × Bool × Bool × Int := c
  have h : U64 t := h
  refine vc_by (vc_asid_eq m s x t) ⟨by decide, ?_⟩
  have e : (2 : Int) ^ min (Int.toNat 44) 64 = 2 ^ 44 := by decide
  have e2 : (2 : Int) ^ 44 = 17592186044416 := by decide
  rw [e, and_lit 16 65535 65536 (by decide) (by decide) (by decide) (div_U64 44 h).1 (div_U64 44 h).2, e2]
  rfl
theorem tag_ok : Sound Try.prog 191 (pureS [u64, i64] [u64] (fun t => some (U64 t.1 ∧ LvR t.2)) (fun t => tagM t.1 t.2)) := by
  refine pure_plain mixed Try.func191 (by kernel_rfl) (by kernel_rfl) F0_ok (fun t h => ?_)
  obtain ⟨x, l⟩ := t
  obtain ⟨h1, h2⟩ : U64 x ∧ LvR l := h
  refine vc_by (vc_tag_eq x l) ?_
  have e : bits .and .u64 x 32767 = x % 32768 := and_lit 15 32767 32768 (by decide) (by decide) (by decide) h1.1 h1.2
  rw [e]
  rcases lv_cases h2 with rfl | rfl | rfl <;> exact ⟨by decide, rfl⟩
theorem goodAsk_ok : Sound Try.prog 140 (pureS [ctxP, i64] [bl] (fun _ => none) (fun t => askM t.1 t.2)) := by
  refine pure_plain mixed Try.func140 (by kernel_rfl) (by kernel_rfl) F0_ok (fun t _ => ?_)
  obtain ⟨⟨m, s, x, t⟩, k⟩ : (Int × Bool × Bool × Int) × Int := t
  refine vc_by (vc_goodAsk_eq m s x t k) ?_
  unfold askM
  simp only [ge_iff_le]
  cases decide (0 ≤ k) <;> cases decide (k ≤ 2) <;> cases decide (0 ≤ m) <;> rfl
theorem pf_ok : Sound Try.prog 174 (pureS [i64] [i64] (fun _ => none) pfM) := by
  refine pure_plain mixed Try.func174 (by kernel_rfl) (by kernel_rfl) F0_ok (fun k _ => ?_)
  refine vc_by (vc_pf_eq k) ⟨fun h => ?_, fun h => ⟨fun g => ?_, fun g => ?_⟩⟩ <;> simp_all [pfM]
theorem af_ok : Sound Try.prog 197 (pureS [i64] [i64] (fun _ => none) afM) := by
  refine pure_plain mixed Try.func197 (by kernel_rfl) (by kernel_rfl) F0_ok (fun k _ => ?_)
  refine vc_by (vc_af_eq k) ⟨fun h => ?_, fun h => ⟨fun g => ?_, fun g => ?_⟩⟩ <;> simp_all [afM]
theorem kA1_ok : KnowsD Try.prog kA1 :=
  .cons (by kernel_rfl) pow_all <| .cons (by kernel_rfl) ibit_ok <| .cons (by kernel_rfl) page_ok <| .cons (by kernel_rfl) goodLevel_ok <| .cons (by kernel_rfl) icanon_ok <| .cons (by kernel_rfl) rootPage_ok <|
  .cons (by kernel_rfl) on_ok <| .cons (by kernel_rfl) asid_ok <| .cons (by kernel_rfl) tag_ok <| .cons (by kernel_rfl) goodAsk_ok <| .cons (by kernel_rfl) pf_ok <| .cons (by kernel_rfl) af_ok .nil

theorem F1_ok : DictOk Try.prog F1 := mkD_ok kA1_ok .nil .nil
theorem bitR_of {p i : Int} (h : U64 p) (h0 : 0 ≤ i) (h1 : i ≤ 62) : bitR (p, i) := ⟨h, h0, h1⟩
theorem bits_ok : Sound Try.prog 87 (pureS [u64, i64, i64] [u64] (fun t => some (bitsR t)) (fun t => bitsM t.1 t.2.1 t.2.2)) := by
  refine pure_plain mixed Try.func87 (by kernel_rfl) (by kernel_rfl) F1_ok (fun t h => ?_)
  obtain ⟨x, i, j⟩ : Int × Int × Int := t
  obtain ⟨h1, h2, h3, h4, h5⟩ : bitsR (x, i, j) := h
  simp only at h1 h2 h3 h4 h5
  refine vc_by (vc_bits_eq x i j) ?_
  have w : IntKind.i64.wrap (IntKind.i64.wrap (j - i) + 1) = j - i + 1 := by
    rw [wrap_i64_in (n := j - i) (by omega) (by omega), wrap_i64_in (by omega) (by omega)]
  have q1 := pow_pos i.toNat
  have q2 := pow_pos (j - i + 1).toNat
  have := div_U64 i.toNat h1
  rw [w, pw_in h2 (by omega), pw_in (n := j - i + 1) (by omega) (by omega), tdiv_pos h1.1, wrap_u64_in this.1 this.2, tmod_pos this.1]
  exact ⟨by show i ≤ (64 : Int); omega, by omega, by show j - i + 1 ≤ (64 : Int); omega, by omega, rfl⟩
theorem ppn_in {p : Int} (_h : U64 p) : 0 ≤ ppnM p ∧ ppnM p < 17592186044416 := by
  unfold ppnM
  exact ⟨Int.emod_nonneg _ (by decide), Int.emod_lt_of_pos _ (by decide)⟩
theorem kind_ok : Sound Try.prog 93 (pureS [u64, i64] [i64] (fun t => some (U64 t.1)) (fun t => kindM t.1 t.2)) := by
  refine pure_cut mixed Try.func93 (by kernel_rfl) (by kernel_rfl) F1_ok (fun t h => ?_)
  obtain ⟨p, l⟩ : Int × Int := t
  have h : U64 p := h
  have e : (2 : Int) ^ min (Int.toNat 54) 64 = 18014398509481984 := by decide
  refine ⟨kindX p l, vc_by (vc_kind_eq p l) ?_⟩
  rw [e]
  have hk : ∀ k : Int, 0 ≤ k → k ≤ 62 → bitR (p, k) := fun k h0 h1 => ⟨h, h0, h1⟩
  refine ⟨fun z => z = (!lvM l || !bitM p 0 || p / 18014398509481984 != 0 || (bitM p 2 && !bitM p 1)), ⟨fun g => ⟨_, ⟨rfl, rfl, rfl⟩, ?_⟩, fun g => ⟨hk _ (by decide) (by decide), fun g2 => ⟨_, ⟨rfl, rfl, rfl⟩, ?_⟩, fun g2 => ⟨by decide, fun g3 => ⟨_, ⟨rfl, rfl, rfl⟩, ?_⟩, fun g3 => ⟨hk _ (by decide) (by decide), fun _ => hk _ (by decide) (by decide), _, ⟨rfl, rfl, rfl⟩, ?_⟩⟩⟩⟩, fun z hz => ?_⟩
  · simp [g]
  · simp [g2]
  · simp [g3]
  · simp only [g, g2, g3, Bool.false_or, Bool.cond_false_right]
  · simp only at hz
    refine ⟨fun g => ?_, fun g => ⟨hk _ (by decide) (by decide), fun _ => hk _ (by decide) (by decide), fun g2 => ⟨fun _ => hk _ (by decide) (by decide), fun _ => hk _ (by decide) (by decide), fun _ => hk _ (by decide) (by decide), fun g3 => ?_, fun g3 => ?_⟩, fun g2 => ?_⟩⟩
    · unfold kindM
      rw [← hz, if_pos g]
    · simp only [Bool.cond_true_left, Bool.cond_false_right] at g2 g3
      unfold kindM
      rw [← hz, if_neg (by simp [g]), if_pos g2, if_pos g3]
    · simp only [Bool.cond_true_left, Bool.cond_false_right] at g2 g3
      unfold kindM
      rw [← hz, if_neg (by simp [g]), if_pos g2, if_neg (by simp [g3])]
    · simp only [Bool.cond_false_right] at g2
      have hl : LvR l := by
        rw [hz] at g
        simp only [Bool.or_eq_false_iff, Bool.not_eq_false', lvM, Bool.and_eq_true, decide_eq_true_eq] at g
        exact g.1.1.1
      have hp := ppn_in h
      have key : bits .and .u64 (ppnM p) (IntKind.u64.wrap (IntKind.u64.wrap (1 * 2 ^ min (IntKind.i64.wrap (3 * l)).toNat 64) - 1)) = ppnM p % 2 ^ (3 * l).toNat ∧ 0 ≤ IntKind.i64.wrap (3 * l) := by
        rcases lv_cases hl with rfl | rfl | rfl
        · exact ⟨and_lit 0 _ _ (by decide) (by decide) (by decide) hp.1 (by omega), by decide⟩
        · exact ⟨and_lit 3 _ _ (by decide) (by decide) (by decide) hp.1 (by omega), by decide⟩
        · exact ⟨and_lit 6 _ _ (by decide) (by decide) (by decide) hp.1 (by omega), by decide⟩
      rw [key.1]
      refine ⟨h, key.2, fun g3 => ?_, fun g3 => ?_⟩
      · unfold kindM
        rw [← hz, if_neg (by simp [g]), if_neg (by simp [g2]), if_neg (by simpa using g3)]
      · unfold kindM
        rw [← hz, if_neg (by simp [g]), if_neg (by simp [g2]), if_pos (by simpa using g3)]
theorem grants_ok : Sound Try.prog 94 (pureS [u64, i64, ctxP] [bl] (fun t => some (U64 t.1)) (fun t => grantM t.1 t.2.1 t.2.2.1 t.2.2.2.1 t.2.2.2.2.1)) := by
  refine pure_cut mixed Try.func94 (by kernel_rfl) (by kernel_rfl) F1_ok (fun t h => ?_)
  obtain ⟨p, k, m, s, x, t⟩ : Int × Int × Int × Bool × Bool × Int := t
  have h : U64 p := h
  have hk : ∀ k : Int, 0 ≤ k → k ≤ 62 → bitR (p, k) := fun k h0 h1 => ⟨h, h0, h1⟩
  refine ⟨grantsX p k m s x t, vc_by (vc_grants_eq p k m s x t) ?_⟩
  refine ⟨fun z => z = mayM p k x, ⟨fun g => ⟨hk _ (by decide) (by decide), _, ⟨rfl, rfl, rfl, rfl, rfl, rfl, rfl⟩, ?_⟩, fun g => ⟨fun g2 => ⟨hk _ (by decide) (by decide), fun _ => hk _ (by decide) (by decide), _, ⟨rfl, rfl, rfl, rfl, rfl, rfl, rfl⟩, ?_⟩, fun g2 => ⟨fun g3 => ⟨hk _ (by decide) (by decide), fun _ => hk _ (by decide) (by decide), _, ⟨rfl, rfl, rfl, rfl, rfl, rfl, rfl⟩, ?_⟩, fun g3 => ⟨_, ⟨rfl, rfl, rfl, rfl, rfl, rfl, rfl⟩, ?_⟩⟩⟩⟩, fun z hz => ?_⟩
  · simp only [beq_iff_eq] at g
    simp [mayM, g]
  · simp only [beq_iff_eq] at g2
    simp [mayM, g2]
  · simp only [beq_iff_eq] at g3
    simp [mayM, g3]
  · simp only [beq_eq_false_iff_ne] at g g2 g3
    simp [mayM, g, g2, g3]
  · refine ⟨fun y => y = (z && whoM p k m s), ⟨fun g => ⟨fun _ => hk _ (by decide) (by decide), _, ⟨rfl, rfl⟩, ?_⟩, fun g => ⟨fun g2 => ⟨fun _ => hk _ (by decide) (by decide), _, ⟨rfl, rfl⟩, ?_⟩, fun g2 => ⟨_, ⟨rfl, rfl⟩, ?_⟩⟩⟩, fun y hy => ⟨fun _ => hk _ (by decide) (by decide), ?_⟩⟩
    · simp only [beq_iff_eq] at g
      simp [whoM, g]
    · simp only [beq_iff_eq] at g2
      simp [whoM, g2]
    · simp only [beq_eq_false_iff_ne] at g g2
      simp [whoM, g, g2]
    · simp only at hy hz
      rw [hy, hz]
      simp [grantM]
theorem phys_eq (n : Nat) (h6 : 6 ≤ n) (hn : n ≤ 12) {p va : Int} (hp : U64 p) (hv : U64 va) : bits .or .u64 (bits .andNot .u64 (IntKind.u64.wrap (ppnM p * 64)) (2 ^ n - 1)) (bits .and .u64 va (2 ^ n - 1)) = ppnM p * 64 / 2 ^ n * 2 ^ n + va % 2 ^ n := by
  obtain ⟨a, b⟩ := ppn_in hp
  have hq := pow_pos n
  have hm := mod_in va n
  have hm2 := mod_in (ppnM p * 64) n
  have hle := pow_le (m := n) (n := 12) hn
  have hd := Int.emod_add_mul_ediv (ppnM p * 64) (2 ^ n)
  rw [wrap_u64_in (by omega) (by omega), andNot_mask n (by omega) (by omega) (by omega), and_mask n (by omega) hv.1 hv.2]
  have e : ppnM p * 64 - ppnM p * 64 % 2 ^ n = ppnM p * 64 / 2 ^ n * 2 ^ n := by rw [Int.mul_comm (ppnM p * 64 / 2 ^ n)]; omega
  rw [or_join n (by rw [e]; exact Int.mul_nonneg (div_in n (by omega)).1 (Int.le_of_lt hq)) (by rw [e]; exact Int.mul_emod_left _ _) (by omega) hm.1 hm.2 (by omega), e]
theorem physical_ok : Sound Try.prog 91 (pureS [u64, i64, u64] [u64] (fun t => some (U64 t.1 ∧ LvR t.2.1 ∧ U64 t.2.2)) (fun t => physM t.1 t.2.1 t.2.2)) := by
  refine pure_plain mixed Try.func91 (by kernel_rfl) (by kernel_rfl) F1_ok (fun t h => ?_)
  obtain ⟨p, l, va⟩ : Int × Int × Int := t
  obtain ⟨h1, h2, h3⟩ : U64 p ∧ LvR l ∧ U64 va := h
  refine vc_by (vc_physical_eq p l va) ?_
  have e : (2 : Int) ^ min (Int.toNat 6) 64 = 64 := by decide
  rw [e]
  rcases lv_cases h2 with rfl | rfl | rfl
  · have w : IntKind.u64.wrap (IntKind.u64.wrap (1 * 2 ^ min (IntKind.i64.wrap (6 + IntKind.i64.wrap (3 * 0))).toNat 64) - 1) = 2 ^ 6 - 1 := by decide
    rw [w, phys_eq 6 (by decide) (by decide) h1 h3]
    exact ⟨by decide, h1, by decide, rfl⟩
  · have w : IntKind.u64.wrap (IntKind.u64.wrap (1 * 2 ^ min (IntKind.i64.wrap (6 + IntKind.i64.wrap (3 * 1))).toNat 64) - 1) = 2 ^ 9 - 1 := by decide
    rw [w, phys_eq 9 (by decide) (by decide) h1 h3]
    exact ⟨by decide, h1, by decide, rfl⟩
  · have w : IntKind.u64.wrap (IntKind.u64.wrap (1 * 2 ^ min (IntKind.i64.wrap (6 + IntKind.i64.wrap (3 * 2))).toNat 64) - 1) = 2 ^ 12 - 1 := by decide
    rw [w, phys_eq 12 (by decide) (by decide) h1 h3]
    exact ⟨by decide, h1, by decide, rfl⟩
theorem kA2_ok : KnowsD Try.prog kA2 :=
  .cons (by kernel_rfl) bits_ok <| .cons (by kernel_rfl) kind_ok <| .cons (by kernel_rfl) grants_ok <| .cons (by kernel_rfl) physical_ok kA1_ok

theorem F2_ok : DictOk Try.prog F2 := mkD_ok kA2_ok .nil .nil
theorem bit_ok : Sound Try.prog 92 (pureS [u64, i64] [bl] (fun t => some (bitR t)) (fun t => bitM t.1 t.2)) := by
  refine pure_plain mixed Try.func92 (by kernel_rfl) (by kernel_rfl) F2_ok (fun t h => ?_)
  obtain ⟨x, i⟩ : Int × Int := t
  obtain ⟨h1, h2, h3⟩ : bitR (x, i) := h
  simp only at h1 h2 h3
  refine vc_by (vc_bit_eq x i) ⟨⟨h1, h2, by simp, by simp only; omega, by simp only; omega⟩, ?_⟩
  unfold bitM bitsM
  rw [show (i - i + 1).toNat = 1 by omega]
  rfl
theorem ppn_ok : Sound Try.prog 89 (pureS [u64] [u64] (fun x => some (U64 x)) ppnM) := by
  refine pure_plain mixed Try.func89 (by kernel_rfl) (by kernel_rfl) F2_ok (fun (x : Int) h => ?_)
  exact vc_by (vc_ppn_eq x) ⟨⟨h, by simp only; omega⟩, rfl⟩
theorem scanon_ok : Sound Try.prog 21 (pureS [u64] [bl] (fun x => some (U64 x)) canM) := by
  refine pure_plain mixed Try.func21 (by kernel_rfl) (by kernel_rfl) F2_ok (fun (x : Int) h => ?_)
  have h : U64 x := h
  have e : bitsM x 14 63 = x / 16384 := by
    have := h.1; have := h.2
    show x / 2 ^ 14 % 2 ^ 50 = x / 16384
    rw [show (2 : Int) ^ 14 = 16384 by decide]
    exact Int.emod_eq_of_lt (by omega) (by omega)
  have e2 : IntKind.u64.wrap (pw 50 - 1) = 1125899906842623 := by decide
  refine vc_by (vc_scanon_eq x) ⟨⟨h, by simp only; omega⟩, fun _ => by decide, ?_⟩
  rw [e, e2]
  unfold canM
  cases x / 16384 == 0 <;> rfl
theorem index_ok : Sound Try.prog 192 (pureS [u64, i64] [u64] (fun t => some (U64 t.1 ∧ LvR t.2)) (fun t => idxM t.1 t.2)) := by
  refine pure_plain mixed Try.func192 (by kernel_rfl) (by kernel_rfl) F2_ok (fun t h => ?_)
  obtain ⟨x, l⟩ : Int × Int := t
  obtain ⟨h1, h2⟩ : U64 x ∧ LvR l := h
  refine vc_by (vc_index_eq x l) ?_
  rcases lv_cases h2 with rfl | rfl | rfl
  · exact ⟨⟨h1, by simp only; decide⟩, rfl⟩
  · exact ⟨⟨h1, by simp only; decide⟩, rfl⟩
  · exact ⟨⟨h1, by simp only; decide⟩, rfl⟩
theorem top_bits {t : Int} (h : U64 t) : bitsM t 60 63 = t / 1152921504606846976 := by
  have := h.1; have := h.2
  show t / 2 ^ 60 % 2 ^ 4 = _
  rw [show (2 : Int) ^ 60 = 1152921504606846976 by decide]
  exact Int.emod_eq_of_lt (by omega) (by omega)
theorem son_ok : Sound Try.prog 138 (pureS [ctxP] [bl] (fun c => some (U64 c.2.2.2)) onM) := by
  refine pure_plain mixed Try.func138 (by kernel_rfl) (by kernel_rfl) F2_ok (fun c h => ?_)
  obtain ⟨m, s, x, t⟩ : Int × Bool × Bool × Int := c
  have h : U64 t := h
  refine vc_by (vc_son_eq m s x t) ⟨⟨h, by simp only; omega⟩, ?_⟩
  rw [top_bits h]
  unfold onM
  cases t / 1152921504606846976 == 8 <;> cases m == 0 <;> rfl
theorem sasid_ok : Sound Try.prog 175 (pureS [u64] [u64] (fun x => some (U64 x)) asidM) := by
  refine pure_plain mixed Try.func175 (by kernel_rfl) (by kernel_rfl) F2_ok (fun (x : Int) h => ?_)
  exact vc_by (vc_sasid_eq x) ⟨⟨h, by simp only; omega⟩, rfl⟩
theorem stag_ok : Sound Try.prog 190 (pureS [u64, i64] [u64] (fun t => some (U64 t.1 ∧ LvR t.2)) (fun t => tagM t.1 t.2)) := by
  refine pure_plain mixed Try.func190 (by kernel_rfl) (by kernel_rfl) F2_ok (fun t h => ?_)
  obtain ⟨x, l⟩ : Int × Int := t
  obtain ⟨h1, h2⟩ : U64 x ∧ LvR l := h
  refine vc_by (vc_stag_eq x l) ?_
  have := h1.1
  rcases lv_cases h2 with rfl | rfl | rfl
  · refine ⟨⟨h1, by simp only; decide⟩, ?_⟩
    show x % 32768 / 64 = x / 64 % 512
    omega
  · refine ⟨⟨h1, by simp only; decide⟩, ?_⟩
    show x % 32768 / 512 = x / 512 % 64
    omega
  · refine ⟨⟨h1, by simp only; decide⟩, ?_⟩
    show x % 32768 / 4096 = x / 4096 % 8
    omega
theorem ikind_ok : Sound Try.prog 26 (pureS [u64, i64] [i64] (fun t => some (U64 t.1)) (fun t => kindM t.1 t.2)) := by
  refine pure_plain mixed Try.func26 (by kernel_rfl) (by kernel_rfl) F2_ok (fun t h => ?_)
  obtain ⟨x, l⟩ : Int × Int := t
  exact vc_by (vc_ikind_eq x l) ⟨h, rfl⟩
theorem igranted_ok : Sound Try.prog 28 (pureS [u64, i64, i64, bl, bl] [bl] (fun t => some (U64 t.1)) (fun t => grantM t.1 t.2.1 t.2.2.1 t.2.2.2.1 t.2.2.2.2)) := by
  refine pure_plain mixed Try.func28 (by kernel_rfl) (by kernel_rfl) F2_ok (fun t h => ?_)
  obtain ⟨p, k, m, s, x⟩ : Int × Int × Int × Bool × Bool := t
  exact vc_by (vc_igranted_eq p k m s x) ⟨h, rfl⟩
theorem lvM_iff {l : Int} : lvM l = true ↔ LvR l := by simp [lvM, LvR]
theorem iphys_ok : Sound Try.prog 24 (pureS [u64, i64, u64] [u64] (fun t => some (U64 t.1 ∧ U64 t.2.2)) (fun t => physM t.1 t.2.1 t.2.2)) := by
  refine pure_plain mixed Try.func24 (by kernel_rfl) (by kernel_rfl) F2_ok (fun t h => ?_)
  obtain ⟨p, l, va⟩ : Int × Int × Int := t
  obtain ⟨h1, h2⟩ : U64 p ∧ U64 va := h
  refine vc_by (vc_iphys_eq p l va) ⟨fun g => ?_, fun g => ⟨⟨h1, lvM_iff.1 (by simpa using g), h2⟩, rfl⟩⟩
  unfold physM
  rw [if_neg (by simpa using g)]
theorem kA3_ok : KnowsD Try.prog kA3 :=
  .cons (by kernel_rfl) bit_ok <| .cons (by kernel_rfl) ppn_ok <| .cons (by kernel_rfl) scanon_ok <| .cons (by kernel_rfl) index_ok <| .cons (by kernel_rfl) son_ok <| .cons (by kernel_rfl) sasid_ok <| .cons (by kernel_rfl) stag_ok <|
  .cons (by kernel_rfl) ikind_ok <| .cons (by kernel_rfl) igranted_ok <| .cons (by kernel_rfl) iphys_ok kA2_ok

theorem F3_ok : DictOk Try.prog F3 := mkD_ok kA3_ok .nil .nil
theorem lv_not (l : Int) : (bif decide (l < 0) then true else decide (l > 2)) = !lvM l := by
  by_cases a : l < 0 <;> by_cases b : l > 2 <;> simp [lvM, a, b] <;> omega
theorem skind_ok : Sound Try.prog 25 (pureS [u64, i64] [i64] (fun t => some (U64 t.1)) (fun t => kindM t.1 t.2)) := by
  refine pure_joins mixed Try.func25 (by kernel_rfl) (by kernel_rfl) F3_ok (fun t h => ?_)
  obtain ⟨p, l⟩ : Int × Int := t
  have h : U64 p := h
  have hk : ∀ k : Int, 0 ≤ k → k ≤ 62 → bitR (p, k) := fun k h0 h1 => ⟨h, h0, h1⟩
  have e : decide (bitsM p 54 63 > 0) = (p / 18014398509481984 != 0) := by
    have := h.1; have := h.2
    have e : bitsM p 54 63 = p / 18014398509481984 := by
      show p / 2 ^ 54 % 2 ^ 10 = _
      rw [show (2 : Int) ^ 54 = 18014398509481984 by decide]
      exact Int.emod_eq_of_lt (by omega) (by omega)
    rw [e]
    by_cases g : p / 18014398509481984 = 0
    · simp [g]
    · have : p / 18014398509481984 > 0 := by omega
      simp [g, this]
  refine vc_by (vc_skind_eq p l) ?_
  rw [e, lv_not]
  simp only [Bool.cond_true_left, Bool.cond_false_right]
  have hp := ppn_in h
  refine ⟨hk _ (by decide) (by decide), hk _ (by decide) (by decide), hk _ (by decide) (by decide), hk _ (by decide) (by decide), hk _ (by decide) (by decide), hk _ (by decide) (by decide), fun _ => hk _ (by decide) (by decide), fun _ => ⟨h, by simp only; omega⟩, fun g => ?_, fun g => ?_⟩
  · unfold kindM
    rw [if_pos g]
  · have hl : LvR l := by
      simp only [Bool.or_eq_false_iff, Bool.not_eq_false'] at g
      exact lvM_iff.1 g.1.1.1
    have hn : (!bitM p 1 && !bitM p 2 && !bitM p 3) = (!bitM p 1 && !bitM p 3) := by
      simp only [Bool.or_eq_false_iff] at g
      have := g.2
      revert this
      cases bitM p 1 <;> cases bitM p 2 <;> simp
    rw [hn]
    refine ⟨fun g2 => ⟨fun g3 => ?_, fun g3 => ?_⟩, fun g2 => ?_⟩
    · unfold kindM
      rw [if_neg (by simp [g]), if_pos g2, if_pos g3]
    · unfold kindM
      rw [if_neg (by simp [g]), if_pos g2, if_neg (by simp [g3])]
    · have key : pw (IntKind.i64.wrap (3 * l)) = 2 ^ (3 * l).toNat ∧ IntKind.i64.wrap (3 * l) ≤ (64 : Int) := by
        rcases lv_cases hl with rfl | rfl | rfl <;> exact ⟨by decide, by decide⟩
      have hq := pow_pos (3 * l).toNat
      have hm := (mod_in (ppnM p) (3 * l).toNat).1
      rw [key.1, tmod_pos hp.1]
      refine ⟨h, key.2, by omega, fun g3 => ?_, fun g3 => ?_⟩
      · have : ppnM p % 2 ^ (3 * l).toNat ≠ 0 := by
          have := of_decide_eq_true g3
          omega
        unfold kindM
        rw [if_neg (by simp [g]), if_neg (by simp [g2]), if_neg this]
      · have : ppnM p % 2 ^ (3 * l).toNat = 0 := by
          have := of_decide_eq_false g3
          omega
        unfold kindM
        rw [if_neg (by simp [g]), if_neg (by simp [g2]), if_pos this]
theorem sgranted_ok : Sound Try.prog 27 (pureS [u64, i64, i64, bl, bl] [bl] (fun t => some (U64 t.1)) (fun t => grantM t.1 t.2.1 t.2.2.1 t.2.2.2.1 t.2.2.2.2)) := by
  refine pure_cut mixed Try.func27 (by kernel_rfl) (by kernel_rfl) F3_ok (fun t h => ?_)
  obtain ⟨p, k, m, s, x⟩ : Int × Int × Int × Bool × Bool := t
  have h : U64 p := h
  have hk : ∀ k : Int, 0 ≤ k → k ≤ 62 → bitR (p, k) := fun k h0 h1 => ⟨h, h0, h1⟩
  refine ⟨sgrantedX p k m s x, vc_by (vc_sgranted_eq p k m s x) ⟨hk _ (by decide) (by decide), hk _ (by decide) (by decide), hk _ (by decide) (by decide), hk _ (by decide) (by decide), hk _ (by decide) (by decide), hk _ (by decide) (by decide), ?_⟩⟩
  refine ⟨fun z => z = if k = 0 then bitM p 3 else false, ⟨fun g => ⟨_, ⟨rfl, rfl, rfl, rfl, rfl, rfl, rfl, rfl, rfl, rfl, rfl, rfl⟩, ?_⟩, fun g => ⟨_, ⟨rfl, rfl, rfl, rfl, rfl, rfl, rfl, rfl, rfl, rfl, rfl, rfl⟩, ?_⟩⟩, fun z1 h1 => ?_⟩
  · simp_all
  · simp_all
  refine ⟨fun z => z = if k = 1 then bitM p 1 || (x && bitM p 3) else z1, ⟨fun g => ⟨_, ⟨rfl, rfl, rfl, rfl, rfl, rfl, rfl, rfl, rfl, rfl, rfl, rfl⟩, ?_⟩, fun g => ⟨_, ⟨rfl, rfl, rfl, rfl, rfl, rfl, rfl, rfl, rfl, rfl, rfl, rfl⟩, ?_⟩⟩, fun z2 h2 => ?_⟩
  · simp only [beq_iff_eq] at g; simp [g]
  · simp only [beq_eq_false_iff_ne] at g; simp [g]
  refine ⟨fun z => z = if k = 2 then bitM p 2 && bitM p 7 else z2, ⟨fun g => ⟨_, ⟨rfl, rfl, rfl, rfl, rfl, rfl, rfl, rfl, rfl, rfl, rfl, rfl⟩, ?_⟩, fun g => ⟨_, ⟨rfl, rfl, rfl, rfl, rfl, rfl, rfl, rfl, rfl, rfl, rfl, rfl⟩, ?_⟩⟩, fun z3 h3 => ?_⟩
  · simp only [beq_iff_eq] at g; simp [g]
  · simp only [beq_eq_false_iff_ne] at g; simp [g]
  refine ⟨fun z => z = (z3, if m = 0 then bitM p 4 else false), ⟨fun g => ⟨(z3, bitM p 4), ⟨rfl, rfl, rfl, rfl, rfl, rfl, rfl⟩, ?_⟩, fun g => ⟨(z3, false), ⟨rfl, rfl, rfl, rfl, rfl, rfl, rfl⟩, ?_⟩⟩, fun z4 h4 => ?_⟩
  · simp only [beq_iff_eq] at g; simp [g]
  · simp only [beq_eq_false_iff_ne] at g; simp [g]
  refine ⟨fun z => z = (z3, if m = 1 then !bitM p 4 || (k != 0 && s) else z4.2), ⟨fun g => ⟨(z4.1, bif !bitM p 4 then true else bif k != 0 then s else false), ⟨rfl, rfl, rfl, rfl, rfl, rfl, rfl⟩, ?_⟩, fun g => ⟨z4, ⟨rfl, rfl, rfl, rfl, rfl, rfl, rfl⟩, ?_⟩⟩, fun z5 h5 => ?_⟩
  · simp only [beq_iff_eq] at g; simp only at h4; simp [g, h4]
  · simp only [beq_eq_false_iff_ne] at g; simp only at h4; simp [g, h4]
  simp only at h1 h2 h3 h4 h5
  subst h1 h2 h3 h4 h5
  have e1 : (if k = 2 then bitM p 2 && bitM p 7 else if k = 1 then bitM p 1 || (x && bitM p 3) else if k = 0 then bitM p 3 else false) = mayM p k x := by
    unfold mayM
    by_cases a : k = 0
    · subst a; rfl
    · by_cases b : k = 1
      · subst b; simp [Bool.and_comm]
      · simp [a, b]
  have e2 : (if m = 1 then !bitM p 4 || (k != 0 && s) else if m = 0 then bitM p 4 else false) = whoM p k m s := by
    unfold whoM
    by_cases a : m = 0
    · subst a; rfl
    · simp [a]
  simp only [e1, e2]
  simp [grantM]
theorem sphys_ok : Sound Try.prog 23 (pureS [u64, i64, u64] [u64] (fun t => some (U64 t.1 ∧ U64 t.2.2)) (fun t => physM t.1 t.2.1 t.2.2)) := by
  refine pure_plain mixed Try.func23 (by kernel_rfl) (by kernel_rfl) F3_ok (fun t h => ?_)
  obtain ⟨p, l, va⟩ : Int × Int × Int := t
  obtain ⟨h1, h2⟩ : U64 p ∧ U64 va := h
  refine vc_by (vc_sphys_eq p l va) ?_
  rw [lv_not]
  refine ⟨fun g => ?_, fun g => ?_⟩
  · unfold physM
    rw [if_neg (by simpa using g)]
  · have hl : lvM l = true := by simpa using g
    have hr := lvM_iff.1 hl
    obtain ⟨a, b⟩ := ppn_in h1
    have c := h2.1
    have d := h2.2
    have key : IntKind.i64.wrap (6 + IntKind.i64.wrap (3 * l)) ≤ (64 : Int) ∧ pw (IntKind.i64.wrap (6 + IntKind.i64.wrap (3 * l))) = 2 ^ (6 + 3 * l).toNat ∧ (6 + 3 * l).toNat ≤ 12 := by
      rcases lv_cases hr with rfl | rfl | rfl <;> exact ⟨by decide, by decide, by decide⟩
    have hq := pow_pos (6 + 3 * l).toNat
    have hle := pow_le (m := (6 + 3 * l).toNat) (n := 12) key.2.2
    have hd := Int.emod_add_mul_ediv (ppnM p * 64) (2 ^ (6 + 3 * l).toNat)
    have hm := mod_in (ppnM p * 64) (6 + 3 * l).toNat
    have hv := mod_in va (6 + 3 * l).toNat
    have hdv := div_in (x := ppnM p * 64) (6 + 3 * l).toNat (by omega)
    rw [key.2.1, wrap_u64_in (n := ppnM p * 64) (by omega) (by omega), tdiv_pos (by omega), tmod_pos c, wrap_u64_in hdv.1 (by omega)]
    rw [Int.mul_comm (2 ^ (6 + 3 * l).toNat) (ppnM p * 64 / 2 ^ (6 + 3 * l).toNat)] at hd
    have hnn := Int.mul_nonneg hdv.1 (Int.le_of_lt hq)
    rw [wrap_u64_in (n := ppnM p * 64 / 2 ^ (6 + 3 * l).toNat * 2 ^ (6 + 3 * l).toNat) hnn (by omega), wrap_u64_in (by omega) (by omega)]
    refine ⟨key.1, h1, by omega, by omega, ?_⟩
    unfold physM
    rw [if_pos hl]
theorem kA4_ok : KnowsD Try.prog kA4 :=
  .cons (by kernel_rfl) skind_ok <| .cons (by kernel_rfl) sgranted_ok <| .cons (by kernel_rfl) sphys_ok kA3_ok
end Go.Proofs.Ytfiddfbagbaofaa.V
