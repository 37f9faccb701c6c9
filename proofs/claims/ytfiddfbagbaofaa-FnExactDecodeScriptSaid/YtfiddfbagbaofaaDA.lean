/- Reading scripts, byte by byte, answers as its models. Conditions: those in each statement. -/
import Derived.Test.YtfiddfbagbaofaaHA
import Derived.KernelRfl
namespace Go.Proofs.Ytfiddfbagbaofaa.V
open Go
def atB (b : By) (p : Nat) : Int := b.getD p 0
def bytsB (b : By) (p k : Nat) : By := (List.range k).map fun j => atB b (p + j)
/-- So many bytes on, but not past the end. -/
def adv (n lo k : Nat) : Nat := min (lo + k) n
def emptyN (y : Int) : Nat := (2 ^ (y % 4).toNat * (1 + y / 4 % 4)).toNat
def emptyM (y : Int) : Tl := (2 ^ (y % 4).toNat, 1 + y / 4 % 4, List.replicate (emptyN y) zE)
def srcA (n lo : Nat) : List Av := [.sl 1 1 lo (n - lo)]
def srcH (m : By) (lo : Nat) : Heap := [.fix (srcA m.length lo) true (some 199), .arr [.i .u8] m false]
def vc_sbyte (m : By) (lo : Nat) : Prop := vcAt Try.prog F0 .none Try.f156 [.ptr 0 0] (srcH m lo) (.v (.int .i64 (atB m lo))) (srcH m (adv m.length lo 1))
def sbyteS : Sum := fun args H => match args, H with
  | [.ptr 0 0], [.fix [.sl 1 1 lo len] true (some 199), .arr sh m false] =>
    if e : sh = [.i .u8] then some (some (lo ≤ (e ▸ m : List (El [.i .u8])).length ∧ len = (e ▸ m : List (El [.i .u8])).length - lo ∧ ByteR (e ▸ m : List (El [.i .u8]))), .v (.int .i64 (atB (e ▸ m : List (El [.i .u8])) lo)), srcH (e ▸ m : List (El [.i .u8])) (adv (e ▸ m : List (El [.i .u8])).length lo 1)) else none
  | _, _ => none
def FDA0 : Dict := mkD [(156, sbyteS)] [] []
def snumL (m : By) (lo : Nat) (k : Int) : LoopS where
  α := Nat
  I i := (i : Int) ≤ k
  sl i := slots 21 [(0, .ptr 0 0), (5, .v (.int .u64 (numM (bytsB m lo i)))), (7, .v (.int .i64 k)), (8, .v (.int .i64 (i : Int)))]
  H i := srcH m (adv m.length lo i)
  fams := [{ β := Unit, out := fun _ _ => True, ex := .ext 0, sl := fun _ => slots 21 [(5, .v (.int .u64 (numM (bytsB m lo k.toNat))))], H := fun _ => srcH m (adv m.length lo k.toNat) }]
def vc_snum_r (m : By) (lo : Nat) (k : Int) (i : Nat) : Prop := vcRound Try.prog FDA0 (.one 3 (snumL m lo k)) 2 (loopAt Try.f157 0) (snumL m lo k) (fun i : Nat => k.toNat - i) i
def vc_snum (m : By) (lo : Nat) (k : Int) : Prop := vcAt Try.prog FDA0 (.one 3 (snumL m lo k)) Try.f157 [.ptr 0 0, .v (.int .i64 k)] (srcH m lo) (.v (.int .u64 (numM (bytsB m lo k.toNat)))) (srcH m (adv m.length lo k.toNat))
def snumS : Sum := fun args H => match args, H with
  | [.ptr 0 0, .v (.int .i64 k)], [.fix [.sl 1 1 lo len] true (some 199), .arr sh m false] =>
    if e : sh = [.i .u8] then some (some (lo ≤ (e ▸ m : List (El [.i .u8])).length ∧ len = (e ▸ m : List (El [.i .u8])).length - lo ∧ ByteR (e ▸ m : List (El [.i .u8])) ∧ 0 ≤ k ∧ k ≤ 8), .v (.int .u64 (numM (bytsB (e ▸ m : List (El [.i .u8])) lo k.toNat))), srcH (e ▸ m : List (El [.i .u8])) (adv (e ▸ m : List (El [.i .u8])).length lo k.toNat)) else none
  | _, _ => none
def vc_stlb (m : By) (lo : Nat) (s w : Int) (n : Nat) : Prop := vcAt Try.prog FDA0 .none Try.f155 [.ptr 0 0] (srcH m lo) (.agg (tlA s w 2 n)) (srcH m (adv m.length lo 1) ++ [.arr shE (List.replicate n zE) true])
def stlbS : Sum := fun args H => match args, H with
  | [.ptr 0 0], [.fix [.sl 1 1 lo len] true (some 199), .arr sh m false] =>
    if e : sh = [.i .u8] then some (some (lo ≤ (e ▸ m : List (El [.i .u8])).length ∧ len = (e ▸ m : List (El [.i .u8])).length - lo ∧ ByteR (e ▸ m : List (El [.i .u8]))), .agg (tlA (emptyM (atB (e ▸ m : List (El [.i .u8])) lo)).1 (emptyM (atB (e ▸ m : List (El [.i .u8])) lo)).2.1 2 (emptyN (atB (e ▸ m : List (El [.i .u8])) lo))), srcH (e ▸ m : List (El [.i .u8])) (adv (e ▸ m : List (El [.i .u8])).length lo 1) ++ [.arr shE (List.replicate (emptyN (atB (e ▸ m : List (El [.i .u8])) lo)) zE) true]) else none
  | _, _ => none
def vc_l5At (m : By) (i : Int) : Prop := vcPure Try.prog F0 .none Try.f153 [byP, i64] [i64] (m, i) (atB m i.toNat)
def l5AtS : Sum := pureS [byP, i64] [i64] (fun t => some (ByteR t.1 ∧ 0 ≤ t.2)) (fun t => atB t.1 t.2.toNat)
def FDA1 : Dict := mkD ((153, l5AtS) :: (kB1 ++ kA4)) [] []
def longL (m : By) (i : Int) : LoopS where
  α := Nat
  I k := k ≤ 8
  sl k := slots 23 [(0, .sl 0 1 0 m.length), (1, .v (.int .i64 i)), (5, .sl 1 1 0 k), (6, .v (.int .i64 (k : Int)))]
  H k := [.arr [.i .u8] m false, .arr [.i .u8] (bytsB m i.toNat k) true]
  fams := [{ β := Unit, out := fun _ _ => True, ex := .ext 0, sl := fun _ => slots 23 [(5, .sl 1 1 0 8)], H := fun _ => [.arr [.i .u8] m false, .arr [.i .u8] (bytsB m i.toNat 8) true] }]
def vc_l5Long_r (m : By) (i : Int) (k : Nat) : Prop := vcRound Try.prog FDA1 (.one 3 (longL m i)) 1 (loopAt Try.f154 0) (longL m i) (fun k : Nat => 8 - k) k
def vc_l5Long (m : By) (i : Int) : Prop := vcPure Try.prog FDA1 (.one 3 (longL m i)) Try.f154 [byP, i64] [u64] (m, i) (numM (bytsB m i.toNat 8))
def emptyL (s w : Int) (n : Nat) : LoopS where
  α := Nat
  I k := k ≤ n
  sl k := slots 30 [(2, .ptr 0 0), (3, .ptr 1 0), (4, .v (.int .i64 (k : Int)))]
  H k := [.fix [.v (.int .i64 0), .v (.int .i64 0), .v (.slice none 0 0)] true (some 52), .fix (tlA s w 2 k) true (some 52), .arr shE (List.replicate k zE) true]
  fams := [{ β := Unit, out := fun _ _ => True, ex := .ext 0, sl := fun _ => slots 30 [(2, .ptr 0 0), (3, .ptr 1 0)], H := fun _ => [.fix [.v (.int .i64 0), .v (.int .i64 0), .v (.slice none 0 0)] true (some 52), .fix (tlA s w 2 n) true (some 52), .arr shE (List.replicate n zE) true] }]
def vc_l5Empty_r (s w : Int) (n k : Nat) : Prop := vcRound Try.prog FDA1 (.one 3 (emptyL s w n)) 0 (loopAt Try.f152 0) (emptyL s w n) (fun k : Nat => n - k) k
def vc_l5Empty (y s w : Int) (n : Nat) : Prop := vcPure Try.prog FDA1 (.one 3 (emptyL s w n)) Try.f152 [i64] [tlP] y (s, w, List.replicate n zE)
end Go.Proofs.Ytfiddfbagbaofaa.V
namespace Go.Proofs.Ytfiddfbagbaofaa.V
open Go
set_option linter.unusedVariables false
theorem vc_sbyte_eq (m : By) (lo : Nat) : vc_sbyte m lo = (
 (((↑(List.length m - lo) : Int) == (0 : Int)) = true → atB m lo = (0 : Int) ∧ adv (List.length m) lo (1 : Nat) = lo ∧ List.length m - adv (List.length m) lo (1 : Nat) = List.length m - lo ∧ m = m) ∧ (((↑(List.length m - lo) : Int) == (0 :
 Int)) = false → ((0 : Int) ≤ (0 : Int) ∧ (0 : Int) < (↑(List.length m - lo) : Int)) ∧ lo + Int.toNat (0 : Int) < List.length m ∧ ((0 : Int) ≤ (1 : Int) ∧ (1 : Int) ≤ (↑(List.length m - lo) : Int) ∧ (↑(List.length m - lo) : Int) ≤
 (↑(List.length m - lo) : Int)) ∧ atB m lo = IntKind.i64.wrap (List.getD m (lo + Int.toNat (0 : Int)) (El.zero [Ty.i IntKind.u8])) ∧ adv (List.length m) lo (1 : Nat) = lo + Int.toNat (1 : Int) ∧ List.length m - adv (List.length m) lo (1 :
 Nat) = (↑(List.length m - lo) : Int).toNat - Int.toNat (1 : Int) ∧ m = m)) := by kernel_rfl
theorem vc_snum_r_eq (m : By) (lo : Nat) (k : Int) (i : Nat) : vc_snum_r m lo k i = (
 (decide ((↑i : Int) < k) = true → (adv (List.length m) lo i ≤ List.length m ∧ List.length m - adv (List.length m) lo i = List.length m - adv (List.length m) lo i ∧ ByteR m) ∧ (0 : Int) ≤ IntKind.i64.wrap ((8 : Int) * (↑i : Int)) ∧ ∃ (y :
 Nat), (numM (bytsB m lo y) = bits BinOp.or IntKind.u64 (numM (bytsB m lo i)) (IntKind.u64.wrap (IntKind.u64.wrap (atB m (adv (List.length m) lo i)) * (2 : Int) ^ min (IntKind.i64.wrap ((8 : Int) * (↑i : Int))).toNat (64 : Nat))) ∧ k = k ∧
 (↑y : Int) = IntKind.i64.wrap ((↑i : Int) + (1 : Int)) ∧ adv (List.length m) lo y = adv (List.length m) (adv (List.length m) lo i) (1 : Nat) ∧ List.length m - adv (List.length m) lo y = List.length m - adv (List.length m) (adv (List.length
 m) lo i) (1 : Nat) ∧ m = m) ∧ (↑y : Int) ≤ k ∧ k.toNat - y < k.toNat - i ∧ ∀ (z : Unit), True → True) ∧ (decide ((↑i : Int) < k) = false → ∃ (z : Unit), (numM (bytsB m lo k.toNat) = numM (bytsB m lo i) ∧ adv (List.length m) lo k.toNat =
 adv (List.length m) lo i ∧ List.length m - adv (List.length m) lo k.toNat = List.length m - adv (List.length m) lo i ∧ m = m) ∧ True)) := by kernel_rfl
theorem vc_snum_eq (m : By) (lo : Nat) (k : Int) : vc_snum m lo k = (
 ∃ (x : Nat), (numM (bytsB m lo x) = (0 : Int) ∧ k = k ∧ (↑x : Int) = (0 : Int) ∧ adv (List.length m) lo x = lo ∧ List.length m - adv (List.length m) lo x = List.length m - lo ∧ m = m) ∧ (↑x : Int) ≤ k ∧ ∀ (z : Unit), True → numM (bytsB m
 lo k.toNat) = numM (bytsB m lo k.toNat) ∧ adv (List.length m) lo k.toNat = adv (List.length m) lo k.toNat ∧ List.length m - adv (List.length m) lo k.toNat = List.length m - adv (List.length m) lo k.toNat ∧ m = m) := by kernel_rfl
theorem vc_stlb_eq (m : By) (lo : Nat) (s w : Int) (n : Nat) : vc_stlb m lo s w n = (
 (lo ≤ List.length m ∧ List.length m - lo = List.length m - lo ∧ ByteR m) ∧ (4 : Int) ≠ (0 : Int) ∧ (0 : Int) ≤ (atB m lo).tmod (4 : Int) ∧ (4 : Int) ≠ (0 : Int) ∧ (4 : Int) ≠ (0 : Int) ∧ ((0 : Int) ≤ IntKind.i64.wrap (IntKind.i64.wrap ((1 :
 Int) * (2 : Int) ^ min ((atB m lo).tmod (4 : Int)).toNat (64 : Nat)) * IntKind.i64.wrap ((1 : Int) + (IntKind.i64.wrap ((atB m lo).tdiv (4 : Int))).tmod (4 : Int))) ∧ IntKind.i64.wrap (IntKind.i64.wrap ((1 : Int) * (2 : Int) ^ min ((atB m
 lo).tmod (4 : Int)).toNat (64 : Nat)) * IntKind.i64.wrap ((1 : Int) + (IntKind.i64.wrap ((atB m lo).tdiv (4 : Int))).tmod (4 : Int))) ≤ IntKind.i64.wrap (IntKind.i64.wrap ((1 : Int) * (2 : Int) ^ min ((atB m lo).tmod (4 : Int)).toNat (64 :
 Nat)) * IntKind.i64.wrap ((1 : Int) + (IntKind.i64.wrap ((atB m lo).tdiv (4 : Int))).tmod (4 : Int))) ∧ IntKind.i64.wrap (IntKind.i64.wrap ((1 : Int) * (2 : Int) ^ min ((atB m lo).tmod (4 : Int)).toNat (64 : Nat)) * IntKind.i64.wrap ((1 :
 Int) + (IntKind.i64.wrap ((atB m lo).tdiv (4 : Int))).tmod (4 : Int))) ≤ (4294967296 : Int)) ∧ s = IntKind.i64.wrap ((1 : Int) * (2 : Int) ^ min ((atB m lo).tmod (4 : Int)).toNat (64 : Nat)) ∧ w = IntKind.i64.wrap ((1 : Int) +
 (IntKind.i64.wrap ((atB m lo).tdiv (4 : Int))).tmod (4 : Int)) ∧ (0 : Nat) = (0 : Nat) ∧ n = (IntKind.i64.wrap (IntKind.i64.wrap ((1 : Int) * (2 : Int) ^ min ((atB m lo).tmod (4 : Int)).toNat (64 : Nat)) * IntKind.i64.wrap ((1 : Int) +
 (IntKind.i64.wrap ((atB m lo).tdiv (4 : Int))).tmod (4 : Int)))).toNat ∧ adv (List.length m) lo (1 : Nat) = adv (List.length m) lo (1 : Nat) ∧ List.length m - adv (List.length m) lo (1 : Nat) = List.length m - adv (List.length m) lo (1 :
 Nat) ∧ m = m ∧ List.replicate n zE = List.replicate (IntKind.i64.wrap (IntKind.i64.wrap ((1 : Int) * (2 : Int) ^ min ((atB m lo).tmod (4 : Int)).toNat (64 : Nat)) * IntKind.i64.wrap ((1 : Int) + (IntKind.i64.wrap ((atB m lo).tdiv (4 :
 Int))).tmod (4 : Int)))).toNat (El.zero [Ty.b, Ty.i IntKind.i64, Ty.i IntKind.u64, Ty.i IntKind.u64, Ty.b, Ty.i IntKind.u64])) := by kernel_rfl
theorem vc_l5At_eq (m : By) (i : Int) : vc_l5At m i = (
 (decide (i < (↑(List.length m) : Int)) = true → ((0 : Int) ≤ i ∧ i < (↑(List.length m) : Int)) ∧ (0 : Nat) + i.toNat < List.length m ∧ atB m i.toNat = IntKind.i64.wrap (List.getD m ((0 : Nat) + i.toNat) (El.zero [Ty.i IntKind.u8])) ∧ m = m)
 ∧ (decide (i < (↑(List.length m) : Int)) = false → atB m i.toNat = (0 : Int) ∧ m = m)) := by kernel_rfl
theorem vc_l5Long_r_eq (m : By) (i : Int) (k : Nat) : vc_l5Long_r m i k = (
 (decide ((↑k : Int) < (8 : Int)) = true → (List.length m = List.length m ∧ ByteR m ∧ (0 : PmT [i64]) ≤ IntKind.i64.wrap (i + (↑k : Int))) ∧ ((0 : Nat) + (1 : Nat) ≤ [IntKind.u8.wrap (atB m (IntKind.i64.wrap (i + (↑k : Int))).toNat)].length
 ∧ k ≤ List.length (bytsB m i.toNat k) ∧ k + (List.take (1 : Nat) (List.drop (0 : Nat) [IntKind.u8.wrap (atB m (IntKind.i64.wrap (i + (↑k : Int))).toNat)])).length ≤ (1073741824 : Nat)) ∧ ∃ (y : Nat), ((0 : Nat) = (0 : Nat) ∧ List.length m =
 List.length m ∧ i = i ∧ (0 : Nat) = (0 : Nat) ∧ y = k + (List.take (1 : Nat) (List.drop (0 : Nat) [IntKind.u8.wrap (atB m (IntKind.i64.wrap (i + (↑k : Int))).toNat)])).length ∧ (↑y : Int) = IntKind.i64.wrap ((↑k : Int) + (1 : Int)) ∧ m = m
 ∧ bytsB m i.toNat y = List.take k (bytsB m i.toNat k) ++ List.take (1 : Nat) (List.drop (0 : Nat) [IntKind.u8.wrap (atB m (IntKind.i64.wrap (i + (↑k : Int))).toNat)])) ∧ y ≤ (8 : Nat) ∧ (8 : Nat) - y < (8 : Nat) - k ∧ ∀ (z : Unit), True →
 True) ∧ (decide ((↑k : Int) < (8 : Int)) = false → ∃ (z : Unit), ((0 : Nat) = (0 : Nat) ∧ (8 : Nat) = k ∧ m = m ∧ bytsB m i.toNat (8 : Nat) = bytsB m i.toNat k) ∧ True)) := by kernel_rfl
theorem vc_l5Long_eq (m : By) (i : Int) : vc_l5Long m i = (
 ∃ (x : Nat), ((0 : Nat) = (0 : Nat) ∧ List.length m = List.length m ∧ i = i ∧ (0 : Nat) = (0 : Nat) ∧ x = (0 : Nat) ∧ (↑x : Int) = (0 : Int) ∧ m = m ∧ bytsB m i.toNat x = []) ∧ x ≤ (8 : Nat) ∧ ∀ (z : Unit), True → ((0 : Nat) + (8 : Nat) ≤
 List.length (bytsB m i.toNat (8 : Nat)) ∧ ByteR (List.take (8 : Nat) (List.drop (0 : Nat) (bytsB m i.toNat (8 : Nat)))) ∧ (List.take (8 : Nat) (List.drop (0 : Nat) (bytsB m i.toNat (8 : Nat)))).length ≤ (8 : Nat)) ∧ numM (bytsB m i.toNat (8
 : Nat)) = numM (List.take (8 : Nat) (List.drop (0 : Nat) (bytsB m i.toNat (8 : Nat)))) ∧ m = m) := by kernel_rfl
theorem vc_l5Empty_r_eq (s w : Int) (n k : Nat) : vc_l5Empty_r s w n k = (
 (decide ((↑k : Int) < IntKind.i64.wrap (s * w)) = true → (((0 : Nat) + (1 : Nat)).le (1 : Nat) ∧ k ≤ (List.replicate k zE).length ∧ k + (1 : Nat) ≤ (1073741824 : Nat)) ∧ ∃ (y : Nat), ((↑y : Int) = IntKind.i64.wrap ((↑k : Int) + (1 : Int)) ∧
 (0 : Int) = (0 : Int) ∧ (0 : Int) = (0 : Int) ∧ Value.slice none (0 : Nat) (0 : Nat) = Value.slice none (0 : Nat) (0 : Nat) ∧ s = s ∧ w = w ∧ (0 : Nat) = (0 : Nat) ∧ y = k + (1 : Nat) ∧ List.replicate y zE = List.take k (List.replicate k
 zE) ++ [(false, (0 : Int), (0 : Int), (0 : Int), false, (0 : Int))]) ∧ y ≤ n ∧ n - y < n - k ∧ ∀ (z : Unit), True → True) ∧ (decide ((↑k : Int) < IntKind.i64.wrap (s * w)) = false → ∃ (z : Unit), ((0 : Int) = (0 : Int) ∧ (0 : Int) = (0 :
 Int) ∧ Value.slice none (0 : Nat) (0 : Nat) = Value.slice none (0 : Nat) (0 : Nat) ∧ s = s ∧ w = w ∧ (0 : Nat) = (0 : Nat) ∧ n = k ∧ List.replicate n zE = List.replicate k zE) ∧ True)) := by kernel_rfl
theorem vc_l5Empty_eq (y s w : Int) (n : Nat) : vc_l5Empty y s w n = (
 (4 : Int) ≠ (0 : Int) ∧ y.tmod (4 : Int) ≤ (64 : PmT [i64]) ∧ (4 : Int) ≠ (0 : Int) ∧ (4 : Int) ≠ (0 : Int) ∧ ∃ (x : Nat), ((↑x : Int) = (0 : Int) ∧ (0 : Int) = (0 : Int) ∧ (0 : Int) = (0 : Int) ∧ Value.slice none (0 : Nat) (0 : Nat) =
 Value.slice none (0 : Nat) (0 : Nat) ∧ s = IntKind.i64.wrap (pw (y.tmod (4 : Int))) ∧ w = IntKind.i64.wrap ((1 : Int) + (IntKind.i64.wrap (y.tdiv (4 : Int))).tmod (4 : Int)) ∧ (0 : Nat) = (0 : Nat) ∧ x = (0 : Nat) ∧ List.replicate x zE =
 []) ∧ x ≤ n ∧ ∀ (z : Unit), True → s = s ∧ w = w ∧ (0 : Nat) = (0 : Nat) ∧ (List.replicate n zE).length = n ∧ List.replicate n zE = List.replicate n zE) := by kernel_rfl
end Go.Proofs.Ytfiddfbagbaofaa.V
namespace Go.Proofs.Ytfiddfbagbaofaa.V
open Go
set_option linter.unusedSimpArgs false
theorem atB_in {m : By} (h : ByteR m) (p : Nat) : 0 ≤ atB m p ∧ atB m p < 256 := by
  unfold atB
  rw [List.getD_eq_getElem?_getD]
  rcases Nat.lt_or_ge p m.length with q | q
  · rw [List.getElem?_eq_getElem q]
    exact h.2 _ (List.getElem_mem q)
  · rw [List.getElem?_eq_none q]
    exact ⟨by decide, by decide⟩
theorem bytsB_succ (m : By) (p k : Nat) : bytsB m p (k + 1) = bytsB m p k ++ [atB m (p + k)] := by simp [bytsB, List.range_succ]
theorem bytsB_length (m : By) (p k : Nat) : (bytsB m p k).length = k := by simp [bytsB]
theorem bytsB_in {m : By} (h : ByteR m) (p k : Nat) : ∀ b ∈ bytsB m p k, 0 ≤ b ∧ b < 256 := by
  intro b hb
  obtain ⟨j, -, rfl⟩ := List.mem_map.1 hb
  exact atB_in h _
theorem bytsB_u64 {m : By} (h : ByteR m) (p : Nat) {k : Nat} (hk : k ≤ 8) : U64 (numM (bytsB m p k)) := numM_u64 (bytsB_in h p k) (by rw [bytsB_length]; exact hk)
theorem atB_adv {m : By} {lo : Nat} (i : Nat) : atB m (adv m.length lo i) = atB m (lo + i) := by
  unfold adv
  rcases Nat.lt_or_ge (lo + i) m.length with q | q
  · rw [Nat.min_eq_left (by omega)]
  · rw [Nat.min_eq_right q]
    unfold atB
    simp only [List.getD_eq_getElem?_getD]
    rw [List.getElem?_eq_none (Nat.le_refl _), List.getElem?_eq_none q]
theorem bytsB_adv {m : By} {lo : Nat} (i k : Nat) : bytsB m (adv m.length lo i) k = bytsB m (lo + i) k := by
  unfold bytsB
  refine List.map_congr_left (fun j _ => ?_)
  have e1 := atB_adv (m := m) (lo := lo) (i + j)
  have e2 := atB_adv (m := m) (lo := adv m.length lo i) j
  have e3 : adv m.length (adv m.length lo i) j = adv m.length lo (i + j) := by unfold adv; omega
  rw [e3, e1] at e2
  rw [← e2, Nat.add_assoc]
theorem adv_adv (n lo a b : Nat) : adv n (adv n lo a) b = adv n lo (a + b) := by unfold adv; omega
theorem adv_le (n lo k : Nat) : adv n lo k ≤ n := by unfold adv; omega
theorem adv_zero {n lo : Nat} (h : lo ≤ n) : adv n lo 0 = lo := by unfold adv; omega
theorem sbyte_ok : Sound Try.prog 156 sbyteS := by
  refine sound_plain mixed Try.func156 (by kernel_rfl) (by kernel_rfl) F0_ok (fun args H p v H' h hp => ?_)
  unfold sbyteS at h
  split at h
  case h_2 => cases h
  rename_i lo len sh m
  split at h
  case isFalse => cases h
  rename_i hsh
  subst hsh
  simp only [Option.some.injEq, Prod.mk.injEq] at h
  obtain ⟨rfl, rfl, rfl⟩ := h
  obtain ⟨hl, rfl, hm⟩ : lo ≤ m.length ∧ len = m.length - lo ∧ ByteR m := hp
  have hb := atB_in hm lo
  refine ⟨.none, vc_by (vc_sbyte_eq m lo) ⟨fun q => ?_, fun q => ?_⟩⟩
  · have q : m.length - lo = 0 := by simpa using q
    have e : lo = m.length := by omega
    refine ⟨?_, by unfold adv; omega, by unfold adv; omega, rfl⟩
    unfold atB
    rw [List.getD_eq_getElem?_getD, List.getElem?_eq_none (by omega)]
    rfl
  · have q : ¬ m.length - lo = 0 := by simpa using q
    refine ⟨⟨by omega, by omega⟩, by show lo + 0 < _; omega, ⟨by omega, by omega, by omega⟩, ?_, by unfold adv; show _ = lo + 1; omega, by unfold adv; omega, rfl⟩
    show atB m lo = IntKind.i64.wrap (atB m lo)
    rw [wrap_i64_in (by omega) (by omega)]
theorem FDA0_ok : DictOk Try.prog FDA0 := mkD_ok (.cons (by kernel_rfl) sbyte_ok .nil) .nil .nil
theorem numM_snoc : ∀ (l : By) (b : Int), numM (l ++ [b]) = numM l + b * 256 ^ l.length
  | [], b => by simp [numM]
  | a :: l, b => by
    show a + 256 * numM (l ++ [b]) = a + 256 * numM l + b * 256 ^ (l.length + 1)
    rw [numM_snoc l b, Int.pow_succ, Int.mul_add, Int.add_assoc]
    congr 2
    rw [← Int.mul_assoc, Int.mul_comm 256 b, Int.mul_assoc, Int.mul_comm 256]
theorem or_comm (x y : Int) : bits .or .u64 x y = bits .or .u64 y x := by
  show IntKind.u64.wrap ((BitVec.ofInt 64 x ||| BitVec.ofInt 64 y).toNat : Int) = IntKind.u64.wrap ((BitVec.ofInt 64 y ||| BitVec.ofInt 64 x).toNat : Int)
  rw [BitVec.or_comm]
theorem pow8 (i : Nat) : (2 : Int) ^ (8 * i) = 256 ^ i := by rw [Int.pow_mul]; rfl
theorem or_byte {x b : Int} {i : Nat} (hi : i < 8) (hx : 0 ≤ x ∧ x < 256 ^ i) (hb : 0 ≤ b ∧ b < 256) : bits .or .u64 x (IntKind.u64.wrap (IntKind.u64.wrap b * 2 ^ min (IntKind.i64.wrap (8 * (i : Int))).toNat 64)) = x + b * 256 ^ i := by
  have e1 : IntKind.i64.wrap (8 * (i : Int)) = 8 * (i : Int) := wrap_i64_in (by omega) (by omega)
  have e2 : min (8 * (i : Int)).toNat 64 = 8 * i := by omega
  rw [e1, e2, wrap_u64_in (n := b) hb.1 (by omega), pow8]
  have hp : (0 : Int) < 256 ^ i := Int.pow_pos (by omega)
  have hle : (256 : Int) ^ i ≤ 256 ^ 7 := by
    have := pow_le (m := 8 * i) (n := 8 * 7) (by omega)
    rw [pow8, pow8] at this
    exact this
  have h7 : (256 : Int) ^ 7 = 72057594037927936 := by decide
  rw [h7] at hle
  have hb1 : b * 256 ^ i ≤ 255 * 256 ^ i := Int.mul_le_mul_of_nonneg_right (by omega) (by omega)
  have hb0 : 0 ≤ b * 256 ^ i := Int.mul_nonneg hb.1 (by omega)
  rw [wrap_u64_in hb0 (by omega), or_comm, or_join (8 * i) hb0 (by rw [pow8]; exact Int.mul_emod_left _ _) (by omega) hx.1 (by rw [pow8]; exact hx.2) (by omega), Int.add_comm]
theorem bytsB_num {m : By} (h : ByteR m) (p k : Nat) : 0 ≤ numM (bytsB m p k) ∧ numM (bytsB m p k) < 256 ^ k := by
  have := numM_in (bytsB_in h p k)
  rw [bytsB_length] at this
  exact this
theorem snum_ok : Sound Try.prog 157 snumS := by
  refine sound_loop mixed Try.func157 (by kernel_rfl) (b := loopAt Try.f157 0) (k := 3) (by kernel_rfl) (by kernel_rfl) (by kernel_rfl) FDA0_ok (fun args H p v H' h hp => ?_)
  unfold snumS at h
  split at h
  case h_2 => cases h
  rename_i k lo len sh m
  split at h
  case isFalse => cases h
  rename_i hsh
  subst hsh
  simp only [Option.some.injEq, Prod.mk.injEq] at h
  obtain ⟨rfl, rfl, rfl⟩ := h
  obtain ⟨hl, rfl, hm, k0, k1⟩ : lo ≤ m.length ∧ len = m.length - lo ∧ ByteR m ∧ 0 ≤ k ∧ k ≤ 8 := hp
  refine ⟨.one 3 (snumL m lo k), snumL m lo k, fun i : Nat => k.toNat - i, one_loop _ _, fun (i : Nat) hi => vc_by (vc_snum_r_eq m lo k i) ⟨fun q => ?_, fun q => ?_⟩, vc_by (vc_snum_eq m lo k) ?_⟩
  · have q : (i : Int) < k := of_decide_eq_true q
    have e : IntKind.i64.wrap ((i : Int) + 1) = ((i + 1 : Nat) : Int) := by rw [wrap_i64_in (by omega) (by omega)]; omega
    have hx := bytsB_num hm lo i
    have hb := atB_in hm (lo + i)
    rw [e, atB_adv, or_byte (by omega) hx hb, adv_adv]
    refine ⟨⟨adv_le _ _ _, rfl, hm⟩, by rw [wrap_i64_in (by omega) (by omega)]; omega, i + 1, ⟨?_, rfl, rfl, rfl, rfl, rfl⟩, by omega, by omega, fun _ _ => trivial⟩
    rw [bytsB_succ, numM_snoc, bytsB_length]
  · have q : ¬ (i : Int) < k := of_decide_eq_false q
    have hi : (i : Int) ≤ k := hi
    have : k.toNat = i := by omega
    rw [this]
    exact ⟨(), ⟨rfl, rfl, rfl, rfl⟩, trivial⟩
  · exact ⟨0, ⟨rfl, rfl, rfl, adv_zero hl, by rw [adv_zero hl], rfl⟩, k0, fun _ _ => ⟨rfl, rfl, rfl, rfl⟩⟩
/-- The shape of a cache by a byte. -/
theorem empty_facts {y : Int} (h0 : 0 ≤ y) (h1 : y < 256) : y.tmod 4 = y % 4 ∧ y.tdiv 4 = y / 4 ∧ IntKind.i64.wrap (y / 4) = y / 4 ∧ (y / 4).tmod 4 = y / 4 % 4 ∧ IntKind.i64.wrap (1 + y / 4 % 4) = 1 + y / 4 % 4 ∧
    IntKind.i64.wrap (1 * 2 ^ min (y % 4).toNat 64) = 2 ^ (y % 4).toNat ∧ (1 : Int) ≤ 2 ^ (y % 4).toNat ∧ (2 : Int) ^ (y % 4).toNat ≤ 8 ∧ IntKind.i64.wrap (2 ^ (y % 4).toNat * (1 + y / 4 % 4)) = 2 ^ (y % 4).toNat * (1 + y / 4 % 4) ∧ 1 ≤ 2 ^ (y % 4).toNat * (1 + y / 4 % 4) ∧ 2 ^ (y % 4).toNat * (1 + y / 4 % 4) ≤ 32 := by
  have a0 : 0 ≤ y % 4 := Int.emod_nonneg _ (by decide)
  have a1 : y % 4 < 4 := Int.emod_lt_of_pos _ (by decide)
  have b0 : 0 ≤ y / 4 % 4 := Int.emod_nonneg _ (by decide)
  have b1 : y / 4 % 4 < 4 := Int.emod_lt_of_pos _ (by decide)
  rw [tmod_pos h0, tdiv_pos h0, tmod_pos (show 0 ≤ y / 4 by omega)]
  refine ⟨rfl, rfl, wrap_i64_in (by omega) (by omega), rfl, wrap_i64_in (by omega) (by omega), ?_⟩
  generalize y / 4 % 4 = w at b0 b1
  have hc : y % 4 = 0 ∨ y % 4 = 1 ∨ y % 4 = 2 ∨ y % 4 = 3 := by omega
  rcases hc with e | e | e | e <;> rw [e]
  · rw [show (2 : Int) ^ (0 : Int).toNat = 1 by decide]; exact ⟨by decide, by decide, by decide, wrap_i64_in (by omega) (by omega), by omega, by omega⟩
  · rw [show (2 : Int) ^ (1 : Int).toNat = 2 by decide]; exact ⟨by decide, by decide, by decide, wrap_i64_in (by omega) (by omega), by omega, by omega⟩
  · rw [show (2 : Int) ^ (2 : Int).toNat = 4 by decide]; exact ⟨by decide, by decide, by decide, wrap_i64_in (by omega) (by omega), by omega, by omega⟩
  · rw [show (2 : Int) ^ (3 : Int).toNat = 8 by decide]; exact ⟨by decide, by decide, by decide, wrap_i64_in (by omega) (by omega), by omega, by omega⟩
theorem stlb_ok : Sound Try.prog 155 stlbS := by
  refine sound_plain mixed Try.func155 (by kernel_rfl) (by kernel_rfl) FDA0_ok (fun args H p v H' h hp => ?_)
  unfold stlbS at h
  split at h
  case h_2 => cases h
  rename_i lo len sh m
  split at h
  case isFalse => cases h
  rename_i hsh
  subst hsh
  simp only [Option.some.injEq, Prod.mk.injEq] at h
  obtain ⟨rfl, rfl, rfl⟩ := h
  obtain ⟨hl, rfl, hm⟩ : lo ≤ m.length ∧ len = m.length - lo ∧ ByteR m := hp
  obtain ⟨y0, y1⟩ := atB_in hm lo
  refine ⟨.none, vc_by (vc_stlb_eq m lo (emptyM (atB m lo)).1 (emptyM (atB m lo)).2.1 (emptyN (atB m lo))) ?_⟩
  obtain ⟨e1, e2, e3, e4, e5, e6, e7, e8, e9, e10, e11⟩ := empty_facts y0 y1
  rw [e1, e2, e3, e4, e5, e6, e9]
  refine ⟨⟨hl, rfl, hm⟩, by decide, Int.emod_nonneg _ (by decide), by decide, by decide, ⟨by omega, by omega, by omega⟩, rfl, rfl, rfl, rfl, rfl, rfl, rfl, rfl⟩
theorem l5At_ok : Sound Try.prog 153 l5AtS := by
  refine pure_plain mixed Try.func153 (by kernel_rfl) (by kernel_rfl) F0_ok (fun t h => ?_)
  obtain ⟨m, i⟩ : By × Int := t
  obtain ⟨hm, h0⟩ : ByteR m ∧ 0 ≤ i := h
  have hb := atB_in hm i.toNat
  refine vc_by (vc_l5At_eq m i) ⟨fun q => ?_, fun q => ?_⟩
  · have q : i < m.length := of_decide_eq_true q
    refine ⟨⟨h0, q⟩, by omega, ?_, rfl⟩
    rw [Nat.zero_add]
    show atB m i.toNat = IntKind.i64.wrap (atB m i.toNat)
    rw [wrap_i64_in (by omega) (by omega)]
  · have q : ¬ i < m.length := of_decide_eq_false q
    refine ⟨?_, rfl⟩
    unfold atB
    rw [List.getD_eq_getElem?_getD, List.getElem?_eq_none (by omega)]
    rfl
theorem FDA1_ok : DictOk Try.prog FDA1 := mkD_ok (.cons (by kernel_rfl) l5At_ok (kB1_ok.append kA4_ok)) .nil .nil
theorem l5Long_ok : Sound Try.prog 154 (pureS [byP, i64] [u64] (fun t => some (ByteR t.1 ∧ 0 ≤ t.2 ∧ t.2 ≤ 1000000)) (fun t => numM (bytsB t.1 t.2.toNat 8))) := by
  refine pure_loop mixed Try.func154 (by kernel_rfl) (b := loopAt Try.f154 0) (k := 3) (by kernel_rfl) (by kernel_rfl) (by kernel_rfl) FDA1_ok (fun t h => ?_)
  obtain ⟨m, i⟩ : By × Int := t
  obtain ⟨hm, h0, h1⟩ : ByteR m ∧ 0 ≤ i ∧ i ≤ 1000000 := h
  refine ⟨.one 3 (longL m i), longL m i, fun k : Nat => 8 - k, one_loop _ _, fun (k : Nat) hk => vc_by (vc_l5Long_r_eq m i k) ⟨fun q => ?_, fun q => ?_⟩, vc_by (vc_l5Long_eq m i) ?_⟩
  · have q : (k : Int) < 8 := of_decide_eq_true q
    have hb := atB_in hm (i.toNat + k)
    have e : IntKind.i64.wrap ((k : Int) + 1) = ((k + 1 : Nat) : Int) := by rw [wrap_i64_in (by omega) (by omega)]; omega
    have e1 : IntKind.i64.wrap (i + (k : Int)) = i + k := wrap_i64_in (by omega) (by omega)
    have e2 : (i + (k : Int)).toNat = i.toNat + k := by omega
    have e3 : IntKind.u8.wrap (atB m (i.toNat + k)) = atB m (i.toNat + k) := by rw [wrap_u8]; omega
    have hl := bytsB_length m i.toNat k
    rw [e, e1, e2, e3]
    refine ⟨⟨rfl, hm, by show (0 : Int) ≤ i + k; omega⟩, ⟨by simp, by omega, by simp; omega⟩, k + 1, ⟨rfl, rfl, rfl, rfl, by simp, rfl, rfl, ?_⟩, by omega, by omega, fun _ _ => trivial⟩
    rw [bytsB_succ, List.take_of_length_le (by omega)]
    simp
  · have q : ¬ (k : Int) < 8 := of_decide_eq_false q
    have hk : k ≤ 8 := hk
    have : k = 8 := by omega
    subst this
    exact ⟨(), ⟨rfl, rfl, rfl, rfl⟩, trivial⟩
  · have hl := bytsB_length m i.toNat 8
    have e : List.take 8 (List.drop 0 (bytsB m i.toNat 8)) = bytsB m i.toNat 8 := by rw [List.drop_zero, List.take_of_length_le (by omega)]
    rw [e]
    exact ⟨0, ⟨rfl, rfl, rfl, rfl, rfl, rfl, rfl, rfl⟩, by omega, fun _ _ => ⟨⟨by omega, ⟨by unfold SzR; omega, bytsB_in hm _ _⟩, by omega⟩, rfl, rfl⟩⟩
theorem l5Empty_ok : Sound Try.prog 152 (pureS [i64] [tlP] (fun y => some (0 ≤ y ∧ y < 256)) emptyM) := by
  refine pure_loop mixed Try.func152 (by kernel_rfl) (b := loopAt Try.f152 0) (k := 3) (by kernel_rfl) (by kernel_rfl) (by kernel_rfl) FDA1_ok (fun (y : Int) h => ?_)
  obtain ⟨h0, h1⟩ : 0 ≤ y ∧ y < 256 := h
  obtain ⟨e1, e2, e3, e4, e5, e6, e7, e8, e9, e10, e11⟩ := empty_facts h0 h1
  refine ⟨.one 3 (emptyL (2 ^ (y % 4).toNat) (1 + y / 4 % 4) (emptyN y)), emptyL (2 ^ (y % 4).toNat) (1 + y / 4 % 4) (emptyN y), fun k : Nat => emptyN y - k, one_loop _ _, fun (k : Nat) hk => vc_by (vc_l5Empty_r_eq _ _ _ k) ?_, vc_by (vc_l5Empty_eq y _ _ _) ?_⟩
  · have hk : k ≤ emptyN y := hk
    have hn : (emptyN y : Int) = 2 ^ (y % 4).toNat * (1 + y / 4 % 4) := by unfold emptyN; omega
    rw [e9, ← hn]
    refine ⟨fun q => ?_, fun q => ?_⟩
    · have q : (k : Int) < emptyN y := of_decide_eq_true q
      have e : IntKind.i64.wrap ((k : Int) + 1) = ((k + 1 : Nat) : Int) := by rw [wrap_i64_in (by omega) (by omega)]; omega
      rw [e]
      refine ⟨⟨Nat.le_refl 1, by simp, by omega⟩, k + 1, ⟨rfl, rfl, rfl, rfl, rfl, rfl, rfl, rfl, ?_⟩, by omega, by omega, fun _ _ => trivial⟩
      rw [List.take_of_length_le (by simp), List.replicate_succ']
      rfl
    · have q : ¬ (k : Int) < emptyN y := of_decide_eq_false q
      have : emptyN y = k := by omega
      rw [this]
      exact ⟨(), ⟨rfl, rfl, rfl, rfl, rfl, rfl, rfl, rfl⟩, trivial⟩
  · rw [e1, e2, e3, e4, e5]
    have a0 : 0 ≤ y % 4 := Int.emod_nonneg _ (by decide)
    have a1 : y % 4 < 4 := Int.emod_lt_of_pos _ (by decide)
    refine ⟨by decide, by show y % 4 ≤ (64 : Int); omega, by decide, by decide, 0, ⟨rfl, rfl, rfl, rfl, ?_, rfl, rfl, rfl, rfl⟩, by omega, fun _ _ => ⟨rfl, rfl, rfl, by simp, rfl⟩⟩
    rw [pw_in a0 (by omega), wrap_i64_in (by omega) (by omega)]
end Go.Proofs.Ytfiddfbagbaofaa.V
