/- Draws of memories, fifth part, answer as their models. Conditions: those in each statement. -/
import Derived.Test.YtfiddfbagbaofaaGT
import Derived.KernelRfl
namespace Go.Proofs.Ytfiddfbagbaofaa.V
open Go
def kU0 : Known := [(105, belowS), (109, wordS), (106, memS), (104, newS)]
def FU0 : Dict := mkD kU0 [] []
def curH (m : By) (i h : Int) : Heap := [.fix (curA m.length i h) true (some 234), .arr [.i .u8] m false]
def vc_once (m : By) (i h k : Int) : Prop := vcAt Try.prog FU0 .none Try.f185 [.ptr 0 0, .v (.int .i64 k)] (curH m i h) (.v (.bool (byM m i h % k == 0))) (curH m (iN m.length i) (hN h))
def vc_addr (m : By) (i h s v i2 h2 : Int) : Prop := vcAt Try.prog FU0 .none Try.f107 [.ptr 0 0, .v (.int .i64 s)] (curH m i h) (.v (.int .u64 v)) (curH m i2 h2)
def onceS : Sum := fun args H => match args, H with
  | [.ptr 0 0, .v (.int .i64 k)], [.fix [.sl 1 1 0 n, .v (.int .i64 i), .v (.int .i64 h)] true (some 234), .arr sh m false] =>
    if e : sh = [.i .u8] then some (some (n = (e ▸ m : List (El [.i .u8])).length ∧ CurR (e ▸ m : List (El [.i .u8])) i ∧ 1 ≤ k ∧ k ≤ 256), .v (.bool (byM (e ▸ m : List (El [.i .u8])) i h % k == 0)), [.fix (curA n (iN n i) (hN h)) true (some 234), .arr [.i .u8] (e ▸ m : List (El [.i .u8])) false]) else none
  | _, _ => none
end Go.Proofs.Ytfiddfbagbaofaa.V
namespace Go.Proofs.Ytfiddfbagbaofaa.V
open Go
set_option linter.unusedVariables false
theorem vc_once_eq (m : By) (i h k : Int) : vc_once m i h k = (
 (List.length m = List.length m ∧ CurR m i ∧ (1 : Int) ≤ k ∧ k ≤ (256 : Int)) ∧
   (byM m i h % k == (0 : Int)) = (byM m i h % k == (0 : Int)) ∧ (0 : Nat) = (0 : Nat) ∧ List.length m = List.length m ∧ iN (List.length m) i = iN (List.length m) i ∧ hN h = hN h ∧ m = m) := by kernel_rfl
theorem vc_addr_eq (m : By) (i h s v i2 h2 : Int) : vc_addr m i h s v i2 h2 = (
 (List.length m = List.length m ∧ CurR m i ∧ (1 : Int) ≤ (12 : Int) ∧ (12 : Int) ≤ (256 : Int)) ∧
   (List.length m = List.length m ∧ CurR m (iN (List.length m) i) ∧ (1 : Int) ≤ (9 : Int) ∧ (9 : Int) ≤ (256 : Int)) ∧
     ((byM m i h % (12 : Int) == (0 : Int)) = true →
         v = IntKind.u64.wrap ((0 : Int) - IntKind.u64.wrap (byM m (iN (List.length m) i) (hN h) % (9 : Int))) ∧
           (0 : Nat) = (0 : Nat) ∧ List.length m = List.length m ∧ i2 = iN (List.length m) (iN (List.length m) i) ∧ h2 = hN (hN h) ∧ m = m) ∧
       ((byM m i h % (12 : Int) == (0 : Int)) = false →
         ((byM m i h % (12 : Int) == (1 : Int)) = true →
             (List.length m = List.length m ∧ CurR m (iN (List.length m) (iN (List.length m) i))) ∧
               v = wordM m (iN (List.length m) (iN (List.length m) i)) (hN (hN h)) (8 : Nat) ∧
                 (0 : Nat) = (0 : Nat) ∧ List.length m = List.length m ∧ i2 = itI (List.length m) (iN (List.length m) (iN (List.length m) i)) (8 : Nat) ∧ h2 = itH (hN (hN h)) (8 : Nat) ∧ m = m) ∧
           ((byM m i h % (12 : Int) == (1 : Int)) = false →
             (decide (byM m i h % (12 : Int) < (5 : Int)) = true →
                 v = IntKind.u64.wrap (IntKind.u64.wrap s - IntKind.u64.wrap (byM m (iN (List.length m) i) (hN h) % (9 : Int))) ∧
                   (0 : Nat) = (0 : Nat) ∧ List.length m = List.length m ∧ i2 = iN (List.length m) (iN (List.length m) i) ∧ h2 = hN (hN h) ∧ m = m) ∧
               (decide (byM m i h % (12 : Int) < (5 : Int)) = false →
                 (List.length m = List.length m ∧ CurR m (iN (List.length m) (iN (List.length m) i)) ∧ (1 : Int) ≤ IntKind.i64.wrap (s + (2 : Int)) ∧ IntKind.i64.wrap (s + (2 : Int)) ≤ (256 : Int)) ∧
                   v = IntKind.u64.wrap (byM m (iN (List.length m) (iN (List.length m) i)) (hN (hN h)) % IntKind.i64.wrap (s + (2 : Int))) ∧
                     (0 : Nat) = (0 : Nat) ∧ List.length m = List.length m ∧ i2 = iN (List.length m) (iN (List.length m) (iN (List.length m) i)) ∧ h2 = hN (hN (hN h)) ∧ m = m)))) := by kernel_rfl
end Go.Proofs.Ytfiddfbagbaofaa.V
namespace Go.Proofs.Ytfiddfbagbaofaa.V
open Go
set_option linter.unusedSimpArgs false
theorem wrapU (x : Int) : U64 (IntKind.u64.wrap x) := by unfold U64; rw [IntKind.wrap_u64]; omega
theorem wordM_in (m : By) (i h : Int) : ∀ k, U64 (wordM m i h k)
  | 0 => by unfold wordM U64; omega
  | k + 1 => by unfold wordM; exact wrapU _
theorem cur_next {m : By} {i : Int} (h : CurR m i) : CurR m (iN m.length i) := cur_it h 1
theorem FU0_ok : DictOk Try.prog FU0 := mkD_ok (.cons (by kernel_rfl) below_ok (.cons (by kernel_rfl) word_ok (.cons (by kernel_rfl) mem_ok (.cons (by kernel_rfl) new_ok .nil)))) .nil .nil
theorem once_ok : Sound Try.prog 185 onceS := by
  refine sound_plain mixed Try.func185 (by kernel_rfl) (by kernel_rfl) FU0_ok (fun args H p v H' h hp => ?_)
  unfold onceS at h
  split at h
  case h_2 => cases h
  rename_i k n i hh sh m
  split at h
  case isFalse => cases h
  rename_i hsh
  subst hsh
  simp only [Option.some.injEq, Prod.mk.injEq] at h
  obtain ⟨rfl, rfl, rfl⟩ := h
  obtain ⟨rfl, hc, k1, k2⟩ : n = m.length ∧ CurR m i ∧ 1 ≤ k ∧ k ≤ 256 := hp
  exact ⟨.none, vc_by (vc_once_eq m i hh k) ⟨⟨rfl, hc, k1, k2⟩, rfl, rfl, rfl, rfl, rfl, rfl⟩⟩
/-- An address that is drawn, and the cursor behind it. -/
def addrQ (m : By) (i h s : Int) (y : Int × Int × Int) : Prop := vc_addr m i h s y.1 y.2.1 y.2.2 ∧ U64 y.1 ∧ CurR m y.2.1
theorem addr_ex {m : By} {i h s : Int} (hc : CurR m i) (h0 : 0 ≤ s) (h1 : s ≤ 200) : ∃ y, addrQ m i h s y := by
  have c1 := cur_next hc
  have c2 := cur_next c1
  have c3 := cur_next c2
  have w : IntKind.i64.wrap (s + 2) = s + 2 := wrap_i64_in (by omega) (by omega)
  by_cases a : byM m i h % 12 = 0
  · exact ⟨(_, _, _), vc_by (vc_addr_eq m i h s _ _ _) ⟨⟨rfl, hc, by omega, by omega⟩, ⟨rfl, c1, by omega, by omega⟩, fun _ => ⟨rfl, rfl, rfl, rfl, rfl, rfl⟩, fun q => absurd a (by simpa using q)⟩, wrapU _, c2⟩
  · by_cases b : byM m i h % 12 = 1
    · have e := vc_addr_eq m i h s (wordM m (iN m.length (iN m.length i)) (hN (hN h)) 8) (itI m.length (iN m.length (iN m.length i)) 8) (itH (hN (hN h)) 8)
      have g1 := wordM_in m (iN m.length (iN m.length i)) (hN (hN h)) 8
      have g2 := cur_it c2 8
      revert e g1 g2
      generalize wordM m (iN m.length (iN m.length i)) (hN (hN h)) 8 = v
      generalize itI m.length (iN m.length (iN m.length i)) 8 = i2
      generalize itH (hN (hN h)) 8 = h2
      intro e g1 g2
      exact ⟨(v, i2, h2), vc_by e ⟨⟨rfl, hc, by omega, by omega⟩, ⟨rfl, c1, by omega, by omega⟩, fun q => absurd (by simpa using q) a, fun _ => ⟨fun _ => ⟨⟨rfl, c2⟩, rfl, rfl, rfl, rfl, rfl, rfl⟩, fun q => absurd b (by simpa using q)⟩⟩, g1, g2⟩
    · by_cases c : byM m i h % 12 < 5
      · exact ⟨(_, _, _), vc_by (vc_addr_eq m i h s _ _ _) ⟨⟨rfl, hc, by omega, by omega⟩, ⟨rfl, c1, by omega, by omega⟩, fun q => absurd (by simpa using q) a, fun _ => ⟨fun q => absurd (by simpa using q) b, fun _ => ⟨fun _ => ⟨rfl, rfl, rfl, rfl, rfl, rfl⟩, fun q => absurd c (of_decide_eq_false q)⟩⟩⟩, wrapU _, c2⟩
      · exact ⟨(_, _, _), vc_by (vc_addr_eq m i h s _ _ _) ⟨⟨rfl, hc, by omega, by omega⟩, ⟨rfl, c1, by omega, by omega⟩, fun q => absurd (by simpa using q) a, fun _ => ⟨fun q => absurd (by simpa using q) b, fun _ => ⟨fun q => absurd (of_decide_eq_true q) c, fun _ => ⟨⟨rfl, c2, by omega, by omega⟩, rfl, rfl, rfl, rfl, rfl, rfl⟩⟩⟩⟩, wrapU _, c3⟩
noncomputable def addrD (m : By) (i h s : Int) : Int × Int × Int := Classical.epsilon (addrQ m i h s)
theorem addrD_ok {m : By} {i h s : Int} (hc : CurR m i) (h0 : 0 ≤ s) (h1 : s ≤ 200) : addrQ m i h s (addrD m i h s) := Classical.epsilon_spec (addr_ex hc h0 h1)
noncomputable def addrS : Sum := fun args H => match args, H with
  | [.ptr 0 0, .v (.int .i64 k)], [.fix [.sl 1 1 0 n, .v (.int .i64 i), .v (.int .i64 h)] true (some 234), .arr sh m false] =>
    if e : sh = [.i .u8] then some (some (n = (e ▸ m : List (El [.i .u8])).length ∧ CurR (e ▸ m : List (El [.i .u8])) i ∧ 0 ≤ k ∧ k ≤ 200), .v (.int .u64 (addrD (e ▸ m : List (El [.i .u8])) i h k).1), [.fix (curA n (addrD (e ▸ m : List (El [.i .u8])) i h k).2.1 (addrD (e ▸ m : List (El [.i .u8])) i h k).2.2) true (some 234), .arr [.i .u8] (e ▸ m : List (El [.i .u8])) false]) else none
  | _, _ => none
theorem addr_ok : Sound Try.prog 107 addrS := by
  refine sound_plain mixed Try.func107 (by kernel_rfl) (by kernel_rfl) FU0_ok (fun args H p v H' h hp => ?_)
  unfold addrS at h
  split at h
  case h_2 => cases h
  rename_i k n i hh sh m
  split at h
  case isFalse => cases h
  rename_i hsh
  subst hsh
  simp only [Option.some.injEq, Prod.mk.injEq] at h
  obtain ⟨rfl, rfl, rfl⟩ := h
  obtain ⟨rfl, hc, k1, k2⟩ : n = m.length ∧ CurR m i ∧ 0 ≤ k ∧ k ≤ 200 := hp
  exact ⟨.none, (addrD_ok hc k1 k2).1⟩
end Go.Proofs.Ytfiddfbagbaofaa.V
