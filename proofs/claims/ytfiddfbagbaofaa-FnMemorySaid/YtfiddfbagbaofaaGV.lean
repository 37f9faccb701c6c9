/- Draws of memories, sixth part, answer as their models. Conditions: those in each statement. -/
import Derived.Test.YtfiddfbagbaofaaGU
import Derived.KernelRfl
namespace Go.Proofs.Ytfiddfbagbaofaa.V
open Go
def FV0 : Dict := mkD ((185, onceS) :: kU0) [] []
def vc_wid (m : By) (i h v i2 h2 : Int) : Prop := vcAt Try.prog FV0 .none Try.f108 [.ptr 0 0] (curH m i h) (.v (.int .i64 v)) (curH m i2 h2)
def widQ (m : By) (i h : Int) (y : Int × Int × Int) : Prop := vc_wid m i h y.1 y.2.1 y.2.2 ∧ I64 y.1 ∧ CurR m y.2.1
noncomputable def widD (m : By) (i h : Int) : Int × Int × Int := Classical.epsilon (widQ m i h)
noncomputable def widS : Sum := fun args H => match args, H with
  | [.ptr 0 0], [.fix [.sl 1 1 0 n, .v (.int .i64 i), .v (.int .i64 h)] true (some 234), .arr sh m false] =>
    if e : sh = [.i .u8] then some (some (n = (e ▸ m : List (El [.i .u8])).length ∧ CurR (e ▸ m : List (El [.i .u8])) i), .v (.int .i64 (widD (e ▸ m : List (El [.i .u8])) i h).1), [.fix (curA n (widD (e ▸ m : List (El [.i .u8])) i h).2.1 (widD (e ▸ m : List (El [.i .u8])) i h).2.2) true (some 234), .arr [.i .u8] (e ▸ m : List (El [.i .u8])) false]) else none
  | _, _ => none
noncomputable def FV1 : Dict := mkD ((108, widS) :: (107, addrS) :: kU0) [] []
def vc_dwm (m : By) (a : By) (b c d : Int) : Prop := vcPure Try.prog FV1 .none Try.f38 [byP] [byP, u64, i64, u64] m (a, b, c, d)
end Go.Proofs.Ytfiddfbagbaofaa.V
namespace Go.Proofs.Ytfiddfbagbaofaa.V
open Go
set_option linter.unusedVariables false
theorem vc_wid_eq (m : By) (i h v i2 h2 : Int) : vc_wid m i h v i2 h2 = (
 (List.length m = List.length m ∧ CurR m i ∧ (1 : Int) ≤ (14 : Int) ∧ (14 : Int) ≤ (256 : Int)) ∧
   ((byM m i h % (14 : Int) == (0 : Int)) = true →
       (List.length m = List.length m ∧ CurR m (iN (List.length m) i) ∧ (1 : Int) ≤ (11 : Int) ∧ (11 : Int) ≤ (256 : Int)) ∧
         v = IntKind.i64.wrap (byM m (iN (List.length m) i) (hN h) % (11 : Int) - (1 : Int)) ∧
           (0 : Nat) = (0 : Nat) ∧ List.length m = List.length m ∧ i2 = iN (List.length m) (iN (List.length m) i) ∧ h2 = hN (hN h) ∧ m = m) ∧
     ((byM m i h % (14 : Int) == (0 : Int)) = false →
       (List.length m = List.length m ∧ CurR m (iN (List.length m) i) ∧ (1 : Int) ≤ (4 : Int) ∧ (4 : Int) ≤ (256 : Int)) ∧
         (0 : Int) ≤ IntKind.u64.wrap (byM m (iN (List.length m) i) (hN h) % (4 : Int)) ∧
           v = IntKind.i64.wrap ((1 : Int) * (2 : Int) ^ min (IntKind.u64.wrap (byM m (iN (List.length m) i) (hN h) % (4 : Int))).toNat (64 : Nat)) ∧
             (0 : Nat) = (0 : Nat) ∧ List.length m = List.length m ∧ i2 = iN (List.length m) (iN (List.length m) i) ∧ h2 = hN (hN h) ∧ m = m)) := by kernel_rfl
theorem vc_dwm_eq (m : By) (a : By) (b c d : Int) : vc_dwm m a b c d = (
 (List.length m = List.length m ∧ ByteR m) ∧
   (List.length m = List.length m ∧ CurR m (0 : Int) ∧ (1 : Int) ≤ (80 : Int) ∧ (80 : Int) ≤ (256 : Int)) ∧
     (List.length m = List.length m ∧
         CurR m (iN (List.length m) (0 : Int)) ∧ (0 : Int) ≤ byM m (0 : Int) (hashM m (List.length m)) % (80 : Int) ∧ byM m (0 : Int) (hashM m (List.length m)) % (80 : Int) ≤ (100000 : Int)) ∧
       (List.length m = List.length m ∧
           CurR m (itI (List.length m) (iN (List.length m) (0 : Int)) (byM m (0 : Int) (hashM m (List.length m)) % (80 : Int)).toNat) ∧
             (0 : Int) ≤ byM m (0 : Int) (hashM m (List.length m)) % (80 : Int) ∧ byM m (0 : Int) (hashM m (List.length m)) % (80 : Int) ≤ (200 : Int)) ∧
         (List.length m = List.length m ∧
             CurR m
               (addrD m (itI (List.length m) (iN (List.length m) (0 : Int)) (byM m (0 : Int) (hashM m (List.length m)) % (80 : Int)).toNat)
                     (itH (hN (hashM m (List.length m))) (byM m (0 : Int) (hashM m (List.length m)) % (80 : Int)).toNat) (byM m (0 : Int) (hashM m (List.length m)) % (80 : Int))).snd.fst) ∧
           (List.length m = List.length m ∧
               CurR m
                 (widD m
                       (addrD m (itI (List.length m) (iN (List.length m) (0 : Int)) (byM m (0 : Int) (hashM m (List.length m)) % (80 : Int)).toNat)
                             (itH (hN (hashM m (List.length m))) (byM m (0 : Int) (hashM m (List.length m)) % (80 : Int)).toNat) (byM m (0 : Int) (hashM m (List.length m)) % (80 : Int))).snd.fst
                       (addrD m (itI (List.length m) (iN (List.length m) (0 : Int)) (byM m (0 : Int) (hashM m (List.length m)) % (80 : Int)).toNat)
                             (itH (hN (hashM m (List.length m))) (byM m (0 : Int) (hashM m (List.length m)) % (80 : Int)).toNat)
                             (byM m (0 : Int) (hashM m (List.length m)) % (80 : Int))).snd.snd).snd.fst) ∧
             (0 : Nat) = (0 : Nat) ∧
               List.length a = (byM m (0 : Int) (hashM m (List.length m)) % (80 : Int)).toNat ∧
                 b =
                     (addrD m (itI (List.length m) (iN (List.length m) (0 : Int)) (byM m (0 : Int) (hashM m (List.length m)) % (80 : Int)).toNat)
                         (itH (hN (hashM m (List.length m))) (byM m (0 : Int) (hashM m (List.length m)) % (80 : Int)).toNat) (byM m (0 : Int) (hashM m (List.length m)) % (80 : Int))).fst ∧
                   c =
                       (widD m
                           (addrD m (itI (List.length m) (iN (List.length m) (0 : Int)) (byM m (0 : Int) (hashM m (List.length m)) % (80 : Int)).toNat)
                                 (itH (hN (hashM m (List.length m))) (byM m (0 : Int) (hashM m (List.length m)) % (80 : Int)).toNat) (byM m (0 : Int) (hashM m (List.length m)) % (80 : Int))).snd.fst
                           (addrD m (itI (List.length m) (iN (List.length m) (0 : Int)) (byM m (0 : Int) (hashM m (List.length m)) % (80 : Int)).toNat)
                                 (itH (hN (hashM m (List.length m))) (byM m (0 : Int) (hashM m (List.length m)) % (80 : Int)).toNat)
                                 (byM m (0 : Int) (hashM m (List.length m)) % (80 : Int))).snd.snd).fst ∧
                     d =
                         wordM m
                           (widD m
                                 (addrD m (itI (List.length m) (iN (List.length m) (0 : Int)) (byM m (0 : Int) (hashM m (List.length m)) % (80 : Int)).toNat)
                                       (itH (hN (hashM m (List.length m))) (byM m (0 : Int) (hashM m (List.length m)) % (80 : Int)).toNat)
                                       (byM m (0 : Int) (hashM m (List.length m)) % (80 : Int))).snd.fst
                                 (addrD m (itI (List.length m) (iN (List.length m) (0 : Int)) (byM m (0 : Int) (hashM m (List.length m)) % (80 : Int)).toNat)
                                       (itH (hN (hashM m (List.length m))) (byM m (0 : Int) (hashM m (List.length m)) % (80 : Int)).toNat)
                                       (byM m (0 : Int) (hashM m (List.length m)) % (80 : Int))).snd.snd).snd.fst
                           (widD m
                                 (addrD m (itI (List.length m) (iN (List.length m) (0 : Int)) (byM m (0 : Int) (hashM m (List.length m)) % (80 : Int)).toNat)
                                       (itH (hN (hashM m (List.length m))) (byM m (0 : Int) (hashM m (List.length m)) % (80 : Int)).toNat)
                                       (byM m (0 : Int) (hashM m (List.length m)) % (80 : Int))).snd.fst
                                 (addrD m (itI (List.length m) (iN (List.length m) (0 : Int)) (byM m (0 : Int) (hashM m (List.length m)) % (80 : Int)).toNat)
                                       (itH (hN (hashM m (List.length m))) (byM m (0 : Int) (hashM m (List.length m)) % (80 : Int)).toNat)
                                       (byM m (0 : Int) (hashM m (List.length m)) % (80 : Int))).snd.snd).snd.snd
                           (8 : Nat) ∧
                       m = m ∧ a = memM m (iN (List.length m) (0 : Int)) (hN (hashM m (List.length m))) (byM m (0 : Int) (hashM m (List.length m)) % (80 : Int)).toNat) := by kernel_rfl
end Go.Proofs.Ytfiddfbagbaofaa.V
namespace Go.Proofs.Ytfiddfbagbaofaa.V
open Go
set_option linter.unusedSimpArgs false
theorem FV0_ok : DictOk Try.prog FV0 := mkD_ok (.cons (by kernel_rfl) once_ok (.cons (by kernel_rfl) below_ok (.cons (by kernel_rfl) word_ok (.cons (by kernel_rfl) mem_ok (.cons (by kernel_rfl) new_ok .nil))))) .nil .nil
theorem wrapI (x : Int) : I64 (IntKind.i64.wrap x) := by unfold I64; rw [IntKind.wrap_i64]; omega
theorem wid_ex {m : By} {i h : Int} (hc : CurR m i) : ∃ y, widQ m i h y := by
  have c1 := cur_next hc
  have c2 := cur_next c1
  by_cases a : byM m i h % 14 = 0
  · exact ⟨(_, _, _), vc_by (vc_wid_eq m i h _ _ _) ⟨⟨rfl, hc, by omega, by omega⟩, fun _ => ⟨⟨rfl, c1, by omega, by omega⟩, rfl, rfl, rfl, rfl, rfl, rfl⟩, fun q => absurd a (by simpa using q)⟩, wrapI _, c2⟩
  · exact ⟨(_, _, _), vc_by (vc_wid_eq m i h _ _ _) ⟨⟨rfl, hc, by omega, by omega⟩, fun q => absurd (by simpa using q) a, fun _ => ⟨⟨rfl, c1, by omega, by omega⟩, (wrapU _).1, rfl, rfl, rfl, rfl, rfl, rfl⟩⟩, wrapI _, c2⟩
theorem widD_ok {m : By} {i h : Int} (hc : CurR m i) : widQ m i h (widD m i h) := Classical.epsilon_spec (wid_ex hc)
theorem wid_ok : Sound Try.prog 108 widS := by
  refine sound_plain mixed Try.func108 (by kernel_rfl) (by kernel_rfl) FV0_ok (fun args H p v H' h hp => ?_)
  unfold widS at h
  split at h
  case h_2 => cases h
  rename_i n i hh sh m
  split at h
  case isFalse => cases h
  rename_i hsh
  subst hsh
  simp only [Option.some.injEq, Prod.mk.injEq] at h
  obtain ⟨rfl, rfl, rfl⟩ := h
  obtain ⟨rfl, hc⟩ : n = m.length ∧ CurR m i := hp
  exact ⟨.none, (widD_ok hc).1⟩
theorem FV1_ok : DictOk Try.prog FV1 := mkD_ok (.cons (by kernel_rfl) wid_ok (.cons (by kernel_rfl) addr_ok (.cons (by kernel_rfl) below_ok (.cons (by kernel_rfl) word_ok (.cons (by kernel_rfl) mem_ok (.cons (by kernel_rfl) new_ok .nil)))))) .nil .nil
/-- What a draw for writing is: bytes, an address, a width, a number. -/
def dwmQ (m : By) (y : By × Int × Int × Int) : Prop := vc_dwm m y.1 y.2.1 y.2.2.1 y.2.2.2 ∧ ByteR y.1 ∧ U64 y.2.1 ∧ I64 y.2.2.1 ∧ U64 y.2.2.2
theorem dwm_ex {m : By} (hm : ByteR m) : ∃ y, dwmQ m y := by
  have c0 : CurR m 0 := ⟨hm, by omega, by omega⟩
  have c1 := cur_next c0
  have k0 : 0 ≤ byM m 0 (hashM m m.length) % 80 := by omega
  have k1 : byM m 0 (hashM m m.length) % 80 < 80 := by omega
  unfold dwmQ
  generalize e0 : byM m 0 (hashM m m.length) % 80 = n at k0 k1
  have c2 := cur_it c1 n.toNat
  generalize e1 : itI m.length (iN m.length 0) n.toNat = i2 at c2
  generalize e2 : itH (hN (hashM m m.length)) n.toNat = h2
  obtain ⟨-, a1, a2⟩ := addrD_ok (h := h2) c2 k0 (by omega)
  generalize e3 : addrD m i2 h2 n = A at a1 a2
  obtain ⟨v, i3, h3⟩ := A
  obtain ⟨-, b1, b2⟩ := widD_ok (h := h3) a2
  generalize e4 : widD m i3 h3 = B at b1 b2
  obtain ⟨w, i4, h4⟩ := B
  have d1 := wordM_in m i4 h4 8
  generalize e5 : wordM m i4 h4 8 = x at d1
  have f1 := memM_in m (iN m.length 0) (hN (hashM m m.length)) n.toNat
  have f2 := memM_length m (iN m.length 0) (hN (hashM m m.length)) n.toNat
  generalize e6 : memM m (iN m.length 0) (hN (hashM m m.length)) n.toNat = M at f1 f2
  refine ⟨(M, v, w, x), ?_, ⟨show SzR M.length by unfold SzR; omega, f1⟩, a1, b1, d1⟩
  have e := vc_dwm_eq m M v w x
  rw [e0, e1, e2, e3] at e
  simp only at e
  rw [e4] at e
  simp only at e
  rw [e5, e6] at e
  refine vc_by e ?_
  have k2 : n ≤ 100000 := by omega
  have k3 : n ≤ 200 := by omega
  have a2 : CurR m i3 := a2
  have b2 : CurR m i4 := b2
  simp [hm, c0, c1, c2, a2, b2, f2, k0, k2, k3]
noncomputable def dwmD (m : By) : By × Int × Int × Int := Classical.epsilon (dwmQ m)
theorem dwmD_ok {m : By} (hm : ByteR m) : dwmQ m (dwmD m) := Classical.epsilon_spec (dwm_ex hm)
theorem dwm_ok : Sound Try.prog 38 (pureS [byP] [byP, u64, i64, u64] (fun m => some (ByteR m)) dwmD) := by
  refine pure_plain mixed Try.func38 (by kernel_rfl) (by kernel_rfl) FV1_ok (fun (m : By) h => ?_)
  have h : ByteR m := h
  obtain ⟨g, -⟩ := dwmD_ok h
  exact g
end Go.Proofs.Ytfiddfbagbaofaa.V
