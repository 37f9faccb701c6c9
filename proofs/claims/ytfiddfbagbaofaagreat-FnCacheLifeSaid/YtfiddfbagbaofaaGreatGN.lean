/- The plain translation answers as the model. Conditions: those in each statement. -/
import Derived.Test.YtfiddfbagbaofaaGreatGM
import Derived.KernelRfl
namespace Go.Proofs.YtfiddfbagbaofaaGreat.V
open Go
abbrev Ct := Int × Bool × Bool × Int
abbrev trP : Pm := .st [.i .i64, .i .u64]
def zcf (pte l : Int) (c : Ct) (k va : Int) : Int × Int := if zb5 pte k c.1 c.2.1 c.2.2.1 = true then (0, zeg pte l va) else (pfM k, 0)
def zam (W : Wr) (c : Ct) (k va : Int) : Int × Int := if W.1 = 2 then (pfM k, 0) else if W.1 = 3 then (afM k, 0) else zcf W.2.2.1 W.2.1 c k va
def zcl (m : By) (c : Ct) (k va : Int) : Int × Int := if ybb c k = true then (if onM c = true then zam (zcg m c.2.2.2 va) c k va else (0, va)) else (63, 0)
def FN0 : Dict := mkD (kM ++ kB3 ++ kA4) [] []
def yov (p l : Int) (a : Int) (b c : Bool) (d k va : Int) : Prop := zan Tryz.prog FN0 .none Tryz.f123 [u64, i64, ze6, i64, u64] [trP] (p, l, (a, b, c, d), k, va) (zcf p l (a, b, c, d) k va)
def kN2 : Known := [
 (123, zag [u64, i64, ze6, i64, u64] [trP] (fun t => some (U64 t.1 ∧ U64 t.2.2.2.2)) (fun t => zcf t.1 t.2.1 t.2.2.1 t.2.2.2.1 t.2.2.2.2))]
def FN2 : Dict := mkD (kN2 ++ kM ++ kB3 ++ kA4) [] []
def yey (w1 w2 w3 : Int) (rs : Rs) (a : Int) (b c : Bool) (d k va : Int) : Prop := zan Tryz.prog FN2 .none Tryz.f128 [wrP, ze6, i64, u64] [trP] ((w1, w2, w3, rs), (a, b, c, d), k, va) (zam (w1, w2, w3, rs) (a, b, c, d) k va)
set_option linter.unusedVariables false
theorem zzq (p l : Int) (a : Int) (b c : Bool) (d k va : Int) : yov p l a b c d k va = (
 U64 p ∧ (zb5 p k a b c = true → (U64 p ∧ U64 va) ∧ (zcf p l (a, b, c, d) k va).fst = (0 : Int) ∧ (zcf p l (a, b, c, d) k va).snd = zeg p l va) ∧ (zb5 p k a b c = false → (zcf p l (a, b, c, d) k va).fst = pfM k ∧ (zcf p l (a,
 b, c, d) k va).snd = (0 : Int))) := by kernel_rfl
theorem zr3 (w1 w2 w3 : Int) (rs : Rs) (a : Int) (b c : Bool) (d k va : Int) : yey w1 w2 w3 rs a b c d k va = (
 ((w1 == (2 : Int)) = true → (zam (w1, w2, w3, rs) (a, b, c, d) k va).fst = pfM k ∧ (zam (w1, w2, w3, rs) (a, b, c, d) k va).snd = (0 : Int) ∧ rs = rs) ∧ ((w1 == (2 : Int)) = false → ((w1 == (3 : Int)) = true → (zam (w1, w2, w3,
 rs) (a, b, c, d) k va).fst = afM k ∧ (zam (w1, w2, w3, rs) (a, b, c, d) k va).snd = (0 : Int) ∧ rs = rs) ∧ ((w1 == (3 : Int)) = false → (U64 w3 ∧ U64 va) ∧ (zam (w1, w2, w3, rs) (a, b, c, d) k va).fst = (zcf w3 w2 (a, b, c, d) k
 va).fst ∧ (zam (w1, w2, w3, rs) (a, b, c, d) k va).snd = (zcf w3 w2 (a, b, c, d) k va).snd ∧ rs = rs))) := by kernel_rfl
set_option linter.unusedSimpArgs false
theorem yps : DictOk Tryz.prog FN0 := za1 ((yhs.append zdn).append zcb) .nil .nil
theorem yne : Sound Tryz.prog 123 (zag [u64, i64, ze6, i64, u64] [trP] (fun t => some (U64 t.1 ∧ U64 t.2.2.2.2)) (fun t => zcf t.1 t.2.1 t.2.2.1 t.2.2.2.1 t.2.2.2.2)) := by
 refine zae mixed Tryz.func123 (by kernel_rfl) (by kernel_rfl) yps (fun t h => ?_)
 obtain ⟨p, l, ⟨a, b, c, d⟩, k, va⟩ : Int × Int × Ct × Int × Int := t
 obtain ⟨h1, h2⟩ : U64 p ∧ U64 va := h
 refine zah (zzq p l a b c d k va) ⟨h1, fun q => ⟨⟨h1, h2⟩, ?_⟩, fun q => ?_⟩
 · simp [zcf, q]
 · simp [zcf, q]
theorem yck : zaz Tryz.prog kN2 := .cons (by kernel_rfl) yne <| .nil
theorem ypt : DictOk Tryz.prog FN2 := za1 (((yck.append yhs).append zdn).append zcb) .nil .nil
theorem ya8 : Sound Tryz.prog 128 (zag [wrP, ze6, i64, u64] [trP] (fun t => some ((t.1.1 ≠ 2 → t.1.1 ≠ 3 → U64 t.1.2.2.1) ∧ U64 t.2.2.2)) (fun t => zam t.1 t.2.1 t.2.2.1 t.2.2.2)) := by
 refine zae mixed Tryz.func128 (by kernel_rfl) (by kernel_rfl) ypt (fun t h => ?_)
 obtain ⟨⟨w1, w2, w3, rs⟩, ⟨a, b, c, d⟩, k, va⟩ : Wr × Ct × Int × Int := t
 obtain ⟨h1, h2⟩ : (w1 ≠ 2 → w1 ≠ 3 → U64 w3) ∧ U64 va := h
 refine zah (zr3 w1 w2 w3 rs a b c d k va) ⟨fun q => ?_, fun q => ⟨fun q2 => ?_, fun q2 => ?_⟩⟩
 · have q : w1 = 2 := by simpa using q
   simp [zam, q]
 · have q2 : w1 = 3 := by simpa using q2
   simp [zam, q2]
 · have q : w1 ≠ 2 := by simpa using q
   have q2 : w1 ≠ 3 := by simpa using q2
   exact ⟨⟨h1 q q2, h2⟩, by simp [zam, q, q2], by simp [zam, q, q2], rfl⟩
theorem zc1 {m : By} {va : Int} (hm : zaq m) : ∀ (n : Nat) (p : Int), (zbp m va n p).1 = 1 → U64 (zbp m va n p).2.2.1 ∧ 0 ≤ (zbp m va n p).2.1 ∧ (zbp m va n p).2.1 < n
 | 0, _, h => by cases h
 | n + 1, p, h => by
  have hr := ydv (a := 64 * p + 8 * zfi va n) hm
  unfold zbp at h ⊢
  split at h
  · cases h
  · rename_i c1
    rw [if_neg c1]
    split at h
    · cases h
    · rename_i c2
      rw [if_neg c2]
      split at h
      · rename_i c3
        rw [if_pos c3]
        exact ⟨hr, by simp only; omega, by simp only; omega⟩
      · rename_i c3
        rw [if_neg c3]
        obtain ⟨g1, g2, g3⟩ := zc1 hm n _ h
        exact ⟨g1, g2, by simp only; omega⟩
end Go.Proofs.YtfiddfbagbaofaaGreat.V
