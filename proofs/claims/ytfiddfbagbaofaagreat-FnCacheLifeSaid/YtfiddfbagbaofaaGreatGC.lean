/- Reading and writing a memory answer as their models; the law on writing returns true. Conditions: those in each statement. -/
import Derived.Test.YtfiddfbagbaofaaGreatGB
import Derived.KernelRfl
namespace Go.Proofs.YtfiddfbagbaofaaGreat.V
open Go
def FB1 : Dict := mkD kB1 [] []
def yfl (m : By) (a w : Int) : Prop := zan Tryz.prog FB1 .none Tryz.f226 [byP, u64, i64] [bl] (m, a, w) (zyw m a w)
def kB2 : Known := [
 (226, zag [byP, u64, i64] [bl] (fun t => some (SzR t.1.length)) (fun t => zyw t.1 t.2.1 t.2.2))] ++ kB1
def FB2 : Dict := mkD kB2 [] []
def yjw (m : By) (a w : Int) : Prop := zan Tryz.prog FB2 .none Tryz.f192 [byP, u64, i64] [rrP] (m, a, w) (zbz m a w)
def kB3 : Known := [
 (192, zag [byP, u64, i64] [rrP] (fun t => some (zaq t.1 ∧ U64 t.2.1)) (fun t => zbz t.1 t.2.1 t.2.2))] ++ kB2
set_option linter.unusedVariables false
theorem zsg (m : By) (a w : Int) : yfl m a w = (
 ((bif bif bif w != (1 : Int) then w != (2 : Int) else false then w != (4 : Int) else false then w != (8 : Int) else false) = true → zyw m a w = false ∧ m = m) ∧
   ((bif bif bif w != (1 : Int) then w != (2 : Int) else false then w != (4 : Int) else false then w != (8 : Int) else false) = false →
     (List.length m = List.length m ∧ SzR (List.length m) ∧ (0 : PmT [i64]) ≤ w) ∧ zyw m a w = zyd m a w ∧ m = m)) := by kernel_rfl
theorem zvt (m : By) (a w : Int) : yjw m a w = (
 let A0 (a : Int) := IntKind.i64.wrap a;
 let A1 (a : Int) := (A0 a).toNat;
 let A2 := List.length m;
 let A3 := List.take (A1 (A0 a + w) - A1 a) (List.drop ((0 : Nat) + A1 a) m);
 let A4 (b : Bool) (c : Prop) := (!zyw m a w) = b → c;
 let A5 (b : Bool) (c : Int) := (zbz m a w).fst = b ∧ (zbz m a w).snd = c ∧ m = m;
 (A2 = A2 ∧ SzR A2) ∧ A4 true (A5 false (0 : Int)) ∧ A4 false (((0 : Int) ≤ A0 a ∧ A0 a ≤ A0 (A0 a + w) ∧ A0 (A0 a + w) ≤ (↑A2 : Int)) ∧ ((0 : Nat) + A1 a + (A1 (A0 a + w) - A1 a) ≤ A2 ∧ zaq A3 ∧ A3.length ≤ (8 : Nat)) ∧ A5 true (zdt A3))) := by kernel_rfl
set_option linter.unusedSimpArgs false
theorem ypk : DictOk Tryz.prog FB1 := za1 ycd .nil .nil
theorem yql {w : Int} (h : gwM w = true) : 1 ≤ w ∧ w ≤ 8 := by
 simp only [gwM, Bool.or_eq_true, beq_iff_eq] at h
 omega
theorem yik {m : By} {a w : Int} (hm : zaq m) (ha : U64 a) (h : zyw m a w = true) : FitR m a w := by
 simp only [zyw, zyd, Bool.and_eq_true, decide_eq_true_eq] at h
 have := yql h.1
 exact ⟨hm, ha.1, by omega, by omega, by omega⟩
theorem ycp : Sound Tryz.prog 226 (zag [byP, u64, i64] [bl] (fun t => some (SzR t.1.length)) (fun t => zyw t.1 t.2.1 t.2.2)) := by
 refine zae mixed Tryz.func226 (by kernel_rfl) (by kernel_rfl) ypk (fun t h => ?_)
 obtain ⟨m, a, w⟩ : By × Int × Int := t
 have h : SzR m.length := h
 refine zah (zsg m a w) ?_
 have e : (bif bif bif w != 1 then w != 2 else false then w != 4 else false then w != 8 else false) = !gwM w := by
  unfold gwM
  simp only [Bool.cond_false_right, Bool.not_or, bne]
 rw [e]
 refine ⟨fun g => ?_, fun g => ?_⟩
 · have g : gwM w = false := by simpa using g
   exact ⟨by simp [zyw, g], rfl⟩
 · have g : gwM w = true := by simpa using g
   have := yql g
   exact ⟨⟨rfl, h, by show (0 : Int) ≤ w; omega⟩, by simp [zyw, g], rfl⟩
theorem ykx : zaz Tryz.prog kB2 := .cons (by kernel_rfl) ycp <| ycd
theorem ypl : DictOk Tryz.prog FB2 := za1 ykx .nil .nil
theorem yip : Sound Tryz.prog 192 (zag [byP, u64, i64] [rrP] (fun t => some (zaq t.1 ∧ U64 t.2.1)) (fun t => zbz t.1 t.2.1 t.2.2)) := by
 refine zae mixed Tryz.func192 (by kernel_rfl) (by kernel_rfl) ypl (fun t h => ?_)
 obtain ⟨m, a, w⟩ : By × Int × Int := t
 obtain ⟨h1, h2⟩ : zaq m ∧ U64 a := h
 have hs := h1.1
 unfold SzR at hs
 refine zah (zvt m a w) ?_
 conv => zeta
 refine ⟨⟨rfl, h1.1⟩, fun e => ?_, fun e => ?_⟩
 · have e : zyw m a w = false := by simpa using e
   simp [zbz, e]
 · have e : zyw m a w = true := by simpa using e
   obtain ⟨_, g1, g2, g3, g4⟩ := yik h1 h2 e
   have e1 : IntKind.i64.wrap a = a := zac (by omega) (by omega)
   have e2 : IntKind.i64.wrap (a + w) = a + w := zac (by omega) (by omega)
   rw [e1, e2, show (a + w).toNat - a.toNat = w.toNat by omega, Nat.zero_add]
   refine ⟨⟨by omega, by omega, by omega⟩, ⟨by omega, ⟨?_, fun b hb => h1.2 b (List.mem_of_mem_drop (List.mem_of_mem_take hb))⟩, by simp; omega⟩, by simp [zbz, e], by simp [zbz, e], rfl⟩
   unfold SzR
   simp
   omega
theorem zdn : zaz Tryz.prog kB3 := .cons (by kernel_rfl) yip <| ykx
theorem wf_u8 {n : Int} (h : (Lit.int .u8 n).wf = true) : 0 ≤ n ∧ n < 256 := by
 simp only [Lit.wf, Bool.and_eq_true, decide_eq_true_eq] at h
 have h1 : (0 : Int) ≤ n := h.1
 have h2 : n ≤ 255 := h.2
 exact ⟨h1, by omega⟩
theorem yka {m : By} (h : WfC (.sl [.i .u8]) m) : ∀ b ∈ m, 0 ≤ b ∧ b < 256 := fun b hb => wf_u8 (h.2 b hb)
end Go.Proofs.YtfiddfbagbaofaaGreat.V
