/- The law on the plain translation returns true. Conditions: those in each statement. -/
import Derived.Test.YtfiddfbagbaofaaGN
import Derived.KernelRfl
namespace Go.Proofs.Ytfiddfbagbaofaa.V
open Go
def kO1 : Known := [
  (139, pureS [wrP, ctxP, i64, u64] [trP] (fun t => some ((t.1.1 ≠ 2 → t.1.1 ≠ 3 → U64 t.1.2.2.1) ∧ U64 t.2.2.2)) (fun t => answerM t.1 t.2.1 t.2.2.1 t.2.2.2)),
  (62, pureS [byP, ctxP, i64, u64] [trP] (fun t => some (ByteR t.1 ∧ U64 t.2.1.2.2.2 ∧ U64 t.2.2.2)) (fun t => plainM t.1 t.2.1 t.2.2.1 t.2.2.2))] ++ kN2 ++ kM ++ kB3 ++ kA4
def FO1 : Dict := mkD kO1 [] []
def vc_sPlain (m : By) (a : Int) (b c : Bool) (d k va : Int) : Prop := vcPure Try.prog FO1 .none Try.f60 [byP, ctxP, i64, u64] [trP] (m, (a, b, c, d), k, va) (plainM m (a, b, c, d) k va)
def kO2 : Known := (60, pureS [byP, ctxP, i64, u64] [trP] (fun t => some (ByteR t.1 ∧ U64 t.2.1.2.2.2 ∧ U64 t.2.2.2)) (fun t => plainM t.1 t.2.1 t.2.2.1 t.2.2.2)) :: kO1
def FO2 : Dict := mkD kO2 [] []
def vc_lawPlain (m : By) (a : Int) (b c : Bool) (d k va : Int) : Prop := vcPure Try.prog FO2 .none Try.f16 [byP, ctxP, i64, u64] [bl] (m, (a, b, c, d), k, va) true
end Go.Proofs.Ytfiddfbagbaofaa.V
namespace Go.Proofs.Ytfiddfbagbaofaa.V
open Go
set_option linter.unusedVariables false
theorem vc_sPlain_eq (m : By) (a : Int) (b c : Bool) (d k va : Int) : vc_sPlain m a b c d k va = (
 ((bif bif bif decide (k < (0 : Int)) then true else decide (k > (2 : Int)) then true else decide (a < (0 : Int)) then true else decide (a > (2 : Int))) = true →
     (plainM m (a, b, c, d) k va).fst = (63 : Int) ∧ (plainM m (a, b, c, d) k va).snd = (0 : Int) ∧ m = m) ∧
   ((bif bif bif decide (k < (0 : Int)) then true else decide (k > (2 : Int)) then true else decide (a < (0 : Int)) then true else decide (a > (2 : Int))) = false →
     U64 d ∧
       ((!onM (a, b, c, d)) = true → (plainM m (a, b, c, d) k va).fst = (0 : Int) ∧ (plainM m (a, b, c, d) k va).snd = va ∧ m = m) ∧
         ((!onM (a, b, c, d)) = false →
           (List.length m = List.length m ∧ ByteR m ∧ U64 d ∧ U64 va) ∧
             (List.length (walkM m d va).snd.snd.snd = List.length (walkM m d va).snd.snd.snd ∧
                 ((walkM m d va).fst ≠ (2 : (Cs.i IntKind.i64).T) → (walkM m d va).fst ≠ (3 : (Cs.i IntKind.i64).T) → U64 (walkM m d va).snd.snd.fst) ∧ U64 va) ∧
               (plainM m (a, b, c, d) k va).fst = (answerM ((walkM m d va).fst, (walkM m d va).snd.fst, (walkM m d va).snd.snd.fst, (walkM m d va).snd.snd.snd) (a, b, c, d) k va).fst ∧
                 (plainM m (a, b, c, d) k va).snd = (answerM ((walkM m d va).fst, (walkM m d va).snd.fst, (walkM m d va).snd.snd.fst, (walkM m d va).snd.snd.snd) (a, b, c, d) k va).snd ∧ m = m))) := by kernel_rfl
theorem vc_lawPlain_eq (m : By) (a : Int) (b c : Bool) (d k va : Int) : vc_lawPlain m a b c d k va = (
 (decide ((↑(List.length m) : Int) > (1048576 : Int)) = true → true = true ∧ m = m) ∧
   (decide ((↑(List.length m) : Int) > (1048576 : Int)) = false →
     (List.length m = List.length m ∧ SzR (List.length m)) ∧
       (List.length m = List.length m ∧ ByteR m ∧ U64 d ∧ U64 va) ∧
         (List.length m = List.length m ∧ SzR (List.length m)) ∧
           (List.length m = List.length m ∧ ByteR m ∧ U64 d ∧ U64 va) ∧
             ((plainM m (a, b, c, d) k va).fst, (plainM m (a, b, c, d) k va).snd) = ((plainM m (a, b, c, d) k va).fst, (plainM m (a, b, c, d) k va).snd) ∧
               ((!true) = true → true = false ∧ m = m) ∧
                 ((!true) = false →
                   (List.length m = List.length m ∧ SzR (List.length m)) ∧
                     (List.length m = List.length m ∧ List.length m = List.length m ∧ m = m ∧ SzR (List.length m)) ∧ ((!true) = true → true = false ∧ m = m) ∧ ((!true) = false → true = true ∧ m = m)))) := by kernel_rfl
end Go.Proofs.Ytfiddfbagbaofaa.V
namespace Go.Proofs.Ytfiddfbagbaofaa.V
open Go
set_option linter.unusedSimpArgs false
theorem kO1_ok : KnowsD Try.prog kO1 := .cons (by kernel_rfl) answer_ok <| .cons (by kernel_rfl) iPlain_ok (((kN2_ok.append kM_ok).append kB3_ok).append kA4_ok)
theorem FO1_ok : DictOk Try.prog FO1 := mkD_ok kO1_ok .nil .nil
theorem ask_spec (c : Ct) (k : Int) : (bif bif bif decide (k < 0) then true else decide (k > 2) then true else decide (c.1 < 0) then true else decide (c.1 > 2)) = !askM c k := by
  have e : ∀ x : Int, decide (0 ≤ x) = !decide (x < 0) := fun x => by
    by_cases h : x < 0
    · have : ¬ 0 ≤ x := by omega
      simp [h, this]
    · have : 0 ≤ x := by omega
      simp [h, this]
  have e2 : ∀ x : Int, decide (x ≤ 2) = !decide (x > 2) := fun x => by
    by_cases h : x > 2
    · have : ¬ x ≤ 2 := by omega
      simp [h, this]
    · have : x ≤ 2 := by omega
      simp [h, this]
  unfold askM
  rw [e, e2, e, e2]
  cases decide (k < 0) <;> cases decide (k > 2) <;> cases decide (c.1 < 0) <;> cases decide (c.1 > 2) <;> rfl
theorem sPlain_ok : Sound Try.prog 60 (pureS [byP, ctxP, i64, u64] [trP] (fun t => some (ByteR t.1 ∧ U64 t.2.1.2.2.2 ∧ U64 t.2.2.2)) (fun t => plainM t.1 t.2.1 t.2.2.1 t.2.2.2)) := by
  refine pure_plain mixed Try.func60 (by kernel_rfl) (by kernel_rfl) FO1_ok (fun t h => ?_)
  obtain ⟨m, ⟨a, b, c, d⟩, k, va⟩ : By × Ct × Int × Int := t
  obtain ⟨h1, h2, h3⟩ : ByteR m ∧ U64 d ∧ U64 va := h
  have ha := ask_spec (a, b, c, d) k
  simp only at ha
  refine vc_by (vc_sPlain_eq m a b c d k va) ?_
  rw [ha]
  refine ⟨fun q => ?_, fun q => ⟨h2, fun q2 => ?_, fun q2 => ?_⟩⟩
  · have q : askM (a, b, c, d) k = false := by simpa using q
    simp [plainM, q]
  · have q : askM (a, b, c, d) k = true := by simpa using q
    have q2 : onM (a, b, c, d) = false := by simpa using q2
    simp [plainM, q, q2]
  · have q : askM (a, b, c, d) k = true := by simpa using q
    have q2 : onM (a, b, c, d) = true := by simpa using q2
    have e : plainM m (a, b, c, d) k va = answerM (walkM m d va) (a, b, c, d) k va := by simp [plainM, q, q2]
    have hu : (walkM m d va).1 ≠ 2 → (walkM m d va).1 ≠ 3 → U64 (walkM m d va).2.2.1 := by
      intro n2 n3
      unfold walkM at n2 n3 ⊢
      split at n2
      · rename_i cv
        rw [if_pos cv] at n3 ⊢
        have hc := walkN_code m va 3 (d % 17592186044416)
        exact (walkN_leaf h1 3 _ (by rcases hc with z | z | z; exact z; exact absurd z n3; exact absurd z n2)).1
      · exact absurd rfl n2
    rw [e]
    exact ⟨⟨rfl, h1, h2, h3⟩, ⟨rfl, hu, h3⟩, rfl, rfl, rfl⟩
theorem kO2_ok : KnowsD Try.prog kO2 := .cons (by kernel_rfl) sPlain_ok kO1_ok
theorem FO2_ok : DictOk Try.prog FO2 := mkD_ok kO2_ok .nil .nil
theorem lawPlain_ok : Canon Try.prog 16 [byP, ctxP, i64, u64] [bl] (WfPs [byP, ctxP, i64, u64]) (fun _ => true) := by
  refine canon_plain mixed Try.func16 (by kernel_rfl) (by kernel_rfl) FO2_ok (fun t h => ?_)
  obtain ⟨m, ⟨a, b, c, d⟩, k, va⟩ : By × Ct × Int × Int := t
  have h1 := wf_bytes (m := m) h.1
  have h2 : U64 d := wf_u64 h.2.1.2.2.2
  have h3 : U64 va := wf_u64 h.2.2.2
  refine ⟨.none, vc_by (vc_lawPlain_eq m a b c d k va) ⟨fun _ => ⟨rfl, rfl⟩, fun g => ?_⟩⟩
  have g : ¬ (m.length : Int) > 1048576 := of_decide_eq_false g
  have hs : SzR m.length := by unfold SzR; omega
  have hb : ByteR m := ⟨hs, h1⟩
  simp [hs, hb, h2, h3]
end Go.Proofs.Ytfiddfbagbaofaa.V
