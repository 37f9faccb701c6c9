/- The law on walking returns true. Conditions: those in each statement. -/
import Derived.Test.YtfiddfbagbaofaaGL
import Derived.KernelRfl
namespace Go.Proofs.Ytfiddfbagbaofaa.V
open Go
def kM : Known := [
  (48, pureS [byP, u64, u64] [wrP] (fun t => some (ByteR t.1 ∧ U64 t.2.1 ∧ U64 t.2.2)) (fun t => walkM t.1 t.2.1 t.2.2)),
  (47, pureS [byP, u64, u64] [wrP] (fun t => some (ByteR t.1 ∧ U64 t.2.1 ∧ U64 t.2.2)) (fun t => walkM t.1 t.2.1 t.2.2)),
  (49, pureS [wrP, wrP] [bl] (fun t => some (t.1 = t.2 ∧ SzR t.1.2.2.2.length)) (fun _ => true))] ++ kK2
def FM : Dict := mkD (kM ++ kB3) [] []
def vc_lawWalk (m : By) (root va : Int) : Prop := vcPure Try.prog FM .none Try.f13 [byP, u64, u64] [bl] (m, root, va) true
end Go.Proofs.Ytfiddfbagbaofaa.V
namespace Go.Proofs.Ytfiddfbagbaofaa.V
open Go
set_option linter.unusedVariables false
theorem vc_lawWalk_eq (m : By) (root va : Int) : vc_lawWalk m root va = (
 (decide ((↑(List.length m) : Int) > (1048576 : Int)) = true → true = true ∧ m = m) ∧
   (decide ((↑(List.length m) : Int) > (1048576 : Int)) = false →
     (List.length m = List.length m ∧ SzR (List.length m)) ∧
       (List.length m = List.length m ∧ ByteR m ∧ U64 root ∧ U64 va) ∧
         (List.length m = List.length m ∧ SzR (List.length m)) ∧
           (List.length m = List.length m ∧ ByteR m ∧ U64 root ∧ U64 va) ∧
             (List.length (walkM m root va).snd.snd.snd = List.length (walkM m root va).snd.snd.snd ∧
                 List.length (walkM m root va).snd.snd.snd = List.length (walkM m root va).snd.snd.snd ∧
                   ((walkM m root va).fst, (walkM m root va).snd.fst, (walkM m root va).snd.snd.fst, (walkM m root va).snd.snd.snd) =
                       ((walkM m root va).fst, (walkM m root va).snd.fst, (walkM m root va).snd.snd.fst, (walkM m root va).snd.snd.snd) ∧
                     SzR (List.length (walkM m root va).snd.snd.snd)) ∧
               ((!true) = true → true = false ∧ m = m) ∧
                 ((!true) = false →
                   (List.length m = List.length m ∧ SzR (List.length m)) ∧
                     (List.length m = List.length m ∧ List.length m = List.length m ∧ m = m ∧ SzR (List.length m)) ∧
                       ((!true) = true → true = false ∧ m = m) ∧
                         ((!true) = false →
                           (List.length m = List.length m ∧ MarkR (List.length m) (1 : Int)) ∧
                             ((!false) = true →
                                 List.length (walkM m root va).snd.snd.snd = List.length (walkM m root va).snd.snd.snd ∧
                                   List.length (walkM m root va).snd.snd.snd = List.length (walkM m root va).snd.snd.snd ∧
                                     ((walkM m root va).fst, (walkM m root va).snd.fst, (walkM m root va).snd.snd.fst, (walkM m root va).snd.snd.snd) =
                                         ((walkM m root va).fst, (walkM m root va).snd.fst, (walkM m root va).snd.snd.fst, (walkM m root va).snd.snd.snd) ∧
                                       SzR (List.length (walkM m root va).snd.snd.snd)) ∧
                               ((!true) = true → true = false ∧ m = m) ∧
                                 ((!true) = false →
                                   (List.length (walkM m root va).snd.snd.snd = List.length (walkM m root va).snd.snd.snd ∧ MarkR (List.length (walkM m root va).snd.snd.snd) (1 : Int)) ∧
                                     (List.length (walkM m root va).snd.snd.snd = List.length (markRs (1 : Int) (List.length (walkM m root va).snd.snd.snd)) ∧
                                         MarkR (List.length (markRs (1 : Int) (List.length (walkM m root va).snd.snd.snd))) (1 : Int) ∧
                                           markRs (1 : Int) (List.length (walkM m root va).snd.snd.snd) =
                                             markRs (1 : Int) (List.length (markRs (1 : Int) (List.length (walkM m root va).snd.snd.snd)))) ∧
                                       (false = true → true = false ∧ m = m) ∧
                                         (false = false →
                                           (((1 : Int) + (3 : PmT [i64]) * (↑(List.length (markRs (1 : Int) (List.length (walkM m root va).snd.snd.snd))) : PmT [i64]) !=
                                                   (1 : Int) + (3 : PmT [i64]) * (↑(List.length (walkM m root va).snd.snd.snd) : PmT [i64])) =
                                                 true →
                                               true = false ∧ m = m) ∧
                                             (((1 : Int) + (3 : PmT [i64]) * (↑(List.length (markRs (1 : Int) (List.length (walkM m root va).snd.snd.snd))) : PmT [i64]) !=
                                                   (1 : Int) + (3 : PmT [i64]) * (↑(List.length (walkM m root va).snd.snd.snd) : PmT [i64])) =
                                                 false →
                                               (List.length m = List.length m ∧ SzR (List.length m)) ∧
                                                 (List.length m = List.length m ∧ ByteR m ∧ U64 root ∧ U64 va) ∧
                                                   (List.length (walkM m root va).snd.snd.snd = List.length (walkM m root va).snd.snd.snd ∧
                                                       List.length (walkM m root va).snd.snd.snd = List.length (walkM m root va).snd.snd.snd ∧
                                                         ((walkM m root va).fst, (walkM m root va).snd.fst, (walkM m root va).snd.snd.fst, (walkM m root va).snd.snd.snd) =
                                                             ((walkM m root va).fst, (walkM m root va).snd.fst, (walkM m root va).snd.snd.fst, (walkM m root va).snd.snd.snd) ∧
                                                           SzR (List.length (walkM m root va).snd.snd.snd)) ∧
                                                     ((!true) = true → true = false ∧ m = m) ∧ ((!true) = false → true = true ∧ m = m)))))))) := by kernel_rfl
end Go.Proofs.Ytfiddfbagbaofaa.V
namespace Go.Proofs.Ytfiddfbagbaofaa.V
open Go
set_option linter.unusedSimpArgs false
theorem kM_ok : KnowsD Try.prog kM := .cons (by kernel_rfl) iWalk_ok <| .cons (by kernel_rfl) sWalk_ok <| .cons (by kernel_rfl) eqWr_ok kK2_ok
theorem FM_ok : DictOk Try.prog FM := mkD_ok (kM_ok.append kB3_ok) .nil .nil
theorem walkM_length (m : By) (root va : Int) : (walkM m root va).2.2.2.length ≤ 3 := by
  unfold walkM
  split
  · exact walkN_length m va 3 _
  · exact Nat.zero_le _
theorem lawWalk_ok : Canon Try.prog 13 [byP, u64, u64] [bl] (WfPs [byP, u64, u64]) (fun _ => true) := by
  refine canon_plain mixed Try.func13 (by kernel_rfl) (by kernel_rfl) FM_ok (fun t h => ?_)
  obtain ⟨m, root, va⟩ : By × Int × Int := t
  obtain ⟨g1, g2, g3⟩ : WfC (.sl [.i .u8]) m ∧ (Lit.int .u64 root).wf = true ∧ (Lit.int .u64 va).wf = true := h
  have h1 := wf_bytes g1
  have h2 := wf_u64 g2
  have h3 := wf_u64 g3
  refine ⟨.none, vc_by (vc_lawWalk_eq m root va) ⟨fun _ => ⟨rfl, rfl⟩, fun g => ?_⟩⟩
  have g : ¬ (m.length : Int) > 1048576 := of_decide_eq_false g
  have hs : SzR m.length := by unfold SzR; omega
  have hb : ByteR m := ⟨hs, h1⟩
  have hk : MarkR m.length 1 := ⟨hs, by decide, by decide⟩
  have hw := walkM_length m root va
  have hw1 : SzR (walkM m root va).2.2.2.length := by unfold SzR; omega
  have hw2 : MarkR (walkM m root va).2.2.2.length 1 := ⟨hw1, by decide, by decide⟩
  simp [hs, hb, hk, h2, h3, hw1, hw2, markRs_length]
end Go.Proofs.Ytfiddfbagbaofaa.V
