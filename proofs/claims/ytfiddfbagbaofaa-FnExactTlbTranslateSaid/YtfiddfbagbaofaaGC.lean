/- Reading and writing a memory answer as their models; the law on writing returns true. Conditions: those in each statement. -/
import Derived.Test.YtfiddfbagbaofaaGB
import Derived.KernelRfl
namespace Go.Proofs.Ytfiddfbagbaofaa.V
open Go


def FB1 : Dict := mkD kB1 [] []
def vc_l1Good (m : By) (a w : Int) : Prop := vcPure Try.prog FB1 .none Try.f95 [byP, u64, i64] [bl] (m, a, w) (rdOk m a w)
def vc_iRead (m : By) (a w : Int) : Prop := vcPure Try.prog FB1 .none Try.f31 [byP, u64, i64] [rrP] (m, a, w) (readM m a w)
def vc_iWrite (m : By) (a w v : Int) : Prop := vcPure Try.prog FB1 .none Try.f35 [byP, u64, i64, u64] [byP] (m, a, w, v) (writeM m a w v)
def kB2 : Known := [
  (95, pureS [byP, u64, i64] [bl] (fun t => some (SzR t.1.length)) (fun t => rdOk t.1 t.2.1 t.2.2)),
  (31, pureS [byP, u64, i64] [rrP] (fun t => some (ByteR t.1 ∧ U64 t.2.1)) (fun t => readM t.1 t.2.1 t.2.2)),
  (35, pureS [byP, u64, i64, u64] [byP] (fun t => some (ByteR t.1 ∧ U64 t.2.1 ∧ U64 t.2.2.2)) (fun t => writeM t.1 t.2.1 t.2.2.1 t.2.2.2))] ++ kB1
def FB2 : Dict := mkD kB2 [] []
def vc_sRead (m : By) (a w : Int) : Prop := vcPure Try.prog FB2 .none Try.f29 [byP, u64, i64] [rrP] (m, a, w) (readM m a w)
def vc_sWrite (m : By) (a w v : Int) : Prop := vcPure Try.prog FB2 .none Try.f34 [byP, u64, i64, u64] [byP] (m, a, w, v) (writeM m a w v)
def kB3 : Known := [
  (29, pureS [byP, u64, i64] [rrP] (fun t => some (ByteR t.1 ∧ U64 t.2.1)) (fun t => readM t.1 t.2.1 t.2.2)),
  (34, pureS [byP, u64, i64, u64] [byP] (fun t => some (ByteR t.1 ∧ U64 t.2.1 ∧ U64 t.2.2.2)) (fun t => writeM t.1 t.2.1 t.2.2.1 t.2.2.2))] ++ kB2
def FB3 : Dict := mkD kB3 [] []
def vc_lawWrite (m : By) (a w v : Int) : Prop := vcPure Try.prog FB3 .none Try.f9 [byP, u64, i64, u64] [bl] (m, a, w, v) true
end Go.Proofs.Ytfiddfbagbaofaa.V
namespace Go.Proofs.Ytfiddfbagbaofaa.V
open Go
set_option linter.unusedVariables false
theorem vc_l1Good_eq (m : By) (a w : Int) : vc_l1Good m a w = (
 ((bif bif bif w != (1 : Int) then w != (2 : Int) else false then w != (4 : Int) else false then w != (8 : Int) else false) = true → rdOk m a w = false ∧ m = m) ∧
   ((bif bif bif w != (1 : Int) then w != (2 : Int) else false then w != (4 : Int) else false then w != (8 : Int) else false) = false →
     (List.length m = List.length m ∧ SzR (List.length m) ∧ (0 : PmT [i64]) ≤ w) ∧ rdOk m a w = insM m a w ∧ m = m)) := by kernel_rfl
theorem vc_iRead_eq (m : By) (a w : Int) : vc_iRead m a w = (
 ((!!gwM w) = true → List.length m = List.length m ∧ SzR (List.length m) ∧ (0 : PmT [u64]) ≤ IntKind.u64.wrap w) ∧
   ((bif !gwM w then true else !insM m a (IntKind.u64.wrap w)) = true → (readM m a w).fst = false ∧ (readM m a w).snd = (0 : Int) ∧ m = m) ∧
     ((bif !gwM w then true else !insM m a (IntKind.u64.wrap w)) = false →
       (List.length m = List.length m ∧ FitR m a (IntKind.u64.wrap w)) ∧ (readM m a w).fst = true ∧ (readM m a w).snd = numM (List.take (IntKind.u64.wrap w).toNat (List.drop a.toNat m)) ∧ m = m)) := by kernel_rfl
theorem vc_iWrite_eq (m : By) (a w v : Int) : vc_iWrite m a w v = (
 (List.length m = List.length m ∧ SzR (List.length m)) ∧
   (gwM w = true → List.length m = List.length m ∧ SzR (List.length m) ∧ (0 : PmT [u64]) ≤ IntKind.u64.wrap w) ∧
     ((bif gwM w then insM m a (IntKind.u64.wrap w) else false) = true →
         (List.length m = List.length m ∧ FitR m a (IntKind.u64.wrap w) ∧ U64 v) ∧
           (0 : Nat) = (0 : Nat) ∧ List.length (writeM m a w v) = List.length m ∧ m = m ∧ writeM m a w v = putM m a.toNat (bytM v (IntKind.u64.wrap w).toNat)) ∧
       ((bif gwM w then insM m a (IntKind.u64.wrap w) else false) = false → (0 : Nat) = (0 : Nat) ∧ List.length (writeM m a w v) = List.length m ∧ m = m ∧ writeM m a w v = m)) := by kernel_rfl
theorem vc_sRead_eq (m : By) (a w : Int) : vc_sRead m a w = (
 (List.length m = List.length m ∧ SzR (List.length m)) ∧
   ((!rdOk m a w) = true → (readM m a w).fst = false ∧ (readM m a w).snd = (0 : Int) ∧ m = m) ∧
     ((!rdOk m a w) = false →
       ((0 : Int) ≤ IntKind.i64.wrap a ∧ IntKind.i64.wrap a ≤ IntKind.i64.wrap (IntKind.i64.wrap a + w) ∧ IntKind.i64.wrap (IntKind.i64.wrap a + w) ≤ (↑(List.length m) : Int)) ∧
         ((0 : Nat) + (IntKind.i64.wrap a).toNat + ((IntKind.i64.wrap (IntKind.i64.wrap a + w)).toNat - (IntKind.i64.wrap a).toNat) ≤ List.length m ∧
             ByteR (List.take ((IntKind.i64.wrap (IntKind.i64.wrap a + w)).toNat - (IntKind.i64.wrap a).toNat) (List.drop ((0 : Nat) + (IntKind.i64.wrap a).toNat) m)) ∧
               (List.take ((IntKind.i64.wrap (IntKind.i64.wrap a + w)).toNat - (IntKind.i64.wrap a).toNat) (List.drop ((0 : Nat) + (IntKind.i64.wrap a).toNat) m)).length ≤ (8 : Nat)) ∧
           (readM m a w).fst = true ∧
             (readM m a w).snd = numM (List.take ((IntKind.i64.wrap (IntKind.i64.wrap a + w)).toNat - (IntKind.i64.wrap a).toNat) (List.drop ((0 : Nat) + (IntKind.i64.wrap a).toNat) m)) ∧ m = m)) := by kernel_rfl
theorem vc_sWrite_eq (m : By) (a w v : Int) : vc_sWrite m a w v = (
 (List.length m = List.length m ∧ SzR (List.length m)) ∧
   ((!rdOk m a w) = true →
       ((0 : Nat) + List.length m ≤ List.length m ∧ (0 : Nat) ≤ (0 : Nat) ∧ (0 : Nat) + (List.take (List.length m) (List.drop (0 : Nat) m)).length ≤ (1073741824 : Nat)) ∧
         (0 : Nat) = (0 : Nat) ∧
           List.length (writeM m a w v) = (0 : Nat) + (List.take (List.length m) (List.drop (0 : Nat) m)).length ∧ m = m ∧ writeM m a w v = [] ++ List.take (List.length m) (List.drop (0 : Nat) m)) ∧
     ((!rdOk m a w) = false →
       (U64 v ∧ (0 : PmT [i64]) ≤ w ∧ w ≤ (8 : PmT [i64])) ∧
         (List.length m = List.length m ∧
             List.length (bytM v w.toNat) = List.length (bytM v w.toNat) ∧
               SzR (List.length m) ∧ (0 : i64.T) ≤ IntKind.i64.wrap a ∧ IntKind.i64.wrap a + (↑(List.length (bytM v w.toNat)) : i64.T) ≤ (↑(List.length m) : i64.T)) ∧
           (0 : Nat) = (0 : Nat) ∧
             List.length (writeM m a w v) = List.length (putM m (IntKind.i64.wrap a).toNat (bytM v w.toNat)) ∧ m = m ∧ writeM m a w v = putM m (IntKind.i64.wrap a).toNat (bytM v w.toNat))) := by kernel_rfl
theorem vc_lawWrite_eq (m : By) (a w v : Int) : vc_lawWrite m a w v = (
 (decide ((↑(List.length m) : Int) > (1048576 : Int)) = true → true = true ∧ m = m) ∧
   (decide ((↑(List.length m) : Int) > (1048576 : Int)) = false →
     (List.length m = List.length m ∧ SzR (List.length m)) ∧
       (List.length m = List.length m ∧ ByteR m ∧ U64 a ∧ U64 v) ∧
         (List.length m = List.length m ∧ SzR (List.length m)) ∧
           (List.length m = List.length m ∧ ByteR m ∧ U64 a ∧ U64 v) ∧
             (List.length (writeM m a w v) = List.length (writeM m a w v) ∧
                 List.length (writeM m a w v) = List.length (writeM m a w v) ∧ writeM m a w v = writeM m a w v ∧ SzR (List.length (writeM m a w v))) ∧
               ((!true) = true → true = false ∧ m = m) ∧
                 ((!true) = false →
                   (List.length m = List.length m ∧ SzR (List.length m)) ∧
                     (List.length m = List.length m ∧ List.length m = List.length m ∧ m = m ∧ SzR (List.length m)) ∧
                       ((!true) = true → true = false ∧ m = m) ∧
                         ((!true) = false →
                           (List.length m = List.length m ∧ MarkR (List.length m) (1 : Int)) ∧
                             ((!false) = true →
                                 List.length (writeM m a w v) = List.length (writeM m a w v) ∧
                                   List.length (writeM m a w v) = List.length (writeM m a w v) ∧ writeM m a w v = writeM m a w v ∧ SzR (List.length (writeM m a w v))) ∧
                               ((!true) = true → true = false ∧ m = m) ∧
                                 ((!true) = false →
                                   (List.length (writeM m a w v) = List.length (writeM m a w v) ∧ MarkR (List.length (writeM m a w v)) (1 : Int)) ∧
                                     (List.length (writeM m a w v) = List.length (markM (1 : Int) (List.length (writeM m a w v))) ∧
                                         MarkR (List.length (markM (1 : Int) (List.length (writeM m a w v)))) (1 : Int) ∧
                                           markM (1 : Int) (List.length (writeM m a w v)) = markM (1 : Int) (List.length (markM (1 : Int) (List.length (writeM m a w v))))) ∧
                                       (false = true → true = false ∧ m = m) ∧
                                         (false = false →
                                           (((1 : Int) + (↑(List.length (markM (1 : Int) (List.length (writeM m a w v)))) : PmT [i64]) != (1 : Int) + (↑(List.length (writeM m a w v)) : PmT [i64])) =
                                                 true →
                                               true = false ∧ m = m) ∧
                                             (((1 : Int) + (↑(List.length (markM (1 : Int) (List.length (writeM m a w v)))) : PmT [i64]) != (1 : Int) + (↑(List.length (writeM m a w v)) : PmT [i64])) =
                                                 false →
                                               (List.length m = List.length m ∧ SzR (List.length m)) ∧
                                                 (List.length m = List.length m ∧ ByteR m ∧ U64 a ∧ U64 v) ∧
                                                   (List.length (writeM m a w v) = List.length (writeM m a w v) ∧
                                                       List.length (writeM m a w v) = List.length (writeM m a w v) ∧ writeM m a w v = writeM m a w v ∧ SzR (List.length (writeM m a w v))) ∧
                                                     ((!true) = true → true = false ∧ m = m) ∧ ((!true) = false → true = true ∧ m = m)))))))) := by kernel_rfl
end Go.Proofs.Ytfiddfbagbaofaa.V
namespace Go.Proofs.Ytfiddfbagbaofaa.V
open Go
set_option linter.unusedSimpArgs false

theorem FB1_ok : DictOk Try.prog FB1 := mkD_ok kB1_ok .nil .nil
theorem gw_in {w : Int} (h : gwM w = true) : 1 ≤ w ∧ w ≤ 8 := by
  simp only [gwM, Bool.or_eq_true, beq_iff_eq] at h
  omega
theorem rdOk_fit {m : By} {a w : Int} (hm : ByteR m) (ha : U64 a) (h : rdOk m a w = true) : FitR m a w := by
  simp only [rdOk, insM, Bool.and_eq_true, decide_eq_true_eq] at h
  have := gw_in h.1
  exact ⟨hm, ha.1, by omega, by omega, by omega⟩
theorem l1Good_ok : Sound Try.prog 95 (pureS [byP, u64, i64] [bl] (fun t => some (SzR t.1.length)) (fun t => rdOk t.1 t.2.1 t.2.2)) := by
  refine pure_plain mixed Try.func95 (by kernel_rfl) (by kernel_rfl) FB1_ok (fun t h => ?_)
  obtain ⟨m, a, w⟩ : By × Int × Int := t
  have h : SzR m.length := h
  refine vc_by (vc_l1Good_eq m a w) ?_
  have e : (bif bif bif w != 1 then w != 2 else false then w != 4 else false then w != 8 else false) = !gwM w := by
    unfold gwM
    simp only [Bool.cond_false_right, Bool.not_or, bne]
  rw [e]
  refine ⟨fun g => ?_, fun g => ?_⟩
  · have g : gwM w = false := by simpa using g
    exact ⟨by simp [rdOk, g], rfl⟩
  · have g : gwM w = true := by simpa using g
    have := gw_in g
    exact ⟨⟨rfl, h, by show (0 : Int) ≤ w; omega⟩, by simp [rdOk, g], rfl⟩
theorem width_wrap {w : Int} (h : gwM w = true) : IntKind.u64.wrap w = w := by
  have := gw_in h
  exact wrap_u64_in (by omega) (by omega)
theorem iRead_ok : Sound Try.prog 31 (pureS [byP, u64, i64] [rrP] (fun t => some (ByteR t.1 ∧ U64 t.2.1)) (fun t => readM t.1 t.2.1 t.2.2)) := by
  refine pure_plain mixed Try.func31 (by kernel_rfl) (by kernel_rfl) FB1_ok (fun t h => ?_)
  obtain ⟨m, a, w⟩ : By × Int × Int := t
  obtain ⟨h1, h2⟩ : ByteR m ∧ U64 a := h
  refine vc_by (vc_iRead_eq m a w) ?_
  cases g : gwM w with
  | false => simp [readM, rdOk, g]
  | true =>
    have hw := gw_in g
    rw [width_wrap g]
    refine ⟨fun _ => ⟨rfl, h1.1, by show (0 : Int) ≤ w; omega⟩, fun e => ?_, fun e => ?_⟩
    · have e : insM m a w = false := by simpa using e
      simp [readM, rdOk, g, e]
    · have e : insM m a w = true := by simpa using e
      have hr : rdOk m a w = true := by simp [rdOk, g, e]
      exact ⟨⟨rfl, rdOk_fit h1 h2 hr⟩, by simp [readM, hr], by simp [readM, hr], rfl⟩
theorem putM_len {m : By} {a w v : Int} (h : FitR m a w) : (putM m a.toNat (bytM v w.toNat)).length = m.length := by
  obtain ⟨_, h1, h2, h3, h4⟩ := h
  exact putM_length (by rw [bytM_length]; omega)
theorem iWrite_ok : Sound Try.prog 35 (pureS [byP, u64, i64, u64] [byP] (fun t => some (ByteR t.1 ∧ U64 t.2.1 ∧ U64 t.2.2.2)) (fun t => writeM t.1 t.2.1 t.2.2.1 t.2.2.2)) := by
  refine pure_plain mixed Try.func35 (by kernel_rfl) (by kernel_rfl) FB1_ok (fun t h => ?_)
  obtain ⟨m, a, w, v⟩ : By × Int × Int × Int := t
  obtain ⟨h1, h2, h3⟩ : ByteR m ∧ U64 a ∧ U64 v := h
  refine vc_by (vc_iWrite_eq m a w v) ⟨⟨rfl, h1.1⟩, ?_⟩
  cases g : gwM w with
  | false => simp [writeM, rdOk, g]
  | true =>
    have hw := gw_in g
    rw [width_wrap g]
    refine ⟨fun _ => ⟨rfl, h1.1, by show (0 : Int) ≤ w; omega⟩, fun e => ?_, fun e => ?_⟩
    · have e : insM m a w = true := by simpa using e
      have hr : rdOk m a w = true := by simp [rdOk, g, e]
      have hf := rdOk_fit h1 h2 hr
      have he : writeM m a w v = putM m a.toNat (bytM v w.toNat) := by simp [writeM, hr]
      exact ⟨⟨rfl, hf, h3⟩, rfl, by rw [he, putM_len hf], rfl, he⟩
    · have e : insM m a w = false := by simpa using e
      simp [writeM, rdOk, g, e]
theorem kB2_ok : KnowsD Try.prog kB2 := .cons (by kernel_rfl) l1Good_ok <| .cons (by kernel_rfl) iRead_ok <| .cons (by kernel_rfl) iWrite_ok kB1_ok
theorem FB2_ok : DictOk Try.prog FB2 := mkD_ok kB2_ok .nil .nil
theorem sRead_ok : Sound Try.prog 29 (pureS [byP, u64, i64] [rrP] (fun t => some (ByteR t.1 ∧ U64 t.2.1)) (fun t => readM t.1 t.2.1 t.2.2)) := by
  refine pure_plain mixed Try.func29 (by kernel_rfl) (by kernel_rfl) FB2_ok (fun t h => ?_)
  obtain ⟨m, a, w⟩ : By × Int × Int := t
  obtain ⟨h1, h2⟩ : ByteR m ∧ U64 a := h
  have hs := h1.1
  unfold SzR at hs
  refine vc_by (vc_sRead_eq m a w) ⟨⟨rfl, h1.1⟩, fun e => ?_, fun e => ?_⟩
  · have e : rdOk m a w = false := by simpa using e
    simp [readM, e]
  · have e : rdOk m a w = true := by simpa using e
    obtain ⟨_, g1, g2, g3, g4⟩ := rdOk_fit h1 h2 e
    have e1 : IntKind.i64.wrap a = a := wrap_i64_in (by omega) (by omega)
    have e2 : IntKind.i64.wrap (a + w) = a + w := wrap_i64_in (by omega) (by omega)
    rw [e1, e2, show (a + w).toNat - a.toNat = w.toNat by omega, Nat.zero_add]
    refine ⟨⟨by omega, by omega, by omega⟩, ⟨by omega, ⟨?_, fun b hb => h1.2 b (List.mem_of_mem_drop (List.mem_of_mem_take hb))⟩, by simp; omega⟩, by simp [readM, e], by simp [readM, e], rfl⟩
    unfold SzR
    simp
    omega
theorem sWrite_ok : Sound Try.prog 34 (pureS [byP, u64, i64, u64] [byP] (fun t => some (ByteR t.1 ∧ U64 t.2.1 ∧ U64 t.2.2.2)) (fun t => writeM t.1 t.2.1 t.2.2.1 t.2.2.2)) := by
  refine pure_plain mixed Try.func34 (by kernel_rfl) (by kernel_rfl) FB2_ok (fun t h => ?_)
  obtain ⟨m, a, w, v⟩ : By × Int × Int × Int := t
  obtain ⟨h1, h2, h3⟩ : ByteR m ∧ U64 a ∧ U64 v := h
  have hs := h1.1
  unfold SzR at hs
  refine vc_by (vc_sWrite_eq m a w v) ⟨⟨rfl, h1.1⟩, fun e => ?_, fun e => ?_⟩
  · have e : rdOk m a w = false := by simpa using e
    have e2 : writeM m a w v = m := by simp [writeM, e]
    rw [e2]
    simp
    omega
  · have e : rdOk m a w = true := by simpa using e
    have hf := rdOk_fit h1 h2 e
    obtain ⟨_, g1, g2, g3, g4⟩ := id hf
    have e1 : IntKind.i64.wrap a = a := wrap_i64_in (by omega) (by omega)
    have e2 : writeM m a w v = putM m a.toNat (bytM v w.toNat) := by simp [writeM, e]
    rw [e1, e2, bytM_length]
    exact ⟨⟨h3, g2, g3⟩, ⟨rfl, rfl, h1.1, g1, by show a + ((w.toNat : Nat) : Int) ≤ (m.length : Int); omega⟩, rfl, rfl, rfl, rfl⟩
theorem kB3_ok : KnowsD Try.prog kB3 := .cons (by kernel_rfl) sRead_ok <| .cons (by kernel_rfl) sWrite_ok kB2_ok
theorem FB3_ok : DictOk Try.prog FB3 := mkD_ok kB3_ok .nil .nil
theorem writeM_length {m : By} {a w v : Int} (h1 : ByteR m) (h2 : U64 a) : (writeM m a w v).length = m.length := by
  unfold writeM
  split
  · rename_i e; exact putM_len (rdOk_fit h1 h2 e)
  · rfl
theorem wf_u64 {n : Int} (h : (Lit.int .u64 n).wf = true) : U64 n := by
  simp only [Lit.wf, Bool.and_eq_true, decide_eq_true_eq] at h
  have h1 : (0 : Int) ≤ n := h.1
  have h2 : n ≤ 18446744073709551615 := h.2
  exact ⟨h1, by omega⟩
theorem wf_i64 {n : Int} (h : (Lit.int .i64 n).wf = true) : I64 n := by
  simp only [Lit.wf, Bool.and_eq_true, decide_eq_true_eq] at h
  have h1 : (-9223372036854775808 : Int) ≤ n := h.1
  have h2 : n ≤ 9223372036854775807 := h.2
  exact ⟨h1, by omega⟩
theorem wf_u8 {n : Int} (h : (Lit.int .u8 n).wf = true) : 0 ≤ n ∧ n < 256 := by
  simp only [Lit.wf, Bool.and_eq_true, decide_eq_true_eq] at h
  have h1 : (0 : Int) ≤ n := h.1
  have h2 : n ≤ 255 := h.2
  exact ⟨h1, by omega⟩
theorem wf_bytes {m : By} (h : WfC (.sl [.i .u8]) m) : ∀ b ∈ m, 0 ≤ b ∧ b < 256 := fun b hb => wf_u8 (h.2 b hb)
theorem lawWrite_ok : Canon Try.prog 9 [byP, u64, i64, u64] [bl] (WfPs [byP, u64, i64, u64]) (fun _ => true) := by
  refine canon_plain mixed Try.func9 (by kernel_rfl) (by kernel_rfl) FB3_ok (fun t h => ?_)
  obtain ⟨m, a, w, v⟩ : By × Int × Int × Int := t
  obtain ⟨g1, g2, _, g3⟩ : WfC (.sl [.i .u8]) m ∧ (Lit.int .u64 a).wf = true ∧ (Lit.int .i64 w).wf = true ∧ (Lit.int .u64 v).wf = true := h
  have h1 := wf_bytes g1
  have h2 := wf_u64 g2
  have h3 := wf_u64 g3
  refine ⟨.none, vc_by (vc_lawWrite_eq m a w v) ⟨fun _ => ⟨rfl, rfl⟩, fun g => ?_⟩⟩
  have g : ¬ (m.length : Int) > 1048576 := of_decide_eq_false g
  have hs : SzR m.length := by unfold SzR; omega
  have hb : ByteR m := ⟨hs, h1⟩
  have hk : MarkR m.length 1 := ⟨hs, by decide, by decide⟩
  simp [hs, hb, hk, h2, h3, markM_length, writeM_length hb h2]
end Go.Proofs.Ytfiddfbagbaofaa.V
