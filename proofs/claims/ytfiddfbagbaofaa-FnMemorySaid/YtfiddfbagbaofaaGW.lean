/- The law on drawn memories: what is written is read back and nothing else changes. Conditions: those in each statement. -/
import Derived.Test.YtfiddfbagbaofaaGV
import Derived.KernelRfl
namespace Go.Proofs.Ytfiddfbagbaofaa.V
open Go
noncomputable def FW : Dict := mkD ((38, pureS [byP] [byP, u64, i64, u64] (fun m => some (ByteR m)) dwmD) :: kB3) [] []
def memLL (c m o : By) (a w x : Int) (f : Bool) : LoopS where
  α := Nat
  I k := k ≤ m.length ∧ o.length = m.length ∧ m.length ≤ 2097152 ∧ ∀ i, i < m.length → (f = true ∧ a ≤ (i : Int) ∧ (i : Int) < IntKind.u64.wrap (a + IntKind.u64.wrap w)) ∨ o.getD i 0 = m.getD i 0
  sl k := slots 101 [(3, .sl 1 1 0 m.length), (4, .v (.int .u64 a)), (5, .v (.int .i64 w)), (6, .v (.int .u64 x)), (7, .sl 2 1 0 o.length), (8, .v (.bool f)), (9, .v (.int .i64 (k : Int)))]
  H _ := [.arr [.i .u8] c false, .arr [.i .u8] m true, .arr [.i .u8] o true]
  fams := [{ β := Unit, out := fun _ _ => True, ex := .ext 0, sl := fun _ => slots 101 [(4, .v (.int .u64 a)), (5, .v (.int .i64 w)), (6, .v (.int .u64 x)), (7, .sl 1 1 0 o.length), (8, .v (.bool f))], H := fun _ => [.arr [.i .u8] c false, .arr [.i .u8] o true] }]
def vc_lawMem_r (c m o : By) (a w x : Int) (f : Bool) (k : Nat) : Prop := vcRound Try.prog FW (.one 9 (memLL c m o a w x f)) 1 (loopAt Try.f10 0) (memLL c m o a w x f) (fun k : Nat => m.length - k) k
def vc_lawMem (c : By) : Prop := vcPure Try.prog FW (.one 9 (memLL c (dwmD c).1 (writeM (dwmD c).1 (dwmD c).2.1 (dwmD c).2.2.1 (dwmD c).2.2.2) (dwmD c).2.1 (dwmD c).2.2.1 (dwmD c).2.2.2 (readM (dwmD c).1 (dwmD c).2.1 (dwmD c).2.2.1).1)) Try.f10 [byP] [bl] c true
end Go.Proofs.Ytfiddfbagbaofaa.V
namespace Go.Proofs.Ytfiddfbagbaofaa.V
open Go
set_option linter.unusedVariables false
theorem vc_lawMem_r_eq (c m o : By) (a w x : Int) (f : Bool) (k : Nat) : vc_lawMem_r c m o a w x f k = (
 (decide ((↑k : Int) < (↑(List.length m) : Int)) = true →
     ((bif bif !f then true else decide (IntKind.u64.wrap (↑k : Int) < a) then true else decide (IntKind.u64.wrap (↑k : Int) ≥ IntKind.u64.wrap (a + IntKind.u64.wrap w))) = true →
         (0 : Int) ≤ (↑k : Int) ∧ (↑k : Int) < (↑(List.length o) : Int)) ∧
       ((bif bif !f then true else decide (IntKind.u64.wrap (↑k : Int) < a) then true else decide (IntKind.u64.wrap (↑k : Int) ≥ IntKind.u64.wrap (a + IntKind.u64.wrap w))) = true →
           (0 : Nat) + (↑k : Int).toNat < List.length o) ∧
         ((bif bif !f then true else decide (IntKind.u64.wrap (↑k : Int) < a) then true else decide (IntKind.u64.wrap (↑k : Int) ≥ IntKind.u64.wrap (a + IntKind.u64.wrap w))) = true →
             (0 : Int) ≤ (↑k : Int) ∧ (↑k : Int) < (↑(List.length m) : Int)) ∧
           ((bif bif !f then true else decide (IntKind.u64.wrap (↑k : Int) < a) then true else decide (IntKind.u64.wrap (↑k : Int) ≥ IntKind.u64.wrap (a + IntKind.u64.wrap w))) = true →
               (0 : Nat) + (↑k : Int).toNat < List.length m) ∧
             ((bif bif bif !f then true else decide (IntKind.u64.wrap (↑k : Int) < a) then true else decide (IntKind.u64.wrap (↑k : Int) ≥ IntKind.u64.wrap (a + IntKind.u64.wrap w)) then
                     List.getD o ((0 : Nat) + (↑k : Int).toNat) (El.zero [Ty.i IntKind.u8]) != List.getD m ((0 : Nat) + (↑k : Int).toNat) (El.zero [Ty.i IntKind.u8])
                   else false) =
                   true →
                 False) ∧
               ((bif bif bif !f then true else decide (IntKind.u64.wrap (↑k : Int) < a) then true else decide (IntKind.u64.wrap (↑k : Int) ≥ IntKind.u64.wrap (a + IntKind.u64.wrap w)) then
                     List.getD o ((0 : Nat) + (↑k : Int).toNat) (El.zero [Ty.i IntKind.u8]) != List.getD m ((0 : Nat) + (↑k : Int).toNat) (El.zero [Ty.i IntKind.u8])
                   else false) =
                   false →
                 ∃ (y : Nat),
                   ((0 : Nat) = (0 : Nat) ∧
                       List.length m = List.length m ∧
                         a = a ∧ w = w ∧ x = x ∧ (0 : Nat) = (0 : Nat) ∧ List.length o = List.length o ∧ f = f ∧ (↑y : Int) = IntKind.i64.wrap ((↑k : Int) + (1 : Int)) ∧ c = c ∧ m = m ∧ o = o) ∧
                     (y ≤ List.length m ∧
                         List.length o = List.length m ∧
                           List.length m ≤ (2097152 : Nat) ∧
                             ∀ (i : Nat), i < List.length m → f = true ∧ a ≤ (↑i : Int) ∧ (↑i : Int) < IntKind.u64.wrap (a + IntKind.u64.wrap w) ∨ List.getD o i (0 : Int) = List.getD m i (0 : Int)) ∧
                       List.length m - y < List.length m - k ∧ ∀ (z : Unit), True → True)) ∧
   (decide ((↑k : Int) < (↑(List.length m) : Int)) = false → ∃ (z : Unit), (a = a ∧ w = w ∧ x = x ∧ (0 : Nat) = (0 : Nat) ∧ List.length o = List.length o ∧ f = f ∧ c = c ∧ o = o) ∧ True)) := by kernel_rfl
theorem vc_lawMem_eq (c : By) : vc_lawMem c = (
 (decide ((↑(List.length c) : Int) > (1048576 : Int)) = true → true = true ∧ c = c) ∧
   (decide ((↑(List.length c) : Int) > (1048576 : Int)) = false →
     (List.length c = List.length c ∧ ByteR c) ∧
       (List.length (dwmD c).fst = List.length (dwmD c).fst ∧ ByteR (dwmD c).fst ∧ U64 (dwmD c).snd.fst ∧ U64 (dwmD c).snd.snd.snd) ∧
         (((↑(List.length (writeM (dwmD c).fst (dwmD c).snd.fst (dwmD c).snd.snd.fst (dwmD c).snd.snd.snd)) : Int) != (↑(List.length (dwmD c).fst) : Int)) = true → true = false ∧ c = c) ∧
           (((↑(List.length (writeM (dwmD c).fst (dwmD c).snd.fst (dwmD c).snd.snd.fst (dwmD c).snd.snd.snd)) : Int) != (↑(List.length (dwmD c).fst) : Int)) = false →
             (List.length (dwmD c).fst = List.length (dwmD c).fst ∧ ByteR (dwmD c).fst ∧ U64 (dwmD c).snd.fst) ∧
               ∃ (x : Nat),
                 ((0 : Nat) = (0 : Nat) ∧
                     List.length (dwmD c).fst = List.length (dwmD c).fst ∧
                       (dwmD c).snd.fst = (dwmD c).snd.fst ∧
                         (dwmD c).snd.snd.fst = (dwmD c).snd.snd.fst ∧
                           (dwmD c).snd.snd.snd = (dwmD c).snd.snd.snd ∧
                             (0 : Nat) = (0 : Nat) ∧
                               List.length (writeM (dwmD c).fst (dwmD c).snd.fst (dwmD c).snd.snd.fst (dwmD c).snd.snd.snd) =
                                   List.length (writeM (dwmD c).fst (dwmD c).snd.fst (dwmD c).snd.snd.fst (dwmD c).snd.snd.snd) ∧
                                 (readM (dwmD c).fst (dwmD c).snd.fst (dwmD c).snd.snd.fst).fst = (readM (dwmD c).fst (dwmD c).snd.fst (dwmD c).snd.snd.fst).fst ∧
                                   (↑x : Int) = (0 : Int) ∧
                                     c = c ∧
                                       (dwmD c).fst = (dwmD c).fst ∧
                                         writeM (dwmD c).fst (dwmD c).snd.fst (dwmD c).snd.snd.fst (dwmD c).snd.snd.snd =
                                           writeM (dwmD c).fst (dwmD c).snd.fst (dwmD c).snd.snd.fst (dwmD c).snd.snd.snd) ∧
                   (x ≤ List.length (dwmD c).fst ∧
                       List.length (writeM (dwmD c).fst (dwmD c).snd.fst (dwmD c).snd.snd.fst (dwmD c).snd.snd.snd) = List.length (dwmD c).fst ∧
                         List.length (dwmD c).fst ≤ (2097152 : Nat) ∧
                           ∀ (i : Nat),
                             i < List.length (dwmD c).fst →
                               (readM (dwmD c).fst (dwmD c).snd.fst (dwmD c).snd.snd.fst).fst = true ∧
                                   (dwmD c).snd.fst ≤ (↑i : Int) ∧ (↑i : Int) < IntKind.u64.wrap ((dwmD c).snd.fst + IntKind.u64.wrap (dwmD c).snd.snd.fst) ∨
                                 List.getD (writeM (dwmD c).fst (dwmD c).snd.fst (dwmD c).snd.snd.fst (dwmD c).snd.snd.snd) i (0 : Int) = List.getD (dwmD c).fst i (0 : Int)) ∧
                     ∀ (z : Unit),
                       True →
                         (List.length (writeM (dwmD c).fst (dwmD c).snd.fst (dwmD c).snd.snd.fst (dwmD c).snd.snd.snd) =
                               List.length (writeM (dwmD c).fst (dwmD c).snd.fst (dwmD c).snd.snd.fst (dwmD c).snd.snd.snd) ∧
                             ByteR (writeM (dwmD c).fst (dwmD c).snd.fst (dwmD c).snd.snd.fst (dwmD c).snd.snd.snd) ∧ U64 (dwmD c).snd.fst) ∧
                           ((!(readM (dwmD c).fst (dwmD c).snd.fst (dwmD c).snd.snd.fst).fst) = true →
                               (true =
                                   bif !(readM (writeM (dwmD c).fst (dwmD c).snd.fst (dwmD c).snd.snd.fst (dwmD c).snd.snd.snd) (dwmD c).snd.fst (dwmD c).snd.snd.fst).fst then
                                     (readM (writeM (dwmD c).fst (dwmD c).snd.fst (dwmD c).snd.snd.fst (dwmD c).snd.snd.snd) (dwmD c).snd.fst (dwmD c).snd.snd.fst).snd == (0 : Int)
                                   else false) ∧
                                 c = c) ∧
                             ((!(readM (dwmD c).fst (dwmD c).snd.fst (dwmD c).snd.snd.fst).fst) = false →
                               (decide ((dwmD c).snd.snd.fst < (8 : Int)) = true →
                                   (0 : Int) ≤ IntKind.u64.wrap (IntKind.i64.wrap ((8 : Int) * (dwmD c).snd.snd.fst)) ∧
                                     (true =
                                         bif (readM (writeM (dwmD c).fst (dwmD c).snd.fst (dwmD c).snd.snd.fst (dwmD c).snd.snd.snd) (dwmD c).snd.fst (dwmD c).snd.snd.fst).fst then
                                           (readM (writeM (dwmD c).fst (dwmD c).snd.fst (dwmD c).snd.snd.fst (dwmD c).snd.snd.snd) (dwmD c).snd.fst (dwmD c).snd.snd.fst).snd ==
                                             bits BinOp.and IntKind.u64 (dwmD c).snd.snd.snd
                                               (IntKind.u64.wrap
                                                 (IntKind.u64.wrap ((1 : Int) * (2 : Int) ^ min (IntKind.u64.wrap (IntKind.i64.wrap ((8 : Int) * (dwmD c).snd.snd.fst))).toNat (64 : Nat)) - (1 : Int)))
                                         else false) ∧
                                       c = c) ∧
                                 (decide ((dwmD c).snd.snd.fst < (8 : Int)) = false →
                                   (true =
                                       bif (readM (writeM (dwmD c).fst (dwmD c).snd.fst (dwmD c).snd.snd.fst (dwmD c).snd.snd.snd) (dwmD c).snd.fst (dwmD c).snd.snd.fst).fst then
                                         (readM (writeM (dwmD c).fst (dwmD c).snd.fst (dwmD c).snd.snd.fst (dwmD c).snd.snd.snd) (dwmD c).snd.fst (dwmD c).snd.snd.fst).snd == (dwmD c).snd.snd.snd
                                       else false) ∧
                                     c = c))))) := by kernel_rfl
end Go.Proofs.Ytfiddfbagbaofaa.V
namespace Go.Proofs.Ytfiddfbagbaofaa.V
open Go
set_option linter.unusedSimpArgs false
noncomputable def kW : Known := (38, pureS [byP] [byP, u64, i64, u64] (fun m => some (ByteR m)) dwmD) :: kB3
theorem FW_ok : DictOk Try.prog FW := mkD_ok (.cons (by kernel_rfl) dwm_ok kB3_ok) .nil .nil
theorem numM_byt : ∀ (n : Nat) (v : Int), 0 ≤ v → numM (bytM v n) = v % 256 ^ n
  | 0, v, h => by simp [bytM, numM]
  | n + 1, v, h => by
    unfold bytM numM
    rw [numM_byt n (v / 256) (by omega), Int.pow_succ, Int.mul_comm (256 ^ n) 256]
    have h2 : (0 : Int) < 256 ^ n := Int.pow_pos (by omega)
    generalize (256 : Int) ^ n = q at h2
    have e1 := Int.emod_add_mul_ediv v 256
    have e2 := Int.emod_add_mul_ediv (v / 256) q
    have b1 := Int.emod_nonneg (v / 256) (by omega : q ≠ 0)
    have b2 := Int.emod_lt_of_pos (v / 256) h2
    have e3 : v = (v % 256 + 256 * (v / 256 % q)) + 256 * q * (v / 256 / q) := by
      conv => lhs; rw [← e1, ← e2]
      rw [Int.mul_add, Int.mul_assoc, Int.add_assoc]
    have e4 := Int.add_mul_emod_self_left (v % 256 + 256 * (v / 256 % q)) (256 * q) (v / 256 / q)
    rw [← e3] at e4
    have b3 : v / 256 % q ≤ q - 1 := by omega
    exact (e4.trans (Int.emod_eq_of_lt (by omega) (by omega))).symm
theorem put_read {m b : By} {a : Nat} (h : a + b.length ≤ m.length) : ((putM m a b).drop a).take b.length = b := by
  unfold putM
  rw [List.append_assoc, List.drop_append_of_le_length (by simp; omega), List.drop_take, Nat.sub_self, List.take_zero, List.nil_append, List.take_left']
  rfl
theorem put_else {m b : By} {a i : Nat} (h : a + b.length ≤ m.length) (hi : i < a ∨ a + b.length ≤ i) : (putM m a b).getD i 0 = m.getD i 0 := by
  unfold putM
  have hl : (m.take a).length = a := by simp; omega
  simp only [List.getD_eq_getElem?_getD]
  rcases hi with hi | hi
  · rw [List.append_assoc, List.getElem?_append_left (by omega), List.getElem?_take_of_lt hi]
  · rw [List.getElem?_append_right (by simp; omega), List.getElem?_drop]
    congr 2
    simp
    omega
theorem writeM_in {m : By} {a w v : Int} (hm : ByteR m) (ha : U64 a) : ByteR (writeM m a w v) := by
  refine ⟨by rw [writeM_length hm ha]; exact hm.1, ?_⟩
  unfold writeM
  split
  · intro b hb
    unfold putM at hb
    rcases List.mem_append.1 hb with g | g
    · rcases List.mem_append.1 g with g | g
      · exact hm.2 b (List.mem_of_mem_take g)
      · exact bytM_in _ _ b g
    · exact hm.2 b (List.mem_of_mem_drop g)
  · exact hm.2
theorem rdOk_write {m : By} {a w v : Int} (hm : ByteR m) (ha : U64 a) : rdOk (writeM m a w v) a w = rdOk m a w := by
  unfold rdOk insM
  rw [writeM_length hm ha]
theorem read_write {m : By} {a w v : Int} (hm : ByteR m) (ha : U64 a) (hv : U64 v) (h : rdOk m a w = true) : readM (writeM m a w v) a w = (true, v % 256 ^ w.toNat) := by
  unfold readM
  rw [if_pos (by rw [rdOk_write hm ha, h])]
  obtain ⟨-, h0, h1, h2, h3⟩ := rdOk_fit hm ha h
  have e : writeM m a w v = putM m a.toNat (bytM v w.toNat) := by unfold writeM; rw [if_pos h]
  have r := put_read (m := m) (b := bytM v w.toNat) (a := a.toNat) (by rw [bytM_length]; omega)
  rw [bytM_length] at r
  rw [e, r, numM_byt _ _ hv.1]
theorem read_none {m : By} {a w : Int} (h : rdOk m a w = false) : readM m a w = (false, 0) := by unfold readM; rw [if_neg (by rw [h]; simp)]
theorem read_fst (m : By) (a w : Int) : (readM m a w).1 = rdOk m a w := by unfold readM; split <;> rename_i h <;> simp [h]
theorem write_else {m : By} {a w v : Int} (hm : ByteR m) (ha : U64 a) {i : Nat} (_hi : i < m.length) : (rdOk m a w = true ∧ a ≤ (i : Int) ∧ (i : Int) < IntKind.u64.wrap (a + IntKind.u64.wrap w)) ∨ (writeM m a w v).getD i 0 = m.getD i 0 := by
  by_cases h : rdOk m a w = true
  · obtain ⟨hs, h0, h1, h2, h3⟩ := rdOk_fit hm ha h
    have hs : m.length ≤ 2097152 := hs.1
    rw [wrap_u64_in (n := w) (by omega) (by omega), wrap_u64_in (by omega) (by omega)]
    by_cases g : a ≤ (i : Int) ∧ (i : Int) < a + w
    · exact .inl ⟨h, g⟩
    · refine .inr ?_
      have e : writeM m a w v = putM m a.toNat (bytM v w.toNat) := by unfold writeM; rw [if_pos h]
      rw [e]
      exact put_else (by rw [bytM_length]; omega) (by rw [bytM_length]; omega)
  · refine .inr ?_
    unfold writeM
    rw [if_neg h]
theorem width_cases {w : Int} (h : gwM w = true) : w = 1 ∨ w = 2 ∨ w = 4 ∨ w = 8 := by
  unfold gwM at h
  simp only [Bool.or_eq_true, beq_iff_eq] at h
  omega
theorem lawMem_ok : Canon Try.prog 10 [byP] [bl] (WfPs [byP]) (fun _ => true) := by
  refine canon_loop mixed Try.func10 (by kernel_rfl) (b := loopAt Try.f10 0) (k := 9) (by kernel_rfl) (by kernel_rfl) (by kernel_rfl) FW_ok (fun (c : By) h => ?_)
  have h1 : ∀ b ∈ c, 0 ≤ b ∧ b < 256 := wf_bytes (m := c) h
  refine ⟨_, memLL c (dwmD c).1 (writeM (dwmD c).1 (dwmD c).2.1 (dwmD c).2.2.1 (dwmD c).2.2.2) (dwmD c).2.1 (dwmD c).2.2.1 (dwmD c).2.2.2 (readM (dwmD c).1 (dwmD c).2.1 (dwmD c).2.2.1).1, fun k : Nat => (dwmD c).1.length - k, one_loop _ _, fun (k : Nat) hk => ?_, vc_by (vc_lawMem_eq c) ⟨fun _ => ⟨rfl, rfl⟩, fun g => ?_⟩⟩
  · generalize writeM (dwmD c).1 (dwmD c).2.1 (dwmD c).2.2.1 (dwmD c).2.2.2 = o at hk ⊢
    generalize (readM (dwmD c).1 (dwmD c).2.1 (dwmD c).2.2.1).1 = f at hk ⊢
    generalize dwmD c = D at hk ⊢
    obtain ⟨m, a, w, x⟩ := D
    obtain ⟨k0, k1, k2, k3⟩ : k ≤ m.length ∧ o.length = m.length ∧ m.length ≤ 2097152 ∧ ∀ i, i < m.length → (f = true ∧ a ≤ (i : Int) ∧ (i : Int) < IntKind.u64.wrap (a + IntKind.u64.wrap w)) ∨ o.getD i 0 = m.getD i 0 := hk
    refine vc_by (vc_lawMem_r_eq c m o a w x f k) ⟨fun q => ?_, fun q => ?_⟩
    · have q : (k : Int) < m.length := of_decide_eq_true q
      have hlt : k < m.length := by omega
      have e1 : IntKind.u64.wrap (k : Int) = k := wrap_u64_in (by omega) (by omega)
      have e2 : IntKind.i64.wrap ((k : Int) + 1) = ((k + 1 : Nat) : Int) := by rw [wrap_i64_in (by omega) (by omega)]; omega
      have e3 : 0 + (k : Int).toNat = k := by omega
      rw [e1, e2, e3, show El.zero [Ty.i .u8] = (0 : Int) from rfl]
      refine ⟨fun _ => ⟨by omega, by omega⟩, fun _ => by omega, fun _ => ⟨by omega, by omega⟩, fun _ => hlt, fun r => ?_, fun _ => ⟨k + 1, ⟨rfl, rfl, rfl, rfl, rfl, rfl, rfl, rfl, rfl, rfl, rfl, rfl⟩, ⟨by omega, k1, k2, k3⟩, by omega, fun _ _ => trivial⟩⟩
      rcases k3 k hlt with ⟨z1, z2, z3⟩ | z
      · rw [z1] at r
        simp [show ¬ (k : Int) < a by omega, show ¬ (k : Int) ≥ IntKind.u64.wrap (a + IntKind.u64.wrap w) by omega] at r
      · rw [z] at r
        simp at r
    · have q : ¬ (k : Int) < m.length := of_decide_eq_false q
      exact ⟨(), ⟨rfl, rfl, rfl, rfl, rfl, rfl, rfl, rfl⟩, trivial⟩
  · have g : ¬ (c.length : Int) > 1048576 := of_decide_eq_false g
    have hs : SzR c.length := by unfold SzR; omega
    have hb : ByteR c := ⟨hs, h1⟩
    obtain ⟨-, q1, q2, q3, q4⟩ := dwmD_ok hb
    generalize dwmD c = D at q1 q2 q3 q4 ⊢
    obtain ⟨m, a, w, x⟩ := D
    have q1 : ByteR m := q1
    have q2 : U64 a := q2
    have q4 : U64 x := q4
    have hl := writeM_length (m := m) (a := a) (w := w) (v := x) q1 q2
    have hsz : m.length ≤ 2097152 := q1.1
    refine ⟨⟨rfl, hb⟩, ⟨rfl, q1, q2, q4⟩, fun r => absurd r (by simp [hl]), fun _ => ⟨⟨rfl, q1, q2⟩, 0, ⟨rfl, rfl, rfl, rfl, rfl, rfl, rfl, rfl, rfl, rfl, rfl, rfl⟩, ⟨by omega, hl, hsz, fun i hi => by rw [read_fst]; exact write_else q1 q2 hi⟩, fun _ _ => ⟨⟨rfl, writeM_in q1 q2, q2⟩, fun r => ?_, fun r => ⟨fun s => ?_, fun s => ?_⟩⟩⟩⟩
    · rw [read_fst] at r
      have r : rdOk m a w = false := by simpa using r
      rw [read_none (by rw [rdOk_write q1 q2, r])]
      exact ⟨rfl, rfl⟩
    · rw [read_fst] at r
      have r : rdOk m a w = true := by simpa using r
      have s : w < 8 := of_decide_eq_true s
      rw [read_write q1 q2 q4 r]
      have gw : gwM w = true := by unfold rdOk at r; simp only [Bool.and_eq_true] at r; exact r.1
      have w1 := (gw_in gw).1
      rw [wrap_i64_in (n := 8 * w) (by omega) (by omega), wrap_u64_in (n := 8 * w) (by omega) (by omega)]
      refine ⟨by omega, ?_, rfl⟩
      have : bits .and .u64 x (IntKind.u64.wrap (IntKind.u64.wrap (1 * 2 ^ min (8 * w).toNat 64) - 1)) = x % 256 ^ w.toNat := by
        rcases width_cases gw with rfl | rfl | rfl | rfl
        · exact and_lit 8 _ _ (by omega) (by decide) (by decide) q4.1 q4.2
        · exact and_lit 16 _ _ (by omega) (by decide) (by decide) q4.1 q4.2
        · exact and_lit 32 _ _ (by omega) (by decide) (by decide) q4.1 q4.2
        · omega
      rw [this]
      simp
    · rw [read_fst] at r
      have r : rdOk m a w = true := by simpa using r
      have s : ¬ w < 8 := of_decide_eq_false s
      rw [read_write q1 q2 q4 r]
      have gw : gwM w = true := by unfold rdOk at r; simp only [Bool.and_eq_true] at r; exact r.1
      have w8 : w = 8 := by rcases width_cases gw with rfl | rfl | rfl | rfl <;> omega
      subst w8
      have : x % 256 ^ (8 : Int).toNat = x := Int.emod_eq_of_lt q4.1 q4.2
      rw [this]
      exact ⟨by simp, rfl⟩
end Go.Proofs.Ytfiddfbagbaofaa.V
