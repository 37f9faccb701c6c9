/- Translating through caches, and the laws' helpers on caches, answer as their models. Conditions: those in each statement. -/
import Derived.Test.YtfiddfbagbaofaaGreatGX
import Derived.KernelRfl
namespace Go.Proofs.YtfiddfbagbaofaaGreat.V
open Go
def zcs (k : Cch) : Bool := zak false k.1 && zak false k.2.1 && zak true k.2.2
def ChR (k : Cch) : Prop := TlR k.1 ∧ TlR k.2.1 ∧ TlR k.2.2
abbrev chP : Pm := .st [.i .i64, .i .i64, .sl shE, .i .i64, .i .i64, .sl shE, .i .i64, .i .i64, .sl shE]
abbrev ttP : Pm := .st [.i .i64, .i .u64, .i .i64, .i .i64, .sl shE, .i .i64, .i .i64, .sl shE, .i .i64, .i .i64, .sl shE]
abbrev Cf := Int × Int × Es × Int × Int × Es × Int × Int × Es
def toC (x : Cf) : Cch := ((x.1, x.2.1, x.2.2.1), (x.2.2.2.1, x.2.2.2.2.1, x.2.2.2.2.2.1), (x.2.2.2.2.2.2.1, x.2.2.2.2.2.2.2.1, x.2.2.2.2.2.2.2.2))
def ofC (k : Cch) : Cf := (k.1.1, k.1.2.1, k.1.2.2, k.2.1.1, k.2.1.2.1, k.2.1.2.2, k.2.2.1, k.2.2.2.1, k.2.2.2.2)
def SzC (k : Cch) : Prop := SzR k.1.2.2.length ∧ SzR k.2.1.2.2.length ∧ SzR k.2.2.2.2.length
def zbn (e : Nat) (kind : Int) : Int := if e = 0 then 0 else if e = 1 then afM kind else pfM kind
def okT (c : Ct) (k : Cch) (kind pick : Int) : Bool := zcs k && ybb c kind && decide (0 ≤ pick) && decide (pick ≤ 255)
def zC : Cch := ((0, 0, []), (0, 0, []), (0, 0, []))
def yah (m : By) (c : Ct) (k : Cch) (kind va pick : Int) : Int × Int × Cch := if okT c k kind pick = true then (zbn (trM m c k kind va pick).1 kind, (trM m c k kind va pick).2.1, (trM m c k kind va pick).2.2.2) else (63, 0, zC)
def zjy (m : By) (c : Ct) (x : Cf) (kind va pick : Int) : Int × Int × Cf := ((yah m c (toC x) kind va pick).1, (yah m c (toC x) kind va pick).2.1, ofC (yah m c (toC x) kind va pick).2.2)
def kY0 : Known := kF4 ++ kE3 ++ kA4
def FY0 : Dict := mkD kY0 [] []
def yf2 (s1 w1 : Int) (m1 : Es) (s2 w2 : Int) (m2 : Es) (s3 w3 : Int) (m3 : Es) : Prop := zan Tryz.prog FY0 .none Tryz.f119 [chP] [bl] (s1, w1, m1, s2, w2, m2, s3, w3, m3) (zcs ((s1, w1, m1), (s2, w2, m2), (s3, w3, m3)))
def zzw (s1 w1 : Int) (m1 : Es) (s2 w2 : Int) (m2 : Es) (s3 w3 : Int) (m3 : Es) : Prop := zan Tryz.prog FY0 .none Tryz.f120 [chP] [chP] (s1, w1, m1, s2, w2, m2, s3, w3, m3) (s1, w1, m1, s2, w2, m2, s3, w3, m3)
def yf1 (l va s p : Int) : Prop := zan Tryz.prog FY0 .none Tryz.f87 [i64, u64, u64, u64] [enP] (l, va, s, p) (zb9 l va s p)
def kY1 : Known := [
 (119, zag [chP] [bl] (fun x => some (ChR (toC x))) (fun x => zcs (toC x))),
 (120, zag [chP] [chP] (fun x => some (SzC (toC x))) (fun x => x)),
 (87, zag [i64, u64, u64, u64] [enP] (fun t => some (LvR t.1 ∧ U64 t.2.1 ∧ U64 t.2.2.1 ∧ U64 t.2.2.2)) (fun t => zb9 t.1 t.2.1 t.2.2.1 t.2.2.2)),
 ]
set_option linter.unusedVariables false
theorem zsx (s1 w1 : Int) (m1 : Es) (s2 w2 : Int) (m2 : Es) (s3 w3 : Int) (m3 : Es) : yf2 s1 w1 m1 s2 w2 m2 s3 w3 m3 = (
 (List.length m1 = List.length m1 ∧ TlR (s1, w1, m1)) ∧ (zak false (s1, w1, m1) = true → List.length m2 = List.length m2 ∧ TlR (s2, w2, m2)) ∧ ((bif zak false (s1, w1, m1) then zak false (s2, w2, m2) else false) = true → List.length
 m3 = List.length m3 ∧ TlR (s3, w3, m3)) ∧ (zcs ((s1, w1, m1), (s2, w2, m2), s3, w3, m3) = bif bif zak false (s1, w1, m1) then zak false (s2, w2, m2) else false then zak true (s3, w3, m3) else false) ∧ m1 = m1 ∧ m2 = m2 ∧ m3 = m3) := by kernel_rfl
theorem zpt (s1 w1 : Int) (m1 : Es) (s2 w2 : Int) (m2 : Es) (s3 w3 : Int) (m3 : Es) : zzw s1 w1 m1 s2 w2 m2 s3 w3 m3 = (
 (List.length m1 = List.length m1 ∧ SzR (List.length m1)) ∧ (List.length m2 = List.length m2 ∧ SzR (List.length m2)) ∧ (List.length m3 = List.length m3 ∧ SzR (List.length m3)) ∧ s1 = s1 ∧ w1 = w1 ∧ (0 : Nat) = (0 : Nat) ∧ List.length m1 =
 List.length m1 ∧ s2 = s2 ∧ w2 = w2 ∧ (0 : Nat) = (0 : Nat) ∧ List.length m2 = List.length m2 ∧ s3 = s3 ∧ w3 = w3 ∧ (0 : Nat) = (0 : Nat) ∧ List.length m3 = List.length m3 ∧ m1 = m1 ∧ m2 = m2 ∧ m3 = m3 ∧ m1 = m1 ∧ m2 = m2 ∧ m3 = m3) := by kernel_rfl
theorem zsw (l va s p : Int) : yf1 l va s p = (
 (U64 va ∧ LvR l) ∧ U64 s ∧ zhw (p, (5 : Int)) ∧ (zb9 l va s p).fst = true ∧ (zb9 l va s p).snd.fst = l ∧ (zb9 l va s p).snd.snd.fst = zjr va l ∧ (zb9 l va s p).snd.snd.snd.fst = zbv s ∧ (zb9 l va s p).snd.snd.snd.snd.fst = zaw p
 (5 : Int) ∧ (zb9 l va s p).snd.snd.snd.snd.snd = p) := by kernel_rfl
set_option linter.unusedSimpArgs false
theorem zm4 {va asid : Int} {m : Es} : ∀ n : Nat, n ≤ m.length → (zdl va asid m n = (false, 0, 0, 0)) ∨ ∃ i, i < n ∧ zc7 (m.getD i zE) va asid = true ∧ zdl va asid m n = (true, (i : Int), (m.getD i zE).2.1, (m.getD i zE).2.2.2.2.2)
 | 0, _ => .inl rfl
 | n + 1, h => by
  unfold zdl zcx
  split
  · rename_i q
    simp only [Bool.and_eq_true] at q
    exact .inr ⟨n, by omega, q.1, rfl⟩
  · rcases zm4 (va := va) (asid := asid) (m := m) n (by omega) with e | ⟨i, h1, h2, h3⟩
    · exact .inl e
    · exact .inr ⟨i, by omega, h2, h3⟩
theorem zqt {va asid : Int} {m : Es} (h : (za4 va asid m).1 = true) : ∃ i, i < m.length ∧ zc7 (m.getD i zE) va asid = true ∧ za4 va asid m = (true, (i : Int), (m.getD i zE).2.1, (m.getD i zE).2.2.2.2.2) := by
 rcases zm4 (va := va) (asid := asid) (m := m) m.length (Nat.le_refl _) with e | e
 · unfold za4 at h
   rw [e] at h
   cases h
 · exact e
theorem zy6 {p : Bool} {t : Tl} (h : zak p t = true) {i : Nat} (hi : i < t.2.2.length) (hv : (t.2.2.getD i zE).1 = true) : zbm p (t.2.2.getD i zE) = true := by
 simp only [zak, Bool.and_eq_true] at h
 have := zb8.1 h.2 i hi
 simp only [zkg, Bool.or_eq_true, Bool.and_eq_true] at this
 rcases this with e | e
 · have e : t.2.2.getD i zE = zE := by simpa using e
   rw [e] at hv
   cases hv
 · exact e.1
theorem yb2 {p : Bool} {e : En} (h : zbm p e = true) : LvR e.2.1 ∧ zbg e.2.2.2.2.2 e.2.1 = zs9 p := by
 simp only [zbm, Bool.and_eq_true, decide_eq_true_eq, beq_iff_eq] at h
 exact ⟨zds.1 h.1.1.1.1.2, h.2⟩
theorem zgu {p : Bool} {t : Tl} {va asid : Int} (h : zak p t = true) (ht : TlR t) (hf : (za4 va asid t.2.2).1 = true) : LvR (za4 va asid t.2.2).2.2.1 ∧ U64 (za4 va asid t.2.2).2.2.2 ∧ zbg (za4 va asid t.2.2).2.2.2 (za4 va asid t.2.2).2.2.1 = zs9 p := by
 obtain ⟨i, hi, hfit, e⟩ := zqt hf
 rw [e]
 have hv : (t.2.2.getD i zE).1 = true := by
  simp only [zc7, Bool.and_eq_true] at hfit
  exact hfit.1.1
 obtain ⟨h1, h2⟩ := yb2 (zy6 h hi hv)
 exact ⟨h1, (ht.2.2.2 _ (zk7 hi zE)).2.2.2, h2⟩
theorem zom {p l : Int} (h : zbg p l = 1) : l ≠ 0 := zwz (by rw [h]; decide) (by rw [h]; decide)
theorem zii {m : By} {satp va : Int} {P : Tl} (hm : zaq m) (hv : U64 va) (hP : zak true P = true) (hR : TlR P) : zmk m (zar satp va P).1 (zar satp va P).2 va := by
 unfold zar
 split
 · rename_i hf
   obtain ⟨h1, h2, h3⟩ := zgu hP hR hf
   have h4 := zom (show zbg _ _ = 1 from h3)
   obtain ⟨g0, g1⟩ := zrk h2
   exact ⟨hm, g0, g1, ⟨by have := h1.1; show 0 ≤ _ - 1; omega, by have := h1.2; show _ - 1 ≤ (2 : Int); omega⟩, hv⟩
 · exact ⟨hm, Int.emod_nonneg _ (by decide), Int.emod_lt_of_pos _ (by decide), ⟨show (0 : Int) ≤ 2 by decide, show (2 : Int) ≤ 2 by decide⟩, hv⟩
theorem zub {p : Bool} {t : Tl} (h : zak p t = true) : zax t = true := by cases p <;> simp [zax, h]
theorem yes (m : By) (c : Ct) (I D P : Tl) (kind va pick : Int) : ∃ e pa l t1 t2 t3, trM m c (I, D, P) kind va pick = (e, pa, l, (I.1, I.2.1, t1), (D.1, D.2.1, t2), (P.1, P.2.1, t3)) ∧ t1.length = I.2.2.length ∧ t2.length = D.2.2.length ∧ t3.length = P.2.2.length ∧ (e = 0 ∨ e ≠ 0 ∧ pa = 0) ∧ (e = 0 ∨ e = 1 ∨ e = 2) := by
 have miss : ∃ e pa l t1 t2 t3, zq9 m c (I, D, P) kind va pick = (e, pa, l, (I.1, I.2.1, t1), (D.1, D.2.1, t2), (P.1, P.2.1, t3)) ∧ t1.length = I.2.2.length ∧ t2.length = D.2.2.length ∧ t3.length = P.2.2.length ∧ (e = 0 ∨ e ≠ 0 ∧ pa = 0) ∧ (e = 0 ∨ e = 1 ∨ e = 2) := by
  unfold zq9
  generalize zbp m va _ _ = W
  obtain ⟨-, -, kl⟩ := zck va c.2.2.2 pick W.2.2.2 P
  unfold zmf
  split
  · split
    · unfold zyu zhm
      split
      · exact ⟨_, _, _, _, _, _, rfl, by simp [zmg, zbx], rfl, kl, .inl rfl, .inl rfl⟩
      · exact ⟨_, _, _, _, _, _, rfl, rfl, by simp [zmg, zbx], kl, .inl rfl, .inl rfl⟩
    · exact ⟨_, _, _, _, _, _, rfl, rfl, rfl, kl, .inr ⟨by decide, rfl⟩, .inr (.inr rfl)⟩
  · split
    · exact ⟨_, _, _, _, _, _, rfl, rfl, rfl, kl, .inr ⟨by decide, rfl⟩, .inr (.inl rfl)⟩
    · exact ⟨_, _, _, _, _, _, rfl, rfl, rfl, kl, .inr ⟨by decide, rfl⟩, .inr (.inr rfl)⟩
 unfold trM
 split
 · exact ⟨_, _, _, _, _, _, rfl, rfl, rfl, rfl, .inl rfl, .inl rfl⟩
 · split
   · exact ⟨_, _, _, _, _, _, rfl, rfl, rfl, rfl, .inr ⟨by decide, rfl⟩, .inr (.inr rfl)⟩
   · split
     · unfold ymz
       split
       · exact ⟨_, _, _, _, _, _, rfl, rfl, rfl, rfl, .inl rfl, .inl rfl⟩
       · exact ⟨_, _, _, _, _, _, rfl, rfl, rfl, rfl, .inr ⟨by decide, rfl⟩, .inr (.inr rfl)⟩
     · exact miss
theorem yk6 : zaz Tryz.prog kY0 := (zna.append zh5).append zcb
theorem yaq : DictOk Tryz.prog FY0 := za1 yk6 .nil .nil
theorem yb1 (I D P : Tl) : zcs (I, D, P) = bif bif zak false I then zak false D else false then zak true P else false := by simp [zcs]
theorem yed : Sound Tryz.prog 119 (zag [chP] [bl] (fun x => some (ChR (toC x))) (fun x => zcs (toC x))) := by
 refine zae mixed Tryz.func119 (by kernel_rfl) (by kernel_rfl) yaq (fun t h => ?_)
 obtain ⟨s1, w1, m1, s2, w2, m2, s3, w3, m3⟩ : Cf := t
 obtain ⟨h1, h2, h3⟩ : TlR (s1, w1, m1) ∧ TlR (s2, w2, m2) ∧ TlR (s3, w3, m3) := h
 exact zah (zsx s1 w1 m1 s2 w2 m2 s3 w3 m3) (by rw [yb1]; simp [h1, h2, h3])
theorem zy0 : Sound Tryz.prog 120 (zag [chP] [chP] (fun x => some (SzC (toC x))) (fun x => x)) := by
 refine zae mixed Tryz.func120 (by kernel_rfl) (by kernel_rfl) yaq (fun t h => ?_)
 obtain ⟨s1, w1, m1, s2, w2, m2, s3, w3, m3⟩ : Cf := t
 obtain ⟨h1, h2, h3⟩ : SzR m1.length ∧ SzR m2.length ∧ SzR m3.length := h
 exact zah (zpt s1 w1 m1 s2 w2 m2 s3 w3 m3) (by simp [h1, h2, h3])
theorem yeb : Sound Tryz.prog 87 (zag [i64, u64, u64, u64] [enP] (fun t => some (LvR t.1 ∧ U64 t.2.1 ∧ U64 t.2.2.1 ∧ U64 t.2.2.2)) (fun t => zb9 t.1 t.2.1 t.2.2.1 t.2.2.2)) := by
 refine zae mixed Tryz.func87 (by kernel_rfl) (by kernel_rfl) yaq (fun t h => ?_)
 obtain ⟨l, va, s, p⟩ : Int × Int × Int × Int := t
 obtain ⟨h1, h2, h3, h4⟩ : LvR l ∧ U64 va ∧ U64 s ∧ U64 p := h
 exact zah (zsw l va s p) ⟨⟨h2, h1⟩, h3, zn5 h4 (by decide) (by decide), rfl, rfl, rfl, rfl, rfl, rfl⟩
theorem ycm : zaz Tryz.prog kY1 := .cons (by kernel_rfl) yed <| .cons (by kernel_rfl) zy0 <| .cons (by kernel_rfl) yeb <| .nil
theorem zou {c : Ct} {k : Cch} {kind pick : Int} (h : okT c k kind pick = true) : zcs k = true ∧ ybb c kind = true ∧ 0 ≤ pick ∧ pick ≤ 255 := by
 simp only [okT, Bool.and_eq_true, decide_eq_true_eq] at h
 exact ⟨h.1.1.1, h.1.1.2, h.1.2, h.2⟩
end Go.Proofs.YtfiddfbagbaofaaGreat.V
