/- The program's ReadMem answers as the reference's for all arguments, over the printed functions. Conditions: those of the statement alone. -/
import Derived.Test.YtfiddfbagbaofaaPFnExactReadMemx2
import Derived.Test.YtfiddfbagbaofaaNum
namespace Go.Proofs.Ytfiddfbagbaofaa.Pure
open Go.RowKit Go.Proofs.Ytfiddfbagbaofaa.PFnExactReadMem Go.Proofs.YtfiddfbagbaofaaW.PrintWords Go.Proofs.YtfiddfbagbaofaaW.PrintLast Go.Proofs.Ytfiddfbagbaofaa.Num
theorem w64 {n : Int} (h0 : -9223372036854775808 ≤ n) (h1 : n ≤ 9223372036854775807) : wrap64 n = n := by unfold wrap64; omega

/-- The number that bytes make, lowest first. -/
def num : List Int → Int
  | [] => 0
  | b :: bs => b + 256 * num bs
def Bytes (l : List Int) : Prop := ∀ x ∈ l, 0 ≤ x ∧ x ≤ 255

theorem pow_le {i : Nat} (h : i ≤ 7) : (256 : Int) ^ i ≤ 256 ^ 7 := by
  have := Nat.pow_le_pow_right (n := 256) (by decide) h
  have h2 : ((256 ^ i : Nat) : Int) ≤ ((256 ^ 7 : Nat) : Int) := Int.ofNat_le.2 this
  rw [Int.natCast_pow, Int.natCast_pow] at h2
  exact h2

theorem num_bd (l : List Int) (h : Bytes l) : 0 ≤ num l ∧ num l < 256 ^ l.length := by
  induction l with
  | nil => simp [num]
  | cons b bs ih =>
    have hb := h b (by simp)
    have hi := ih (fun x hx => h x (by simp [hx]))
    simp only [num, List.length_cons, Int.pow_succ]
    omega

theorem copy_loop (l : List Int) (hl : l.length ≤ 1048576) (d : Nat) : ∀ (k i : Nat) (x : List Int), x.length = l.length → (∀ j, j < i → x.getD j 0 = l.getD j 0) → i + d = l.length → d < k →
    laws_toByteS.l0 k l x (i : Int) = some l := by
  induction d with
  | zero =>
    intro k i x hx he hd hk
    obtain ⟨k, rfl⟩ : ∃ m, k = m + 1 := ⟨k - 1, by omega⟩
    simp only [laws_toByteS.l0]
    rw [if_neg (by omega)]
    congr 1
    apply List.ext_getElem hx
    intro j h1 h2
    have := he j (by omega)
    simpa [List.getD_eq_getElem?_getD, h1, h2] using this
  | succ d ih =>
    intro k i x hx he hd hk
    obtain ⟨k, rfl⟩ : ∃ m, k = m + 1 := ⟨k - 1, by omega⟩
    simp only [laws_toByteS.l0]
    rw [if_pos (by omega), if_pos (by omega), if_pos (by omega), w64 (by omega) (by omega)]
    have := ih k (i + 1) (x.set i (rd l i)) (by simpa using hx) (by
      intro j hj
      simp only [List.getD_eq_getElem?_getD, List.getElem?_set]
      by_cases e : i = j
      · subst e
        simp [rd, List.getD_eq_getElem?_getD, (by omega : i < x.length)]
      · have h3 := he j (by omega)
        simp only [List.getD_eq_getElem?_getD] at h3
        simp [e, h3]) (by omega) (by omega)
    simpa using this

theorem copy_all (l : List Int) (hl : l.length ≤ 1048576) (k : Nat) (hk : l.length < k) : laws_toByteS.f k l = some l := by
  simp only [laws_toByteS.f]
  rw [if_pos (by omega), if_pos (by omega)]
  have := copy_loop l hl l.length k 0 (List.replicate l.length 0) (by simp) (fun j hj => by omega) (by omega) hk
  simpa using this

theorem eq_loop (l : List Int) (hl : l.length ≤ 1048576) (d : Nat) : ∀ (k i : Nat), i + d = l.length → d < k → laws_eqByteS.l0 k l l (i : Int) = some true := by
  induction d with
  | zero =>
    intro k i hd hk
    obtain ⟨k, rfl⟩ : ∃ m, k = m + 1 := ⟨k - 1, by omega⟩
    simp only [laws_eqByteS.l0]
    rw [if_neg (by omega)]
  | succ d ih =>
    intro k i hd hk
    obtain ⟨k, rfl⟩ : ∃ m, k = m + 1 := ⟨k - 1, by omega⟩
    simp only [laws_eqByteS.l0]
    rw [if_pos (by omega), if_pos (by omega), if_pos (by omega), if_pos trivial, w64 (by omega) (by omega)]
    have := ih k (i + 1) (by omega) (by omega)
    simpa using this
theorem eq_all (l : List Int) (hl : l.length ≤ 1048576) (k : Nat) (hk : l.length < k) : laws_eqByteS.f k l l = some true := by
  simp only [laws_eqByteS.f]
  rw [if_pos trivial]
  simpa using eq_loop l hl l.length k 0 (by omega) hk

theorem number_spec (l : List Int) : ∀ (k : Nat), Bytes l → l.length ≤ 8 → l.length < k → spec_l1Number.f k l = some (num l) := by
  induction l with
  | nil =>
    intro k _ _ hk
    obtain ⟨k, rfl⟩ : ∃ m, k = m + 1 := ⟨k - 1, by simp at hk; omega⟩
    simp only [spec_l1Number.f, num]
    rw [if_pos (by simp)]
  | cons b bs ih =>
    intro k h h8 hk
    simp only [List.length_cons] at h8 hk
    obtain ⟨k, rfl⟩ : ∃ m, k = m + 1 := ⟨k - 1, by omega⟩
    have hb := h b (by simp)
    have hbs : Bytes bs := fun x hx => h x (by simp [hx])
    have hn := num_bd bs hbs
    have hp : (256 : Int) ^ bs.length ≤ 256 ^ 7 := pow_le (by omega)
    have hp7 : (256 : Int) ^ 7 = 72057594037927936 := by decide
    simp only [spec_l1Number.f, List.length_cons]
    rw [if_neg (by omega), if_pos (by omega), if_pos (by omega), List.drop_one, List.tail_cons, ih k hbs (by omega) (by omega)]
    simp only [Option.bind_some, rd, Int.toNat_zero, List.getD_cons_zero, num]
    rw [wrap_u64_in (n := b) (by omega) (by omega), wrap_u64_in (n := 256 * num bs) (by omega) (by omega), wrap_u64_in (by omega) (by omega)]

theorem number_loop (l : List Int) (hb : Bytes l) (hl : l.length ≤ 1048576) (a w : Nat) (hw : w ≤ 8) (ha : a + w ≤ l.length) : ∀ (i k : Nat), i ≤ w → i < k →
    impl_memory_number.l0 k l (a : Int) (num (((l.drop a).take w).drop i)) (i : Int) = some (num ((l.drop a).take w)) := by
  intro i
  induction i with
  | zero =>
    intro k _ hk
    obtain ⟨k, rfl⟩ : ∃ m, k = m + 1 := ⟨k - 1, by omega⟩
    simp [impl_memory_number.l0]
  | succ i ih =>
    intro k hi hk
    obtain ⟨k, rfl⟩ : ∃ m, k = m + 1 := ⟨k - 1, by omega⟩
    have hs : Bytes ((l.drop a).take w) := fun x hx => hb x (List.drop_subset _ _ (List.take_subset _ _ hx))
    have hlen : ((l.drop a).take w).length = w := by simp; omega
    have hd : ((l.drop a).take w).drop i = ((l.drop a).take w).getD i 0 :: ((l.drop a).take w).drop (i + 1) := by
      have h1 : i < ((l.drop a).take w).length := by omega
      rw [List.drop_eq_getElem_cons h1, List.getD_eq_getElem?_getD, List.getElem?_eq_getElem h1]; rfl
    have hx : ((l.drop a).take w).getD i 0 = l.getD (a + i) 0 := by
      simp [List.getD_eq_getElem?_getD, (by omega : i < w), List.getElem?_drop]
    have hr : 0 ≤ l.getD (a + i) 0 ∧ l.getD (a + i) 0 ≤ 255 := by
      have h1 : a + i < l.length := by omega
      have : l.getD (a + i) 0 ∈ l := by simp [List.getD_eq_getElem?_getD, h1]
      exact hb _ this
    have hn := num_bd (((l.drop a).take w).drop (i + 1)) (fun x hx => hs x (List.drop_subset _ _ hx))
    have hnl : (((l.drop a).take w).drop (i + 1)).length = w - (i + 1) := by rw [List.length_drop, hlen]
    rw [hnl] at hn
    have hp : (256 : Int) ^ (w - (i + 1)) ≤ 256 ^ 7 := pow_le (by omega)
    have hp7 : (256 : Int) ^ 7 = 72057594037927936 := by decide
    have ih' := ih k (by omega) (by omega)
    rw [hd, hx] at ih'
    simp only [num] at ih'
    have e1 : IntKind.u64.wrap ((a : Int) + ((i + 1 : Nat) : Int)) = ((a + i + 1 : Nat) : Int) := by rw [wrap_u64_in (by omega) (by omega)]; omega
    have e2 : IntKind.u64.wrap (((a + i + 1 : Nat) : Int) - 1) = ((a + i : Nat) : Int) := by rw [wrap_u64_in (by omega) (by omega)]; omega
    have e3 : IntKind.u64.wrap (((i + 1 : Nat) : Int) - 1) = (i : Int) := by rw [wrap_u64_in (by omega) (by omega)]; omega
    simp only [impl_memory_number.l0, e1, e2, e3]
    rw [if_pos (by omega), if_pos (by omega), if_pos (by omega)]
    have e4 : rd l ((a + i : Nat) : Int) = l.getD (a + i) 0 := by simp only [rd, Int.toNat_natCast]
    rw [e4, wrap_u64_in (n := l.getD (a + i) 0) (by omega) (by omega), wrap_u64_in (n := num _ * 256) (by omega) (by omega), or_join 8 (by omega) (by omega) (by omega) (by omega) (by omega) (by omega)]
    rw [Int.add_comm, Int.mul_comm]
    exact ih'
theorem FnExactReadMem : laws_FnExactReadMem.Pure := by
  intro l a w hm _ hb ha hw
  have hby : Bytes l := fun x hx => by have := bounds_u8 (hb x hx); omega
  obtain ⟨a0, a1⟩ := bounds_u64 ha
  obtain ⟨w0, w1⟩ := bounds_i64 hw
  clear hb ha hw
  by_cases big : (l.length : Int) > 1048576
  · exact ⟨0, by simp only [laws_FnExactReadMem.f]; rw [if_pos big]⟩
  · have hl : l.length ≤ 1048576 := by omega
    refine ⟨1048600, ?_⟩
    simp only [laws_FnExactReadMem.f]
    rw [if_neg big, copy_all l hl _ (by omega)]
    simp only [Option.bind_some, eq_all l hl 1048600 (by omega)]
    suffices h : ∃ p : Bool × Int, spec_ReadMem.f 1048600 l a w = some p ∧ impl_ReadMem.f 1048600 l a w = some p by
      obtain ⟨⟨p, q⟩, h1, h2⟩ := h
      simp [h1, h2, laws_eqReadRes.f]
    have ul : IntKind.u64.wrap (l.length : Int) = (l.length : Int) := wrap_u64_in (by omega) (by omega)
    by_cases g : w = 1 ∨ w = 2 ∨ w = 4 ∨ w = 8
    · have hw : wrap64 ((l.length : Int) - w) = (l.length : Int) - w := w64 (by omega) (by omega)
      have uw : IntKind.u64.wrap w = w := wrap_u64_in (by omega) (by omega)
      have good : spec_l1Good.f l a w = spec_l1Inside.f l a w := by
        have bs : ∀ o : Option Bool, (o.bind fun t => some t) = o := fun o => by cases o <;> rfl
        simp only [spec_l1Good.f, bs]
        rcases g with rfl | rfl | rfl | rfl <;> simp
      have gw : impl_goodWidth.f w = some true := by rcases g with rfl | rfl | rfl | rfl <;> simp [impl_goodWidth.f]
      simp only [spec_ReadMem.f, impl_ReadMem.f, good, gw, spec_l1Inside.f, impl_memory_holds.f, uw, ul, hw, Option.bind_some, if_true]
      by_cases c : w ≤ (l.length : Int)
      · have ud : IntKind.u64.wrap ((l.length : Int) - w) = (l.length : Int) - w := wrap_u64_in (by omega) (by omega)
        rw [if_pos c, ud]
        simp only [Option.bind_some]
        by_cases i : a ≤ (l.length : Int) - w
        · have wa : wrap64 a = a := w64 (by omega) (by omega)
          have waw : wrap64 (a + w) = a + w := w64 (by omega) (by omega)
          simp only [decide_eq_true i, wa, waw, if_true]
          rw [if_pos a0, if_pos (by omega), if_pos (by omega)]
          obtain ⟨an, rfl⟩ := Int.eq_ofNat_of_zero_le a0
          obtain ⟨wn, rfl⟩ := Int.eq_ofNat_of_zero_le (show 0 ≤ w by omega)
          have hs : (l.take ((an : Int) + (wn : Int)).toNat).drop (an : Int).toNat = (l.drop an).take wn := by
            rw [show ((an : Int) + (wn : Int)).toNat = an + wn by omega, Int.toNat_natCast, List.drop_take, show an + wn - an = wn by omega]
          have hby2 : Bytes ((l.drop an).take wn) := fun x hx => hby x (List.drop_subset _ _ (List.take_subset _ _ hx))
          have hlen : ((l.drop an).take wn).length = wn := by simp; omega
          have nl := number_loop l hby hl an wn (by omega) (by omega) wn 1048600 (Nat.le_refl _) (by omega)
          rw [List.drop_of_length_le (by omega)] at nl
          refine ⟨(true, num ((l.drop an).take wn)), ?_, ?_⟩
          · rw [hs, number_spec _ _ hby2 (by omega) (by omega)]; rfl
          · simp only [impl_memory_number.f]
            simp only [num] at nl
            rw [nl]; rfl
        · simp only [decide_eq_false i]
          exact ⟨(false, 0), by simp, by simp⟩
      · rw [if_neg c]
        exact ⟨(false, 0), by simp, by simp⟩
    · have gw : impl_goodWidth.f w = some false := by
        simp only [impl_goodWidth.f]
        rw [if_neg (by omega), if_neg (by omega), if_neg (by omega)]
        simp; omega
      have good : spec_l1Good.f l a w = some false := by
        simp only [spec_l1Good.f]
        rw [if_neg (by omega), if_neg (by omega), if_neg (by omega), if_neg (by omega)]
      exact ⟨(false, 0), by simp [spec_ReadMem.f, good], by simp [impl_ReadMem.f, gw]⟩
end Go.Proofs.Ytfiddfbagbaofaa.Pure
