/- The translation with caches answers as its model. Conditions: those in each statement. -/
import Derived.Test.YtfiddfbagbaofaaGreatGO
import Derived.Test.YtfiddfbagbaofaaGreatV3
import Derived.KernelRfl
namespace Go.Proofs.YtfiddfbagbaofaaGreat.V
open Go
abbrev Cch := Tl × Tl × Tl
def zmg (t : Tl) (e : En) (pick : Int) : Tl := (t.1, t.2.1, zg5 t.2.2 t.1 t.2.1 e pick)
def zb9 (l va satp p : Int) : En := (true, l, zjr va l, zbv satp, zaw p 5, p)
def zg6 (va satp pick : Int) (t : Tl) (r : Rc) : Tl := if zbg r.2.2 r.1 = 1 then zmg t (zb9 r.1 va satp r.2.2) pick else t
def zap (va satp pick : Int) (t : Tl) (rs : Rs) : Tl := rs.foldl (zg6 va satp pick) t
abbrev TrR := Nat × Int × Int × Cch
def zhm (kind : Int) (k : Cch) : Tl := if kind = 0 then k.1 else k.2.1
def zyu (kind : Int) (k : Cch) (t : Tl) : Cch := if kind = 0 then (t, k.2.1, k.2.2) else (k.1, t, k.2.2)
def zar (satp va : Int) (P : Tl) : Int × Int := if (za4 va (zbv satp) P.2.2).1 = true then (zda (za4 va (zbv satp) P.2.2).2.2.2, (za4 va (zbv satp) P.2.2).2.2.1 - 1) else (yim satp, 2)
def zmf (W : Wr) (c : Ct) (k : Cch) (kind va pick : Int) : TrR :=
 if W.1 = 1 then (if zb5 W.2.2.1 kind c.1 c.2.1 c.2.2.1 = true then (0, zeg W.2.2.1 W.2.1 va, 0, zyu kind k (zmg (zhm kind k) (zb9 W.2.1 va c.2.2.2 W.2.2.1) pick)) else (2, 0, W.2.1, k))
 else if W.1 = 3 then (1, 0, W.2.1, k) else (2, 0, W.2.1, k)
def ymz (h : Hi) (c : Ct) (k : Cch) (kind va : Int) : TrR := if zb5 h.2.2.2 kind c.1 c.2.1 c.2.2.1 = true then (0, zeg h.2.2.2 h.2.2.1 va, 0, k) else (2, 0, h.2.2.1, k)
def zq9 (m : By) (c : Ct) (k : Cch) (kind va pick : Int) : TrR :=
 zmf (zbp m va ((zar c.2.2.2 va k.2.2).2 + 1).toNat (zar c.2.2.2 va k.2.2).1) c (k.1, k.2.1, (k.2.2.1, k.2.2.2.1, (zap va c.2.2.2 pick k.2.2 (zbp m va ((zar c.2.2.2 va k.2.2).2 + 1).toNat (zar c.2.2.2 va k.2.2).1).2.2.2).2.2)) kind va pick
def trM (m : By) (c : Ct) (k : Cch) (kind va pick : Int) : TrR :=
 if onM c = false then (0, va, 0, k) else if ze5 va = false then (2, 0, 2, k)
 else if (za4 va (zbv c.2.2.2) (zhm kind k).2.2).1 = true then ymz (za4 va (zbv c.2.2.2) (zhm kind k).2.2) c k kind va
 else zq9 m c k kind va pick
set_option linter.unusedVariables false
set_option linter.unusedSimpArgs false
theorem yll {va l : Int} (hl : LvR l) : 0 ≤ zjr va l ∧ zjr va l < 512 := by
 unfold zjr
 have h0 : 0 ≤ va % 32768 := Int.emod_nonneg _ (by decide)
 have h1 : va % 32768 < 32768 := Int.emod_lt_of_pos _ (by decide)
 rcases zcy hl with rfl | rfl | rfl
 · rw [show ((2 : Int) ^ (6 + 3 * 0 : Int).toNat) = 64 by decide]; omega
 · rw [show ((2 : Int) ^ (6 + 3 * 1 : Int).toNat) = 512 by decide]; omega
 · rw [show ((2 : Int) ^ (6 + 3 * 2 : Int).toNat) = 4096 by decide]; omega
theorem yba (s : Int) : 0 ≤ zbv s ∧ zbv s < 65536 := ⟨Int.emod_nonneg _ (by decide), Int.emod_lt_of_pos _ (by decide)⟩
theorem zg9 {l va satp p : Int} (hl : LvR l) (hp : U64 p) : EnR (zb9 l va satp p) := by
 obtain ⟨t0, t1⟩ := yll (va := va) hl
 obtain ⟨a0, a1⟩ := yba satp
 exact ⟨⟨by have := hl.1; show -9223372036854775808 ≤ l; omega, by have := hl.2; show l < 9223372036854775808; omega⟩, ⟨t0, by show zjr va l < 18446744073709551616; omega⟩, ⟨a0, by show zbv satp < 18446744073709551616; omega⟩, hp⟩
theorem zyh (va satp pick : Int) (t : Tl) (r : Rc) : (zg6 va satp pick t r).1 = t.1 ∧ (zg6 va satp pick t r).2.1 = t.2.1 ∧ (zg6 va satp pick t r).2.2.length = t.2.2.length := by
 unfold zg6 zmg
 split
 · exact ⟨rfl, rfl, by simp [zbx]⟩
 · exact ⟨rfl, rfl, rfl⟩
theorem zck (va satp pick : Int) : ∀ (rs : Rs) (t : Tl), (zap va satp pick t rs).1 = t.1 ∧ (zap va satp pick t rs).2.1 = t.2.1 ∧ (zap va satp pick t rs).2.2.length = t.2.2.length
 | [], _ => ⟨rfl, rfl, rfl⟩
 | r :: rs, t => by
  obtain ⟨a, b, c⟩ := zyh va satp pick t r
  obtain ⟨a', b', c'⟩ := zck va satp pick rs (zg6 va satp pick t r)
  exact ⟨a'.trans a, b'.trans b, c'.trans c⟩
theorem zjk (va satp pick : Int) (t : Tl) (rs : Rs) (r : Rc) : zap va satp pick t (rs ++ [r]) = zg6 va satp pick (zap va satp pick t rs) r := by simp [zap]
theorem zhh (va satp pick : Int) (t : Tl) (rs : Rs) : (t.1, t.2.1, (zap va satp pick t rs).2.2) = zap va satp pick t rs := by
 obtain ⟨a, b, -⟩ := zck va satp pick rs t
 rw [← a, ← b]
theorem zla {s w : Int} {m m' : Es} (h : m'.length = m.length) : zdm s w m' = zdm s w m := by unfold zdm; rw [h]
end Go.Proofs.YtfiddfbagbaofaaGreat.V
