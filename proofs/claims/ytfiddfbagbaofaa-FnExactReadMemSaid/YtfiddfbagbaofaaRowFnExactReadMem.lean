/- The statement FnExactReadMemSaid: whatever its arguments hold, the call returns true and they read as they did. Conditions: those of the statement alone. -/
import Derived.Test.YtfiddfbagbaofaaRows
import Derived.Test.YtfiddfbagbaofaaFacts
import Derived.Test.YtfiddfbagbaofaaRowKit
import Derived.Test.YtfiddfbagbaofaaPFnExactReadMemx2
import Derived.Test.YtfiddfbagbaofaaPureFnExactReadMem
import Derived.WalkKit
import Derived.ProofKit
import Derived.OpenShut
import Derived.ShutString
import Derived.ChangeOld
import Derived.Below
import Derived.SizedLaws
import Derived.JoinedOf
import Derived.KernelRfl
namespace Go.Proofs.Ytfiddfbagbaofaa.fnExactReadMem
open Go Go.ChangeShapes Go.WideShapes Go.ChangeAt Go.RowKit
open Go.ChangeMaps (open_string shut_string)
set_option linter.unusedVariables false
theorem an {a b : Bool} (ha : a = true) (hb : b = true) : (a && b) = true := by rw [ha, hb]; rfl
theorem c0 : (Rows.fnExactReadMemRow.wf (OpenSpec.ofChange Rows.fnExactReadMemSpec) : Bool) = true := by kernel_rfl
theorem c1 : (laidOutB Try.prog : Bool) = true := Facts.laid
theorem c2 : (mapsRowed Try.prog : Bool) = true := Facts.maps
theorem c3 : (Try.f8.params.all (Try.prog.readableRec ·) : Bool) = true := by kernel_rfl
theorem c4 : (namedTie Try.prog Rows.fnExactReadMemRow.named Rows.fnExactReadMemSpec.vars : Bool) = true := by kernel_rfl
theorem c5 : ((Rows.fnExactReadMemRow.stops == []) : Bool) = true := by kernel_rfl
theorem c6 : ((Try.prog.stops == []) : Bool) = true := by kernel_rfl
theorem c7 : ((Rows.fnExactReadMemRow.knobs == []) : Bool) = true := by kernel_rfl
theorem c8 : ((Try.prog.stopKnobs == []) : Bool) = true := by kernel_rfl
theorem c9 : ((Rows.fnExactReadMemRow.inPlace == Try.prog.inPlace 8) : Bool) = true := by kernel_rfl
theorem c10 : ((Rows.fnExactReadMemRow.unfollowed == Try.prog.unfollowed 8) : Bool) = true := by kernel_rfl
theorem c11 : ((Rows.fnExactReadMemRow.recurses == Try.prog.recurses 8) : Bool) = true := by kernel_rfl
theorem c12 : ((Rows.fnExactReadMemRow.named == Try.prog.varsNamed 8) : Bool) = true := by kernel_rfl
theorem c13 : ((Rows.fnExactReadMemRow.maps == (Try.f8.params.toList ++ Rows.fnExactReadMemSpec.plain.varTypes Try.prog).any (Try.prog.mapsRec ·)) : Bool) = true := by kernel_rfl
theorem c14 : ((Rows.fnExactReadMemRow.ifaces == (Try.f8.params.toList ++ Rows.fnExactReadMemSpec.plain.varTypes Try.prog).any (Try.prog.ifacesRec ·)) : Bool) = true := by kernel_rfl
theorem c15 : ((Rows.fnExactReadMemRow.mapsOut == Try.prog.mapsAmong Try.f8.resultTypes.toList) : Bool) = true := by kernel_rfl
theorem c16 : ((Rows.fnExactReadMemRow.loops == (Try.f8.params.toList ++ Rows.fnExactReadMemSpec.plain.varTypes Try.prog).any (Try.prog.loopsFrom ·)) : Bool) = true := by kernel_rfl
theorem c17 : ((Rows.fnExactReadMemRow.wideKeys == (Try.f8.params.toList ++ Rows.fnExactReadMemSpec.plain.varTypes Try.prog ++ Try.f8.resultTypes.toList).any (Try.prog.wideKeysFrom ·)) : Bool) = true := by kernel_rfl
theorem c18 : (Rows.fnExactReadMemSpec.vars.all (Try.prog.varReadable ·) : Bool) = true := by kernel_rfl
theorem c19 : (Try.f8.resultTypes.all (fun t => Try.prog.readableRec t && decide (t < Try.prog.types.size)) : Bool) = true := by kernel_rfl
theorem c20 : ((Rows.fnExactReadMemRow.ifacesOut == Try.f8.resultTypes.toList.any (Try.prog.ifacesRec ·)) : Bool) = true := by kernel_rfl
theorem c21 : ((Rows.fnExactReadMemRow.loopsOut == Try.f8.resultTypes.toList.any (Try.prog.loopsFrom ·)) : Bool) = true := by kernel_rfl
theorem c22 : ((Rows.fnExactReadMemRow.plainKeys == Try.prog.plainKeys) : Bool) = true := by kernel_rfl
theorem c23 : (Rows.fnExactReadMemRow.shortTexts.isNone : Bool) = true := by kernel_rfl
theorem c24 : (Try.prog.stopsHeard : Bool) = true := Facts.heard
theorem c25 : (Try.prog.mayEnter : Bool) = true := Facts.enter
theorem c26 : ((Rows.fnExactReadMemRow.lifted == Try.prog.liftsFinal) : Bool) = true := by rw [Facts.final]; rfl
theorem c27 : ((Try.prog.make == some Rows.fnExactReadMemRow.make) : Bool) = true := by rw [Facts.made]; kernel_rfl
theorem c29 : ((Rows.fnExactReadMemRow.pinned == Rows.fnExactReadMemRow.pinnedBy) : Bool) = true := by kernel_rfl
theorem c30 : ((Rows.fnExactReadMemRow.veiled == (Try.f8.params.toList ++ Rows.fnExactReadMemSpec.plain.varTypes Try.prog ++ Try.f8.resultTypes.toList).any (Try.prog.veiledRec ·)) : Bool) = true := by kernel_rfl
theorem c31 : (Rows.fnExactReadMemRow.veiledFits Try.prog Try.f8.params.toList (Try.f8.params.toList ++ Rows.fnExactReadMemSpec.plain.varTypes Try.prog ++ Try.f8.resultTypes.toList) : Bool) = true := by kernel_rfl
theorem closed : joinedFacts Try.prog 8 Try.f8 Rows.fnExactReadMemSpec Rows.fnExactReadMemRow = true := by
  unfold joinedFacts
  refine an ?_ ?x31
  refine an ?_ ?x30
  refine an ?_ ?x29
  refine an ?_ ?x28
  refine an ?_ ?x27
  refine an ?_ ?x26
  refine an ?_ ?x25
  refine an ?_ ?x24
  refine an ?_ ?x23
  refine an ?_ ?x22
  refine an ?_ ?x21
  refine an ?_ ?x20
  refine an ?_ ?x19
  refine an ?_ ?x18
  refine an ?_ ?x17
  refine an ?_ ?x16
  refine an ?_ ?x15
  refine an ?_ ?x14
  refine an ?_ ?x13
  refine an ?_ ?x12
  refine an ?_ ?x11
  refine an ?_ ?x10
  refine an ?_ ?x9
  refine an ?_ ?x8
  refine an ?_ ?x7
  refine an ?_ ?x6
  refine an ?_ ?x5
  refine an ?_ ?x4
  refine an ?_ ?x3
  refine an ?_ ?x2
  refine an ?_ ?x1
  exact c0
  case x1 => exact c1
  case x2 => exact c2
  case x3 => exact c3
  case x4 => exact c4
  case x5 => exact c5
  case x6 => exact c6
  case x7 => exact c7
  case x8 => exact c8
  case x9 => exact c9
  case x10 => exact c10
  case x11 => exact c11
  case x12 => exact c12
  case x13 => exact c13
  case x14 => exact c14
  case x15 => exact c15
  case x16 => exact c16
  case x17 => exact c17
  case x18 => exact c18
  case x19 => exact c19
  case x20 => exact c20
  case x21 => exact c21
  case x22 => exact c22
  case x23 => exact c23
  case x24 => exact c24
  case x25 => exact c25
  case x26 => exact c26
  case x27 => exact c27
  case x28 => as_aux_lemma => kernel_rfl
  case x29 => exact c29
  case x30 => exact c30
  case x31 => exact c31
def IsRow (k : IntKind) (w : World) (a : Option Addr) (len cap : Nat) (zs : List Int) : Prop :=
  (a = none ∧ len = 0 ∧ cap = 0 ∧ zs = []) ∨
  ∃ x, a = some x ∧ len ≤ cap ∧ cap ≤ maxLen ∧ zs.length = cap ∧ (∀ i, i < zs.length → w.cell? (x.add i) = some (.int k (zs.getD i 0))) ∧ ∀ n ∈ zs, (Lit.int k n).wf = true
set_option maxRecDepth 100000 in
theorem lifted (os : Os) (started : os.Started) (H : Type) (enc : TypeId × Value → H) :
    ReturnsInHanded {} Try.checked os 8 .any (Rows.fnExactReadMemSpec.pre6 enc Try.prog Try.f8 Rows.fnExactReadMemRow.domain false) (Rows.fnExactReadMemSpec.post enc Try.prog Try.f8 false true false false) := by
  refine returnsInHanded_of_change_sized (C := Try.checked) Facts.own started (by as_aux_lemma => kernel_rfl) Try.func8
    (ChangeSpec.witness6 (enc := enc) (C := Try.checked) false ⟨#[], #[.slice none 0 0, .int .u64 0, .int .i64 0], []⟩ 8 (by as_aux_lemma => kernel_rfl) (by as_aux_lemma => kernel_rfl) (by as_aux_lemma => kernel_rfl) (by as_aux_lemma => kernel_rfl)) ?_
  intro W base args ds gs before hval0 hW hcnd hsz0 _
  have hsz : (DataW.weightsEach Try.prog (Try.f8.params.toList ++ Rows.fnExactReadMemSpec.plain.varTypes Try.prog) (ds ++ gs)).all (· ≤ reachBytes) = true := hsz0
  have hval : ∀ (j : Nat) t v, Try.f8.params[j]? = some t → args[j]? = some v → Value.okWide Try.prog W .any base t v := hval0
  have hW' := hW
  obtain ⟨p, q, hA0, hV, rfl, hfz, hnd⟩ := hW
  have hA : DataW.TrodAll enc Try.prog W 0 (fun _ => true) true Try.f8.params.toList args.toList ds p := hA0
  rw [Try.params8] at hA hval hsz
  obtain ⟨v0, vs0, d0, ds0, p0, q0, hargs, rfl, rfl, h0, r0⟩ := trodAll_cons hA
  obtain ⟨v1, vs1, d1, ds1, p1, q1, rfl, rfl, rfl, h1, r1⟩ := trodAll_cons r0
  obtain ⟨v2, vs2, d2, ds2, p2, q2, rfl, rfl, rfl, h2, r2⟩ := trodAll_cons r1
  obtain ⟨rfl, rfl, rfl⟩ := trodAll_nil r2
  obtain rfl : args = #[v0, v1, v2] := by cases args; simp_all
  obtain ⟨rfl, rfl⟩ := trodVars_none hV
  obtain ⟨a0, len0, cap0, rfl⟩ := okWide_slice Try.underlying30 (hval 0 30 v0 rfl rfl)
  have k0 := h0
  have lt0 : ∀ x ∈ p0, x.block < W.heap.size := by obtain ⟨m, hm⟩ := k0; exact DataW.trod_lt m _ _ _ hm
  obtain ⟨z0, w0⟩ : ∃ zs, IsRow .u8 W a0 len0 cap0 zs := by
    obtain ⟨fuel, hf⟩ := h0
    rcases open_ints Try.underlying30 Try.underlying5 (by as_aux_lemma => kernel_rfl) hf with ⟨hcs, _⟩ | ⟨x, l, c, zs, hcs, _, hl, hm, hz, _, hcell, hwz⟩
    · simp [Value.cells] at hcs
      obtain ⟨rfl, rfl, rfl⟩ := hcs
      exact ⟨[], .inl ⟨rfl, rfl, rfl, rfl⟩⟩
    · simp [Value.cells] at hcs
      obtain ⟨rfl, rfl, rfl⟩ := hcs
      exact ⟨zs, .inr ⟨_, rfl, hl, hm, by simpa using hz, hcell, hwz⟩⟩
  have y0 : len0 * 1 ≤ 140737488351232 := sizedInts hsz (j := 0) (t := 30) rfl rfl Try.underlying30 Try.underlying5 (by as_aux_lemma => kernel_rfl) (by as_aux_lemma => kernel_rfl) h0
  obtain ⟨a1, rfl, rfl, rfl, w1⟩ := open_int Try.underlying23 (hval 1 23 v1 rfl rfl) h1
  obtain ⟨a2, rfl, rfl, rfl, w2⟩ := open_int Try.underlying2 (hval 2 2 v2 rfl rfl) h2
  clear hA0 hval0 hsz0 hsz
  refine (PFnExactReadMem.laws_FnExactReadMem.walk Pure.FnExactReadMem a0 len0 cap0 z0 a1 a2 W w0 y0 w1 w2).mono fun e W' ⟨he, bel⟩ => ?_
  subst he
  exact ⟨_, rfl, _, _, _, [], _, [], hW', trodAll_mk1 (shut_bool Try.underlying4 _), (trodAll_cons_mk (Below.trod Facts.laid (by as_aux_lemma => kernel_rfl) (of_decide_eq_true (by as_aux_lemma => kernel_rfl)) k0 bel lt0) (trodAll_cons_mk (shut_int Try.underlying23 w1) (trodAll_cons_mk (shut_int Try.underlying2 w2) trodAll_mk0))), rfl, bel.frame _, fun h => by cases h⟩
theorem over : Rows.fnExactReadMemRow.holds Try.pinned (OpenSpec.ofChange Rows.fnExactReadMemSpec) :=
  OpenClaim.holds_of_wide 8 Try.f8 rfl rfl rfl rfl rfl rfl rfl ⟨rfl, rfl, rfl, rfl, rfl⟩ rfl rfl rfl rfl rfl (by as_aux_lemma => kernel_rfl) Try.func8 closed
    (of_decide_eq_true (by as_aux_lemma => kernel_rfl)) (by unfold Func.isWrapper; rw [if_neg (of_decide_eq_false (by as_aux_lemma => kernel_rfl))]; exact ⟨rfl, rfl⟩)
    (fun os started H enc _ => lifted os started H enc)
end Go.Proofs.Ytfiddfbagbaofaa.fnExactReadMem
namespace Go.Proofs.Ytfiddfbagbaofaa
theorem fnExactReadMem_holds : Rows.FnExactReadMemSaid := fnExactReadMem.over
end Go.Proofs.Ytfiddfbagbaofaa
