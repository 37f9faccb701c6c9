/- The statement FnTotalSaid: whatever its arguments hold, the call returns true and they read as they did. Conditions: those of the statement alone. -/
import Derived.Test.YtfiddfbagbaofaaGreatRows
import Derived.Test.YtfiddfbagbaofaaGreatFacts
import Derived.Test.YtfiddfbagbaofaaGreatJC
import Derived.Test.YtfiddfbagbaofaaGreatV3
import Derived.WalkKit
import Derived.ProofKit
import Derived.OpenShut
import Derived.ShutString
import Derived.ChangeOld
import Derived.Below
import Derived.SizedLaws
import Derived.JoinedOf
import Derived.KernelRfl
namespace Go.Proofs.YtfiddfbagbaofaaGreat.fnTotal
open Go Go.ChangeShapes Go.WideShapes Go.ChangeAt Go.RowKit
open Go.ChangeMaps (open_string shut_string)
set_option linter.unusedVariables false
theorem an {a b : Bool} (ha : a = true) (hb : b = true) : (a && b) = true := by rw [ha, hb]; rfl
theorem c0 : (Rows.fnTotalRow.wf (OpenSpec.ofChange Rows.fnTotalSpec) : Bool) = true := by kernel_rfl
theorem c1 : (laidOutB Tryz.prog : Bool) = true := Facts.laid
theorem c2 : (mapsRowed Tryz.prog : Bool) = true := Facts.maps
theorem c3 : (Tryz.f4.params.all (Tryz.prog.readableRec ·) : Bool) = true := by kernel_rfl
theorem c4 : (namedTie Tryz.prog Rows.fnTotalRow.named Rows.fnTotalSpec.vars : Bool) = true := by kernel_rfl
theorem c5 : ((Rows.fnTotalRow.stops == []) : Bool) = true := by kernel_rfl
theorem c6 : ((Tryz.prog.stops == []) : Bool) = true := by kernel_rfl
theorem c7 : ((Rows.fnTotalRow.knobs == []) : Bool) = true := by kernel_rfl
theorem c8 : ((Tryz.prog.stopKnobs == []) : Bool) = true := by kernel_rfl
theorem c9 : ((Rows.fnTotalRow.inPlace == Tryz.prog.inPlace 4) : Bool) = true := by kernel_rfl
theorem c10 : ((Rows.fnTotalRow.unfollowed == Tryz.prog.unfollowed 4) : Bool) = true := by kernel_rfl
theorem c11 : ((Rows.fnTotalRow.recurses == Tryz.prog.recurses 4) : Bool) = true := by kernel_rfl
theorem c12 : ((Rows.fnTotalRow.named == Tryz.prog.varsNamed 4) : Bool) = true := by kernel_rfl
theorem c13 : ((Rows.fnTotalRow.maps == (Tryz.f4.params.toList ++ Rows.fnTotalSpec.plain.varTypes Tryz.prog).any (Tryz.prog.mapsRec ·)) : Bool) = true := by kernel_rfl
theorem c14 : ((Rows.fnTotalRow.ifaces == (Tryz.f4.params.toList ++ Rows.fnTotalSpec.plain.varTypes Tryz.prog).any (Tryz.prog.ifacesRec ·)) : Bool) = true := by kernel_rfl
theorem c15 : ((Rows.fnTotalRow.mapsOut == Tryz.prog.mapsAmong Tryz.f4.resultTypes.toList) : Bool) = true := by kernel_rfl
theorem c16 : ((Rows.fnTotalRow.loops == (Tryz.f4.params.toList ++ Rows.fnTotalSpec.plain.varTypes Tryz.prog).any (Tryz.prog.loopsFrom ·)) : Bool) = true := by kernel_rfl
theorem c17 : ((Rows.fnTotalRow.wideKeys == (Tryz.f4.params.toList ++ Rows.fnTotalSpec.plain.varTypes Tryz.prog ++ Tryz.f4.resultTypes.toList).any (Tryz.prog.wideKeysFrom ·)) : Bool) = true := by kernel_rfl
theorem c18 : (Rows.fnTotalSpec.vars.all (Tryz.prog.varReadable ·) : Bool) = true := by kernel_rfl
theorem c19 : (Tryz.f4.resultTypes.all (fun t => Tryz.prog.readableRec t && decide (t < Tryz.prog.types.size)) : Bool) = true := by kernel_rfl
theorem c20 : ((Rows.fnTotalRow.ifacesOut == Tryz.f4.resultTypes.toList.any (Tryz.prog.ifacesRec ·)) : Bool) = true := by kernel_rfl
theorem c21 : ((Rows.fnTotalRow.loopsOut == Tryz.f4.resultTypes.toList.any (Tryz.prog.loopsFrom ·)) : Bool) = true := by kernel_rfl
theorem c22 : ((Rows.fnTotalRow.plainKeys == Tryz.prog.plainKeys) : Bool) = true := by kernel_rfl
theorem c23 : (Rows.fnTotalRow.shortTexts.isNone : Bool) = true := by kernel_rfl
theorem c24 : (Tryz.prog.stopsHeard : Bool) = true := Facts.heard
theorem c25 : (Tryz.prog.mayEnter : Bool) = true := Facts.enter
theorem c26 : ((Rows.fnTotalRow.lifted == Tryz.prog.liftsFinal) : Bool) = true := by rw [Facts.final]; rfl
theorem c27 : ((Tryz.prog.make == some Rows.fnTotalRow.make) : Bool) = true := by rw [Facts.made]; kernel_rfl
theorem c29 : ((Rows.fnTotalRow.pinned == Rows.fnTotalRow.pinnedBy) : Bool) = true := by kernel_rfl
theorem c30 : ((Rows.fnTotalRow.veiled == (Tryz.f4.params.toList ++ Rows.fnTotalSpec.plain.varTypes Tryz.prog ++ Tryz.f4.resultTypes.toList).any (Tryz.prog.veiledRec ·)) : Bool) = true := by kernel_rfl
theorem c31 : (Rows.fnTotalRow.veiledFits Tryz.prog Tryz.f4.params.toList (Tryz.f4.params.toList ++ Rows.fnTotalSpec.plain.varTypes Tryz.prog ++ Tryz.f4.resultTypes.toList) : Bool) = true := by kernel_rfl
theorem closed : joinedFacts Tryz.prog 4 Tryz.f4 Rows.fnTotalSpec Rows.fnTotalRow = true := by
  unfold joinedFacts
  refine an ?_ ?x31
  refine an ?_ ?x30
  refine an ?_ ?x29
  refine an ?_ ?x28
  refine an ?_ ?x27
  refine an ?_ ?x26
  refine an ?_ ?x25
  refine an ?_ ?x24
  refine an ?_ ?x23
  refine an ?_ ?x22
  refine an ?_ ?x21
  refine an ?_ ?x20
  refine an ?_ ?x19
  refine an ?_ ?x18
  refine an ?_ ?x17
  refine an ?_ ?x16
  refine an ?_ ?x15
  refine an ?_ ?x14
  refine an ?_ ?x13
  refine an ?_ ?x12
  refine an ?_ ?x11
  refine an ?_ ?x10
  refine an ?_ ?x9
  refine an ?_ ?x8
  refine an ?_ ?x7
  refine an ?_ ?x6
  refine an ?_ ?x5
  refine an ?_ ?x4
  refine an ?_ ?x3
  refine an ?_ ?x2
  refine an ?_ ?x1
  exact c0
  case x1 => exact c1
  case x2 => exact c2
  case x3 => exact c3
  case x4 => exact c4
  case x5 => exact c5
  case x6 => exact c6
  case x7 => exact c7
  case x8 => exact c8
  case x9 => exact c9
  case x10 => exact c10
  case x11 => exact c11
  case x12 => exact c12
  case x13 => exact c13
  case x14 => exact c14
  case x15 => exact c15
  case x16 => exact c16
  case x17 => exact c17
  case x18 => exact c18
  case x19 => exact c19
  case x20 => exact c20
  case x21 => exact c21
  case x22 => exact c22
  case x23 => exact c23
  case x24 => exact c24
  case x25 => exact c25
  case x26 => exact c26
  case x27 => exact c27
  case x28 => as_aux_lemma => kernel_rfl
  case x29 => exact c29
  case x30 => exact c30
  case x31 => exact c31
theorem readable22 : Tryz.prog.readableRec 22 = true ∧ 22 < Tryz.prog.types.size := ⟨by kernel_rfl, of_decide_eq_true (by kernel_rfl)⟩
set_option maxRecDepth 100000 in
theorem lifted (os : Os) (started : os.Started) (H : Type) (enc : TypeId × Value → H) :
    ReturnsInHanded {} Tryz.checked os 4 .any (Rows.fnTotalSpec.pre6 enc Tryz.prog Tryz.f4 Rows.fnTotalRow.domain false) (Rows.fnTotalSpec.post enc Tryz.prog Tryz.f4 false true false false) := by
  refine returnsInHanded_of_change_sized (C := Tryz.checked) Facts.own started (by as_aux_lemma => kernel_rfl) Tryz.func4
    (ChangeSpec.witness6 (enc := enc) (C := Tryz.checked) false ⟨#[], #[.slice none 0 0], []⟩ 8 (by as_aux_lemma => kernel_rfl) (by as_aux_lemma => kernel_rfl) (by as_aux_lemma => kernel_rfl) (by as_aux_lemma => kernel_rfl)) ?_
  intro W base args ds gs before hval0 hW hcnd hsz0 _
  have hval : ∀ (j : Nat) t v, Tryz.f4.params[j]? = some t → args[j]? = some v → Value.okWide Tryz.prog W .any base t v := hval0
  have hW' := hW
  obtain ⟨p, q, hA0, hV, rfl, hfz, hnd⟩ := hW
  have hA : DataW.TrodAll enc Tryz.prog W 0 (fun _ => true) true Tryz.f4.params.toList args.toList ds p := hA0
  rw [Tryz.params4] at hA hval
  obtain ⟨rfl, rfl⟩ := trodVars_none hV
  have hA' : DataW.TrodAll enc Tryz.prog W 0 (fun _ => true) true [22] args.toList ds p := hA
  obtain ⟨v0, vs0, d0, ds0, p0, q0, hargs, rfl, rfl, h0, r0⟩ := trodAll_cons hA'
  obtain ⟨rfl, rfl, rfl⟩ := trodAll_nil r0
  clear hA0 hval0 hsz0
  refine (Go.Proofs.YtfiddfbagbaofaaGreat.V.law_calls (ts := [22]) (Go.Proofs.YtfiddfbagbaofaaGreat.V.lawTot_ok) (by as_aux_lemma => kernel_rfl) (fun j t v ht hv => hval j t v (by simpa using ht) hv) hA).mono fun e W' ⟨he, bel⟩ => ?_
  subst he
  exact ⟨_, rfl, _, _, _, [], _, [], hW', trodAll_mk1 (shut_bool Tryz.underlying4 _), Go.Proofs.YtfiddfbagbaofaaGreat.V.Below_trodAll (ts := [22]) Facts.laid bel (fun t ht => by simp only [List.mem_cons, List.not_mem_nil, or_false] at ht; rcases ht with rfl <;> first | exact readable22) hA, rfl, bel.frame _, fun h => by cases h⟩
theorem over : Rows.fnTotalRow.holds Tryz.pinned (OpenSpec.ofChange Rows.fnTotalSpec) :=
  OpenClaim.holds_of_wide 4 Tryz.f4 rfl rfl rfl rfl rfl rfl rfl ⟨rfl, rfl, rfl, rfl, rfl⟩ rfl rfl rfl rfl rfl (by as_aux_lemma => kernel_rfl) Tryz.func4 closed
    (of_decide_eq_true (by as_aux_lemma => kernel_rfl)) (by unfold Func.isWrapper; rw [if_neg (of_decide_eq_false (by as_aux_lemma => kernel_rfl))]; exact ⟨rfl, rfl⟩)
    (fun os started H enc _ => lifted os started H enc)
end Go.Proofs.YtfiddfbagbaofaaGreat.fnTotal
namespace Go.Proofs.YtfiddfbagbaofaaGreat
theorem fnTotal_holds : Rows.FnTotalSaid := fnTotal.over
end Go.Proofs.YtfiddfbagbaofaaGreat
