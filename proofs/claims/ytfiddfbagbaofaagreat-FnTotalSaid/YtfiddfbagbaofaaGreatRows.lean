/-
  No cell of these rows narrows 'for every input' (looked for: loops, veiled, ifaces, maps, wideKeys, modest, calm, conditions, laid).
  DERIVED. THE GIVEN ROWS OF THIS SEAT. 13 by the template 'for every input the law returns true; each argument reads behind the call as it read before'; 0 by the template 'total and deterministic' (their statements: YtfiddfbagbaofaaGreatTotals.lean).
  GIVEN WITH THE SEED: the statements are not yours to turn. If you find one false, say at which input.
  Laid BY PROGRAM, IN A SANDBOX (cutbox-rows.mjs): the forced cells as the released guide's own fill.sh prints them over the translation 2b0ffac7ad58cba3… (all of the seat's roots in one cut). By AI agents, Wed Nov 11 2026. No macro, syntax, notation, axiom, sorry.
-/
import Derived.Test.YtfiddfbagbaofaaGreatChecked
import GoSem.Claim
import GoSem.ClaimJoined
import GoSem.ClaimMapViews
import Derived.JoinedTies
import Derived.KernelRfl
namespace Go.Proofs.YtfiddfbagbaofaaGreat
/- THE CELL 'sum', in the pinned program and in every row, IS THE sha256 OF THE DUMP (.gsa) THAT YtfiddfbagbaofaaGreatProg.lean LOADS. Nothing in Lean hashes anything: it is a label: what it is worth is what the hold of that sum in a sandbox is worth. -/
noncomputable def Tryz.pinned : Pinned := { name := "ytfiddfbagbaofaagreat", sum := "2b0ffac7ad58cba315062ecfe2ecc734708b78991b2c2afafdc99909c7171632", checked := Tryz.checked }
namespace Rows
def none {H : Type} : Left H := { results := [], args := [] }

/-- 'laws.FnTop': WHATEVER THE INPUT: true; the input reads as it did. -/
def fnTopSpec : ChangeSpec := { name := "fnTop", fn := fun _ => fun
  | [d] => { results := [.lit (.bool true)], args := [d] }
  | _ => none }
def fnTopRow : OpenClaim := { program := "ytfiddfbagbaofaagreat", sum := "2b0ffac7ad58cba315062ecfe2ecc734708b78991b2c2afafdc99909c7171632", func := "loop.example/s0051/laws.FnTop", spec := "fnTop", unfollowed := true, recurses := true, plainKeys := false, apart := false }
def FnTopSaid : Prop := fnTopRow.holds Tryz.pinned (OpenSpec.ofChange fnTopSpec)

/-- ITS FALSE NEIGHBOUR: 'it returns false'. Refute it at one input. -/
def fnTopWrong : ChangeSpec := { name := "fnTop", fn := fun _ => fun
  | [d] => { results := [.lit (.bool false)], args := [d] }
  | _ => none }
def FnTopWrongFalsely : Prop := fnTopRow.holds Tryz.pinned (OpenSpec.ofChange fnTopWrong)

/-- 'laws.FnTotal': WHATEVER THE INPUT: true; the input reads as it did. -/
def fnTotalSpec : ChangeSpec := { name := "fnTotal", fn := fun _ => fun
  | [d] => { results := [.lit (.bool true)], args := [d] }
  | _ => none }
def fnTotalRow : OpenClaim := { program := "ytfiddfbagbaofaagreat", sum := "2b0ffac7ad58cba315062ecfe2ecc734708b78991b2c2afafdc99909c7171632", func := "loop.example/s0051/laws.FnTotal", spec := "fnTotal", unfollowed := true, recurses := true, plainKeys := false, apart := false }
def FnTotalSaid : Prop := fnTotalRow.holds Tryz.pinned (OpenSpec.ofChange fnTotalSpec)

/-- ITS FALSE NEIGHBOUR: 'it returns false'. Refute it at one input. -/
def fnTotalWrong : ChangeSpec := { name := "fnTotal", fn := fun _ => fun
  | [d] => { results := [.lit (.bool false)], args := [d] }
  | _ => none }
def FnTotalWrongFalsely : Prop := fnTotalRow.holds Tryz.pinned (OpenSpec.ofChange fnTotalWrong)

/-- 'laws.FnCacheLife': WHATEVER THE INPUT: true; the input reads as it did. -/
def fnCacheLifeSpec : ChangeSpec := { name := "fnCacheLife", fn := fun _ => fun
  | [d] => { results := [.lit (.bool true)], args := [d] }
  | _ => none }
def fnCacheLifeRow : OpenClaim := { program := "ytfiddfbagbaofaagreat", sum := "2b0ffac7ad58cba315062ecfe2ecc734708b78991b2c2afafdc99909c7171632", func := "loop.example/s0051/laws.FnCacheLife", spec := "fnCacheLife", unfollowed := true, recurses := true, plainKeys := false, apart := false }
def FnCacheLifeSaid : Prop := fnCacheLifeRow.holds Tryz.pinned (OpenSpec.ofChange fnCacheLifeSpec)

/-- ITS FALSE NEIGHBOUR: 'it returns false'. Refute it at one input. -/
def fnCacheLifeWrong : ChangeSpec := { name := "fnCacheLife", fn := fun _ => fun
  | [d] => { results := [.lit (.bool false)], args := [d] }
  | _ => none }
def FnCacheLifeWrongFalsely : Prop := fnCacheLifeRow.holds Tryz.pinned (OpenSpec.ofChange fnCacheLifeWrong)

/-- 'laws.FnExactDisciplined': WHATEVER THE INPUT: true; the input reads as it did. -/
def fnExactDisciplinedSpec : ChangeSpec := { name := "fnExactDisciplined", fn := fun _ => fun
  | [d] => { results := [.lit (.bool true)], args := [d] }
  | _ => none }
def fnExactDisciplinedRow : OpenClaim := { program := "ytfiddfbagbaofaagreat", sum := "2b0ffac7ad58cba315062ecfe2ecc734708b78991b2c2afafdc99909c7171632", func := "loop.example/s0051/laws.FnExactDisciplined", spec := "fnExactDisciplined", unfollowed := true, recurses := true, plainKeys := false, apart := false }
def FnExactDisciplinedSaid : Prop := fnExactDisciplinedRow.holds Tryz.pinned (OpenSpec.ofChange fnExactDisciplinedSpec)

/-- ITS FALSE NEIGHBOUR: 'it returns false'. Refute it at one input. -/
def fnExactDisciplinedWrong : ChangeSpec := { name := "fnExactDisciplined", fn := fun _ => fun
  | [d] => { results := [.lit (.bool false)], args := [d] }
  | _ => none }
def FnExactDisciplinedWrongFalsely : Prop := fnExactDisciplinedRow.holds Tryz.pinned (OpenSpec.ofChange fnExactDisciplinedWrong)

/-- 'laws.FnExactRunBytes': WHATEVER THE INPUT: true; the input reads as it did. -/
def fnExactRunBytesSpec : ChangeSpec := { name := "fnExactRunBytes", fn := fun _ => fun
  | [d1, d2] => { results := [.lit (.bool true)], args := [d1, d2] }
  | _ => none }
def fnExactRunBytesRow : OpenClaim := { program := "ytfiddfbagbaofaagreat", sum := "2b0ffac7ad58cba315062ecfe2ecc734708b78991b2c2afafdc99909c7171632", func := "loop.example/s0051/laws.FnExactRunBytes", spec := "fnExactRunBytes", unfollowed := true, recurses := true, plainKeys := false, apart := false }
def FnExactRunBytesSaid : Prop := fnExactRunBytesRow.holds Tryz.pinned (OpenSpec.ofChange fnExactRunBytesSpec)

/-- ITS FALSE NEIGHBOUR: 'it returns false'. Refute it at one input. -/
def fnExactRunBytesWrong : ChangeSpec := { name := "fnExactRunBytes", fn := fun _ => fun
  | [d1, d2] => { results := [.lit (.bool false)], args := [d1, d2] }
  | _ => none }
def FnExactRunBytesWrongFalsely : Prop := fnExactRunBytesRow.holds Tryz.pinned (OpenSpec.ofChange fnExactRunBytesWrong)

/-- 'laws.FnGrant': WHATEVER THE INPUT: true; the input reads as it did. -/
def fnGrantSpec : ChangeSpec := { name := "fnGrant", fn := fun _ => fun
  | [d] => { results := [.lit (.bool true)], args := [d] }
  | _ => none }
def fnGrantRow : OpenClaim := { program := "ytfiddfbagbaofaagreat", sum := "2b0ffac7ad58cba315062ecfe2ecc734708b78991b2c2afafdc99909c7171632", func := "loop.example/s0051/laws.FnGrant", spec := "fnGrant", unfollowed := true, recurses := true, plainKeys := false, apart := false }
def FnGrantSaid : Prop := fnGrantRow.holds Tryz.pinned (OpenSpec.ofChange fnGrantSpec)

/-- ITS FALSE NEIGHBOUR: 'it returns false'. Refute it at one input. -/
def fnGrantWrong : ChangeSpec := { name := "fnGrant", fn := fun _ => fun
  | [d] => { results := [.lit (.bool false)], args := [d] }
  | _ => none }
def FnGrantWrongFalsely : Prop := fnGrantRow.holds Tryz.pinned (OpenSpec.ofChange fnGrantWrong)

/-- 'laws.FnCold': WHATEVER THE INPUT: true; the input reads as it did. -/
def fnColdSpec : ChangeSpec := { name := "fnCold", fn := fun _ => fun
  | [d] => { results := [.lit (.bool true)], args := [d] }
  | _ => none }
def fnColdRow : OpenClaim := { program := "ytfiddfbagbaofaagreat", sum := "2b0ffac7ad58cba315062ecfe2ecc734708b78991b2c2afafdc99909c7171632", func := "loop.example/s0051/laws.FnCold", spec := "fnCold", unfollowed := true, recurses := true, plainKeys := false, apart := false }
def FnColdSaid : Prop := fnColdRow.holds Tryz.pinned (OpenSpec.ofChange fnColdSpec)

/-- ITS FALSE NEIGHBOUR: 'it returns false'. Refute it at one input. -/
def fnColdWrong : ChangeSpec := { name := "fnCold", fn := fun _ => fun
  | [d] => { results := [.lit (.bool false)], args := [d] }
  | _ => none }
def FnColdWrongFalsely : Prop := fnColdRow.holds Tryz.pinned (OpenSpec.ofChange fnColdWrong)

/-- 'laws.FnFence': WHATEVER THE INPUT: true; the input reads as it did. -/
def fnFenceSpec : ChangeSpec := { name := "fnFence", fn := fun _ => fun
  | [d1, d2] => { results := [.lit (.bool true)], args := [d1, d2] }
  | _ => none }
def fnFenceRow : OpenClaim := { program := "ytfiddfbagbaofaagreat", sum := "2b0ffac7ad58cba315062ecfe2ecc734708b78991b2c2afafdc99909c7171632", func := "loop.example/s0051/laws.FnFence", spec := "fnFence", unfollowed := true, recurses := true, plainKeys := false, apart := false }
def FnFenceSaid : Prop := fnFenceRow.holds Tryz.pinned (OpenSpec.ofChange fnFenceSpec)

/-- ITS FALSE NEIGHBOUR: 'it returns false'. Refute it at one input. -/
def fnFenceWrong : ChangeSpec := { name := "fnFence", fn := fun _ => fun
  | [d1, d2] => { results := [.lit (.bool false)], args := [d1, d2] }
  | _ => none }
def FnFenceWrongFalsely : Prop := fnFenceRow.holds Tryz.pinned (OpenSpec.ofChange fnFenceWrong)

/-- 'laws.FnExactStepHart': WHATEVER THE INPUT: true; the input reads as it did. -/
def fnExactStepHartSpec : ChangeSpec := { name := "fnExactStepHart", fn := fun _ => fun
  | [d1, d2, d3] => { results := [.lit (.bool true)], args := [d1, d2, d3] }
  | _ => none }
def fnExactStepHartRow : OpenClaim := { program := "ytfiddfbagbaofaagreat", sum := "2b0ffac7ad58cba315062ecfe2ecc734708b78991b2c2afafdc99909c7171632", func := "loop.example/s0051/laws.FnExactStepHart", spec := "fnExactStepHart", unfollowed := true, recurses := true, plainKeys := false, apart := false }
def FnExactStepHartSaid : Prop := fnExactStepHartRow.holds Tryz.pinned (OpenSpec.ofChange fnExactStepHartSpec)

/-- ITS FALSE NEIGHBOUR: 'it returns false'. Refute it at one input. -/
def fnExactStepHartWrong : ChangeSpec := { name := "fnExactStepHart", fn := fun _ => fun
  | [d1, d2, d3] => { results := [.lit (.bool false)], args := [d1, d2, d3] }
  | _ => none }
def FnExactStepHartWrongFalsely : Prop := fnExactStepHartRow.holds Tryz.pinned (OpenSpec.ofChange fnExactStepHartWrong)

/-- 'laws.FnStood': WHATEVER THE INPUT: true; the input reads as it did. -/
def fnStoodSpec : ChangeSpec := { name := "fnStood", fn := fun _ => fun
  | [d] => { results := [.lit (.bool true)], args := [d] }
  | _ => none }
def fnStoodRow : OpenClaim := { program := "ytfiddfbagbaofaagreat", sum := "2b0ffac7ad58cba315062ecfe2ecc734708b78991b2c2afafdc99909c7171632", func := "loop.example/s0051/laws.FnStood", spec := "fnStood", unfollowed := true, recurses := true, plainKeys := false, apart := false }
def FnStoodSaid : Prop := fnStoodRow.holds Tryz.pinned (OpenSpec.ofChange fnStoodSpec)

/-- ITS FALSE NEIGHBOUR: 'it returns false'. Refute it at one input. -/
def fnStoodWrong : ChangeSpec := { name := "fnStood", fn := fun _ => fun
  | [d] => { results := [.lit (.bool false)], args := [d] }
  | _ => none }
def FnStoodWrongFalsely : Prop := fnStoodRow.holds Tryz.pinned (OpenSpec.ofChange fnStoodWrong)

/-- 'laws.FnSteps': WHATEVER THE INPUT: true; the input reads as it did. -/
def fnStepsSpec : ChangeSpec := { name := "fnSteps", fn := fun _ => fun
  | [d] => { results := [.lit (.bool true)], args := [d] }
  | _ => none }
def fnStepsRow : OpenClaim := { program := "ytfiddfbagbaofaagreat", sum := "2b0ffac7ad58cba315062ecfe2ecc734708b78991b2c2afafdc99909c7171632", func := "loop.example/s0051/laws.FnSteps", spec := "fnSteps", unfollowed := true, recurses := true, plainKeys := false, apart := false }
def FnStepsSaid : Prop := fnStepsRow.holds Tryz.pinned (OpenSpec.ofChange fnStepsSpec)

/-- ITS FALSE NEIGHBOUR: 'it returns false'. Refute it at one input. -/
def fnStepsWrong : ChangeSpec := { name := "fnSteps", fn := fun _ => fun
  | [d] => { results := [.lit (.bool false)], args := [d] }
  | _ => none }
def FnStepsWrongFalsely : Prop := fnStepsRow.holds Tryz.pinned (OpenSpec.ofChange fnStepsWrong)

/-- 'laws.FnOff': WHATEVER THE INPUT: true; the input reads as it did. -/
def fnOffSpec : ChangeSpec := { name := "fnOff", fn := fun _ => fun
  | [d] => { results := [.lit (.bool true)], args := [d] }
  | _ => none }
def fnOffRow : OpenClaim := { program := "ytfiddfbagbaofaagreat", sum := "2b0ffac7ad58cba315062ecfe2ecc734708b78991b2c2afafdc99909c7171632", func := "loop.example/s0051/laws.FnOff", spec := "fnOff", unfollowed := true, recurses := true, plainKeys := false, apart := false }
def FnOffSaid : Prop := fnOffRow.holds Tryz.pinned (OpenSpec.ofChange fnOffSpec)

/-- ITS FALSE NEIGHBOUR: 'it returns false'. Refute it at one input. -/
def fnOffWrong : ChangeSpec := { name := "fnOff", fn := fun _ => fun
  | [d] => { results := [.lit (.bool false)], args := [d] }
  | _ => none }
def FnOffWrongFalsely : Prop := fnOffRow.holds Tryz.pinned (OpenSpec.ofChange fnOffWrong)

/-- 'laws.FnPicks': WHATEVER THE INPUT: true; the input reads as it did. -/
def fnPicksSpec : ChangeSpec := { name := "fnPicks", fn := fun _ => fun
  | [d1, d2] => { results := [.lit (.bool true)], args := [d1, d2] }
  | _ => none }
def fnPicksRow : OpenClaim := { program := "ytfiddfbagbaofaagreat", sum := "2b0ffac7ad58cba315062ecfe2ecc734708b78991b2c2afafdc99909c7171632", func := "loop.example/s0051/laws.FnPicks", spec := "fnPicks", unfollowed := true, recurses := true, plainKeys := false, apart := false }
def FnPicksSaid : Prop := fnPicksRow.holds Tryz.pinned (OpenSpec.ofChange fnPicksSpec)

/-- ITS FALSE NEIGHBOUR: 'it returns false'. Refute it at one input. -/
def fnPicksWrong : ChangeSpec := { name := "fnPicks", fn := fun _ => fun
  | [d1, d2] => { results := [.lit (.bool false)], args := [d1, d2] }
  | _ => none }
def FnPicksWrongFalsely : Prop := fnPicksRow.holds Tryz.pinned (OpenSpec.ofChange fnPicksWrong)

/- THE SECOND FORM. 'bulk': how many values and letters a reading holds, each counted each time it is reached (what is shared counts as often as it is met; a slice's spare places count too). A statement '..UptoSaid' is the law's where the arguments, and the package variables that the reading takes, are together of bulk at most 1048576: NARROWER than '..Said'. Prove '..Said' where nothing that the law and all that it calls make is longer than what came in: it says more and counts as full. Else prove '..UptoSaid'. A law counts once. -/
mutual
def uptoBulk {H : Type} : DataW H → Nat
  | .lit (.string bytes) => bytes.length + 1
  | .lit _ => 1
  | .nil => 1
  | .ptr d => uptoBulk d + 1
  | .slice elems spare => uptoBulkAll elems + uptoBulkAll spare + 1
  | .agg parts => uptoBulkAll parts + 1
  | .iface _ d => uptoBulk d + 1
  | .map entries => uptoBulkEntries entries + 1
  | .held _ => 1
def uptoBulkAll {H : Type} : List (DataW H) → Nat
  | [] => 0
  | d :: r => uptoBulk d + uptoBulkAll r
def uptoBulkEntries {H : Type} : List (Lit × DataW H) → Nat
  | [] => 0
  | x :: r => uptoBulkEntry x + uptoBulkEntries r
def uptoBulkEntry {H : Type} : Lit × DataW H → Nat
  | (.string bytes, d) => bytes.length + uptoBulk d + 1
  | (_, d) => uptoBulk d + 1
 end
def uptoSmall : (H : Type) → List (DataW H) → Bool := fun _ ds => decide (uptoBulkAll ds ≤ 1048576)
def OpenSpec.upto (s : _root_.Go.ChangeSpec) : _root_.Go.OpenSpec := { _root_.Go.OpenSpec.ofChange s with cond := some uptoSmall }

/-- 'laws.FnTop', WHERE WHAT IT READS IS OF BULK AT MOST 1048576: true; the input reads as it did. -/
def fnTopUptoRow : OpenClaim := { program := "ytfiddfbagbaofaagreat", sum := "2b0ffac7ad58cba315062ecfe2ecc734708b78991b2c2afafdc99909c7171632", func := "loop.example/s0051/laws.FnTop", spec := "fnTop", unfollowed := true, recurses := true, plainKeys := false, apart := false, narrowed := true }
def FnTopUptoSaid : Prop := fnTopUptoRow.holds Tryz.pinned (OpenSpec.upto fnTopSpec)

/-- 'laws.FnTotal', WHERE WHAT IT READS IS OF BULK AT MOST 1048576: true; the input reads as it did. -/
def fnTotalUptoRow : OpenClaim := { program := "ytfiddfbagbaofaagreat", sum := "2b0ffac7ad58cba315062ecfe2ecc734708b78991b2c2afafdc99909c7171632", func := "loop.example/s0051/laws.FnTotal", spec := "fnTotal", unfollowed := true, recurses := true, plainKeys := false, apart := false, narrowed := true }
def FnTotalUptoSaid : Prop := fnTotalUptoRow.holds Tryz.pinned (OpenSpec.upto fnTotalSpec)

/-- 'laws.FnCacheLife', WHERE WHAT IT READS IS OF BULK AT MOST 1048576: true; the input reads as it did. -/
def fnCacheLifeUptoRow : OpenClaim := { program := "ytfiddfbagbaofaagreat", sum := "2b0ffac7ad58cba315062ecfe2ecc734708b78991b2c2afafdc99909c7171632", func := "loop.example/s0051/laws.FnCacheLife", spec := "fnCacheLife", unfollowed := true, recurses := true, plainKeys := false, apart := false, narrowed := true }
def FnCacheLifeUptoSaid : Prop := fnCacheLifeUptoRow.holds Tryz.pinned (OpenSpec.upto fnCacheLifeSpec)

/-- 'laws.FnExactDisciplined', WHERE WHAT IT READS IS OF BULK AT MOST 1048576: true; the input reads as it did. -/
def fnExactDisciplinedUptoRow : OpenClaim := { program := "ytfiddfbagbaofaagreat", sum := "2b0ffac7ad58cba315062ecfe2ecc734708b78991b2c2afafdc99909c7171632", func := "loop.example/s0051/laws.FnExactDisciplined", spec := "fnExactDisciplined", unfollowed := true, recurses := true, plainKeys := false, apart := false, narrowed := true }
def FnExactDisciplinedUptoSaid : Prop := fnExactDisciplinedUptoRow.holds Tryz.pinned (OpenSpec.upto fnExactDisciplinedSpec)

/-- 'laws.FnExactRunBytes', WHERE WHAT IT READS IS OF BULK AT MOST 1048576: true; the input reads as it did. -/
def fnExactRunBytesUptoRow : OpenClaim := { program := "ytfiddfbagbaofaagreat", sum := "2b0ffac7ad58cba315062ecfe2ecc734708b78991b2c2afafdc99909c7171632", func := "loop.example/s0051/laws.FnExactRunBytes", spec := "fnExactRunBytes", unfollowed := true, recurses := true, plainKeys := false, apart := false, narrowed := true }
def FnExactRunBytesUptoSaid : Prop := fnExactRunBytesUptoRow.holds Tryz.pinned (OpenSpec.upto fnExactRunBytesSpec)

/-- 'laws.FnGrant', WHERE WHAT IT READS IS OF BULK AT MOST 1048576: true; the input reads as it did. -/
def fnGrantUptoRow : OpenClaim := { program := "ytfiddfbagbaofaagreat", sum := "2b0ffac7ad58cba315062ecfe2ecc734708b78991b2c2afafdc99909c7171632", func := "loop.example/s0051/laws.FnGrant", spec := "fnGrant", unfollowed := true, recurses := true, plainKeys := false, apart := false, narrowed := true }
def FnGrantUptoSaid : Prop := fnGrantUptoRow.holds Tryz.pinned (OpenSpec.upto fnGrantSpec)

/-- 'laws.FnCold', WHERE WHAT IT READS IS OF BULK AT MOST 1048576: true; the input reads as it did. -/
def fnColdUptoRow : OpenClaim := { program := "ytfiddfbagbaofaagreat", sum := "2b0ffac7ad58cba315062ecfe2ecc734708b78991b2c2afafdc99909c7171632", func := "loop.example/s0051/laws.FnCold", spec := "fnCold", unfollowed := true, recurses := true, plainKeys := false, apart := false, narrowed := true }
def FnColdUptoSaid : Prop := fnColdUptoRow.holds Tryz.pinned (OpenSpec.upto fnColdSpec)

/-- 'laws.FnFence', WHERE WHAT IT READS IS OF BULK AT MOST 1048576: true; the input reads as it did. -/
def fnFenceUptoRow : OpenClaim := { program := "ytfiddfbagbaofaagreat", sum := "2b0ffac7ad58cba315062ecfe2ecc734708b78991b2c2afafdc99909c7171632", func := "loop.example/s0051/laws.FnFence", spec := "fnFence", unfollowed := true, recurses := true, plainKeys := false, apart := false, narrowed := true }
def FnFenceUptoSaid : Prop := fnFenceUptoRow.holds Tryz.pinned (OpenSpec.upto fnFenceSpec)

/-- 'laws.FnExactStepHart', WHERE WHAT IT READS IS OF BULK AT MOST 1048576: true; the input reads as it did. -/
def fnExactStepHartUptoRow : OpenClaim := { program := "ytfiddfbagbaofaagreat", sum := "2b0ffac7ad58cba315062ecfe2ecc734708b78991b2c2afafdc99909c7171632", func := "loop.example/s0051/laws.FnExactStepHart", spec := "fnExactStepHart", unfollowed := true, recurses := true, plainKeys := false, apart := false, narrowed := true }
def FnExactStepHartUptoSaid : Prop := fnExactStepHartUptoRow.holds Tryz.pinned (OpenSpec.upto fnExactStepHartSpec)

/-- 'laws.FnStood', WHERE WHAT IT READS IS OF BULK AT MOST 1048576: true; the input reads as it did. -/
def fnStoodUptoRow : OpenClaim := { program := "ytfiddfbagbaofaagreat", sum := "2b0ffac7ad58cba315062ecfe2ecc734708b78991b2c2afafdc99909c7171632", func := "loop.example/s0051/laws.FnStood", spec := "fnStood", unfollowed := true, recurses := true, plainKeys := false, apart := false, narrowed := true }
def FnStoodUptoSaid : Prop := fnStoodUptoRow.holds Tryz.pinned (OpenSpec.upto fnStoodSpec)

/-- 'laws.FnSteps', WHERE WHAT IT READS IS OF BULK AT MOST 1048576: true; the input reads as it did. -/
def fnStepsUptoRow : OpenClaim := { program := "ytfiddfbagbaofaagreat", sum := "2b0ffac7ad58cba315062ecfe2ecc734708b78991b2c2afafdc99909c7171632", func := "loop.example/s0051/laws.FnSteps", spec := "fnSteps", unfollowed := true, recurses := true, plainKeys := false, apart := false, narrowed := true }
def FnStepsUptoSaid : Prop := fnStepsUptoRow.holds Tryz.pinned (OpenSpec.upto fnStepsSpec)

/-- 'laws.FnOff', WHERE WHAT IT READS IS OF BULK AT MOST 1048576: true; the input reads as it did. -/
def fnOffUptoRow : OpenClaim := { program := "ytfiddfbagbaofaagreat", sum := "2b0ffac7ad58cba315062ecfe2ecc734708b78991b2c2afafdc99909c7171632", func := "loop.example/s0051/laws.FnOff", spec := "fnOff", unfollowed := true, recurses := true, plainKeys := false, apart := false, narrowed := true }
def FnOffUptoSaid : Prop := fnOffUptoRow.holds Tryz.pinned (OpenSpec.upto fnOffSpec)

/-- 'laws.FnPicks', WHERE WHAT IT READS IS OF BULK AT MOST 1048576: true; the input reads as it did. -/
def fnPicksUptoRow : OpenClaim := { program := "ytfiddfbagbaofaagreat", sum := "2b0ffac7ad58cba315062ecfe2ecc734708b78991b2c2afafdc99909c7171632", func := "loop.example/s0051/laws.FnPicks", spec := "fnPicks", unfollowed := true, recurses := true, plainKeys := false, apart := false, narrowed := true }
def FnPicksUptoSaid : Prop := fnPicksUptoRow.holds Tryz.pinned (OpenSpec.upto fnPicksSpec)

end Rows
end Go.Proofs.YtfiddfbagbaofaaGreat
