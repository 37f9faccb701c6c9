/-
  No cell of these rows narrows 'for every input' (looked for: loops, veiled, ifaces, maps, wideKeys, modest, calm, conditions, laid).
  DERIVED. THE GIVEN ROWS OF THIS SEAT. 18 by the template 'for every input the law returns true; each argument reads behind the call as it read before'; 0 by the template 'total and deterministic' (their statements: YtfiddfbagbaofaaTotals.lean).
  GIVEN WITH THE SEED: the statements are not yours to turn. If you find one false, say at which input.
  Laid BY PROGRAM, IN A SANDBOX (cutbox-rows.mjs): the forced cells as the released guide's own fill.sh prints them over the translation 3d407dee19d4c884… (all of the seat's roots in one cut). By AI agents, Wed Nov 11 2026. No macro, syntax, notation, axiom, sorry.
-/
import Derived.Test.YtfiddfbagbaofaaChecked
import GoSem.Claim
import GoSem.ClaimJoined
import GoSem.ClaimMapViews
import Derived.JoinedTies
import Derived.KernelRfl
namespace Go.Proofs.Ytfiddfbagbaofaa
/- THE CELL 'sum', in the pinned program and in every row, IS THE sha256 OF THE DUMP (.gsa) THAT YtfiddfbagbaofaaProg.lean LOADS. Nothing in Lean hashes anything: it is a label: what it is worth is what the hold of that sum in a sandbox is worth. -/
noncomputable def Try.pinned : Pinned := { name := "ytfiddfbagbaofaa", sum := "3d407dee19d4c8846784fc3856c944148d6939b6d7ddc56803354b1c91d757d0", checked := Try.checked }
namespace Rows
def none {H : Type} : Left H := { results := [], args := [] }

/-- 'laws.FnExactConstants': WHATEVER THE INPUT: true; the input reads as it did. -/
def fnExactConstantsSpec : ChangeSpec := { name := "fnExactConstants", fn := fun _ => fun
  | [] => { results := [.lit (.bool true)], args := [] }
  | _ => none }
def fnExactConstantsRow : OpenClaim := { program := "ytfiddfbagbaofaa", sum := "3d407dee19d4c8846784fc3856c944148d6939b6d7ddc56803354b1c91d757d0", func := "loop.example/s0051/laws.FnExactConstants", spec := "fnExactConstants", plainKeys := false, apart := false }
def FnExactConstantsSaid : Prop := fnExactConstantsRow.holds Try.pinned (OpenSpec.ofChange fnExactConstantsSpec)

/-- ITS FALSE NEIGHBOUR: 'it returns false'. Refute it at one input. -/
def fnExactConstantsWrong : ChangeSpec := { name := "fnExactConstants", fn := fun _ => fun
  | [] => { results := [.lit (.bool false)], args := [] }
  | _ => none }
def FnExactConstantsWrongFalsely : Prop := fnExactConstantsRow.holds Try.pinned (OpenSpec.ofChange fnExactConstantsWrong)

/-- 'laws.FnExactCanonical': WHATEVER THE INPUT: true; the input reads as it did. -/
def fnExactCanonicalSpec : ChangeSpec := { name := "fnExactCanonical", fn := fun _ => fun
  | [d] => { results := [.lit (.bool true)], args := [d] }
  | _ => none }
def fnExactCanonicalRow : OpenClaim := { program := "ytfiddfbagbaofaa", sum := "3d407dee19d4c8846784fc3856c944148d6939b6d7ddc56803354b1c91d757d0", func := "loop.example/s0051/laws.FnExactCanonical", spec := "fnExactCanonical", recurses := true, plainKeys := false, apart := false }
def FnExactCanonicalSaid : Prop := fnExactCanonicalRow.holds Try.pinned (OpenSpec.ofChange fnExactCanonicalSpec)

/-- ITS FALSE NEIGHBOUR: 'it returns false'. Refute it at one input. -/
def fnExactCanonicalWrong : ChangeSpec := { name := "fnExactCanonical", fn := fun _ => fun
  | [d] => { results := [.lit (.bool false)], args := [d] }
  | _ => none }
def FnExactCanonicalWrongFalsely : Prop := fnExactCanonicalRow.holds Try.pinned (OpenSpec.ofChange fnExactCanonicalWrong)

/-- 'laws.FnExactPhysOf': WHATEVER THE INPUT: true; the input reads as it did. -/
def fnExactPhysOfSpec : ChangeSpec := { name := "fnExactPhysOf", fn := fun _ => fun
  | [d1, d2, d3] => { results := [.lit (.bool true)], args := [d1, d2, d3] }
  | _ => none }
def fnExactPhysOfRow : OpenClaim := { program := "ytfiddfbagbaofaa", sum := "3d407dee19d4c8846784fc3856c944148d6939b6d7ddc56803354b1c91d757d0", func := "loop.example/s0051/laws.FnExactPhysOf", spec := "fnExactPhysOf", recurses := true, plainKeys := false, apart := false }
def FnExactPhysOfSaid : Prop := fnExactPhysOfRow.holds Try.pinned (OpenSpec.ofChange fnExactPhysOfSpec)

/-- ITS FALSE NEIGHBOUR: 'it returns false'. Refute it at one input. -/
def fnExactPhysOfWrong : ChangeSpec := { name := "fnExactPhysOf", fn := fun _ => fun
  | [d1, d2, d3] => { results := [.lit (.bool false)], args := [d1, d2, d3] }
  | _ => none }
def FnExactPhysOfWrongFalsely : Prop := fnExactPhysOfRow.holds Try.pinned (OpenSpec.ofChange fnExactPhysOfWrong)

/-- 'laws.FnExactPteKind': WHATEVER THE INPUT: true; the input reads as it did. -/
def fnExactPteKindSpec : ChangeSpec := { name := "fnExactPteKind", fn := fun _ => fun
  | [d1, d2] => { results := [.lit (.bool true)], args := [d1, d2] }
  | _ => none }
def fnExactPteKindRow : OpenClaim := { program := "ytfiddfbagbaofaa", sum := "3d407dee19d4c8846784fc3856c944148d6939b6d7ddc56803354b1c91d757d0", func := "loop.example/s0051/laws.FnExactPteKind", spec := "fnExactPteKind", recurses := true, plainKeys := false, apart := false }
def FnExactPteKindSaid : Prop := fnExactPteKindRow.holds Try.pinned (OpenSpec.ofChange fnExactPteKindSpec)

/-- ITS FALSE NEIGHBOUR: 'it returns false'. Refute it at one input. -/
def fnExactPteKindWrong : ChangeSpec := { name := "fnExactPteKind", fn := fun _ => fun
  | [d1, d2] => { results := [.lit (.bool false)], args := [d1, d2] }
  | _ => none }
def FnExactPteKindWrongFalsely : Prop := fnExactPteKindRow.holds Try.pinned (OpenSpec.ofChange fnExactPteKindWrong)

/-- 'laws.FnExactGranted': WHATEVER THE INPUT: true; the input reads as it did. -/
def fnExactGrantedSpec : ChangeSpec := { name := "fnExactGranted", fn := fun _ => fun
  | [d1, d2, d3, d4, d5] => { results := [.lit (.bool true)], args := [d1, d2, d3, d4, d5] }
  | _ => none }
def fnExactGrantedRow : OpenClaim := { program := "ytfiddfbagbaofaa", sum := "3d407dee19d4c8846784fc3856c944148d6939b6d7ddc56803354b1c91d757d0", func := "loop.example/s0051/laws.FnExactGranted", spec := "fnExactGranted", recurses := true, plainKeys := false, apart := false }
def FnExactGrantedSaid : Prop := fnExactGrantedRow.holds Try.pinned (OpenSpec.ofChange fnExactGrantedSpec)

/-- ITS FALSE NEIGHBOUR: 'it returns false'. Refute it at one input. -/
def fnExactGrantedWrong : ChangeSpec := { name := "fnExactGranted", fn := fun _ => fun
  | [d1, d2, d3, d4, d5] => { results := [.lit (.bool false)], args := [d1, d2, d3, d4, d5] }
  | _ => none }
def FnExactGrantedWrongFalsely : Prop := fnExactGrantedRow.holds Try.pinned (OpenSpec.ofChange fnExactGrantedWrong)

/-- 'laws.FnExactReadMem': WHATEVER THE INPUT: true; the input reads as it did. -/
def fnExactReadMemSpec : ChangeSpec := { name := "fnExactReadMem", fn := fun _ => fun
  | [d1, d2, d3] => { results := [.lit (.bool true)], args := [d1, d2, d3] }
  | _ => none }
def fnExactReadMemRow : OpenClaim := { program := "ytfiddfbagbaofaa", sum := "3d407dee19d4c8846784fc3856c944148d6939b6d7ddc56803354b1c91d757d0", func := "loop.example/s0051/laws.FnExactReadMem", spec := "fnExactReadMem", recurses := true, plainKeys := false, apart := false }
def FnExactReadMemSaid : Prop := fnExactReadMemRow.holds Try.pinned (OpenSpec.ofChange fnExactReadMemSpec)

/-- ITS FALSE NEIGHBOUR: 'it returns false'. Refute it at one input. -/
def fnExactReadMemWrong : ChangeSpec := { name := "fnExactReadMem", fn := fun _ => fun
  | [d1, d2, d3] => { results := [.lit (.bool false)], args := [d1, d2, d3] }
  | _ => none }
def FnExactReadMemWrongFalsely : Prop := fnExactReadMemRow.holds Try.pinned (OpenSpec.ofChange fnExactReadMemWrong)

/-- 'laws.FnExactWriteMem': WHATEVER THE INPUT: true; the input reads as it did. -/
def fnExactWriteMemSpec : ChangeSpec := { name := "fnExactWriteMem", fn := fun _ => fun
  | [d1, d2, d3, d4] => { results := [.lit (.bool true)], args := [d1, d2, d3, d4] }
  | _ => none }
def fnExactWriteMemRow : OpenClaim := { program := "ytfiddfbagbaofaa", sum := "3d407dee19d4c8846784fc3856c944148d6939b6d7ddc56803354b1c91d757d0", func := "loop.example/s0051/laws.FnExactWriteMem", spec := "fnExactWriteMem", recurses := true, plainKeys := false, apart := false }
def FnExactWriteMemSaid : Prop := fnExactWriteMemRow.holds Try.pinned (OpenSpec.ofChange fnExactWriteMemSpec)

/-- ITS FALSE NEIGHBOUR: 'it returns false'. Refute it at one input. -/
def fnExactWriteMemWrong : ChangeSpec := { name := "fnExactWriteMem", fn := fun _ => fun
  | [d1, d2, d3, d4] => { results := [.lit (.bool false)], args := [d1, d2, d3, d4] }
  | _ => none }
def FnExactWriteMemWrongFalsely : Prop := fnExactWriteMemRow.holds Try.pinned (OpenSpec.ofChange fnExactWriteMemWrong)

/-- 'laws.FnMemory': WHATEVER THE INPUT: true; the input reads as it did. -/
def fnMemorySpec : ChangeSpec := { name := "fnMemory", fn := fun _ => fun
  | [d] => { results := [.lit (.bool true)], args := [d] }
  | _ => none }
def fnMemoryRow : OpenClaim := { program := "ytfiddfbagbaofaa", sum := "3d407dee19d4c8846784fc3856c944148d6939b6d7ddc56803354b1c91d757d0", func := "loop.example/s0051/laws.FnMemory", spec := "fnMemory", recurses := true, plainKeys := false, apart := false }
def FnMemorySaid : Prop := fnMemoryRow.holds Try.pinned (OpenSpec.ofChange fnMemorySpec)

/-- ITS FALSE NEIGHBOUR: 'it returns false'. Refute it at one input. -/
def fnMemoryWrong : ChangeSpec := { name := "fnMemory", fn := fun _ => fun
  | [d] => { results := [.lit (.bool false)], args := [d] }
  | _ => none }
def FnMemoryWrongFalsely : Prop := fnMemoryRow.holds Try.pinned (OpenSpec.ofChange fnMemoryWrong)

/-- 'laws.FnExactValidTlb': WHATEVER THE INPUT: true; the input reads as it did. -/
def fnExactValidTlbSpec : ChangeSpec := { name := "fnExactValidTlb", fn := fun _ => fun
  | [d1, d2] => { results := [.lit (.bool true)], args := [d1, d2] }
  | _ => none }
def fnExactValidTlbRow : OpenClaim := { program := "ytfiddfbagbaofaa", sum := "3d407dee19d4c8846784fc3856c944148d6939b6d7ddc56803354b1c91d757d0", func := "loop.example/s0051/laws.FnExactValidTlb", spec := "fnExactValidTlb", unfollowed := true, recurses := true, plainKeys := false, apart := false }
def FnExactValidTlbSaid : Prop := fnExactValidTlbRow.holds Try.pinned (OpenSpec.ofChange fnExactValidTlbSpec)

/-- ITS FALSE NEIGHBOUR: 'it returns false'. Refute it at one input. -/
def fnExactValidTlbWrong : ChangeSpec := { name := "fnExactValidTlb", fn := fun _ => fun
  | [d1, d2] => { results := [.lit (.bool false)], args := [d1, d2] }
  | _ => none }
def FnExactValidTlbWrongFalsely : Prop := fnExactValidTlbRow.holds Try.pinned (OpenSpec.ofChange fnExactValidTlbWrong)

/-- 'laws.FnExactLookup': WHATEVER THE INPUT: true; the input reads as it did. -/
def fnExactLookupSpec : ChangeSpec := { name := "fnExactLookup", fn := fun _ => fun
  | [d1, d2, d3] => { results := [.lit (.bool true)], args := [d1, d2, d3] }
  | _ => none }
def fnExactLookupRow : OpenClaim := { program := "ytfiddfbagbaofaa", sum := "3d407dee19d4c8846784fc3856c944148d6939b6d7ddc56803354b1c91d757d0", func := "loop.example/s0051/laws.FnExactLookup", spec := "fnExactLookup", unfollowed := true, recurses := true, plainKeys := false, apart := false }
def FnExactLookupSaid : Prop := fnExactLookupRow.holds Try.pinned (OpenSpec.ofChange fnExactLookupSpec)

/-- ITS FALSE NEIGHBOUR: 'it returns false'. Refute it at one input. -/
def fnExactLookupWrong : ChangeSpec := { name := "fnExactLookup", fn := fun _ => fun
  | [d1, d2, d3] => { results := [.lit (.bool false)], args := [d1, d2, d3] }
  | _ => none }
def FnExactLookupWrongFalsely : Prop := fnExactLookupRow.holds Try.pinned (OpenSpec.ofChange fnExactLookupWrong)

/-- 'laws.FnExactWalk': WHATEVER THE INPUT: true; the input reads as it did. -/
def fnExactWalkSpec : ChangeSpec := { name := "fnExactWalk", fn := fun _ => fun
  | [d1, d2, d3] => { results := [.lit (.bool true)], args := [d1, d2, d3] }
  | _ => none }
def fnExactWalkRow : OpenClaim := { program := "ytfiddfbagbaofaa", sum := "3d407dee19d4c8846784fc3856c944148d6939b6d7ddc56803354b1c91d757d0", func := "loop.example/s0051/laws.FnExactWalk", spec := "fnExactWalk", unfollowed := true, recurses := true, plainKeys := false, apart := false }
def FnExactWalkSaid : Prop := fnExactWalkRow.holds Try.pinned (OpenSpec.ofChange fnExactWalkSpec)

/-- ITS FALSE NEIGHBOUR: 'it returns false'. Refute it at one input. -/
def fnExactWalkWrong : ChangeSpec := { name := "fnExactWalk", fn := fun _ => fun
  | [d1, d2, d3] => { results := [.lit (.bool false)], args := [d1, d2, d3] }
  | _ => none }
def FnExactWalkWrongFalsely : Prop := fnExactWalkRow.holds Try.pinned (OpenSpec.ofChange fnExactWalkWrong)

/-- 'laws.FnExactInsert': WHATEVER THE INPUT: true; the input reads as it did. -/
def fnExactInsertSpec : ChangeSpec := { name := "fnExactInsert", fn := fun _ => fun
  | [d1, d2, d3] => { results := [.lit (.bool true)], args := [d1, d2, d3] }
  | _ => none }
def fnExactInsertRow : OpenClaim := { program := "ytfiddfbagbaofaa", sum := "3d407dee19d4c8846784fc3856c944148d6939b6d7ddc56803354b1c91d757d0", func := "loop.example/s0051/laws.FnExactInsert", spec := "fnExactInsert", unfollowed := true, recurses := true, plainKeys := false, apart := false }
def FnExactInsertSaid : Prop := fnExactInsertRow.holds Try.pinned (OpenSpec.ofChange fnExactInsertSpec)

/-- ITS FALSE NEIGHBOUR: 'it returns false'. Refute it at one input. -/
def fnExactInsertWrong : ChangeSpec := { name := "fnExactInsert", fn := fun _ => fun
  | [d1, d2, d3] => { results := [.lit (.bool false)], args := [d1, d2, d3] }
  | _ => none }
def FnExactInsertWrongFalsely : Prop := fnExactInsertRow.holds Try.pinned (OpenSpec.ofChange fnExactInsertWrong)

/-- 'laws.FnExactFlush': WHATEVER THE INPUT: true; the input reads as it did. -/
def fnExactFlushSpec : ChangeSpec := { name := "fnExactFlush", fn := fun _ => fun
  | [d1, d2] => { results := [.lit (.bool true)], args := [d1, d2] }
  | _ => none }
def fnExactFlushRow : OpenClaim := { program := "ytfiddfbagbaofaa", sum := "3d407dee19d4c8846784fc3856c944148d6939b6d7ddc56803354b1c91d757d0", func := "loop.example/s0051/laws.FnExactFlush", spec := "fnExactFlush", unfollowed := true, recurses := true, plainKeys := false, apart := false }
def FnExactFlushSaid : Prop := fnExactFlushRow.holds Try.pinned (OpenSpec.ofChange fnExactFlushSpec)

/-- ITS FALSE NEIGHBOUR: 'it returns false'. Refute it at one input. -/
def fnExactFlushWrong : ChangeSpec := { name := "fnExactFlush", fn := fun _ => fun
  | [d1, d2] => { results := [.lit (.bool false)], args := [d1, d2] }
  | _ => none }
def FnExactFlushWrongFalsely : Prop := fnExactFlushRow.holds Try.pinned (OpenSpec.ofChange fnExactFlushWrong)

/-- 'laws.FnExactPlainTranslate': WHATEVER THE INPUT: true; the input reads as it did. -/
def fnExactPlainTranslateSpec : ChangeSpec := { name := "fnExactPlainTranslate", fn := fun _ => fun
  | [d1, d2, d3, d4] => { results := [.lit (.bool true)], args := [d1, d2, d3, d4] }
  | _ => none }
def fnExactPlainTranslateRow : OpenClaim := { program := "ytfiddfbagbaofaa", sum := "3d407dee19d4c8846784fc3856c944148d6939b6d7ddc56803354b1c91d757d0", func := "loop.example/s0051/laws.FnExactPlainTranslate", spec := "fnExactPlainTranslate", unfollowed := true, recurses := true, plainKeys := false, apart := false }
def FnExactPlainTranslateSaid : Prop := fnExactPlainTranslateRow.holds Try.pinned (OpenSpec.ofChange fnExactPlainTranslateSpec)

/-- ITS FALSE NEIGHBOUR: 'it returns false'. Refute it at one input. -/
def fnExactPlainTranslateWrong : ChangeSpec := { name := "fnExactPlainTranslate", fn := fun _ => fun
  | [d1, d2, d3, d4] => { results := [.lit (.bool false)], args := [d1, d2, d3, d4] }
  | _ => none }
def FnExactPlainTranslateWrongFalsely : Prop := fnExactPlainTranslateRow.holds Try.pinned (OpenSpec.ofChange fnExactPlainTranslateWrong)

/-- 'laws.FnExactValidHart': WHATEVER THE INPUT: true; the input reads as it did. -/
def fnExactValidHartSpec : ChangeSpec := { name := "fnExactValidHart", fn := fun _ => fun
  | [d] => { results := [.lit (.bool true)], args := [d] }
  | _ => none }
def fnExactValidHartRow : OpenClaim := { program := "ytfiddfbagbaofaa", sum := "3d407dee19d4c8846784fc3856c944148d6939b6d7ddc56803354b1c91d757d0", func := "loop.example/s0051/laws.FnExactValidHart", spec := "fnExactValidHart", unfollowed := true, recurses := true, plainKeys := false, apart := false }
def FnExactValidHartSaid : Prop := fnExactValidHartRow.holds Try.pinned (OpenSpec.ofChange fnExactValidHartSpec)

/-- ITS FALSE NEIGHBOUR: 'it returns false'. Refute it at one input. -/
def fnExactValidHartWrong : ChangeSpec := { name := "fnExactValidHart", fn := fun _ => fun
  | [d] => { results := [.lit (.bool false)], args := [d] }
  | _ => none }
def FnExactValidHartWrongFalsely : Prop := fnExactValidHartRow.holds Try.pinned (OpenSpec.ofChange fnExactValidHartWrong)

/-- 'laws.FnExactDecodeScript': WHATEVER THE INPUT: true; the input reads as it did. -/
def fnExactDecodeScriptSpec : ChangeSpec := { name := "fnExactDecodeScript", fn := fun _ => fun
  | [d] => { results := [.lit (.bool true)], args := [d] }
  | _ => none }
def fnExactDecodeScriptRow : OpenClaim := { program := "ytfiddfbagbaofaa", sum := "3d407dee19d4c8846784fc3856c944148d6939b6d7ddc56803354b1c91d757d0", func := "loop.example/s0051/laws.FnExactDecodeScript", spec := "fnExactDecodeScript", recurses := true, plainKeys := false, apart := false }
def FnExactDecodeScriptSaid : Prop := fnExactDecodeScriptRow.holds Try.pinned (OpenSpec.ofChange fnExactDecodeScriptSpec)

/-- ITS FALSE NEIGHBOUR: 'it returns false'. Refute it at one input. -/
def fnExactDecodeScriptWrong : ChangeSpec := { name := "fnExactDecodeScript", fn := fun _ => fun
  | [d] => { results := [.lit (.bool false)], args := [d] }
  | _ => none }
def FnExactDecodeScriptWrongFalsely : Prop := fnExactDecodeScriptRow.holds Try.pinned (OpenSpec.ofChange fnExactDecodeScriptWrong)

/-- 'laws.FnSharp': WHATEVER THE INPUT: true; the input reads as it did. -/
def fnSharpSpec : ChangeSpec := { name := "fnSharp", fn := fun _ => fun
  | [d] => { results := [.lit (.bool true)], args := [d] }
  | _ => none }
def fnSharpRow : OpenClaim := { program := "ytfiddfbagbaofaa", sum := "3d407dee19d4c8846784fc3856c944148d6939b6d7ddc56803354b1c91d757d0", func := "loop.example/s0051/laws.FnSharp", spec := "fnSharp", unfollowed := true, recurses := true, plainKeys := false, apart := false }
def FnSharpSaid : Prop := fnSharpRow.holds Try.pinned (OpenSpec.ofChange fnSharpSpec)

/-- ITS FALSE NEIGHBOUR: 'it returns false'. Refute it at one input. -/
def fnSharpWrong : ChangeSpec := { name := "fnSharp", fn := fun _ => fun
  | [d] => { results := [.lit (.bool false)], args := [d] }
  | _ => none }
def FnSharpWrongFalsely : Prop := fnSharpRow.holds Try.pinned (OpenSpec.ofChange fnSharpWrong)

/-- 'laws.FnExactTlbTranslate': WHATEVER THE INPUT: true; the input reads as it did. -/
def fnExactTlbTranslateSpec : ChangeSpec := { name := "fnExactTlbTranslate", fn := fun _ => fun
  | [d1, d2, d3, d4, d5, d6] => { results := [.lit (.bool true)], args := [d1, d2, d3, d4, d5, d6] }
  | _ => none }
def fnExactTlbTranslateRow : OpenClaim := { program := "ytfiddfbagbaofaa", sum := "3d407dee19d4c8846784fc3856c944148d6939b6d7ddc56803354b1c91d757d0", func := "loop.example/s0051/laws.FnExactTlbTranslate", spec := "fnExactTlbTranslate", unfollowed := true, recurses := true, plainKeys := false, apart := false }
def FnExactTlbTranslateSaid : Prop := fnExactTlbTranslateRow.holds Try.pinned (OpenSpec.ofChange fnExactTlbTranslateSpec)

/-- ITS FALSE NEIGHBOUR: 'it returns false'. Refute it at one input. -/
def fnExactTlbTranslateWrong : ChangeSpec := { name := "fnExactTlbTranslate", fn := fun _ => fun
  | [d1, d2, d3, d4, d5, d6] => { results := [.lit (.bool false)], args := [d1, d2, d3, d4, d5, d6] }
  | _ => none }
def FnExactTlbTranslateWrongFalsely : Prop := fnExactTlbTranslateRow.holds Try.pinned (OpenSpec.ofChange fnExactTlbTranslateWrong)

/- THE SECOND FORM. 'bulk': how many values and letters a reading holds, each counted each time it is reached (what is shared counts as often as it is met; a slice's spare places count too). A statement '..UptoSaid' is the law's where the arguments, and the package variables that the reading takes, are together of bulk at most 1048576: NARROWER than '..Said'. Prove '..Said' where nothing that the law and all that it calls make is longer than what came in: it says more and counts as full. Else prove '..UptoSaid'. A law counts once. -/
mutual
def uptoBulk {H : Type} : DataW H → Nat
  | .lit (.string bytes) => bytes.length + 1
  | .lit _ => 1
  | .nil => 1
  | .ptr d => uptoBulk d + 1
  | .slice elems spare => uptoBulkAll elems + uptoBulkAll spare + 1
  | .agg parts => uptoBulkAll parts + 1
  | .iface _ d => uptoBulk d + 1
  | .map entries => uptoBulkEntries entries + 1
  | .held _ => 1
def uptoBulkAll {H : Type} : List (DataW H) → Nat
  | [] => 0
  | d :: r => uptoBulk d + uptoBulkAll r
def uptoBulkEntries {H : Type} : List (Lit × DataW H) → Nat
  | [] => 0
  | x :: r => uptoBulkEntry x + uptoBulkEntries r
def uptoBulkEntry {H : Type} : Lit × DataW H → Nat
  | (.string bytes, d) => bytes.length + uptoBulk d + 1
  | (_, d) => uptoBulk d + 1
 end
def uptoSmall : (H : Type) → List (DataW H) → Bool := fun _ ds => decide (uptoBulkAll ds ≤ 1048576)
def OpenSpec.upto (s : _root_.Go.ChangeSpec) : _root_.Go.OpenSpec := { _root_.Go.OpenSpec.ofChange s with cond := some uptoSmall }

/-- 'laws.FnExactConstants', WHERE WHAT IT READS IS OF BULK AT MOST 1048576: true; the input reads as it did. -/
def fnExactConstantsUptoRow : OpenClaim := { program := "ytfiddfbagbaofaa", sum := "3d407dee19d4c8846784fc3856c944148d6939b6d7ddc56803354b1c91d757d0", func := "loop.example/s0051/laws.FnExactConstants", spec := "fnExactConstants", plainKeys := false, apart := false, narrowed := true }
def FnExactConstantsUptoSaid : Prop := fnExactConstantsUptoRow.holds Try.pinned (OpenSpec.upto fnExactConstantsSpec)

/-- 'laws.FnExactCanonical', WHERE WHAT IT READS IS OF BULK AT MOST 1048576: true; the input reads as it did. -/
def fnExactCanonicalUptoRow : OpenClaim := { program := "ytfiddfbagbaofaa", sum := "3d407dee19d4c8846784fc3856c944148d6939b6d7ddc56803354b1c91d757d0", func := "loop.example/s0051/laws.FnExactCanonical", spec := "fnExactCanonical", recurses := true, plainKeys := false, apart := false, narrowed := true }
def FnExactCanonicalUptoSaid : Prop := fnExactCanonicalUptoRow.holds Try.pinned (OpenSpec.upto fnExactCanonicalSpec)

/-- 'laws.FnExactPhysOf', WHERE WHAT IT READS IS OF BULK AT MOST 1048576: true; the input reads as it did. -/
def fnExactPhysOfUptoRow : OpenClaim := { program := "ytfiddfbagbaofaa", sum := "3d407dee19d4c8846784fc3856c944148d6939b6d7ddc56803354b1c91d757d0", func := "loop.example/s0051/laws.FnExactPhysOf", spec := "fnExactPhysOf", recurses := true, plainKeys := false, apart := false, narrowed := true }
def FnExactPhysOfUptoSaid : Prop := fnExactPhysOfUptoRow.holds Try.pinned (OpenSpec.upto fnExactPhysOfSpec)

/-- 'laws.FnExactPteKind', WHERE WHAT IT READS IS OF BULK AT MOST 1048576: true; the input reads as it did. -/
def fnExactPteKindUptoRow : OpenClaim := { program := "ytfiddfbagbaofaa", sum := "3d407dee19d4c8846784fc3856c944148d6939b6d7ddc56803354b1c91d757d0", func := "loop.example/s0051/laws.FnExactPteKind", spec := "fnExactPteKind", recurses := true, plainKeys := false, apart := false, narrowed := true }
def FnExactPteKindUptoSaid : Prop := fnExactPteKindUptoRow.holds Try.pinned (OpenSpec.upto fnExactPteKindSpec)

/-- 'laws.FnExactGranted', WHERE WHAT IT READS IS OF BULK AT MOST 1048576: true; the input reads as it did. -/
def fnExactGrantedUptoRow : OpenClaim := { program := "ytfiddfbagbaofaa", sum := "3d407dee19d4c8846784fc3856c944148d6939b6d7ddc56803354b1c91d757d0", func := "loop.example/s0051/laws.FnExactGranted", spec := "fnExactGranted", recurses := true, plainKeys := false, apart := false, narrowed := true }
def FnExactGrantedUptoSaid : Prop := fnExactGrantedUptoRow.holds Try.pinned (OpenSpec.upto fnExactGrantedSpec)

/-- 'laws.FnExactReadMem', WHERE WHAT IT READS IS OF BULK AT MOST 1048576: true; the input reads as it did. -/
def fnExactReadMemUptoRow : OpenClaim := { program := "ytfiddfbagbaofaa", sum := "3d407dee19d4c8846784fc3856c944148d6939b6d7ddc56803354b1c91d757d0", func := "loop.example/s0051/laws.FnExactReadMem", spec := "fnExactReadMem", recurses := true, plainKeys := false, apart := false, narrowed := true }
def FnExactReadMemUptoSaid : Prop := fnExactReadMemUptoRow.holds Try.pinned (OpenSpec.upto fnExactReadMemSpec)

/-- 'laws.FnExactWriteMem', WHERE WHAT IT READS IS OF BULK AT MOST 1048576: true; the input reads as it did. -/
def fnExactWriteMemUptoRow : OpenClaim := { program := "ytfiddfbagbaofaa", sum := "3d407dee19d4c8846784fc3856c944148d6939b6d7ddc56803354b1c91d757d0", func := "loop.example/s0051/laws.FnExactWriteMem", spec := "fnExactWriteMem", recurses := true, plainKeys := false, apart := false, narrowed := true }
def FnExactWriteMemUptoSaid : Prop := fnExactWriteMemUptoRow.holds Try.pinned (OpenSpec.upto fnExactWriteMemSpec)

/-- 'laws.FnMemory', WHERE WHAT IT READS IS OF BULK AT MOST 1048576: true; the input reads as it did. -/
def fnMemoryUptoRow : OpenClaim := { program := "ytfiddfbagbaofaa", sum := "3d407dee19d4c8846784fc3856c944148d6939b6d7ddc56803354b1c91d757d0", func := "loop.example/s0051/laws.FnMemory", spec := "fnMemory", recurses := true, plainKeys := false, apart := false, narrowed := true }
def FnMemoryUptoSaid : Prop := fnMemoryUptoRow.holds Try.pinned (OpenSpec.upto fnMemorySpec)

/-- 'laws.FnExactValidTlb', WHERE WHAT IT READS IS OF BULK AT MOST 1048576: true; the input reads as it did. -/
def fnExactValidTlbUptoRow : OpenClaim := { program := "ytfiddfbagbaofaa", sum := "3d407dee19d4c8846784fc3856c944148d6939b6d7ddc56803354b1c91d757d0", func := "loop.example/s0051/laws.FnExactValidTlb", spec := "fnExactValidTlb", unfollowed := true, recurses := true, plainKeys := false, apart := false, narrowed := true }
def FnExactValidTlbUptoSaid : Prop := fnExactValidTlbUptoRow.holds Try.pinned (OpenSpec.upto fnExactValidTlbSpec)

/-- 'laws.FnExactLookup', WHERE WHAT IT READS IS OF BULK AT MOST 1048576: true; the input reads as it did. -/
def fnExactLookupUptoRow : OpenClaim := { program := "ytfiddfbagbaofaa", sum := "3d407dee19d4c8846784fc3856c944148d6939b6d7ddc56803354b1c91d757d0", func := "loop.example/s0051/laws.FnExactLookup", spec := "fnExactLookup", unfollowed := true, recurses := true, plainKeys := false, apart := false, narrowed := true }
def FnExactLookupUptoSaid : Prop := fnExactLookupUptoRow.holds Try.pinned (OpenSpec.upto fnExactLookupSpec)

/-- 'laws.FnExactWalk', WHERE WHAT IT READS IS OF BULK AT MOST 1048576: true; the input reads as it did. -/
def fnExactWalkUptoRow : OpenClaim := { program := "ytfiddfbagbaofaa", sum := "3d407dee19d4c8846784fc3856c944148d6939b6d7ddc56803354b1c91d757d0", func := "loop.example/s0051/laws.FnExactWalk", spec := "fnExactWalk", unfollowed := true, recurses := true, plainKeys := false, apart := false, narrowed := true }
def FnExactWalkUptoSaid : Prop := fnExactWalkUptoRow.holds Try.pinned (OpenSpec.upto fnExactWalkSpec)

/-- 'laws.FnExactInsert', WHERE WHAT IT READS IS OF BULK AT MOST 1048576: true; the input reads as it did. -/
def fnExactInsertUptoRow : OpenClaim := { program := "ytfiddfbagbaofaa", sum := "3d407dee19d4c8846784fc3856c944148d6939b6d7ddc56803354b1c91d757d0", func := "loop.example/s0051/laws.FnExactInsert", spec := "fnExactInsert", unfollowed := true, recurses := true, plainKeys := false, apart := false, narrowed := true }
def FnExactInsertUptoSaid : Prop := fnExactInsertUptoRow.holds Try.pinned (OpenSpec.upto fnExactInsertSpec)

/-- 'laws.FnExactFlush', WHERE WHAT IT READS IS OF BULK AT MOST 1048576: true; the input reads as it did. -/
def fnExactFlushUptoRow : OpenClaim := { program := "ytfiddfbagbaofaa", sum := "3d407dee19d4c8846784fc3856c944148d6939b6d7ddc56803354b1c91d757d0", func := "loop.example/s0051/laws.FnExactFlush", spec := "fnExactFlush", unfollowed := true, recurses := true, plainKeys := false, apart := false, narrowed := true }
def FnExactFlushUptoSaid : Prop := fnExactFlushUptoRow.holds Try.pinned (OpenSpec.upto fnExactFlushSpec)

/-- 'laws.FnExactPlainTranslate', WHERE WHAT IT READS IS OF BULK AT MOST 1048576: true; the input reads as it did. -/
def fnExactPlainTranslateUptoRow : OpenClaim := { program := "ytfiddfbagbaofaa", sum := "3d407dee19d4c8846784fc3856c944148d6939b6d7ddc56803354b1c91d757d0", func := "loop.example/s0051/laws.FnExactPlainTranslate", spec := "fnExactPlainTranslate", unfollowed := true, recurses := true, plainKeys := false, apart := false, narrowed := true }
def FnExactPlainTranslateUptoSaid : Prop := fnExactPlainTranslateUptoRow.holds Try.pinned (OpenSpec.upto fnExactPlainTranslateSpec)

/-- 'laws.FnExactValidHart', WHERE WHAT IT READS IS OF BULK AT MOST 1048576: true; the input reads as it did. -/
def fnExactValidHartUptoRow : OpenClaim := { program := "ytfiddfbagbaofaa", sum := "3d407dee19d4c8846784fc3856c944148d6939b6d7ddc56803354b1c91d757d0", func := "loop.example/s0051/laws.FnExactValidHart", spec := "fnExactValidHart", unfollowed := true, recurses := true, plainKeys := false, apart := false, narrowed := true }
def FnExactValidHartUptoSaid : Prop := fnExactValidHartUptoRow.holds Try.pinned (OpenSpec.upto fnExactValidHartSpec)

/-- 'laws.FnExactDecodeScript', WHERE WHAT IT READS IS OF BULK AT MOST 1048576: true; the input reads as it did. -/
def fnExactDecodeScriptUptoRow : OpenClaim := { program := "ytfiddfbagbaofaa", sum := "3d407dee19d4c8846784fc3856c944148d6939b6d7ddc56803354b1c91d757d0", func := "loop.example/s0051/laws.FnExactDecodeScript", spec := "fnExactDecodeScript", recurses := true, plainKeys := false, apart := false, narrowed := true }
def FnExactDecodeScriptUptoSaid : Prop := fnExactDecodeScriptUptoRow.holds Try.pinned (OpenSpec.upto fnExactDecodeScriptSpec)

/-- 'laws.FnSharp', WHERE WHAT IT READS IS OF BULK AT MOST 1048576: true; the input reads as it did. -/
def fnSharpUptoRow : OpenClaim := { program := "ytfiddfbagbaofaa", sum := "3d407dee19d4c8846784fc3856c944148d6939b6d7ddc56803354b1c91d757d0", func := "loop.example/s0051/laws.FnSharp", spec := "fnSharp", unfollowed := true, recurses := true, plainKeys := false, apart := false, narrowed := true }
def FnSharpUptoSaid : Prop := fnSharpUptoRow.holds Try.pinned (OpenSpec.upto fnSharpSpec)

/-- 'laws.FnExactTlbTranslate', WHERE WHAT IT READS IS OF BULK AT MOST 1048576: true; the input reads as it did. -/
def fnExactTlbTranslateUptoRow : OpenClaim := { program := "ytfiddfbagbaofaa", sum := "3d407dee19d4c8846784fc3856c944148d6939b6d7ddc56803354b1c91d757d0", func := "loop.example/s0051/laws.FnExactTlbTranslate", spec := "fnExactTlbTranslate", unfollowed := true, recurses := true, plainKeys := false, apart := false, narrowed := true }
def FnExactTlbTranslateUptoSaid : Prop := fnExactTlbTranslateUptoRow.holds Try.pinned (OpenSpec.upto fnExactTlbTranslateSpec)

end Rows
end Go.Proofs.Ytfiddfbagbaofaa
