/-
  No cell of these rows narrows 'for every input' (looked for: loops, veiled, ifaces, maps, wideKeys, modest, calm, conditions, laid).
  DERIVED. THE GIVEN ROWS OF THIS SEAT. 15 by the template 'for every input the law returns true; each argument reads behind the call as it read before'; 0 by the template 'total and deterministic' (their statements: YtpcjdcpfbpdcfaaTotals.lean).
  GIVEN WITH THE SEED: the statements are not yours to turn. If you find one false, say at which input.
  Laid BY PROGRAM, IN A SANDBOX (cutbox-rows.mjs): the forced cells as the released guide's own fill.sh prints them over the translation d4ba300f62078453… (all of the seat's roots in one cut). By AI agents, Wed Nov 11 2026. No macro, syntax, notation, axiom, sorry.
-/
import Derived.Test.YtpcjdcpfbpdcfaaChecked
import GoSem.Claim
import GoSem.ClaimJoined
import GoSem.ClaimMapViews
import Derived.JoinedTies
import Derived.KernelRfl
namespace Go.Proofs.Ytpcjdcpfbpdcfaa
/- THE CELL 'sum', in the pinned program and in every row, IS THE sha256 OF THE DUMP (.gsa) THAT YtpcjdcpfbpdcfaaProg.lean LOADS. Nothing in Lean hashes anything: it is a label: what it is worth is what the hold of that sum in a sandbox is worth. -/
noncomputable def Try.pinned : Pinned := { name := "ytpcjdcpfbpdcfaa", sum := "d4ba300f62078453f1cda6f70bb412c53196d7de73ee615ca9f7bf958b0b5f26", checked := Try.checked }
namespace Rows
def none {H : Type} : Left H := { results := [], args := [] }

/-- 'bargatelaw15.MeterMarks': WHATEVER THE INPUT: true; the input reads as it did. -/
def meterMarksSpec : ChangeSpec := { name := "meterMarks", fn := fun _ => fun
  | [d1, d2] => { results := [.lit (.bool true)], args := [d1, d2] }
  | _ => none }
def meterMarksRow : OpenClaim := { program := "ytpcjdcpfbpdcfaa", sum := "d4ba300f62078453f1cda6f70bb412c53196d7de73ee615ca9f7bf958b0b5f26", func := "bargate/bargatelaw15.MeterMarks", spec := "meterMarks", apart := false }
def MeterMarksSaid : Prop := meterMarksRow.holds Try.pinned (OpenSpec.ofChange meterMarksSpec)

/-- ITS FALSE NEIGHBOUR: 'it returns false'. Refute it at one input. -/
def meterMarksWrong : ChangeSpec := { name := "meterMarks", fn := fun _ => fun
  | [d1, d2] => { results := [.lit (.bool false)], args := [d1, d2] }
  | _ => none }
def MeterMarksWrongFalsely : Prop := meterMarksRow.holds Try.pinned (OpenSpec.ofChange meterMarksWrong)

/-- 'bargatelaw15.MeterBounds': WHATEVER THE INPUT: true; the input reads as it did. -/
def meterBoundsSpec : ChangeSpec := { name := "meterBounds", fn := fun _ => fun
  | [d1, d2] => { results := [.lit (.bool true)], args := [d1, d2] }
  | _ => none }
def meterBoundsRow : OpenClaim := { program := "ytpcjdcpfbpdcfaa", sum := "d4ba300f62078453f1cda6f70bb412c53196d7de73ee615ca9f7bf958b0b5f26", func := "bargate/bargatelaw15.MeterBounds", spec := "meterBounds", apart := false }
def MeterBoundsSaid : Prop := meterBoundsRow.holds Try.pinned (OpenSpec.ofChange meterBoundsSpec)

/-- ITS FALSE NEIGHBOUR: 'it returns false'. Refute it at one input. -/
def meterBoundsWrong : ChangeSpec := { name := "meterBounds", fn := fun _ => fun
  | [d1, d2] => { results := [.lit (.bool false)], args := [d1, d2] }
  | _ => none }
def MeterBoundsWrongFalsely : Prop := meterBoundsRow.holds Try.pinned (OpenSpec.ofChange meterBoundsWrong)

/-- 'bargatelaw15.MeterChecks': WHATEVER THE INPUT: true; the input reads as it did. -/
def meterChecksSpec : ChangeSpec := { name := "meterChecks", fn := fun _ => fun
  | [d] => { results := [.lit (.bool true)], args := [d] }
  | _ => none }
def meterChecksRow : OpenClaim := { program := "ytpcjdcpfbpdcfaa", sum := "d4ba300f62078453f1cda6f70bb412c53196d7de73ee615ca9f7bf958b0b5f26", func := "bargate/bargatelaw15.MeterChecks", spec := "meterChecks", apart := false }
def MeterChecksSaid : Prop := meterChecksRow.holds Try.pinned (OpenSpec.ofChange meterChecksSpec)

/-- ITS FALSE NEIGHBOUR: 'it returns false'. Refute it at one input. -/
def meterChecksWrong : ChangeSpec := { name := "meterChecks", fn := fun _ => fun
  | [d] => { results := [.lit (.bool false)], args := [d] }
  | _ => none }
def MeterChecksWrongFalsely : Prop := meterChecksRow.holds Try.pinned (OpenSpec.ofChange meterChecksWrong)

/-- 'bargatelaw15.MeterBack': WHATEVER THE INPUT: true; the input reads as it did. -/
def meterBackSpec : ChangeSpec := { name := "meterBack", fn := fun _ => fun
  | [d1, d2, d3] => { results := [.lit (.bool true)], args := [d1, d2, d3] }
  | _ => none }
def meterBackRow : OpenClaim := { program := "ytpcjdcpfbpdcfaa", sum := "d4ba300f62078453f1cda6f70bb412c53196d7de73ee615ca9f7bf958b0b5f26", func := "bargate/bargatelaw15.MeterBack", spec := "meterBack", apart := false }
def MeterBackSaid : Prop := meterBackRow.holds Try.pinned (OpenSpec.ofChange meterBackSpec)

/-- ITS FALSE NEIGHBOUR: 'it returns false'. Refute it at one input. -/
def meterBackWrong : ChangeSpec := { name := "meterBack", fn := fun _ => fun
  | [d1, d2, d3] => { results := [.lit (.bool false)], args := [d1, d2, d3] }
  | _ => none }
def MeterBackWrongFalsely : Prop := meterBackRow.holds Try.pinned (OpenSpec.ofChange meterBackWrong)

/-- 'bargatelaw15.MeterSteady': WHATEVER THE INPUT: true; the input reads as it did. -/
def meterSteadySpec : ChangeSpec := { name := "meterSteady", fn := fun _ => fun
  | [d1, d2, d3] => { results := [.lit (.bool true)], args := [d1, d2, d3] }
  | _ => none }
def meterSteadyRow : OpenClaim := { program := "ytpcjdcpfbpdcfaa", sum := "d4ba300f62078453f1cda6f70bb412c53196d7de73ee615ca9f7bf958b0b5f26", func := "bargate/bargatelaw15.MeterSteady", spec := "meterSteady", apart := false }
def MeterSteadySaid : Prop := meterSteadyRow.holds Try.pinned (OpenSpec.ofChange meterSteadySpec)

/-- ITS FALSE NEIGHBOUR: 'it returns false'. Refute it at one input. -/
def meterSteadyWrong : ChangeSpec := { name := "meterSteady", fn := fun _ => fun
  | [d1, d2, d3] => { results := [.lit (.bool false)], args := [d1, d2, d3] }
  | _ => none }
def MeterSteadyWrongFalsely : Prop := meterSteadyRow.holds Try.pinned (OpenSpec.ofChange meterSteadyWrong)

/-- 'bargatelaw14.StreamFinds': WHATEVER THE INPUT: true; the input reads as it did. -/
def streamFindsSpec : ChangeSpec := { name := "streamFinds", fn := fun _ => fun
  | [d1, d2, d3] => { results := [.lit (.bool true)], args := [d1, d2, d3] }
  | _ => none }
def streamFindsRow : OpenClaim := { program := "ytpcjdcpfbpdcfaa", sum := "d4ba300f62078453f1cda6f70bb412c53196d7de73ee615ca9f7bf958b0b5f26", func := "bargate/bargatelaw14.StreamFinds", spec := "streamFinds", unfollowed := true, recurses := true, apart := false }
def StreamFindsSaid : Prop := streamFindsRow.holds Try.pinned (OpenSpec.ofChange streamFindsSpec)

/-- ITS FALSE NEIGHBOUR: 'it returns false'. Refute it at one input. -/
def streamFindsWrong : ChangeSpec := { name := "streamFinds", fn := fun _ => fun
  | [d1, d2, d3] => { results := [.lit (.bool false)], args := [d1, d2, d3] }
  | _ => none }
def StreamFindsWrongFalsely : Prop := streamFindsRow.holds Try.pinned (OpenSpec.ofChange streamFindsWrong)

/-- 'bargatelaw14.StreamMany': WHATEVER THE INPUT: true; the input reads as it did. -/
def streamManySpec : ChangeSpec := { name := "streamMany", fn := fun _ => fun
  | [d] => { results := [.lit (.bool true)], args := [d] }
  | _ => none }
def streamManyRow : OpenClaim := { program := "ytpcjdcpfbpdcfaa", sum := "d4ba300f62078453f1cda6f70bb412c53196d7de73ee615ca9f7bf958b0b5f26", func := "bargate/bargatelaw14.StreamMany", spec := "streamMany", unfollowed := true, recurses := true, apart := false }
def StreamManySaid : Prop := streamManyRow.holds Try.pinned (OpenSpec.ofChange streamManySpec)

/-- ITS FALSE NEIGHBOUR: 'it returns false'. Refute it at one input. -/
def streamManyWrong : ChangeSpec := { name := "streamMany", fn := fun _ => fun
  | [d] => { results := [.lit (.bool false)], args := [d] }
  | _ => none }
def StreamManyWrongFalsely : Prop := streamManyRow.holds Try.pinned (OpenSpec.ofChange streamManyWrong)

/-- 'bargatelaw14.StreamVids': WHATEVER THE INPUT: true; the input reads as it did. -/
def streamVidsSpec : ChangeSpec := { name := "streamVids", fn := fun _ => fun
  | [d1, d2, d3] => { results := [.lit (.bool true)], args := [d1, d2, d3] }
  | _ => none }
def streamVidsRow : OpenClaim := { program := "ytpcjdcpfbpdcfaa", sum := "d4ba300f62078453f1cda6f70bb412c53196d7de73ee615ca9f7bf958b0b5f26", func := "bargate/bargatelaw14.StreamVids", spec := "streamVids", unfollowed := true, recurses := true, apart := false }
def StreamVidsSaid : Prop := streamVidsRow.holds Try.pinned (OpenSpec.ofChange streamVidsSpec)

/-- ITS FALSE NEIGHBOUR: 'it returns false'. Refute it at one input. -/
def streamVidsWrong : ChangeSpec := { name := "streamVids", fn := fun _ => fun
  | [d1, d2, d3] => { results := [.lit (.bool false)], args := [d1, d2, d3] }
  | _ => none }
def StreamVidsWrongFalsely : Prop := streamVidsRow.holds Try.pinned (OpenSpec.ofChange streamVidsWrong)

/-- 'bargatelaw16.GateStates': WHATEVER THE INPUT: true; the input reads as it did. -/
def gateStatesSpec : ChangeSpec := { name := "gateStates", fn := fun _ => fun
  | [d1, d2] => { results := [.lit (.bool true)], args := [d1, d2] }
  | _ => none }
def gateStatesRow : OpenClaim := { program := "ytpcjdcpfbpdcfaa", sum := "d4ba300f62078453f1cda6f70bb412c53196d7de73ee615ca9f7bf958b0b5f26", func := "bargate/bargatelaw16.GateStates", spec := "gateStates", unfollowed := true, recurses := true, apart := false }
def GateStatesSaid : Prop := gateStatesRow.holds Try.pinned (OpenSpec.ofChange gateStatesSpec)

/-- ITS FALSE NEIGHBOUR: 'it returns false'. Refute it at one input. -/
def gateStatesWrong : ChangeSpec := { name := "gateStates", fn := fun _ => fun
  | [d1, d2] => { results := [.lit (.bool false)], args := [d1, d2] }
  | _ => none }
def GateStatesWrongFalsely : Prop := gateStatesRow.holds Try.pinned (OpenSpec.ofChange gateStatesWrong)

/-- 'bargatelaw16.GateUntil': WHATEVER THE INPUT: true; the input reads as it did. -/
def gateUntilSpec : ChangeSpec := { name := "gateUntil", fn := fun _ => fun
  | [d1, d2, d3] => { results := [.lit (.bool true)], args := [d1, d2, d3] }
  | _ => none }
def gateUntilRow : OpenClaim := { program := "ytpcjdcpfbpdcfaa", sum := "d4ba300f62078453f1cda6f70bb412c53196d7de73ee615ca9f7bf958b0b5f26", func := "bargate/bargatelaw16.GateUntil", spec := "gateUntil", unfollowed := true, recurses := true, apart := false }
def GateUntilSaid : Prop := gateUntilRow.holds Try.pinned (OpenSpec.ofChange gateUntilSpec)

/-- ITS FALSE NEIGHBOUR: 'it returns false'. Refute it at one input. -/
def gateUntilWrong : ChangeSpec := { name := "gateUntil", fn := fun _ => fun
  | [d1, d2, d3] => { results := [.lit (.bool false)], args := [d1, d2, d3] }
  | _ => none }
def GateUntilWrongFalsely : Prop := gateUntilRow.holds Try.pinned (OpenSpec.ofChange gateUntilWrong)

/-- 'bargatelaw16.GateStarts': WHATEVER THE INPUT: true; the input reads as it did. -/
def gateStartsSpec : ChangeSpec := { name := "gateStarts", fn := fun _ => fun
  | [d1, d2] => { results := [.lit (.bool true)], args := [d1, d2] }
  | _ => none }
def gateStartsRow : OpenClaim := { program := "ytpcjdcpfbpdcfaa", sum := "d4ba300f62078453f1cda6f70bb412c53196d7de73ee615ca9f7bf958b0b5f26", func := "bargate/bargatelaw16.GateStarts", spec := "gateStarts", unfollowed := true, recurses := true, apart := false }
def GateStartsSaid : Prop := gateStartsRow.holds Try.pinned (OpenSpec.ofChange gateStartsSpec)

/-- ITS FALSE NEIGHBOUR: 'it returns false'. Refute it at one input. -/
def gateStartsWrong : ChangeSpec := { name := "gateStarts", fn := fun _ => fun
  | [d1, d2] => { results := [.lit (.bool false)], args := [d1, d2] }
  | _ => none }
def GateStartsWrongFalsely : Prop := gateStartsRow.holds Try.pinned (OpenSpec.ofChange gateStartsWrong)

/-- 'bargatelaw16.GateChecks': WHATEVER THE INPUT: true; the input reads as it did. -/
def gateChecksSpec : ChangeSpec := { name := "gateChecks", fn := fun _ => fun
  | [d] => { results := [.lit (.bool true)], args := [d] }
  | _ => none }
def gateChecksRow : OpenClaim := { program := "ytpcjdcpfbpdcfaa", sum := "d4ba300f62078453f1cda6f70bb412c53196d7de73ee615ca9f7bf958b0b5f26", func := "bargate/bargatelaw16.GateChecks", spec := "gateChecks", unfollowed := true, recurses := true, apart := false }
def GateChecksSaid : Prop := gateChecksRow.holds Try.pinned (OpenSpec.ofChange gateChecksSpec)

/-- ITS FALSE NEIGHBOUR: 'it returns false'. Refute it at one input. -/
def gateChecksWrong : ChangeSpec := { name := "gateChecks", fn := fun _ => fun
  | [d] => { results := [.lit (.bool false)], args := [d] }
  | _ => none }
def GateChecksWrongFalsely : Prop := gateChecksRow.holds Try.pinned (OpenSpec.ofChange gateChecksWrong)

/-- 'bargatelaw18.PoliceJudges': WHATEVER THE INPUT: true; the input reads as it did. -/
def policeJudgesSpec : ChangeSpec := { name := "policeJudges", fn := fun _ => fun
  | [d1, d2] => { results := [.lit (.bool true)], args := [d1, d2] }
  | _ => none }
def policeJudgesRow : OpenClaim := { program := "ytpcjdcpfbpdcfaa", sum := "d4ba300f62078453f1cda6f70bb412c53196d7de73ee615ca9f7bf958b0b5f26", func := "bargate/bargatelaw18.PoliceJudges", spec := "policeJudges", unfollowed := true, recurses := true, apart := false }
def PoliceJudgesSaid : Prop := policeJudgesRow.holds Try.pinned (OpenSpec.ofChange policeJudgesSpec)

/-- ITS FALSE NEIGHBOUR: 'it returns false'. Refute it at one input. -/
def policeJudgesWrong : ChangeSpec := { name := "policeJudges", fn := fun _ => fun
  | [d1, d2] => { results := [.lit (.bool false)], args := [d1, d2] }
  | _ => none }
def PoliceJudgesWrongFalsely : Prop := policeJudgesRow.holds Try.pinned (OpenSpec.ofChange policeJudgesWrong)

/-- 'bargatelaw18.PoliceFull': WHATEVER THE INPUT: true; the input reads as it did. -/
def policeFullSpec : ChangeSpec := { name := "policeFull", fn := fun _ => fun
  | [d] => { results := [.lit (.bool true)], args := [d] }
  | _ => none }
def policeFullRow : OpenClaim := { program := "ytpcjdcpfbpdcfaa", sum := "d4ba300f62078453f1cda6f70bb412c53196d7de73ee615ca9f7bf958b0b5f26", func := "bargate/bargatelaw18.PoliceFull", spec := "policeFull", unfollowed := true, recurses := true, apart := false }
def PoliceFullSaid : Prop := policeFullRow.holds Try.pinned (OpenSpec.ofChange policeFullSpec)

/-- ITS FALSE NEIGHBOUR: 'it returns false'. Refute it at one input. -/
def policeFullWrong : ChangeSpec := { name := "policeFull", fn := fun _ => fun
  | [d] => { results := [.lit (.bool false)], args := [d] }
  | _ => none }
def PoliceFullWrongFalsely : Prop := policeFullRow.holds Try.pinned (OpenSpec.ofChange policeFullWrong)

/-- 'bargatelaw18.PoliceOthers': WHATEVER THE INPUT: true; the input reads as it did. -/
def policeOthersSpec : ChangeSpec := { name := "policeOthers", fn := fun _ => fun
  | [d1, d2, d3] => { results := [.lit (.bool true)], args := [d1, d2, d3] }
  | _ => none }
def policeOthersRow : OpenClaim := { program := "ytpcjdcpfbpdcfaa", sum := "d4ba300f62078453f1cda6f70bb412c53196d7de73ee615ca9f7bf958b0b5f26", func := "bargate/bargatelaw18.PoliceOthers", spec := "policeOthers", unfollowed := true, recurses := true, apart := false }
def PoliceOthersSaid : Prop := policeOthersRow.holds Try.pinned (OpenSpec.ofChange policeOthersSpec)

/-- ITS FALSE NEIGHBOUR: 'it returns false'. Refute it at one input. -/
def policeOthersWrong : ChangeSpec := { name := "policeOthers", fn := fun _ => fun
  | [d1, d2, d3] => { results := [.lit (.bool false)], args := [d1, d2, d3] }
  | _ => none }
def PoliceOthersWrongFalsely : Prop := policeOthersRow.holds Try.pinned (OpenSpec.ofChange policeOthersWrong)

/- THE SECOND FORM. 'bulk': how many values and letters a reading holds, each counted each time it is reached (what is shared counts as often as it is met; a slice's spare places count too). A statement '..UptoSaid' is the law's where the arguments, and the package variables that the reading takes, are together of bulk at most 1048576: NARROWER than '..Said'. Prove '..Said' where nothing that the law and all that it calls make is longer than what came in: it says more and counts as full. Else prove '..UptoSaid'. A law counts once. -/
mutual
def uptoBulk {H : Type} : DataW H → Nat
  | .lit (.string bytes) => bytes.length + 1
  | .lit _ => 1
  | .nil => 1
  | .ptr d => uptoBulk d + 1
  | .slice elems spare => uptoBulkAll elems + uptoBulkAll spare + 1
  | .agg parts => uptoBulkAll parts + 1
  | .iface _ d => uptoBulk d + 1
  | .map entries => uptoBulkEntries entries + 1
  | .held _ => 1
def uptoBulkAll {H : Type} : List (DataW H) → Nat
  | [] => 0
  | d :: r => uptoBulk d + uptoBulkAll r
def uptoBulkEntries {H : Type} : List (Lit × DataW H) → Nat
  | [] => 0
  | x :: r => uptoBulkEntry x + uptoBulkEntries r
def uptoBulkEntry {H : Type} : Lit × DataW H → Nat
  | (.string bytes, d) => bytes.length + uptoBulk d + 1
  | (_, d) => uptoBulk d + 1
 end
def uptoSmall : (H : Type) → List (DataW H) → Bool := fun _ ds => decide (uptoBulkAll ds ≤ 1048576)
def OpenSpec.upto (s : _root_.Go.ChangeSpec) : _root_.Go.OpenSpec := { _root_.Go.OpenSpec.ofChange s with cond := some uptoSmall }

/-- 'bargatelaw15.MeterMarks', WHERE WHAT IT READS IS OF BULK AT MOST 1048576: true; the input reads as it did. -/
def meterMarksUptoRow : OpenClaim := { program := "ytpcjdcpfbpdcfaa", sum := "d4ba300f62078453f1cda6f70bb412c53196d7de73ee615ca9f7bf958b0b5f26", func := "bargate/bargatelaw15.MeterMarks", spec := "meterMarks", apart := false, narrowed := true }
def MeterMarksUptoSaid : Prop := meterMarksUptoRow.holds Try.pinned (OpenSpec.upto meterMarksSpec)

/-- 'bargatelaw15.MeterBounds', WHERE WHAT IT READS IS OF BULK AT MOST 1048576: true; the input reads as it did. -/
def meterBoundsUptoRow : OpenClaim := { program := "ytpcjdcpfbpdcfaa", sum := "d4ba300f62078453f1cda6f70bb412c53196d7de73ee615ca9f7bf958b0b5f26", func := "bargate/bargatelaw15.MeterBounds", spec := "meterBounds", apart := false, narrowed := true }
def MeterBoundsUptoSaid : Prop := meterBoundsUptoRow.holds Try.pinned (OpenSpec.upto meterBoundsSpec)

/-- 'bargatelaw15.MeterChecks', WHERE WHAT IT READS IS OF BULK AT MOST 1048576: true; the input reads as it did. -/
def meterChecksUptoRow : OpenClaim := { program := "ytpcjdcpfbpdcfaa", sum := "d4ba300f62078453f1cda6f70bb412c53196d7de73ee615ca9f7bf958b0b5f26", func := "bargate/bargatelaw15.MeterChecks", spec := "meterChecks", apart := false, narrowed := true }
def MeterChecksUptoSaid : Prop := meterChecksUptoRow.holds Try.pinned (OpenSpec.upto meterChecksSpec)

/-- 'bargatelaw15.MeterBack', WHERE WHAT IT READS IS OF BULK AT MOST 1048576: true; the input reads as it did. -/
def meterBackUptoRow : OpenClaim := { program := "ytpcjdcpfbpdcfaa", sum := "d4ba300f62078453f1cda6f70bb412c53196d7de73ee615ca9f7bf958b0b5f26", func := "bargate/bargatelaw15.MeterBack", spec := "meterBack", apart := false, narrowed := true }
def MeterBackUptoSaid : Prop := meterBackUptoRow.holds Try.pinned (OpenSpec.upto meterBackSpec)

/-- 'bargatelaw15.MeterSteady', WHERE WHAT IT READS IS OF BULK AT MOST 1048576: true; the input reads as it did. -/
def meterSteadyUptoRow : OpenClaim := { program := "ytpcjdcpfbpdcfaa", sum := "d4ba300f62078453f1cda6f70bb412c53196d7de73ee615ca9f7bf958b0b5f26", func := "bargate/bargatelaw15.MeterSteady", spec := "meterSteady", apart := false, narrowed := true }
def MeterSteadyUptoSaid : Prop := meterSteadyUptoRow.holds Try.pinned (OpenSpec.upto meterSteadySpec)

/-- 'bargatelaw14.StreamFinds', WHERE WHAT IT READS IS OF BULK AT MOST 1048576: true; the input reads as it did. -/
def streamFindsUptoRow : OpenClaim := { program := "ytpcjdcpfbpdcfaa", sum := "d4ba300f62078453f1cda6f70bb412c53196d7de73ee615ca9f7bf958b0b5f26", func := "bargate/bargatelaw14.StreamFinds", spec := "streamFinds", unfollowed := true, recurses := true, apart := false, narrowed := true }
def StreamFindsUptoSaid : Prop := streamFindsUptoRow.holds Try.pinned (OpenSpec.upto streamFindsSpec)

/-- 'bargatelaw14.StreamMany', WHERE WHAT IT READS IS OF BULK AT MOST 1048576: true; the input reads as it did. -/
def streamManyUptoRow : OpenClaim := { program := "ytpcjdcpfbpdcfaa", sum := "d4ba300f62078453f1cda6f70bb412c53196d7de73ee615ca9f7bf958b0b5f26", func := "bargate/bargatelaw14.StreamMany", spec := "streamMany", unfollowed := true, recurses := true, apart := false, narrowed := true }
def StreamManyUptoSaid : Prop := streamManyUptoRow.holds Try.pinned (OpenSpec.upto streamManySpec)

/-- 'bargatelaw14.StreamVids', WHERE WHAT IT READS IS OF BULK AT MOST 1048576: true; the input reads as it did. -/
def streamVidsUptoRow : OpenClaim := { program := "ytpcjdcpfbpdcfaa", sum := "d4ba300f62078453f1cda6f70bb412c53196d7de73ee615ca9f7bf958b0b5f26", func := "bargate/bargatelaw14.StreamVids", spec := "streamVids", unfollowed := true, recurses := true, apart := false, narrowed := true }
def StreamVidsUptoSaid : Prop := streamVidsUptoRow.holds Try.pinned (OpenSpec.upto streamVidsSpec)

/-- 'bargatelaw16.GateStates', WHERE WHAT IT READS IS OF BULK AT MOST 1048576: true; the input reads as it did. -/
def gateStatesUptoRow : OpenClaim := { program := "ytpcjdcpfbpdcfaa", sum := "d4ba300f62078453f1cda6f70bb412c53196d7de73ee615ca9f7bf958b0b5f26", func := "bargate/bargatelaw16.GateStates", spec := "gateStates", unfollowed := true, recurses := true, apart := false, narrowed := true }
def GateStatesUptoSaid : Prop := gateStatesUptoRow.holds Try.pinned (OpenSpec.upto gateStatesSpec)

/-- 'bargatelaw16.GateUntil', WHERE WHAT IT READS IS OF BULK AT MOST 1048576: true; the input reads as it did. -/
def gateUntilUptoRow : OpenClaim := { program := "ytpcjdcpfbpdcfaa", sum := "d4ba300f62078453f1cda6f70bb412c53196d7de73ee615ca9f7bf958b0b5f26", func := "bargate/bargatelaw16.GateUntil", spec := "gateUntil", unfollowed := true, recurses := true, apart := false, narrowed := true }
def GateUntilUptoSaid : Prop := gateUntilUptoRow.holds Try.pinned (OpenSpec.upto gateUntilSpec)

/-- 'bargatelaw16.GateStarts', WHERE WHAT IT READS IS OF BULK AT MOST 1048576: true; the input reads as it did. -/
def gateStartsUptoRow : OpenClaim := { program := "ytpcjdcpfbpdcfaa", sum := "d4ba300f62078453f1cda6f70bb412c53196d7de73ee615ca9f7bf958b0b5f26", func := "bargate/bargatelaw16.GateStarts", spec := "gateStarts", unfollowed := true, recurses := true, apart := false, narrowed := true }
def GateStartsUptoSaid : Prop := gateStartsUptoRow.holds Try.pinned (OpenSpec.upto gateStartsSpec)

/-- 'bargatelaw16.GateChecks', WHERE WHAT IT READS IS OF BULK AT MOST 1048576: true; the input reads as it did. -/
def gateChecksUptoRow : OpenClaim := { program := "ytpcjdcpfbpdcfaa", sum := "d4ba300f62078453f1cda6f70bb412c53196d7de73ee615ca9f7bf958b0b5f26", func := "bargate/bargatelaw16.GateChecks", spec := "gateChecks", unfollowed := true, recurses := true, apart := false, narrowed := true }
def GateChecksUptoSaid : Prop := gateChecksUptoRow.holds Try.pinned (OpenSpec.upto gateChecksSpec)

/-- 'bargatelaw18.PoliceJudges', WHERE WHAT IT READS IS OF BULK AT MOST 1048576: true; the input reads as it did. -/
def policeJudgesUptoRow : OpenClaim := { program := "ytpcjdcpfbpdcfaa", sum := "d4ba300f62078453f1cda6f70bb412c53196d7de73ee615ca9f7bf958b0b5f26", func := "bargate/bargatelaw18.PoliceJudges", spec := "policeJudges", unfollowed := true, recurses := true, apart := false, narrowed := true }
def PoliceJudgesUptoSaid : Prop := policeJudgesUptoRow.holds Try.pinned (OpenSpec.upto policeJudgesSpec)

/-- 'bargatelaw18.PoliceFull', WHERE WHAT IT READS IS OF BULK AT MOST 1048576: true; the input reads as it did. -/
def policeFullUptoRow : OpenClaim := { program := "ytpcjdcpfbpdcfaa", sum := "d4ba300f62078453f1cda6f70bb412c53196d7de73ee615ca9f7bf958b0b5f26", func := "bargate/bargatelaw18.PoliceFull", spec := "policeFull", unfollowed := true, recurses := true, apart := false, narrowed := true }
def PoliceFullUptoSaid : Prop := policeFullUptoRow.holds Try.pinned (OpenSpec.upto policeFullSpec)

/-- 'bargatelaw18.PoliceOthers', WHERE WHAT IT READS IS OF BULK AT MOST 1048576: true; the input reads as it did. -/
def policeOthersUptoRow : OpenClaim := { program := "ytpcjdcpfbpdcfaa", sum := "d4ba300f62078453f1cda6f70bb412c53196d7de73ee615ca9f7bf958b0b5f26", func := "bargate/bargatelaw18.PoliceOthers", spec := "policeOthers", unfollowed := true, recurses := true, apart := false, narrowed := true }
def PoliceOthersUptoSaid : Prop := policeOthersUptoRow.holds Try.pinned (OpenSpec.upto policeOthersSpec)

end Rows
end Go.Proofs.Ytpcjdcpfbpdcfaa
