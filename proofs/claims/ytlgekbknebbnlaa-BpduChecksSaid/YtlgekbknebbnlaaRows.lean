/-
  No cell of these rows narrows 'for every input' (looked for: loops, veiled, ifaces, maps, wideKeys, modest, calm, conditions, laid).
  DERIVED. THE GIVEN ROWS OF THIS SEAT. 24 by the template 'for every input the law returns true; each argument reads behind the call as it read before'; 0 by the template 'total and deterministic' (their statements: YtlgekbknebbnlaaTotals.lean).
  GIVEN WITH THE SEED: the statements are not yours to turn. If you find one false, say at which input.
  Laid BY PROGRAM, IN A SANDBOX (cutbox-rows.mjs): the forced cells as the released guide's own fill.sh prints them over the translation 01741956a766a18b… (all of the seat's roots in one cut). By AI agents, Wed Nov 11 2026. No macro, syntax, notation, axiom, sorry.
-/
import Derived.Test.YtlgekbknebbnlaaChecked
import GoSem.Claim
import GoSem.ClaimJoined
import GoSem.ClaimMapViews
import Derived.JoinedTies
import Derived.KernelRfl
namespace Go.Proofs.Ytlgekbknebbnlaa
/- THE CELL 'sum', in the pinned program and in every row, IS THE sha256 OF THE DUMP (.gsa) THAT YtlgekbknebbnlaaProg.lean LOADS. Nothing in Lean hashes anything: it is a label: what it is worth is what the hold of that sum in a sandbox is worth. -/
noncomputable def Try.pinned : Pinned := { name := "ytlgekbknebbnlaa", sum := "01741956a766a18bd003cff2fb4385a1a5bba18d0d8a8f9f9bbe31453722ab5c", checked := Try.checked }
namespace Rows
def none {H : Type} : Left H := { results := [], args := [] }

/-- 'bargatelaw02.CrcSeals': WHATEVER THE INPUT: true; the input reads as it did. -/
def crcSealsSpec : ChangeSpec := { name := "crcSeals", fn := fun _ => fun
  | [d1, d2, d3] => { results := [.lit (.bool true)], args := [d1, d2, d3] }
  | _ => none }
def crcSealsRow : OpenClaim := { program := "ytlgekbknebbnlaa", sum := "01741956a766a18bd003cff2fb4385a1a5bba18d0d8a8f9f9bbe31453722ab5c", func := "bargate/bargatelaw02.CrcSeals", spec := "crcSeals", apart := false }
def CrcSealsSaid : Prop := crcSealsRow.holds Try.pinned (OpenSpec.ofChange crcSealsSpec)

/-- ITS FALSE NEIGHBOUR: 'it returns false'. Refute it at one input. -/
def crcSealsWrong : ChangeSpec := { name := "crcSeals", fn := fun _ => fun
  | [d1, d2, d3] => { results := [.lit (.bool false)], args := [d1, d2, d3] }
  | _ => none }
def CrcSealsWrongFalsely : Prop := crcSealsRow.holds Try.pinned (OpenSpec.ofChange crcSealsWrong)

/-- 'bargatelaw02.CrcAdds': WHATEVER THE INPUT: true; the input reads as it did. -/
def crcAddsSpec : ChangeSpec := { name := "crcAdds", fn := fun _ => fun
  | [d1, d2, d3] => { results := [.lit (.bool true)], args := [d1, d2, d3] }
  | _ => none }
def crcAddsRow : OpenClaim := { program := "ytlgekbknebbnlaa", sum := "01741956a766a18bd003cff2fb4385a1a5bba18d0d8a8f9f9bbe31453722ab5c", func := "bargate/bargatelaw02.CrcAdds", spec := "crcAdds", apart := false }
def CrcAddsSaid : Prop := crcAddsRow.holds Try.pinned (OpenSpec.ofChange crcAddsSpec)

/-- ITS FALSE NEIGHBOUR: 'it returns false'. Refute it at one input. -/
def crcAddsWrong : ChangeSpec := { name := "crcAdds", fn := fun _ => fun
  | [d1, d2, d3] => { results := [.lit (.bool false)], args := [d1, d2, d3] }
  | _ => none }
def CrcAddsWrongFalsely : Prop := crcAddsRow.holds Try.pinned (OpenSpec.ofChange crcAddsWrong)

/-- 'bargatelaw02.CrcBursts': WHATEVER THE INPUT: true; the input reads as it did. -/
def crcBurstsSpec : ChangeSpec := { name := "crcBursts", fn := fun _ => fun
  | [d1, d2, d3] => { results := [.lit (.bool true)], args := [d1, d2, d3] }
  | _ => none }
def crcBurstsRow : OpenClaim := { program := "ytlgekbknebbnlaa", sum := "01741956a766a18bd003cff2fb4385a1a5bba18d0d8a8f9f9bbe31453722ab5c", func := "bargate/bargatelaw02.CrcBursts", spec := "crcBursts", apart := false }
def CrcBurstsSaid : Prop := crcBurstsRow.holds Try.pinned (OpenSpec.ofChange crcBurstsSpec)

/-- ITS FALSE NEIGHBOUR: 'it returns false'. Refute it at one input. -/
def crcBurstsWrong : ChangeSpec := { name := "crcBursts", fn := fun _ => fun
  | [d1, d2, d3] => { results := [.lit (.bool false)], args := [d1, d2, d3] }
  | _ => none }
def CrcBurstsWrongFalsely : Prop := crcBurstsRow.holds Try.pinned (OpenSpec.ofChange crcBurstsWrong)

/-- 'bargatelaw02.CrcSums': WHATEVER THE INPUT: true; the input reads as it did. -/
def crcSumsSpec : ChangeSpec := { name := "crcSums", fn := fun _ => fun
  | [d] => { results := [.lit (.bool true)], args := [d] }
  | _ => none }
def crcSumsRow : OpenClaim := { program := "ytlgekbknebbnlaa", sum := "01741956a766a18bd003cff2fb4385a1a5bba18d0d8a8f9f9bbe31453722ab5c", func := "bargate/bargatelaw02.CrcSums", spec := "crcSums", apart := false }
def CrcSumsSaid : Prop := crcSumsRow.holds Try.pinned (OpenSpec.ofChange crcSumsSpec)

/-- ITS FALSE NEIGHBOUR: 'it returns false'. Refute it at one input. -/
def crcSumsWrong : ChangeSpec := { name := "crcSums", fn := fun _ => fun
  | [d] => { results := [.lit (.bool false)], args := [d] }
  | _ => none }
def CrcSumsWrongFalsely : Prop := crcSumsRow.holds Try.pinned (OpenSpec.ofChange crcSumsWrong)

/-- 'bargatelaw02.CrcOpens': WHATEVER THE INPUT: true; the input reads as it did. -/
def crcOpensSpec : ChangeSpec := { name := "crcOpens", fn := fun _ => fun
  | [d] => { results := [.lit (.bool true)], args := [d] }
  | _ => none }
def crcOpensRow : OpenClaim := { program := "ytlgekbknebbnlaa", sum := "01741956a766a18bd003cff2fb4385a1a5bba18d0d8a8f9f9bbe31453722ab5c", func := "bargate/bargatelaw02.CrcOpens", spec := "crcOpens", apart := false }
def CrcOpensSaid : Prop := crcOpensRow.holds Try.pinned (OpenSpec.ofChange crcOpensSpec)

/-- ITS FALSE NEIGHBOUR: 'it returns false'. Refute it at one input. -/
def crcOpensWrong : ChangeSpec := { name := "crcOpens", fn := fun _ => fun
  | [d] => { results := [.lit (.bool false)], args := [d] }
  | _ => none }
def CrcOpensWrongFalsely : Prop := crcOpensRow.holds Try.pinned (OpenSpec.ofChange crcOpensWrong)

/-- 'bargatelaw01.OctetPuts': WHATEVER THE INPUT: true; the input reads as it did. -/
def octetPutsSpec : ChangeSpec := { name := "octetPuts", fn := fun _ => fun
  | [d1, d2, d3] => { results := [.lit (.bool true)], args := [d1, d2, d3] }
  | _ => none }
def octetPutsRow : OpenClaim := { program := "ytlgekbknebbnlaa", sum := "01741956a766a18bd003cff2fb4385a1a5bba18d0d8a8f9f9bbe31453722ab5c", func := "bargate/bargatelaw01.OctetPuts", spec := "octetPuts", apart := false }
def OctetPutsSaid : Prop := octetPutsRow.holds Try.pinned (OpenSpec.ofChange octetPutsSpec)

/-- ITS FALSE NEIGHBOUR: 'it returns false'. Refute it at one input. -/
def octetPutsWrong : ChangeSpec := { name := "octetPuts", fn := fun _ => fun
  | [d1, d2, d3] => { results := [.lit (.bool false)], args := [d1, d2, d3] }
  | _ => none }
def OctetPutsWrongFalsely : Prop := octetPutsRow.holds Try.pinned (OpenSpec.ofChange octetPutsWrong)

/-- 'bargatelaw01.OctetGets': WHATEVER THE INPUT: true; the input reads as it did. -/
def octetGetsSpec : ChangeSpec := { name := "octetGets", fn := fun _ => fun
  | [d1, d2, d3] => { results := [.lit (.bool true)], args := [d1, d2, d3] }
  | _ => none }
def octetGetsRow : OpenClaim := { program := "ytlgekbknebbnlaa", sum := "01741956a766a18bd003cff2fb4385a1a5bba18d0d8a8f9f9bbe31453722ab5c", func := "bargate/bargatelaw01.OctetGets", spec := "octetGets", apart := false }
def OctetGetsSaid : Prop := octetGetsRow.holds Try.pinned (OpenSpec.ofChange octetGetsSpec)

/-- ITS FALSE NEIGHBOUR: 'it returns false'. Refute it at one input. -/
def octetGetsWrong : ChangeSpec := { name := "octetGets", fn := fun _ => fun
  | [d1, d2, d3] => { results := [.lit (.bool false)], args := [d1, d2, d3] }
  | _ => none }
def OctetGetsWrongFalsely : Prop := octetGetsRow.holds Try.pinned (OpenSpec.ofChange octetGetsWrong)

/-- 'bargatelaw01.OctetBits': WHATEVER THE INPUT: true; the input reads as it did. -/
def octetBitsSpec : ChangeSpec := { name := "octetBits", fn := fun _ => fun
  | [d1, d2, d3] => { results := [.lit (.bool true)], args := [d1, d2, d3] }
  | _ => none }
def octetBitsRow : OpenClaim := { program := "ytlgekbknebbnlaa", sum := "01741956a766a18bd003cff2fb4385a1a5bba18d0d8a8f9f9bbe31453722ab5c", func := "bargate/bargatelaw01.OctetBits", spec := "octetBits", apart := false }
def OctetBitsSaid : Prop := octetBitsRow.holds Try.pinned (OpenSpec.ofChange octetBitsSpec)

/-- ITS FALSE NEIGHBOUR: 'it returns false'. Refute it at one input. -/
def octetBitsWrong : ChangeSpec := { name := "octetBits", fn := fun _ => fun
  | [d1, d2, d3] => { results := [.lit (.bool false)], args := [d1, d2, d3] }
  | _ => none }
def OctetBitsWrongFalsely : Prop := octetBitsRow.holds Try.pinned (OpenSpec.ofChange octetBitsWrong)

/-- 'bargatelaw01.OctetPacks': WHATEVER THE INPUT: true; the input reads as it did. -/
def octetPacksSpec : ChangeSpec := { name := "octetPacks", fn := fun _ => fun
  | [d] => { results := [.lit (.bool true)], args := [d] }
  | _ => none }
def octetPacksRow : OpenClaim := { program := "ytlgekbknebbnlaa", sum := "01741956a766a18bd003cff2fb4385a1a5bba18d0d8a8f9f9bbe31453722ab5c", func := "bargate/bargatelaw01.OctetPacks", spec := "octetPacks", apart := false }
def OctetPacksSaid : Prop := octetPacksRow.holds Try.pinned (OpenSpec.ofChange octetPacksSpec)

/-- ITS FALSE NEIGHBOUR: 'it returns false'. Refute it at one input. -/
def octetPacksWrong : ChangeSpec := { name := "octetPacks", fn := fun _ => fun
  | [d] => { results := [.lit (.bool false)], args := [d] }
  | _ => none }
def OctetPacksWrongFalsely : Prop := octetPacksRow.holds Try.pinned (OpenSpec.ofChange octetPacksWrong)

/-- 'bargatelaw01.OctetReads': WHATEVER THE INPUT: true; the input reads as it did. -/
def octetReadsSpec : ChangeSpec := { name := "octetReads", fn := fun _ => fun
  | [d1, d2] => { results := [.lit (.bool true)], args := [d1, d2] }
  | _ => none }
def octetReadsRow : OpenClaim := { program := "ytlgekbknebbnlaa", sum := "01741956a766a18bd003cff2fb4385a1a5bba18d0d8a8f9f9bbe31453722ab5c", func := "bargate/bargatelaw01.OctetReads", spec := "octetReads", apart := false }
def OctetReadsSaid : Prop := octetReadsRow.holds Try.pinned (OpenSpec.ofChange octetReadsSpec)

/-- ITS FALSE NEIGHBOUR: 'it returns false'. Refute it at one input. -/
def octetReadsWrong : ChangeSpec := { name := "octetReads", fn := fun _ => fun
  | [d1, d2] => { results := [.lit (.bool false)], args := [d1, d2] }
  | _ => none }
def OctetReadsWrongFalsely : Prop := octetReadsRow.holds Try.pinned (OpenSpec.ofChange octetReadsWrong)

/-- 'bargatelaw03.MacParses': WHATEVER THE INPUT: true; the input reads as it did. -/
def macParsesSpec : ChangeSpec := { name := "macParses", fn := fun _ => fun
  | [d] => { results := [.lit (.bool true)], args := [d] }
  | _ => none }
def macParsesRow : OpenClaim := { program := "ytlgekbknebbnlaa", sum := "01741956a766a18bd003cff2fb4385a1a5bba18d0d8a8f9f9bbe31453722ab5c", func := "bargate/bargatelaw03.MacParses", spec := "macParses", apart := false }
def MacParsesSaid : Prop := macParsesRow.holds Try.pinned (OpenSpec.ofChange macParsesSpec)

/-- ITS FALSE NEIGHBOUR: 'it returns false'. Refute it at one input. -/
def macParsesWrong : ChangeSpec := { name := "macParses", fn := fun _ => fun
  | [d] => { results := [.lit (.bool false)], args := [d] }
  | _ => none }
def MacParsesWrongFalsely : Prop := macParsesRow.holds Try.pinned (OpenSpec.ofChange macParsesWrong)

/-- 'bargatelaw03.MacSealed': WHATEVER THE INPUT: true; the input reads as it did. -/
def macSealedSpec : ChangeSpec := { name := "macSealed", fn := fun _ => fun
  | [d1, d2] => { results := [.lit (.bool true)], args := [d1, d2] }
  | _ => none }
def macSealedRow : OpenClaim := { program := "ytlgekbknebbnlaa", sum := "01741956a766a18bd003cff2fb4385a1a5bba18d0d8a8f9f9bbe31453722ab5c", func := "bargate/bargatelaw03.MacSealed", spec := "macSealed", apart := false }
def MacSealedSaid : Prop := macSealedRow.holds Try.pinned (OpenSpec.ofChange macSealedSpec)

/-- ITS FALSE NEIGHBOUR: 'it returns false'. Refute it at one input. -/
def macSealedWrong : ChangeSpec := { name := "macSealed", fn := fun _ => fun
  | [d1, d2] => { results := [.lit (.bool false)], args := [d1, d2] }
  | _ => none }
def MacSealedWrongFalsely : Prop := macSealedRow.holds Try.pinned (OpenSpec.ofChange macSealedWrong)

/-- 'bargatelaw03.MacBuilds': WHATEVER THE INPUT: true; the input reads as it did. -/
def macBuildsSpec : ChangeSpec := { name := "macBuilds", fn := fun _ => fun
  | [d1, d2] => { results := [.lit (.bool true)], args := [d1, d2] }
  | _ => none }
def macBuildsRow : OpenClaim := { program := "ytlgekbknebbnlaa", sum := "01741956a766a18bd003cff2fb4385a1a5bba18d0d8a8f9f9bbe31453722ab5c", func := "bargate/bargatelaw03.MacBuilds", spec := "macBuilds", apart := false }
def MacBuildsSaid : Prop := macBuildsRow.holds Try.pinned (OpenSpec.ofChange macBuildsSpec)

/-- ITS FALSE NEIGHBOUR: 'it returns false'. Refute it at one input. -/
def macBuildsWrong : ChangeSpec := { name := "macBuilds", fn := fun _ => fun
  | [d1, d2] => { results := [.lit (.bool false)], args := [d1, d2] }
  | _ => none }
def MacBuildsWrongFalsely : Prop := macBuildsRow.holds Try.pinned (OpenSpec.ofChange macBuildsWrong)

/-- 'bargatelaw03.MacChecks': WHATEVER THE INPUT: true; the input reads as it did. -/
def macChecksSpec : ChangeSpec := { name := "macChecks", fn := fun _ => fun
  | [d1, d2] => { results := [.lit (.bool true)], args := [d1, d2] }
  | _ => none }
def macChecksRow : OpenClaim := { program := "ytlgekbknebbnlaa", sum := "01741956a766a18bd003cff2fb4385a1a5bba18d0d8a8f9f9bbe31453722ab5c", func := "bargate/bargatelaw03.MacChecks", spec := "macChecks", apart := false }
def MacChecksSaid : Prop := macChecksRow.holds Try.pinned (OpenSpec.ofChange macChecksSpec)

/-- ITS FALSE NEIGHBOUR: 'it returns false'. Refute it at one input. -/
def macChecksWrong : ChangeSpec := { name := "macChecks", fn := fun _ => fun
  | [d1, d2] => { results := [.lit (.bool false)], args := [d1, d2] }
  | _ => none }
def MacChecksWrongFalsely : Prop := macChecksRow.holds Try.pinned (OpenSpec.ofChange macChecksWrong)

/-- 'bargatelaw03.MacTags': WHATEVER THE INPUT: true; the input reads as it did. -/
def macTagsSpec : ChangeSpec := { name := "macTags", fn := fun _ => fun
  | [d1, d2, d3] => { results := [.lit (.bool true)], args := [d1, d2, d3] }
  | _ => none }
def macTagsRow : OpenClaim := { program := "ytlgekbknebbnlaa", sum := "01741956a766a18bd003cff2fb4385a1a5bba18d0d8a8f9f9bbe31453722ab5c", func := "bargate/bargatelaw03.MacTags", spec := "macTags", apart := false }
def MacTagsSaid : Prop := macTagsRow.holds Try.pinned (OpenSpec.ofChange macTagsSpec)

/-- ITS FALSE NEIGHBOUR: 'it returns false'. Refute it at one input. -/
def macTagsWrong : ChangeSpec := { name := "macTags", fn := fun _ => fun
  | [d1, d2, d3] => { results := [.lit (.bool false)], args := [d1, d2, d3] }
  | _ => none }
def MacTagsWrongFalsely : Prop := macTagsRow.holds Try.pinned (OpenSpec.ofChange macTagsWrong)

/-- 'bargatelaw03.MacTexts': WHATEVER THE INPUT: true; the input reads as it did. -/
def macTextsSpec : ChangeSpec := { name := "macTexts", fn := fun _ => fun
  | [d1, d2] => { results := [.lit (.bool true)], args := [d1, d2] }
  | _ => none }
def macTextsRow : OpenClaim := { program := "ytlgekbknebbnlaa", sum := "01741956a766a18bd003cff2fb4385a1a5bba18d0d8a8f9f9bbe31453722ab5c", func := "bargate/bargatelaw03.MacTexts", spec := "macTexts", apart := false }
def MacTextsSaid : Prop := macTextsRow.holds Try.pinned (OpenSpec.ofChange macTextsSpec)

/-- ITS FALSE NEIGHBOUR: 'it returns false'. Refute it at one input. -/
def macTextsWrong : ChangeSpec := { name := "macTexts", fn := fun _ => fun
  | [d1, d2] => { results := [.lit (.bool false)], args := [d1, d2] }
  | _ => none }
def MacTextsWrongFalsely : Prop := macTextsRow.holds Try.pinned (OpenSpec.ofChange macTextsWrong)

/-- 'bargatelaw03.MacPads': WHATEVER THE INPUT: true; the input reads as it did. -/
def macPadsSpec : ChangeSpec := { name := "macPads", fn := fun _ => fun
  | [d1, d2] => { results := [.lit (.bool true)], args := [d1, d2] }
  | _ => none }
def macPadsRow : OpenClaim := { program := "ytlgekbknebbnlaa", sum := "01741956a766a18bd003cff2fb4385a1a5bba18d0d8a8f9f9bbe31453722ab5c", func := "bargate/bargatelaw03.MacPads", spec := "macPads", apart := false }
def MacPadsSaid : Prop := macPadsRow.holds Try.pinned (OpenSpec.ofChange macPadsSpec)

/-- ITS FALSE NEIGHBOUR: 'it returns false'. Refute it at one input. -/
def macPadsWrong : ChangeSpec := { name := "macPads", fn := fun _ => fun
  | [d1, d2] => { results := [.lit (.bool false)], args := [d1, d2] }
  | _ => none }
def MacPadsWrongFalsely : Prop := macPadsRow.holds Try.pinned (OpenSpec.ofChange macPadsWrong)

/-- 'bargatelaw03.MacLengths': WHATEVER THE INPUT: true; the input reads as it did. -/
def macLengthsSpec : ChangeSpec := { name := "macLengths", fn := fun _ => fun
  | [d1, d2] => { results := [.lit (.bool true)], args := [d1, d2] }
  | _ => none }
def macLengthsRow : OpenClaim := { program := "ytlgekbknebbnlaa", sum := "01741956a766a18bd003cff2fb4385a1a5bba18d0d8a8f9f9bbe31453722ab5c", func := "bargate/bargatelaw03.MacLengths", spec := "macLengths", apart := false }
def MacLengthsSaid : Prop := macLengthsRow.holds Try.pinned (OpenSpec.ofChange macLengthsSpec)

/-- ITS FALSE NEIGHBOUR: 'it returns false'. Refute it at one input. -/
def macLengthsWrong : ChangeSpec := { name := "macLengths", fn := fun _ => fun
  | [d1, d2] => { results := [.lit (.bool false)], args := [d1, d2] }
  | _ => none }
def MacLengthsWrongFalsely : Prop := macLengthsRow.holds Try.pinned (OpenSpec.ofChange macLengthsWrong)

/-- 'bargatelaw04.BpduParses': WHATEVER THE INPUT: true; the input reads as it did. -/
def bpduParsesSpec : ChangeSpec := { name := "bpduParses", fn := fun _ => fun
  | [d] => { results := [.lit (.bool true)], args := [d] }
  | _ => none }
def bpduParsesRow : OpenClaim := { program := "ytlgekbknebbnlaa", sum := "01741956a766a18bd003cff2fb4385a1a5bba18d0d8a8f9f9bbe31453722ab5c", func := "bargate/bargatelaw04.BpduParses", spec := "bpduParses", apart := false }
def BpduParsesSaid : Prop := bpduParsesRow.holds Try.pinned (OpenSpec.ofChange bpduParsesSpec)

/-- ITS FALSE NEIGHBOUR: 'it returns false'. Refute it at one input. -/
def bpduParsesWrong : ChangeSpec := { name := "bpduParses", fn := fun _ => fun
  | [d] => { results := [.lit (.bool false)], args := [d] }
  | _ => none }
def BpduParsesWrongFalsely : Prop := bpduParsesRow.holds Try.pinned (OpenSpec.ofChange bpduParsesWrong)

/-- 'bargatelaw04.BpduBuilds': WHATEVER THE INPUT: true; the input reads as it did. -/
def bpduBuildsSpec : ChangeSpec := { name := "bpduBuilds", fn := fun _ => fun
  | [d1, d2] => { results := [.lit (.bool true)], args := [d1, d2] }
  | _ => none }
def bpduBuildsRow : OpenClaim := { program := "ytlgekbknebbnlaa", sum := "01741956a766a18bd003cff2fb4385a1a5bba18d0d8a8f9f9bbe31453722ab5c", func := "bargate/bargatelaw04.BpduBuilds", spec := "bpduBuilds", apart := false }
def BpduBuildsSaid : Prop := bpduBuildsRow.holds Try.pinned (OpenSpec.ofChange bpduBuildsSpec)

/-- ITS FALSE NEIGHBOUR: 'it returns false'. Refute it at one input. -/
def bpduBuildsWrong : ChangeSpec := { name := "bpduBuilds", fn := fun _ => fun
  | [d1, d2] => { results := [.lit (.bool false)], args := [d1, d2] }
  | _ => none }
def BpduBuildsWrongFalsely : Prop := bpduBuildsRow.holds Try.pinned (OpenSpec.ofChange bpduBuildsWrong)

/-- 'bargatelaw04.BpduChecks': WHATEVER THE INPUT: true; the input reads as it did. -/
def bpduChecksSpec : ChangeSpec := { name := "bpduChecks", fn := fun _ => fun
  | [d] => { results := [.lit (.bool true)], args := [d] }
  | _ => none }
def bpduChecksRow : OpenClaim := { program := "ytlgekbknebbnlaa", sum := "01741956a766a18bd003cff2fb4385a1a5bba18d0d8a8f9f9bbe31453722ab5c", func := "bargate/bargatelaw04.BpduChecks", spec := "bpduChecks", apart := false }
def BpduChecksSaid : Prop := bpduChecksRow.holds Try.pinned (OpenSpec.ofChange bpduChecksSpec)

/-- ITS FALSE NEIGHBOUR: 'it returns false'. Refute it at one input. -/
def bpduChecksWrong : ChangeSpec := { name := "bpduChecks", fn := fun _ => fun
  | [d] => { results := [.lit (.bool false)], args := [d] }
  | _ => none }
def BpduChecksWrongFalsely : Prop := bpduChecksRow.holds Try.pinned (OpenSpec.ofChange bpduChecksWrong)

/-- 'bargatelaw04.BpduFrames': WHATEVER THE INPUT: true; the input reads as it did. -/
def bpduFramesSpec : ChangeSpec := { name := "bpduFrames", fn := fun _ => fun
  | [d1, d2] => { results := [.lit (.bool true)], args := [d1, d2] }
  | _ => none }
def bpduFramesRow : OpenClaim := { program := "ytlgekbknebbnlaa", sum := "01741956a766a18bd003cff2fb4385a1a5bba18d0d8a8f9f9bbe31453722ab5c", func := "bargate/bargatelaw04.BpduFrames", spec := "bpduFrames", apart := false }
def BpduFramesSaid : Prop := bpduFramesRow.holds Try.pinned (OpenSpec.ofChange bpduFramesSpec)

/-- ITS FALSE NEIGHBOUR: 'it returns false'. Refute it at one input. -/
def bpduFramesWrong : ChangeSpec := { name := "bpduFrames", fn := fun _ => fun
  | [d1, d2] => { results := [.lit (.bool false)], args := [d1, d2] }
  | _ => none }
def BpduFramesWrongFalsely : Prop := bpduFramesRow.holds Try.pinned (OpenSpec.ofChange bpduFramesWrong)

/-- 'bargatelaw04.BpduReserved': WHATEVER THE INPUT: true; the input reads as it did. -/
def bpduReservedSpec : ChangeSpec := { name := "bpduReserved", fn := fun _ => fun
  | [d] => { results := [.lit (.bool true)], args := [d] }
  | _ => none }
def bpduReservedRow : OpenClaim := { program := "ytlgekbknebbnlaa", sum := "01741956a766a18bd003cff2fb4385a1a5bba18d0d8a8f9f9bbe31453722ab5c", func := "bargate/bargatelaw04.BpduReserved", spec := "bpduReserved", apart := false }
def BpduReservedSaid : Prop := bpduReservedRow.holds Try.pinned (OpenSpec.ofChange bpduReservedSpec)

/-- ITS FALSE NEIGHBOUR: 'it returns false'. Refute it at one input. -/
def bpduReservedWrong : ChangeSpec := { name := "bpduReserved", fn := fun _ => fun
  | [d] => { results := [.lit (.bool false)], args := [d] }
  | _ => none }
def BpduReservedWrongFalsely : Prop := bpduReservedRow.holds Try.pinned (OpenSpec.ofChange bpduReservedWrong)

/-- 'bargatelaw04.BpduFlags': WHATEVER THE INPUT: true; the input reads as it did. -/
def bpduFlagsSpec : ChangeSpec := { name := "bpduFlags", fn := fun _ => fun
  | [d1, d2] => { results := [.lit (.bool true)], args := [d1, d2] }
  | _ => none }
def bpduFlagsRow : OpenClaim := { program := "ytlgekbknebbnlaa", sum := "01741956a766a18bd003cff2fb4385a1a5bba18d0d8a8f9f9bbe31453722ab5c", func := "bargate/bargatelaw04.BpduFlags", spec := "bpduFlags", apart := false }
def BpduFlagsSaid : Prop := bpduFlagsRow.holds Try.pinned (OpenSpec.ofChange bpduFlagsSpec)

/-- ITS FALSE NEIGHBOUR: 'it returns false'. Refute it at one input. -/
def bpduFlagsWrong : ChangeSpec := { name := "bpduFlags", fn := fun _ => fun
  | [d1, d2] => { results := [.lit (.bool false)], args := [d1, d2] }
  | _ => none }
def BpduFlagsWrongFalsely : Prop := bpduFlagsRow.holds Try.pinned (OpenSpec.ofChange bpduFlagsWrong)

/- THE SECOND FORM. 'bulk': how many values and letters a reading holds, each counted each time it is reached (what is shared counts as often as it is met; a slice's spare places count too). A statement '..UptoSaid' is the law's where the arguments, and the package variables that the reading takes, are together of bulk at most 1048576: NARROWER than '..Said'. Prove '..Said' where nothing that the law and all that it calls make is longer than what came in: it says more and counts as full. Else prove '..UptoSaid'. A law counts once. -/
mutual
def uptoBulk {H : Type} : DataW H → Nat
  | .lit (.string bytes) => bytes.length + 1
  | .lit _ => 1
  | .nil => 1
  | .ptr d => uptoBulk d + 1
  | .slice elems spare => uptoBulkAll elems + uptoBulkAll spare + 1
  | .agg parts => uptoBulkAll parts + 1
  | .iface _ d => uptoBulk d + 1
  | .map entries => uptoBulkEntries entries + 1
  | .held _ => 1
def uptoBulkAll {H : Type} : List (DataW H) → Nat
  | [] => 0
  | d :: r => uptoBulk d + uptoBulkAll r
def uptoBulkEntries {H : Type} : List (Lit × DataW H) → Nat
  | [] => 0
  | x :: r => uptoBulkEntry x + uptoBulkEntries r
def uptoBulkEntry {H : Type} : Lit × DataW H → Nat
  | (.string bytes, d) => bytes.length + uptoBulk d + 1
  | (_, d) => uptoBulk d + 1
 end
def uptoSmall : (H : Type) → List (DataW H) → Bool := fun _ ds => decide (uptoBulkAll ds ≤ 1048576)
def OpenSpec.upto (s : _root_.Go.ChangeSpec) : _root_.Go.OpenSpec := { _root_.Go.OpenSpec.ofChange s with cond := some uptoSmall }

/-- 'bargatelaw02.CrcSeals', WHERE WHAT IT READS IS OF BULK AT MOST 1048576: true; the input reads as it did. -/
def crcSealsUptoRow : OpenClaim := { program := "ytlgekbknebbnlaa", sum := "01741956a766a18bd003cff2fb4385a1a5bba18d0d8a8f9f9bbe31453722ab5c", func := "bargate/bargatelaw02.CrcSeals", spec := "crcSeals", apart := false, narrowed := true }
def CrcSealsUptoSaid : Prop := crcSealsUptoRow.holds Try.pinned (OpenSpec.upto crcSealsSpec)

/-- 'bargatelaw02.CrcAdds', WHERE WHAT IT READS IS OF BULK AT MOST 1048576: true; the input reads as it did. -/
def crcAddsUptoRow : OpenClaim := { program := "ytlgekbknebbnlaa", sum := "01741956a766a18bd003cff2fb4385a1a5bba18d0d8a8f9f9bbe31453722ab5c", func := "bargate/bargatelaw02.CrcAdds", spec := "crcAdds", apart := false, narrowed := true }
def CrcAddsUptoSaid : Prop := crcAddsUptoRow.holds Try.pinned (OpenSpec.upto crcAddsSpec)

/-- 'bargatelaw02.CrcBursts', WHERE WHAT IT READS IS OF BULK AT MOST 1048576: true; the input reads as it did. -/
def crcBurstsUptoRow : OpenClaim := { program := "ytlgekbknebbnlaa", sum := "01741956a766a18bd003cff2fb4385a1a5bba18d0d8a8f9f9bbe31453722ab5c", func := "bargate/bargatelaw02.CrcBursts", spec := "crcBursts", apart := false, narrowed := true }
def CrcBurstsUptoSaid : Prop := crcBurstsUptoRow.holds Try.pinned (OpenSpec.upto crcBurstsSpec)

/-- 'bargatelaw02.CrcSums', WHERE WHAT IT READS IS OF BULK AT MOST 1048576: true; the input reads as it did. -/
def crcSumsUptoRow : OpenClaim := { program := "ytlgekbknebbnlaa", sum := "01741956a766a18bd003cff2fb4385a1a5bba18d0d8a8f9f9bbe31453722ab5c", func := "bargate/bargatelaw02.CrcSums", spec := "crcSums", apart := false, narrowed := true }
def CrcSumsUptoSaid : Prop := crcSumsUptoRow.holds Try.pinned (OpenSpec.upto crcSumsSpec)

/-- 'bargatelaw02.CrcOpens', WHERE WHAT IT READS IS OF BULK AT MOST 1048576: true; the input reads as it did. -/
def crcOpensUptoRow : OpenClaim := { program := "ytlgekbknebbnlaa", sum := "01741956a766a18bd003cff2fb4385a1a5bba18d0d8a8f9f9bbe31453722ab5c", func := "bargate/bargatelaw02.CrcOpens", spec := "crcOpens", apart := false, narrowed := true }
def CrcOpensUptoSaid : Prop := crcOpensUptoRow.holds Try.pinned (OpenSpec.upto crcOpensSpec)

/-- 'bargatelaw01.OctetPuts', WHERE WHAT IT READS IS OF BULK AT MOST 1048576: true; the input reads as it did. -/
def octetPutsUptoRow : OpenClaim := { program := "ytlgekbknebbnlaa", sum := "01741956a766a18bd003cff2fb4385a1a5bba18d0d8a8f9f9bbe31453722ab5c", func := "bargate/bargatelaw01.OctetPuts", spec := "octetPuts", apart := false, narrowed := true }
def OctetPutsUptoSaid : Prop := octetPutsUptoRow.holds Try.pinned (OpenSpec.upto octetPutsSpec)

/-- 'bargatelaw01.OctetGets', WHERE WHAT IT READS IS OF BULK AT MOST 1048576: true; the input reads as it did. -/
def octetGetsUptoRow : OpenClaim := { program := "ytlgekbknebbnlaa", sum := "01741956a766a18bd003cff2fb4385a1a5bba18d0d8a8f9f9bbe31453722ab5c", func := "bargate/bargatelaw01.OctetGets", spec := "octetGets", apart := false, narrowed := true }
def OctetGetsUptoSaid : Prop := octetGetsUptoRow.holds Try.pinned (OpenSpec.upto octetGetsSpec)

/-- 'bargatelaw01.OctetBits', WHERE WHAT IT READS IS OF BULK AT MOST 1048576: true; the input reads as it did. -/
def octetBitsUptoRow : OpenClaim := { program := "ytlgekbknebbnlaa", sum := "01741956a766a18bd003cff2fb4385a1a5bba18d0d8a8f9f9bbe31453722ab5c", func := "bargate/bargatelaw01.OctetBits", spec := "octetBits", apart := false, narrowed := true }
def OctetBitsUptoSaid : Prop := octetBitsUptoRow.holds Try.pinned (OpenSpec.upto octetBitsSpec)

/-- 'bargatelaw01.OctetPacks', WHERE WHAT IT READS IS OF BULK AT MOST 1048576: true; the input reads as it did. -/
def octetPacksUptoRow : OpenClaim := { program := "ytlgekbknebbnlaa", sum := "01741956a766a18bd003cff2fb4385a1a5bba18d0d8a8f9f9bbe31453722ab5c", func := "bargate/bargatelaw01.OctetPacks", spec := "octetPacks", apart := false, narrowed := true }
def OctetPacksUptoSaid : Prop := octetPacksUptoRow.holds Try.pinned (OpenSpec.upto octetPacksSpec)

/-- 'bargatelaw01.OctetReads', WHERE WHAT IT READS IS OF BULK AT MOST 1048576: true; the input reads as it did. -/
def octetReadsUptoRow : OpenClaim := { program := "ytlgekbknebbnlaa", sum := "01741956a766a18bd003cff2fb4385a1a5bba18d0d8a8f9f9bbe31453722ab5c", func := "bargate/bargatelaw01.OctetReads", spec := "octetReads", apart := false, narrowed := true }
def OctetReadsUptoSaid : Prop := octetReadsUptoRow.holds Try.pinned (OpenSpec.upto octetReadsSpec)

/-- 'bargatelaw03.MacParses', WHERE WHAT IT READS IS OF BULK AT MOST 1048576: true; the input reads as it did. -/
def macParsesUptoRow : OpenClaim := { program := "ytlgekbknebbnlaa", sum := "01741956a766a18bd003cff2fb4385a1a5bba18d0d8a8f9f9bbe31453722ab5c", func := "bargate/bargatelaw03.MacParses", spec := "macParses", apart := false, narrowed := true }
def MacParsesUptoSaid : Prop := macParsesUptoRow.holds Try.pinned (OpenSpec.upto macParsesSpec)

/-- 'bargatelaw03.MacSealed', WHERE WHAT IT READS IS OF BULK AT MOST 1048576: true; the input reads as it did. -/
def macSealedUptoRow : OpenClaim := { program := "ytlgekbknebbnlaa", sum := "01741956a766a18bd003cff2fb4385a1a5bba18d0d8a8f9f9bbe31453722ab5c", func := "bargate/bargatelaw03.MacSealed", spec := "macSealed", apart := false, narrowed := true }
def MacSealedUptoSaid : Prop := macSealedUptoRow.holds Try.pinned (OpenSpec.upto macSealedSpec)

/-- 'bargatelaw03.MacBuilds', WHERE WHAT IT READS IS OF BULK AT MOST 1048576: true; the input reads as it did. -/
def macBuildsUptoRow : OpenClaim := { program := "ytlgekbknebbnlaa", sum := "01741956a766a18bd003cff2fb4385a1a5bba18d0d8a8f9f9bbe31453722ab5c", func := "bargate/bargatelaw03.MacBuilds", spec := "macBuilds", apart := false, narrowed := true }
def MacBuildsUptoSaid : Prop := macBuildsUptoRow.holds Try.pinned (OpenSpec.upto macBuildsSpec)

/-- 'bargatelaw03.MacChecks', WHERE WHAT IT READS IS OF BULK AT MOST 1048576: true; the input reads as it did. -/
def macChecksUptoRow : OpenClaim := { program := "ytlgekbknebbnlaa", sum := "01741956a766a18bd003cff2fb4385a1a5bba18d0d8a8f9f9bbe31453722ab5c", func := "bargate/bargatelaw03.MacChecks", spec := "macChecks", apart := false, narrowed := true }
def MacChecksUptoSaid : Prop := macChecksUptoRow.holds Try.pinned (OpenSpec.upto macChecksSpec)

/-- 'bargatelaw03.MacTags', WHERE WHAT IT READS IS OF BULK AT MOST 1048576: true; the input reads as it did. -/
def macTagsUptoRow : OpenClaim := { program := "ytlgekbknebbnlaa", sum := "01741956a766a18bd003cff2fb4385a1a5bba18d0d8a8f9f9bbe31453722ab5c", func := "bargate/bargatelaw03.MacTags", spec := "macTags", apart := false, narrowed := true }
def MacTagsUptoSaid : Prop := macTagsUptoRow.holds Try.pinned (OpenSpec.upto macTagsSpec)

/-- 'bargatelaw03.MacTexts', WHERE WHAT IT READS IS OF BULK AT MOST 1048576: true; the input reads as it did. -/
def macTextsUptoRow : OpenClaim := { program := "ytlgekbknebbnlaa", sum := "01741956a766a18bd003cff2fb4385a1a5bba18d0d8a8f9f9bbe31453722ab5c", func := "bargate/bargatelaw03.MacTexts", spec := "macTexts", apart := false, narrowed := true }
def MacTextsUptoSaid : Prop := macTextsUptoRow.holds Try.pinned (OpenSpec.upto macTextsSpec)

/-- 'bargatelaw03.MacPads', WHERE WHAT IT READS IS OF BULK AT MOST 1048576: true; the input reads as it did. -/
def macPadsUptoRow : OpenClaim := { program := "ytlgekbknebbnlaa", sum := "01741956a766a18bd003cff2fb4385a1a5bba18d0d8a8f9f9bbe31453722ab5c", func := "bargate/bargatelaw03.MacPads", spec := "macPads", apart := false, narrowed := true }
def MacPadsUptoSaid : Prop := macPadsUptoRow.holds Try.pinned (OpenSpec.upto macPadsSpec)

/-- 'bargatelaw03.MacLengths', WHERE WHAT IT READS IS OF BULK AT MOST 1048576: true; the input reads as it did. -/
def macLengthsUptoRow : OpenClaim := { program := "ytlgekbknebbnlaa", sum := "01741956a766a18bd003cff2fb4385a1a5bba18d0d8a8f9f9bbe31453722ab5c", func := "bargate/bargatelaw03.MacLengths", spec := "macLengths", apart := false, narrowed := true }
def MacLengthsUptoSaid : Prop := macLengthsUptoRow.holds Try.pinned (OpenSpec.upto macLengthsSpec)

/-- 'bargatelaw04.BpduParses', WHERE WHAT IT READS IS OF BULK AT MOST 1048576: true; the input reads as it did. -/
def bpduParsesUptoRow : OpenClaim := { program := "ytlgekbknebbnlaa", sum := "01741956a766a18bd003cff2fb4385a1a5bba18d0d8a8f9f9bbe31453722ab5c", func := "bargate/bargatelaw04.BpduParses", spec := "bpduParses", apart := false, narrowed := true }
def BpduParsesUptoSaid : Prop := bpduParsesUptoRow.holds Try.pinned (OpenSpec.upto bpduParsesSpec)

/-- 'bargatelaw04.BpduBuilds', WHERE WHAT IT READS IS OF BULK AT MOST 1048576: true; the input reads as it did. -/
def bpduBuildsUptoRow : OpenClaim := { program := "ytlgekbknebbnlaa", sum := "01741956a766a18bd003cff2fb4385a1a5bba18d0d8a8f9f9bbe31453722ab5c", func := "bargate/bargatelaw04.BpduBuilds", spec := "bpduBuilds", apart := false, narrowed := true }
def BpduBuildsUptoSaid : Prop := bpduBuildsUptoRow.holds Try.pinned (OpenSpec.upto bpduBuildsSpec)

/-- 'bargatelaw04.BpduChecks', WHERE WHAT IT READS IS OF BULK AT MOST 1048576: true; the input reads as it did. -/
def bpduChecksUptoRow : OpenClaim := { program := "ytlgekbknebbnlaa", sum := "01741956a766a18bd003cff2fb4385a1a5bba18d0d8a8f9f9bbe31453722ab5c", func := "bargate/bargatelaw04.BpduChecks", spec := "bpduChecks", apart := false, narrowed := true }
def BpduChecksUptoSaid : Prop := bpduChecksUptoRow.holds Try.pinned (OpenSpec.upto bpduChecksSpec)

/-- 'bargatelaw04.BpduFrames', WHERE WHAT IT READS IS OF BULK AT MOST 1048576: true; the input reads as it did. -/
def bpduFramesUptoRow : OpenClaim := { program := "ytlgekbknebbnlaa", sum := "01741956a766a18bd003cff2fb4385a1a5bba18d0d8a8f9f9bbe31453722ab5c", func := "bargate/bargatelaw04.BpduFrames", spec := "bpduFrames", apart := false, narrowed := true }
def BpduFramesUptoSaid : Prop := bpduFramesUptoRow.holds Try.pinned (OpenSpec.upto bpduFramesSpec)

/-- 'bargatelaw04.BpduReserved', WHERE WHAT IT READS IS OF BULK AT MOST 1048576: true; the input reads as it did. -/
def bpduReservedUptoRow : OpenClaim := { program := "ytlgekbknebbnlaa", sum := "01741956a766a18bd003cff2fb4385a1a5bba18d0d8a8f9f9bbe31453722ab5c", func := "bargate/bargatelaw04.BpduReserved", spec := "bpduReserved", apart := false, narrowed := true }
def BpduReservedUptoSaid : Prop := bpduReservedUptoRow.holds Try.pinned (OpenSpec.upto bpduReservedSpec)

/-- 'bargatelaw04.BpduFlags', WHERE WHAT IT READS IS OF BULK AT MOST 1048576: true; the input reads as it did. -/
def bpduFlagsUptoRow : OpenClaim := { program := "ytlgekbknebbnlaa", sum := "01741956a766a18bd003cff2fb4385a1a5bba18d0d8a8f9f9bbe31453722ab5c", func := "bargate/bargatelaw04.BpduFlags", spec := "bpduFlags", apart := false, narrowed := true }
def BpduFlagsUptoSaid : Prop := bpduFlagsUptoRow.holds Try.pinned (OpenSpec.upto bpduFlagsSpec)

end Rows
end Go.Proofs.Ytlgekbknebbnlaa
