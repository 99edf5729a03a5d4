/-
  No cell of these rows narrows 'for every input' (looked for: loops, veiled, ifaces, maps, wideKeys, modest, calm, conditions, laid).
  DERIVED. THE GIVEN ROWS OF THIS SEAT. 11 by the template 'for every input the law returns true; each argument reads behind the call as it read before'; 0 by the template 'total and deterministic' (their statements: YtddfjnjhgeofmaaTotals.lean).
  GIVEN WITH THE SEED: the statements are not yours to turn. If you find one false, say at which input.
  Laid BY PROGRAM, IN A SANDBOX (cutbox-rows.mjs): the forced cells as the released guide's own fill.sh prints them over the translation b763f6b88acb15b1… (all of the seat's roots in one cut). By AI agents, Wed Nov 11 2026. No macro, syntax, notation, axiom, sorry.
-/
import Derived.Test.YtddfjnjhgeofmaaChecked
import GoSem.Claim
import GoSem.ClaimJoined
import GoSem.ClaimMapViews
import Derived.JoinedTies
import Derived.KernelRfl
namespace Go.Proofs.Ytddfjnjhgeofmaa
/- THE CELL 'sum', in the pinned program and in every row, IS THE sha256 OF THE DUMP (.gsa) THAT YtddfjnjhgeofmaaProg.lean LOADS. Nothing in Lean hashes anything: it is a label: what it is worth is what the hold of that sum in a sandbox is worth. -/
noncomputable def Try.pinned : Pinned := { name := "ytddfjnjhgeofmaa", sum := "b763f6b88acb15b1dd6ae7a444ebc7ebf2915e086c8dd4d144b413ba96e2f5df", checked := Try.checked }
namespace Rows
def none {H : Type} : Left H := { results := [], args := [] }

/-- 'bargatelaw11.VlanSets': WHATEVER THE INPUT: true; the input reads as it did. -/
def vlanSetsSpec : ChangeSpec := { name := "vlanSets", fn := fun _ => fun
  | [d1, d2, d3] => { results := [.lit (.bool true)], args := [d1, d2, d3] }
  | _ => none }
def vlanSetsRow : OpenClaim := { program := "ytddfjnjhgeofmaa", sum := "b763f6b88acb15b1dd6ae7a444ebc7ebf2915e086c8dd4d144b413ba96e2f5df", func := "bargate/bargatelaw11.VlanSets", spec := "vlanSets", plainKeys := false, apart := false }
def VlanSetsSaid : Prop := vlanSetsRow.holds Try.pinned (OpenSpec.ofChange vlanSetsSpec)

/-- ITS FALSE NEIGHBOUR: 'it returns false'. Refute it at one input. -/
def vlanSetsWrong : ChangeSpec := { name := "vlanSets", fn := fun _ => fun
  | [d1, d2, d3] => { results := [.lit (.bool false)], args := [d1, d2, d3] }
  | _ => none }
def VlanSetsWrongFalsely : Prop := vlanSetsRow.holds Try.pinned (OpenSpec.ofChange vlanSetsWrong)

/-- 'bargatelaw11.VlanClasses': WHATEVER THE INPUT: true; the input reads as it did. -/
def vlanClassesSpec : ChangeSpec := { name := "vlanClasses", fn := fun _ => fun
  | [d1, d2, d3] => { results := [.lit (.bool true)], args := [d1, d2, d3] }
  | _ => none }
def vlanClassesRow : OpenClaim := { program := "ytddfjnjhgeofmaa", sum := "b763f6b88acb15b1dd6ae7a444ebc7ebf2915e086c8dd4d144b413ba96e2f5df", func := "bargate/bargatelaw11.VlanClasses", spec := "vlanClasses", plainKeys := false, apart := false }
def VlanClassesSaid : Prop := vlanClassesRow.holds Try.pinned (OpenSpec.ofChange vlanClassesSpec)

/-- ITS FALSE NEIGHBOUR: 'it returns false'. Refute it at one input. -/
def vlanClassesWrong : ChangeSpec := { name := "vlanClasses", fn := fun _ => fun
  | [d1, d2, d3] => { results := [.lit (.bool false)], args := [d1, d2, d3] }
  | _ => none }
def VlanClassesWrongFalsely : Prop := vlanClassesRow.holds Try.pinned (OpenSpec.ofChange vlanClassesWrong)

/-- 'bargatelaw11.VlanMany': WHATEVER THE INPUT: true; the input reads as it did. -/
def vlanManySpec : ChangeSpec := { name := "vlanMany", fn := fun _ => fun
  | [d] => { results := [.lit (.bool true)], args := [d] }
  | _ => none }
def vlanManyRow : OpenClaim := { program := "ytddfjnjhgeofmaa", sum := "b763f6b88acb15b1dd6ae7a444ebc7ebf2915e086c8dd4d144b413ba96e2f5df", func := "bargate/bargatelaw11.VlanMany", spec := "vlanMany", plainKeys := false, apart := false }
def VlanManySaid : Prop := vlanManyRow.holds Try.pinned (OpenSpec.ofChange vlanManySpec)

/-- ITS FALSE NEIGHBOUR: 'it returns false'. Refute it at one input. -/
def vlanManyWrong : ChangeSpec := { name := "vlanMany", fn := fun _ => fun
  | [d] => { results := [.lit (.bool false)], args := [d] }
  | _ => none }
def VlanManyWrongFalsely : Prop := vlanManyRow.holds Try.pinned (OpenSpec.ofChange vlanManyWrong)

/-- 'bargatelaw11.VlanAll': WHATEVER THE INPUT: true; the input reads as it did. -/
def vlanAllSpec : ChangeSpec := { name := "vlanAll", fn := fun _ => fun
  | [d1, d2, d3] => { results := [.lit (.bool true)], args := [d1, d2, d3] }
  | _ => none }
def vlanAllRow : OpenClaim := { program := "ytddfjnjhgeofmaa", sum := "b763f6b88acb15b1dd6ae7a444ebc7ebf2915e086c8dd4d144b413ba96e2f5df", func := "bargate/bargatelaw11.VlanAll", spec := "vlanAll", plainKeys := false, apart := false }
def VlanAllSaid : Prop := vlanAllRow.holds Try.pinned (OpenSpec.ofChange vlanAllSpec)

/-- ITS FALSE NEIGHBOUR: 'it returns false'. Refute it at one input. -/
def vlanAllWrong : ChangeSpec := { name := "vlanAll", fn := fun _ => fun
  | [d1, d2, d3] => { results := [.lit (.bool false)], args := [d1, d2, d3] }
  | _ => none }
def VlanAllWrongFalsely : Prop := vlanAllRow.holds Try.pinned (OpenSpec.ofChange vlanAllWrong)

/-- 'bargatelaw12.FdbPlays': WHATEVER THE INPUT: true; the input reads as it did. -/
def fdbPlaysSpec : ChangeSpec := { name := "fdbPlays", fn := fun _ => fun
  | [d1, d2, d3] => { results := [.lit (.bool true)], args := [d1, d2, d3] }
  | _ => none }
def fdbPlaysRow : OpenClaim := { program := "ytddfjnjhgeofmaa", sum := "b763f6b88acb15b1dd6ae7a444ebc7ebf2915e086c8dd4d144b413ba96e2f5df", func := "bargate/bargatelaw12.FdbPlays", spec := "fdbPlays", unfollowed := true, recurses := true, plainKeys := false, apart := false }
def FdbPlaysSaid : Prop := fdbPlaysRow.holds Try.pinned (OpenSpec.ofChange fdbPlaysSpec)

/-- ITS FALSE NEIGHBOUR: 'it returns false'. Refute it at one input. -/
def fdbPlaysWrong : ChangeSpec := { name := "fdbPlays", fn := fun _ => fun
  | [d1, d2, d3] => { results := [.lit (.bool false)], args := [d1, d2, d3] }
  | _ => none }
def FdbPlaysWrongFalsely : Prop := fdbPlaysRow.holds Try.pinned (OpenSpec.ofChange fdbPlaysWrong)

/-- 'bargatelaw12.FdbApart': WHATEVER THE INPUT: true; the input reads as it did. -/
def fdbApartSpec : ChangeSpec := { name := "fdbApart", fn := fun _ => fun
  | [d1, d2, d3] => { results := [.lit (.bool true)], args := [d1, d2, d3] }
  | _ => none }
def fdbApartRow : OpenClaim := { program := "ytddfjnjhgeofmaa", sum := "b763f6b88acb15b1dd6ae7a444ebc7ebf2915e086c8dd4d144b413ba96e2f5df", func := "bargate/bargatelaw12.FdbApart", spec := "fdbApart", unfollowed := true, recurses := true, plainKeys := false, apart := false }
def FdbApartSaid : Prop := fdbApartRow.holds Try.pinned (OpenSpec.ofChange fdbApartSpec)

/-- ITS FALSE NEIGHBOUR: 'it returns false'. Refute it at one input. -/
def fdbApartWrong : ChangeSpec := { name := "fdbApart", fn := fun _ => fun
  | [d1, d2, d3] => { results := [.lit (.bool false)], args := [d1, d2, d3] }
  | _ => none }
def FdbApartWrongFalsely : Prop := fdbApartRow.holds Try.pinned (OpenSpec.ofChange fdbApartWrong)

/-- 'bargatelaw12.FdbMoves': WHATEVER THE INPUT: true; the input reads as it did. -/
def fdbMovesSpec : ChangeSpec := { name := "fdbMoves", fn := fun _ => fun
  | [d1, d2] => { results := [.lit (.bool true)], args := [d1, d2] }
  | _ => none }
def fdbMovesRow : OpenClaim := { program := "ytddfjnjhgeofmaa", sum := "b763f6b88acb15b1dd6ae7a444ebc7ebf2915e086c8dd4d144b413ba96e2f5df", func := "bargate/bargatelaw12.FdbMoves", spec := "fdbMoves", unfollowed := true, recurses := true, plainKeys := false, apart := false }
def FdbMovesSaid : Prop := fdbMovesRow.holds Try.pinned (OpenSpec.ofChange fdbMovesSpec)

/-- ITS FALSE NEIGHBOUR: 'it returns false'. Refute it at one input. -/
def fdbMovesWrong : ChangeSpec := { name := "fdbMoves", fn := fun _ => fun
  | [d1, d2] => { results := [.lit (.bool false)], args := [d1, d2] }
  | _ => none }
def FdbMovesWrongFalsely : Prop := fdbMovesRow.holds Try.pinned (OpenSpec.ofChange fdbMovesWrong)

/-- 'bargatelaw12.FdbFull': WHATEVER THE INPUT: true; the input reads as it did. -/
def fdbFullSpec : ChangeSpec := { name := "fdbFull", fn := fun _ => fun
  | [d] => { results := [.lit (.bool true)], args := [d] }
  | _ => none }
def fdbFullRow : OpenClaim := { program := "ytddfjnjhgeofmaa", sum := "b763f6b88acb15b1dd6ae7a444ebc7ebf2915e086c8dd4d144b413ba96e2f5df", func := "bargate/bargatelaw12.FdbFull", spec := "fdbFull", unfollowed := true, recurses := true, plainKeys := false, apart := false }
def FdbFullSaid : Prop := fdbFullRow.holds Try.pinned (OpenSpec.ofChange fdbFullSpec)

/-- ITS FALSE NEIGHBOUR: 'it returns false'. Refute it at one input. -/
def fdbFullWrong : ChangeSpec := { name := "fdbFull", fn := fun _ => fun
  | [d] => { results := [.lit (.bool false)], args := [d] }
  | _ => none }
def FdbFullWrongFalsely : Prop := fdbFullRow.holds Try.pinned (OpenSpec.ofChange fdbFullWrong)

/-- 'bargatelaw13.RelayNames': WHATEVER THE INPUT: true; the input reads as it did. -/
def relayNamesSpec : ChangeSpec := { name := "relayNames", fn := fun _ => fun
  | [d] => { results := [.lit (.bool true)], args := [d] }
  | _ => none }
def relayNamesRow : OpenClaim := { program := "ytddfjnjhgeofmaa", sum := "b763f6b88acb15b1dd6ae7a444ebc7ebf2915e086c8dd4d144b413ba96e2f5df", func := "bargate/bargatelaw13.RelayNames", spec := "relayNames", unfollowed := true, recurses := true, plainKeys := false, apart := false }
def RelayNamesSaid : Prop := relayNamesRow.holds Try.pinned (OpenSpec.ofChange relayNamesSpec)

/-- ITS FALSE NEIGHBOUR: 'it returns false'. Refute it at one input. -/
def relayNamesWrong : ChangeSpec := { name := "relayNames", fn := fun _ => fun
  | [d] => { results := [.lit (.bool false)], args := [d] }
  | _ => none }
def RelayNamesWrongFalsely : Prop := relayNamesRow.holds Try.pinned (OpenSpec.ofChange relayNamesWrong)

/-- 'bargatelaw13.RelayFirst': WHATEVER THE INPUT: true; the input reads as it did. -/
def relayFirstSpec : ChangeSpec := { name := "relayFirst", fn := fun _ => fun
  | [d1, d2, d3] => { results := [.lit (.bool true)], args := [d1, d2, d3] }
  | _ => none }
def relayFirstRow : OpenClaim := { program := "ytddfjnjhgeofmaa", sum := "b763f6b88acb15b1dd6ae7a444ebc7ebf2915e086c8dd4d144b413ba96e2f5df", func := "bargate/bargatelaw13.RelayFirst", spec := "relayFirst", unfollowed := true, recurses := true, plainKeys := false, apart := false }
def RelayFirstSaid : Prop := relayFirstRow.holds Try.pinned (OpenSpec.ofChange relayFirstSpec)

/-- ITS FALSE NEIGHBOUR: 'it returns false'. Refute it at one input. -/
def relayFirstWrong : ChangeSpec := { name := "relayFirst", fn := fun _ => fun
  | [d1, d2, d3] => { results := [.lit (.bool false)], args := [d1, d2, d3] }
  | _ => none }
def RelayFirstWrongFalsely : Prop := relayFirstRow.holds Try.pinned (OpenSpec.ofChange relayFirstWrong)

/-- 'bargatelaw13.RelayDress': WHATEVER THE INPUT: true; the input reads as it did. -/
def relayDressSpec : ChangeSpec := { name := "relayDress", fn := fun _ => fun
  | [d1, d2, d3] => { results := [.lit (.bool true)], args := [d1, d2, d3] }
  | _ => none }
def relayDressRow : OpenClaim := { program := "ytddfjnjhgeofmaa", sum := "b763f6b88acb15b1dd6ae7a444ebc7ebf2915e086c8dd4d144b413ba96e2f5df", func := "bargate/bargatelaw13.RelayDress", spec := "relayDress", unfollowed := true, recurses := true, plainKeys := false, apart := false }
def RelayDressSaid : Prop := relayDressRow.holds Try.pinned (OpenSpec.ofChange relayDressSpec)

/-- ITS FALSE NEIGHBOUR: 'it returns false'. Refute it at one input. -/
def relayDressWrong : ChangeSpec := { name := "relayDress", fn := fun _ => fun
  | [d1, d2, d3] => { results := [.lit (.bool false)], args := [d1, d2, d3] }
  | _ => none }
def RelayDressWrongFalsely : Prop := relayDressRow.holds Try.pinned (OpenSpec.ofChange relayDressWrong)

/- THE SECOND FORM. 'bulk': how many values and letters a reading holds, each counted each time it is reached (what is shared counts as often as it is met; a slice's spare places count too). A statement '..UptoSaid' is the law's where the arguments, and the package variables that the reading takes, are together of bulk at most 1048576: NARROWER than '..Said'. Prove '..Said' where nothing that the law and all that it calls make is longer than what came in: it says more and counts as full. Else prove '..UptoSaid'. A law counts once. -/
mutual
def uptoBulk {H : Type} : DataW H → Nat
  | .lit (.string bytes) => bytes.length + 1
  | .lit _ => 1
  | .nil => 1
  | .ptr d => uptoBulk d + 1
  | .slice elems spare => uptoBulkAll elems + uptoBulkAll spare + 1
  | .agg parts => uptoBulkAll parts + 1
  | .iface _ d => uptoBulk d + 1
  | .map entries => uptoBulkEntries entries + 1
  | .held _ => 1
def uptoBulkAll {H : Type} : List (DataW H) → Nat
  | [] => 0
  | d :: r => uptoBulk d + uptoBulkAll r
def uptoBulkEntries {H : Type} : List (Lit × DataW H) → Nat
  | [] => 0
  | x :: r => uptoBulkEntry x + uptoBulkEntries r
def uptoBulkEntry {H : Type} : Lit × DataW H → Nat
  | (.string bytes, d) => bytes.length + uptoBulk d + 1
  | (_, d) => uptoBulk d + 1
 end
def uptoSmall : (H : Type) → List (DataW H) → Bool := fun _ ds => decide (uptoBulkAll ds ≤ 1048576)
def OpenSpec.upto (s : _root_.Go.ChangeSpec) : _root_.Go.OpenSpec := { _root_.Go.OpenSpec.ofChange s with cond := some uptoSmall }

/-- 'bargatelaw11.VlanSets', WHERE WHAT IT READS IS OF BULK AT MOST 1048576: true; the input reads as it did. -/
def vlanSetsUptoRow : OpenClaim := { program := "ytddfjnjhgeofmaa", sum := "b763f6b88acb15b1dd6ae7a444ebc7ebf2915e086c8dd4d144b413ba96e2f5df", func := "bargate/bargatelaw11.VlanSets", spec := "vlanSets", plainKeys := false, apart := false, narrowed := true }
def VlanSetsUptoSaid : Prop := vlanSetsUptoRow.holds Try.pinned (OpenSpec.upto vlanSetsSpec)

/-- 'bargatelaw11.VlanClasses', WHERE WHAT IT READS IS OF BULK AT MOST 1048576: true; the input reads as it did. -/
def vlanClassesUptoRow : OpenClaim := { program := "ytddfjnjhgeofmaa", sum := "b763f6b88acb15b1dd6ae7a444ebc7ebf2915e086c8dd4d144b413ba96e2f5df", func := "bargate/bargatelaw11.VlanClasses", spec := "vlanClasses", plainKeys := false, apart := false, narrowed := true }
def VlanClassesUptoSaid : Prop := vlanClassesUptoRow.holds Try.pinned (OpenSpec.upto vlanClassesSpec)

/-- 'bargatelaw11.VlanMany', WHERE WHAT IT READS IS OF BULK AT MOST 1048576: true; the input reads as it did. -/
def vlanManyUptoRow : OpenClaim := { program := "ytddfjnjhgeofmaa", sum := "b763f6b88acb15b1dd6ae7a444ebc7ebf2915e086c8dd4d144b413ba96e2f5df", func := "bargate/bargatelaw11.VlanMany", spec := "vlanMany", plainKeys := false, apart := false, narrowed := true }
def VlanManyUptoSaid : Prop := vlanManyUptoRow.holds Try.pinned (OpenSpec.upto vlanManySpec)

/-- 'bargatelaw11.VlanAll', WHERE WHAT IT READS IS OF BULK AT MOST 1048576: true; the input reads as it did. -/
def vlanAllUptoRow : OpenClaim := { program := "ytddfjnjhgeofmaa", sum := "b763f6b88acb15b1dd6ae7a444ebc7ebf2915e086c8dd4d144b413ba96e2f5df", func := "bargate/bargatelaw11.VlanAll", spec := "vlanAll", plainKeys := false, apart := false, narrowed := true }
def VlanAllUptoSaid : Prop := vlanAllUptoRow.holds Try.pinned (OpenSpec.upto vlanAllSpec)

/-- 'bargatelaw12.FdbPlays', WHERE WHAT IT READS IS OF BULK AT MOST 1048576: true; the input reads as it did. -/
def fdbPlaysUptoRow : OpenClaim := { program := "ytddfjnjhgeofmaa", sum := "b763f6b88acb15b1dd6ae7a444ebc7ebf2915e086c8dd4d144b413ba96e2f5df", func := "bargate/bargatelaw12.FdbPlays", spec := "fdbPlays", unfollowed := true, recurses := true, plainKeys := false, apart := false, narrowed := true }
def FdbPlaysUptoSaid : Prop := fdbPlaysUptoRow.holds Try.pinned (OpenSpec.upto fdbPlaysSpec)

/-- 'bargatelaw12.FdbApart', WHERE WHAT IT READS IS OF BULK AT MOST 1048576: true; the input reads as it did. -/
def fdbApartUptoRow : OpenClaim := { program := "ytddfjnjhgeofmaa", sum := "b763f6b88acb15b1dd6ae7a444ebc7ebf2915e086c8dd4d144b413ba96e2f5df", func := "bargate/bargatelaw12.FdbApart", spec := "fdbApart", unfollowed := true, recurses := true, plainKeys := false, apart := false, narrowed := true }
def FdbApartUptoSaid : Prop := fdbApartUptoRow.holds Try.pinned (OpenSpec.upto fdbApartSpec)

/-- 'bargatelaw12.FdbMoves', WHERE WHAT IT READS IS OF BULK AT MOST 1048576: true; the input reads as it did. -/
def fdbMovesUptoRow : OpenClaim := { program := "ytddfjnjhgeofmaa", sum := "b763f6b88acb15b1dd6ae7a444ebc7ebf2915e086c8dd4d144b413ba96e2f5df", func := "bargate/bargatelaw12.FdbMoves", spec := "fdbMoves", unfollowed := true, recurses := true, plainKeys := false, apart := false, narrowed := true }
def FdbMovesUptoSaid : Prop := fdbMovesUptoRow.holds Try.pinned (OpenSpec.upto fdbMovesSpec)

/-- 'bargatelaw12.FdbFull', WHERE WHAT IT READS IS OF BULK AT MOST 1048576: true; the input reads as it did. -/
def fdbFullUptoRow : OpenClaim := { program := "ytddfjnjhgeofmaa", sum := "b763f6b88acb15b1dd6ae7a444ebc7ebf2915e086c8dd4d144b413ba96e2f5df", func := "bargate/bargatelaw12.FdbFull", spec := "fdbFull", unfollowed := true, recurses := true, plainKeys := false, apart := false, narrowed := true }
def FdbFullUptoSaid : Prop := fdbFullUptoRow.holds Try.pinned (OpenSpec.upto fdbFullSpec)

/-- 'bargatelaw13.RelayNames', WHERE WHAT IT READS IS OF BULK AT MOST 1048576: true; the input reads as it did. -/
def relayNamesUptoRow : OpenClaim := { program := "ytddfjnjhgeofmaa", sum := "b763f6b88acb15b1dd6ae7a444ebc7ebf2915e086c8dd4d144b413ba96e2f5df", func := "bargate/bargatelaw13.RelayNames", spec := "relayNames", unfollowed := true, recurses := true, plainKeys := false, apart := false, narrowed := true }
def RelayNamesUptoSaid : Prop := relayNamesUptoRow.holds Try.pinned (OpenSpec.upto relayNamesSpec)

/-- 'bargatelaw13.RelayFirst', WHERE WHAT IT READS IS OF BULK AT MOST 1048576: true; the input reads as it did. -/
def relayFirstUptoRow : OpenClaim := { program := "ytddfjnjhgeofmaa", sum := "b763f6b88acb15b1dd6ae7a444ebc7ebf2915e086c8dd4d144b413ba96e2f5df", func := "bargate/bargatelaw13.RelayFirst", spec := "relayFirst", unfollowed := true, recurses := true, plainKeys := false, apart := false, narrowed := true }
def RelayFirstUptoSaid : Prop := relayFirstUptoRow.holds Try.pinned (OpenSpec.upto relayFirstSpec)

/-- 'bargatelaw13.RelayDress', WHERE WHAT IT READS IS OF BULK AT MOST 1048576: true; the input reads as it did. -/
def relayDressUptoRow : OpenClaim := { program := "ytddfjnjhgeofmaa", sum := "b763f6b88acb15b1dd6ae7a444ebc7ebf2915e086c8dd4d144b413ba96e2f5df", func := "bargate/bargatelaw13.RelayDress", spec := "relayDress", unfollowed := true, recurses := true, plainKeys := false, apart := false, narrowed := true }
def RelayDressUptoSaid : Prop := relayDressUptoRow.holds Try.pinned (OpenSpec.upto relayDressSpec)

end Rows
end Go.Proofs.Ytddfjnjhgeofmaa
