/-
  No cell of these rows narrows 'for every input' (looked for: loops, veiled, ifaces, maps, wideKeys, modest, calm, conditions, laid).
  DERIVED. THE GIVEN ROWS OF THIS SEAT. 3 by the template 'for every input the law returns true; each argument reads behind the call as it read before'; 0 by the template 'total and deterministic' (their statements: YtcjilkemfmhkgaaTotals.lean).
  GIVEN WITH THE SEED: the statements are not yours to turn. If you find one false, say at which input.
  Laid BY PROGRAM, IN A SANDBOX (cutbox-rows.mjs): the forced cells as the released guide's own fill.sh prints them over the translation d7c80fa32d81d897… (all of the seat's roots in one cut). By AI agents, Wed Nov 11 2026. No macro, syntax, notation, axiom, sorry.
-/
import Derived.Test.YtcjilkemfmhkgaaChecked
import GoSem.Claim
import GoSem.ClaimJoined
import GoSem.ClaimMapViews
import Derived.JoinedTies
import Derived.KernelRfl
namespace Go.Proofs.Ytcjilkemfmhkgaa
/- THE CELL 'sum', in the pinned program and in every row, IS THE sha256 OF THE DUMP (.gsa) THAT YtcjilkemfmhkgaaProg.lean LOADS. Nothing in Lean hashes anything: it is a label: what it is worth is what the hold of that sum in a sandbox is worth. -/
noncomputable def Try.pinned : Pinned := { name := "ytcjilkemfmhkgaa", sum := "d7c80fa32d81d8970010fc4f8fecfb8e6c8f4a7522154d046909668a7130236e", checked := Try.checked }
namespace Rows
def none {H : Type} : Left H := { results := [], args := [] }

/-- 'bargatelaw13.RelayNames': WHATEVER THE INPUT: true; the input reads as it did. -/
def relayNamesSpec : ChangeSpec := { name := "relayNames", fn := fun _ => fun
  | [d] => { results := [.lit (.bool true)], args := [d] }
  | _ => none }
def relayNamesRow : OpenClaim := { program := "ytcjilkemfmhkgaa", sum := "d7c80fa32d81d8970010fc4f8fecfb8e6c8f4a7522154d046909668a7130236e", func := "bargate/bargatelaw13.RelayNames", spec := "relayNames", unfollowed := true, recurses := true, apart := false }
def RelayNamesSaid : Prop := relayNamesRow.holds Try.pinned (OpenSpec.ofChange relayNamesSpec)

/-- ITS FALSE NEIGHBOUR: 'it returns false'. Refute it at one input. -/
def relayNamesWrong : ChangeSpec := { name := "relayNames", fn := fun _ => fun
  | [d] => { results := [.lit (.bool false)], args := [d] }
  | _ => none }
def RelayNamesWrongFalsely : Prop := relayNamesRow.holds Try.pinned (OpenSpec.ofChange relayNamesWrong)

/-- 'bargatelaw13.RelayFirst': WHATEVER THE INPUT: true; the input reads as it did. -/
def relayFirstSpec : ChangeSpec := { name := "relayFirst", fn := fun _ => fun
  | [d1, d2, d3] => { results := [.lit (.bool true)], args := [d1, d2, d3] }
  | _ => none }
def relayFirstRow : OpenClaim := { program := "ytcjilkemfmhkgaa", sum := "d7c80fa32d81d8970010fc4f8fecfb8e6c8f4a7522154d046909668a7130236e", func := "bargate/bargatelaw13.RelayFirst", spec := "relayFirst", unfollowed := true, recurses := true, apart := false }
def RelayFirstSaid : Prop := relayFirstRow.holds Try.pinned (OpenSpec.ofChange relayFirstSpec)

/-- ITS FALSE NEIGHBOUR: 'it returns false'. Refute it at one input. -/
def relayFirstWrong : ChangeSpec := { name := "relayFirst", fn := fun _ => fun
  | [d1, d2, d3] => { results := [.lit (.bool false)], args := [d1, d2, d3] }
  | _ => none }
def RelayFirstWrongFalsely : Prop := relayFirstRow.holds Try.pinned (OpenSpec.ofChange relayFirstWrong)

/-- 'bargatelaw13.RelayDress': WHATEVER THE INPUT: true; the input reads as it did. -/
def relayDressSpec : ChangeSpec := { name := "relayDress", fn := fun _ => fun
  | [d1, d2, d3] => { results := [.lit (.bool true)], args := [d1, d2, d3] }
  | _ => none }
def relayDressRow : OpenClaim := { program := "ytcjilkemfmhkgaa", sum := "d7c80fa32d81d8970010fc4f8fecfb8e6c8f4a7522154d046909668a7130236e", func := "bargate/bargatelaw13.RelayDress", spec := "relayDress", unfollowed := true, recurses := true, apart := false }
def RelayDressSaid : Prop := relayDressRow.holds Try.pinned (OpenSpec.ofChange relayDressSpec)

/-- ITS FALSE NEIGHBOUR: 'it returns false'. Refute it at one input. -/
def relayDressWrong : ChangeSpec := { name := "relayDress", fn := fun _ => fun
  | [d1, d2, d3] => { results := [.lit (.bool false)], args := [d1, d2, d3] }
  | _ => none }
def RelayDressWrongFalsely : Prop := relayDressRow.holds Try.pinned (OpenSpec.ofChange relayDressWrong)

/- THE SECOND FORM. 'bulk': how many values and letters a reading holds, each counted each time it is reached (what is shared counts as often as it is met; a slice's spare places count too). A statement '..UptoSaid' is the law's where the arguments, and the package variables that the reading takes, are together of bulk at most 1048576: NARROWER than '..Said'. Prove '..Said' where nothing that the law and all that it calls make is longer than what came in: it says more and counts as full. Else prove '..UptoSaid'. A law counts once. -/
mutual
def uptoBulk {H : Type} : DataW H → Nat
  | .lit (.string bytes) => bytes.length + 1
  | .lit _ => 1
  | .nil => 1
  | .ptr d => uptoBulk d + 1
  | .slice elems spare => uptoBulkAll elems + uptoBulkAll spare + 1
  | .agg parts => uptoBulkAll parts + 1
  | .iface _ d => uptoBulk d + 1
  | .map entries => uptoBulkEntries entries + 1
  | .held _ => 1
def uptoBulkAll {H : Type} : List (DataW H) → Nat
  | [] => 0
  | d :: r => uptoBulk d + uptoBulkAll r
def uptoBulkEntries {H : Type} : List (Lit × DataW H) → Nat
  | [] => 0
  | x :: r => uptoBulkEntry x + uptoBulkEntries r
def uptoBulkEntry {H : Type} : Lit × DataW H → Nat
  | (.string bytes, d) => bytes.length + uptoBulk d + 1
  | (_, d) => uptoBulk d + 1
 end
def uptoSmall : (H : Type) → List (DataW H) → Bool := fun _ ds => decide (uptoBulkAll ds ≤ 1048576)
def OpenSpec.upto (s : _root_.Go.ChangeSpec) : _root_.Go.OpenSpec := { _root_.Go.OpenSpec.ofChange s with cond := some uptoSmall }

/-- 'bargatelaw13.RelayNames', WHERE WHAT IT READS IS OF BULK AT MOST 1048576: true; the input reads as it did. -/
def relayNamesUptoRow : OpenClaim := { program := "ytcjilkemfmhkgaa", sum := "d7c80fa32d81d8970010fc4f8fecfb8e6c8f4a7522154d046909668a7130236e", func := "bargate/bargatelaw13.RelayNames", spec := "relayNames", unfollowed := true, recurses := true, apart := false, narrowed := true }
def RelayNamesUptoSaid : Prop := relayNamesUptoRow.holds Try.pinned (OpenSpec.upto relayNamesSpec)

/-- 'bargatelaw13.RelayFirst', WHERE WHAT IT READS IS OF BULK AT MOST 1048576: true; the input reads as it did. -/
def relayFirstUptoRow : OpenClaim := { program := "ytcjilkemfmhkgaa", sum := "d7c80fa32d81d8970010fc4f8fecfb8e6c8f4a7522154d046909668a7130236e", func := "bargate/bargatelaw13.RelayFirst", spec := "relayFirst", unfollowed := true, recurses := true, apart := false, narrowed := true }
def RelayFirstUptoSaid : Prop := relayFirstUptoRow.holds Try.pinned (OpenSpec.upto relayFirstSpec)

/-- 'bargatelaw13.RelayDress', WHERE WHAT IT READS IS OF BULK AT MOST 1048576: true; the input reads as it did. -/
def relayDressUptoRow : OpenClaim := { program := "ytcjilkemfmhkgaa", sum := "d7c80fa32d81d8970010fc4f8fecfb8e6c8f4a7522154d046909668a7130236e", func := "bargate/bargatelaw13.RelayDress", spec := "relayDress", unfollowed := true, recurses := true, apart := false, narrowed := true }
def RelayDressUptoSaid : Prop := relayDressUptoRow.holds Try.pinned (OpenSpec.upto relayDressSpec)

end Rows
end Go.Proofs.Ytcjilkemfmhkgaa
