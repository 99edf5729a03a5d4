/-
  No cell of these rows narrows 'for every input' (looked for: loops, veiled, ifaces, maps, wideKeys, modest, calm, conditions, laid).
  DERIVED. THE GIVEN ROWS OF THIS SEAT. 3 by the template 'for every input the law returns true; each argument reads behind the call as it read before'; 0 by the template 'total and deterministic' (their statements: YtloghahkelogbaaTotals.lean).
  GIVEN WITH THE SEED: the statements are not yours to turn. If you find one false, say at which input.
  Laid BY PROGRAM, IN A SANDBOX (cutbox-rows.mjs): the forced cells as the released guide's own fill.sh prints them over the translation f45f7dee72a5a64e… (all of the seat's roots in one cut). By AI agents, Wed Nov 11 2026. No macro, syntax, notation, axiom, sorry.
-/
import Derived.Test.YtloghahkelogbaaChecked
import GoSem.Claim
import GoSem.ClaimJoined
import GoSem.ClaimMapViews
import Derived.JoinedTies
import Derived.KernelRfl
namespace Go.Proofs.Ytloghahkelogbaa
/- THE CELL 'sum', in the pinned program and in every row, IS THE sha256 OF THE DUMP (.gsa) THAT YtloghahkelogbaaProg.lean LOADS. Nothing in Lean hashes anything: it is a label: what it is worth is what the hold of that sum in a sandbox is worth. -/
noncomputable def Try.pinned : Pinned := { name := "ytloghahkelogbaa", sum := "f45f7dee72a5a64e7ca82a4248a2255073c2810d4a585e73a26e418e496c7512", checked := Try.checked }
namespace Rows
def none {H : Type} : Left H := { results := [], args := [] }

/-- 'bargatelaw18.PoliceJudges': WHATEVER THE INPUT: true; the input reads as it did. -/
def policeJudgesSpec : ChangeSpec := { name := "policeJudges", fn := fun _ => fun
  | [d1, d2] => { results := [.lit (.bool true)], args := [d1, d2] }
  | _ => none }
def policeJudgesRow : OpenClaim := { program := "ytloghahkelogbaa", sum := "f45f7dee72a5a64e7ca82a4248a2255073c2810d4a585e73a26e418e496c7512", func := "bargate/bargatelaw18.PoliceJudges", spec := "policeJudges", unfollowed := true, recurses := true, apart := false }
def PoliceJudgesSaid : Prop := policeJudgesRow.holds Try.pinned (OpenSpec.ofChange policeJudgesSpec)

/-- ITS FALSE NEIGHBOUR: 'it returns false'. Refute it at one input. -/
def policeJudgesWrong : ChangeSpec := { name := "policeJudges", fn := fun _ => fun
  | [d1, d2] => { results := [.lit (.bool false)], args := [d1, d2] }
  | _ => none }
def PoliceJudgesWrongFalsely : Prop := policeJudgesRow.holds Try.pinned (OpenSpec.ofChange policeJudgesWrong)

/-- 'bargatelaw18.PoliceFull': WHATEVER THE INPUT: true; the input reads as it did. -/
def policeFullSpec : ChangeSpec := { name := "policeFull", fn := fun _ => fun
  | [d] => { results := [.lit (.bool true)], args := [d] }
  | _ => none }
def policeFullRow : OpenClaim := { program := "ytloghahkelogbaa", sum := "f45f7dee72a5a64e7ca82a4248a2255073c2810d4a585e73a26e418e496c7512", func := "bargate/bargatelaw18.PoliceFull", spec := "policeFull", unfollowed := true, recurses := true, apart := false }
def PoliceFullSaid : Prop := policeFullRow.holds Try.pinned (OpenSpec.ofChange policeFullSpec)

/-- ITS FALSE NEIGHBOUR: 'it returns false'. Refute it at one input. -/
def policeFullWrong : ChangeSpec := { name := "policeFull", fn := fun _ => fun
  | [d] => { results := [.lit (.bool false)], args := [d] }
  | _ => none }
def PoliceFullWrongFalsely : Prop := policeFullRow.holds Try.pinned (OpenSpec.ofChange policeFullWrong)

/-- 'bargatelaw18.PoliceOthers': WHATEVER THE INPUT: true; the input reads as it did. -/
def policeOthersSpec : ChangeSpec := { name := "policeOthers", fn := fun _ => fun
  | [d1, d2, d3] => { results := [.lit (.bool true)], args := [d1, d2, d3] }
  | _ => none }
def policeOthersRow : OpenClaim := { program := "ytloghahkelogbaa", sum := "f45f7dee72a5a64e7ca82a4248a2255073c2810d4a585e73a26e418e496c7512", func := "bargate/bargatelaw18.PoliceOthers", spec := "policeOthers", unfollowed := true, recurses := true, apart := false }
def PoliceOthersSaid : Prop := policeOthersRow.holds Try.pinned (OpenSpec.ofChange policeOthersSpec)

/-- ITS FALSE NEIGHBOUR: 'it returns false'. Refute it at one input. -/
def policeOthersWrong : ChangeSpec := { name := "policeOthers", fn := fun _ => fun
  | [d1, d2, d3] => { results := [.lit (.bool false)], args := [d1, d2, d3] }
  | _ => none }
def PoliceOthersWrongFalsely : Prop := policeOthersRow.holds Try.pinned (OpenSpec.ofChange policeOthersWrong)

/- THE SECOND FORM. 'bulk': how many values and letters a reading holds, each counted each time it is reached (what is shared counts as often as it is met; a slice's spare places count too). A statement '..UptoSaid' is the law's where the arguments, and the package variables that the reading takes, are together of bulk at most 1048576: NARROWER than '..Said'. Prove '..Said' where nothing that the law and all that it calls make is longer than what came in: it says more and counts as full. Else prove '..UptoSaid'. A law counts once. -/
mutual
def uptoBulk {H : Type} : DataW H → Nat
  | .lit (.string bytes) => bytes.length + 1
  | .lit _ => 1
  | .nil => 1
  | .ptr d => uptoBulk d + 1
  | .slice elems spare => uptoBulkAll elems + uptoBulkAll spare + 1
  | .agg parts => uptoBulkAll parts + 1
  | .iface _ d => uptoBulk d + 1
  | .map entries => uptoBulkEntries entries + 1
  | .held _ => 1
def uptoBulkAll {H : Type} : List (DataW H) → Nat
  | [] => 0
  | d :: r => uptoBulk d + uptoBulkAll r
def uptoBulkEntries {H : Type} : List (Lit × DataW H) → Nat
  | [] => 0
  | x :: r => uptoBulkEntry x + uptoBulkEntries r
def uptoBulkEntry {H : Type} : Lit × DataW H → Nat
  | (.string bytes, d) => bytes.length + uptoBulk d + 1
  | (_, d) => uptoBulk d + 1
 end
def uptoSmall : (H : Type) → List (DataW H) → Bool := fun _ ds => decide (uptoBulkAll ds ≤ 1048576)
def OpenSpec.upto (s : _root_.Go.ChangeSpec) : _root_.Go.OpenSpec := { _root_.Go.OpenSpec.ofChange s with cond := some uptoSmall }

/-- 'bargatelaw18.PoliceJudges', WHERE WHAT IT READS IS OF BULK AT MOST 1048576: true; the input reads as it did. -/
def policeJudgesUptoRow : OpenClaim := { program := "ytloghahkelogbaa", sum := "f45f7dee72a5a64e7ca82a4248a2255073c2810d4a585e73a26e418e496c7512", func := "bargate/bargatelaw18.PoliceJudges", spec := "policeJudges", unfollowed := true, recurses := true, apart := false, narrowed := true }
def PoliceJudgesUptoSaid : Prop := policeJudgesUptoRow.holds Try.pinned (OpenSpec.upto policeJudgesSpec)

/-- 'bargatelaw18.PoliceFull', WHERE WHAT IT READS IS OF BULK AT MOST 1048576: true; the input reads as it did. -/
def policeFullUptoRow : OpenClaim := { program := "ytloghahkelogbaa", sum := "f45f7dee72a5a64e7ca82a4248a2255073c2810d4a585e73a26e418e496c7512", func := "bargate/bargatelaw18.PoliceFull", spec := "policeFull", unfollowed := true, recurses := true, apart := false, narrowed := true }
def PoliceFullUptoSaid : Prop := policeFullUptoRow.holds Try.pinned (OpenSpec.upto policeFullSpec)

/-- 'bargatelaw18.PoliceOthers', WHERE WHAT IT READS IS OF BULK AT MOST 1048576: true; the input reads as it did. -/
def policeOthersUptoRow : OpenClaim := { program := "ytloghahkelogbaa", sum := "f45f7dee72a5a64e7ca82a4248a2255073c2810d4a585e73a26e418e496c7512", func := "bargate/bargatelaw18.PoliceOthers", spec := "policeOthers", unfollowed := true, recurses := true, apart := false, narrowed := true }
def PoliceOthersUptoSaid : Prop := policeOthersUptoRow.holds Try.pinned (OpenSpec.upto policeOthersSpec)

end Rows
end Go.Proofs.Ytloghahkelogbaa
