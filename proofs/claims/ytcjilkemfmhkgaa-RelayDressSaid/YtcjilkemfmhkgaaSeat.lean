/- What is said of the whole program, once for all the statements of a seat. -/
import Derived.Test.YtcjilkemfmhkgaaRows
import Derived.WalkKit
import Derived.ProofKit
import Derived.OpenShut
import Derived.ShutString
import Derived.ChangeOld
import Derived.Below
import Derived.JoinedOf
namespace Go.Proofs.Ytcjilkemfmhkgaa.Seat
open Go.ChangeShapes Go.WideShapes Go.ChangeAt Go.RowKit
set_option maxRecDepth 100000

theorem make_cut {P : Program} {rest : List (List Char)} (h : behindMainWord (wordsSigns P.initOrder.toList) = ( "cut").toList :: rest) : P.make = some .cut := by
  unfold Program.make
  rw [h]
  rfl
theorem strip_cut (rest : List (List Char)) : stripLifts liftWords (( "cut").toList :: rest) = ([], ( "cut").toList :: rest) := by kernel_rfl
theorem lifts_cut {P : Program} {rest : List (List Char)} (h : behindMainWord (wordsSigns P.initOrder.toList) = ( "cut").toList :: rest) : P.headLifts = [] := by
  unfold Program.headLifts
  rw [h, strip_cut]
  rfl
theorem final_cut {P : Program} {rest : List (List Char)} (h : behindMainWord (wordsSigns P.initOrder.toList) = ( "cut").toList :: rest) : P.liftsFinal = false := by
  unfold Program.liftsFinal
  rw [lifts_cut h, h]
  rfl
theorem may_cut {P : Program} {rest : List (List Char)} (h : behindMainWord (wordsSigns P.initOrder.toList) = ( "cut").toList :: rest) (h1 : P.laysLater = false) (h2 : P.bearsReflect = false) (h3 : P.doorFits [] = true) : P.mayEnter = true := by
  unfold Program.mayEnter
  rw [h]
  simp only [strip_cut, h1, h2, h3]
  rfl
theorem beq_of {α : Type} [BEq α] {a b b' : α} (h : b = b') (e : (a == b') = true) : (a == b) = true := by rw [h]; exact e

theorem andB {a b : Bool} (h : a = true) (k : b = true) : (a && b) = true := by rw [h, k]; rfl

theorem joined_of {P : Program} {f : FuncId} {fn : Func} {s : ChangeSpec} {c : OpenClaim} (k1 : c.wf (OpenSpec.ofChange s) = true) (k2 : laidOutB P = true) (k3 : mapsRowed P = true) (k4 : fn.params.all (P.readableRec ·) = true) (k5 : namedTie P c.named s.vars = true)
    (k6 : (c.stops == []) = true) (k7 : (P.stops == []) = true) (k8 : (c.knobs == []) = true) (k9 : (P.stopKnobs == []) = true) (k10 : (c.inPlace == P.inPlace f) = true) (k11 : (c.unfollowed == P.unfollowed f) = true) (k12 : (c.recurses == P.recurses f) = true) (k13 : (c.named == P.varsNamed f) = true)
    (k14 : (c.maps == (fn.params.toList ++ s.plain.varTypes P).any (P.mapsRec ·)) = true) (k15 : (c.ifaces == (fn.params.toList ++ s.plain.varTypes P).any (P.ifacesRec ·)) = true) (k16 : (c.mapsOut == P.mapsAmong fn.resultTypes.toList) = true)
    (k17 : (c.loops == (fn.params.toList ++ s.plain.varTypes P).any (P.loopsFrom ·)) = true) (k17b : (c.wideKeys == (fn.params.toList ++ s.plain.varTypes P ++ fn.resultTypes.toList).any (P.wideKeysFrom ·)) = true)
    (k18 : s.vars.all (P.varReadable ·) = true) (k19 : fn.resultTypes.all (fun t => P.readableRec t && decide (t < P.types.size)) = true) (k20 : (c.ifacesOut == fn.resultTypes.toList.any (P.ifacesRec ·)) = true) (k21 : (c.loopsOut == fn.resultTypes.toList.any (P.loopsFrom ·)) = true)
    (k22 : (c.plainKeys == P.plainKeys) = true) (k23 : c.shortTexts.isNone = true) (k23b : P.stopsHeard = true) (k24 : P.mayEnter = true) (k24b : (c.lifted == P.liftsFinal) = true) (k24c : (P.make == some c.make) = true)
    (k25 : (c.kinds == (if c.domain.isEmpty then [] else fn.params.toList.map fun t => match P.underlying t with | some (.int k) => some k | _ => none)) = true) (k26 : (c.pinned == c.pinnedBy) = true)
    (k27 : (c.veiled == (fn.params.toList ++ s.plain.varTypes P ++ fn.resultTypes.toList).any (P.veiledRec ·)) = true) (k28 : c.veiledFits P fn.params.toList (fn.params.toList ++ s.plain.varTypes P ++ fn.resultTypes.toList) = true) :
    joinedFacts P f fn s c = true := by
  unfold joinedFacts
  exact andB (andB (andB (andB (andB (andB (andB (andB (andB (andB (andB (andB (andB (andB (andB (andB (andB (andB (andB (andB (andB (andB (andB (andB (andB (andB (andB (andB (andB (andB (andB k1 k2) k3) k4) k5) k6) k7) k8) k9) k10) k11) k12) k13) k14) k15) k16) k17) k17b) k18) k19) k20) k21) k22) k23) k23b) k24) k24b) k24c) k25) k26) k27) k28

def codes : List Nat := [104, 97, 114, 110, 101, 115, 115, 32, 100, 54, 98, 101, 49, 56, 102, 53, 57, 97, 51, 50, 101, 52, 56, 99, 57, 54, 101, 48, 56, 101, 97, 51, 54, 101, 98, 55, 97, 49, 97, 51, 48, 102, 56, 56, 51, 57, 101, 99, 52, 48, 49, 100, 50, 101, 57, 49, 97, 48, 49, 55, 53, 100, 48, 51, 99, 48, 55, 57, 101, 56, 56, 52, 32, 99, 117, 116, 32, 97, 116, 32, 98, 97, 114, 103, 97, 116, 101, 47, 98, 97, 114, 103, 97, 116, 101, 108, 97, 119, 49, 51, 46, 82, 101, 108, 97, 121, 78, 97, 109, 101, 115, 32, 98, 97, 114, 103, 97, 116, 101, 47, 98, 97, 114, 103, 97, 116, 101, 108, 97, 119, 49, 51, 46, 82, 101, 108, 97, 121, 70, 105, 114, 115, 116, 32, 98, 97, 114, 103, 97, 116, 101, 47, 98, 97, 114, 103, 97, 116, 101, 108, 97, 119, 49, 51, 46, 82, 101, 108, 97, 121, 68, 114, 101, 115, 115]
theorem order1 : Try.pinned.checked.prog.initOrder = String.ofList (codes.map Char.ofNat) := by kernel_rfl
theorem order : Try.pinned.checked.prog.initOrder.toList = codes.map Char.ofNat := by rw [order1, String.toList_ofList]
theorem words0 : behindMainWord (wordsSigns (codes.map Char.ofNat)) = ( "cut").toList :: (behindMainWord (wordsSigns (codes.map Char.ofNat))).tail := by kernel_rfl
theorem words : behindMainWord (wordsSigns Try.pinned.checked.prog.initOrder.toList) = ( "cut").toList :: (behindMainWord (wordsSigns (codes.map Char.ofNat))).tail := by rw [order]; exact words0
theorem later : Try.pinned.checked.prog.laysLater = false := by kernel_rfl
theorem reflect : Try.pinned.checked.prog.bearsReflect = false := by kernel_rfl
theorem door : Try.pinned.checked.prog.doorFits [] = true := by kernel_rfl
theorem may : Try.pinned.checked.prog.mayEnter = true := may_cut words later reflect door
theorem make_ : Try.pinned.checked.prog.make = some .cut := make_cut words
theorem final_ : Try.pinned.checked.prog.liftsFinal = false := final_cut words
theorem own : ownKnob Try.prog.godebug = none := by kernel_rfl
theorem laidOut : laidOutB Try.prog = true := by kernel_rfl
theorem laid : laidOutB Try.pinned.checked.prog = true := laidOut
theorem rowed : mapsRowed Try.pinned.checked.prog = true := by kernel_rfl
theorem stops : (Try.pinned.checked.prog.stops == []) = true := by kernel_rfl
theorem knobs : (Try.pinned.checked.prog.stopKnobs == []) = true := by kernel_rfl
theorem heard : Try.pinned.checked.prog.stopsHeard = true := by kernel_rfl

end Go.Proofs.Ytcjilkemfmhkgaa.Seat
