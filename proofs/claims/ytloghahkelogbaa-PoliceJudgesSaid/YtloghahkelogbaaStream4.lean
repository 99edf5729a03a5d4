import Derived.Test.YtloghahkelogbaaStream3
namespace Go.Proofs.Ytloghahkelogbaa
open Go.Vc
set_option maxRecDepth 10000
set_option maxHeartbeats 4000000

/-! ### stream: the table -/

def Res.tab (g : Nat) (s : Value) (fs : List Flt) : Res := Res.pair (Res.own s 62 9 fs.length (fs.flatMap Flt.cells)) (Res.ob g (.cells [s].toArray 53 (0, 0)))

def Flt.bad (f : Flt) : Bool := decide (f.kind < 0 ∨ f.kind ≥ 2 ∨ f.vid < 0 ∨ f.vid > 4094 ∨ f.strm < 0)

def addF (f : Flt) (fs : List Flt) : Nat × List Flt := if f.bad = true then (1, fs) else if fs.any f.same = true then (22, fs) else if fs.length = 64 then (20, fs) else (0, fs ++ [f])

theorem tab_filts {h0 h : Heap} {rs : List Res} {i : Nat} {s : Value} {fs : List Flt} (H : Hp h0 h rs) (hn : nth rs i = some (Res.own s 62 9 fs.length (fs.flatMap Flt.cells))) : FiltsV h s fs :=
  RowsV.of_own (D := 0) (H.get i hn) (fun _ => rfl) (by decide)

def remF (f : Flt) (fs : List Flt) (r : Nat) (fs' : List Flt) : Prop := (r = 21 ∧ fs' = fs ∧ fs.any f.same = false) ∨ ∃ (i : Nat) (x : Flt), r = 0 ∧ fs' = fs.eraseIdx i ∧ fs[i]? = some x ∧ f.same x = true ∧ (fs.take i).any f.same = false

end Go.Proofs.Ytloghahkelogbaa
