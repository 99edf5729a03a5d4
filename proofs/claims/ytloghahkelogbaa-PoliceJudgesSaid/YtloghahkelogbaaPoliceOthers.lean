import Derived.Test.YtloghahkelogbaaPJ1
import Derived.Test.YtloghahkelogbaaArgs
namespace Go.Proofs.Ytloghahkelogbaa
open Go.Vc
set_option maxRecDepth 10000
set_option maxHeartbeats 8000000

/-! ### the law PoliceOthers -/

def oF (i : Nat) : Flt := ⟨0, ⟨2, UInt8.ofNat i, 0, 0, 0, 0⟩, 0, (i : Int)⟩
def othF (i : Nat) : List Flt := (List.range i).map oF
def oR : Rul := ⟨1, -1, -1⟩

theorem pfindF_cons (F : Hdr) (vid : Int) (x : Flt) (r : List Flt) : findF F vid (x :: r) = if x.tells F vid = true then x.strm else findF F vid r := by
  unfold findF
  rw [List.find?_cons]
  cases x.tells F vid <;> rfl

theorem oth_add0 : addF (oF 0) (othF 0) = (0, othF 1) := by kernel_rfl
theorem oth_add1 : addF (oF 1) (othF 1) = (0, othF 2) := by
  unfold addF
  rw [if_neg (by decide +kernel), if_neg (by simp [Flt.same, othF, oF, List.range_succ]), if_neg (by decide +kernel)]
  rfl
theorem oth_add2 : addF (oF 2) (othF 2) = (0, othF 3) := by
  unfold addF
  rw [if_neg (by decide +kernel), if_neg (by simp [Flt.same, othF, oF, List.range_succ]), if_neg (by decide +kernel)]
  rfl

def owant (F : Hdr) : Int := if F.dst = ⟨2, F.dst.a1, 0, 0, 0, 0⟩ ∧ F.dst.a1.toNat < 3 then (F.dst.a1.toNat : Int) else -1

theorem oF_tells (F : Hdr) (vid : Int) (i : Nat) : (oF i).tells F vid = decide (F.dst = ⟨2, UInt8.ofNat i, 0, 0, 0, 0⟩) := by
  unfold Flt.tells oF
  simp

end Go.Proofs.Ytloghahkelogbaa
