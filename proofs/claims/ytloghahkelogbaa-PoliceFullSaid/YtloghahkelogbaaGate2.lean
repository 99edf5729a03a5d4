import Derived.Test.YtloghahkelogbaaGate1
namespace Go.Proofs.Ytloghahkelogbaa
open Go.Vc
set_option maxRecDepth 10000
set_option maxHeartbeats 4000000

/-! ### gate: edge by edge -/

def pU (l : Gl) (k : Nat) (x : Int) : Bool := bAnd .i64 (l.state x) (bShl .i64 1 (k : Int)) == 0
def pF (l : Gl) (k : Nat) (x : Int) : Bool := bAnd .i64 (l.state x) (bShl .i64 1 (k : Int)) != 0

theorem step_big {l : Gl} (ok : l.Ok) {t : Int} (ht : 0 ≤ t ∧ t ≤ 4611686018427387904) {i : Nat} (hi : i ≤ 131) : 0 ≤ l.step t i ∧ l.step t i ≤ 4611686149427387904 := by
  have h1 := step_ge ok t i
  have h2 := step_le ok t i
  have b1 := ok.b1
  have c0 := ok.c0
  have c1 := ok.c1
  have h3 : (i : Int) * l.cycle ≤ 131 * 1000000000 := Int.mul_le_mul (by omega) c1 (by omega) (by omega)
  refine ⟨by omega, by omega⟩

end Go.Proofs.Ytloghahkelogbaa
