import Derived.Test.YtloghahkelogbaaGate1
namespace Go.Proofs.Ytloghahkelogbaa
open Go.Vc
set_option maxRecDepth 10000
set_option maxHeartbeats 4000000

/-! ### gate: edge by edge -/

def pU (l : Gl) (k : Nat) (x : Int) : Bool := bAnd .i64 (l.state x) (bShl .i64 1 (k : Int)) == 0
def pF (l : Gl) (k : Nat) (x : Int) : Bool := bAnd .i64 (l.state x) (bShl .i64 1 (k : Int)) != 0

end Go.Proofs.Ytloghahkelogbaa
