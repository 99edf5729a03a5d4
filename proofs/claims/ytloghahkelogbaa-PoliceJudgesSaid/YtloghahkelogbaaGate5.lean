import Derived.Test.YtloghahkelogbaaGate4
namespace Go.Proofs.Ytloghahkelogbaa
open Go.Vc
set_option maxRecDepth 100000
set_option maxHeartbeats 4000000

def l0 : Gl := ⟨10, 100, 0, [⟨1, 30⟩, ⟨2, 30⟩]⟩
def lz : Gl := ⟨0, 0, 0, []⟩
def Gl.fits (l : Gl) (t : Int) : Bool := decide (l.check = 0 ∧ 0 ≤ t ∧ t < 4611686018427387904)

end Go.Proofs.Ytloghahkelogbaa
