import Derived.Test.YtloghahkelogbaaStream2
namespace Go.Proofs.Ytloghahkelogbaa
open Go.Vc
set_option maxRecDepth 10000
set_option maxHeartbeats 4000000

/-! ### stream: a filter goes, or comes -/

end Go.Proofs.Ytloghahkelogbaa
