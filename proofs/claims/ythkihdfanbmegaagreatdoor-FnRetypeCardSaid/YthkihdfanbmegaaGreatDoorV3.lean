import Derived.Test.YthkihdfanbmegaaGreatDoorF
namespace Go.Proofs.Tryz
open Go Go.Fw
set_option maxRecDepth 100000
open Go.IntKind (i64)
end Go.Proofs.Tryz
