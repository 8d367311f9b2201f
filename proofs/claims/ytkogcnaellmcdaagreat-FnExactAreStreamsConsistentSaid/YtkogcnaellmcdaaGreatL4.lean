import Derived.Test.YtkogcnaellmcdaaGreatF
namespace Go.Proofs.Tryz
open Go Go.Fw Go.RowKit
end Go.Proofs.Tryz
