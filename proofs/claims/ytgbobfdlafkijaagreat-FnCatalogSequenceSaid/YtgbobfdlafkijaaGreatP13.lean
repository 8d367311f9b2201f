import Derived.Test.YtgbobfdlafkijaaGreatV3
import Derived.Test.YtgbobfdlafkijaaGreatP12
import Derived.Test.YtgbobfdlafkijaaGreatSp
namespace Go.Proofs.Tryz
open Go Go.Fw Go.IntWalk
end Go.Proofs.Tryz
