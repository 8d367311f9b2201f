import Derived.Test.YtlbkigkbmeckbaaGreatP23
import Derived.Test.YtlbkigkbmeckbaaGreatL2
import Derived.Test.YtlbkigkbmeckbaaGreatSp
namespace Go.Proofs.Tryz
open Go Go.Fw Go.IntWalk
end Go.Proofs.Tryz
