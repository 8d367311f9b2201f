import Derived.Test.YtlbkigkbmeckbaaGreatV3
import Derived.Test.YtlbkigkbmeckbaaGreatP12
import Derived.Test.YtlbkigkbmeckbaaGreatSp
namespace Go.Proofs.Tryz
open Go Go.Fw Go.IntWalk
end Go.Proofs.Tryz
