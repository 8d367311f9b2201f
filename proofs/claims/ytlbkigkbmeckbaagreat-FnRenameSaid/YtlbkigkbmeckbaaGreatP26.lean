import Derived.Test.YtlbkigkbmeckbaaGreatP25
namespace Go.Proofs.Tryz
open Go Go.Fw Go.IntWalk
end Go.Proofs.Tryz
