import Derived.Test.YtkgkfdphbkfjnaaGreatP25
namespace Go.Proofs.Tryz
open Go Go.Fw Go.IntWalk
end Go.Proofs.Tryz
