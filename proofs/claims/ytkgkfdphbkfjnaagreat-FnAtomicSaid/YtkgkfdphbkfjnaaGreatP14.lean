import Derived.Test.YtkgkfdphbkfjnaaGreatP13
namespace Go.Proofs.Tryz
open Go Go.Fw Go.IntWalk
end Go.Proofs.Tryz
