import Derived.Test.YtkgkfdphbkfjnaaGreatP26
namespace Go.Proofs.Tryz
open Go Go.Fw Go.IntWalk
end Go.Proofs.Tryz
