import Derived.Test.YtkgkfdphbkfjnaaGreatV3
import Derived.Test.YtkgkfdphbkfjnaaGreatP12
import Derived.Test.YtkgkfdphbkfjnaaGreatSp
namespace Go.Proofs.Tryz
open Go Go.Fw Go.IntWalk
end Go.Proofs.Tryz
