import Derived.Test.YtkgkfdphbkfjnaaGreatF
import Derived.Test.YtkgkfdphbkfjnaaGreatFwC
import Derived.Shelf.Spec.SlicesInsertGrow
namespace Go.Proofs.Tryz
open Go Go.Fw Go.RowKit Go.Lib
set_option linter.unusedVariables false
set_option linter.unusedSimpArgs false
end Go.Proofs.Tryz
