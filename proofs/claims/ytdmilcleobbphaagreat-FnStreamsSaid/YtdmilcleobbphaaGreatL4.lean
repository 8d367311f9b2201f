import Derived.Test.YtdmilcleobbphaaGreatF
namespace Go.Proofs.Tryz
open Go Go.Fw Go.RowKit
theorem rD{w w':World}(a:G.ok w)(h:Below w.heap.size w w'):G.ok w':=G.stable w w' a h.size λb U=>h.block b (aQO U (G.low w a))
end Go.Proofs.Tryz
