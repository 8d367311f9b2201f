import Derived.Test.YtlmamafnoigopaaGreatDoorF
namespace Go.Proofs.Tryz
open Go Go.Fw Go.RowKit
theorem anO{w w':World}(hG:G.ok w)(h:Below w.heap.size w w'):G.ok w':=G.stable w w' hG h.size λb hb=>h.block b (ati hb (G.low w hG))
end Go.Proofs.Tryz
