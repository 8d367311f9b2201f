import Derived.Test.YtlbkigkbmeckbaaGreatP24
namespace Go.Proofs.Tryz
open Go Go.Fw Go.IntWalk
theorem stays {c:Sp.jB} {s:Sp.bZ} {d:List Sp.aT} {b:Bool} (hb:b=false) {z:Sp.jB} (e:z=c):Sp.became c s d b z [] false:=⟨hb.symm,fun h=>(by cases h),fun _=>⟨e,rfl⟩⟩
end Go.Proofs.Tryz
