import Derived.Test.YtlbkigkbmeckbaaGreatP25
namespace Go.Proofs.Tryz
open Go Go.Fw Go.IntWalk
theorem aqs {c y:Sp.jv} {s:Sp.bV} {d:List Sp.aQ} {b:Bool} {df:List Sp.tK} (h:Sp.became c s d b y df true) (hd:Sp.aS d):Sp.fK y∧Sp.dS y=true:=by
 obtain ⟨k1,k2,k3,_⟩:=h.2.1 rfl
 exact ⟨arE k3 (by rw [k2];exact hd),k3⟩
end Go.Proofs.Tryz
