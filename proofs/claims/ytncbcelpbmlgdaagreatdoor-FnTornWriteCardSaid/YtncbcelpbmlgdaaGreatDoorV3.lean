import Derived.Test.YtncbcelpbmlgdaaGreatDoorF
namespace Go.Proofs.Tryz
open Go Go.Fw
set_option maxRecDepth 100000
open Go.IntKind (i64)
def U1(s:cO)(K:AZ->Prop):Prop:=K ((2,0,s,()),())
end Go.Proofs.Tryz
