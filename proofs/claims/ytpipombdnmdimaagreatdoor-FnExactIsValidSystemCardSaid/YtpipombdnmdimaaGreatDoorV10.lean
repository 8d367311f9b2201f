import Derived.Test.YtpipombdnmdimaaGreatDoorF
namespace Go.Proofs.Tryz
open Go Go.Fw
open Go.IntKind (i64)
set_option maxRecDepth 100000
def amF(f:Int)(c:Int)(b:Bool)(e:Int)(d:lW)(u:Int)(K:bG->Prop):Prop:=True/\let a:=decide ((0:Int)<=u)&&decide (u<=(2:Int));bif a then bif c==u then K (true,())else K (b,())else K (false,())
def amH(g:Int)(d:Int)(c:Bool)(f:Int)(e:lW)(a:Int)(K:bG->Prop):Prop:=True/\let b:=decide ((0:Int)<=a)&&decide (a<=(2:Int));bif b then bif d==a then K (true,())else K (c,())else K (false,())
def acE(s:aU)(K:Hw->Prop):Prop:=K ((2,0,s,()),())
end Go.Proofs.Tryz
