import Derived.Test.YtdmilcleobbphaaGreatF
namespace Go.Proofs.Tryz
open Go Go.Fw Sp
open Go.IntKind (i64)
set_option maxRecDepth 100000
noncomputable section
def asB(f:Int)(c:Int)(b:Bool)(e:Int)(d:jT)(u:Int)(K:dZ->Prop):Prop:=True/\let a:=decide ((0:Int)<=u)&&decide (u<=(2:Int));bif a then bif c==u then K (true,())else K (b,())else K (false,())
def asD(g:Int)(d:Int)(c:Bool)(f:Int)(e:jT)(a:Int)(K:dZ->Prop):Prop:=True/\let b:=decide ((0:Int)<=a)&&decide (a<=(2:Int));bif b then bif d==a then K (true,())else K (c,())else K (false,())
def apz(f:Int)(b:Int)(e:Bool)(d:Int)(c:jT)(u:Int)(K:dZ->Prop):Prop:=True/\let a:=decide ((0:Int)<=u)&&decide (u<=(2:Int));bif a then K (b==u,())else K (false,())
def asE(d:dR)(b:Int)(c:Int)(K:oU->Prop):Prop:=(0<=b/\[((0:Int),()),(1,()),(2,()),(0,()),(1,()),(3,()),((-1:Int),())]≠[])/\∀(a:oU),0<=a.2.1.2.1/\a.1∈[(0,()),(1,()),(2,()),(0,()),(1,()),(3,()),((-1:Int),())]->K a
def avN:Hints:=hints [] [] [] [384] []
def asG(c:gG)(b:iC)(a:Int)(k:gB)(j:kK)(u:Int)(d:Int)(K:Ar×dZ->Prop):Prop:=aV (c,b,a,())/\let i:=(bI (c,b,a,()) d).1.1;let h:=(bI (c,b,a,()) d).1.2.1;let g:=(bI (c,b,a,()) d).1.2.2.1;let f:=(bI (c,b,a,()) d).1.2.2.2.1;let e:=(bI (c,b,a,()) d).1.2.2.2.2.1;let n:=(bI (c,b,a,()) d).2;bif n then True/\let m:=Az (i,h,g,f,e,()) u;bif m then iU (c,b,a,k,j,())/\let l:=dn (c,b,a,k,j,());K ((i,h,g,f,e,()),l,())else K ((i,h,g,f,e,()),false,())else K ((i,h,g,f,e,()),false,())
end
end Go.Proofs.Tryz
