import Derived.Test.YtflpicdbkomglaaGreatDoorF
import Derived.Test.YtflpicdbkomglaaGreatDoorSp
namespace Go.Proofs.Tryz
open Go Go.Fw Sp
noncomputable section
def AX:PA:=⟨93,[.v (.one (.str))],[.one (.sl eF gm true)],λ((s,()):dG)=>(s.length<=1048576,Sp.pieces 10 s,())⟩
def l9:PA:=⟨27,[.v (.one (.str))],[.one (.sl dV vM false),.one (.int .i64)],λ((text,()):dG)=>(text.length<=1048576,(Sp.scr text).1,(Sp.scr text).2,())⟩
def wP:PA:=⟨153,[.v (.one (.sl dU vK false)),.v (.one (.sl dU vK false))],[.one (.bool)],λ((a,b,()):yj×yj×Unit)=>(True,wH a b,())⟩
def yF:PA:=⟨94,[.v (.agg [.int .i64,.int .i64,.sl dU vK false,.str,.int .i64]),.v (.agg [.int .i64,.int .i64,.sl dU vK false,.str,.int .i64])],[.one (.bool)],λ((a,b,()):zM×zM×Unit)=>(True,Eb a b,())⟩
def ou:PA:=⟨29,[.v (.one (.sl dV vM false)),.v (.one (.sl dV vM false))],[.one (.bool)],λ((a,b,()):List zM×List zM×Unit)=>(True,decide (a=b),())⟩
def pI:PA:=⟨137,[.v (.one (.sl bG jm false)),.v (.one (.int .i64))],[.one (.int .i64)],λ((a,k,()):jJ×eY)=>(0<=k/\k<=10000000/\a.length<=1000000,jq a k,())⟩
def uf:PA:=⟨97,[.v (.one (.sl dU vK false)),.v (.one (.int .i64))],[.one (.int .i64)],λ((a,k,()):yj×eY)=>(0<=k/\k<=5000000/\a.length<=100/\(∀x∈a,x.2.2.2.2.2.1.length<=1000/\x.2.2.2.2.2.2.2.2.1.length<=1000),iw a k,())⟩
def mg:PA:=⟨31,[.v (.one (.sl dV vM false)),.v (.one (.int .i64))],[.one (.int .i64)],λ((a,k,()):List zM×eY)=>(0<=k/\k<=10/\a.length<=40/\(∀x∈a,x.2.2.1.length<=6/\∀y∈x.2.2.1,y.2.2.2.2.2.1.length<=1000/\y.2.2.2.2.2.2.2.2.1.length<=1000),vN a k,())⟩
end
end Go.Proofs.Tryz
