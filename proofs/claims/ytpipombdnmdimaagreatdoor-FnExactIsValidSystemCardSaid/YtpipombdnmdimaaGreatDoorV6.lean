import Derived.Test.YtpipombdnmdimaaGreatDoorF
namespace Go.Proofs.Tryz
open Go Go.Fw
open Go.IntKind (i64)
set_option maxRecDepth 100000
def ajF:Hints:=hints [] [(5,⟨[],⟨[(0,.one (.sl 3 iW false))],[]⟩,⟨[(3,.one (.int .i64)),(4,.one (.int .i64))],[]⟩⟩)] [(3,⟨[],⟨[(0,.one (.sl 3 iW false))],[]⟩,⟨[],[]⟩⟩)] [] []
def agS(b:fD)(K:fB->Prop):Prop:=let e:=((b,()),());∃(J:nC->Prop),(bif decide ((↑b.length:Int)<1)then False else e=e/\J ((),()))/\∀(f:nC),J f->((0:Int)<=0/\0<(↑b.length:Int))/\let d:=((b,()),());LP (α:=Gf) (((b.getD (Int.toNat 0) (0,())).1,1,()),()) λI c a=>bif decide (a.1.2.1<(↑b.length:Int))then(0<=a.1.2.1/\a.1.2.1<(↑b.length:Int))/\d=d/\I ((if(b.getD a.1.2.1.toNat (0,())).1>a.1.1 then(b.getD a.1.2.1.toNat (0,())).1 else a.1.1,i64.wrap (a.1.2.1+1),()),())/\c ((if(b.getD a.1.2.1.toNat (0,())).1>a.1.1 then(b.getD a.1.2.1.toNat (0,())).1 else a.1.1,i64.wrap (a.1.2.1+1),()),())<c a else K ((a.1.1,()),())
end Go.Proofs.Tryz
