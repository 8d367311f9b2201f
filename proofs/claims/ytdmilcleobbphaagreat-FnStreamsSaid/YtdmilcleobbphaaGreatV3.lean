import Derived.Test.YtdmilcleobbphaaGreatF
namespace Go.Proofs.Tryz
open Go Go.Fw Sp
open Go.IntKind (i64)
set_option maxRecDepth 100000
noncomputable section
def ahi:Hints:=hints [9,9,12,14] [] [] [] []
abbrev alm(b:Oa)(k:mr)(a:Int):=iK b.1.1 (bM k a)
def afe(k:mr)(a:Int)(K:UB->Prop):Prop:=fK k/\∀(b:Oa),b.1.1=k->True/\fK k/\bif !gQ k then K ((b.1.1,false,()),())else bif decide (bM k a<0)then K ((b.1.1,false,()),())else(aj (bM k a) k)/\bif decide ((iK k (bM k a)).2.2.2.2.2.1<=0)then K ((b.1.1,false,()),())else(aj (bM k a) b.1.1)/\(bM k a).toNat<b.1.1.length/\(aj (bM k a) b.1.1)/\(bM k a).toNat<b.1.1.length/\K ((List.set b.1.1 (bM k a).toNat ((alm b k a).1,(alm b k a).2.1,(alm b k a).2.2.1,(alm b k a).2.2.2.1,(alm b k a).2.2.2.2.1,i64.wrap ((alm b k a).2.2.2.2.2.1-1),()),true,()),())
def abO:Hints:=hints [10] [(5,⟨[(.slot 3 0,225,90,gV,false)],⟨[(0,.one (.l 90 gV))],[]⟩,⟨[(3,.one (.ref 225)),(4,.one .i)],[(225,.arr 90 gV false)]⟩⟩)] [] [] []
def aac(k:mr)(K:Oa->Prop):Prop:=fK k/\bif !gQ k then fK k/\∀(e:Oa),e.1.1=k->K e else let c:=((k,()),());LP (α:=lJ×PZ) (((),0,()),[],()) λI b a=>bif bJ a.1.2.1 k then(aj a.1.2.1 k)/\bif decide ((iK k a.1.2.1).2.2.2.2.2.1>0)then(aj a.1.2.1 k)/\a.2.1.length+[iK k a.1.2.1].length<=big/\NX c I b (((),i64.wrap (a.1.2.1+1),()),a.2.1++[iK k a.1.2.1],()) a else bif a.1.2.1==i64.wrap ((↑k.length:Int)-1)then(aj a.1.2.1 k)/\a.2.1.length+[iK k a.1.2.1].length<=big/\NX c I b (((),i64.wrap (a.1.2.1+1),()),a.2.1++[iK k a.1.2.1],()) a else NX c I b (((),i64.wrap (a.1.2.1+1),()),a.2) a else fK a.2.1/\∀(d:Oa),d.1.1=a.2.1->K d
def afC:Hints:=hints [1] [] [] [] []
def adE(K:ad6->Prop):Prop:=True/\∀(a:ad6),a.1.1=Sp.usual->K a
end
end Go.Proofs.Tryz
