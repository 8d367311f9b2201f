import Derived.Test.YtlbkigkbmeckbaaGreatP21
namespace Go.Proofs.Tryz
open Go Go.Fw Go.IntWalk
theorem anJ {a b:Sp.ny} (h1:Sp.mJ a=Sp.mJ b) (h2:Sp.fM a=Sp.fM b) (h3:Sp.CQ a=Sp.CQ b):a=b:=by
 obtain ⟨x1,x2,x3,x4,x5,_⟩:=a
 obtain ⟨y1,y2,y3,y4,y5,_⟩:=b
 have t1:x1=y1:=congrArg (fun s:Sp.dG=>s.1) h1
 have t2:x2=y2:=congrArg (fun s:Sp.dG=>s.2.1) h1
 have t3:x3=y3:=congrArg (fun s:Sp.dG=>s.2.2.1) h1
 have t4:x4=y4:=h2
 have t5:x5=y5:=h3
 rw [t1,t2,t3,t4,t5]
theorem aqF {a b:Sp.ny} (ha:Sp.gy a=true) (hb:Sp.gy b=true) (h1:Sp.mJ a=Sp.mJ b) (h2:Sp.fM a=Sp.fM b):a=b:=by
 obtain ⟨hst,_,e1⟩:=LU ha
 obtain ⟨_,_,e2⟩:=LU hb
 have hf:a.2.1=b.2.1:=congrArg (fun s:Sp.dG=>s.2.1) h1
 rw [← hf,← h2] at e2
 exact anJ h1 h2 (Sp.LH (nV hst).1 e1 e2)
end Go.Proofs.Tryz
