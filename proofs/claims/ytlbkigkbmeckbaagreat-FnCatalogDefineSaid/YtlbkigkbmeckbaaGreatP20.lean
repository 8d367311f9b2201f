import Derived.Test.YtlbkigkbmeckbaaGreatP19
import Derived.Test.YtlbkigkbmeckbaaGreatSp
namespace Go.Proofs.Tryz
open Go Go.Fw Go.IntWalk
theorem arI {c:Sp.ny} (hok:Sp.aJ (Sp.mJ c)=true) {m:Nat} (hm:m<c.2.1.length):Sp.dO c.1 (Sp.fileAt c.2.1 m)=true:=(Sp.vH.1 ((Sp.qK.1 hok).1 m hm)).1
theorem aoK {a:List Sp.fV} {f:Sp.aZ} (h:Sp.dO a f=true):Sp.jZ a f.2.2.2.2.1=true∧f.2.2.2.2.1.length≤5:=by
 unfold Sp.dO at h
 simp only [Bool.and_eq_true] at h
 have h1:=h.1.1.1.1
 have h2:=h.1.1.1.2
 refine ⟨h1,Nat.le_trans (Sp.aqE h1) ?_⟩
 unfold Sp.eY at h2
 rw [Bool.and_eq_true,decide_eq_true_eq] at h2
 omega
theorem aio {c:Sp.ny} (hok:Sp.aJ (Sp.mJ c)=true):Sp.arf c:=fun f hf=>by
 obtain ⟨i,hi,rfl⟩:=List.getElem_of_mem hf
 have at_:Sp.fileAt c.2.1 i=c.2.1[i]:=by unfold Sp.fileAt;rw [List.getD_eq_getElem?_getD,List.getElem?_eq_getElem hi];rfl
 have:=(aoK (arI hok hi)).2
 rw [at_] at this
 exact Nat.le_trans this (by decide)
theorem ajN {c:Sp.ny} (h:Sp.gy c=true) (hs:Sp.aB (Sp.fM c)):Sp.gq c:=by
 obtain ⟨hst,hok,hev⟩:=LU h
 have hf:c.2.1.length≤12:=(Sp.qK.1 hok).2.2.1
 have aoL:=(Sp.qK.1 hok).2.1
 have h5:c.1.length≤5:=by
  have aoL:Sp.eY c.1=true:=aoL
  unfold Sp.eY at aoL
  rw [Bool.and_eq_true,decide_eq_true_eq] at aoL
  omega
 refine ⟨⟨by show c.1.length≤1000;omega,by show c.2.1.length≤1000;omega,fun f hf=>Nat.le_trans (aio hok f hf) (by decide)⟩,hs,Hu hev hs.1 (by omega) JJ⟩
end Go.Proofs.Tryz
