import Derived.Test.YtkgkfdphbkfjnaaGreatP19
import Derived.Test.YtkgkfdphbkfjnaaGreatSp
namespace Go.Proofs.Tryz
open Go Go.Fw Go.IntWalk Sp
theorem agA {s:bT} (h:ax s=true) {i j:Nat} (hi:i<s.2.1.length) (hj:j<s.2.1.length) (e:(Sp.fileAt s.2.1 i).1=(Sp.fileAt s.2.1 j).1):i=j:=by
 rcases Nat.lt_trichotomy i j with h1|h1|h1
 · have:=UF h j i h1 hj;omega
 · exact h1
 · have:=UF h i j h1 hi;omega
theorem aop {c c1:gm} {g:aN} {df:List qF} {ok:Bool} {m:Nat} (hcur:dF c=true) (hm:m<c.2.1.length) (hid:(Sp.fileAt c.2.1 m).1=g.1) (hg:dm c.1 g=true) (h:Sp.updated c g c1 df ok):
 ok=true∧df=Fb (uV c) (uV c1)∧aT c1=(c.1,c.2.1.set m g,c.2.2.1,())∧bJ c1=bJ c∧dF c1=true:=by
 obtain ⟨hst,hok,hev⟩:=kG hcur
 have hrep:∃ n,n<c.2.1.length∧Sp.place c.2.1 g.1=n∧aV (aT c) g=((c.1,c.2.1.set n g,c.2.2.1,()),true):=by
  rcases jl (aT c) g with ⟨_,e⟩|⟨n,hn,h1,h2,h3,e⟩
  · refine (e ⟨hok,?_,hg⟩).elim
    rcases lZ c.2.1 g.1 with ⟨_,h2⟩|⟨k,_,h2,_⟩
    · exact (h2 m hm hid).elim
    · show 0≤Sp.place c.2.1 g.1;omega
  · exact ⟨n,hn,h1,e⟩
 obtain ⟨n,hn,hpl,hr⟩:=hrep
 have hnm:n=m:=by
  rcases lZ c.2.1 g.1 with ⟨_,h2⟩|⟨k,hk,h2,h3,_⟩
  · exact (h2 m hm hid).elim
  · have:k=n:=by omega
    subst this
    exact agA hok hk hm (h3.trans hid.symm)
 subst hnm
 have hfind:(aO (aT c) g.1).1=Sp.fileAt c.2.1 n:=by
  show (bif decide (Sp.place c.2.1 g.1<0) then _ else (Sp.fileAt c.2.1 (Sp.place c.2.1 g.1).toNat,true)).1=_
  rw [hpl,decide_eq_false (by omega)];rfl
 obtain ⟨u1,u2,_⟩:=h
 have hz:(dF c&&(aV (aT c) g).2)=true:=by rw [hcur,hr];rfl
 have hok1:ok=true:=u1.trans hz
 obtain ⟨k1,k2,k3,k4⟩:=u2 hok1
 have hst2:=Et g hok
 rw [hr] at k1 k3 hst2
 rw [hfind] at k3
 have hd:=(ji hst).1
 obtain ⟨aI,hl⟩:=Om hst
 obtain ⟨E,hE⟩:=MX [] (fun _=>true) hd hl (rW hst2)
 have e:=aoq hd hn hid hev k3 hE
 refine ⟨hok1,k4,k1,k2,?_⟩
 obtain ⟨a,l,nx,d,r,_⟩:=c1
 have k1':((a,l,nx,()):bT)=(c.1,c.2.1.set n g,c.2.2.1,()):=k1
 have k2:d=bJ c:=k2
 have e:r=E:=e
 subst k2 e
 have hl2:l=c.2.1.set n g:=congrArg (fun s:bT=>s.2.1) k1'
 rw [Sj (out:=r) (by rw [hst,k1',hst2];rfl) (by rw [hl2];exact hE),decide_eq_true rfl]
theorem alc {c:gm} (hok:ax (aT c)=true) {m:Nat} (hm:m<c.2.1.length):dm c.1 (Sp.fileAt c.2.1 m)=true:=(lW.1 ((kz.1 hok).1 m hm)).1
theorem aeR {a:List gW} {f:aN} (h:dm a f=true):jT a f.2.2.2.2.1=true∧f.2.2.2.2.1.length≤5:=by
 unfold dm at h
 simp only [Bool.and_eq_true] at h
 have h1:=h.1.1.1.1
 have h2:=h.1.1.1.2
 refine ⟨h1,Nat.le_trans (aor h1) ?_⟩
 unfold fQ at h2
 rw [Bool.and_eq_true,decide_eq_true_eq] at h2
 omega
theorem apy {c:gm} (hok:ax (aT c)=true):Zb c:=fun f hf=>by
 obtain ⟨i,hi,rfl⟩:=List.getElem_of_mem hf
 have at_:Sp.fileAt c.2.1 i=c.2.1[i]:=by unfold Sp.fileAt;rw [List.getD_eq_getElem?_getD,List.getElem?_eq_getElem hi];rfl
 have:=(aeR (alc hok hi)).2
 rw [at_] at this
 exact Nat.le_trans this (by decide)
theorem anz {c:gm} (h:dF c=true) (hs:aA (bJ c)):dO c:=by
 obtain ⟨hst,hok,hev⟩:=kG h
 have hf:c.2.1.length≤12:=(kz.1 hok).2.2.1
 have ami:=(kz.1 hok).2.1
 have h5:c.1.length≤5:=by
  have ami:fQ c.1=true:=ami
  unfold fQ at ami
  rw [Bool.and_eq_true,decide_eq_true_eq] at ami
  omega
 refine ⟨⟨by show c.1.length≤1000;omega,by show c.2.1.length≤1000;omega,fun f hf=>Nat.le_trans (apy hok f hf) (by decide)⟩,hs,Kw hev hs.1 (by omega) MZ⟩
end Go.Proofs.Tryz
