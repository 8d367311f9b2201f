import Derived.Test.YtlbkigkbmeckbaaGreatP19
import Derived.Test.YtlbkigkbmeckbaaGreatSp
namespace Go.Proofs.Tryz
open Go Go.Fw Go.IntWalk
theorem Q7:ai prog G kE.e:=by
 refine Q8 (aj ah trivial) (fun ⟨(i,o,s,l,a,_),name,(k,n,w,_),_⟩ _=>⟨(((i,o,s,l,Sp.fH a name k n w,()),()),()),⟨rfl,rfl,rfl,rfl,rfl⟩⟩) ?_
 intro f0 f1 f2 f3 f4 name k n s hin hp
 dsimp only [kE] at hp ⊢
 have hp:f4.length≤1000:=hp
 refine dM (fun i (x:List Sp.dR)=>(((),i,()),x,())) (fun y=>y.1.2.1) (fun _ _=>rfl) f4.length (by omega) (fun m l=>l=(f4.take m).filter (Sp.jy name)) (by simp) (fun I μ m l hm hJ next=>?_) fun I μ l hJ=>?_
 · subst hJ
   have hl:=P5 f4 (Sp.jy name) m
   dsimp only
   refine dh (by omega) ⟨⟨by omega,by omega⟩,af (fun h=>⟨⟨by omega,by omega⟩,by rw [bU];simp only [List.length_cons,List.length_nil];omega,rfl,next _ ?_⟩) fun h=>⟨rfl,next _ ?_⟩⟩
   · rw [DJ _ hm,if_pos (show Sp.jy name (Sp.bT f4 m)=true from h)];rfl
   · rw [DJ _ hm,if_neg (show ¬ Sp.jy name (Sp.bT f4 m)=true from fun h'=>by have h:Sp.jy name (Sp.bT f4 m)=false:=h;rw [h] at h';cases h'),List.append_nil]
 · rw [List.take_length] at hJ
   have hl:l.length≤1000:=by rw [hJ];have:=List.length_filter_le (Sp.jy name) f4;omega
   dsimp only
   refine dm (by omega) (af (fun h=>?_) fun h=>?_)
   · have hk:k≠0:=by simpa using h
     have fin:∀ m:Nat,m≤l.length→(∀ i,i<m→Sp.kM name (Sp.bT l i)=true)→(m<l.length→Sp.kM name (Sp.bT l m)=false)→
      ((0:Int)≤m∧(m:Int)≤l.length)∧0+(List.drop 0 (List.take m l)).length≤big∧(List.drop 0 (List.take m l)).length+[(name,k,n,s,())].length≤big∧((0:Int)≤m∧(m:Int)≤l.length)∧
      (List.drop 0 (List.take m l)++[(name,k,n,s,())]).length+(List.drop m (List.take l.length l)).length≤big∧
      (f0=f0∧f1=f1∧f2=f2∧f3=f3∧List.drop 0 (List.take m l)++[(name,k,n,s,())]++List.drop m (List.take l.length l)=Sp.fH f4 name k n s):=by
      intro m hm h1 h2
      refine ⟨⟨by omega,by omega⟩,?_,?_,⟨by omega,by omega⟩,?_,rfl,rfl,rfl,rfl,aik hk hJ hm h1 h2⟩
      all_goals
       rw [bU]
       simp only [List.length_append,List.length_drop,List.length_take,List.length_cons,List.length_nil]
       omega
     refine jd l.length (by omega) (fun m=>∀ i,i<m→Sp.kM name (Sp.bT l i)=true) (fun i hi=>by omega) (fun I μ m hm hJ2 next=>?_) fun I μ hJ2=>?_
     · dsimp only
       refine dh (by omega) ⟨⟨by omega,by omega⟩,hm,af (fun h2=>⟨rfl,next (eY (f:=fun i=>Sp.kM name (Sp.bT l i)) hJ2 h2)⟩) fun h2=>?_⟩
       exact fin m (by omega) hJ2 fun _=>h2
     · dsimp only
       exact dm (by omega) (fin l.length (Nat.le_refl _) hJ2 fun h'=>by omega)
   · have hk:k=0:=by simpa using h
     subst hk
     exact ⟨rfl,rfl,rfl,rfl,by rw [aae];exact hJ⟩
theorem alJ {s:Sp.bZ} (h:Sp.aH s=true) {i j:Nat} (hi:i<s.2.1.length) (hj:j<s.2.1.length) (e:(Sp.fileAt s.2.1 i).1=(Sp.fileAt s.2.1 j).1):i=j:=by
 rcases Nat.lt_trichotomy i j with h1|h1|h1
 · have:=Sp.VA h j i h1 hj;omega
 · exact h1
 · have:=Sp.VA h i j h1 hi;omega
theorem auw {c c1:Sp.jB} {g:Sp.aK} {df:List Sp.IX} {ok:Bool} {m:Nat} (hcur:Sp.iH c=true) (hm:m<c.2.1.length) (hid:(Sp.fileAt c.2.1 m).1=g.1) (hg:Sp.cO c.1 g=true) (h:Sp.updated c g c1 df ok):
 ok=true∧df=Sp.Gu (Sp.zQ c) (Sp.zQ c1)∧Sp.aY c1=(c.1,c.2.1.set m g,c.2.2.1,())∧Sp.jW c1=Sp.jW c∧Sp.iH c1=true:=by
 obtain ⟨hst,hok,hev⟩:=KN hcur
 have hrep:∃ n,n<c.2.1.length∧Sp.place c.2.1 g.1=n∧Sp.aP (Sp.aY c) g=((c.1,c.2.1.set n g,c.2.2.1,()),true):=by
  rcases Sp.jC (Sp.aY c) g with ⟨_,e⟩|⟨n,hn,h1,h2,h3,e⟩
  · refine (e ⟨hok,?_,hg⟩).elim
    rcases Sp.kP c.2.1 g.1 with ⟨_,h2⟩|⟨k,_,h2,_⟩
    · exact (h2 m hm hid).elim
    · show 0≤Sp.place c.2.1 g.1;omega
  · exact ⟨n,hn,h1,e⟩
 obtain ⟨n,hn,hpl,hr⟩:=hrep
 have hnm:n=m:=by
  rcases Sp.kP c.2.1 g.1 with ⟨_,h2⟩|⟨k,hk,h2,h3,_⟩
  · exact (h2 m hm hid).elim
  · have:k=n:=by omega
    subst this
    exact alJ hok hk hm (h3.trans hid.symm)
 subst hnm
 have hfind:(Sp.au (Sp.aY c) g.1).1=Sp.fileAt c.2.1 n:=by
  show (bif decide (Sp.place c.2.1 g.1<0) then _ else (Sp.fileAt c.2.1 (Sp.place c.2.1 g.1).toNat,true)).1=_
  rw [hpl,decide_eq_false (by omega)];rfl
 obtain ⟨u1,u2,_⟩:=h
 have hz:(Sp.iH c&&(Sp.aP (Sp.aY c) g).2)=true:=by rw [hcur,hr];rfl
 have hok1:ok=true:=u1.trans hz
 obtain ⟨k1,k2,k3,k4⟩:=u2 hok1
 have hst2:=Sp.IZ g hok
 rw [hr] at k1 k3 hst2
 rw [hfind] at k3
 have hd:=(uy hst).1
 obtain ⟨aG,hl⟩:=afI hst
 obtain ⟨E,hE⟩:=Sp.aiF [] (fun _=>true) hd hl (Sp.CX hst2)
 have e:=Sp.auy hd hn hid hev k3 hE
 refine ⟨hok1,k4,k1,k2,?_⟩
 obtain ⟨a,l,nx,d,r,_⟩:=c1
 have k1':((a,l,nx,()):Sp.bZ)=(c.1,c.2.1.set n g,c.2.2.1,()):=k1
 have k2:d=Sp.jW c:=k2
 have e:r=E:=e
 subst k2 e
 have hl2:l=c.2.1.set n g:=congrArg (fun s:Sp.bZ=>s.2.1) k1'
 rw [aiG (out:=r) (by rw [hst,k1',hst2];rfl) (by rw [hl2];exact hE),decide_eq_true rfl]
theorem arb {c:Sp.jB} (hok:Sp.aH (Sp.aY c)=true) {m:Nat} (hm:m<c.2.1.length):Sp.cO c.1 (Sp.fileAt c.2.1 m)=true:=(Sp.nS.1 ((Sp.lK.1 hok).1 m hm)).1
theorem aiW {a:List Sp.gU} {f:Sp.aK} (h:Sp.cO a f=true):Sp.lH a f.2.2.2.2.1=true∧f.2.2.2.2.1.length≤5:=by
 unfold Sp.cO at h
 simp only [Bool.and_eq_true] at h
 have h1:=h.1.1.1.1
 have h2:=h.1.1.1.2
 refine ⟨h1,Nat.le_trans (Sp.auz h1) ?_⟩
 unfold Sp.fM at h2
 rw [Bool.and_eq_true,decide_eq_true_eq] at h2
 omega
theorem avv {c:Sp.jB} (hok:Sp.aH (Sp.aY c)=true):Sp.JS c:=fun f hf=>by
 obtain ⟨i,hi,rfl⟩:=List.getElem_of_mem hf
 have at_:Sp.fileAt c.2.1 i=c.2.1[i]:=by unfold Sp.fileAt;rw [List.getD_eq_getElem?_getD,List.getElem?_eq_getElem hi];rfl
 have:=(aiW (arb hok hi)).2
 rw [at_] at this
 exact Nat.le_trans this (by decide)
theorem anf {c:Sp.jB} (h:Sp.iH c=true) (hs:Sp.aV (Sp.jW c)):Sp.iy c:=by
 obtain ⟨hst,hok,hev⟩:=KN h
 have hf:c.2.1.length≤12:=(Sp.lK.1 hok).2.2.1
 have asr:=(Sp.lK.1 hok).2.1
 have h5:c.1.length≤5:=by
  have asr:Sp.fM c.1=true:=asr
  unfold Sp.fM at asr
  rw [Bool.and_eq_true,decide_eq_true_eq] at asr
  omega
 refine ⟨⟨by show c.1.length≤1000;omega,by show c.2.1.length≤1000;omega,fun f hf=>Nat.le_trans (avv hok f hf) (by decide)⟩,hs,J4 hev hs.1 (by omega) MZ⟩
end Go.Proofs.Tryz
