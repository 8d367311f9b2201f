import Derived.Test.YtgbobfdlafkijaaGreatP19
import Derived.Test.YtgbobfdlafkijaaGreatSp
namespace Go.Proofs.Tryz
open Go Go.Fw Go.IntWalk
theorem aeh:aG prog G wU yQ:=by
 refine aei (aB (l:=[]) (au ah) (fun x hx=>by cases hx)) (fun ⟨(i,o,s,l,a,_),name,(k,n,w,_),_⟩ _=>⟨(((i,o,s,l,Sp.jQ a name k n w,()),()),()),⟨rfl,rfl,rfl,rfl,rfl⟩⟩) ?_
 intro f0 f1 f2 f3 f4 name k n s hin hp
 have hp:f4.length≤1000:=hp
 refine eX (fun i (x:List Sp.gZ)=>(((),i,()),x,())) (fun y=>y.1.2.1) (fun _ _=>rfl) f4.length (by omega) (fun m l=>l=(f4.take m).filter (Sp.lX name)) (by simp) (fun I μ m l hm hJ next=>?_) fun I μ l hJ=>?_
 · subst hJ
   have hl:=adr f4 (Sp.lX name) m
   dsimp only
   refine dW (by omega) ⟨⟨by omega,by omega⟩,af (fun h=>⟨⟨by omega,by omega⟩,by rw [dS];simp only [List.length_cons,List.length_nil];omega,rfl,next _ ?_⟩) fun h=>⟨rfl,next _ ?_⟩⟩
   · rw [LM _ hm,if_pos (show Sp.lX name (Sp.dB f4 m)=true from h)];rfl
   · rw [LM _ hm,if_neg (show ¬ Sp.lX name (Sp.dB f4 m)=true from fun h'=>by have h:Sp.lX name (Sp.dB f4 m)=false:=h;rw [h] at h';cases h'),List.append_nil]
 · rw [List.take_length] at hJ
   have hl:l.length≤1000:=by rw [hJ];have:=List.length_filter_le (Sp.lX name) f4;omega
   dsimp only
   refine dX (by omega) (af (fun h=>?_) fun h=>?_)
   · have hk:k≠0:=by simpa using h
     have fin:∀ m:Nat,m≤l.length→(∀ i,i<m→Sp.lF name (Sp.dB l i)=true)→(m<l.length→Sp.lF name (Sp.dB l m)=false)→
      ((0:Int)≤m∧(m:Int)≤l.length)∧0+(List.drop 0 (List.take m l)).length≤big∧(List.drop 0 (List.take m l)).length+[(name,k,n,s,())].length≤big∧((0:Int)≤m∧(m:Int)≤l.length)∧
      (List.drop 0 (List.take m l)++[(name,k,n,s,())]).length+(List.drop m (List.take l.length l)).length≤big∧
      (f0=f0∧f1=f1∧f2=f2∧f3=f3∧List.drop 0 (List.take m l)++[(name,k,n,s,())]++List.drop m (List.take l.length l)=Sp.jQ f4 name k n s):=by
      intro m hm h1 h2
      refine ⟨⟨by omega,by omega⟩,?_,?_,⟨by omega,by omega⟩,?_,rfl,rfl,rfl,rfl,auX hk hJ hm h1 h2⟩
      all_goals
       rw [dS]
       simp only [List.length_append,List.length_drop,List.length_take,List.length_cons,List.length_nil]
       omega
     refine ku l.length (by omega) (fun m=>∀ i,i<m→Sp.lF name (Sp.dB l i)=true) (fun i hi=>by omega) (fun I μ m hm hJ2 next=>?_) fun I μ hJ2=>?_
     · dsimp only
       refine dW (by omega) ⟨⟨by omega,by omega⟩,hm,af (fun h2=>⟨rfl,next (gI (f:=fun i=>Sp.lF name (Sp.dB l i)) hJ2 h2)⟩) fun h2=>?_⟩
       exact fin m (by omega) hJ2 fun _=>h2
     · dsimp only
       exact dX (by omega) (fin l.length (Nat.le_refl _) hJ2 fun h'=>by omega)
   · have hk:k=0:=by simpa using h
     subst hk
     exact ⟨rfl,rfl,rfl,rfl,by rw [al1];exact hJ⟩
theorem aCP {s:Sp.eG} (h:Sp.aH s=true) {i j:Nat} (hi:i<s.2.1.length) (hj:j<s.2.1.length) (e:(Sp.fileAt s.2.1 i).1=(Sp.fileAt s.2.1 j).1):i=j:=by
 rcases Nat.lt_trichotomy i j with h1|h1|h1
 · have:=Sp.ahl h j i h1 hj;omega
 · exact h1
 · have:=Sp.ahl h i j h1 hi;omega
theorem aBy {c c1:Sp.EG} {g:Sp.aT} {df:List Sp.adx} {ok:Bool} {m:Nat} (hcur:Sp.o5 c=true) (hm:m<c.2.1.length) (hid:(Sp.fileAt c.2.1 m).1=g.1) (hg:Sp.dD c.1 g=true) (h:Sp.updated c g c1 df ok):
 ok=true∧df=Sp.O5 (Sp.J5 c) (Sp.J5 c1)∧Sp.mF c1=(c.1,c.2.1.set m g,c.2.2.1,())∧Sp.vz c1=Sp.vz c∧Sp.o5 c1=true:=by
 obtain ⟨hst,hok,hev⟩:=VG hcur
 have hrep:∃ n,n<c.2.1.length∧Sp.place c.2.1 g.1=n∧Sp.aW (Sp.mF c) g=((c.1,c.2.1.set n g,c.2.2.1,()),true):=by
  rcases Sp.pX (Sp.mF c) g with ⟨_,e⟩|⟨n,hn,h1,h2,h3,e⟩
  · refine (e ⟨hok,?_,hg⟩).elim
    rcases Sp.Ae c.2.1 g.1 with ⟨_,h2⟩|⟨k,_,h2,_⟩
    · exact (h2 m hm hid).elim
    · show 0≤Sp.place c.2.1 g.1;omega
  · exact ⟨n,hn,h1,e⟩
 obtain ⟨n,hn,hpl,hr⟩:=hrep
 have hnm:n=m:=by
  rcases Sp.Ae c.2.1 g.1 with ⟨_,h2⟩|⟨k,hk,h2,h3,_⟩
  · exact (h2 m hm hid).elim
  · have:k=n:=by omega
    subst this
    exact aCP hok hk hm (h3.trans hid.symm)
 subst hnm
 have hfind:(Sp.fC (Sp.mF c) g.1).1=Sp.fileAt c.2.1 n:=by
  show (bif decide (Sp.place c.2.1 g.1<0) then _ else (Sp.fileAt c.2.1 (Sp.place c.2.1 g.1).toNat,true)).1=_
  rw [hpl,decide_eq_false (by omega)];rfl
 obtain ⟨u1,u2,_⟩:=h
 have hz:(Sp.o5 c&&(Sp.aW (Sp.mF c) g).2)=true:=by rw [hcur,hr];rfl
 have hok1:ok=true:=u1.trans hz
 obtain ⟨k1,k2,k3,k4⟩:=u2 hok1
 have hst2:=Sp.ady g hok
 rw [hr] at k1 k3 hst2
 rw [hfind] at k3
 have hd:=(yJ hst).1
 obtain ⟨aI,hl⟩:=ar8 hst
 obtain ⟨E,hE⟩:=Sp.avm [] (fun _=>true) hd hl (Sp.JZ hst2)
 have e:=Sp.aFF hd hn hid hev k3 hE
 refine ⟨hok1,k4,k1,k2,?_⟩
 obtain ⟨a,l,nx,d,r,_⟩:=c1
 have k1':((a,l,nx,()):Sp.eG)=(c.1,c.2.1.set n g,c.2.2.1,()):=k1
 have k2:d=Sp.vz c:=k2
 have e:r=E:=e
 subst k2 e
 have hl2:l=c.2.1.set n g:=congrArg (fun s:Sp.eG=>s.2.1) k1'
 rw [avn (out:=r) (by rw [hst,k1',hst2];rfl) (by rw [hl2];exact hE),decide_eq_true rfl]
theorem aCQ {c:Sp.EG} (hok:Sp.aH (Sp.mF c)=true) {m:Nat} (hm:m<c.2.1.length):Sp.dD c.1 (Sp.fileAt c.2.1 m)=true:=(Sp.qX.1 ((Sp.rD.1 hok).1 m hm)).1
theorem VI {a:List Sp.iZ} {f:Sp.aT} (h:Sp.dD a f=true):Sp.mW a f.2.2.2.2.1=true∧f.2.2.2.2.1.length≤5:=by
 unfold Sp.dD at h
 simp only [Bool.and_eq_true] at h
 have h1:=h.1.1.1.1
 have h2:=h.1.1.1.2
 refine ⟨h1,Nat.le_trans (Sp.aFG h1) ?_⟩
 unfold Sp.ig at h2
 rw [Bool.and_eq_true,decide_eq_true_eq] at h2
 omega
theorem aCR {c:Sp.EG} (hok:Sp.aH (Sp.mF c)=true):Sp.XF c:=fun f hf=>by
 obtain ⟨i,hi,rfl⟩:=List.getElem_of_mem hf
 have at_:Sp.fileAt c.2.1 i=c.2.1[i]:=by unfold Sp.fileAt;rw [List.getD_eq_getElem?_getD,List.getElem?_eq_getElem hi];rfl
 have:=(VI (aCQ hok hi)).2
 rw [at_] at this
 exact Nat.le_trans this (by decide)
theorem aG9 {f g:Sp.aT} {name:Sp.Bytes} {k n:Int} {s:Sp.Bytes} {a:List Sp.iZ} (hf:Sp.dD a f=true) (e1:g.1=f.1) (e2:g.2.1=f.2.1) (e3:g.2.2.2.1=f.2.2.2.1) (e4:g.2.2.2.2.1=Sp.jQ f.2.2.2.2.1 name k n s) (hm:Sp.jh a name k n s=true) (hk:k≠0):Sp.dD a g=true:=by
 have ha:=Sp.aCd (VI hf).1 hm hk
 unfold Sp.dD at hf ⊢
 rw [e1,e2,e3,e4,ha]
 rw [(VI (a:=a) (f:=f) (by unfold Sp.dD;exact hf)).1] at hf
 exact hf
theorem azu {c:Sp.EG} (h:Sp.o5 c=true) (hs:Sp.aO (Sp.vz c)):Sp.jH c:=by
 obtain ⟨hst,hok,hev⟩:=VG h
 have hf:c.2.1.length≤12:=(Sp.rD.1 hok).2.2.1
 have amM:=(Sp.rD.1 hok).2.1
 have h5:c.1.length≤5:=by
  have amM:Sp.ig c.1=true:=amM
  unfold Sp.ig at amM
  rw [Bool.and_eq_true,decide_eq_true_eq] at amM
  omega
 refine ⟨⟨by show c.1.length≤1000;omega,by show c.2.1.length≤1000;omega,fun f hf=>Nat.le_trans (aCR hok f hf) (by decide)⟩,hs,XM hev hs.1 (by omega) aha⟩
end Go.Proofs.Tryz
