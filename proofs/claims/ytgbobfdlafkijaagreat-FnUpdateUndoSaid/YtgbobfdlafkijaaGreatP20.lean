import Derived.Test.YtgbobfdlafkijaaGreatP19
import Derived.Test.YtgbobfdlafkijaaGreatSp
namespace Go.Proofs.Tryz
open Go Go.Fw Go.IntWalk
theorem azB {l:List (Int×Unit)} {s:Int} {m:Nat} (hm:m≤l.length) (h1:∀ i,i<m→decide ((l.getD i (0,())).1<s)=true) (h2:m<l.length→decide ((l.getD m (0,())).1<s)=false):
 Sp.Jw l s=bif decide (m<l.length)&&(l.getD m (0,())).1==s then l else l.take m++[(s,())]++l.drop m:=by
 obtain ⟨e1,_⟩:=Sp.Tf (d:=((0:Int),())) l m hm (p:=fun x=>decide (x.1<s)) h1 h2
 unfold Sp.Jw
 rw [e1]
 have:(l.take m).length=m:=by rw [List.length_take];omega
 rw [this]
theorem aCt (l:List (Int×Unit)) (s:Int):(Sp.Jw l s).length≤l.length+1:=by
 unfold Sp.Jw
 dsimp only
 generalize (l.takeWhile fun x=>decide (x.1<s)).length=n
 cases decide (n<l.length)&&(l.getD n (0,())).1==s with
 |true=>exact Nat.le_succ _
 |false=>
  show (l.take n++[(s,())]++l.drop n).length≤_
  simp only [List.length_append,List.length_take,List.length_drop,List.length_cons,List.length_nil]
  omega
theorem apd:aA prog G FB GV:=by
 refine ape (aC (l:=[]) (au ah) (fun x hx=>by cases hx)) ?_
 intro l s hin hp
 have hp:l.length≤1000:=hp
 have fin:∀ m:Nat,m≤l.length→Sp.Jw l s=l.take m++[(s,())]++l.drop m→((0:Int)≤m∧(m:Int)≤l.length)∧0+(List.drop 0 (List.take m l)).length≤big∧(List.drop 0 (List.take m l)).length+[(s,())].length≤big∧((0:Int)≤m∧(m:Int)≤l.length)∧
  (List.drop 0 (List.take m l)++[(s,())]).length+(List.drop m (List.take l.length l)).length≤big∧(List.drop 0 (List.take m l)++[(s,())]++List.drop m (List.take l.length l),())=(Sp.Jw l s,()):=by
  intro m hm h
  refine ⟨⟨by omega,by omega⟩,?_,?_,⟨by omega,by omega⟩,?_,?_⟩
  · rw [dU];simp only [List.length_drop,List.length_take];omega
  · rw [dU];simp only [List.length_drop,List.length_take,List.length_cons,List.length_nil];omega
  · rw [dU];simp only [List.length_append,List.length_drop,List.length_take,List.length_cons,List.length_nil];omega
  · rw [h,List.take_length,List.drop_zero]
 refine jH l.length (by omega) (fun n=>∀ i,i<n→decide ((l.getD i (0,())).1<s)=true) (fun i hi=>by omega) (fun I μ n hn hJ next=>?_) fun I μ hJ=>?_
 · dsimp only
   refine eF (by omega) ⟨⟨by omega,by omega⟩,af (fun h=>⟨rfl,next (fA (f:=fun i=>decide ((l.getD i (0,())).1<s)) hJ h)⟩) fun h=>eF (by omega) ⟨⟨by omega,by omega⟩,?_⟩⟩
   have e:=azB (Nat.le_of_lt hn) hJ fun _=>h
   rw [decide_eq_true hn,Bool.true_and] at e
   refine af (fun h2=>?_) fun h2=>fin n (Nat.le_of_lt hn) ?_
   · rw [show ((l.getD n (0,())).1==s)=true from h2] at e
     rw [e];rfl
   · rw [show ((l.getD n (0,())).1==s)=false from h2] at e
     exact e
 · dsimp only
   refine eG (by omega) (eG (by omega) (fin l.length (Nat.le_refl _) ?_))
   have e:=azB (Nat.le_refl _) hJ fun h=>by omega
   rw [decide_eq_false (by omega)] at e
   exact e
theorem Nb (l xs:List (Int×Unit)):(Sp.vG l xs).length≤l.length+xs.length:=by
 induction xs generalizing l with
 |nil=>exact Nat.le_refl _
 |cons x r ih=>
  have:=ih (Sp.Jw l x.1)
  have:=aCt l x.1
  show (Sp.vG (Sp.Jw l x.1) r).length≤_
  rw [List.length_cons];omega
theorem asc (l xs:List (Int×Unit)) (x:Int×Unit):Sp.vG l (xs++[x])=Sp.Jw (Sp.vG l xs) x.1:=by
 unfold Sp.vG;rw [List.foldl_append];rfl
theorem abJ:aA prog G uY xC:=by
 refine abK (aC (l:=[(FB, .pure GV),(ru, .pure su)]) (au ah) (by simp only [List.forall_mem_cons];exact ⟨⟨apd,alQ⟩,⟨V6,Ur⟩,fun x hx=>by cases hx⟩)) ?_
 intro l nm x y hin hp
 obtain ⟨h1,h2⟩:l.length≤400∧x.length≤400:=hp
 refine gQ (fun i (z:List (Int×Unit))=>((z,i,()),())) (fun y=>y.1.2.1) (fun _ _=>rfl) l.length (by omega) (fun n z=>z=Sp.vG [] ((l.take n).filter fun z=>!Sp.dS y z.1)) rfl (fun I μ n z hn hJ next=>?_) fun I μ z hJ=>?_
 · subst hJ
   have hl:(Sp.vG [] ((l.take n).filter fun z=>!Sp.dS y z.1)).length≤n:=by
    have a:=Nb [] ((l.take n).filter fun z=>!Sp.dS y z.1)
    have b:=List.length_filter_le (fun z:Int×Unit=>!Sp.dS y z.1) (l.take n)
    rw [List.length_take] at b
    rw [List.length_nil] at a
    omega
   have step:=ql (fun z:Int×Unit=>!Sp.dS y z.1) (0,()) l hn
   dsimp only
   refine eF (by omega) ⟨⟨by omega,by omega⟩,trivial,af (fun h=>⟨⟨by omega,by omega⟩,by omega,rfl,next _ ?_⟩) fun h=>⟨rfl,next _ ?_⟩⟩
   · have h:(!Sp.dS y (l.getD n (0,())).1)=true:=h
     rw [step,h]
     exact (asc _ _ _).symm
   · have h:(!Sp.dS y (l.getD n (0,())).1)=false:=h
     rw [step,h];simp
 · subst hJ
   rw [List.take_length]
   dsimp only
   have hl:(Sp.vG [] (l.filter fun z=>!Sp.dS y z.1)).length≤l.length:=by
    have a:=Nb [] (l.filter fun z=>!Sp.dS y z.1)
    have b:=List.length_filter_le (fun z:Int×Unit=>!Sp.dS y z.1) l
    rw [List.length_nil] at a
    omega
   refine eG (by omega) (gQ (fun i (z:List (Int×Unit))=>((z,i,()),())) (fun y=>y.1.2.1) (fun _ _=>rfl) x.length (by omega) (fun n z=>z=Sp.vG (Sp.vG [] (l.filter fun z=>!Sp.dS y z.1)) (x.take n)) rfl (fun I μ n z hn hJ next=>?_) fun I μ z hJ=>?_)
   · subst hJ
     have a:=Nb (Sp.vG [] (l.filter fun z=>!Sp.dS y z.1)) (x.take n)
     rw [List.length_take] at a
     dsimp only
     refine eF (by omega) ⟨⟨by omega,by omega⟩,by omega,rfl,next _ ?_⟩
     rw [Sp.take_succ' x n (0,()) hn,asc];rfl
   · subst hJ
     rw [List.take_length]
     have a:=Nb (Sp.vG [] (l.filter fun z=>!Sp.dS y z.1)) x
     dsimp only
     exact eG (by omega) ⟨by rw [dU];omega,rfl⟩
theorem ayj (l x y:List (Int×Unit)):(Sp.A7 l x y).length≤l.length+x.length:=by
 have a:=Nb (Sp.vG [] (l.filter fun z=>!Sp.dS y z.1)) x
 have b:=Nb [] (l.filter fun z=>!Sp.dS y z.1)
 have c:=List.length_filter_le (fun z:Int×Unit=>!Sp.dS y z.1) l
 rw [List.length_nil] at b
 show (Sp.vG (Sp.vG [] _) x).length≤_
 omega
abbrev DF0:Sp.Tv:=([],[],[],())
theorem ajV:aG prog G BL Em:=by
 refine ajW (aC (l:=[(uY, .pure xC)]) (au ah) (by simp only [List.forall_mem_cons];exact ⟨⟨abJ,Z8⟩,fun x hx=>by cases hx⟩)) (fun ⟨a,d,_⟩ _=>⟨((Sp.oO a d,()),()),rfl⟩) ?_
 intro a d hin hp
 obtain ⟨ha,hd⟩:Sp.UY a∧Sp.UZ d:=hp
 have hal:=ha.1
 have hdl:=hd.1
 refine gQ (fun i (x:List Sp.dJ)=>(((),i,()),x,())) (fun y=>y.1.2.1) (fun _ _=>rfl) a.length (by omega) (fun n l=>l=Sp.oO (a.take n) d) rfl (fun I μ n l hn hJ next=>?_) fun I μ l hJ=>?_
 · subst hJ
   have hl:(Sp.oO (a.take n) d).length≤n:=by unfold Sp.oO;rw [List.length_map,List.length_take];omega
   have h0:(a.getD n Ep).2.1.length≤100:=ha.2 _ (getD_mem (d:=Ep) hn)
   dsimp only
   rw [Int.toNat_natCast]
   refine eF (by omega) ⟨⟨by omega,by omega⟩,⟨by omega,by omega⟩,by have h0:(a.getD n ([],[],())).2.1.length≤100:=h0;rw [dU];omega,?_⟩
   refine gQ (fun i (x:Sp.dJ)=>((i,()),x,())) (fun y=>y.1.1) (fun _ _=>rfl) d.length (by omega) (fun k x=>x=((a.getD n Ep).1,((d.take k).filter fun y=>y.1==(a.getD n Ep).1).foldl (fun l y=>Sp.A7 l y.2.1 y.2.2.1) (a.getD n Ep).2.1,())∧x.2.1.length≤100+20*k) ⟨rfl,by rw [Nat.mul_zero];exact h0⟩ (fun I μ k x hk hJ ak8=>?_) fun I μ x hJ=>?_
   · obtain ⟨hx,hxl⟩:=hJ
     have step:=ql (fun y:Sp.Tv=>y.1==(a.getD n Ep).1) DF0 d hk
     have hdk:(d.getD k DF0).2.1.length≤20:=hd.2 _ (getD_mem (d:=DF0) hk)
     have hx1:x.1=(a.getD n Ep).1:=by rw [hx]
     dsimp only
     rw [hx1]
     refine eF (by omega) ⟨⟨by omega,by omega⟩,af (fun h=>⟨⟨by omega,by omega⟩,⟨by omega,by have hdk:(d.getD k ([],[],[],())).2.1.length≤20:=hdk;rw [Int.toNat_natCast];omega⟩,rfl,ak8 _ ⟨?_,?_⟩⟩) fun h=>⟨rfl,ak8 _ ⟨?_,?_⟩⟩⟩
     · have h:((d.getD k DF0).1==(a.getD n Ep).1)=true:=h
       rw [step,h,hx,cond_true,List.foldl_append];rfl
     · have:=ayj x.2.1 (d.getD k DF0).2.1 (d.getD k DF0).2.2.1
       show (Sp.A7 x.2.1 (d.getD k DF0).2.1 (d.getD k DF0).2.2.1).length≤_
       omega
     · have h:((d.getD k DF0).1==(a.getD n Ep).1)=false:=h
       rw [step,h,hx,cond_false,List.append_nil]
     · show x.2.1.length≤_;omega
   · obtain ⟨hx,_⟩:=hJ
     rw [List.take_length] at hx
     dsimp only
     refine eG (by omega) ⟨by rw [dU];simp only [List.length_cons,List.length_nil];omega,rfl,next _ ?_⟩
     rw [hx]
     unfold Sp.oO
     rw [Sp.take_succ' a n Ep hn,List.map_append];rfl
 · subst hJ
   rw [List.take_length]
   dsimp only
   exact eG (by omega) rfl
theorem abL:aG prog G uZ xG:=by
 refine abM (aC (l:=[]) (au ah) (fun x hx=>by cases hx)) (fun ⟨(i,o,s,l,a,_),name,(k,n,w,_),_⟩ _=>⟨(((i,o,s,l,Sp.kH a name k n w,()),()),()),⟨rfl,rfl,rfl,rfl,rfl⟩⟩) ?_
 intro f0 f1 f2 f3 f4 name k n s hin hp
 have hp:f4.length≤1000:=hp
 refine gQ (fun i (x:List Sp.gy)=>(((),i,()),x,())) (fun y=>y.1.2.1) (fun _ _=>rfl) f4.length (by omega) (fun m l=>l=(f4.take m).filter (Sp.lg name)) (by simp) (fun I μ m l hm hJ next=>?_) fun I μ l hJ=>?_
 · subst hJ
   have hl:=aaU f4 (Sp.lg name) m
   dsimp only
   refine eF (by omega) ⟨⟨by omega,by omega⟩,af (fun h=>⟨⟨by omega,by omega⟩,by rw [dU];simp only [List.length_cons,List.length_nil];omega,rfl,next _ ?_⟩) fun h=>⟨rfl,next _ ?_⟩⟩
   · rw [JH _ hm,if_pos (show Sp.lg name (Sp.cu f4 m)=true from h)];rfl
   · rw [JH _ hm,if_neg (show ¬ Sp.lg name (Sp.cu f4 m)=true from fun h'=>by have h:Sp.lg name (Sp.cu f4 m)=false:=h;rw [h] at h';cases h'),List.append_nil]
 · rw [List.take_length] at hJ
   have hl:l.length≤1000:=by rw [hJ];have:=List.length_filter_le (Sp.lg name) f4;omega
   dsimp only
   refine eG (by omega) (af (fun h=>?_) fun h=>?_)
   · have hk:k≠0:=by simpa using h
     have fin:∀ m:Nat,m≤l.length→(∀ i,i<m→Sp.kR name (Sp.cu l i)=true)→(m<l.length→Sp.kR name (Sp.cu l m)=false)→
      ((0:Int)≤m∧(m:Int)≤l.length)∧0+(List.drop 0 (List.take m l)).length≤big∧(List.drop 0 (List.take m l)).length+[(name,k,n,s,())].length≤big∧((0:Int)≤m∧(m:Int)≤l.length)∧
      (List.drop 0 (List.take m l)++[(name,k,n,s,())]).length+(List.drop m (List.take l.length l)).length≤big∧
      (f0=f0∧f1=f1∧f2=f2∧f3=f3∧List.drop 0 (List.take m l)++[(name,k,n,s,())]++List.drop m (List.take l.length l)=Sp.kH f4 name k n s):=by
      intro m hm h1 h2
      refine ⟨⟨by omega,by omega⟩,?_,?_,⟨by omega,by omega⟩,?_,rfl,rfl,rfl,rfl,aru hk hJ hm h1 h2⟩
      all_goals
       rw [dU]
       simp only [List.length_append,List.length_drop,List.length_take,List.length_cons,List.length_nil]
       omega
     refine jH l.length (by omega) (fun m=>∀ i,i<m→Sp.kR name (Sp.cu l i)=true) (fun i hi=>by omega) (fun I μ m hm hJ2 next=>?_) fun I μ hJ2=>?_
     · dsimp only
       refine eF (by omega) ⟨⟨by omega,by omega⟩,hm,af (fun h2=>⟨rfl,next (fA (f:=fun i=>Sp.kR name (Sp.cu l i)) hJ2 h2)⟩) fun h2=>?_⟩
       exact fin m (by omega) hJ2 fun _=>h2
     · dsimp only
       exact eG (by omega) (fin l.length (Nat.le_refl _) hJ2 fun h'=>by omega)
   · have hk:k=0:=by simpa using h
     subst hk
     exact ⟨rfl,rfl,rfl,rfl,by rw [aji];exact hJ⟩
theorem azC {s:Sp.dQ} (h:Sp.aN s=true) {i j:Nat} (hi:i<s.2.1.length) (hj:j<s.2.1.length) (e:(Sp.fileAt s.2.1 i).1=(Sp.fileAt s.2.1 j).1):i=j:=by
 rcases Nat.lt_trichotomy i j with h1|h1|h1
 · have:=Sp.ZN h j i h1 hj;omega
 · exact h1
 · have:=Sp.ZN h i j h1 hi;omega
theorem ayk {c c1:Sp.Gj} {g:Sp.aQ} {df:List Sp.Tv} {ok:Bool} {m:Nat} (hcur:Sp.yQ c=true) (hm:m<c.2.1.length) (hid:(Sp.fileAt c.2.1 m).1=g.1) (hg:Sp.dA c.1 g=true) (h:Sp.updated c g c1 df ok):
 ok=true∧df=Sp.GR (Sp.wI c) (Sp.wI c1)∧Sp.oW c1=(c.1,c.2.1.set m g,c.2.2.1,())∧Sp.tK c1=Sp.tK c∧Sp.yQ c1=true:=by
 obtain ⟨hst,hok,hev⟩:=Wi hcur
 have hrep:∃ n,n<c.2.1.length∧Sp.place c.2.1 g.1=n∧Sp.bU (Sp.oW c) g=((c.1,c.2.1.set n g,c.2.2.1,()),true):=by
  rcases Sp.wX (Sp.oW c) g with ⟨_,e⟩|⟨n,hn,h1,h2,h3,e⟩
  · refine (e ⟨hok,?_,hg⟩).elim
    rcases Sp.Gi c.2.1 g.1 with ⟨_,h2⟩|⟨k,_,h2,_⟩
    · exact (h2 m hm hid).elim
    · show 0≤Sp.place c.2.1 g.1;omega
  · exact ⟨n,hn,h1,e⟩
 obtain ⟨n,hn,hpl,hr⟩:=hrep
 have hnm:n=m:=by
  rcases Sp.Gi c.2.1 g.1 with ⟨_,h2⟩|⟨k,hk,h2,h3,_⟩
  · exact (h2 m hm hid).elim
  · have:k=n:=by omega
    subst this
    exact azC hok hk hm (h3.trans hid.symm)
 subst hnm
 have hfind:(Sp.jY (Sp.oW c) g.1).1=Sp.fileAt c.2.1 n:=by
  show (bif decide (Sp.place c.2.1 g.1<0) then _ else (Sp.fileAt c.2.1 (Sp.place c.2.1 g.1).toNat,true)).1=_
  rw [hpl,decide_eq_false (by omega)];rfl
 obtain ⟨u1,u2,_⟩:=h
 have hz:(Sp.yQ c&&(Sp.bU (Sp.oW c) g).2)=true:=by rw [hcur,hr];rfl
 have hok1:ok=true:=u1.trans hz
 obtain ⟨k1,k2,k3,k4⟩:=u2 hok1
 have hst2:=Sp.aa0 g hok
 rw [hr] at k1 k3 hst2
 rw [hfind] at k3
 have hd:=(xq hst).1
 obtain ⟨aF,hl⟩:=aoW hst
 obtain ⟨E,hE⟩:=Sp.arV [] (fun _=>true) hd hl (Sp.MZ hst2)
 have e:=Sp.aCu hd hn hid hev k3 hE
 refine ⟨hok1,k4,k1,k2,?_⟩
 obtain ⟨a,l,nx,d,r,_⟩:=c1
 have k1':((a,l,nx,()):Sp.dQ)=(c.1,c.2.1.set n g,c.2.2.1,()):=k1
 have k2:d=Sp.tK c:=k2
 have e:r=E:=e
 subst k2 e
 have hl2:l=c.2.1.set n g:=congrArg (fun s:Sp.dQ=>s.2.1) k1'
 rw [ayh (out:=r) (by rw [hst,k1',hst2];rfl) (by rw [hl2];exact hE),decide_eq_true rfl]
theorem azD {c:Sp.Gj} (h:Sp.yQ c=true):Sp.oG (Sp.tK c) (Sp.wI c)∧(∀ i,i<(Sp.tK c).length→Sp.PW (Sp.fK (Sp.wI c) i))∧Sp.UY (Sp.wI c)∧∀ x∈Sp.wI c,x.2.1.length≤12:=by
 obtain ⟨hst,hok,hev⟩:=Wi h
 have hlen:=(xq hst).2
 have hf:c.2.1.length≤12:=(Sp.nZ.1 hok).2.2.1
 have aD1:∀ x∈Sp.wI c,x.2.1.length≤12:=fun x hx=>by
  obtain ⟨i,hi,rfl⟩:=List.getElem_of_mem hx
  have hi':i<(Sp.tK c).length:=by rw [← hev.order.1];exact hi
  have e:((Sp.wI c)[i]).2.1=Sp.fK (Sp.wI c) i:=by
   unfold Sp.fK Sp.kE
   rw [List.getD_eq_getElem?_getD,List.getElem?_eq_getElem hi];rfl
  rw [e,hev.fix i hi' rfl]
  unfold Sp.sel
  rw [List.length_map]
  exact Nat.le_trans (List.length_filter_le _ _) hf
 exact ⟨hev.order,fun i hi=>by rw [hev.fix i hi rfl];exact Sp.aDt hok _ _,⟨by rw [hev.order.1];omega,fun x hx=>Nat.le_trans (aD1 x hx) (by decide)⟩,aD1⟩
theorem anq {a b:List Sp.dJ} (hb:b.length≤5) (h:∀ x∈b,x.2.1.length≤12):Sp.UZ (Sp.GR a b):=by
 refine ⟨?_,fun y hy=>?_⟩
 · unfold Sp.GR
   exact Nat.le_trans (List.length_filter_le _ _) (by rw [List.length_map];exact hb)
 · obtain ⟨x,hx,rfl⟩:=List.mem_map.1 (List.mem_filter.1 hy).1
   exact Nat.le_trans (abH _ _) (Nat.le_trans (h x hx) (by decide))
theorem azE {c:Sp.Gj} (hok:Sp.aN (Sp.oW c)=true) {m:Nat} (hm:m<c.2.1.length):Sp.dA c.1 (Sp.fileAt c.2.1 m)=true:=(Sp.qf.1 ((Sp.nZ.1 hok).1 m hm)).1
theorem TA {a:List Sp.iH} {f:Sp.aQ} (h:Sp.dA a f=true):Sp.lQ a f.2.2.2.2.1=true∧f.2.2.2.2.1.length≤5:=by
 unfold Sp.dA at h
 simp only [Bool.and_eq_true] at h
 have h1:=h.1.1.1.1
 have h2:=h.1.1.1.2
 refine ⟨h1,Nat.le_trans (Sp.aCv h1) ?_⟩
 unfold Sp.fZ at h2
 rw [Bool.and_eq_true,decide_eq_true_eq] at h2
 omega
theorem auG {c:Sp.Gj} (hok:Sp.aN (Sp.oW c)=true):Sp.akR c:=fun f hf=>by
 obtain ⟨i,hi,rfl⟩:=List.getElem_of_mem hf
 have at_:Sp.fileAt c.2.1 i=c.2.1[i]:=by unfold Sp.fileAt;rw [List.getD_eq_getElem?_getD,List.getElem?_eq_getElem hi];rfl
 have:=(TA (azE hok hi)).2
 rw [at_] at this
 exact Nat.le_trans this (by decide)
theorem aD2 {f g:Sp.aQ} {name:Sp.Bytes} {k n:Int} {s:Sp.Bytes} {a:List Sp.iH} (hf:Sp.dA a f=true) (e1:g.1=f.1) (e2:g.2.1=f.2.1) (e3:g.2.2.2.1=f.2.2.2.1) (e4:g.2.2.2.2.1=Sp.kH f.2.2.2.2.1 name k n s) (hm:Sp.jb a name k n s=true) (hk:k≠0):Sp.dA a g=true:=by
 have ha:=Sp.ay2 (TA hf).1 hm hk
 unfold Sp.dA at hf ⊢
 rw [e1,e2,e3,e4,ha]
 rw [(TA (a:=a) (f:=f) (by unfold Sp.dA;exact hf)).1] at hf
 exact hf
theorem aBM {c:Sp.Gj} (h:Sp.yQ c=true) (hs:Sp.aS (Sp.tK c)):Sp.uN c:=by
 obtain ⟨hst,hok,hev⟩:=Wi h
 have hf:c.2.1.length≤12:=(Sp.nZ.1 hok).2.2.1
 have auH:=(Sp.nZ.1 hok).2.1
 have h5:c.1.length≤5:=by
  have auH:Sp.fZ c.1=true:=auH
  unfold Sp.fZ at auH
  rw [Bool.and_eq_true,decide_eq_true_eq] at auH
  omega
 refine ⟨⟨by show c.1.length≤1000;omega,by show c.2.1.length≤1000;omega,fun f hf=>Nat.le_trans (auG hok f hf) (by decide)⟩,hs,abI hev hs.1 (by omega) aeL⟩
theorem aeR:aA prog G Us Qq:=by
 refine aeS (aC (l:=[(pX, .pure qJ),(BL, .eff (ay uT) Em),(zu, .pure CV),(BM, .eff (ay uQ) Eh),(uZ, .eff (ay nX) xG),(oP, .pure oh),(BN, .eff (ay uS) Ej),(zx, .eff (ay sH) CW),(RV, .pure QT)]) (au ah) (by simp only [List.forall_mem_cons];exact ⟨⟨UA,SY⟩,⟨ajV,agA⟩,⟨agX,aes⟩,⟨ajN,agx⟩,⟨abL,aac⟩,⟨PU,Oe⟩,⟨ajR,agz⟩,⟨agZ,aeu⟩,⟨ayW,ax2⟩,fun x hx=>by cases hx⟩)) ?_
 intro code hin hp
 refine ⟨trivial,af (fun _=>rfl) fun hb=>?_⟩
 have hc:code.length≤1048576:=by have:=jB hb;omega
 refine ⟨hc,?_⟩
 rintro ⟨⟨c,⟨⟩⟩,⟨⟩⟩ hl
 have hl:Sp.XL c:=hl
 obtain ⟨hsm,auH,hpos,hcur⟩:=hl
 refine ⟨hc,?_⟩
 rintro ⟨⟨p,⟨⟩⟩,⟨⟩⟩ ⟨p1,p2⟩
 have p1:p.length=12:=p1
 have p2:∀ x∈p,0≤x.1∧x.1<10000:=p2
 have pa:∀ n,n<12→0≤(p.getD n (0,())).1∧(p.getD n (0,())).1<10000:=fun n hn=>p2 _ (getD_mem (d:=((0:Int),())) (by omega))
 dsimp only
 have q0:=Int.tmod_nonneg (c.2.1.length:Int) (pa 0 (by decide)).1
 have q1:Int.tmod (p.getD 0 (0,())).1 (c.2.1.length:Int)<c.2.1.length:=Int.tmod_lt_of_pos _ (by omega)
 have q2:=Int.tmod_nonneg (5:Int) (pa 1 (by decide)).1
 have q3:Int.tmod (p.getD 1 (0,())).1 5<5:=Int.tmod_lt_of_pos _ (by decide)
 refine ⟨⟨by decide,by omega⟩,by omega,⟨q0,q1⟩,⟨by decide,by omega⟩,by decide,trivial,?_⟩
 have e0:p.getD (Int.toNat 0) (0,())=p.getD 0 (0,()):=rfl
 have e1:p.getD (Int.toNat 1) (0,())=p.getD 1 (0,()):=rfl
 rw [e0,e1]
 generalize Int.tmod (p.getD 1 (0,())).1 5=v at q2 q3
 obtain ⟨m,hm⟩:∃ m:Nat,Int.tmod (p.getD 0 (0,())).1 (c.2.1.length:Int)=m:=⟨_,(Int.toNat_of_nonneg q0).symm⟩
 rw [hm] at q0 q1 ⊢
 have hm':m<c.2.1.length:=by omega
 rw [Int.toNat_natCast]
 obtain ⟨hst,hok,hev⟩:=Wi hcur
 have hfo:=azE hok hm'
 have hfa:=TA hfo
 have hfe:c.2.1.getD m (0,0,false,0,[],())=Sp.fileAt c.2.1 m:=rfl
 rw [hfe]
 refine ⟨Nat.le_trans hfa.2 (by decide),?_⟩
 rintro ⟨⟨g,⟨⟩⟩,⟨⟩⟩ ⟨g1,g2,g3,g4,g5⟩
 have g1:g.1=(Sp.fileAt c.2.1 m).1:=g1
 have g5:g.2.2.2.2.1=Sp.kH (Sp.fileAt c.2.1 m).2.2.2.2.1 [97] 1 v []:=g5
 have aD3:Sp.dA c.1 g=true:=by
  refine aD2 hfo g1 g2 g4 g5 ?_ (by decide)
  rw [auH]
  unfold Sp.jb Sp.kF
  rw [decide_eq_false (show ¬ (1:Int)=0 by decide),decide_eq_true q2,decide_eq_true (show v≤999 by omega)]
  rfl
 have hga:=TA aD3
 refine ⟨⟨hsm,Nat.le_trans hga.2 (by decide),auG hok,Nat.le_trans hga.2 (by decide)⟩,?_⟩
 rintro ⟨⟨c1,df1,ok1,⟨⟩⟩,⟨⟩⟩ hu1
 obtain ⟨a1,a2,a3,a4,a5⟩:=ayk hcur hm' g1.symm aD3 hu1
 obtain ⟨hst1,hok1,hev1⟩:=Wi a5
 have hd1:Sp.aS (Sp.tK c1):=by rw [a4];exact hsm.2.1
 refine ⟨⟨aBM a5 hd1,Nat.le_trans hfa.2 (by decide),auG hok1,Nat.le_trans hfa.2 (by decide)⟩,?_⟩
 rintro ⟨⟨c2,df2,ok2,⟨⟩⟩,⟨⟩⟩ hu2
 have s1:c1.1=c.1:=congrArg (fun s:Sp.dQ=>s.1) a3
 have s2:c1.2.1=c.2.1.set m g:=congrArg (fun s:Sp.dQ=>s.2.1) a3
 have s3:c1.2.2.1=c.2.2.1:=congrArg (fun s:Sp.dQ=>s.2.2.1) a3
 have hat:Sp.fileAt c1.2.1 m=g:=by
  rw [s2];unfold Sp.fileAt
  rw [List.getD_eq_getElem?_getD,List.getElem?_set_self (by omega)];rfl
 obtain ⟨b1,b2,b3,b4,b5⟩:=ayk a5 (m:=m) (by rw [s2,List.length_set];exact hm') (by rw [hat];exact g1) (by rw [s1];exact hfo) hu2
 have hset:(c.2.1.set m g).set m (Sp.fileAt c.2.1 m)=c.2.1:=by
  have:Sp.fileAt c.2.1 m=c.2.1[m]:=by unfold Sp.fileAt;rw [List.getD_eq_getElem?_getD,List.getElem?_eq_getElem hm'];rfl
  rw [List.set_set,this,List.set_getElem_self]
 rw [s1,s2,s3,hset] at b3
 have ayl:Sp.oW c2=Sp.oW c:=b3
 have aC7:Sp.tK c2=Sp.tK c:=b4.trans a4
 obtain ⟨_,_,hev2⟩:=Wi b5
 have aBN:c2.2.1=c.2.1:=congrArg (fun s:Sp.dQ=>s.2.1) ayl
 rw [aBN,aC7] at hev2
 have hres:Sp.wI c2=Sp.wI c:=Sp.ajF (xq hst).1 hev2 hev
 have hcc:c2=c:=by
  obtain ⟨x1,x2,x3,x4,x5,_⟩:=c2
  obtain ⟨y1,y2,y3,y4,y5,_⟩:=c
  have t1:x1=y1:=congrArg (fun s:Sp.dQ=>s.1) ayl
  have t2:x2=y2:=aBN
  have t3:x3=y3:=congrArg (fun s:Sp.dQ=>s.2.2.1) ayl
  have t4:x4=y4:=aC7
  have t5:x5=y5:=hres
  rw [t1,t2,t3,t4,t5]
 obtain ⟨o0,aD4,sm0,id0⟩:=azD hcur
 obtain ⟨o1,aCw,sm1,id1⟩:=azD a5
 rw [a4] at o1 aCw
 have hdl:=(xq hst).2
 have hdk:=(xq hst).1
 have ap1:=Sp.anr hdk o0 o1 aD4 aCw
 have ap2:=Sp.anr hdk o1 o0 aCw aD4
 rw [← a2] at ap1
 rw [hres] at b2
 rw [← b2] at ap2
 dsimp only
 rw [show ok1=true from a1,show ok2=true from b1,decide_eq_true hcc]
 refine ⟨trivial,⟨sm0,?_⟩,?_⟩
 · rw [show df1=_ from a2];exact anq (by rw [o1.1];exact hdl) id1
 rintro ⟨⟨r8,⟨⟩⟩,⟨⟩⟩ e8
 have e8:r8=Sp.wI c1:=Eq.trans e8 ap1
 refine ⟨⟨by rw [e8];exact sm1,?_⟩,?_⟩
 · rw [show df2=_ from b2];exact anq (by rw [o0.1];exact hdl) id0
 rintro ⟨⟨r9,⟨⟩⟩,⟨⟩⟩ e9
 have e9:r9=Sp.wI c:=by
  have:r9=Sp.oO r8 df2:=e9
  rw [this,e8];exact ap2
 refine ⟨trivial,?_⟩
 exact congrArg (·,()) (decide_eq_true e9)
end Go.Proofs.Tryz
