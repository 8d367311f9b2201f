import Derived.Test.YtlbkigkbmeckbaaGreatP19
import Derived.Test.YtlbkigkbmeckbaaGreatSp
namespace Go.Proofs.Tryz
open Go Go.Fw Go.IntWalk
theorem apo {l:List (Int×Unit)} {s:Int} {m:Nat} (hm:m≤l.length) (h1:∀ i,i<m→decide ((l.getD i (0,())).1<s)=true) (h2:m<l.length→decide ((l.getD m (0,())).1<s)=false):
 Sp.Dz l s=bif decide (m<l.length)&&(l.getD m (0,())).1==s then l else l.take m++[(s,())]++l.drop m:=by
 obtain ⟨e1,_⟩:=Sp.Ho (d:=((0:Int),())) l m hm (p:=fun x=>decide (x.1<s)) h1 h2
 unfold Sp.Dz
 rw [e1]
 have:(l.take m).length=m:=by rw [List.length_take];omega
 rw [this]
theorem asv (l:List (Int×Unit)) (s:Int):(Sp.Dz l s).length≤l.length+1:=by
 unfold Sp.Dz
 dsimp only
 generalize (l.takeWhile fun x=>decide (x.1<s)).length=n
 cases decide (n<l.length)&&(l.getD n (0,())).1==s with
 |true=>exact Nat.le_succ _
 |false=>
  show (l.take n++[(s,())]++l.drop n).length≤_
  simp only [List.length_append,List.length_take,List.length_drop,List.length_cons,List.length_nil]
  omega
theorem aeW:ai prog G zT.e:=by
 refine aeX (aj ah trivial) ?_
 intro l s hin hp
 dsimp only [zT] at hp ⊢
 have hp:l.length≤1000:=hp
 have fin:∀ m:Nat,m≤l.length→Sp.Dz l s=l.take m++[(s,())]++l.drop m→((0:Int)≤m∧(m:Int)≤l.length)∧0+(List.drop 0 (List.take m l)).length≤big∧(List.drop 0 (List.take m l)).length+[(s,())].length≤big∧((0:Int)≤m∧(m:Int)≤l.length)∧
  (List.drop 0 (List.take m l)++[(s,())]).length+(List.drop m (List.take l.length l)).length≤big∧(List.drop 0 (List.take m l)++[(s,())]++List.drop m (List.take l.length l),())=(Sp.Dz l s,()):=by
  intro m hm h
  refine ⟨⟨by omega,by omega⟩,?_,?_,⟨by omega,by omega⟩,?_,?_⟩
  · rw [bT];simp only [List.length_drop,List.length_take];omega
  · rw [bT];simp only [List.length_drop,List.length_take,List.length_cons,List.length_nil];omega
  · rw [bT];simp only [List.length_append,List.length_drop,List.length_take,List.length_cons,List.length_nil];omega
  · rw [h,List.take_length,List.drop_zero]
 refine iU l.length (by omega) (fun n=>∀ i,i<n→decide ((l.getD i (0,())).1<s)=true) (fun i hi=>by omega) (fun I μ n hn hJ next=>?_) fun I μ hJ=>?_
 · dsimp only
   refine dh (by omega) ⟨⟨by omega,by omega⟩,af (fun h=>⟨rfl,next (fB (f:=fun i=>decide ((l.getD i (0,())).1<s)) hJ h)⟩) fun h=>dh (by omega) ⟨⟨by omega,by omega⟩,?_⟩⟩
   have e:=apo (Nat.le_of_lt hn) hJ fun _=>h
   rw [decide_eq_true hn,Bool.true_and] at e
   refine af (fun h2=>?_) fun h2=>fin n (Nat.le_of_lt hn) ?_
   · rw [show ((l.getD n (0,())).1==s)=true from h2] at e
     rw [e];rfl
   · rw [show ((l.getD n (0,())).1==s)=false from h2] at e
     exact e
 · dsimp only
   refine dm (by omega) (dm (by omega) (fin l.length (Nat.le_refl _) ?_))
   have e:=apo (Nat.le_refl _) hJ fun h=>by omega
   rw [decide_eq_false (by omega)] at e
   exact e
theorem Ey (l xs:List (Int×Unit)):(Sp.rY l xs).length≤l.length+xs.length:=by
 induction xs generalizing l with
 |nil=>exact Nat.le_refl _
 |cons x r ih=>
  have:=ih (Sp.Dz l x.1)
  have:=asv l x.1
  show (Sp.rY (Sp.Dz l x.1) r).length≤_
  rw [List.length_cons];omega
theorem ahG (l xs:List (Int×Unit)) (x:Int×Unit):Sp.rY l (xs++[x])=Sp.Dz (Sp.rY l xs) x.1:=by
 unfold Sp.rY;rw [List.foldl_append];rfl
theorem P7:ai prog G rM.e:=by
 refine P8 (aj ah ⟨aeW,Eg,trivial⟩) ?_
 intro l nm x y hin hp
 dsimp only [rM] at hp ⊢
 obtain ⟨h1,h2⟩:l.length≤400∧x.length≤400:=hp
 refine dI (fun i (z:List (Int×Unit))=>((z,i,()),())) (fun y=>y.1.2.1) (fun _ _=>rfl) l.length (by omega) (fun n z=>z=Sp.rY [] ((l.take n).filter fun z=>!Sp.dw y z.1)) rfl (fun I μ n z hn hJ next=>?_) fun I μ z hJ=>?_
 · subst hJ
   have hl:(Sp.rY [] ((l.take n).filter fun z=>!Sp.dw y z.1)).length≤n:=by
    have a:=Ey [] ((l.take n).filter fun z=>!Sp.dw y z.1)
    have b:=List.length_filter_le (fun z:Int×Unit=>!Sp.dw y z.1) (l.take n)
    rw [List.length_take] at b
    rw [List.length_nil] at a
    omega
   have step:=jg (fun z:Int×Unit=>!Sp.dw y z.1) (0,()) l hn
   dsimp only
   refine dh (by omega) ⟨⟨by omega,by omega⟩,trivial,af (fun h=>⟨⟨by omega,by omega⟩,by omega,rfl,next _ ?_⟩) fun h=>⟨rfl,next _ ?_⟩⟩
   · have h:(!Sp.dw y (l.getD n (0,())).1)=true:=h
     rw [step,h]
     exact (ahG _ _ _).symm
   · have h:(!Sp.dw y (l.getD n (0,())).1)=false:=h
     rw [step,h];simp
 · subst hJ
   rw [List.take_length]
   dsimp only
   have hl:(Sp.rY [] (l.filter fun z=>!Sp.dw y z.1)).length≤l.length:=by
    have a:=Ey [] (l.filter fun z=>!Sp.dw y z.1)
    have b:=List.length_filter_le (fun z:Int×Unit=>!Sp.dw y z.1) l
    rw [List.length_nil] at a
    omega
   refine dm (by omega) (dI (fun i (z:List (Int×Unit))=>((z,i,()),())) (fun y=>y.1.2.1) (fun _ _=>rfl) x.length (by omega) (fun n z=>z=Sp.rY (Sp.rY [] (l.filter fun z=>!Sp.dw y z.1)) (x.take n)) rfl (fun I μ n z hn hJ next=>?_) fun I μ z hJ=>?_)
   · subst hJ
     have a:=Ey (Sp.rY [] (l.filter fun z=>!Sp.dw y z.1)) (x.take n)
     rw [List.length_take] at a
     dsimp only
     refine dh (by omega) ⟨⟨by omega,by omega⟩,by omega,rfl,next _ ?_⟩
     rw [Sp.take_succ' x n (0,()) hn,ahG];rfl
   · subst hJ
     rw [List.take_length]
     have a:=Ey (Sp.rY [] (l.filter fun z=>!Sp.dw y z.1)) x
     dsimp only
     exact dm (by omega) ⟨by rw [bT];omega,rfl⟩
theorem an1 (l x y:List (Int×Unit)):(Sp.zh l x y).length≤l.length+x.length:=by
 have a:=Ey (Sp.rY [] (l.filter fun z=>!Sp.dw y z.1)) x
 have b:=Ey [] (l.filter fun z=>!Sp.dw y z.1)
 have c:=List.length_filter_le (fun z:Int×Unit=>!Sp.dw y z.1) l
 rw [List.length_nil] at b
 show (Sp.rY (Sp.rY [] _) x).length≤_
 omega
abbrev DF0:Sp.tK:=([],[],[],())
theorem ZA:ai prog G oU.e:=by
 refine ZB (aj ah ⟨P7,trivial⟩) (fun ⟨a,d,_⟩ _=>⟨((Sp.iE a d,()),()),rfl⟩) ?_
 intro a d hin hp
 dsimp only [oU] at hp ⊢
 obtain ⟨ha,hd⟩:Sp.wS a∧Sp.wU d:=hp
 have hal:=ha.1
 have hdl:=hd.1
 refine dI (fun i (x:List Sp.dn)=>(((),i,()),x,())) (fun y=>y.1.2.1) (fun _ _=>rfl) a.length (by omega) (fun n l=>l=Sp.iE (a.take n) d) rfl (fun I μ n l hn hJ next=>?_) fun I μ l hJ=>?_
 · subst hJ
   have hl:(Sp.iE (a.take n) d).length≤n:=by unfold Sp.iE;rw [List.length_map,List.length_take];omega
   have h0:(a.getD n kZ).2.1.length≤100:=ha.2 _ (getD_mem (d:=kZ) hn)
   dsimp only
   rw [Int.toNat_natCast]
   refine dh (by omega) ⟨⟨by omega,by omega⟩,⟨by omega,by omega⟩,by have h0:(a.getD n ([],[],())).2.1.length≤100:=h0;rw [bT];omega,?_⟩
   refine dI (fun i (x:Sp.dn)=>((i,()),x,())) (fun y=>y.1.1) (fun _ _=>rfl) d.length (by omega) (fun k x=>x=((a.getD n kZ).1,((d.take k).filter fun y=>y.1==(a.getD n kZ).1).foldl (fun l y=>Sp.zh l y.2.1 y.2.2.1) (a.getD n kZ).2.1,())∧x.2.1.length≤100+20*k) ⟨rfl,by rw [Nat.mul_zero];exact h0⟩ (fun I μ k x hk hJ FM=>?_) fun I μ x hJ=>?_
   · obtain ⟨hx,hxl⟩:=hJ
     have step:=jg (fun y:Sp.tK=>y.1==(a.getD n kZ).1) DF0 d hk
     have hdk:(d.getD k DF0).2.1.length≤20:=hd.2 _ (getD_mem (d:=DF0) hk)
     have hx1:x.1=(a.getD n kZ).1:=by rw [hx]
     dsimp only
     rw [hx1]
     refine dh (by omega) ⟨⟨by omega,by omega⟩,af (fun h=>⟨⟨by omega,by omega⟩,⟨by omega,by have hdk:(d.getD k ([],[],[],())).2.1.length≤20:=hdk;rw [Int.toNat_natCast];omega⟩,rfl,FM _ ⟨?_,?_⟩⟩) fun h=>⟨rfl,FM _ ⟨?_,?_⟩⟩⟩
     · have h:((d.getD k DF0).1==(a.getD n kZ).1)=true:=h
       rw [step,h,hx,cond_true,List.foldl_append];rfl
     · have:=an1 x.2.1 (d.getD k DF0).2.1 (d.getD k DF0).2.2.1
       show (Sp.zh x.2.1 (d.getD k DF0).2.1 (d.getD k DF0).2.2.1).length≤_
       omega
     · have h:((d.getD k DF0).1==(a.getD n kZ).1)=false:=h
       rw [step,h,hx,cond_false,List.append_nil]
     · show x.2.1.length≤_;omega
   · obtain ⟨hx,_⟩:=hJ
     rw [List.take_length] at hx
     dsimp only
     refine dm (by omega) ⟨by rw [bT];simp only [List.length_cons,List.length_nil];omega,rfl,next _ ?_⟩
     rw [hx]
     unfold Sp.iE
     rw [Sp.take_succ' a n kZ hn,List.map_append];rfl
 · subst hJ
   rw [List.take_length]
   dsimp only
   exact dm (by omega) rfl
theorem apq {s:Sp.bV} (h:Sp.aB s=true) {i j:Nat} (hi:i<s.2.1.length) (hj:j<s.2.1.length) (e:(Sp.fileAt s.2.1 i).1=(Sp.fileAt s.2.1 j).1):i=j:=by
 rcases Nat.lt_trichotomy i j with h1|h1|h1
 · have:=Sp.Ny h j i h1 hj;omega
 · exact h1
 · have:=Sp.Ny h i j h1 hi;omega
theorem asw {c c1:Sp.jv} {g:Sp.aN} {df:List Sp.tK} {ok:Bool} {m:Nat} (hcur:Sp.dS c=true) (hm:m<c.2.1.length) (hid:(Sp.fileAt c.2.1 m).1=g.1) (hg:Sp.bY c.1 g=true) (h:Sp.updated c g c1 df ok):
 ok=true∧df=Sp.wQ (Sp.jH c) (Sp.jH c1)∧Sp.bJ c1=(c.1,c.2.1.set m g,c.2.2.1,())∧Sp.fF c1=Sp.fF c∧Sp.dS c1=true:=by
 obtain ⟨hst,hok,hev⟩:=wF hcur
 have hrep:∃ n,n<c.2.1.length∧Sp.place c.2.1 g.1=n∧Sp.aU (Sp.bJ c) g=((c.1,c.2.1.set n g,c.2.2.1,()),true):=by
  rcases Sp.jU (Sp.bJ c) g with ⟨_,e⟩|⟨n,hn,h1,h2,h3,e⟩
  · refine (e ⟨hok,?_,hg⟩).elim
    rcases Sp.sG c.2.1 g.1 with ⟨_,h2⟩|⟨k,_,h2,_⟩
    · exact (h2 m hm hid).elim
    · show 0≤Sp.place c.2.1 g.1;omega
  · exact ⟨n,hn,h1,e⟩
 obtain ⟨n,hn,hpl,hr⟩:=hrep
 have hnm:n=m:=by
  rcases Sp.sG c.2.1 g.1 with ⟨_,h2⟩|⟨k,hk,h2,h3,_⟩
  · exact (h2 m hm hid).elim
  · have:k=n:=by omega
    subst this
    exact apq hok hk hm (h3.trans hid.symm)
 subst hnm
 have hfind:(Sp.eu (Sp.bJ c) g.1).1=Sp.fileAt c.2.1 n:=by
  show (bif decide (Sp.place c.2.1 g.1<0) then _ else (Sp.fileAt c.2.1 (Sp.place c.2.1 g.1).toNat,true)).1=_
  rw [hpl,decide_eq_false (by omega)];rfl
 obtain ⟨u1,u2,_⟩:=h
 have hz:(Sp.dS c&&(Sp.aU (Sp.bJ c) g).2)=true:=by rw [hcur,hr];rfl
 have hok1:ok=true:=u1.trans hz
 obtain ⟨k1,k2,k3,k4⟩:=u2 hok1
 have hst2:=Sp.OY g hok
 rw [hr] at k1 k3 hst2
 rw [hfind] at k3
 have hd:=(kN hst).1
 obtain ⟨aG,hl⟩:=MW hst
 obtain ⟨E,hE⟩:=Sp.Lc [] (fun _=>true) hd hl (Sp.vz hst2)
 have e:=Sp.asx hd hn hid hev k3 hE
 refine ⟨hok1,k4,k1,k2,?_⟩
 obtain ⟨a,l,nx,d,r,_⟩:=c1
 have k1':((a,l,nx,()):Sp.bV)=(c.1,c.2.1.set n g,c.2.2.1,()):=k1
 have k2:d=Sp.fF c:=k2
 have e:r=E:=e
 subst k2 e
 have hl2:l=c.2.1.set n g:=congrArg (fun s:Sp.bV=>s.2.1) k1'
 rw [RJ (out:=r) (by rw [hst,k1',hst2];rfl) (by rw [hl2];exact hE),decide_eq_true rfl]
theorem apr {c:Sp.jv} (h:Sp.dS c=true):Sp.lM (Sp.fF c) (Sp.jH c)∧(∀ i,i<(Sp.fF c).length→Sp.FZ (Sp.eX (Sp.jH c) i))∧Sp.wS (Sp.jH c)∧∀ x∈Sp.jH c,x.2.1.length≤12:=by
 obtain ⟨hst,hok,hev⟩:=wF h
 have hlen:=(kN hst).2
 have hf:c.2.1.length≤12:=(Sp.jL.1 hok).2.2.1
 have aui:∀ x∈Sp.jH c,x.2.1.length≤12:=fun x hx=>by
  obtain ⟨i,hi,rfl⟩:=List.getElem_of_mem hx
  have hi':i<(Sp.fF c).length:=by rw [← hev.order.1];exact hi
  have e:((Sp.jH c)[i]).2.1=Sp.eX (Sp.jH c) i:=by
   unfold Sp.eX Sp.jr
   rw [List.getD_eq_getElem?_getD,List.getElem?_eq_getElem hi];rfl
  rw [e,hev.fix i hi' rfl]
  unfold Sp.sel
  rw [List.length_map]
  exact Nat.le_trans (List.length_filter_le _ _) hf
 exact ⟨hev.order,fun i hi=>by rw [hev.fix i hi rfl];exact Sp.atA hok _ _,⟨by rw [hev.order.1];omega,fun x hx=>Nat.le_trans (aui x hx) (by decide)⟩,aui⟩
theorem aoI {a b:List Sp.dn} (hb:b.length≤5) (h:∀ x∈b,x.2.1.length≤12):Sp.wU (Sp.wQ a b):=by
 refine ⟨?_,fun y hy=>?_⟩
 · unfold Sp.wQ
   exact Nat.le_trans (List.length_filter_le _ _) (by rw [List.length_map];exact hb)
 · obtain ⟨x,hx,rfl⟩:=List.mem_map.1 (List.mem_filter.1 hy).1
   exact Nat.le_trans (P6 _ _) (Nat.le_trans (h x hx) (by decide))
theorem aps {c:Sp.jv} (hok:Sp.aB (Sp.bJ c)=true) {m:Nat} (hm:m<c.2.1.length):Sp.bY c.1 (Sp.fileAt c.2.1 m)=true:=(Sp.nK.1 ((Sp.jL.1 hok).1 m hm)).1
theorem ahI {a:List Sp.gK} {f:Sp.aN} (h:Sp.bY a f=true):Sp.kP a f.2.2.2.2.1=true∧f.2.2.2.2.1.length≤5:=by
 unfold Sp.bY at h
 simp only [Bool.and_eq_true] at h
 have h1:=h.1.1.1.1
 have h2:=h.1.1.1.2
 refine ⟨h1,Nat.le_trans (Sp.asy h1) ?_⟩
 unfold Sp.fQ at h2
 rw [Bool.and_eq_true,decide_eq_true_eq] at h2
 omega
theorem atB {c:Sp.jv} (hok:Sp.aB (Sp.bJ c)=true):Sp.SI c:=fun f hf=>by
 obtain ⟨i,hi,rfl⟩:=List.getElem_of_mem hf
 have at_:Sp.fileAt c.2.1 i=c.2.1[i]:=by unfold Sp.fileAt;rw [List.getD_eq_getElem?_getD,List.getElem?_eq_getElem hi];rfl
 have:=(ahI (aps hok hi)).2
 rw [at_] at this
 exact Nat.le_trans this (by decide)
theorem arE {c:Sp.jv} (h:Sp.dS c=true) (hs:Sp.aS (Sp.fF c)):Sp.fK c:=by
 obtain ⟨hst,hok,hev⟩:=wF h
 have hf:c.2.1.length≤12:=(Sp.jL.1 hok).2.2.1
 have aqp:=(Sp.jL.1 hok).2.1
 have h5:c.1.length≤5:=by
  have aqp:Sp.fQ c.1=true:=aqp
  unfold Sp.fQ at aqp
  rw [Bool.and_eq_true,decide_eq_true_eq] at aqp
  omega
 refine ⟨⟨by show c.1.length≤1000;omega,by show c.2.1.length≤1000;omega,fun f hf=>Nat.le_trans (atB hok f hf) (by decide)⟩,hs,Jg hev hs.1 (by omega) Ld⟩
end Go.Proofs.Tryz
