import Derived.Test.YtlbkigkbmeckbaaGreatP18
import Derived.Test.YtlbkigkbmeckbaaGreatV8
namespace Go.Proofs.Tryz
open Go Go.Fw Go.IntWalk
theorem FU:ai prog G qO.e:=by
 refine adl (aj ah ⟨Gm,trivial⟩) ?_
 intro x b hin hp
 dsimp only [qO] at hp ⊢
 exact ⟨trivial,rfl⟩
theorem Ea:ai prog G iE.e:=by
 refine Eb (aj ah ⟨FU,trivial⟩) ?_
 intro l b hin hp
 dsimp only [iE] at hp ⊢
 exact TP (K:=fun r=>r=(Sp.findAt (fun x:Int×Unit=>Sp.fF b x.1) l,())) (fun x:Int×Unit=>Sp.fF b x.1) (0,()) l _ hin.1.1 rfl
theorem DT:ai prog G eU.e:=by
 refine DU (aj ah ⟨Ea,FU,trivial⟩) (fun ⟨s,((b,_),_),_⟩ _=>⟨((s.filter (fun x=>!Sp.fF b x.1),()),()),rfl⟩) ?_
 intro s b hin hp
 dsimp only [eU] at hp ⊢
 exact ⟨trivial,aq9 (K:=fun r=>r.1.1=s.filter fun x=>!Sp.fF b x.1) (fun x:Int×Unit=>Sp.fF b x.1) (0,()) s _ (by have hp:s.length≤1000:=hp;omega) rfl⟩
theorem aiJ:ai prog G vF.e:=by
 refine aiK (aj ah ⟨DT,FU,Oz,trivial⟩) (fun ⟨a,b,_⟩ _=>⟨((Sp.without a b,()),()),rfl⟩) ?_
 intro a b hin hp
 dsimp only [vF] at hp ⊢
 have hp:a.length≤1000:=hp
 refine ⟨hp,?_⟩
 rintro ⟨⟨r0,⟨⟩⟩,⟨⟩⟩ e
 have e:r0=a:=e
 subst e
 exact ⟨hp,fun r h=>h⟩
theorem aiL:ai prog G vG.e:=by
 refine aiM (aj ah ⟨aiJ,trivial⟩) (fun ⟨a,b,_⟩ _=>⟨((Sp.without b a,Sp.without a b,()),()),⟨rfl,rfl⟩⟩) ?_
 intro a b hin hp
 dsimp only [vG] at hp ⊢
 exact ⟨hp.2,fun r0 h0=>⟨hp.1,fun r1 h1=>⟨h0,h1⟩⟩⟩
theorem aew (a b:List (Int×Unit)):(Sp.without a b).length≤a.length:=List.length_filter_le _ _
theorem Vw {r:List Sp.dN} (h:Sp.bH r) (s:Sp.Bytes):(Sp.fG r s).length≤1000:=by
 have:∀ l:List Sp.dN,(∀ x∈l,x.2.1.length≤1000)→(Sp.fG l s).length≤1000:=by
  intro l
  induction l with
  |nil=>exact fun _=>Nat.zero_le _
  |cons x t ih=>
   intro hl
   rw [Sp.fG]
   cases x.1==s with
   |true=>exact hl x List.mem_cons_self
   |false=>exact ih fun y hy=>hl y (List.mem_cons_of_mem _ hy)
 exact this r h.2
theorem aiN (a b:List Sp.dN) {n:Nat} (h:n<b.length):((b.take (n+1)).map (Sp.wU a)).filter Sp.AQ=((b.take n).map (Sp.wU a)).filter Sp.AQ++(bif Sp.AQ (Sp.wU a (b.getD n qH)) then [Sp.wU a (b.getD n qH)] else []):=by
 rw [Sp.take_succ' b n qH h,List.map_append,List.filter_append,List.map_singleton,List.filter_cons]
 cases Sp.AQ (Sp.wU a (b.getD n qH))<;>rfl
theorem XT:ai prog G nK.e:=by
 refine XU (aj ah ⟨aiL,FP,trivial⟩) (fun ⟨a,b,_⟩ _=>⟨((Sp.Gu a b,()),()),rfl⟩) ?_
 intro a b hin hp
 dsimp only [nK] at hp ⊢
 obtain ⟨ha,hb⟩:Sp.bH a∧Sp.bH b:=hp
 have hbl:=hb.1
 refine dM (fun i (x:List Sp.IX)=>(((),i,()),x,())) (fun y=>y.1.2.1) (fun _ _=>rfl) b.length (by omega) (fun n l=>l=((b.take n).map (Sp.wU a)).filter Sp.AQ) rfl (fun I μ n l hn hJ next=>?_) fun I μ l hJ=>?_
 · subst hJ
   have hl:(((b.take n).map (Sp.wU a)).filter Sp.AQ).length≤n:=by
    have:=List.length_filter_le Sp.AQ ((b.take n).map (Sp.wU a))
    rw [List.length_map,List.length_take] at this;omega
   have step:=aiN a b hn
   have l1:=Vw ha (b.getD n qH).1
   have l2:(b.getD n qH).2.1.length≤1000:=Hz hb hn
   dsimp only
   refine dh (by omega) ⟨⟨by omega,by omega⟩,ha,⟨l1,l2⟩,?_⟩
   rintro ⟨⟨x,y,⟨⟩⟩,⟨⟩⟩ ⟨e1,e2⟩
   have e1:x=Sp.without (b.getD n qH).2.1 (Sp.fG a (b.getD n qH).1):=e1
   have e2:y=Sp.without (Sp.fG a (b.getD n qH).1) (b.getD n qH).2.1:=e2
   have k1:=aew (b.getD n qH).2.1 (Sp.fG a (b.getD n qH).1)
   have k2:=aew (Sp.fG a (b.getD n qH).1) (b.getD n qH).2.1
   rw [← e1] at k1
   rw [← e2] at k2
   have w:IntKind.i64.wrap ((x.length:Int)+(y.length:Int))=((x.length+y.length:Nat):Int):=by rw [gu _ (by omega)];omega
   have hd:Sp.wU a (b.getD n qH)=((b.getD n qH).1,x,y,()):=by rw [e1,e2];rfl
   have hz:Sp.AQ (Sp.wU a (b.getD n qH))=decide (0<x.length+y.length):=by rw [hd];rfl
   dsimp only
   rw [w]
   refine af (fun h=>⟨by rw [bU];simp only [List.length_cons,List.length_nil];omega,rfl,next _ ?_⟩) fun h=>⟨rfl,next _ ?_⟩
   · have h:=gG h
     rw [step,hz,decide_eq_true (by omega),hd];rfl
   · have h:=iw h
     rw [step,hz,decide_eq_false (by omega)];simp
 · subst hJ
   rw [List.take_length]
   dsimp only
   exact dm (by omega) rfl
theorem XV:ai prog G nN.e:=by
 refine XW (aj ah ⟨Jo,trivial⟩) (fun ⟨r,_⟩ _=>⟨((r,()),()),rfl⟩) ?_
 intro r hin hp
 dsimp only [nN] at hp ⊢
 have hp:Sp.bH r:=hp
 have hl:=hp.1
 refine dM (fun i (x:List Sp.dN)=>(((),i,()),x,())) (fun y=>y.1.2.1) (fun _ _=>rfl) r.length (by omega) (fun n l=>l=r.take n) (by simp) (fun I μ n l hn hJ next=>?_) fun I μ l hJ=>?_
 · subst hJ
   have hl:(r.take n).length≤n:=by rw [List.length_take];omega
   dsimp only
   refine dh (by omega) ⟨⟨by omega,by omega⟩,Hz hp hn,by rw [bU];simp only [List.length_cons,List.length_nil];omega,rfl,next _ ?_⟩
   rw [Sp.take_succ' r n qH hn];rfl
 · subst hJ
   rw [List.take_length]
   dsimp only
   exact dm (by omega) rfl
theorem aaK:ai prog G oV.e:=by
 refine aaL (aj ah trivial) (fun ⟨r,_⟩ _=>⟨((r,()),()),rfl⟩) ?_
 intro r hin hp
 dsimp only [oV] at hp ⊢
 have hp:Sp.bH r:=hp
 have hl:=hp.1
 refine dM (fun i (x:List Sp.dN)=>(((),i,()),x,())) (fun y=>y.1.2.1) (fun _ _=>rfl) r.length (by omega) (fun n l=>l=r.take n) (by simp) (fun I μ n l hn hJ next=>?_) fun I μ l hJ=>?_
 · subst hJ
   have hl:(r.take n).length≤n:=by rw [List.length_take];omega
   have h2:(r.getD n ([],[],())).2.1.length≤1000:=Hz hp hn
   dsimp only
   rw [Int.toNat_natCast]
   refine dh (by omega) ⟨⟨by omega,by omega⟩,⟨by omega,by omega⟩,by rw [bU];omega,by rw [bU];simp only [List.length_cons,List.length_nil];omega,rfl,next _ ?_⟩
   rw [Sp.take_succ' r n qH hn]
 · subst hJ
   rw [List.take_length]
   dsimp only
   exact dm (by omega) rfl
theorem zU:ai prog G jh.e:=by
 refine XY (aj ah ⟨XV,OG,FO,trivial⟩) (fun ⟨(a,l,nx,d,r,_),_⟩ _=>⟨(((a,l,nx,d,r,()),()),()),rfl⟩) ?_
 intro a l nx d r hin hp
 dsimp only [jh] at hp ⊢
 obtain ⟨h1,h2,h3⟩:Sp.bG (a,l,nx,())∧Sp.aV d∧Sp.bH r:=hp
 refine ⟨h1,?_⟩
 rintro ⟨⟨⟨a',l',nx',⟨⟩⟩,⟨⟩⟩,⟨⟩⟩ e
 have e:((a',l',nx',()):Sp.bZ)=(a,l,nx,()):=e
 refine ⟨h2,h3,?_⟩
 rintro ⟨⟨r',⟨⟩⟩,⟨⟩⟩ e2
 have e2:r'=r:=e2
 simp only [Prod.mk.injEq] at e
 obtain ⟨rfl,rfl,rfl,_⟩:=e
 subst e2
 rfl
theorem IY:ai prog G oz.e:=by
 refine aiO (aj ah ⟨aaK,Qc,AL,trivial⟩) (fun ⟨(a,l,nx,d,r,_),_⟩ _=>⟨(((a,l,nx,d,r,()),()),()),rfl⟩) ?_
 intro a l nx d r hin hp
 dsimp only [oz] at hp ⊢
 obtain ⟨h1,h2,h3⟩:Sp.bG (a,l,nx,())∧Sp.aV d∧Sp.bH r:=hp
 refine ⟨h1,?_⟩
 rintro ⟨⟨⟨a',l',nx',⟨⟩⟩,⟨⟩⟩,⟨⟩⟩ e
 have e:((a',l',nx',()):Sp.bZ)=(a,l,nx,()):=e
 refine ⟨h2,h3,?_⟩
 rintro ⟨⟨r',⟨⟩⟩,⟨⟩⟩ e2
 have e2:r'=r:=e2
 simp only [Prod.mk.injEq] at e
 obtain ⟨rfl,rfl,rfl,_⟩:=e
 subst e2
 rfl
theorem J4 {fs:List Sp.aK} {d:List Sp.aT} {r out:List Sp.dN} {nm:Sp.Bytes→Bool} (h:Sp.iD fs d r nm out) (hd:d.length≤1000) (hf:fs.length≤1000) (hr:Sp.bH r):Sp.bH out:=by
 refine ⟨by rw [h.order.1];exact hd,fun x hx=>?_⟩
 obtain ⟨i,hi,rfl⟩:=List.getElem_of_mem hx
 have hi':i<d.length:=by rw [← h.order.1];exact hi
 have e:(out[i]).2.1=Sp.iU out i:=by
  unfold Sp.iU Sp.vW
  rw [List.getD_eq_getElem?_getD,List.getElem?_eq_getElem hi];rfl
 rw [e]
 cases hn:nm (Sp.nameOf d i) with
 |true=>
  rw [h.fix i hi' hn]
  unfold Sp.sel
  rw [List.length_map]
  exact Nat.le_trans (List.length_filter_le _ _) hf
 |false=>rw [h.kept i hi' hn];exact Vw hr _
theorem aiP (c:Sp.jB) (s:Sp.bZ) (d:List Sp.aT) (nm:Sp.Bytes→Bool):∃ c' df,Sp.turned c s d nm c' df (Sp.aF d&&Sp.aH s):=by
 obtain ⟨a,fs,nx,_⟩:=s
 obtain ⟨out,h⟩:=BB (fs:=fs) (a:=a) (nx:=nx) (d:=d) (Sp.zQ c) nm
 cases hk:(Sp.aF d&&Sp.aH (a,fs,nx,())) with
 |true=>exact ⟨(a,fs,nx,d,out,()),Sp.Gu (Sp.zQ c) out,hk.symm,fun _=>⟨rfl,rfl,h hk,rfl⟩,fun h=>(by cases h)⟩
 |false=>exact ⟨c,[],hk.symm,fun h=>(by cases h),fun _=>⟨rfl,rfl⟩⟩
theorem adn:ai prog G qP.e:=by
 refine ado (aj ah ⟨XT,OG,FO,zU,aax,trivial⟩) (fun ⟨c,s,d,names,_⟩ _=>by obtain ⟨c',df,h⟩:=aiP c s d (Sp.dQ names);exact ⟨((((c'.1,c'.2.1,c'.2.2.1,c'.2.2.2.1,c'.2.2.2.2.1,()),df,(Sp.aF d&&Sp.aH s),()),())),h⟩) ?_
 intro a l nx d0 r0 sa sl sn d names hin hp
 dsimp only [qP] at hp ⊢
 obtain ⟨hc,hs,hd⟩:=hp
 have hr:Sp.bH r0:=hc.2.2
 refine ⟨⟨hs,hd,hr⟩,?_⟩
 rintro ⟨⟨out,ok,⟨⟩⟩,⟨⟩⟩ ⟨e1,e2⟩
 have e1:ok=(Sp.aF d&&Sp.aH (sa,sl,sn,())):=e1
 have e2:ok=true→Sp.iD sl d r0 (Sp.dQ names) out:=e2
 dsimp only
 refine af (fun h=>⟨hc,fun r1 hr1=>?_⟩) fun h=>⟨hs,?_⟩
 · have h:ok=false:=fO h
   exact ⟨e1▸h.symm,fun h=>(by cases h),fun _=>⟨hr1,rfl⟩⟩
 · have h:ok=true:=dI h
   rintro ⟨⟨s',⟨⟩⟩,⟨⟩⟩ es
   have es:s'=(sa,sl,sn,()):=es
   subst es
   refine ⟨hd,⟨hr,J4 (e2 h) hd.1 hs.2.1 hr⟩,fun r3 hr3=>⟨e1▸h.symm,fun _=>⟨rfl,rfl,e2 h,hr3⟩,fun h=>(by cases h)⟩⟩
theorem KN {c:Sp.jB} (h:Sp.iH c=true):Sp.aF (Sp.jW c)=true∧Sp.aH (Sp.aY c)=true∧Sp.iD c.2.1 (Sp.jW c) [] (fun _=>true) (Sp.zQ c):=by
 have e:Sp.iH c=((Sp.aF (Sp.jW c)&&Sp.aH (Sp.aY c))&&@decide (Sp.iD c.2.1 (Sp.jW c) [] (fun _=>true) (Sp.zQ c)) (Classical.propDecidable _)):=rfl
 rw [e,Bool.and_eq_true,Bool.and_eq_true] at h
 exact ⟨h.1.1,h.1.2,(@decide_eq_true_iff _ (Classical.propDecidable _)).1 h.2⟩
theorem auv {d:List Sp.aT} {f g:Sp.aK} {s:Sp.Bytes}:Sp.alD d f g s=true↔Sp.WM d f g s:=@decide_eq_true_iff _ (Classical.propDecidable _)
theorem ara {d:List Sp.aT} {f g:Sp.aK} {r:Sp.LS} (h:Sp.isSet r (Sp.WM d f g)) (s:Sp.Bytes):Sp.dQ r s=Sp.alD d f g s:=by
 rw [Bool.eq_iff_iff,auv];exact h.2 s
theorem Vx {s:Sp.bZ} {f:Sp.aK} (h:(Sp.aP s f).2=true):Sp.aH (Sp.aP s f).1=true:=by
 rcases Sp.jC s f with ⟨e,_⟩|⟨n,hn,h1,h2,h3,e⟩
 · rw [e] at h;cases h
 · exact Sp.IZ f h2
theorem Q5 (c:Sp.jB) (f:Sp.aK):∃ c' df,Sp.updated c f c' df (Sp.iH c&&(Sp.aP (Sp.aY c) f).2):=by
 cases hk:(Sp.iH c&&(Sp.aP (Sp.aY c) f).2) with
 |false=>exact ⟨c,[],hk.symm,fun h=>(by cases h),fun _=>⟨rfl,rfl⟩⟩
 |true=>
  have hk':=hk
  rw [Bool.and_eq_true] at hk'
  obtain ⟨h1,h2,h3⟩:=KN hk'.1
  have hst:=Vx hk'.2
  rcases hs:(Sp.aP (Sp.aY c) f).1 with ⟨a,fs,nx,u⟩
  rw [hs] at hst
  obtain ⟨out,h⟩:=BB (fs:=fs) (a:=a) (nx:=nx) (d:=Sp.jW c) (Sp.zQ c) (Sp.alD (Sp.jW c) (Sp.au (Sp.aY c) f.1).1 f)
  refine ⟨(a,fs,nx,Sp.jW c,out,()),Sp.Gu (Sp.zQ c) out,hk.symm,fun _=>⟨hs.symm,rfl,?_,rfl⟩,fun h=>(by cases h)⟩
  rw [hs]
  exact h (by rw [h1];exact hst)
theorem KO:ai prog G lT.e:=by
 refine aaM (aj ah ⟨adn,Vt,GX,zU,LM,XO,trivial⟩) (fun ⟨c,f,_⟩ _=>by obtain ⟨c',df,h⟩:=Q5 c f;exact ⟨((((c'.1,c'.2.1,c'.2.2.1,c'.2.2.2.1,c'.2.2.2.2.1,()),df,(Sp.iH c&&(Sp.aP (Sp.aY c) f).2),()),())),h⟩) ?_
 intro a l nx d r f0 f1 f2 f3 f4 hin hp
 dsimp only [lT] at hp ⊢
 obtain ⟨hc,hf,hhc,hhf⟩:=hp
 refine ⟨⟨hc.1,hf⟩,?_⟩
 rintro ⟨⟨⟨sa,sl,sn,⟨⟩⟩,ok,⟨⟩⟩,⟨⟩⟩ ⟨e1,e2,e3,e4⟩
 have es:((sa,sl,sn,()):Sp.bZ)=(Sp.aP (a,l,nx,()) (f0,f1,f2,f3,f4,())).1:=Oh e1 e2 e3
 have e4:ok=(Sp.aP (a,l,nx,()) (f0,f1,f2,f3,f4,())).2:=e4
 have bad:∀ z:Sp.jB,(Sp.iH (a,l,nx,d,r,())&&(Sp.aP (a,l,nx,()) (f0,f1,f2,f3,f4,())).2)=false→z=(a,l,nx,d,r,())→Sp.updated (a,l,nx,d,r,()) (f0,f1,f2,f3,f4,()) z [] false:=fun z hz e=>⟨hz.symm,fun h=>(by cases h),fun _=>⟨e,rfl⟩⟩
 dsimp only
 refine af (fun h=>⟨hc,fun r1 hr1=>bad _ ?_ hr1⟩) fun h=>⟨hc,af (fun h2=>⟨hc,fun r1 hr1=>bad _ ?_ hr1⟩) fun h2=>⟨hc.1,?_⟩⟩
 · have h:ok=false:=fO h
   rw [← e4,h,Bool.and_false]
 · rw [fO h2];rfl
 have h:ok=true:=dI h
 have h2:=dI h2
 obtain ⟨hst,hok,hev⟩:=KN h2
 have hst:Sp.aF d=true:=hst
 have hlen:=(uy hst).2
 have hfind:Sp.bW (Sp.au (a,l,nx,()) f0).1∧Sp.Ig (Sp.au (a,l,nx,()) f0).1:=by
  rcases Sp.kP l f0 with ⟨h,_⟩|⟨n,hn,h,_,_⟩
  · have e:Sp.au (a,l,nx,()) f0=(Sp.Ov,false):=by
     show (bif decide (Sp.place l f0<0) then _ else _)=_
     rw [h];rfl
    rw [e];exact ⟨Nat.zero_le _,Nat.zero_le _⟩
  · have e:Sp.au (a,l,nx,()) f0=(Sp.fileAt l n,true):=by
     show (bif decide (Sp.place l f0<0) then _ else (Sp.fileAt l (Sp.place l f0).toNat,true))=_
     rw [h,decide_eq_false (by omega)];rfl
    rw [e]
    have hm:Sp.fileAt l n∈l:=getD_mem hn
    exact ⟨hc.1.2.2 _ hm,hhc _ hm⟩
 have hh:(Sp.au (a,l,nx,()) f0).1.2.2.2.2.1.length≤500:=hfind.2
 have hh2:f4.length≤500:=hhf
 refine ⟨⟨hc.2.1,hlen,hfind.1,hf,by omega⟩,fun r10 Vy=>⟨⟨hc,?_,hc.2.1⟩,fun r11 afZ=>?_⟩⟩
 · rw [es];exact Sp.TQ hc.1 hf
 · rw [es] at afZ
   obtain ⟨g1,g2,g3⟩:=afZ
   have hrep:(Sp.aP (a,l,nx,()) (f0,f1,f2,f3,f4,())).2=true:=e4▸h
   have hz:(Sp.aF d&&Sp.aH (Sp.aP (a,l,nx,()) (f0,f1,f2,f3,f4,())).1)=true:=by rw [hst,Vx hrep];rfl
   have asq:r11.1.2.2.1=true:=g1.trans hz
   have hz2:(Sp.iH (a,l,nx,d,r,())&&(Sp.aP (a,l,nx,()) (f0,f1,f2,f3,f4,())).2)=true:=by rw [h2,hrep];rfl
   obtain ⟨k1,k2,k3,k4⟩:=g2 asq
   refine ⟨asq.trans hz2.symm,fun _=>⟨k1,k2,?_,k4⟩,fun hno=>by rw [asq] at hno;cases hno⟩
   refine Sp.QO k3 (fun i hi=>ara Vy _) fun _ _ _=>rfl
theorem af0:ai prog G Ap.e:=by
 refine af2 (aj ah trivial) ?_
 intro a b hin hp
 dsimp only [Ap] at hp ⊢
 exact eqL (K:=fun r=>r=(decide (a=b),())) (fun x y:Int×Unit=>x.1 !=y.1) (fun x y=>by simp [Prod.ext_iff]) _ a b _ hin.1.1 rfl
theorem aaN:ai prog G yA.e:=by
 refine aaO (aj ah ⟨af0,trivial⟩) ?_
 intro a0 a1 b0 b1 hin hp
 dsimp only [yA] at hp ⊢
 refine af (fun h0=>⟨trivial,?_⟩) fun h0=>?_
 all_goals refine congrArg (·,()) (Bool.eq_iff_iff.2 ?_)
 · simp [beq_iff_eq.1 h0]
 · simp [show a0≠b0 by simpa using h0]
theorem XZ:ai prog G wF.e:=by
 refine X0 (aj ah ⟨aaN,trivial⟩) ?_
 intro a b hin hp
 dsimp only [wF] at hp ⊢
 exact av5 (K:=fun r=>r=(decide (a=b),())) (fun x y=>!decide (x=y)) (fun x y=>by simp) _ a b _ hin.1.1 rfl
theorem X3:ai prog G wG.e:=by
 refine X4 (aj ah ⟨XZ,af4,acW,trivial⟩) ?_
 intro a0 a1 a2 a3 a4 b0 b1 b2 b3 b4 hin hp
 dsimp only [wG] at hp ⊢
 refine ⟨trivial,af (fun h0=>⟨trivial,af (fun h1=>⟨trivial,?_⟩) fun h1=>?_⟩) fun h0=>?_⟩
 all_goals refine congrArg (·,()) (Bool.eq_iff_iff.2 ?_)
 · have h0:=gG h0
   have h1:=gG h1
   simp only [Prod.mk.injEq] at h0
   obtain ⟨rfl,rfl,rfl,_⟩:=h0
   subst h1
   simp
 · have h1:=iw h1
   simp [h1]
 · have h0:=iw h0
   simp only [decide_eq_true_eq,Bool.false_eq_true,false_iff,Prod.mk.injEq,and_true] at h0 ⊢
   exact fun h=>h0 ⟨h.1,h.2.1,h.2.2.1⟩
theorem alE {a:List Sp.gU} {fs:List Sp.aK} {nx:Int} {d:List Sp.aT} {r:List Sp.dN} (h1:a=Sp.usual) (h2:Sp.aH (a,fs,nx,())=true) (h3:Sp.bG (a,fs,nx,())) (h4:0<fs.length) (h5:Sp.aV d) (h6:Sp.aF d=true) (h7:Sp.iD fs d [] (fun _=>true) r):Sp.LX (a,fs,nx,d,r,()):=by
 refine ⟨⟨h3,h5,J4 h7 h5.1 h3.2.1 MZ⟩,h1,h4,?_⟩
 rw [aiG (by rw [h6,h2];rfl) h7,decide_eq_true rfl]
theorem ane:∃ c,Sp.LX c∧0<c.2.2.2.1.length:=by
 obtain ⟨out,h⟩:=BB (fs:=[(1,0,false,0,[],())]) (a:=Sp.usual) (nx:=2) (d:=[([100,97],[(1,0,0,[],0,0,[],())],())]) [] (fun _=>true)
 exact ⟨_,alE rfl Oi.1 Oi.2 (by decide) (IQ DK (by simp) (by simp)) ait (h (by rw [ait,Oi.1];rfl)),Nat.zero_lt_one⟩
theorem aiQ:ai prog G vJ.e:=by
 refine aiR (aj ah ⟨KI,Qa,GV,trivial⟩) (fun _ _=>by obtain ⟨c,h⟩:=ane;exact ⟨(((c.1,c.2.1,c.2.2.1,c.2.2.2.1,c.2.2.2.2.1,()),()),(([],0,0,()),())),⟨Int.le_refl 0,h⟩⟩) ?_
 intro b i h hin hp
 dsimp only [vJ] at hp ⊢
 refine ⟨hp,fun r0 hr0=>⟨hr0.1,fun r1 hr1=>⟨⟨hr0.2.2.2.2.1,hr1.2.2.1⟩,?_⟩⟩⟩
 rintro ⟨⟨⟨a,fs,nx,d,r,⟨⟩⟩,ok,⟨⟩⟩,⟨⟩⟩ ⟨e1,e2,_⟩
 have hz:(Sp.aF r1.1.1&&Sp.aH r0.1.1)=true:=by rw [hr1.2.2.2.1,hr0.2.2.1];rfl
 obtain ⟨k1,k2,k3⟩:=e2 (e1.trans hz)
 have k1:((a,fs,nx,()):Sp.bZ)=r0.1.1:=k1
 have k2:d=r1.1.1:=k2
 refine ⟨hr1.1,?_⟩
 subst k2
 rw [← k1] at hr0 k3
 exact ⟨alE hr0.2.1 hr0.2.2.1 hr0.2.2.2.2.1 hr0.2.2.2.2.2 hr1.2.2.1 hr1.2.2.2.1 k3,hr1.2.2.2.2⟩
end Go.Proofs.Tryz
