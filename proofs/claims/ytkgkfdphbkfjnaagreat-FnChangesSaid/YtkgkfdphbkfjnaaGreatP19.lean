import Derived.Test.YtkgkfdphbkfjnaaGreatP18
import Derived.Test.YtkgkfdphbkfjnaaGreatV8
namespace Go.Proofs.Tryz
open Go Go.Fw Go.IntWalk Sp
theorem F5:OK rU.e:=by
 refine PA.ok mixed (au [oQ.e] ⟨Gt,trivial⟩) H0 (by kernel_rfl) (show ∀ id p10,rU.goal (aam id p10) (id,(p10,()),()) from ?_)
 intro x b hin hp
 dsimp only [rU] at hp ⊢
 exact ⟨trivial,rfl⟩
theorem DF:OK je.e:=by
 refine PA.ok mixed (au [rU.e] ⟨F5,trivial⟩) Ea (by kernel_rfl) (show ∀ s mJ,je.goal (DI s mJ) (s,((mJ,()),()),()) from ?_)
 intro l b hin hp
 dsimp only [je] at hp ⊢
 exact Yk (K:=fun r=>r=(Sp.findAt (fun x:Int×Unit=>fG b x.1) l,())) (fun x:Int×Unit=>fG b x.1) (0,()) l _ hin.1.1 rfl
theorem Dj:OK iY.e:=by
 refine XA.ok mixed (au [je.e,rU.e] ⟨DF,F5,trivial⟩) DJ (fun ⟨s,((b,_),_),_⟩ _=>⟨((s.filter (fun x=>!fG b x.1),()),()),rfl⟩) (by kernel_rfl) (show ∀ s Sr,iY.goal (Dk s Sr) (s,((Sr,()),()),()) from ?_)
 intro s b hin hp
 dsimp only [iY] at hp ⊢
 exact ⟨trivial,apx (K:=fun r=>r.1.1=s.filter fun x=>!fG b x.1) (fun x:Int×Unit=>fG b x.1) (0,()) s _ (by have hp:s.length≤1000:=hp;omega) rfl⟩
theorem aeD:OK E5.e:=by
 refine XA.ok mixed (au [iY.e,rU.e,qW.e] ⟨Dj,F5,OB,trivial⟩) agr (fun ⟨a,b,_⟩ _=>⟨((Sp.without a b,()),()),rfl⟩) (by kernel_rfl) (show ∀ a b,E5.goal (aeE a b) (a,b,()) from ?_)
 intro a b hin hp
 dsimp only [E5] at hp ⊢
 have hp:a.length≤1000:=hp
 refine ⟨hp,?_⟩
 rintro ⟨⟨r0,⟨⟩⟩,⟨⟩⟩ e
 have e:r0=a:=e
 subst e
 exact ⟨hp,fun r h=>h⟩
theorem aeF:OK E8.e:=by
 refine XA.ok mixed (au [E5.e] ⟨aeD,trivial⟩) H0 (fun ⟨a,b,_⟩ _=>⟨((Sp.without b a,Sp.without a b,()),()),⟨rfl,rfl⟩⟩) (by kernel_rfl) (show ∀ a b,E8.goal (aeG a b) (a,b,()) from ?_)
 intro a b hin hp
 dsimp only [E8] at hp ⊢
 exact ⟨hp.2,fun r0 h0=>⟨hp.1,fun r1 h1=>⟨h0,h1⟩⟩⟩
theorem abd (a b:List (Int×Unit)):(Sp.without a b).length≤a.length:=List.length_filter_le _ _
theorem UC {r:List dL} (h:bH r) (s:Sp.Bytes):(fK r s).length≤1000:=by
 have:∀ l:List dL,(∀ x∈l,x.2.1.length≤1000)→(fK l s).length≤1000:=by
  intro l
  induction l with
  |nil=>exact fun _=>Nat.zero_le _
  |cons x t ih=>
   intro hl
   rw [fK]
   cases x.1==s with
   |true=>exact hl x List.mem_cons_self
   |false=>exact ih fun y hy=>hl y (List.mem_cons_of_mem _ hy)
 exact this r h.2
theorem aeH (a b:List dL) {n:Nat} (h:n<b.length):((b.take (n+1)).map (tV a)).filter zx=((b.take n).map (tV a)).filter zx++(bif zx (tV a (b.getD n oC)) then [tV a (b.getD n oC)] else []):=by
 rw [Sp.take_succ' b n oC h,List.map_append,List.filter_append,List.map_singleton,List.filter_cons]
 cases zx (tV a (b.getD n oC))<;>rfl
theorem VQ:OK yQ.e:=by
 refine XA.ok mixed (au [E8.e,oD.e] ⟨aeF,FX,trivial⟩) Ym (fun ⟨a,b,_⟩ _=>⟨((Fb a b,()),()),rfl⟩) (by kernel_rfl) (show ∀ a b,yQ.goal (VR a b) (a,b,()) from ?_)
 intro a b hin hp
 dsimp only [yQ] at hp ⊢
 obtain ⟨ha,hb⟩:bH a∧bH b:=hp
 have hbl:=hb.1
 refine dN (fun i (x:List qF)=>(((),i,()),x,())) (fun y=>y.1.2.1) (fun _ _=>rfl) b.length (by omega) (fun n l=>l=((b.take n).map (tV a)).filter zx) rfl (fun I μ n l hn hJ next=>?_) fun I μ l hJ=>?_
 · subst hJ
   have hl:(((b.take n).map (tV a)).filter zx).length≤n:=by
    have:=List.length_filter_le zx ((b.take n).map (tV a))
    rw [List.length_map,List.length_take] at this;omega
   have step:=aeH a b hn
   have l1:=UC ha (b.getD n oC).1
   have l2:(b.getD n oC).2.1.length≤1000:=Ip hb hn
   dsimp only
   refine dH (by omega) ⟨⟨by omega,by omega⟩,ha,⟨l1,l2⟩,?_⟩
   rintro ⟨⟨x,y,⟨⟩⟩,⟨⟩⟩ ⟨e1,e2⟩
   have e1:x=Sp.without (b.getD n oC).2.1 (fK a (b.getD n oC).1):=e1
   have e2:y=Sp.without (fK a (b.getD n oC).1) (b.getD n oC).2.1:=e2
   have k1:=abd (b.getD n oC).2.1 (fK a (b.getD n oC).1)
   have k2:=abd (fK a (b.getD n oC).1) (b.getD n oC).2.1
   rw [← e1] at k1
   rw [← e2] at k2
   have w:IntKind.i64.wrap ((x.length:Int)+(y.length:Int))=((x.length+y.length:Nat):Int):=by rw [fF _ (by omega)];omega
   have hd:tV a (b.getD n oC)=((b.getD n oC).1,x,y,()):=by rw [e1,e2];rfl
   have hz:zx (tV a (b.getD n oC))=decide (0<x.length+y.length):=by rw [hd];rfl
   dsimp only
   rw [w]
   refine af (fun h=>⟨by rw [bW];simp only [List.length_cons,List.length_nil];omega,rfl,next _ ?_⟩) fun h=>⟨rfl,next _ ?_⟩
   · have h:=fJ h
     rw [step,hz,decide_eq_true (by omega),hd];rfl
   · have h:=fZ h
     rw [step,hz,decide_eq_false (by omega)];simp
 · subst hJ
   rw [List.take_length]
   dsimp only
   exact dI (by omega) rfl
theorem VS:OK yS.e:=by
 refine XA.ok mixed (au [sO.e] ⟨Jy,trivial⟩) Yn (fun ⟨r,_⟩ _=>⟨((r,()),()),rfl⟩) (by kernel_rfl) (show ∀ FQ,yS.goal (VT FQ) (FQ,()) from ?_)
 intro r hin hp
 dsimp only [yS] at hp ⊢
 have hp:bH r:=hp
 have hl:=hp.1
 refine dN (fun i (x:List dL)=>(((),i,()),x,())) (fun y=>y.1.2.1) (fun _ _=>rfl) r.length (by omega) (fun n l=>l=r.take n) (by simp) (fun I μ n l hn hJ next=>?_) fun I μ l hJ=>?_
 · subst hJ
   have hl:(r.take n).length≤n:=by rw [List.length_take];omega
   dsimp only
   refine dH (by omega) ⟨⟨by omega,by omega⟩,Ip hp hn,by rw [bW];simp only [List.length_cons,List.length_nil];omega,rfl,next _ ?_⟩
   rw [Sp.take_succ' r n oC hn];rfl
 · subst hJ
   rw [List.take_length]
   dsimp only
   exact dI (by omega) rfl
theorem Yo:OK Ac.e:=by
 refine XA.ok mixed (au [] trivial) aan (fun ⟨r,_⟩ _=>⟨((r,()),()),rfl⟩) (by kernel_rfl) (show ∀ a,Ac.goal (Yp a) (a,()) from ?_)
 intro r hin hp
 dsimp only [Ac] at hp ⊢
 have hp:bH r:=hp
 have hl:=hp.1
 refine dN (fun i (x:List dL)=>(((),i,()),x,())) (fun y=>y.1.2.1) (fun _ _=>rfl) r.length (by omega) (fun n l=>l=r.take n) (by simp) (fun I μ n l hn hJ next=>?_) fun I μ l hJ=>?_
 · subst hJ
   have hl:(r.take n).length≤n:=by rw [List.length_take];omega
   have h2:(r.getD n ([],[],())).2.1.length≤1000:=Ip hp hn
   dsimp only
   rw [Int.toNat_natCast]
   refine dH (by omega) ⟨⟨by omega,by omega⟩,⟨by omega,by omega⟩,by rw [bW];omega,by rw [bW];simp only [List.length_cons,List.length_nil];omega,rfl,next _ ?_⟩
   rw [Sp.take_succ' r n oC hn]
 · subst hJ
   rw [List.take_length]
   dsimp only
   exact dI (by omega) rfl
theorem nM:OK jv.e:=by
 refine XA.ok mixed (au [yS.e,yI.e,lK.e] ⟨VS,OI,vF,trivial⟩) H0 (fun ⟨(a,l,nx,d,r,_),_⟩ _=>⟨(((a,l,nx,d,r,()),()),()),rfl⟩) (by kernel_rfl) (show ∀ c0 c1 c2 c3 c4,jv.goal (VU c0 c1 c2 c3 c4) ((c0,c1,c2,c3,c4,()),()) from ?_)
 intro a l nx d r hin hp
 dsimp only [jv] at hp ⊢
 obtain ⟨h1,h2,h3⟩:bn (a,l,nx,())∧aA d∧bH r:=hp
 refine ⟨h1,?_⟩
 rintro ⟨⟨⟨a',l',nx',⟨⟩⟩,⟨⟩⟩,⟨⟩⟩ e
 have e:((a',l',nx',()):bT)=(a,l,nx,()):=e
 refine ⟨h2,h3,?_⟩
 rintro ⟨⟨r',⟨⟩⟩,⟨⟩⟩ e2
 have e2:r'=r:=e2
 simp only [Prod.mk.injEq] at e
 obtain ⟨rfl,rfl,rfl,_⟩:=e
 subst e2
 rfl
theorem zy:OK oV.e:=by
 refine XA.ok mixed (au [Ac.e,rP.e,oN.e] ⟨Yo,Ep,zl,trivial⟩) H0 (fun ⟨(a,l,nx,d,r,_),_⟩ _=>⟨(((a,l,nx,d,r,()),()),()),rfl⟩) (by kernel_rfl) (show ∀ l0 l1 l2 l3 l4,oV.goal (aeI l0 l1 l2 l3 l4) ((l0,l1,l2,l3,l4,()),()) from ?_)
 intro a l nx d r hin hp
 dsimp only [oV] at hp ⊢
 obtain ⟨h1,h2,h3⟩:bn (a,l,nx,())∧aA d∧bH r:=hp
 refine ⟨h1,?_⟩
 rintro ⟨⟨⟨a',l',nx',⟨⟩⟩,⟨⟩⟩,⟨⟩⟩ e
 have e:((a',l',nx',()):bT)=(a,l,nx,()):=e
 refine ⟨h2,h3,?_⟩
 rintro ⟨⟨r',⟨⟩⟩,⟨⟩⟩ e2
 have e2:r'=r:=e2
 simp only [Prod.mk.injEq] at e
 obtain ⟨rfl,rfl,rfl,_⟩:=e
 subst e2
 rfl
theorem Kw {fs:List aN} {d:List aC} {r out:List dL} {nm:Sp.Bytes→Bool} (h:fM fs d r nm out) (hd:d.length≤1000) (hf:fs.length≤1000) (hr:bH r):bH out:=by
 refine ⟨by rw [h.order.1];exact hd,fun x hx=>?_⟩
 obtain ⟨i,hi,rfl⟩:=List.getElem_of_mem hx
 have hi':i<d.length:=by rw [← h.order.1];exact hi
 have e:(out[i]).2.1=iH out i:=by
  unfold iH sJ
  rw [List.getD_eq_getElem?_getD,List.getElem?_eq_getElem hi];rfl
 rw [e]
 cases hn:nm (Sp.nameOf d i) with
 |true=>
  rw [h.fix i hi' hn]
  unfold Sp.sel
  rw [List.length_map]
  exact Nat.le_trans (List.length_filter_le _ _) hf
 |false=>rw [h.kept i hi' hn];exact UC hr _
theorem aeJ (c:gm) (s:bT) (d:List aC) (nm:Sp.Bytes→Bool):∃ c' df,Sp.turned c s d nm c' df (ai d&&ax s):=by
 obtain ⟨a,fs,nx,_⟩:=s
 obtain ⟨out,h⟩:=zK (fs:=fs) (a:=a) (nx:=nx) (d:=d) (uV c) nm
 cases hk:(ai d&&ax (a,fs,nx,())) with
 |true=>exact ⟨(a,fs,nx,d,out,()),Fb (uV c) out,hk.symm,fun _=>⟨rfl,rfl,h hk,rfl⟩,fun h=>(by cases h)⟩
 |false=>exact ⟨c,[],hk.symm,fun h=>(by cases h),fun _=>⟨rfl,rfl⟩⟩
theorem vJ:OK lN.e:=by
 refine XA.ok mixed (au [yQ.e,yI.e,lK.e,jv.e,zW.e] ⟨VQ,OI,vF,nM,X9,trivial⟩) H0 (fun ⟨c,s,d,names,_⟩ _=>by obtain ⟨c',df,h⟩:=aeJ c s d (dA names);exact ⟨((((c'.1,c'.2.1,c'.2.2.1,c'.2.2.2.1,c'.2.2.2.2.1,()),df,(ai d&&ax s),()),())),h⟩) (by kernel_rfl) (show ∀ c0 c1 c2 c3 c4 s0 s1 s2 d names,lN.goal (aao c0 c1 c2 c3 c4 s0 s1 s2 d names) ((c0,c1,c2,c3,c4,()),(s0,s1,s2,()),d,names,()) from ?_)
 intro a l nx d0 r0 sa sl sn d names hin hp
 dsimp only [lN] at hp ⊢
 obtain ⟨hc,hs,hd⟩:=hp
 have hr:bH r0:=hc.2.2
 refine ⟨⟨hs,hd,hr⟩,?_⟩
 rintro ⟨⟨out,ok,⟨⟩⟩,⟨⟩⟩ ⟨e1,e2⟩
 have e1:ok=(ai d&&ax (sa,sl,sn,())):=e1
 have e2:ok=true→fM sl d r0 (dA names) out:=e2
 dsimp only
 refine af (fun h=>⟨hc,fun r1 hr1=>?_⟩) fun h=>⟨hs,?_⟩
 · have h:ok=false:=dS h
   exact ⟨e1▸h.symm,fun h=>(by cases h),fun _=>⟨hr1,rfl⟩⟩
 · have h:ok=true:=bU h
   rintro ⟨⟨s',⟨⟩⟩,⟨⟩⟩ es
   have es:s'=(sa,sl,sn,()):=es
   subst es
   refine ⟨hd,⟨hr,Kw (e2 h) hd.1 hs.2.1 hr⟩,fun r3 hr3=>⟨e1▸h.symm,fun _=>⟨rfl,rfl,e2 h,hr3⟩,fun h=>(by cases h)⟩⟩
theorem kG {c:gm} (h:dF c=true):ai (bJ c)=true∧ax (aT c)=true∧fM c.2.1 (bJ c) [] (fun _=>true) (uV c):=by
 have e:dF c=((ai (bJ c)&&ax (aT c))&&@decide (fM c.2.1 (bJ c) [] (fun _=>true) (uV c)) (Classical.propDecidable _)):=rfl
 rw [e,Bool.and_eq_true,Bool.and_eq_true] at h
 exact ⟨h.1.1,h.1.2,(@decide_eq_true_iff _ (Classical.propDecidable _)).1 h.2⟩
theorem aon {d:List aC} {f g:aN} {s:Sp.Bytes}:ags d f g s=true↔Vb d f g s:=@decide_eq_true_iff _ (Classical.propDecidable _)
theorem alb {d:List aC} {f g:aN} {r:Sp.LS} (h:Sp.isSet r (Vb d f g)) (s:Sp.Bytes):dA r s=ags d f g s:=by
 rw [Bool.eq_iff_iff,aon];exact h.2 s
theorem UD {s:bT} {f:aN} (h:(aV s f).2=true):ax (aV s f).1=true:=by
 rcases jl s f with ⟨e,_⟩|⟨n,hn,h1,h2,h3,e⟩
 · rw [e] at h;cases h
 · exact Et f h2
theorem abe (c:gm) (f:aN):∃ c' df,Sp.updated c f c' df (dF c&&(aV (aT c) f).2):=by
 cases hk:(dF c&&(aV (aT c) f).2) with
 |false=>exact ⟨c,[],hk.symm,fun h=>(by cases h),fun _=>⟨rfl,rfl⟩⟩
 |true=>
  have hk':=hk
  rw [Bool.and_eq_true] at hk'
  obtain ⟨h1,h2,h3⟩:=kG hk'.1
  have hst:=UD hk'.2
  rcases hs:(aV (aT c) f).1 with ⟨a,fs,nx,u⟩
  rw [hs] at hst
  obtain ⟨out,h⟩:=zK (fs:=fs) (a:=a) (nx:=nx) (d:=bJ c) (uV c) (ags (bJ c) (aO (aT c) f.1).1 f)
  refine ⟨(a,fs,nx,bJ c,out,()),Fb (uV c) out,hk.symm,fun _=>⟨hs.symm,rfl,?_,rfl⟩,fun h=>(by cases h)⟩
  rw [hs]
  exact h (by rw [h1];exact hst)
theorem Yq:OK Ad.e:=by
 refine XA.ok mixed (au [lN.e,xH.e,yN.e,jv.e,kJ.e,yO.e] ⟨vJ,UA,Ox,nM,qK,VJ,trivial⟩) H0 (fun ⟨c,f,_⟩ _=>by obtain ⟨c',df,h⟩:=abe c f;exact ⟨((((c'.1,c'.2.1,c'.2.2.1,c'.2.2.2.1,c'.2.2.2.2.1,()),df,(dF c&&(aV (aT c) f).2),()),())),h⟩) (by kernel_rfl) (show ∀ c0 c1 c2 c3 c4 f0 f1 f2 f3 f4,Ad.goal (Yr c0 c1 c2 c3 c4 f0 f1 f2 f3 f4) ((c0,c1,c2,c3,c4,()),(f0,f1,f2,f3,f4,()),()) from ?_)
 intro a l nx d r f0 f1 f2 f3 f4 hin hp
 dsimp only [Ad] at hp ⊢
 obtain ⟨hc,hf,hhc,hhf⟩:=hp
 refine ⟨⟨hc.1,hf⟩,?_⟩
 rintro ⟨⟨⟨sa,sl,sn,⟨⟩⟩,ok,⟨⟩⟩,⟨⟩⟩ ⟨e1,e2,e3,e4⟩
 have es:((sa,sl,sn,()):bT)=(aV (a,l,nx,()) (f0,f1,f2,f3,f4,())).1:=C9 e1 e2 e3
 have e4:ok=(aV (a,l,nx,()) (f0,f1,f2,f3,f4,())).2:=e4
 have bad:∀ z:gm,(dF (a,l,nx,d,r,())&&(aV (a,l,nx,()) (f0,f1,f2,f3,f4,())).2)=false→z=(a,l,nx,d,r,())→Sp.updated (a,l,nx,d,r,()) (f0,f1,f2,f3,f4,()) z [] false:=fun z hz e=>⟨hz.symm,fun h=>(by cases h),fun _=>⟨e,rfl⟩⟩
 dsimp only
 refine af (fun h=>⟨hc,fun r1 hr1=>bad _ ?_ hr1⟩) fun h=>⟨hc,af (fun h2=>⟨hc,fun r1 hr1=>bad _ ?_ hr1⟩) fun h2=>⟨hc.1,?_⟩⟩
 · have h:ok=false:=dS h
   rw [← e4,h,Bool.and_false]
 · rw [dS h2];rfl
 have h:ok=true:=bU h
 have h2:=bU h2
 obtain ⟨hst,hok,hev⟩:=kG h2
 have hst:ai d=true:=hst
 have hlen:=(ji hst).2
 have hfind:cu (aO (a,l,nx,()) f0).1∧Tf (aO (a,l,nx,()) f0).1:=by
  rcases lZ l f0 with ⟨h,_⟩|⟨n,hn,h,_,_⟩
  · have e:aO (a,l,nx,()) f0=(X6,false):=by
     show (bif decide (Sp.place l f0<0) then _ else _)=_
     rw [h];rfl
    rw [e];exact ⟨Nat.zero_le _,Nat.zero_le _⟩
  · have e:aO (a,l,nx,()) f0=(Sp.fileAt l n,true):=by
     show (bif decide (Sp.place l f0<0) then _ else (Sp.fileAt l (Sp.place l f0).toNat,true))=_
     rw [h,decide_eq_false (by omega)];rfl
    rw [e]
    have hm:Sp.fileAt l n∈l:=getD_mem hn
    exact ⟨hc.1.2.2 _ hm,hhc _ hm⟩
 have hh:(aO (a,l,nx,()) f0).1.2.2.2.2.1.length≤500:=hfind.2
 have hh2:f4.length≤500:=hhf
 refine ⟨⟨hc.2.1,hlen,hfind.1,hf,by omega⟩,fun r10 aoo=>⟨⟨hc,?_,hc.2.1⟩,fun r11 ajC=>?_⟩⟩
 · rw [es];exact Sv hc.1 hf
 · rw [es] at ajC
   obtain ⟨g1,g2,g3⟩:=ajC
   have hrep:(aV (a,l,nx,()) (f0,f1,f2,f3,f4,())).2=true:=e4▸h
   have hz:(ai d&&ax (aV (a,l,nx,()) (f0,f1,f2,f3,f4,())).1)=true:=by rw [hst,UD hrep];rfl
   have amh:r11.1.2.2.1=true:=g1.trans hz
   have hz2:(dF (a,l,nx,d,r,())&&(aV (a,l,nx,()) (f0,f1,f2,f3,f4,())).2)=true:=by rw [h2,hrep];rfl
   obtain ⟨k1,k2,k3,k4⟩:=g2 amh
   refine ⟨amh.trans hz2.symm,fun _=>⟨k1,k2,?_,k4⟩,fun hno=>by rw [amh] at hno;cases hno⟩
   refine Kv k3 (fun i hi=>alb aoo _) fun _ _ _=>rfl
theorem OJ:OK yT.e:=by
 refine PA.ok mixed (au [] trivial) aeK (by kernel_rfl) (show ∀ a b,yT.goal (acL a b) (a,b,()) from ?_)
 intro a b hin hp
 dsimp only [yT] at hp ⊢
 exact eqL (K:=fun r=>r=(decide (a=b),())) (fun x y:Int×Unit=>x.1 !=y.1) (fun x y=>by simp [Prod.ext_iff]) _ a b _ hin.1.1 rfl
theorem Yt:OK Af.e:=by
 refine PA.ok mixed (au [yT.e] ⟨OJ,trivial⟩) H0 (by kernel_rfl) (show ∀ a0 a1 b0 b1,Af.goal (Yu a0 a1 b0 b1) ((a0,a1,()),(b0,b1,()),()) from ?_)
 intro a0 a1 b0 b1 hin hp
 dsimp only [Af] at hp ⊢
 refine af (fun h0=>⟨trivial,?_⟩) fun h0=>?_
 all_goals refine congrArg (·,()) (Bool.eq_iff_iff.2 ?_)
 · simp [beq_iff_eq.1 h0]
 · simp [show a0≠b0 by simpa using h0]
theorem VW:OK yU.e:=by
 refine PA.ok mixed (au [Af.e] ⟨Yt,trivial⟩) Yv (by kernel_rfl) (show ∀ a b,yU.goal (VX a b) (a,b,()) from ?_)
 intro a b hin hp
 dsimp only [yU] at hp ⊢
 exact aom (K:=fun r=>r=(decide (a=b),())) (fun x y=>!decide (x=y)) (fun x y=>by simp) _ a b _ hin.1.1 rfl
theorem VY:OK yV.e:=by
 refine PA.ok mixed (au [yU.e,Ee.e,BZ.e] ⟨VW,acM,ZI,trivial⟩) H0 (by kernel_rfl) (show ∀ a0 a1 a2 a3 a4 b0 b1 b2 b3 b4,yV.goal (VZ a0 a1 a2 a3 a4 b0 b1 b2 b3 b4) ((a0,a1,a2,a3,a4,()),(b0,b1,b2,b3,b4,()),()) from ?_)
 intro a0 a1 a2 a3 a4 b0 b1 b2 b3 b4 hin hp
 dsimp only [yV] at hp ⊢
 refine ⟨trivial,af (fun h0=>⟨trivial,af (fun h1=>⟨trivial,?_⟩) fun h1=>?_⟩) fun h0=>?_⟩
 all_goals refine congrArg (·,()) (Bool.eq_iff_iff.2 ?_)
 · have h0:=fJ h0
   have h1:=fJ h1
   simp only [Prod.mk.injEq] at h0
   obtain ⟨rfl,rfl,rfl,_⟩:=h0
   subst h1
   simp
 · have h1:=fZ h1
   simp [h1]
 · have h0:=fZ h0
   simp only [decide_eq_true_eq,Bool.false_eq_true,false_iff,Prod.mk.injEq,and_true] at h0 ⊢
   exact fun h=>h0 ⟨h.1,h.2.1,h.2.2.1⟩
theorem agt {a:List gW} {fs:List aN} {nx:Int} {d:List aC} {r:List dL} (h1:a=Sp.usual) (h2:ax (a,fs,nx,())=true) (h3:bn (a,fs,nx,())) (h4:0<fs.length) (h5:aA d) (h6:ai d=true) (h7:fM fs d [] (fun _=>true) r):Pn (a,fs,nx,d,r,()):=by
 refine ⟨⟨h3,h5,Kw h7 h5.1 h3.2.1 MZ⟩,h1,h4,?_⟩
 rw [Sj (by rw [h6,h2];rfl) h7,decide_eq_true rfl]
theorem ahy:∃ c,Pn c∧0<c.2.2.2.1.length:=by
 obtain ⟨out,h⟩:=zK (fs:=[(1,0,false,0,[],())]) (a:=Sp.usual) (nx:=2) (d:=[([100,97],[(1,0,0,[],0,0,[],())],())]) [] (fun _=>true)
 exact ⟨_,agt rfl Oj.1 Oj.2 (by decide) (Jf Dc (by simp) (by simp)) aek (h (by rw [aek,Oj.1];rfl)),Nat.zero_lt_one⟩
theorem aeL:OK Fe.e:=by
 refine XA.ok mixed (au [vw.e,AA.e,uh.e] ⟨KQ,P5,Hw,trivial⟩) agu (fun _ _=>by obtain ⟨c,h⟩:=ahy;exact ⟨(((c.1,c.2.1,c.2.2.1,c.2.2.2.1,c.2.2.2.2.1,()),()),(([],0,0,()),())),⟨Int.le_refl 0,h⟩⟩) (by kernel_rfl) (show ∀ c0 c1 c2,Fe.goal (aeM c0 c1 c2) ((c0,c1,c2,()),()) from ?_)
 intro b i h hin hp
 dsimp only [Fe] at hp ⊢
 refine ⟨hp,fun r0 hr0=>⟨hr0.1,fun r1 hr1=>⟨⟨hr0.2.2.2.2.1,hr1.2.2.1⟩,?_⟩⟩⟩
 rintro ⟨⟨⟨a,fs,nx,d,r,⟨⟩⟩,ok,⟨⟩⟩,⟨⟩⟩ ⟨e1,e2,_⟩
 have hz:(ai r1.1.1&&ax r0.1.1)=true:=by rw [hr1.2.2.2.1,hr0.2.2.1];rfl
 obtain ⟨k1,k2,k3⟩:=e2 (e1.trans hz)
 have k1:((a,fs,nx,()):bT)=r0.1.1:=k1
 have k2:d=r1.1.1:=k2
 refine ⟨hr1.1,?_⟩
 subst k2
 rw [← k1] at hr0 k3
 exact ⟨agt hr0.2.1 hr0.2.2.1 hr0.2.2.2.2.1 hr0.2.2.2.2.2 hr1.2.2.1 hr1.2.2.2.1 k3,hr1.2.2.2.2⟩
end Go.Proofs.Tryz
