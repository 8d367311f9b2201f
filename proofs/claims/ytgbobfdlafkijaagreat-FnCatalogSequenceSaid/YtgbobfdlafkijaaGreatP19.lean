import Derived.Test.YtgbobfdlafkijaaGreatP18
import Derived.Test.YtgbobfdlafkijaaGreatV8
namespace Go.Proofs.Tryz
open Go Go.Fw Go.IntWalk
theorem Qy:aA prog G oO nX:=by
 refine ape (aB (l:=[(nD, .pure oz)]) (au ah) (by simp only [List.forall_mem_cons];exact ⟨⟨Q8,PD⟩,fun x hx=>by cases hx⟩)) ?_
 intro x b hin hp
 exact ⟨trivial,rfl⟩
theorem MJ:aA prog G jv kC:=by
 refine MK (aB (l:=[(oO, .pure nX)]) (au ah) (by simp only [List.forall_mem_cons];exact ⟨⟨Qy,OV⟩,fun x hx=>by cases hx⟩)) ?_
 intro l b hin hp
 exact avp (K:=fun r=>r=(Sp.findAt (fun x:Int×Unit=>Sp.gu b x.1) l,())) (fun x:Int×Unit=>Sp.gu b x.1) (0,()) l _ hin.1.1 rfl
theorem LU:aG prog G jo jX:=by
 refine LV (aB (l:=[(jv, .pure kC),(oO, .pure nX)]) (au ah) (by simp only [List.forall_mem_cons];exact ⟨⟨MJ,LK⟩,⟨Qy,OV⟩,fun x hx=>by cases hx⟩)) (fun ⟨s,((b,_),_),_⟩ _=>⟨((s.filter (fun x=>!Sp.gu b x.1),()),()),rfl⟩) ?_
 intro s b hin hp
 exact ⟨trivial,aGy (K:=fun r=>r.1.1=s.filter fun x=>!Sp.gu b x.1) (fun x:Int×Unit=>Sp.gu b x.1) (0,()) s _ (by have hp:s.length≤1000:=hp;omega) rfl⟩
theorem avr:aG prog G JC Ld:=by
 refine avs (aB (l:=[(jo, .eff (ax iE) jX),(oO, .pure nX),(sS, .eff (ax ni) xA)]) (au ah) (by simp only [List.forall_mem_cons];exact ⟨⟨LU,Kq⟩,⟨Qy,OV⟩,⟨ab5,aao⟩,fun x hx=>by cases hx⟩)) (fun ⟨a,b,_⟩ _=>⟨((Sp.without a b,()),()),rfl⟩) ?_
 intro a b hin hp
 have hp:a.length≤1000:=hp
 refine ⟨hp,?_⟩
 rintro ⟨⟨r0,⟨⟩⟩,⟨⟩⟩ e
 have e:r0=a:=e
 subst e
 exact ⟨hp,fun r h=>h⟩
theorem avt:aG prog G JD Le:=by
 refine avu (aB (l:=[(JC, .eff (ax Ci) Ld)]) (au ah) (by simp only [List.forall_mem_cons];exact ⟨⟨avr,arO⟩,fun x hx=>by cases hx⟩)) (fun ⟨a,b,_⟩ _=>⟨((Sp.without b a,Sp.without a b,()),()),⟨rfl,rfl⟩⟩) ?_
 intro a b hin hp
 exact ⟨hp.2,fun r0 h0=>⟨hp.1,fun r1 h1=>⟨h0,h1⟩⟩⟩
theorem aqs (a b:List (Int×Unit)):(Sp.without a b).length≤a.length:=List.length_filter_le _ _
theorem ahi {r:List Sp.eY} (h:Sp.aZ r) (s:Sp.Bytes):(Sp.gW r s).length≤1000:=by
 have:∀ l:List Sp.eY,(∀ x∈l,x.2.1.length≤1000)→(Sp.gW l s).length≤1000:=by
  intro l
  induction l with
  |nil=>exact fun _=>Nat.zero_le _
  |cons x t ih=>
   intro hl
   rw [Sp.gW]
   cases x.1==s with
   |true=>exact hl x List.mem_cons_self
   |false=>exact ih fun y hy=>hl y (List.mem_cons_of_mem _ hy)
 exact this r h.2
theorem avv (a b:List Sp.eY) {n:Nat} (h:n<b.length):((b.take (n+1)).map (Sp.Bf a)).filter Sp.Ie=((b.take n).map (Sp.Bf a)).filter Sp.Ie++(bif Sp.Ie (Sp.Bf a (b.getD n vG)) then [Sp.Bf a (b.getD n vG)] else []):=by
 rw [Sp.take_succ' b n vG h,List.map_append,List.filter_append,List.map_singleton,List.filter_cons]
 cases Sp.Ie (Sp.Bf a (b.getD n vG))<;>rfl
theorem ajp:aG prog G Aw En:=by
 refine ajq (aB (l:=[(JD, .eff (ax Cj) Le),(oL, .pure nT)]) (au ah) (by simp only [List.forall_mem_cons];exact ⟨⟨avt,arP⟩,⟨Qv,OT⟩,fun x hx=>by cases hx⟩)) (fun ⟨a,b,_⟩ _=>⟨((Sp.O5 a b,()),()),rfl⟩) ?_
 intro a b hin hp
 obtain ⟨ha,hb⟩:Sp.aZ a∧Sp.aZ b:=hp
 have hbl:=hb.1
 refine eX (fun i (x:List Sp.adx)=>(((),i,()),x,())) (fun y=>y.1.2.1) (fun _ _=>rfl) b.length (by omega) (fun n l=>l=((b.take n).map (Sp.Bf a)).filter Sp.Ie) rfl (fun I μ n l hn hJ next=>?_) fun I μ l hJ=>?_
 · subst hJ
   have hl:(((b.take n).map (Sp.Bf a)).filter Sp.Ie).length≤n:=by
    have:=List.length_filter_le Sp.Ie ((b.take n).map (Sp.Bf a))
    rw [List.length_map,List.length_take] at this;omega
   have step:=avv a b hn
   have l1:=ahi ha (b.getD n vG).1
   have l2:(b.getD n vG).2.1.length≤1000:=Ub hb hn
   dsimp only
   refine dW (by omega) ⟨⟨by omega,by omega⟩,ha,⟨l1,l2⟩,?_⟩
   rintro ⟨⟨x,y,⟨⟩⟩,⟨⟩⟩ ⟨e1,e2⟩
   have e1:x=Sp.without (b.getD n vG).2.1 (Sp.gW a (b.getD n vG).1):=e1
   have e2:y=Sp.without (Sp.gW a (b.getD n vG).1) (b.getD n vG).2.1:=e2
   have k1:=aqs (b.getD n vG).2.1 (Sp.gW a (b.getD n vG).1)
   have k2:=aqs (Sp.gW a (b.getD n vG).1) (b.getD n vG).2.1
   rw [← e1] at k1
   rw [← e2] at k2
   have w:IntKind.i64.wrap ((x.length:Int)+(y.length:Int))=((x.length+y.length:Nat):Int):=by rw [iL _ (by omega)];omega
   have hd:Sp.Bf a (b.getD n vG)=((b.getD n vG).1,x,y,()):=by rw [e1,e2];rfl
   have hz:Sp.Ie (Sp.Bf a (b.getD n vG))=decide (0<x.length+y.length):=by rw [hd];rfl
   dsimp only
   rw [w]
   refine af (fun h=>⟨by rw [dS];simp only [List.length_cons,List.length_nil];omega,rfl,next _ ?_⟩) fun h=>⟨rfl,next _ ?_⟩
   · have h:=ji h
     rw [step,hz,decide_eq_true (by omega),hd];rfl
   · have h:=jl h
     rw [step,hz,decide_eq_false (by omega)];simp
 · subst hJ
   rw [List.take_length]
   dsimp only
   exact dX (by omega) rfl
theorem ajr:aG prog G Au Ep:=by
 refine ajs (aB (l:=[(qN, .pure rP)]) (au ah) (by simp only [List.forall_mem_cons];exact ⟨⟨WI,Vq⟩,fun x hx=>by cases hx⟩)) (fun ⟨r,_⟩ _=>⟨((r,()),()),rfl⟩) ?_
 intro r hin hp
 have hp:Sp.aZ r:=hp
 have hl:=hp.1
 refine eX (fun i (x:List Sp.eY)=>(((),i,()),x,())) (fun y=>y.1.2.1) (fun _ _=>rfl) r.length (by omega) (fun n l=>l=r.take n) (by simp) (fun I μ n l hn hJ next=>?_) fun I μ l hJ=>?_
 · subst hJ
   have hl:(r.take n).length≤n:=by rw [List.length_take];omega
   dsimp only
   refine dW (by omega) ⟨⟨by omega,by omega⟩,Ub hp hn,by rw [dS];simp only [List.length_cons,List.length_nil];omega,rfl,next _ ?_⟩
   rw [Sp.take_succ' r n vG hn];rfl
 · subst hJ
   rw [List.take_length]
   dsimp only
   exact dX (by omega) rfl
theorem amC:aG prog G DJ FZ:=by
 refine amD (aB (l:=[]) (au ah) (fun x hx=>by cases hx)) (fun ⟨r,_⟩ _=>⟨((r,()),()),rfl⟩) ?_
 intro r hin hp
 have hp:Sp.aZ r:=hp
 have hl:=hp.1
 refine eX (fun i (x:List Sp.eY)=>(((),i,()),x,())) (fun y=>y.1.2.1) (fun _ _=>rfl) r.length (by omega) (fun n l=>l=r.take n) (by simp) (fun I μ n l hn hJ next=>?_) fun I μ l hJ=>?_
 · subst hJ
   have hl:(r.take n).length≤n:=by rw [List.length_take];omega
   have h2:(r.getD n ([],[],())).2.1.length≤1000:=Ub hp hn
   dsimp only
   rw [Int.toNat_natCast]
   refine dW (by omega) ⟨⟨by omega,by omega⟩,⟨by omega,by omega⟩,by rw [dS];omega,by rw [dS];simp only [List.length_cons,List.length_nil];omega,rfl,next _ ?_⟩
   rw [Sp.take_succ' r n vG hn]
 · subst hJ
   rw [List.take_length]
   dsimp only
   exact dX (by omega) rfl
theorem WM:aG prog G qQ rY:=by
 refine ajt (aB (l:=[(Au, .eff (ax uI) Ep),(xW, .pure yu),(oN, .eff (ax lC) nS)]) (au ah) (by simp only [List.forall_mem_cons];exact ⟨⟨ajr,agO⟩,⟨ace,ZK⟩,⟨Qu,OQ⟩,fun x hx=>by cases hx⟩)) (fun ⟨(a,l,nx,d,r,_),_⟩ _=>⟨(((a,l,nx,d,r,()),()),()),rfl⟩) ?_
 intro a l nx d r hin hp
 obtain ⟨h1,h2,h3⟩:Sp.bC (a,l,nx,())∧Sp.aO d∧Sp.aZ r:=hp
 refine ⟨h1,?_⟩
 rintro ⟨⟨⟨a',l',nx',⟨⟩⟩,⟨⟩⟩,⟨⟩⟩ e
 have e:((a',l',nx',()):Sp.eG)=(a,l,nx,()):=e
 refine ⟨h2,h3,?_⟩
 rintro ⟨⟨r',⟨⟩⟩,⟨⟩⟩ e2
 have e2:r'=r:=e2
 simp only [Prod.mk.injEq] at e
 obtain ⟨rfl,rfl,rfl,_⟩:=e
 subst e2
 rfl
theorem avw:aG prog G JG Lj:=by
 refine avx (aB (l:=[(DJ, .eff (ax wK) FZ),(zS, .pure zJ),(kQ, .eff (ax jy) jT)]) (au ah) (by simp only [List.forall_mem_cons];exact ⟨⟨amC,ai3⟩,⟨adw,abQ⟩,⟨H9,FC⟩,fun x hx=>by cases hx⟩)) (fun ⟨(a,l,nx,d,r,_),_⟩ _=>⟨(((a,l,nx,d,r,()),()),()),rfl⟩) ?_
 intro a l nx d r hin hp
 obtain ⟨h1,h2,h3⟩:Sp.bC (a,l,nx,())∧Sp.aO d∧Sp.aZ r:=hp
 refine ⟨h1,?_⟩
 rintro ⟨⟨⟨a',l',nx',⟨⟩⟩,⟨⟩⟩,⟨⟩⟩ e
 have e:((a',l',nx',()):Sp.eG)=(a,l,nx,()):=e
 refine ⟨h2,h3,?_⟩
 rintro ⟨⟨r',⟨⟩⟩,⟨⟩⟩ e2
 have e2:r'=r:=e2
 simp only [Prod.mk.injEq] at e
 obtain ⟨rfl,rfl,rfl,_⟩:=e
 subst e2
 rfl
theorem XM {fs:List Sp.aT} {d:List Sp.aY} {r out:List Sp.eY} {nm:Sp.Bytes→Bool} (h:Sp.iO fs d r nm out) (hd:d.length≤1000) (hf:fs.length≤1000) (hr:Sp.aZ r):Sp.aZ out:=by
 refine ⟨by rw [h.order.1];exact hd,fun x hx=>?_⟩
 obtain ⟨i,hi,rfl⟩:=List.getElem_of_mem hx
 have hi':i<d.length:=by rw [← h.order.1];exact hi
 have e:(out[i]).2.1=Sp.jS out i:=by
  unfold Sp.jS Sp.Ad
  rw [List.getD_eq_getElem?_getD,List.getElem?_eq_getElem hi];rfl
 rw [e]
 cases hn:nm (Sp.nameOf d i) with
 |true=>
  rw [h.fix i hi' hn]
  unfold Sp.sel
  rw [List.length_map]
  exact Nat.le_trans (List.length_filter_le _ _) hf
 |false=>rw [h.kept i hi' hn];exact ahi hr _
theorem avy (c:Sp.EG) (s:Sp.eG) (d:List Sp.aY) (nm:Sp.Bytes→Bool):∃ c' df,Sp.turned c s d nm c' df (Sp.aF d&&Sp.aH s):=by
 obtain ⟨a,fs,nx,_⟩:=s
 obtain ⟨out,h⟩:=Iz (fs:=fs) (a:=a) (nx:=nx) (d:=d) (Sp.J5 c) nm
 cases hk:(Sp.aF d&&Sp.aH (a,fs,nx,())) with
 |true=>exact ⟨(a,fs,nx,d,out,()),Sp.O5 (Sp.J5 c) out,hk.symm,fun _=>⟨rfl,rfl,h hk,rfl⟩,fun h=>(by cases h)⟩
 |false=>exact ⟨c,[],hk.symm,fun h=>(by cases h),fun _=>⟨rfl,rfl⟩⟩
theorem apf:aG prog G Fg G5:=by
 refine apg (aB (l:=[(Aw, .eff (ax uG) En),(xW, .pure yu),(oN, .eff (ax lC) nS),(qQ, .eff (ax mM) rY),(DK, .eff (ax wC) FT)]) (au ah) (by simp only [List.forall_mem_cons];exact ⟨⟨ajp,agM⟩,⟨ace,ZK⟩,⟨Qu,OQ⟩,⟨WM,Vw⟩,⟨amn,aiX⟩,fun x hx=>by cases hx⟩)) (fun ⟨c,s,d,names,_⟩ _=>by obtain ⟨c',df,h⟩:=avy c s d (Sp.dY names);exact ⟨((((c'.1,c'.2.1,c'.2.2.1,c'.2.2.2.1,c'.2.2.2.2.1,()),df,(Sp.aF d&&Sp.aH s),()),())),h⟩) ?_
 intro a l nx d0 r0 sa sl sn d names hin hp
 obtain ⟨hc,hs,hd⟩:=hp
 have hr:Sp.aZ r0:=hc.2.2
 refine ⟨⟨hs,hd,hr⟩,?_⟩
 rintro ⟨⟨out,ok,⟨⟩⟩,⟨⟩⟩ ⟨e1,e2⟩
 have e1:ok=(Sp.aF d&&Sp.aH (sa,sl,sn,())):=e1
 have e2:ok=true→Sp.iO sl d r0 (Sp.dY names) out:=e2
 dsimp only
 refine af (fun h=>⟨hc,fun r1 hr1=>?_⟩) fun h=>⟨hs,?_⟩
 · have h:ok=false:=jG h
   exact ⟨e1▸h.symm,fun h=>(by cases h),fun _=>⟨hr1,rfl⟩⟩
 · have h:ok=true:=gQ h
   rintro ⟨⟨s',⟨⟩⟩,⟨⟩⟩ es
   have es:s'=(sa,sl,sn,()):=es
   subst es
   refine ⟨hd,⟨hr,XM (e2 h) hd.1 hs.2.1 hr⟩,fun r3 hr3=>⟨e1▸h.symm,fun _=>⟨rfl,rfl,e2 h,hr3⟩,fun h=>(by cases h)⟩⟩
theorem VG {c:Sp.EG} (h:Sp.o5 c=true):Sp.aF (Sp.vz c)=true∧Sp.aH (Sp.mF c)=true∧Sp.iO c.2.1 (Sp.vz c) [] (fun _=>true) (Sp.J5 c):=by
 have e:Sp.o5 c=((Sp.aF (Sp.vz c)&&Sp.aH (Sp.mF c))&&@decide (Sp.iO c.2.1 (Sp.vz c) [] (fun _=>true) (Sp.J5 c)) (Classical.propDecidable _)):=rfl
 rw [e,Bool.and_eq_true,Bool.and_eq_true] at h
 exact ⟨h.1.1,h.1.2,(@decide_eq_true_iff _ (Classical.propDecidable _)).1 h.2⟩
theorem aFD {d:List Sp.aY} {f g:Sp.aT} {s:Sp.Bytes}:Sp.ax6 d f g s=true↔Sp.Aff d f g s:=@decide_eq_true_iff _ (Classical.propDecidable _)
theorem aCN {d:List Sp.aY} {f g:Sp.aT} {r:Sp.LS} (h:Sp.isSet r (Sp.Aff d f g)) (s:Sp.Bytes):Sp.dY r s=Sp.ax6 d f g s:=by
 rw [Bool.eq_iff_iff,aFD];exact h.2 s
theorem ahj {s:Sp.eG} {f:Sp.aT} (h:(Sp.aW s f).2=true):Sp.aH (Sp.aW s f).1=true:=by
 rcases Sp.pX s f with ⟨e,_⟩|⟨n,hn,h1,h2,h3,e⟩
 · rw [e] at h;cases h
 · exact Sp.ady f h2
theorem aqt (c:Sp.EG) (f:Sp.aT):∃ c' df,Sp.updated c f c' df (Sp.o5 c&&(Sp.aW (Sp.mF c) f).2):=by
 cases hk:(Sp.o5 c&&(Sp.aW (Sp.mF c) f).2) with
 |false=>exact ⟨c,[],hk.symm,fun h=>(by cases h),fun _=>⟨rfl,rfl⟩⟩
 |true=>
  have hk':=hk
  rw [Bool.and_eq_true] at hk'
  obtain ⟨h1,h2,h3⟩:=VG hk'.1
  have hst:=ahj hk'.2
  rcases hs:(Sp.aW (Sp.mF c) f).1 with ⟨a,fs,nx,u⟩
  rw [hs] at hst
  obtain ⟨out,h⟩:=Iz (fs:=fs) (a:=a) (nx:=nx) (d:=Sp.vz c) (Sp.J5 c) (Sp.ax6 (Sp.vz c) (Sp.fC (Sp.mF c) f.1).1 f)
  refine ⟨(a,fs,nx,Sp.vz c,out,()),Sp.O5 (Sp.J5 c) out,hk.symm,fun _=>⟨hs.symm,rfl,?_,rfl⟩,fun h=>(by cases h)⟩
  rw [hs]
  exact h (by rw [h1];exact hst)
theorem amE:aG prog G DU F5:=by
 refine amF (aB (l:=[(Fg, .eff (ax yD) G5),(zk, .eff (ax rZ) CG),(Hl, .pure I8),(qQ, .eff (ax mM) rY),(vJ, .pure wG),(AA, .eff (ax uD) Ei)]) (au ah) (by simp only [List.forall_mem_cons];exact ⟨⟨apf,alV⟩,⟨ahg,afm⟩,⟨aso,aoI⟩,⟨WM,Vw⟩,⟨ZO,Yy⟩,⟨ajl,agK⟩,fun x hx=>by cases hx⟩)) (fun ⟨c,f,_⟩ _=>by obtain ⟨c',df,h⟩:=aqt c f;exact ⟨((((c'.1,c'.2.1,c'.2.2.1,c'.2.2.2.1,c'.2.2.2.2.1,()),df,(Sp.o5 c&&(Sp.aW (Sp.mF c) f).2),()),())),h⟩) ?_
 intro a l nx d r f0 f1 f2 f3 f4 hin hp
 obtain ⟨hc,hf,hhc,hhf⟩:=hp
 refine ⟨⟨hc.1,hf⟩,?_⟩
 rintro ⟨⟨⟨sa,sl,sn,⟨⟩⟩,ok,⟨⟩⟩,⟨⟩⟩ ⟨e1,e2,e3,e4⟩
 have es:((sa,sl,sn,()):Sp.eG)=(Sp.aW (a,l,nx,()) (f0,f1,f2,f3,f4,())).1:=agU e1 e2 e3
 have e4:ok=(Sp.aW (a,l,nx,()) (f0,f1,f2,f3,f4,())).2:=e4
 have bad:∀ z:Sp.EG,(Sp.o5 (a,l,nx,d,r,())&&(Sp.aW (a,l,nx,()) (f0,f1,f2,f3,f4,())).2)=false→z=(a,l,nx,d,r,())→Sp.updated (a,l,nx,d,r,()) (f0,f1,f2,f3,f4,()) z [] false:=fun z hz e=>⟨hz.symm,fun h=>(by cases h),fun _=>⟨e,rfl⟩⟩
 dsimp only
 refine af (fun h=>⟨hc,fun r1 hr1=>bad _ ?_ hr1⟩) fun h=>⟨hc,af (fun h2=>⟨hc,fun r1 hr1=>bad _ ?_ hr1⟩) fun h2=>⟨hc.1,?_⟩⟩
 · have h:ok=false:=jG h
   rw [← e4,h,Bool.and_false]
 · rw [jG h2];rfl
 have h:ok=true:=gQ h
 have h2:=gQ h2
 obtain ⟨hst,hok,hev⟩:=VG h2
 have hst:Sp.aF d=true:=hst
 have hlen:=(yJ hst).2
 have hfind:Sp.bH (Sp.fC (a,l,nx,()) f0).1∧Sp.Rl (Sp.fC (a,l,nx,()) f0).1:=by
  rcases Sp.Ae l f0 with ⟨h,_⟩|⟨n,hn,h,_,_⟩
  · have e:Sp.fC (a,l,nx,()) f0=(Sp.amm,false):=by
     show (bif decide (Sp.place l f0<0) then _ else _)=_
     rw [h];rfl
    rw [e];exact ⟨Nat.zero_le _,Nat.zero_le _⟩
  · have e:Sp.fC (a,l,nx,()) f0=(Sp.fileAt l n,true):=by
     show (bif decide (Sp.place l f0<0) then _ else (Sp.fileAt l (Sp.place l f0).toNat,true))=_
     rw [h,decide_eq_false (by omega)];rfl
    rw [e]
    have hm:Sp.fileAt l n∈l:=getD_mem hn
    exact ⟨hc.1.2.2 _ hm,hhc _ hm⟩
 have hh:(Sp.fC (a,l,nx,()) f0).1.2.2.2.2.1.length≤500:=hfind.2
 have hh2:f4.length≤500:=hhf
 refine ⟨⟨hc.2.1,hlen,hfind.1,hf,by omega⟩,fun r10 aFE=>⟨⟨hc,?_,hc.2.1⟩,fun r11 aBx=>?_⟩⟩
 · rw [es];exact Sp.afD hc.1 hf
 · rw [es] at aBx
   obtain ⟨g1,g2,g3⟩:=aBx
   have hrep:(Sp.aW (a,l,nx,()) (f0,f1,f2,f3,f4,())).2=true:=e4▸h
   have hz:(Sp.aF d&&Sp.aH (Sp.aW (a,l,nx,()) (f0,f1,f2,f3,f4,())).1)=true:=by rw [hst,ahj hrep];rfl
   have aDS:r11.1.2.2.1=true:=g1.trans hz
   have hz2:(Sp.o5 (a,l,nx,d,r,())&&(Sp.aW (a,l,nx,()) (f0,f1,f2,f3,f4,())).2)=true:=by rw [h2,hrep];rfl
   obtain ⟨k1,k2,k3,k4⟩:=g2 aDS
   refine ⟨aDS.trans hz2.symm,fun _=>⟨k1,k2,?_,k4⟩,fun hno=>by rw [aDS] at hno;cases hno⟩
   refine Sp.ad8 k3 (fun i hi=>aCN aFE _) fun _ _ _=>rfl
theorem asx:aA prog G Hq Ja:=by
 refine asy (aB (l:=[]) (au ah) (fun x hx=>by cases hx)) ?_
 intro a b hin hp
 exact eqL (K:=fun r=>r=(decide (a=b),())) (fun x y:Int×Unit=>x.1 !=y.1) (fun x y=>by simp [Prod.ext_iff]) _ a b _ hin.1.1 rfl
theorem amG:aA prog G DN F7:=by
 refine amH (aB (l:=[(Hq, .pure Ja)]) (au ah) (by simp only [List.forall_mem_cons];exact ⟨⟨asx,aoK⟩,fun x hx=>by cases hx⟩)) ?_
 intro a0 a1 b0 b1 hin hp
 refine af (fun h0=>⟨trivial,?_⟩) fun h0=>?_
 all_goals refine congrArg (·,()) (Bool.eq_iff_iff.2 ?_)
 · simp [beq_iff_eq.1 h0]
 · simp [show a0≠b0 by simpa using h0]
theorem WN:aA prog G qR sD:=by
 refine aju (aB (l:=[(DN, .pure F7)]) (au ah) (by simp only [List.forall_mem_cons];exact ⟨⟨amG,ai6⟩,fun x hx=>by cases hx⟩)) ?_
 intro a b hin hp
 exact aG4 (K:=fun r=>r=(decide (a=b),())) (fun x y=>!decide (x=y)) (fun x y=>by simp) _ a b _ hin.1.1 rfl
theorem ajv:aA prog G AL Es:=by
 refine ajw (aB (l:=[(qR, .pure sD),(Hr, .pure I4),(Fj, .pure GI)]) (au ah) (by simp only [List.forall_mem_cons];exact ⟨⟨WN,Vx⟩,⟨asz,aoF⟩,⟨aoR,alM⟩,fun x hx=>by cases hx⟩)) ?_
 intro a0 a1 a2 a3 a4 b0 b1 b2 b3 b4 hin hp
 refine ⟨trivial,af (fun h0=>⟨trivial,af (fun h1=>⟨trivial,?_⟩) fun h1=>?_⟩) fun h0=>?_⟩
 all_goals refine congrArg (·,()) (Bool.eq_iff_iff.2 ?_)
 · have h0:=ji h0
   have h1:=ji h1
   simp only [Prod.mk.injEq] at h0
   obtain ⟨rfl,rfl,rfl,_⟩:=h0
   subst h1
   simp
 · have h1:=jl h1
   simp [h1]
 · have h0:=jl h0
   simp only [decide_eq_true_eq,Bool.false_eq_true,false_iff,Prod.mk.injEq,and_true] at h0 ⊢
   exact fun h=>h0 ⟨h.1,h.2.1,h.2.2.1⟩
theorem aCO {a:List Sp.iZ} {fs:List Sp.aT} {nx:Int} {d:List Sp.aY} {r:List Sp.eY} (h1:a=Sp.usual) (h2:Sp.aH (a,fs,nx,())=true) (h3:Sp.bC (a,fs,nx,())) (h4:0<fs.length) (h5:Sp.aO d) (h6:Sp.aF d=true) (h7:Sp.iO fs d [] (fun _=>true) r):Sp.ZU (a,fs,nx,d,r,()):=by
 refine ⟨⟨h3,h5,XM h7 h5.1 h3.2.1 aha⟩,h1,h4,?_⟩
 rw [avn (by rw [h6,h2];rfl) h7,decide_eq_true rfl]
theorem azt:∃ c,Sp.ZU c:=by
 obtain ⟨out,h⟩:=Iz (fs:=[(1,0,false,0,[],())]) (a:=Sp.usual) (nx:=2) (d:=[([100,97],[(1,0,0,[],0,0,[],())],())]) [] (fun _=>true)
 exact ⟨_,aCO rfl abU.1 abU.2 (by decide) (aas aat (by simp) (by simp)) au8 (h (by rw [au8,abU.1];rfl))⟩
theorem avz:aG prog G JI Lm:=by
 refine avA (aB (l:=[(DR, .eff (ax wF) FV),(JH, .eff (ax BK) KN),(Ht, .eff (ax zG) IX)]) (au ah) (by simp only [List.forall_mem_cons];exact ⟨⟨amq,aiZ⟩,⟨au9,arH⟩,⟨ar6,aoC⟩,fun x hx=>by cases hx⟩)) (fun _ _=>by obtain ⟨c,h⟩:=azt;exact ⟨(((c.1,c.2.1,c.2.2.1,c.2.2.2.1,c.2.2.2.2.1,()),()),(([],0,0,()),())),⟨by decide,h⟩⟩) ?_
 intro b i h hin hp
 refine ⟨hp,fun r0 hr0=>⟨hr0.1,fun r1 hr1=>⟨⟨hr0.2.2.2.2.1,hr1.2.2.1⟩,?_⟩⟩⟩
 rintro ⟨⟨⟨a,fs,nx,d,r,⟨⟩⟩,ok,⟨⟩⟩,⟨⟩⟩ ⟨e1,e2,_⟩
 have hz:(Sp.aF r1.1.1&&Sp.aH r0.1.1)=true:=by rw [hr1.2.2.2,hr0.2.2.1];rfl
 obtain ⟨k1,k2,k3⟩:=e2 (e1.trans hz)
 have k1:((a,fs,nx,()):Sp.eG)=r0.1.1:=k1
 have k2:d=r1.1.1:=k2
 refine ⟨hr1.1,?_⟩
 subst k2
 rw [← k1] at hr0 k3
 exact aCO hr0.2.1 hr0.2.2.1 hr0.2.2.2.2.1 hr0.2.2.2.2.2 hr1.2.2.1 hr1.2.2.2 k3
theorem ajx:aG prog G AO Et:=by
 refine ajy (aB (l:=[(JI, .eff (ax CP) Lm),(Df, .eff (ax zB) BB)]) (au ah) (by simp only [List.forall_mem_cons];exact ⟨⟨avz,arT⟩,⟨afo,adn⟩,fun x hx=>by cases hx⟩)) (fun _ _=>by obtain ⟨c,h⟩:=azt;exact ⟨(((c.1,c.2.1,c.2.2.1,c.2.2.2.1,c.2.2.2.2.1,()),()),()),h⟩) ?_
 intro code hin hp
 exact ⟨hp,fun r0 hr0=>⟨by rw [hr0];exact Int.le_refl _,fun r1 hr1=>hr1.2⟩⟩
theorem amI:aG prog G DV F8:=by
 refine amJ (aB (l:=[(dU, .eff (ax dI) dK),(Df, .eff (ax zB) BB)]) (au ah) (by simp only [List.forall_mem_cons];exact ⟨⟨kV,jZ⟩,⟨afo,adn⟩,fun x hx=>by cases hx⟩)) (fun _ _=>⟨((List.replicate 12 (0,()),()),()),⟨by decide,fun x hx=>by rw [List.eq_of_mem_replicate hx];decide⟩⟩) ?_
 intro code hin hp
 refine ⟨hp,fun r0 hr0=>?_⟩
 refine ⟨fun y=>∃ n:Nat,y.1.2.1=n∧n≤12∧0≤y.2.1.2.1∧y.2.2.1.length=n∧∀ x∈y.2.2.1,0≤x.1∧x.1<10000,fun y=>(12-y.1.2.1).toNat,⟨0,rfl,by decide,by rw [hr0];exact Int.le_refl _,rfl,fun x hx=>by cases hx⟩,?_⟩
 rintro ⟨⟨_,_,⟨⟩⟩,⟨b,i,h,⟨⟩⟩,l,⟨⟩⟩ ⟨n,rfl,hn,hi,hl,hx⟩
 dsimp only at hi hl hx ⊢
 have w:IntKind.i64.wrap ((n:Int)+1)=((n+1:Nat):Int):=iL _ (by omega)
 rw [w]
 refine af (fun hc=>⟨hi,?_⟩) fun hc=>⟨by have:=jl hc;show l.length=12;omega,hx⟩
 have hc:=ji hc
 rintro ⟨⟨x,⟨⟩⟩,⟨b1,i1,h1,⟨⟩⟩,⟨⟩⟩ ⟨q1,q2,q3,_⟩
 refine ⟨by rw [dS];simp only [List.length_cons,List.length_nil];omega,rfl,⟨n+1,rfl,by omega,q1,by simp;omega,fun y hy=>?_⟩,by omega⟩
 rcases List.mem_append.1 hy with hy|hy
 · exact hx y hy
 · rw [List.mem_singleton.1 hy];exact ⟨q2,q3 (by decide)⟩
end Go.Proofs.Tryz
