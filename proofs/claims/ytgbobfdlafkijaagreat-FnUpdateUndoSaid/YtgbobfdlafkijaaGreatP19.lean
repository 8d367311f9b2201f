import Derived.Test.YtgbobfdlafkijaaGreatP18
import Derived.Test.YtgbobfdlafkijaaGreatV8
namespace Go.Proofs.Tryz
open Go Go.Fw Go.IntWalk
theorem Oj:aA prog G nJ mP:=by
 refine amg (aC (l:=[(lW, .pure mY)]) (au ah) (by simp only [List.forall_mem_cons];exact ⟨⟨OV,Nu⟩,fun x hx=>by cases hx⟩)) ?_
 intro x b hin hp
 exact ⟨trivial,rfl⟩
theorem J7:aA prog G jd jJ:=by
 refine J8 (aC (l:=[(nJ, .pure mP)]) (au ah) (by simp only [List.forall_mem_cons];exact ⟨⟨Oj,MI⟩,fun x hx=>by cases hx⟩)) ?_
 intro l b hin hp
 exact arX (K:=fun r=>r=(Sp.findAt (fun x:Int×Unit=>Sp.dS b x.1) l,())) (fun x:Int×Unit=>Sp.dS b x.1) (0,()) l _ hin.1.1 rfl
theorem JL:aG prog G ja jE:=by
 refine JM (aC (l:=[(jd, .pure jJ),(nJ, .pure mP)]) (au ah) (by simp only [List.forall_mem_cons];exact ⟨⟨J7,JF⟩,⟨Oj,MI⟩,fun x hx=>by cases hx⟩)) (fun ⟨s,((b,_),_),_⟩ _=>⟨((s.filter (fun x=>!Sp.dS b x.1),()),()),rfl⟩) ?_
 intro s b hin hp
 exact ⟨trivial,aDr (K:=fun r=>r.1.1=s.filter fun x=>!Sp.dS b x.1) (fun x:Int×Unit=>Sp.dS b x.1) (0,()) s _ (by have hp:s.length≤1000:=hp;omega) rfl⟩
theorem arZ:aG prog G Ib Jt:=by
 refine ar0 (aC (l:=[(ja, .eff (ay gB) jE),(nJ, .pure mP),(qV, .eff (ay lV) vK)]) (au ah) (by simp only [List.forall_mem_cons];exact ⟨⟨JL,IK⟩,⟨Oj,MI⟩,⟨ZI,Yb⟩,fun x hx=>by cases hx⟩)) (fun ⟨a,b,_⟩ _=>⟨((Sp.without a b,()),()),rfl⟩) ?_
 intro a b hin hp
 have hp:a.length≤1000:=hp
 refine ⟨hp,?_⟩
 rintro ⟨⟨r0,⟨⟩⟩,⟨⟩⟩ e
 have e:r0=a:=e
 subst e
 exact ⟨hp,fun r h=>h⟩
theorem ar1:aG prog G Ic Ju:=by
 refine ar2 (aC (l:=[(Ib, .eff (ay Aw) Jt)]) (au ah) (by simp only [List.forall_mem_cons];exact ⟨⟨arZ,aoE⟩,fun x hx=>by cases hx⟩)) (fun ⟨a,b,_⟩ _=>⟨((Sp.without b a,Sp.without a b,()),()),⟨rfl,rfl⟩⟩) ?_
 intro a b hin hp
 exact ⟨hp.2,fun r0 h0=>⟨hp.1,fun r1 h1=>⟨h0,h1⟩⟩⟩
theorem abH (a b:List (Int×Unit)):(Sp.without a b).length≤a.length:=List.length_filter_le _ _
theorem ar4 {r:List Sp.dJ} (h:Sp.bJ r) (s:Sp.Bytes):(Sp.gV r s).length≤1000:=by
 have:∀ l:List Sp.dJ,(∀ x∈l,x.2.1.length≤1000)→(Sp.gV l s).length≤1000:=by
  intro l
  induction l with
  |nil=>exact fun _=>Nat.zero_le _
  |cons x t ih=>
   intro hl
   rw [Sp.gV]
   cases x.1==s with
   |true=>exact hl x List.mem_cons_self
   |false=>exact ih fun y hy=>hl y (List.mem_cons_of_mem _ hy)
 exact this r h.2
theorem aAD (a b:List Sp.dJ) {n:Nat} (h:n<b.length):((b.take (n+1)).map (Sp.qY a)).filter Sp.DY=((b.take n).map (Sp.qY a)).filter Sp.DY++(bif Sp.DY (Sp.qY a (b.getD n Ep)) then [Sp.qY a (b.getD n Ep)] else []):=by
 rw [Sp.take_succ' b n Ep h,List.map_append,List.filter_append,List.map_singleton,List.filter_cons]
 cases Sp.DY (Sp.qY a (b.getD n Ep))<;>rfl
theorem agR:aG prog G zo CS:=by
 refine agS (aC (l:=[(Ic, .eff (ay Az) Ju),(nH, .pure mO)]) (au ah) (by simp only [List.forall_mem_cons];exact ⟨⟨ar1,aoF⟩,⟨Oi,MH⟩,fun x hx=>by cases hx⟩)) (fun ⟨a,b,_⟩ _=>⟨((Sp.GR a b,()),()),rfl⟩) ?_
 intro a b hin hp
 obtain ⟨ha,hb⟩:Sp.bJ a∧Sp.bJ b:=hp
 have hbl:=hb.1
 refine gQ (fun i (x:List Sp.Tv)=>(((),i,()),x,())) (fun y=>y.1.2.1) (fun _ _=>rfl) b.length (by omega) (fun n l=>l=((b.take n).map (Sp.qY a)).filter Sp.DY) rfl (fun I μ n l hn hJ next=>?_) fun I μ l hJ=>?_
 · subst hJ
   have hl:(((b.take n).map (Sp.qY a)).filter Sp.DY).length≤n:=by
    have:=List.length_filter_le Sp.DY ((b.take n).map (Sp.qY a))
    rw [List.length_map,List.length_take] at this;omega
   have step:=aAD a b hn
   have l1:=ar4 ha (b.getD n Ep).1
   have l2:(b.getD n Ep).2.1.length≤1000:=aaZ hb hn
   dsimp only
   refine eF (by omega) ⟨⟨by omega,by omega⟩,ha,⟨l1,l2⟩,?_⟩
   rintro ⟨⟨x,y,⟨⟩⟩,⟨⟩⟩ ⟨e1,e2⟩
   have e1:x=Sp.without (b.getD n Ep).2.1 (Sp.gV a (b.getD n Ep).1):=e1
   have e2:y=Sp.without (Sp.gV a (b.getD n Ep).1) (b.getD n Ep).2.1:=e2
   have k1:=abH (b.getD n Ep).2.1 (Sp.gV a (b.getD n Ep).1)
   have k2:=abH (Sp.gV a (b.getD n Ep).1) (b.getD n Ep).2.1
   rw [← e1] at k1
   rw [← e2] at k2
   have w:IntKind.i64.wrap ((x.length:Int)+(y.length:Int))=((x.length+y.length:Nat):Int):=by rw [iM _ (by omega)];omega
   have hd:Sp.qY a (b.getD n Ep)=((b.getD n Ep).1,x,y,()):=by rw [e1,e2];rfl
   have hz:Sp.DY (Sp.qY a (b.getD n Ep))=decide (0<x.length+y.length):=by rw [hd];rfl
   dsimp only
   rw [w]
   refine af (fun h=>⟨by rw [dU];simp only [List.length_cons,List.length_nil];omega,rfl,next _ ?_⟩) fun h=>⟨rfl,next _ ?_⟩
   · have h:=jw h
     rw [step,hz,decide_eq_true (by omega),hd];rfl
   · have h:=jB h
     rw [step,hz,decide_eq_false (by omega)];simp
 · subst hJ
   rw [List.take_length]
   dsimp only
   exact eG (by omega) rfl
theorem agT:aG prog G zn CU:=by
 refine agU (aC (l:=[(pU, .pure qC)]) (au ah) (by simp only [List.forall_mem_cons];exact ⟨⟨Ux,SN⟩,fun x hx=>by cases hx⟩)) (fun ⟨r,_⟩ _=>⟨((r,()),()),rfl⟩) ?_
 intro r hin hp
 have hp:Sp.bJ r:=hp
 have hl:=hp.1
 refine gQ (fun i (x:List Sp.dJ)=>(((),i,()),x,())) (fun y=>y.1.2.1) (fun _ _=>rfl) r.length (by omega) (fun n l=>l=r.take n) (by simp) (fun I μ n l hn hJ next=>?_) fun I μ l hJ=>?_
 · subst hJ
   have hl:(r.take n).length≤n:=by rw [List.length_take];omega
   dsimp only
   refine eF (by omega) ⟨⟨by omega,by omega⟩,aaZ hp hn,by rw [dU];simp only [List.length_cons,List.length_nil];omega,rfl,next _ ?_⟩
   rw [Sp.take_succ' r n Ep hn];rfl
 · subst hJ
   rw [List.take_length]
   dsimp only
   exact eG (by omega) rfl
theorem Uz:aG prog G pW qH:=by
 refine agV (aC (l:=[(zn, .eff (ay sG) CU),(wz, .pure wM),(nI, .eff (ay kM) mM)]) (au ah) (by simp only [List.forall_mem_cons];exact ⟨⟨agT,aer⟩,⟨ZM,XB⟩,⟨Oh,MG⟩,fun x hx=>by cases hx⟩)) (fun ⟨(a,l,nx,d,r,_),_⟩ _=>⟨(((a,l,nx,d,r,()),()),()),rfl⟩) ?_
 intro a l nx d r hin hp
 obtain ⟨h1,h2,h3⟩:Sp.bQ (a,l,nx,())∧Sp.aS d∧Sp.bJ r:=hp
 refine ⟨h1,?_⟩
 rintro ⟨⟨⟨a',l',nx',⟨⟩⟩,⟨⟩⟩,⟨⟩⟩ e
 have e:((a',l',nx',()):Sp.dQ)=(a,l,nx,()):=e
 refine ⟨h2,h3,?_⟩
 rintro ⟨⟨r',⟨⟩⟩,⟨⟩⟩ e2
 have e2:r'=r:=e2
 simp only [Prod.mk.injEq] at e
 obtain ⟨rfl,rfl,rfl,_⟩:=e
 subst e2
 rfl
theorem abI {fs:List Sp.aQ} {d:List Sp.aW} {r out:List Sp.dJ} {nm:Sp.Bytes→Bool} (h:Sp.iY fs d r nm out) (hd:d.length≤1000) (hf:fs.length≤1000) (hr:Sp.bJ r):Sp.bJ out:=by
 refine ⟨by rw [h.order.1];exact hd,fun x hx=>?_⟩
 obtain ⟨i,hi,rfl⟩:=List.getElem_of_mem hx
 have hi':i<d.length:=by rw [← h.order.1];exact hi
 have e:(out[i]).2.1=Sp.fK out i:=by
  unfold Sp.fK Sp.kE
  rw [List.getD_eq_getElem?_getD,List.getElem?_eq_getElem hi];rfl
 rw [e]
 cases hn:nm (Sp.nameOf d i) with
 |true=>
  rw [h.fix i hi' hn]
  unfold Sp.sel
  rw [List.length_map]
  exact Nat.le_trans (List.length_filter_le _ _) hf
 |false=>rw [h.kept i hi' hn];exact ar4 hr _
theorem aAE (c:Sp.Gj) (s:Sp.dQ) (d:List Sp.aW) (nm:Sp.Bytes→Bool):∃ c' df,Sp.turned c s d nm c' df (Sp.aH d&&Sp.aN s):=by
 obtain ⟨a,fs,nx,_⟩:=s
 obtain ⟨out,h⟩:=JK (fs:=fs) (a:=a) (nx:=nx) (d:=d) (Sp.wI c) nm
 cases hk:(Sp.aH d&&Sp.aN (a,fs,nx,())) with
 |true=>exact ⟨(a,fs,nx,d,out,()),Sp.GR (Sp.wI c) out,hk.symm,fun _=>⟨rfl,rfl,h hk,rfl⟩,fun h=>(by cases h)⟩
 |false=>exact ⟨c,[],hk.symm,fun h=>(by cases h),fun _=>⟨rfl,rfl⟩⟩
theorem amh:aG prog G DK EZ:=by
 refine ami (aC (l:=[(zo, .eff (ay sF) CS),(wz, .pure wM),(nI, .eff (ay kM) mM),(pW, .eff (ay lK) qH),(BI, .eff (ay uK) Ed)]) (au ah) (by simp only [List.forall_mem_cons];exact ⟨⟨agR,aep⟩,⟨ZM,XB⟩,⟨Oh,MG⟩,⟨Uz,SX⟩,⟨ajB,agt⟩,fun x hx=>by cases hx⟩)) (fun ⟨c,s,d,names,_⟩ _=>by obtain ⟨c',df,h⟩:=aAE c s d (Sp.iG names);exact ⟨((((c'.1,c'.2.1,c'.2.2.1,c'.2.2.2.1,c'.2.2.2.2.1,()),df,(Sp.aH d&&Sp.aN s),()),())),h⟩) ?_
 intro a l nx d0 r0 sa sl sn d names hin hp
 obtain ⟨hc,hs,hd⟩:=hp
 have hr:Sp.bJ r0:=hc.2.2
 refine ⟨⟨hs,hd,hr⟩,?_⟩
 rintro ⟨⟨out,ok,⟨⟩⟩,⟨⟩⟩ ⟨e1,e2⟩
 have e1:ok=(Sp.aH d&&Sp.aN (sa,sl,sn,())):=e1
 have e2:ok=true→Sp.iY sl d r0 (Sp.iG names) out:=e2
 dsimp only
 refine af (fun h=>⟨hc,fun r1 hr1=>?_⟩) fun h=>⟨hs,?_⟩
 · have h:ok=false:=kQ h
   exact ⟨e1▸h.symm,fun h=>(by cases h),fun _=>⟨hr1,rfl⟩⟩
 · have h:ok=true:=ig h
   rintro ⟨⟨s',⟨⟩⟩,⟨⟩⟩ es
   have es:s'=(sa,sl,sn,()):=es
   subst es
   refine ⟨hd,⟨hr,abI (e2 h) hd.1 hs.2.1 hr⟩,fun r3 hr3=>⟨e1▸h.symm,fun _=>⟨rfl,rfl,e2 h,hr3⟩,fun h=>(by cases h)⟩⟩
theorem Wi {c:Sp.Gj} (h:Sp.yQ c=true):Sp.aH (Sp.tK c)=true∧Sp.aN (Sp.oW c)=true∧Sp.iY c.2.1 (Sp.tK c) [] (fun _=>true) (Sp.wI c):=by
 have e:Sp.yQ c=((Sp.aH (Sp.tK c)&&Sp.aN (Sp.oW c))&&@decide (Sp.iY c.2.1 (Sp.tK c) [] (fun _=>true) (Sp.wI c)) (Classical.propDecidable _)):=rfl
 rw [e,Bool.and_eq_true,Bool.and_eq_true] at h
 exact ⟨h.1.1,h.1.2,(@decide_eq_true_iff _ (Classical.propDecidable _)).1 h.2⟩
theorem aCs {d:List Sp.aW} {f g:Sp.aQ} {s:Sp.Bytes}:Sp.auE d f g s=true↔Sp.Aff d f g s:=@decide_eq_true_iff _ (Classical.propDecidable _)
theorem aDs {d:List Sp.aW} {f g:Sp.aQ} {r:Sp.LS} (h:Sp.isSet r (Sp.Aff d f g)) (s:Sp.Bytes):Sp.iG r s=Sp.auE d f g s:=by
 rw [Bool.eq_iff_iff,aCs];exact h.2 s
theorem ar5 {s:Sp.dQ} {f:Sp.aQ} (h:(Sp.bU s f).2=true):Sp.aN (Sp.bU s f).1=true:=by
 rcases Sp.wX s f with ⟨e,_⟩|⟨n,hn,h1,h2,h3,e⟩
 · rw [e] at h;cases h
 · exact Sp.aa0 f h2
theorem ay1 (c:Sp.Gj) (f:Sp.aQ):∃ c' df,Sp.updated c f c' df (Sp.yQ c&&(Sp.bU (Sp.oW c) f).2):=by
 cases hk:(Sp.yQ c&&(Sp.bU (Sp.oW c) f).2) with
 |false=>exact ⟨c,[],hk.symm,fun h=>(by cases h),fun _=>⟨rfl,rfl⟩⟩
 |true=>
  have hk':=hk
  rw [Bool.and_eq_true] at hk'
  obtain ⟨h1,h2,h3⟩:=Wi hk'.1
  have hst:=ar5 hk'.2
  rcases hs:(Sp.bU (Sp.oW c) f).1 with ⟨a,fs,nx,u⟩
  rw [hs] at hst
  obtain ⟨out,h⟩:=JK (fs:=fs) (a:=a) (nx:=nx) (d:=Sp.tK c) (Sp.wI c) (Sp.auE (Sp.tK c) (Sp.jY (Sp.oW c) f.1).1 f)
  refine ⟨(a,fs,nx,Sp.tK c,out,()),Sp.GR (Sp.wI c) out,hk.symm,fun _=>⟨hs.symm,rfl,?_,rfl⟩,fun h=>(by cases h)⟩
  rw [hs]
  exact h (by rw [h1];exact hst)
theorem ajN:aG prog G BM Eh:=by
 refine ajO (aC (l:=[(DK, .eff (ay wU) EZ),(xU, .eff (ay qI) AA),(Fp, .pure GN),(pW, .eff (ay lK) qH),(DL, .pure EX),(zq, .eff (ay sD) CP)]) (au ah) (by simp only [List.forall_mem_cons];exact ⟨⟨amh,ajc⟩,⟨aeO,ac0⟩,⟨ao4,alO⟩,⟨Uz,SX⟩,⟨amb,aja⟩,⟨agP,aeo⟩,fun x hx=>by cases hx⟩)) (fun ⟨c,f,_⟩ _=>by obtain ⟨c',df,h⟩:=ay1 c f;exact ⟨((((c'.1,c'.2.1,c'.2.2.1,c'.2.2.2.1,c'.2.2.2.2.1,()),df,(Sp.yQ c&&(Sp.bU (Sp.oW c) f).2),()),())),h⟩) ?_
 intro a l nx d r f0 f1 f2 f3 f4 hin hp
 obtain ⟨hc,hf,hhc,hhf⟩:=hp
 refine ⟨⟨hc.1,hf⟩,?_⟩
 rintro ⟨⟨⟨sa,sl,sn,⟨⟩⟩,ok,⟨⟩⟩,⟨⟩⟩ ⟨e1,e2,e3,e4⟩
 have es:((sa,sl,sn,()):Sp.dQ)=(Sp.bU (a,l,nx,()) (f0,f1,f2,f3,f4,())).1:=aoT e1 e2 e3
 have e4:ok=(Sp.bU (a,l,nx,()) (f0,f1,f2,f3,f4,())).2:=e4
 have bad:∀ z:Sp.Gj,(Sp.yQ (a,l,nx,d,r,())&&(Sp.bU (a,l,nx,()) (f0,f1,f2,f3,f4,())).2)=false→z=(a,l,nx,d,r,())→Sp.updated (a,l,nx,d,r,()) (f0,f1,f2,f3,f4,()) z [] false:=fun z hz e=>⟨hz.symm,fun h=>(by cases h),fun _=>⟨e,rfl⟩⟩
 dsimp only
 refine af (fun h=>⟨hc,fun r1 hr1=>bad _ ?_ hr1⟩) fun h=>⟨hc,af (fun h2=>⟨hc,fun r1 hr1=>bad _ ?_ hr1⟩) fun h2=>⟨hc.1,?_⟩⟩
 · have h:ok=false:=kQ h
   rw [← e4,h,Bool.and_false]
 · rw [kQ h2];rfl
 have h:ok=true:=ig h
 have h2:=ig h2
 obtain ⟨hst,hok,hev⟩:=Wi h2
 have hst:Sp.aH d=true:=hst
 have hlen:=(xq hst).2
 have hfind:Sp.dK (Sp.jY (a,l,nx,()) f0).1∧Sp.adM (Sp.jY (a,l,nx,()) f0).1:=by
  rcases Sp.Gi l f0 with ⟨h,_⟩|⟨n,hn,h,_,_⟩
  · have e:Sp.jY (a,l,nx,()) f0=(Sp.ayg,false):=by
     show (bif decide (Sp.place l f0<0) then _ else _)=_
     rw [h];rfl
    rw [e];exact ⟨Nat.zero_le _,Nat.zero_le _⟩
  · have e:Sp.jY (a,l,nx,()) f0=(Sp.fileAt l n,true):=by
     show (bif decide (Sp.place l f0<0) then _ else (Sp.fileAt l (Sp.place l f0).toNat,true))=_
     rw [h,decide_eq_false (by omega)];rfl
    rw [e]
    have hm:Sp.fileAt l n∈l:=getD_mem hn
    exact ⟨hc.1.2.2 _ hm,hhc _ hm⟩
 have hh:(Sp.jY (a,l,nx,()) f0).1.2.2.2.2.1.length≤500:=hfind.2
 have hh2:f4.length≤500:=hhf
 refine ⟨⟨hc.2.1,hlen,hfind.1,hf,by omega⟩,fun r10 aFC=>⟨⟨hc,?_,hc.2.1⟩,fun r11 aD0=>?_⟩⟩
 · rw [es];exact Sp.auF hc.1 hf
 · rw [es] at aD0
   obtain ⟨g1,g2,g3⟩:=aD0
   have hrep:(Sp.bU (a,l,nx,()) (f0,f1,f2,f3,f4,())).2=true:=e4▸h
   have hz:(Sp.aH d&&Sp.aN (Sp.bU (a,l,nx,()) (f0,f1,f2,f3,f4,())).1)=true:=by rw [hst,ar5 hrep];rfl
   have aAF:r11.1.2.2.1=true:=g1.trans hz
   have hz2:(Sp.yQ (a,l,nx,d,r,())&&(Sp.bU (a,l,nx,()) (f0,f1,f2,f3,f4,())).2)=true:=by rw [h2,hrep];rfl
   obtain ⟨k1,k2,k3,k4⟩:=g2 aAF
   refine ⟨aAF.trans hz2.symm,fun _=>⟨k1,k2,?_,k4⟩,fun hno=>by rw [aAF] at hno;cases hno⟩
   refine Sp.anm k3 (fun i hi=>aDs aFC _) fun _ _ _=>rfl
theorem apa:aA prog G Fq GU:=by
 refine apb (aC (l:=[]) (au ah) (fun x hx=>by cases hx)) ?_
 intro a b hin hp
 exact eqL (K:=fun r=>r=(decide (a=b),())) (fun x y:Int×Unit=>x.1 !=y.1) (fun x y=>by simp [Prod.ext_iff]) _ a b _ hin.1.1 rfl
theorem ajP:aA prog G BJ Ei:=by
 refine ajQ (aC (l:=[(Fq, .pure GU)]) (au ah) (by simp only [List.forall_mem_cons];exact ⟨⟨apa,alP⟩,fun x hx=>by cases hx⟩)) ?_
 intro a0 a1 b0 b1 hin hp
 refine af (fun h0=>⟨trivial,?_⟩) fun h0=>?_
 all_goals refine congrArg (·,()) (Bool.eq_iff_iff.2 ?_)
 · simp [beq_iff_eq.1 h0]
 · simp [show a0≠b0 by simpa using h0]
theorem UA:aA prog G pX qJ:=by
 refine agW (aC (l:=[(BJ, .pure Ei)]) (au ah) (by simp only [List.forall_mem_cons];exact ⟨⟨ajP,agy⟩,fun x hx=>by cases hx⟩)) ?_
 intro a b hin hp
 exact aDW (K:=fun r=>r=(decide (a=b),())) (fun x y=>!decide (x=y)) (fun x y=>by simp) _ a b _ hin.1.1 rfl
theorem agX:aA prog G zu CV:=by
 refine agY (aC (l:=[(pX, .pure qJ),(Fv, .pure GI),(DN, .pure EO)]) (au ah) (by simp only [List.forall_mem_cons];exact ⟨⟨UA,SY⟩,⟨apc,alL⟩,⟨alX,ai4⟩,fun x hx=>by cases hx⟩)) ?_
 intro a0 a1 a2 a3 a4 b0 b1 b2 b3 b4 hin hp
 refine ⟨trivial,af (fun h0=>⟨trivial,af (fun h1=>⟨trivial,?_⟩) fun h1=>?_⟩) fun h0=>?_⟩
 all_goals refine congrArg (·,()) (Bool.eq_iff_iff.2 ?_)
 · have h0:=jw h0
   have h1:=jw h1
   simp only [Prod.mk.injEq] at h0
   obtain ⟨rfl,rfl,rfl,_⟩:=h0
   subst h1
   simp
 · have h1:=jB h1
   simp [h1]
 · have h0:=jB h0
   simp only [decide_eq_true_eq,Bool.false_eq_true,false_iff,Prod.mk.injEq,and_true] at h0 ⊢
   exact fun h=>h0 ⟨h.1,h.2.1,h.2.2.1⟩
theorem azA {a:List Sp.iH} {fs:List Sp.aQ} {nx:Int} {d:List Sp.aW} {r:List Sp.dJ} (h1:a=Sp.usual) (h2:Sp.aN (a,fs,nx,())=true) (h3:Sp.bQ (a,fs,nx,())) (h4:0<fs.length) (h5:Sp.aS d) (h6:Sp.aH d=true) (h7:Sp.iY fs d [] (fun _=>true) r):Sp.XL (a,fs,nx,d,r,()):=by
 refine ⟨⟨h3,h5,abI h7 h5.1 h3.2.1 aeL⟩,h1,h4,?_⟩
 rw [ayh (by rw [h6,h2];rfl) h7,decide_eq_true rfl]
theorem av8:∃ c,Sp.XL c:=by
 obtain ⟨out,h⟩:=JK (fs:=[(1,0,false,0,[],())]) (a:=Sp.usual) (nx:=2) (d:=[([100,97],[(1,0,0,[],0,0,[],())],())]) [] (fun _=>true)
 exact ⟨_,azA rfl Zy.1 Zy.2 (by decide) (Yf Yg (by simp) (by simp)) arG (h (by rw [arG,Zy.1];rfl))⟩
theorem ar6:aG prog G Ig Jv:=by
 refine ar7 (aC (l:=[(BK, .eff (ay uM) Ee),(Ie, .eff (ay Ae) Je),(Fz, .eff (ay yx) Gy)]) (au ah) (by simp only [List.forall_mem_cons];exact ⟨⟨ajD,agu⟩,⟨arH,aov⟩,⟨aoU,alI⟩,fun x hx=>by cases hx⟩)) (fun _ _=>by obtain ⟨c,h⟩:=av8;exact ⟨(((c.1,c.2.1,c.2.2.1,c.2.2.2.1,c.2.2.2.2.1,()),()),(([],0,0,()),())),⟨by decide,h⟩⟩) ?_
 intro b i h hin hp
 refine ⟨hp,fun r0 hr0=>⟨hr0.1,fun r1 hr1=>⟨⟨hr0.2.2.2.2.1,hr1.2.2.1⟩,?_⟩⟩⟩
 rintro ⟨⟨⟨a,fs,nx,d,r,⟨⟩⟩,ok,⟨⟩⟩,⟨⟩⟩ ⟨e1,e2,_⟩
 have hz:(Sp.aH r1.1.1&&Sp.aN r0.1.1)=true:=by rw [hr1.2.2.2,hr0.2.2.1];rfl
 obtain ⟨k1,k2,k3⟩:=e2 (e1.trans hz)
 have k1:((a,fs,nx,()):Sp.dQ)=r0.1.1:=k1
 have k2:d=r1.1.1:=k2
 refine ⟨hr1.1,?_⟩
 subst k2
 rw [← k1] at hr0 k3
 exact azA hr0.2.1 hr0.2.2.1 hr0.2.2.2.2.1 hr0.2.2.2.2.2 hr1.2.2.1 hr1.2.2.2 k3
theorem agZ:aG prog G zx CW:=by
 refine ag0 (aC (l:=[(Ig, .eff (ay AB) Jv),(Bc, .eff (ay yh) zW)]) (au ah) (by simp only [List.forall_mem_cons];exact ⟨⟨ar6,aoG⟩,⟨ac1,aaP⟩,fun x hx=>by cases hx⟩)) (fun _ _=>by obtain ⟨c,h⟩:=av8;exact ⟨(((c.1,c.2.1,c.2.2.1,c.2.2.2.1,c.2.2.2.2.1,()),()),()),h⟩) ?_
 intro code hin hp
 exact ⟨hp,fun r0 hr0=>⟨by rw [hr0];exact Int.le_refl _,fun r1 hr1=>hr1.2⟩⟩
theorem ajR:aG prog G BN Ej:=by
 refine ajS (aC (l:=[(dH, .eff (ay dn) dw),(Bc, .eff (ay yh) zW)]) (au ah) (by simp only [List.forall_mem_cons];exact ⟨⟨ku,jG⟩,⟨ac1,aaP⟩,fun x hx=>by cases hx⟩)) (fun _ _=>⟨((List.replicate 12 (0,()),()),()),⟨by decide,fun x hx=>by rw [List.eq_of_mem_replicate hx];decide⟩⟩) ?_
 intro code hin hp
 refine ⟨hp,fun r0 hr0=>?_⟩
 refine ⟨fun y=>∃ n:Nat,y.1.2.1=n∧n≤12∧0≤y.2.1.2.1∧y.2.2.1.length=n∧∀ x∈y.2.2.1,0≤x.1∧x.1<10000,fun y=>(12-y.1.2.1).toNat,⟨0,rfl,by decide,by rw [hr0];exact Int.le_refl _,rfl,fun x hx=>by cases hx⟩,?_⟩
 rintro ⟨⟨_,_,⟨⟩⟩,⟨b,i,h,⟨⟩⟩,l,⟨⟩⟩ ⟨n,rfl,hn,hi,hl,hx⟩
 dsimp only at hi hl hx ⊢
 have w:IntKind.i64.wrap ((n:Int)+1)=((n+1:Nat):Int):=iM _ (by omega)
 rw [w]
 refine af (fun hc=>⟨hi,?_⟩) fun hc=>⟨by have:=jB hc;show l.length=12;omega,hx⟩
 have hc:=jw hc
 rintro ⟨⟨x,⟨⟩⟩,⟨b1,i1,h1,⟨⟩⟩,⟨⟩⟩ ⟨q1,q2,q3,_⟩
 refine ⟨by rw [dU];simp only [List.length_cons,List.length_nil];omega,rfl,⟨n+1,rfl,by omega,q1,by simp;omega,fun y hy=>?_⟩,by omega⟩
 rcases List.mem_append.1 hy with hy|hy
 · exact hx y hy
 · rw [List.mem_singleton.1 hy];exact ⟨q2,q3 (by decide)⟩
end Go.Proofs.Tryz
