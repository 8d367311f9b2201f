import Derived.Test.YtlbkigkbmeckbaaGreatP16
namespace Go.Proofs.Tryz
open Go Go.Fw Go.IntWalk
theorem SG {d:List Sp.aH} {i:Nat} (hi:i<d.length):Sp.eP (Sp.kP d) (Sp.nameOf d i)=true:=by
 rw [Sp.iG]
 unfold Sp.kP
 rw [List.mem_map]
 exact ⟨Sp.bI d i,getD_mem hi,rfl⟩
theorem JJ:Sp.bg []:=⟨by decide,fun x hx=>by cases hx⟩
theorem apV {fs:List Sp.aZ} {d:List Sp.aH} {out:List Sp.dn} (h:Sp.fH fs d [] (Sp.eP (Sp.kP d)) out):Sp.fH fs d [] (fun _=>true) out:=
 Sp.am0 h (fun i hi=>SG hi) fun i hi hn=>absurd ((SG hi).symm.trans hn) (by decide)
theorem LD:ai prog G nK.e:=by
 refine adb (ak ah ⟨I9,ac8,trivial⟩) (fun ⟨(a,fs,nx,_),d,_⟩ _=>by obtain ⟨out,h⟩:=AP (fs:=fs) (a:=a) (nx:=nx) (d:=d) [] (fun _=>true);exact ⟨(((out,(Sp.ax d&&Sp.aJ (a,fs,nx,())),()),())),⟨rfl,h⟩⟩) ?_
 intro a fs nx d hin hp
 dsimp only [nK] at hp ⊢
 refine ⟨hp.2.1,⟨hp.1,hp.2,JJ⟩,fun r hr=>⟨hr.1,fun h=>apV (hr.2 h)⟩⟩
theorem X0:ai prog G mV.e:=by
 refine X3 (ak ah ⟨I9,trivial⟩) (fun ⟨(a,fs,nx,_),d,r,names,_⟩ _=>by obtain ⟨out,h⟩:=AP (fs:=fs) (a:=a) (nx:=nx) (d:=d) r (Sp.eP names);exact ⟨(((out,(Sp.ax d&&Sp.aJ (a,fs,nx,())),()),())),⟨rfl,h⟩⟩) ?_
 intro a fs nx d r names hin hp
 dsimp only [mV] at hp ⊢
 exact ⟨hp,fun r hr=>hr⟩
theorem LG:ai prog G nM.e:=by
 refine ade (ak ah ⟨aik,trivial⟩) (fun ⟨(a,fs,nx,_),d,_⟩ _=>by obtain ⟨out,h⟩:=AP (fs:=fs) (a:=a) (nx:=nx) (d:=d) [] (fun _=>true);exact ⟨(((out,(Sp.ax d&&Sp.aJ (a,fs,nx,())),()),())),⟨rfl,h⟩⟩) ?_
 intro a fs nx d hin hp
 dsimp only [nM] at hp ⊢
 exact ⟨hp,fun r hr=>hr⟩
theorem afE (a:List Sp.fV) (fs:List Sp.aZ) (nx:Int) (d:List Sp.aH):∃ t:((List Sp.fV×List Sp.aZ×Int×List Sp.aH×List Sp.dn×Unit)×Bool×Unit)×Unit,
 t.1.2.1=(Sp.ax d&&Sp.aJ (a,fs,nx,()))∧(t.1.2.1=true→(t.1.1.1,t.1.1.2.1,t.1.1.2.2.1,())=(a,fs,nx,())∧t.1.1.2.2.2.1=d∧Sp.fH fs d [] (fun _=>true) t.1.1.2.2.2.2.1)∧(t.1.2.1=false→(t.1.1.1,t.1.1.2.1,t.1.1.2.2.1,t.1.1.2.2.2.1,t.1.1.2.2.2.2.1,())=([],[],0,[],[],())):=by
 obtain ⟨out,h⟩:=AP (fs:=fs) (a:=a) (nx:=nx) (d:=d) [] (fun _=>true)
 cases hk:(Sp.ax d&&Sp.aJ (a,fs,nx,())) with
 |true=>exact ⟨(((a,fs,nx,d,out,()),true,()),()),⟨rfl,fun _=>⟨rfl,rfl,h hk⟩,fun h=>(by cases h)⟩⟩
 |false=>exact ⟨((([],[],0,[],[],()),false,()),()),⟨rfl,fun h=>(by cases h),fun _=>rfl⟩⟩
theorem Io:ai prog G kE.e:=by
 refine X4 (ak ah ⟨FW,BR,LG,trivial⟩) (fun ⟨(a,fs,nx,_),d,_⟩ _=>afE a fs nx d) ?_
 intro a fs nx d hin hp
 dsimp only [kE] at hp ⊢
 refine ⟨hp,fun r0 hr0=>af (fun h=>?_) fun h=>⟨hp.1,fun r1 hr1=>⟨hp.2,?_⟩⟩⟩
 · have h:r0.1.2.1=false:=fQ h
   have e:(Sp.ax d&&Sp.aJ (a,fs,nx,()))=false:=hr0.1.symm.trans h
   exact ⟨e.symm,fun h=>(by cases h),fun _=>rfl⟩
 · have h:r0.1.2.1=true:=dH h
   have e:(Sp.ax d&&Sp.aJ (a,fs,nx,()))=true:=hr0.1.symm.trans h
   exact ⟨e.symm,fun _=>⟨hr1,rfl,hr0.2 h⟩,fun h=>by cases h⟩
theorem Qb {a:List Sp.fV} {fs:List Sp.aZ} {nx:Int} {d:List Sp.aH} {r out:List Sp.dn} (h:(Sp.ax d&&Sp.aJ (a,fs,nx,()))=true) (ho:Sp.fH fs d [] (fun _=>true) out):Sp.gy (a,fs,nx,d,r,())=decide (out=r):=by
 have e:Sp.gy (a,fs,nx,d,r,())=((Sp.ax d&&Sp.aJ (a,fs,nx,()))&&@decide (Sp.fH fs d [] (fun _=>true) r) (Classical.propDecidable _)):=rfl
 rw [e,h,Bool.true_and,Bool.eq_iff_iff,decide_eq_true_eq (p:=out=r)]
 rw [Bool.and_eq_true] at h
 exact (@decide_eq_true_iff _ (Classical.propDecidable _)).trans ⟨fun hr=>Sp.LH (Sp.mF.1 h.1).1 ho hr,fun e=>e▸ho⟩
theorem apW {a:List Sp.fV} {fs:List Sp.aZ} {nx:Int} {d:List Sp.aH} {r:List Sp.dn} (h:(Sp.ax d&&Sp.aJ (a,fs,nx,()))=false):Sp.gy (a,fs,nx,d,r,())=false:=by
 have e:Sp.gy (a,fs,nx,d,r,())=((Sp.ax d&&Sp.aJ (a,fs,nx,()))&&@decide (Sp.fH fs d [] (fun _=>true) r) (Classical.propDecidable _)):=rfl
 rw [e,h,Bool.false_and]
theorem Ja:ai prog G tH.e:=by
 refine aal (ak ah ⟨FV,LD,trivial⟩) ?_
 intro a fs nx d r hin hp
 dsimp only [tH] at hp ⊢
 obtain ⟨h1,h2,h3⟩:Sp.bQ (a,fs,nx,())∧Sp.aB d∧Sp.bg r:=hp
 refine ⟨⟨h1,h2⟩,fun r0 hr0=>af (fun h=>⟨trivial,?_⟩) fun h=>?_⟩
 · rw [Qb (hr0.1.symm.trans h) (hr0.2 h)]
 · rw [apW (hr0.1.symm.trans h)]
theorem Jb:ai prog G tJ.e:=by
 refine aam (ak ah ⟨SC,LG,trivial⟩) ?_
 intro a fs nx d r hin hp
 dsimp only [tJ] at hp ⊢
 obtain ⟨h1,h2,h3⟩:Sp.bQ (a,fs,nx,())∧Sp.aB d∧Sp.bg r:=hp
 refine ⟨⟨h1,h2⟩,fun r0 hr0=>af (fun h=>⟨trivial,?_⟩) fun h=>?_⟩
 · rw [Qb (hr0.1.symm.trans h) (hr0.2 h)]
 · rw [apW (hr0.1.symm.trans h)]
theorem ajM {α:Type} (g:α→Sp.Bytes) (l:List α) (s:Sp.Bytes):(s,())∈l.map (fun x=>(g x,()))↔s∈l.map g:=by simp
theorem BV {α β:Type} (p:α→Bool) (g:α→β) (d:α) (l:List α) {n:Nat} (h:n<l.length) (s:β):s∈((l.take (n+1)).filter p).map g↔s∈((l.take n).filter p).map g∨(p (l.getD n d)=true∧s=g (l.getD n d)):=by
 rw [uI p d l h,List.map_append,List.mem_append]
 cases hp:p (l.getD n d)<;>simp
theorem GX {α β:Type} (p:α→Bool) (g:α→β) (l:List α) (n:Nat):(((l.take n).filter p).map g).length≤n:=by
 have:=List.length_filter_le p (l.take n)
 rw [List.length_take] at this
 rw [List.length_map];omega
def ji (n:Sp.bD):Bool:=n.1==2||(n.1==3||n.1==4)
theorem Eg (l:List Sp.Bytes) (h:l.length≤1000):Sp.fB (l.map fun s=>(s,())) l:=⟨by rw [List.length_map];exact h,fun s=>by simp⟩
theorem abC (q:List Sp.bD):(Sp.J7 q).length≤q.length:=by
 unfold Sp.J7
 rw [List.length_map]
 exact List.length_filter_le _ _
theorem afF (q:List Sp.bD):(Sp.qo q).length≤q.length:=by
 unfold Sp.qo
 rw [List.length_map]
 exact List.length_filter_le _ _
abbrev CP:Sp.bD:=(0,0,0,[],0,0,[],())
theorem apX:ai prog G rG.e:=by
 refine X5 (ak ah ⟨⟨yT,yu⟩,trivial⟩) (fun ⟨q,_⟩ hp=>⟨((_,()),()),Eg (Sp.J7 q) (Nat.le_trans (abC q) hp)⟩) ?_
 intro q hin hp
 dsimp only [rG] at hp ⊢
 have hp:q.length≤1000:=hp
 refine dR (fun i (x:Sp.LS)=>(((),i,()),x,())) (fun y=>y.1.2.1) (fun _ _=>rfl) q.length (by omega) (fun n l=>l=((q.take n).filter ji).map fun n=>(n.2.2.2.1,())) rfl (fun I μ n l hn hJ next=>?_) fun I μ l hJ=>?_
 · subst hJ
   have hl:=GX ji (fun n=>(n.2.2.2.1,())) q n
   have small:(((q.take n).filter ji).map fun n=>(n.2.2.2.1,())).length+1≤big:=by rw [bV];omega
   have yes:ji (q.getD n CP)=true→((q.take n).filter ji).map (fun n=>(n.2.2.2.1,()))++[((q.getD n CP).2.2.2.1,())]=((q.take (n+1)).filter ji).map fun n=>(n.2.2.2.1,()):=fun h=>by
    rw [uI ji CP q hn,h,List.map_append];rfl
   dsimp only
   refine dB (by omega) ⟨⟨by omega,by omega⟩,af (fun h=>⟨small,rfl,next _ (yes ?_)⟩) fun h2=>af (fun h=>⟨small,rfl,next _ (yes ?_)⟩) fun h3=>af (fun h=>⟨small,rfl,next _ (yes ?_)⟩) fun h4=>⟨rfl,next _ ?_⟩⟩
   · have h:((q.getD n CP).1==2)=true:=h
     unfold ji;rw [h];rfl
   · have h:((q.getD n CP).1==3)=true:=h
     unfold ji;rw [h];simp
   · have h:((q.getD n CP).1==4)=true:=h
     unfold ji;rw [h];simp
   · have h2:((q.getD n CP).1==2)=false:=h2
     have h3:((q.getD n CP).1==3)=false:=h3
     have h4:((q.getD n CP).1==4)=false:=h4
     have:ji (q.getD n CP)=false:=by unfold ji;rw [h2,h3,h4];rfl
     rw [uI ji CP q hn,this,List.map_append];simp
 · subst hJ
   rw [List.take_length]
   have hl:((q.filter ji).map fun n=>(n.2.2.2.1,())).length≤q.length:=by rw [List.length_map];exact List.length_filter_le _ _
   dsimp only
   refine dD (by omega) ⟨by omega,fun r hr=>⟨by have:=hr.1;omega,fun s=>(hr.2 (s,())).trans ?_⟩⟩
   exact ajM (fun n:Sp.bD=>n.2.2.2.1) _ s
theorem aan:ai prog G o5.e:=by
 refine aao (ak ah ⟨⟨yT,yu⟩,LJ,trivial⟩) (fun ⟨q,_⟩ hp=>⟨((_,()),()),Eg (Sp.qo q) (Nat.le_trans (afF q) hp)⟩) ?_
 intro q hin hp
 dsimp only [o5] at hp ⊢
 have hp:q.length≤1000:=hp
 refine dR (fun i (x:Sp.LS)=>(((),i,()),x,())) (fun y=>y.1.2.1) (fun _ _=>rfl) q.length (by omega) (fun n l=>l=((q.take n).filter Sp.jh).map fun n=>(n.2.2.2.1,())) rfl (fun I μ n l hn hJ next=>?_) fun I μ l hJ=>?_
 · subst hJ
   have hl:=GX Sp.jh (fun n=>(n.2.2.2.1,())) q n
   dsimp only
   refine dB (by omega) ⟨⟨by omega,by omega⟩,trivial,af (fun h=>⟨by rw [bV];simp only [List.length_cons,List.length_nil];omega,rfl,next _ ?_⟩) fun h=>⟨rfl,next _ ?_⟩⟩
   · have h:Sp.jh (q.getD n CP)=true:=h
     rw [uI Sp.jh CP q hn,h,List.map_append];rfl
   · have h:Sp.jh (q.getD n CP)=false:=h
     rw [uI Sp.jh CP q hn,h,List.map_append];simp
 · subst hJ
   rw [List.take_length]
   have hl:((q.filter Sp.jh).map fun n=>(n.2.2.2.1,())).length≤q.length:=by rw [List.length_map];exact List.length_filter_le _ _
   dsimp only
   refine dD (by omega) ⟨by omega,fun r hr=>⟨by have:=hr.1;omega,fun s=>(hr.2 (s,())).trans ?_⟩⟩
   exact ajM (fun n:Sp.bD=>n.2.2.2.1) _ s
theorem arG (n:Sp.bD):(decide (2≤n.1)&&decide (n.1≤4))=ji n:=by
 rw [Bool.eq_iff_iff]
 unfold ji
 simp only [Bool.and_eq_true,Bool.or_eq_true,decide_eq_true_eq,beq_iff_eq]
 omega
theorem asn (n:Sp.bD):(decide (8≤n.1)&&decide (n.1≤9))=Sp.jh n:=by
 rw [Bool.eq_iff_iff]
 unfold Sp.jh
 simp only [Bool.and_eq_true,Bool.or_eq_true,decide_eq_true_eq,beq_iff_eq]
 omega
theorem apY:ai prog G rH.e:=by
 refine X6 (ak ah ⟨Di,lV,trivial⟩) (fun ⟨q,_⟩ hp=>⟨((_,()),()),Eg (Sp.J7 q) (Nat.le_trans (abC q) hp)⟩) ?_
 intro q hin hp
 dsimp only [rH] at hp ⊢
 have hp:q.length≤1000:=hp
 refine dR (fun i (x:Sp.LS)=>((x,i,()),())) (fun y=>y.1.2.1) (fun _ _=>rfl) q.length (by omega) (fun n l=>l.length≤n∧∀ s,(s,())∈l↔s∈((q.take n).filter ji).map fun n=>n.2.2.2.1) ⟨Nat.le_refl _,fun s=>by simp⟩ (fun I μ n l hn hJ next=>?_) fun I μ l hJ=>?_
 · obtain ⟨hl,hJ⟩:=hJ
   dsimp only
   rw [Int.toNat_natCast,arG]
   refine dB (by omega) ⟨⟨by omega,by omega⟩,trivial,af (fun h=>⟨⟨by omega,by omega⟩,by omega,rfl,next _ ⟨Nat.le_trans (adf _ _) (by omega),fun s=>?_⟩⟩) fun h=>⟨rfl,next _ ⟨by omega,fun s=>?_⟩⟩⟩
   · have h:ji (q.getD n CP)=true:=h
     rw [yh,hJ,BV ji _ CP q hn,Prod.mk.injEq]
     exact ⟨fun g=>g.elim (fun g=> .inr ⟨h,g.1⟩) .inl,fun g=>g.elim .inr fun g=> .inl ⟨g.2,rfl⟩⟩
   · have h:ji (q.getD n CP)=false:=h
     rw [hJ,BV ji _ CP q hn,h];simp
 · obtain ⟨hl,hJ⟩:=hJ
   rw [List.take_length] at hJ
   dsimp only
   exact dD (by omega) ⟨by rw [bV];omega,by show l.length≤1000;omega,hJ⟩
theorem aap:ai prog G o6.e:=by
 refine aaq (ak ah ⟨Di,lV,trivial⟩) (fun ⟨q,_⟩ hp=>⟨((_,()),()),Eg (Sp.qo q) (Nat.le_trans (afF q) hp)⟩) ?_
 intro q hin hp
 dsimp only [o6] at hp ⊢
 have hp:q.length≤1000:=hp
 refine dR (fun i (x:Sp.LS)=>((x,i,()),())) (fun y=>y.1.2.1) (fun _ _=>rfl) q.length (by omega) (fun n l=>l.length≤n∧∀ s,(s,())∈l↔s∈((q.take n).filter Sp.jh).map fun n=>n.2.2.2.1) ⟨Nat.le_refl _,fun s=>by simp⟩ (fun I μ n l hn hJ next=>?_) fun I μ l hJ=>?_
 · obtain ⟨hl,hJ⟩:=hJ
   dsimp only
   rw [Int.toNat_natCast,asn]
   refine dB (by omega) ⟨⟨by omega,by omega⟩,trivial,af (fun h=>⟨⟨by omega,by omega⟩,by omega,rfl,next _ ⟨Nat.le_trans (adf _ _) (by omega),fun s=>?_⟩⟩) fun h=>⟨rfl,next _ ⟨by omega,fun s=>?_⟩⟩⟩
   · have h:Sp.jh (q.getD n CP)=true:=h
     rw [yh,hJ,BV Sp.jh _ CP q hn,Prod.mk.injEq]
     exact ⟨fun g=>g.elim (fun g=> .inr ⟨h,g.1⟩) .inl,fun g=>g.elim .inr fun g=> .inl ⟨g.2,rfl⟩⟩
   · have h:Sp.jh (q.getD n CP)=false:=h
     rw [hJ,BV Sp.jh _ CP q hn,h];simp
 · obtain ⟨hl,hJ⟩:=hJ
   rw [List.take_length] at hJ
   dsimp only
   exact dD (by omega) ⟨by rw [bV];omega,by show l.length≤1000;omega,hJ⟩
end Go.Proofs.Tryz
