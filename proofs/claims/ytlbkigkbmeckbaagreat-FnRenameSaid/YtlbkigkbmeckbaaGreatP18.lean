import Derived.Test.YtlbkigkbmeckbaaGreatP17
namespace Go.Proofs.Tryz
open Go Go.Fw Go.IntWalk
theorem atC {r:Sp.LS} {l:List Sp.Bytes} (h:Sp.dB r l) (s:Sp.Bytes):Sp.dQ r s=l.contains s:=by
 rw [Bool.eq_iff_iff,Sp.gW,h.2,List.contains_iff_mem]
def asks (name:Sp.Bytes) (x:Sp.aT):Bool:=(Sp.rQ x.2.1).contains name
theorem aaH:ai prog G oU.e:=by
 refine aaI (aj ah ⟨sH,ade,trivial⟩) (fun ⟨d,s,_⟩ hp=>⟨((Sp.asking d s,()),()),rfl⟩) ?_
 intro d s hin hp
 dsimp only [oU] at hp ⊢
 have hp:Sp.aV d:=hp
 have hl:=hp.1
 refine dM (fun i (x:Sp.LS)=>(((),i,()),x,())) (fun y=>y.1.2.1) (fun _ _=>rfl) d.length (by omega) (fun n l=>l=((d.take n).filter (asks s)).map fun x=>(x.1,())) rfl (fun I μ n l hn hJ next=>?_) fun I μ l hJ=>?_
 · subst hJ
   have hl:=CY (asks s) (fun x:Sp.aT=>(x.1,())) d n
   dsimp only
   refine dh (by omega) ⟨⟨by omega,by omega⟩,qW hp hn,fun r2 hr2=>⟨trivial,?_⟩⟩
   rw [atC hr2]
   refine af (fun h=>⟨by rw [bU];simp only [List.length_cons,List.length_nil];omega,rfl,next _ ?_⟩) fun h=>⟨rfl,next _ ?_⟩
   · have h:asks s (d.getD n BK)=true:=h
     rw [jO (asks s) BK d hn,h,List.map_append];rfl
   · have h:asks s (d.getD n BK)=false:=h
     rw [jO (asks s) BK d hn,h,List.map_append];simp
 · subst hJ
   rw [List.take_length]
   dsimp only
   exact dm (by omega) rfl
theorem yj:ai prog G je.e:=by
 refine Lh (aj ah trivial) ?_
 intro x0 x1 x2 x3 x4 x5 x6 hin hp
 dsimp only [je] at hp ⊢
 exact rfl
theorem wP:ai prog G dZ.e:=by
 refine wQ (aj ah ⟨yj,trivial⟩) ?_
 intro q hin hp
 dsimp only [dZ] at hp ⊢
 exact TP (K:=fun r=>r=(Sp.findAt (fun n:Sp.bJ=>n.1==9) q,())) (fun n:Sp.bJ=>n.1==9) D9 q _ hin.1.1 rfl
theorem uU:ai prog G dU.e:=by
 refine uV (aj ah ⟨wP,yj,trivial⟩) ?_
 intro q hin hp
 dsimp only [dU] at hp ⊢
 exact ⟨trivial,congrArg (·,()) (Vf _ q)⟩
theorem adi:ai prog G zG.e:=by
 refine adk (aj ah trivial) ?_
 intro q hin hp
 dsimp only [zG] at hp ⊢
 exact auu (K:=fun r=>r=(Sp.linked q,())) (fun n:Sp.bJ=>n.1==9) D9 q _ hin.1.1 rfl
theorem yt:ai prog G jf.e:=by
 refine Lj (aj ah ⟨sH,trivial⟩) ?_
 intro nm attrs hin hp
 dsimp only [jf] at hp ⊢
 exact ⟨trivial,rfl⟩
theorem yD:ai prog G fB.e:=by
 refine yE (aj ah ⟨yt,trivial⟩) ?_
 intro l attrs hin hp
 dsimp only [fB] at hp ⊢
 exact TP (K:=fun r=>r=(Sp.findAt (fun x:Sp.Bytes×Unit=>Sp.dQ attrs x.1) l,())) (fun x:Sp.Bytes×Unit=>Sp.dQ attrs x.1) ([],()) l _ hin.1.1 rfl
theorem wR:ai prog G eF.e:=by
 refine wS (aj ah ⟨yD,yt,trivial⟩) ?_
 intro l attrs hin hp
 dsimp only [eF] at hp ⊢
 exact ⟨trivial,congrArg (·,()) (Vf _ l)⟩
theorem KJ:ai prog G iZ.e:=by
 refine KL (aj ah trivial) (fun ⟨s,_⟩ _=>⟨((s,()),()),rfl⟩) ?_
 intro s hin hp
 dsimp only [iZ] at hp ⊢
 have hp:s.length≤1000:=hp
 intro g hg
 refine af (fun h=>?_) fun h=>⟨by rw [bU];omega,rfl⟩
 exact (List.length_eq_zero_iff.1 (hg h)).symm
theorem Oz:ai prog G jG.e:=by
 refine OA (aj ah trivial) (fun ⟨s,_⟩ _=>⟨((s,()),()),rfl⟩) ?_
 intro s hin hp
 dsimp only [jG] at hp ⊢
 have hp:s.length≤1000:=hp
 intro g hg
 refine af (fun h=>?_) fun h=>⟨by rw [bU];omega,rfl⟩
 exact (List.length_eq_zero_iff.1 (hg h)).symm
def nR (f g:Sp.aK) (x:Sp.aT):Bool:=(Sp.lI x.2.1).any (fun t=>(Sp.jv f g).contains t)||(Sp.linked x.2.1&&f.2.2.2.1 !=g.2.2.2.1)
theorem QW {d:List Sp.aT} {p:Sp.aT→Bool} {s:Sp.Bytes}:Sp.dQ ((d.filter p).map fun x=>(x.1,())) s=true↔∃ i,i<d.length∧Sp.nameOf d i=s∧p (Sp.dX d i)=true:=by
 have at_:∀ i (hi:i<d.length),Sp.dX d i=d[i]:=fun i hi=>by unfold Sp.dX;rw [List.getD_eq_getElem?_getD,List.getElem?_eq_getElem hi];rfl
 rw [Sp.gW,List.mem_map]
 constructor
 · rintro ⟨x,hx,e⟩
   obtain ⟨h1,h2⟩:=List.mem_filter.1 hx
   obtain ⟨i,hi,rfl⟩:=List.getElem_of_mem h1
   exact ⟨i,hi,by unfold Sp.nameOf;rw [at_ i hi];exact congrArg Prod.fst e,by rw [at_ i hi];exact h2⟩
 · rintro ⟨i,hi,e,hp⟩
   exact ⟨d[i],List.mem_filter.2 ⟨List.getElem_mem hi,by rw [← at_ i hi];exact hp⟩,by rw [← e];unfold Sp.nameOf;rw [at_ i hi]⟩
theorem OB {d:List Sp.aT} {f g:Sp.aK} (h:f.1=g.1):Sp.touched d f g ((d.filter (nR f g)).map fun x=>(x.1,())):=by
 refine ⟨by rw [List.length_map];exact List.length_filter_le _ _,fun s=>QW.trans ?_⟩
 unfold Sp.JH nR
 constructor
 · rintro ⟨i,hi,e,hp⟩
   refine ⟨i,hi,e, .inr ?_⟩
   rw [Bool.or_eq_true,List.any_eq_true,Bool.and_eq_true] at hp
   rcases hp with ⟨t,h1,h2⟩|⟨h1,h2⟩
   · exact .inl ⟨t,h1,List.contains_iff_mem.1 h2⟩
   · exact .inr ⟨h1,bne_iff_ne.1 h2⟩
 · rintro ⟨i,hi,e,hp⟩
   refine ⟨i,hi,e,?_⟩
   rw [Bool.or_eq_true,List.any_eq_true,Bool.and_eq_true]
   rcases hp with hp|⟨t,h1,h2⟩|⟨h1,h2⟩
   · exact (hp h).elim
   · exact .inl ⟨t,h1,List.contains_iff_mem.2 h2⟩
   · exact .inr ⟨h1,bne_iff_ne.2 h2⟩
theorem QX {d:List Sp.aT} {f g:Sp.aK} (h:f.1≠g.1):Sp.touched d f g (Sp.iY d):=by
 refine ⟨by unfold Sp.iY;rw [List.length_map];exact Nat.le_refl _,fun s=>?_⟩
 have:Sp.iY d=(d.filter fun _=>true).map fun x=>(x.1,()):=by rw [List.filter_eq_self.2 fun _ _=>rfl];rfl
 rw [this,QW]
 exact ⟨fun ⟨i,hi,e,_⟩=>⟨i,hi,e, .inl h⟩,fun ⟨i,hi,e,_⟩=>⟨i,hi,e,rfl⟩⟩
theorem QY (d:List Sp.aT) (f g:Sp.aK):∃ r,Sp.touched d f g r:=by
 by_cases h:f.1=g.1
 · exact ⟨_,OB h⟩
 · exact ⟨_,QX h⟩
theorem atD {r0 r3:Sp.LS} {f g:Sp.aK} {q:List Sp.bJ} (h0:Sp.dB r0 (Sp.jv f g)) (h3:Sp.dB r3 (Sp.lI q)):(r0.any fun x=>Sp.dQ r3 x.1)=(Sp.lI q).any fun t=>(Sp.jv f g).contains t:=by
 rw [Bool.eq_iff_iff,List.any_eq_true,List.any_eq_true]
 constructor
 · rintro ⟨x,hx,h⟩
   exact ⟨x.1,(h3.2 _).1 (Sp.gW.1 h),List.contains_iff_mem.2 ((h0.2 x.1).1 hx)⟩
 · rintro ⟨t,ht,h⟩
   exact ⟨(t,()),(h0.2 t).2 (List.contains_iff_mem.1 h),Sp.gW.2 ((h3.2 t).2 ht)⟩
theorem OC:ai prog G jE.e:=by
 refine OD (aj ah ⟨yj,uU,wR,yt,aaC,Vp,Oq,trivial⟩) (fun ⟨d,f,g,_⟩ hp=>by obtain ⟨r,h⟩:=QY d f g;exact ⟨((r,()),()),h⟩) ?_
 intro d a0 a1 a2 a3 a b0 b1 b2 b3 b hin hp
 dsimp only [jE] at hp ⊢
 obtain ⟨hd,hf,hg,hab⟩:Sp.aV d∧Sp.bW (a0,a1,a2,a3,a,())∧Sp.bW (b0,b1,b2,b3,b,())∧a.length+b.length≤1000:=hp
 have hl:=hd.1
 refine af (fun h=>⟨hl,QX (bne_iff_ne.1 h)⟩) fun h=>⟨⟨hf,hg,hab⟩,?_⟩
 have hid:a0=b0:=apG h
 rintro ⟨⟨r0,⟨⟩⟩,⟨⟩⟩ hr0
 have hr0:Sp.dB r0 (Sp.jv (a0,a1,a2,a3,a,()) (b0,b1,b2,b3,b,())):=hr0
 dsimp only
 generalize hF:((a0,a1,a2,a3,a,()):Sp.aK)=F at*
 generalize hG:((b0,b1,b2,b3,b,()):Sp.aK)=G at*
 have aso:(a3 !=b3)=(F.2.2.2.1 !=G.2.2.2.1):=by rw [← hF,← hG]
 refine dM (fun i (x:Sp.LS)=>(((),i,()),x,())) (fun y=>y.1.2.1) (fun _ _=>rfl) d.length (by omega) (fun n l=>l=((d.take n).filter (nR F G)).map fun x=>(x.1,())) rfl (fun I μ n l hn hJ next=>?_) fun I μ l hJ=>?_
 · subst hJ
   have hl:=CY (nR F G) (fun x:Sp.aT=>(x.1,())) d n
   have small:(((d.take n).filter (nR F G)).map fun x:Sp.aT=>(x.1,())).length+1≤big:=by rw [bU];omega
   have yes:nR F G (d.getD n BK)=true→((d.take n).filter (nR F G)).map (fun x:Sp.aT=>(x.1,()))++[((d.getD n BK).1,())]=((d.take (n+1)).filter (nR F G)).map fun x=>(x.1,()):=fun h=>by
    rw [jO (nR F G) BK d hn,h,List.map_append];rfl
   have no:nR F G (d.getD n BK)=false→((d.take n).filter (nR F G)).map (fun x:Sp.aT=>(x.1,()))=((d.take (n+1)).filter (nR F G)).map fun x=>(x.1,()):=fun h=>by
    rw [jO (nR F G) BK d hn,h,List.map_append];simp
   dsimp only
   refine dh (by omega) ⟨⟨by omega,by omega⟩,qW hd hn,fun r3 hr3=>⟨trivial,trivial,?_⟩⟩
   have hhit:=atD hr0 hr3
   rw [hhit,aso]
   refine af (fun h=>⟨small,rfl,next _ (yes ?_)⟩) fun h=>af (fun h2=>af (fun h3=>⟨small,rfl,next _ (yes ?_)⟩) fun h3=>⟨rfl,next _ (no ?_)⟩) fun h2=>⟨rfl,next _ (no ?_)⟩
   · have h:(Sp.lI (d.getD n BK).2.1).any (fun t=>(Sp.jv F G).contains t)=true:=h
     unfold nR;rw [h];rfl
   · have h2:Sp.linked (d.getD n BK).2.1=true:=h2
     unfold nR;rw [h2,h3];simp
   · have h:(Sp.lI (d.getD n BK).2.1).any (fun t=>(Sp.jv F G).contains t)=false:=h
     have h2:Sp.linked (d.getD n BK).2.1=true:=h2
     unfold nR;rw [h,h2,h3];rfl
   · have h:(Sp.lI (d.getD n BK).2.1).any (fun t=>(Sp.jv F G).contains t)=false:=h
     have h2:Sp.linked (d.getD n BK).2.1=false:=h2
     unfold nR;rw [h,h2];rfl
 · subst hJ
   rw [List.take_length]
   dsimp only
   exact dm (by omega) (OB (by rw [← hF,← hG];exact hid))
theorem aaJ {α:Type} [BEq α] [LawfulBEq α]:∀ (a b:List α),a.Nodup→(∀ x∈a,x∈b)→a.length≤b.length
 |[],_,_,_=>Nat.zero_le _
 |x::r,b,hn,h=>by
  rw [List.nodup_cons] at hn
  have hx:=h x List.mem_cons_self
  have ih:=aaJ r (b.erase x) hn.2 fun y hy=>by
   have hne:y≠x:=fun e=>by subst e;exact hn.1 hy
   rw [List.mem_erase_of_ne hne]
   exact h y (List.mem_cons_of_mem _ hy)
  rw [List.length_erase_of_mem hx] at ih
  have:0<b.length:=List.length_pos_of_mem hx
  rw [List.length_cons];omega
def Grown (d:List Sp.aT) (names out:Sp.LS):Prop:=∃ ex,out=names++ex∧ex.Nodup∧(∀ x∈ex,x∈Sp.iY d)∧∀ x∈out,Sp.Reach d (fun s=>Sp.dQ names s=true) x.1
theorem Grown.len {d:List Sp.aT} {names out:Sp.LS} (h:Grown d names out):out.length≤names.length+d.length:=by
 obtain ⟨ex,rfl,h1,h2,_⟩:=h
 have:=aaJ ex (Sp.iY d) h1 h2
 unfold Sp.iY at this
 rw [List.length_map] at this
 rw [List.length_append];omega
theorem Grown.add {d:List Sp.aT} {names out:Sp.LS} (h:Grown d names out) {x:Sp.Bytes×Unit} (h1:x∈Sp.iY d) (h2:x ∉ out) (h3:Sp.Reach d (fun s=>Sp.dQ names s=true) x.1):Grown d names (out++[x]):=by
 obtain ⟨ex,rfl,g1,g2,g3⟩:=h
 refine ⟨ex++[x],by rw [List.append_assoc],?_,fun y hy=>?_,fun y hy=>?_⟩
 · rw [List.nodup_append]
   refine ⟨g1,List.nodup_cons.2 ⟨by simp,List.nodup_nil⟩,fun a ha b hb e=>h2 ?_⟩
   rw [List.mem_singleton.1 hb] at e
   exact List.mem_append.2 (.inr (e▸ha))
 · rcases List.mem_append.1 hy with hy|hy
   · exact g2 y hy
   · rw [List.mem_singleton.1 hy];exact h1
 · rcases List.mem_append.1 hy with hy|hy
   · exact g3 y hy
   · rw [List.mem_singleton.1 hy];exact h3
theorem aiI {d:List Sp.aT} {s:Sp.Bytes} {x:Sp.Bytes×Unit}:x∈Sp.asking d s↔∃ i,i<d.length∧Sp.nameOf d i=x.1∧s∈Sp.rQ (Sp.dW d i):=by
 have h:(x.1,())∈Sp.asking d s↔_:=(Sp.gW (l:=Sp.asking d s) (s:=x.1)).symm.trans QW
 refine h.trans ⟨fun ⟨i,a,b,c⟩=>⟨i,a,b,List.contains_iff_mem.1 c⟩,fun ⟨i,a,b,c⟩=>⟨i,a,b,List.contains_iff_mem.2 c⟩⟩
theorem OE {d:List Sp.aT} {i:Nat} (hi:i<d.length):(Sp.nameOf d i,())∈Sp.iY d:=Sp.gW.1 (Vm hi)
theorem QZ (d:List Sp.aT) (hd:d.length≤5) (names:Sp.LS) (hn:names.length≤900):∃ r,Sp.reached d names r:=by
 refine ⟨names++(Sp.iY d).filter (fun x=>@decide (Sp.Reach d (fun s=>Sp.dQ names s=true) x.1) (Classical.propDecidable _)),?_,fun s=>?_⟩
 · have:=List.length_filter_le (fun x:Sp.Bytes×Unit=>@decide (Sp.Reach d (fun s=>Sp.dQ names s=true) x.1) (Classical.propDecidable _)) (Sp.iY d)
   have e:(Sp.iY d).length=d.length:=by unfold Sp.iY;rw [List.length_map]
   rw [List.length_append];omega
 · rw [Sp.gW,List.mem_append,List.mem_filter]
   constructor
   · rintro (h|⟨_,h⟩)
     · exact .base (Sp.gW.2 h)
     · exact (@decide_eq_true_iff _ (Classical.propDecidable _)).1 h
   · intro h
     have h':=h
     cases h with
     |base hb=>exact .inl (Sp.gW.1 hb)
     |step _ hi _=>exact .inr ⟨OE hi,(@decide_eq_true_iff _ (Classical.propDecidable _)).2 h'⟩
theorem JI:ai prog G iO.e:=by
 refine JJ (aj ah ⟨⟨wO,uS⟩,sH,aaH,KJ,trivial⟩) (fun ⟨d,names,_⟩ hp=>by obtain ⟨r,h⟩:=QZ d hp.2.1 names hp.2.2;exact ⟨((r,()),()),h⟩) ?_
 intro d names hin hp
 dsimp only [iO] at hp ⊢
 obtain ⟨hd,hd5,hnl⟩:Sp.aV d∧d.length≤5∧names.length≤900:=hp
 refine ⟨by omega,?_⟩
 rintro ⟨⟨r0,⟨⟩⟩,⟨⟩⟩ e0
 have e0:r0=names:=e0
 subst e0
 refine ⟨fun y=>∃ i:Nat,y.1.2.1=i∧i≤y.2.1.length∧Grown d r0 y.2.1∧∀ j,j<i→∀ x∈Sp.asking d (y.2.1.getD j ([],())).1,x∈y.2.1,fun y=>((r0.length+d.length:Nat)-y.1.2.1).toNat,⟨0,rfl,Nat.zero_le _,⟨[],by simp,List.nodup_nil,fun x hx=>(by cases hx),fun x hx=> .base (Sp.gW.2 hx)⟩,fun j hj=>by omega⟩,?_⟩
 rintro ⟨⟨_,_,⟨⟩⟩,out,⟨⟩⟩ ⟨i,rfl,hi,hG,hcl⟩
 have hlen:out.length≤r0.length+d.length:=hG.len
 dsimp only at hi hG hcl ⊢
 refine af (fun hc=>?_) fun hc=>?_
 · have hc:=gG hc
   have w:IntKind.i64.wrap ((i:Int)+1)=((i+1:Nat):Int):=gu _ (by omega)
   rw [w,Int.toNat_natCast]
   refine ⟨⟨by omega,by omega⟩,by omega,hd,?_⟩
   rintro ⟨⟨r3,⟨⟩⟩,⟨⟩⟩ e3
   have e3:r3=Sp.asking d (out.getD i ([],())).1:=e3
   dsimp only
   have hr3:r3.length≤d.length:=by
    rw [e3];unfold Sp.asking;rw [List.length_map];exact List.length_filter_le _ _
   refine dM (fun k (x:Sp.LS)=>(((),k,()),x,())) (fun y=>y.1.2.1) (fun _ _=>rfl) r3.length (by omega) (fun n l=>(∃ more,l=out++more)∧Grown d r0 l∧∀ k,k<n→r3.getD k ([],())∈l) ⟨⟨[],by simp⟩,hG,fun k hk=>by omega⟩ (fun I μ n l hn hJ next=>?_) fun I μ l hJ=>?_
   · obtain ⟨⟨more,hm⟩,g1,g2⟩:=hJ
     have gl:=g1.len
     have hmem:r3.getD n ([],())∈r3:=getD_mem (d:=(([]:Sp.Bytes),())) hn
     dsimp only
     rw [Int.toNat_natCast]
     refine dh (by omega) ⟨⟨by omega,by omega⟩,trivial,af (fun h=>⟨by rw [bU];simp only [List.length_cons,List.length_nil];omega,rfl,next _ ⟨⟨more++[r3.getD n ([],())],by rw [hm,List.append_assoc]⟩,?_,fun k hk=>?_⟩⟩) fun h=>⟨rfl,next _ ⟨⟨more,hm⟩,g1,fun k hk=>?_⟩⟩⟩
     · have h:Sp.dQ l (r3.getD n ([],())).1=false:=fO h
       rw [e3] at hmem
       obtain ⟨j,hj,e,ha⟩:=aiI.1 hmem
       rw [← e3] at e
       refine g1.add ?_ (fun hx=>?_) ?_
       · have:=OE hj;rw [e] at this;exact this
       · have h':Sp.dQ l (r3.getD n ([],())).1=true:=Sp.gW.2 hx
         rw [h] at h';cases h'
       · rw [← e]
         obtain ⟨ex,_,_,_,hr⟩:=hG
         exact .step (hr _ (getD_mem (d:=(([]:Sp.Bytes),())) (by omega))) hj ha
     · rcases Nat.lt_or_ge k n with h'|h'
       · exact List.mem_append.2 (.inl (g2 k h'))
       · have:k=n:=by omega
         subst this;exact List.mem_append.2 (.inr (List.mem_singleton.2 rfl))
     · have h:Sp.dQ l (r3.getD n ([],())).1=true:=dI h
       rcases Nat.lt_or_ge k n with h'|h'
       · exact g2 k h'
       · have:k=n:=by omega
         subst this;exact Sp.gW.1 h
   · obtain ⟨⟨more,hm⟩,g1,g2⟩:=hJ
     dsimp only
     have hol:out.length≤l.length:=by rw [hm,List.length_append];omega
     refine dm (by omega) ⟨rfl,⟨i+1,rfl,by omega,g1,fun j hj x hx=>?_⟩,by omega⟩
     have hat:l.getD j ([],())=out.getD j ([],()):=by
      rw [hm,List.getD_eq_getElem?_getD,List.getD_eq_getElem?_getD,List.getElem?_append_left (by omega)]
     rw [hat] at hx
     rcases Nat.lt_or_ge j i with h'|h'
     · rw [hm];exact List.mem_append.2 (.inl (hcl j h' x hx))
     · have:j=i:=by omega
       subst this
       rw [← e3] at hx
       obtain ⟨k,hk,rfl⟩:=List.getElem_of_mem hx
       have:=g2 k hk
       rw [List.getD_eq_getElem?_getD,List.getElem?_eq_getElem hk] at this
       exact this
 · have hc:=iw hc
   have hie:i=out.length:=by omega
   refine ⟨by omega,fun r hr=>⟨by have:=hr.1;omega,fun s=>?_⟩⟩
   rw [Sp.gW]
   refine (hr.2 (s,())).trans ⟨fun h=>?_,fun h=>?_⟩
   · obtain ⟨ex,_,_,_,hr⟩:=hG
     exact hr _ h
   · induction h with
     |base hb=>
      obtain ⟨ex,he,_⟩:=hG
      show (_,())∈out
      rw [he];exact List.mem_append.2 (.inl (Sp.gW.1 hb))
     |step _ hj ha ih=>
      obtain ⟨k,hk,e⟩:=List.getElem_of_mem ih
      have hx:=hcl k (by omega)
      have hat:out.getD k ([],())=out[k]:=by rw [List.getD_eq_getElem?_getD,List.getElem?_eq_getElem hk];rfl
      rw [hat,e] at hx
      exact hx (_,()) (aiI.2 ⟨_,hj,rfl,ha⟩)
theorem aq8 (d:List Sp.aT) (hd:d.length≤5) (f g:Sp.aK):∃ r,Sp.isSet r (Sp.WM d f g):=by
 obtain ⟨t,ht⟩:=QY d f g
 obtain ⟨r,hr⟩:=QZ d hd t (by have:=ht.1;omega)
 refine ⟨r,hr.1,fun s=>(hr.2 s).trans ?_⟩
 have:(fun s=>Sp.dQ t s=true)=Sp.JH d f g:=funext fun s=>propext (ht.2 s)
 rw [this];rfl
theorem atE {d:List Sp.aT} {f g:Sp.aK} {t r:Sp.LS} (ht:Sp.touched d f g t) (hr:Sp.reached d t r):Sp.isSet r (Sp.WM d f g):=by
 refine ⟨hr.1,fun s=>(hr.2 s).trans ?_⟩
 have:(fun s=>Sp.dQ t s=true)=Sp.JH d f g:=funext fun s=>propext (ht.2 s)
 rw [this];rfl
theorem Vt:ai prog G mG.e:=by
 refine Vu (aj ah ⟨JI,OC,trivial⟩) (fun ⟨d,f,g,_⟩ hp=>by obtain ⟨r,h⟩:=aq8 d hp.2.1 f g;exact ⟨((r,()),()),h⟩) ?_
 intro d a0 a1 a2 a3 a b0 b1 b2 b3 b hin hp
 dsimp only [mG] at hp ⊢
 obtain ⟨h1,h2,h3,h4,h5⟩:=hp
 exact ⟨⟨h1,h3,h4,h5⟩,fun r0 hr0=>⟨⟨h1,h2,by have:=hr0.1;omega⟩,fun r1 hr1=>atE hr0 hr1⟩⟩
end Go.Proofs.Tryz
