import Derived.Test.YtkgkfdphbkfjnaaGreatP17
namespace Go.Proofs.Tryz
open Go Go.Fw Go.IntWalk Sp
theorem anu {r:Sp.LS} {l:List Sp.Bytes} (h:dK r l) (s:Sp.Bytes):dA r s=l.contains s:=by
 rw [Bool.eq_iff_iff,gB,h.2,List.contains_iff_mem]
def asks (name:Sp.Bytes) (x:aC):Bool:=(nS x.2.1).contains name
theorem Yi:OK Aa.e:=by
 refine XA.ok mixed (au [ja.e,Ci.e] ⟨pV,aae,trivial⟩) aaj (fun ⟨d,s,_⟩ hp=>⟨((Sp.asking d s,()),()),rfl⟩) (by kernel_rfl) (show ∀ d name,Aa.goal (Yj d name) (d,name,()) from ?_)
 intro d s hin hp
 dsimp only [Aa] at hp ⊢
 have hp:aA d:=hp
 have hl:=hp.1
 refine dN (fun i (x:Sp.LS)=>(((),i,()),x,())) (fun y=>y.1.2.1) (fun _ _=>rfl) d.length (by omega) (fun n l=>l=((d.take n).filter (asks s)).map fun x=>(x.1,())) rfl (fun I μ n l hn hJ next=>?_) fun I μ l hJ=>?_
 · subst hJ
   have hl:=Bo (asks s) (fun x:aC=>(x.1,())) d n
   dsimp only
   refine dH (by omega) ⟨⟨by omega,by omega⟩,mV hp hn,fun r2 hr2=>⟨trivial,?_⟩⟩
   rw [anu hr2]
   refine af (fun h=>⟨by rw [bW];simp only [List.length_cons,List.length_nil];omega,rfl,next _ ?_⟩) fun h=>⟨rfl,next _ ?_⟩
   · have h:asks s (d.getD n zN)=true:=h
     rw [jE (asks s) zN d hn,h,List.map_append];rfl
   · have h:asks s (d.getD n zN)=false:=h
     rw [jE (asks s) zN d hn,h,List.map_append];simp
 · subst hJ
   rw [List.take_length]
   dsimp only
   exact dI (by omega) rfl
theorem uT:OK jG.e:=by
 refine PA.ok mixed (au [] trivial) H0 (by kernel_rfl) (show ∀ n0 n1 n2 n3 n4 n5 n6,jG.goal (Lp n0 n1 n2 n3 n4 n5 n6) ((n0,n1,n2,n3,n4,n5,n6,()),()) from ?_)
 intro x0 x1 x2 x3 x4 x5 x6 hin hp
 dsimp only [jG] at hp ⊢
 exact rfl
theorem tH:OK gq.e:=by
 refine PA.ok mixed (au [jG.e] ⟨uT,trivial⟩) tZ (by kernel_rfl) (show ∀ s,gq.goal (tJ s) (s,(()),()) from ?_)
 intro q hin hp
 dsimp only [gq] at hp ⊢
 exact Yk (K:=fun r=>r=(Sp.findAt (fun n:bK=>n.1==9) q,())) (fun n:bK=>n.1==9) Dy q _ hin.1.1 rfl
theorem rF:OK fO.e:=by
 refine PA.ok mixed (au [gq.e,jG.e] ⟨tH,uT,trivial⟩) H0 (by kernel_rfl) (show ∀ s,fO.goal (rG s) (s,(()),()) from ?_)
 intro q hin hp
 dsimp only [fO] at hp ⊢
 exact ⟨trivial,congrArg (·,()) (Ul _ q)⟩
theorem aak:OK Cm.e:=by
 refine PA.ok mixed (au [] trivial) acK (by kernel_rfl) (show ∀ q,Cm.goal (aal q) (q,()) from ?_)
 intro q hin hp
 dsimp only [Cm] at hp ⊢
 exact aol (K:=fun r=>r=(Sp.linked q,())) (fun n:bK=>n.1==9) Dy q _ hin.1.1 rfl
theorem uU:OK jH.e:=by
 refine PA.ok mixed (au [ja.e] ⟨pV,trivial⟩) H0 (by kernel_rfl) (show ∀ name p10,jH.goal (Lr name p10) (name,(p10,()),()) from ?_)
 intro nm attrs hin hp
 dsimp only [jH] at hp ⊢
 exact ⟨trivial,rfl⟩
theorem vH:OK gQ.e:=by
 refine PA.ok mixed (au [jH.e] ⟨uU,trivial⟩) vZ (by kernel_rfl) (show ∀ s mJ,gQ.goal (vI s mJ) (s,((mJ,()),()),()) from ?_)
 intro l attrs hin hp
 dsimp only [gQ] at hp ⊢
 exact Yk (K:=fun r=>r=(Sp.findAt (fun x:Sp.Bytes×Unit=>dA attrs x.1) l,())) (fun x:Sp.Bytes×Unit=>dA attrs x.1) ([],()) l _ hin.1.1 rfl
theorem tK:OK gu.e:=by
 refine PA.ok mixed (au [gQ.e,jH.e] ⟨vH,uU,trivial⟩) H0 (by kernel_rfl) (show ∀ s mJ,gu.goal (tN s mJ) (s,((mJ,()),()),()) from ?_)
 intro l attrs hin hp
 dsimp only [gu] at hp ⊢
 exact ⟨trivial,congrArg (·,()) (Ul _ l)⟩
theorem KR:OK nY.e:=by
 refine XA.ok mixed (au [] trivial) Ls (fun ⟨s,_⟩ _=>⟨((s,()),()),rfl⟩) (by kernel_rfl) (show ∀ s,nY.goal (KT s) (s,()) from ?_)
 intro s hin hp
 dsimp only [nY] at hp ⊢
 have hp:s.length≤1000:=hp
 intro g hg
 refine af (fun h=>?_) fun h=>⟨by rw [bW];omega,rfl⟩
 exact (List.length_eq_zero_iff.1 (hg h)).symm
theorem OB:OK qW.e:=by
 refine XA.ok mixed (au [] trivial) O4 (fun ⟨s,_⟩ _=>⟨((s,()),()),rfl⟩) (by kernel_rfl) (show ∀ s,qW.goal (OC s) (s,()) from ?_)
 intro s hin hp
 dsimp only [qW] at hp ⊢
 have hp:s.length≤1000:=hp
 intro g hg
 refine af (fun h=>?_) fun h=>⟨by rw [bW];omega,rfl⟩
 exact (List.length_eq_zero_iff.1 (hg h)).symm
def lV (f g:aN) (x:aC):Bool:=(kS x.2.1).any (fun t=>(jc f g).contains t)||(Sp.linked x.2.1&&f.2.2.2.1 !=g.2.2.2.1)
theorem QC {d:List aC} {p:aC→Bool} {s:Sp.Bytes}:dA ((d.filter p).map fun x=>(x.1,())) s=true↔∃ i,i<d.length∧Sp.nameOf d i=s∧p (bG d i)=true:=by
 have at_:∀ i (hi:i<d.length),bG d i=d[i]:=fun i hi=>by unfold bG;rw [List.getD_eq_getElem?_getD,List.getElem?_eq_getElem hi];rfl
 rw [gB,List.mem_map]
 constructor
 · rintro ⟨x,hx,e⟩
   obtain ⟨h1,h2⟩:=List.mem_filter.1 hx
   obtain ⟨i,hi,rfl⟩:=List.getElem_of_mem h1
   exact ⟨i,hi,by unfold Sp.nameOf;rw [at_ i hi];exact congrArg Prod.fst e,by rw [at_ i hi];exact h2⟩
 · rintro ⟨i,hi,e,hp⟩
   exact ⟨d[i],List.mem_filter.2 ⟨List.getElem_mem hi,by rw [← at_ i hi];exact hp⟩,by rw [← e];unfold Sp.nameOf;rw [at_ i hi]⟩
theorem OD {d:List aC} {f g:aN} (h:f.1=g.1):Sp.touched d f g ((d.filter (lV f g)).map fun x=>(x.1,())):=by
 refine ⟨by rw [List.length_map];exact List.length_filter_le _ _,fun s=>QC.trans ?_⟩
 unfold JZ lV
 constructor
 · rintro ⟨i,hi,e,hp⟩
   refine ⟨i,hi,e, .inr ?_⟩
   rw [Bool.or_eq_true,List.any_eq_true,Bool.and_eq_true] at hp
   rcases hp with ⟨t,h1,h2⟩|⟨h1,h2⟩
   · exact .inl ⟨t,h1,List.contains_iff_mem.1 h2⟩
   · exact .inr ⟨h1,bne_iff_ne.1 h2⟩
 · rintro ⟨i,hi,e,hp⟩
   refine ⟨i,hi,e,?_⟩
   rw [Bool.or_eq_true,List.any_eq_true,Bool.and_eq_true]
   rcases hp with hp|⟨t,h1,h2⟩|⟨h1,h2⟩
   · exact (hp h).elim
   · exact .inl ⟨t,h1,List.contains_iff_mem.2 h2⟩
   · exact .inr ⟨h1,bne_iff_ne.2 h2⟩
theorem QD {d:List aC} {f g:aN} (h:f.1≠g.1):Sp.touched d f g (fE d):=by
 refine ⟨by unfold fE;rw [List.length_map];exact Nat.le_refl _,fun s=>?_⟩
 have:fE d=(d.filter fun _=>true).map fun x=>(x.1,()):=by rw [List.filter_eq_self.2 fun _ _=>rfl];rfl
 rw [this,QC]
 exact ⟨fun ⟨i,hi,e,_⟩=>⟨i,hi,e, .inl h⟩,fun ⟨i,hi,e,_⟩=>⟨i,hi,e,rfl⟩⟩
theorem QE (d:List aC) (f g:aN):∃ r,Sp.touched d f g r:=by
 by_cases h:f.1=g.1
 · exact ⟨_,OD h⟩
 · exact ⟨_,QD h⟩
theorem anv {r0 r3:Sp.LS} {f g:aN} {q:List bK} (h0:dK r0 (jc f g)) (h3:dK r3 (kS q)):(r0.any fun x=>dA r3 x.1)=(kS q).any fun t=>(jc f g).contains t:=by
 rw [Bool.eq_iff_iff,List.any_eq_true,List.any_eq_true]
 constructor
 · rintro ⟨x,hx,h⟩
   exact ⟨x.1,(h3.2 _).1 (gB.1 h),List.contains_iff_mem.2 ((h0.2 x.1).1 hx)⟩
 · rintro ⟨t,ht,h⟩
   exact ⟨(t,()),(h0.2 t).2 (List.contains_iff_mem.1 h),gB.2 ((h3.2 t).2 ht)⟩
theorem OE:OK qU.e:=by
 refine XA.ok mixed (au [jG.e,fO.e,gu.e,jH.e,zY.e,xE.e,qm.e] ⟨uT,rF,tK,uU,Yd,Uw,Di,trivial⟩) O5 (fun ⟨d,f,g,_⟩ hp=>by obtain ⟨r,h⟩:=QE d f g;exact ⟨((r,()),()),h⟩) (by kernel_rfl) (show ∀ d wK yt yu wL uK Bz Dz DC BA zu,qU.goal (OG d wK yt yu wL uK Bz Dz DC BA zu) (d,(wK,yt,yu,wL,uK,()),(Bz,Dz,DC,BA,zu,()),()) from ?_)
 intro d a0 a1 a2 a3 a b0 b1 b2 b3 b hin hp
 dsimp only [qU] at hp ⊢
 obtain ⟨hd,hf,hg,hab⟩:aA d∧cu (a0,a1,a2,a3,a,())∧cu (b0,b1,b2,b3,b,())∧a.length+b.length≤1000:=hp
 have hl:=hd.1
 refine af (fun h=>⟨hl,QD (bne_iff_ne.1 h)⟩) fun h=>⟨⟨hf,hg,hab⟩,?_⟩
 have hid:a0=b0:=ajz h
 rintro ⟨⟨r0,⟨⟩⟩,⟨⟩⟩ hr0
 have hr0:dK r0 (jc (a0,a1,a2,a3,a,()) (b0,b1,b2,b3,b,())):=hr0
 dsimp only
 generalize hF:((a0,a1,a2,a3,a,()):aN)=F at*
 generalize hG:((b0,b1,b2,b3,b,()):aN)=G at*
 have amg:(a3 !=b3)=(F.2.2.2.1 !=G.2.2.2.1):=by rw [← hF,← hG]
 refine dN (fun i (x:Sp.LS)=>(((),i,()),x,())) (fun y=>y.1.2.1) (fun _ _=>rfl) d.length (by omega) (fun n l=>l=((d.take n).filter (lV F G)).map fun x=>(x.1,())) rfl (fun I μ n l hn hJ next=>?_) fun I μ l hJ=>?_
 · subst hJ
   have hl:=Bo (lV F G) (fun x:aC=>(x.1,())) d n
   have small:(((d.take n).filter (lV F G)).map fun x:aC=>(x.1,())).length+1≤big:=by rw [bW];omega
   have yes:lV F G (d.getD n zN)=true→((d.take n).filter (lV F G)).map (fun x:aC=>(x.1,()))++[((d.getD n zN).1,())]=((d.take (n+1)).filter (lV F G)).map fun x=>(x.1,()):=fun h=>by
    rw [jE (lV F G) zN d hn,h,List.map_append];rfl
   have no:lV F G (d.getD n zN)=false→((d.take n).filter (lV F G)).map (fun x:aC=>(x.1,()))=((d.take (n+1)).filter (lV F G)).map fun x=>(x.1,()):=fun h=>by
    rw [jE (lV F G) zN d hn,h,List.map_append];simp
   dsimp only
   refine dH (by omega) ⟨⟨by omega,by omega⟩,mV hd hn,fun r3 hr3=>⟨trivial,trivial,?_⟩⟩
   have hhit:=anv hr0 hr3
   rw [hhit,amg]
   refine af (fun h=>⟨small,rfl,next _ (yes ?_)⟩) fun h=>af (fun h2=>af (fun h3=>⟨small,rfl,next _ (yes ?_)⟩) fun h3=>⟨rfl,next _ (no ?_)⟩) fun h2=>⟨rfl,next _ (no ?_)⟩
   · have h:(kS (d.getD n zN).2.1).any (fun t=>(jc F G).contains t)=true:=h
     unfold lV;rw [h];rfl
   · have h2:Sp.linked (d.getD n zN).2.1=true:=h2
     unfold lV;rw [h2,h3];simp
   · have h:(kS (d.getD n zN).2.1).any (fun t=>(jc F G).contains t)=false:=h
     have h2:Sp.linked (d.getD n zN).2.1=true:=h2
     unfold lV;rw [h,h2,h3];rfl
   · have h:(kS (d.getD n zN).2.1).any (fun t=>(jc F G).contains t)=false:=h
     have h2:Sp.linked (d.getD n zN).2.1=false:=h2
     unfold lV;rw [h,h2];rfl
 · subst hJ
   rw [List.take_length]
   dsimp only
   exact dI (by omega) (OD (by rw [← hF,← hG];exact hid))
theorem Yl {α:Type} [BEq α] [LawfulBEq α]:∀ (a b:List α),a.Nodup→(∀ x∈a,x∈b)→a.length≤b.length
 |[],_,_,_=>Nat.zero_le _
 |x::r,b,hn,h=>by
  rw [List.nodup_cons] at hn
  have hx:=h x List.mem_cons_self
  have ih:=Yl r (b.erase x) hn.2 fun y hy=>by
   have hne:y≠x:=fun e=>by subst e;exact hn.1 hy
   rw [List.mem_erase_of_ne hne]
   exact h y (List.mem_cons_of_mem _ hy)
  rw [List.length_erase_of_mem hx] at ih
  have:0<b.length:=List.length_pos_of_mem hx
  rw [List.length_cons];omega
def Grown (d:List aC) (names out:Sp.LS):Prop:=∃ ex,out=names++ex∧ex.Nodup∧(∀ x∈ex,x∈fE d)∧∀ x∈out,Sp.Reach d (fun s=>dA names s=true) x.1
theorem Grown.len {d:List aC} {names out:Sp.LS} (h:Grown d names out):out.length≤names.length+d.length:=by
 obtain ⟨ex,rfl,h1,h2,_⟩:=h
 have:=Yl ex (fE d) h1 h2
 unfold fE at this
 rw [List.length_map] at this
 rw [List.length_append];omega
theorem Grown.add {d:List aC} {names out:Sp.LS} (h:Grown d names out) {x:Sp.Bytes×Unit} (h1:x∈fE d) (h2:x ∉ out) (h3:Sp.Reach d (fun s=>dA names s=true) x.1):Grown d names (out++[x]):=by
 obtain ⟨ex,rfl,g1,g2,g3⟩:=h
 refine ⟨ex++[x],by rw [List.append_assoc],?_,fun y hy=>?_,fun y hy=>?_⟩
 · rw [List.nodup_append]
   refine ⟨g1,List.nodup_cons.2 ⟨by simp,List.nodup_nil⟩,fun a ha b hb e=>h2 ?_⟩
   rw [List.mem_singleton.1 hb] at e
   exact List.mem_append.2 (.inr (e▸ha))
 · rcases List.mem_append.1 hy with hy|hy
   · exact g2 y hy
   · rw [List.mem_singleton.1 hy];exact h1
 · rcases List.mem_append.1 hy with hy|hy
   · exact g3 y hy
   · rw [List.mem_singleton.1 hy];exact h3
theorem aeC {d:List aC} {s:Sp.Bytes} {x:Sp.Bytes×Unit}:x∈Sp.asking d s↔∃ i,i<d.length∧Sp.nameOf d i=x.1∧s∈nS (dQ d i):=by
 have h:(x.1,())∈Sp.asking d s↔_:=(gB (l:=Sp.asking d s) (s:=x.1)).symm.trans QC
 refine h.trans ⟨fun ⟨i,a,b,c⟩=>⟨i,a,b,List.contains_iff_mem.1 c⟩,fun ⟨i,a,b,c⟩=>⟨i,a,b,List.contains_iff_mem.2 c⟩⟩
theorem OH {d:List aC} {i:Nat} (hi:i<d.length):(Sp.nameOf d i,())∈fE d:=gB.1 (Ut hi)
theorem QF (d:List aC) (hd:d.length≤5) (names:Sp.LS) (hn:names.length≤900):∃ r,Sp.reached d names r:=by
 refine ⟨names++(fE d).filter (fun x=>@decide (Sp.Reach d (fun s=>dA names s=true) x.1) (Classical.propDecidable _)),?_,fun s=>?_⟩
 · have:=List.length_filter_le (fun x:Sp.Bytes×Unit=>@decide (Sp.Reach d (fun s=>dA names s=true) x.1) (Classical.propDecidable _)) (fE d)
   have e:(fE d).length=d.length:=by unfold fE;rw [List.length_map]
   rw [List.length_append];omega
 · rw [gB,List.mem_append,List.mem_filter]
   constructor
   · rintro (h|⟨_,h⟩)
     · exact .base (gB.2 h)
     · exact (@decide_eq_true_iff _ (Classical.propDecidable _)).1 h
   · intro h
     have h':=h
     cases h with
     |base hb=>exact .inl (gB.1 hb)
     |step _ hi _=>exact .inr ⟨OH hi,(@decide_eq_true_iff _ (Classical.propDecidable _)).2 h'⟩
theorem rX:OK jf.e:=by
 refine XA.ok mixed (au [(mQ, .eff (Dt jr) kX),ja.e,Aa.e,nY.e] ⟨⟨tC,rE⟩,pV,Yi,KR,trivial⟩) KU (fun ⟨d,names,_⟩ hp=>by obtain ⟨r,h⟩:=QF d hp.2.1 names hp.2.2;exact ⟨((r,()),()),h⟩) (by kernel_rfl) (show ∀ d names,jf.goal (J3 d names) (d,names,()) from ?_)
 intro d names hin hp
 dsimp only [jf] at hp ⊢
 obtain ⟨hd,hd5,hnl⟩:aA d∧d.length≤5∧names.length≤900:=hp
 refine ⟨by omega,?_⟩
 rintro ⟨⟨r0,⟨⟩⟩,⟨⟩⟩ e0
 have e0:r0=names:=e0
 subst e0
 refine ⟨fun y=>∃ i:Nat,y.1.2.1=i∧i≤y.2.1.length∧Grown d r0 y.2.1∧∀ j,j<i→∀ x∈Sp.asking d (y.2.1.getD j ([],())).1,x∈y.2.1,fun y=>((r0.length+d.length:Nat)-y.1.2.1).toNat,⟨0,rfl,Nat.zero_le _,⟨[],by simp,List.nodup_nil,fun x hx=>(by cases hx),fun x hx=> .base (gB.2 hx)⟩,fun j hj=>by omega⟩,?_⟩
 rintro ⟨⟨_,_,⟨⟩⟩,out,⟨⟩⟩ ⟨i,rfl,hi,hG,hcl⟩
 have hlen:out.length≤r0.length+d.length:=hG.len
 dsimp only at hi hG hcl ⊢
 refine af (fun hc=>?_) fun hc=>?_
 · have hc:=fJ hc
   have w:IntKind.i64.wrap ((i:Int)+1)=((i+1:Nat):Int):=fF _ (by omega)
   rw [w,Int.toNat_natCast]
   refine ⟨⟨by omega,by omega⟩,by omega,hd,?_⟩
   rintro ⟨⟨r3,⟨⟩⟩,⟨⟩⟩ e3
   have e3:r3=Sp.asking d (out.getD i ([],())).1:=e3
   dsimp only
   have hr3:r3.length≤d.length:=by
    rw [e3];unfold Sp.asking;rw [List.length_map];exact List.length_filter_le _ _
   refine dN (fun k (x:Sp.LS)=>(((),k,()),x,())) (fun y=>y.1.2.1) (fun _ _=>rfl) r3.length (by omega) (fun n l=>(∃ more,l=out++more)∧Grown d r0 l∧∀ k,k<n→r3.getD k ([],())∈l) ⟨⟨[],by simp⟩,hG,fun k hk=>by omega⟩ (fun I μ n l hn hJ next=>?_) fun I μ l hJ=>?_
   · obtain ⟨⟨more,hm⟩,g1,g2⟩:=hJ
     have gl:=g1.len
     have hmem:r3.getD n ([],())∈r3:=getD_mem (d:=(([]:Sp.Bytes),())) hn
     dsimp only
     rw [Int.toNat_natCast]
     refine dH (by omega) ⟨⟨by omega,by omega⟩,trivial,af (fun h=>⟨by rw [bW];simp only [List.length_cons,List.length_nil];omega,rfl,next _ ⟨⟨more++[r3.getD n ([],())],by rw [hm,List.append_assoc]⟩,?_,fun k hk=>?_⟩⟩) fun h=>⟨rfl,next _ ⟨⟨more,hm⟩,g1,fun k hk=>?_⟩⟩⟩
     · have h:dA l (r3.getD n ([],())).1=false:=dS h
       rw [e3] at hmem
       obtain ⟨j,hj,e,ha⟩:=aeC.1 hmem
       rw [← e3] at e
       refine g1.add ?_ (fun hx=>?_) ?_
       · have:=OH hj;rw [e] at this;exact this
       · have h':dA l (r3.getD n ([],())).1=true:=gB.2 hx
         rw [h] at h';cases h'
       · rw [← e]
         obtain ⟨ex,_,_,_,hr⟩:=hG
         exact .step (hr _ (getD_mem (d:=(([]:Sp.Bytes),())) (by omega))) hj ha
     · rcases Nat.lt_or_ge k n with h'|h'
       · exact List.mem_append.2 (.inl (g2 k h'))
       · have:k=n:=by omega
         subst this;exact List.mem_append.2 (.inr (List.mem_singleton.2 rfl))
     · have h:dA l (r3.getD n ([],())).1=true:=bU h
       rcases Nat.lt_or_ge k n with h'|h'
       · exact g2 k h'
       · have:k=n:=by omega
         subst this;exact gB.1 h
   · obtain ⟨⟨more,hm⟩,g1,g2⟩:=hJ
     dsimp only
     have hol:out.length≤l.length:=by rw [hm,List.length_append];omega
     refine dI (by omega) ⟨rfl,⟨i+1,rfl,by dsimp only;omega,g1,fun j hj x hx=>?_⟩,by dsimp only;omega⟩
     have hat:l.getD j ([],())=out.getD j ([],()):=by
      rw [hm,List.getD_eq_getElem?_getD,List.getD_eq_getElem?_getD,List.getElem?_append_left (by omega)]
     rw [hat] at hx
     rcases Nat.lt_or_ge j i with h'|h'
     · rw [hm];exact List.mem_append.2 (.inl (hcl j h' x hx))
     · have:j=i:=by omega
       subst this
       rw [← e3] at hx
       obtain ⟨k,hk,rfl⟩:=List.getElem_of_mem hx
       have:=g2 k hk
       rw [List.getD_eq_getElem?_getD,List.getElem?_eq_getElem hk] at this
       exact this
 · have hc:=fZ hc
   have hie:i=out.length:=by omega
   refine ⟨by omega,fun r hr=>⟨by have:=hr.1;omega,fun s=>?_⟩⟩
   rw [gB]
   refine (hr.2 (s,())).trans ⟨fun h=>?_,fun h=>?_⟩
   · obtain ⟨ex,_,_,_,hr⟩:=hG
     exact hr _ h
   · induction h with
     |base hb=>
      obtain ⟨ex,he,_⟩:=hG
      show (_,())∈out
      rw [he];exact List.mem_append.2 (.inl (gB.1 hb))
     |step _ hj ha ih=>
      obtain ⟨k,hk,e⟩:=List.getElem_of_mem ih
      have hx:=hcl k (by omega)
      have hat:out.getD k ([],())=out[k]:=by rw [List.getD_eq_getElem?_getD,List.getElem?_eq_getElem hk];rfl
      rw [hat,e] at hx
      exact hx (_,()) (aeC.2 ⟨_,hj,rfl,ha⟩)
theorem ala (d:List aC) (hd:d.length≤5) (f g:aN):∃ r,Sp.isSet r (Vb d f g):=by
 obtain ⟨t,ht⟩:=QE d f g
 obtain ⟨r,hr⟩:=QF d hd t (by have:=ht.1;omega)
 refine ⟨r,hr.1,fun s=>(hr.2 s).trans ?_⟩
 have:(fun s=>dA t s=true)=JZ d f g:=funext fun s=>propext (ht.2 s)
 rw [this];rfl
theorem anw {d:List aC} {f g:aN} {t r:Sp.LS} (ht:Sp.touched d f g t) (hr:Sp.reached d t r):Sp.isSet r (Vb d f g):=by
 refine ⟨hr.1,fun s=>(hr.2 s).trans ?_⟩
 have:(fun s=>dA t s=true)=JZ d f g:=funext fun s=>propext (ht.2 s)
 rw [this];rfl
theorem UA:OK xH.e:=by
 refine XA.ok mixed (au [jf.e,qU.e] ⟨rX,OE,trivial⟩) H0 (fun ⟨d,f,g,_⟩ hp=>by obtain ⟨r,h⟩:=ala d hp.2.1 f g;exact ⟨((r,()),()),h⟩) (by kernel_rfl) (show ∀ d wK yt yu wL uK Bz Dz DC BA zu,xH.goal (UB d wK yt yu wL uK Bz Dz DC BA zu) (d,(wK,yt,yu,wL,uK,()),(Bz,Dz,DC,BA,zu,()),()) from ?_)
 intro d a0 a1 a2 a3 a b0 b1 b2 b3 b hin hp
 dsimp only [xH] at hp ⊢
 obtain ⟨h1,h2,h3,h4,h5⟩:=hp
 exact ⟨⟨h1,h3,h4,h5⟩,fun r0 hr0=>⟨⟨h1,h2,by have:=hr0.1;omega⟩,fun r1 hr1=>anw hr0 hr1⟩⟩
end Go.Proofs.Tryz
