import Derived.Test.YtlbkigkbmeckbaaGreatP17
namespace Go.Proofs.Tryz
open Go Go.Fw Go.IntWalk
theorem apZ {r:Sp.LS} {l:List Sp.Bytes} (h:Sp.fB r l) (s:Sp.Bytes):Sp.eP r s=l.contains s:=by
 rw [Bool.eq_iff_iff,Sp.iG,h.2,List.contains_iff_mem]
def asks (name:Sp.Bytes) (x:Sp.aH):Bool:=(Sp.qo x.2.1).contains name
theorem X7:ai prog G mX.e:=by
 refine X8 (ak ah ⟨wW,aan,trivial⟩) (fun ⟨d,s,_⟩ hp=>⟨((Sp.asking d s,()),()),rfl⟩) ?_
 intro d s hin hp
 dsimp only [mX] at hp ⊢
 have hp:Sp.aB d:=hp
 have hl:=hp.1
 refine dR (fun i (x:Sp.LS)=>(((),i,()),x,())) (fun y=>y.1.2.1) (fun _ _=>rfl) d.length (by omega) (fun n l=>l=((d.take n).filter (asks s)).map fun x=>(x.1,())) rfl (fun I μ n l hn hJ next=>?_) fun I μ l hJ=>?_
 · subst hJ
   have hl:=GX (asks s) (fun x:Sp.aH=>(x.1,())) d n
   dsimp only
   refine dB (by omega) ⟨⟨by omega,by omega⟩,rD hp hn,fun r2 hr2=>⟨trivial,?_⟩⟩
   rw [apZ hr2]
   refine af (fun h=>⟨by rw [bV];simp only [List.length_cons,List.length_nil];omega,rfl,next _ ?_⟩) fun h=>⟨rfl,next _ ?_⟩
   · have h:asks s (d.getD n XP)=true:=h
     rw [uI (asks s) XP d hn,h,List.map_append];rfl
   · have h:asks s (d.getD n XP)=false:=h
     rw [uI (asks s) XP d hn,h,List.map_append];simp
 · subst hJ
   rw [List.take_length]
   dsimp only
   exact dD (by omega) rfl
theorem Ip:ai prog G iC.e:=by
 refine Iq (ak ah trivial) (fun ⟨s,_⟩ _=>⟨((s,()),()),rfl⟩) ?_
 intro s hin hp
 dsimp only [iC] at hp ⊢
 have hp:s.length≤1000:=hp
 intro g hg
 refine af (fun h=>?_) fun h=>⟨by rw [bV];omega,rfl⟩
 exact (List.length_eq_zero_iff.1 (hg h)).symm
theorem LK:ai prog G jb.e:=by
 refine LM (ak ah trivial) (fun ⟨s,_⟩ _=>⟨((s,()),()),rfl⟩) ?_
 intro s hin hp
 dsimp only [jb] at hp ⊢
 have hp:s.length≤1000:=hp
 intro g hg
 refine af (fun h=>?_) fun h=>⟨by rw [bV];omega,rfl⟩
 exact (List.length_eq_zero_iff.1 (hg h)).symm
theorem am1 {d:List Sp.aH} {p:Sp.aH→Bool} {s:Sp.Bytes}:Sp.eP ((d.filter p).map fun x=>(x.1,())) s=true↔∃ i,i<d.length∧Sp.nameOf d i=s∧p (Sp.bI d i)=true:=by
 have at_:∀ i (hi:i<d.length),Sp.bI d i=d[i]:=fun i hi=>by unfold Sp.bI;rw [List.getD_eq_getElem?_getD,List.getElem?_eq_getElem hi];rfl
 rw [Sp.iG,List.mem_map]
 constructor
 · rintro ⟨x,hx,e⟩
   obtain ⟨h1,h2⟩:=List.mem_filter.1 hx
   obtain ⟨i,hi,rfl⟩:=List.getElem_of_mem h1
   exact ⟨i,hi,by unfold Sp.nameOf;rw [at_ i hi];exact congrArg Prod.fst e,by rw [at_ i hi];exact h2⟩
 · rintro ⟨i,hi,e,hp⟩
   exact ⟨d[i],List.mem_filter.2 ⟨List.getElem_mem hi,by rw [← at_ i hi];exact hp⟩,by rw [← e];unfold Sp.nameOf;rw [at_ i hi]⟩
theorem X9 {α:Type} [BEq α] [LawfulBEq α]:∀ (a b:List α),a.Nodup→(∀ x∈a,x∈b)→a.length≤b.length
 |[],_,_,_=>Nat.zero_le _
 |x::r,b,hn,h=>by
  rw [List.nodup_cons] at hn
  have hx:=h x List.mem_cons_self
  have ih:=X9 r (b.erase x) hn.2 fun y hy=>by
   have hne:y≠x:=fun e=>by subst e;exact hn.1 hy
   rw [List.mem_erase_of_ne hne]
   exact h y (List.mem_cons_of_mem _ hy)
  rw [List.length_erase_of_mem hx] at ih
  have:0<b.length:=List.length_pos_of_mem hx
  rw [List.length_cons];omega
def Grown (d:List Sp.aH) (names out:Sp.LS):Prop:=∃ ex,out=names++ex∧ex.Nodup∧(∀ x∈ex,x∈Sp.kP d)∧∀ x∈out,Sp.Reach d (fun s=>Sp.eP names s=true) x.1
theorem Grown.len {d:List Sp.aH} {names out:Sp.LS} (h:Grown d names out):out.length≤names.length+d.length:=by
 obtain ⟨ex,rfl,h1,h2,_⟩:=h
 have:=X9 ex (Sp.kP d) h1 h2
 unfold Sp.kP at this
 rw [List.length_map] at this
 rw [List.length_append];omega
theorem Grown.add {d:List Sp.aH} {names out:Sp.LS} (h:Grown d names out) {x:Sp.Bytes×Unit} (h1:x∈Sp.kP d) (h2:x ∉ out) (h3:Sp.Reach d (fun s=>Sp.eP names s=true) x.1):Grown d names (out++[x]):=by
 obtain ⟨ex,rfl,g1,g2,g3⟩:=h
 refine ⟨ex++[x],by rw [List.append_assoc],?_,fun y hy=>?_,fun y hy=>?_⟩
 · rw [List.nodup_append]
   refine ⟨g1,List.nodup_cons.2 ⟨by simp,List.nodup_nil⟩,fun a ha b hb e=>h2 ?_⟩
   rw [List.mem_singleton.1 hb] at e
   exact List.mem_append.2 (.inr (e▸ha))
 · rcases List.mem_append.1 hy with hy|hy
   · exact g2 y hy
   · rw [List.mem_singleton.1 hy];exact h1
 · rcases List.mem_append.1 hy with hy|hy
   · exact g3 y hy
   · rw [List.mem_singleton.1 hy];exact h3
theorem afG {d:List Sp.aH} {s:Sp.Bytes} {x:Sp.Bytes×Unit}:x∈Sp.asking d s↔∃ i,i<d.length∧Sp.nameOf d i=x.1∧s∈Sp.qo (Sp.dK d i):=by
 have h:(x.1,())∈Sp.asking d s↔_:=(Sp.iG (l:=Sp.asking d s) (s:=x.1)).symm.trans am1
 refine h.trans ⟨fun ⟨i,a,b,c⟩=>⟨i,a,b,List.contains_iff_mem.1 c⟩,fun ⟨i,a,b,c⟩=>⟨i,a,b,List.contains_iff_mem.2 c⟩⟩
theorem LQ {d:List Sp.aH} {i:Nat} (hi:i<d.length):(Sp.nameOf d i,())∈Sp.kP d:=Sp.iG.1 (SG hi)
theorem abD (d:List Sp.aH) (hd:d.length≤5) (names:Sp.LS) (hn:names.length≤900):∃ r,Sp.reached d names r:=by
 refine ⟨names++(Sp.kP d).filter (fun x=>@decide (Sp.Reach d (fun s=>Sp.eP names s=true) x.1) (Classical.propDecidable _)),?_,fun s=>?_⟩
 · have:=List.length_filter_le (fun x:Sp.Bytes×Unit=>@decide (Sp.Reach d (fun s=>Sp.eP names s=true) x.1) (Classical.propDecidable _)) (Sp.kP d)
   have e:(Sp.kP d).length=d.length:=by unfold Sp.kP;rw [List.length_map]
   rw [List.length_append];omega
 · rw [Sp.iG,List.mem_append,List.mem_filter]
   constructor
   · rintro (h|⟨_,h⟩)
     · exact .base (Sp.iG.2 h)
     · exact (@decide_eq_true_iff _ (Classical.propDecidable _)).1 h
   · intro h
     have h':=h
     cases h with
     |base hb=>exact .inl (Sp.iG.1 hb)
     |step _ hi _=>exact .inr ⟨LQ hi,(@decide_eq_true_iff _ (Classical.propDecidable _)).2 h'⟩
theorem GY:ai prog G gY.e:=by
 refine GZ (ak ah ⟨⟨yT,yu⟩,wW,X7,Ip,trivial⟩) (fun ⟨d,names,_⟩ hp=>by obtain ⟨r,h⟩:=abD d hp.2.1 names hp.2.2;exact ⟨((r,()),()),h⟩) ?_
 intro d names hin hp
 dsimp only [gY] at hp ⊢
 obtain ⟨hd,hd5,hnl⟩:Sp.aB d∧d.length≤5∧names.length≤900:=hp
 refine ⟨by omega,?_⟩
 rintro ⟨⟨r0,⟨⟩⟩,⟨⟩⟩ e0
 have e0:r0=names:=e0
 subst e0
 refine ⟨fun y=>∃ i:Nat,y.1.2.1=i∧i≤y.2.1.length∧Grown d r0 y.2.1∧∀ j,j<i→∀ x∈Sp.asking d (y.2.1.getD j ([],())).1,x∈y.2.1,fun y=>((r0.length+d.length:Nat)-y.1.2.1).toNat,⟨0,rfl,Nat.zero_le _,⟨[],by simp,List.nodup_nil,fun x hx=>(by cases hx),fun x hx=> .base (Sp.iG.2 hx)⟩,fun j hj=>by omega⟩,?_⟩
 rintro ⟨⟨_,_,⟨⟩⟩,out,⟨⟩⟩ ⟨i,rfl,hi,hG,hcl⟩
 have hlen:out.length≤r0.length+d.length:=hG.len
 dsimp only at hi hG hcl ⊢
 refine af (fun hc=>?_) fun hc=>?_
 · have hc:=fD hc
   have w:IntKind.i64.wrap ((i:Int)+1)=((i+1:Nat):Int):=fC _ (by omega)
   rw [w,Int.toNat_natCast]
   refine ⟨⟨by omega,by omega⟩,by omega,hd,?_⟩
   rintro ⟨⟨r3,⟨⟩⟩,⟨⟩⟩ e3
   have e3:r3=Sp.asking d (out.getD i ([],())).1:=e3
   dsimp only
   have hr3:r3.length≤d.length:=by
    rw [e3];unfold Sp.asking;rw [List.length_map];exact List.length_filter_le _ _
   refine dR (fun k (x:Sp.LS)=>(((),k,()),x,())) (fun y=>y.1.2.1) (fun _ _=>rfl) r3.length (by omega) (fun n l=>(∃ more,l=out++more)∧Grown d r0 l∧∀ k,k<n→r3.getD k ([],())∈l) ⟨⟨[],by simp⟩,hG,fun k hk=>by omega⟩ (fun I μ n l hn hJ next=>?_) fun I μ l hJ=>?_
   · obtain ⟨⟨more,hm⟩,g1,g2⟩:=hJ
     have gl:=g1.len
     have hmem:r3.getD n ([],())∈r3:=getD_mem (d:=(([]:Sp.Bytes),())) hn
     dsimp only
     rw [Int.toNat_natCast]
     refine dB (by omega) ⟨⟨by omega,by omega⟩,trivial,af (fun h=>⟨by rw [bV];simp only [List.length_cons,List.length_nil];omega,rfl,next _ ⟨⟨more++[r3.getD n ([],())],by rw [hm,List.append_assoc]⟩,?_,fun k hk=>?_⟩⟩) fun h=>⟨rfl,next _ ⟨⟨more,hm⟩,g1,fun k hk=>?_⟩⟩⟩
     · have h:Sp.eP l (r3.getD n ([],())).1=false:=fQ h
       rw [e3] at hmem
       obtain ⟨j,hj,e,ha⟩:=afG.1 hmem
       rw [← e3] at e
       refine g1.add ?_ (fun hx=>?_) ?_
       · have:=LQ hj;rw [e] at this;exact this
       · have h':Sp.eP l (r3.getD n ([],())).1=true:=Sp.iG.2 hx
         rw [h] at h';cases h'
       · rw [← e]
         obtain ⟨ex,_,_,_,hr⟩:=hG
         exact .step (hr _ (getD_mem (d:=(([]:Sp.Bytes),())) (by omega))) hj ha
     · rcases Nat.lt_or_ge k n with h'|h'
       · exact List.mem_append.2 (.inl (g2 k h'))
       · have:k=n:=by omega
         subst this;exact List.mem_append.2 (.inr (List.mem_singleton.2 rfl))
     · have h:Sp.eP l (r3.getD n ([],())).1=true:=dH h
       rcases Nat.lt_or_ge k n with h'|h'
       · exact g2 k h'
       · have:k=n:=by omega
         subst this;exact Sp.iG.1 h
   · obtain ⟨⟨more,hm⟩,g1,g2⟩:=hJ
     dsimp only
     have hol:out.length≤l.length:=by rw [hm,List.length_append];omega
     refine dD (by omega) ⟨rfl,⟨i+1,rfl,by omega,g1,fun j hj x hx=>?_⟩,by omega⟩
     have hat:l.getD j ([],())=out.getD j ([],()):=by
      rw [hm,List.getD_eq_getElem?_getD,List.getD_eq_getElem?_getD,List.getElem?_append_left (by omega)]
     rw [hat] at hx
     rcases Nat.lt_or_ge j i with h'|h'
     · rw [hm];exact List.mem_append.2 (.inl (hcl j h' x hx))
     · have:j=i:=by omega
       subst this
       rw [← e3] at hx
       obtain ⟨k,hk,rfl⟩:=List.getElem_of_mem hx
       have:=g2 k hk
       rw [List.getD_eq_getElem?_getD,List.getElem?_eq_getElem hk] at this
       exact this
 · have hc:=fP hc
   have hie:i=out.length:=by omega
   refine ⟨by omega,fun r hr=>⟨by have:=hr.1;omega,fun s=>?_⟩⟩
   rw [Sp.iG]
   refine (hr.2 (s,())).trans ⟨fun h=>?_,fun h=>?_⟩
   · obtain ⟨ex,_,_,_,hr⟩:=hG
     exact hr _ h
   · induction h with
     |base hb=>
      obtain ⟨ex,he,_⟩:=hG
      show (_,())∈out
      rw [he];exact List.mem_append.2 (.inl (Sp.iG.1 hb))
     |step _ hj ha ih=>
      obtain ⟨k,hk,e⟩:=List.getElem_of_mem ih
      have hx:=hcl k (by omega)
      have hat:out.getD k ([],())=out[k]:=by rw [List.getD_eq_getElem?_getD,List.getElem?_eq_getElem hk];rfl
      rw [hat,e] at hx
      exact hx (_,()) (afG.2 ⟨_,hj,rfl,ha⟩)
end Go.Proofs.Tryz
