import Derived.Test.YtlbkigkbmeckbaaGreatP20
namespace Go.Proofs.Tryz
open Go Go.Fw Go.IntWalk
theorem without_take (a b:List (Int×Unit)) {n:Nat} (h:n<a.length):(a.take (n+1)).filter (fun x=>!Sp.eH b x.1)=(a.take n).filter (fun x=>!Sp.eH b x.1)++(bif !Sp.eH b (a.getD n (0,())).1 then [a.getD n (0,())] else []):=uI (fun x:Int×Unit=>!Sp.eH b x.1) (0,()) a h
theorem afU:ai prog G tV.e:=by
 refine afV (ak ah ⟨Ik,trivial⟩) (fun ⟨a,b,_⟩ _=>⟨((Sp.without b a,Sp.without a b,()),()),⟨rfl,rfl⟩⟩) ?_
 intro a b hin hp
 dsimp only [tV] at hp ⊢
 obtain ⟨ha,hb⟩:a.length≤1000∧b.length≤1000:=hp
 have fl:∀ (p:Int×Unit→Bool) (l:List (Int×Unit)) n,((l.take n).filter p).length≤n:=fun p l n=>by
  have:=List.length_filter_le p (l.take n)
  rw [List.length_take] at this;omega
 refine dR (fun i (x:List (Int×Unit))=>(((),i,()),x,())) (fun y=>y.1.2.1) (fun _ _=>rfl) b.length (by omega) (fun n l=>l=(b.take n).filter fun x=>!Sp.eH a x.1) rfl (fun I μ n l hn hJ next=>?_) fun I μ l hJ=>?_
 · subst hJ
   have hl:=fl (fun x=>!Sp.eH a x.1) b n
   have step:=without_take b a hn
   dsimp only
   refine dB (by omega) ⟨⟨by omega,by omega⟩,trivial,af (fun h=>⟨⟨by omega,by omega⟩,by rw [bV];simp only [List.length_cons,List.length_nil];exact Nat.le_trans (Nat.add_le_add_right hl _) (by omega),rfl,next _ ?_⟩) fun h=>⟨rfl,next _ ?_⟩⟩
   · have h:(!Sp.eH a (b.getD n (0,())).1)=true:=h
     rw [step,h];rfl
   · have h:(!Sp.eH a (b.getD n (0,())).1)=false:=h
     rw [step,h];simp
 · subst hJ
   rw [List.take_length]
   dsimp only
   refine dD (by omega) (dR (fun i (x:List (Int×Unit))=>(((),i,()),x,())) (fun y=>y.1.2.1) (fun _ _=>rfl) a.length (by omega) (fun n l=>l=(a.take n).filter fun x=>!Sp.eH b x.1) rfl (fun I μ n l hn hJ next=>?_) fun I μ l hJ=>?_)
   · subst hJ
     have hl:=fl (fun x=>!Sp.eH b x.1) a n
     have step:=without_take a b hn
     dsimp only
     refine dB (by omega) ⟨⟨by omega,by omega⟩,trivial,af (fun h=>⟨⟨by omega,by omega⟩,by rw [bV];simp only [List.length_cons,List.length_nil];exact Nat.le_trans (Nat.add_le_add_right hl _) (by omega),rfl,next _ ?_⟩) fun h=>⟨rfl,next _ ?_⟩⟩
     · have h:(!Sp.eH b (a.getD n (0,())).1)=true:=h
       rw [step,h];rfl
     · have h:(!Sp.eH b (a.getD n (0,())).1)=false:=h
       rw [step,h];simp
   · subst hJ
     rw [List.take_length]
     dsimp only
     exact dD (by omega) ⟨rfl,rfl⟩
theorem Vh:ai prog G lK.e:=by
 refine Vj (ak ah ⟨afU,Dx,trivial⟩) (fun ⟨a,b,_⟩ _=>⟨((Sp.He a b,()),()),rfl⟩) ?_
 intro a b hin hp
 dsimp only [lK] at hp ⊢
 obtain ⟨ha,hb⟩:Sp.bg a∧Sp.bg b:=hp
 have hbl:=hb.1
 refine dR (fun i (x:List Sp.FX)=>(((),i,()),x,())) (fun y=>y.1.2.1) (fun _ _=>rfl) b.length (by omega) (fun n l=>l=((b.take n).map (Sp.vG a)).filter Sp.yY) rfl (fun I μ n l hn hJ next=>?_) fun I μ l hJ=>?_
 · subst hJ
   have hl:(((b.take n).map (Sp.vG a)).filter Sp.yY).length≤n:=by
    have:=List.length_filter_le Sp.yY ((b.take n).map (Sp.vG a))
    rw [List.length_map,List.length_take] at this;omega
   have step:=afL a b hn
   have l1:=SH ha (b.getD n oQ).1
   have l2:(b.getD n oQ).2.1.length≤1000:=EO hb hn
   dsimp only
   refine dB (by omega) ⟨⟨by omega,by omega⟩,ha,⟨by omega,by omega⟩,⟨l1,l2⟩,?_⟩
   rintro ⟨⟨x,y,⟨⟩⟩,⟨⟩⟩ ⟨e1,e2⟩
   have e1:x=Sp.without (b.getD n oQ).2.1 (Sp.eU a (b.getD n oQ).1):=e1
   have e2:y=Sp.without (Sp.eU a (b.getD n oQ).1) (b.getD n oQ).2.1:=e2
   have hd:Sp.vG a (b.getD n oQ)=((b.getD n oQ).1,x,y,()):=by rw [e1,e2];rfl
   have hz:Sp.yY (Sp.vG a (b.getD n oQ))=decide (0<x.length+y.length):=by rw [hd];rfl
   have small:(((b.take n).map (Sp.vG a)).filter Sp.yY).length+1≤big:=by rw [bV];omega
   dsimp only
   refine af (fun h=>⟨⟨by omega,by omega⟩,small,rfl,next _ ?_⟩) fun h=>af (fun h2=>⟨⟨by omega,by omega⟩,small,rfl,next _ ?_⟩) fun h2=>⟨rfl,next _ ?_⟩
   · have h:(x.length:Int)>0:=fD h
     rw [step,hz,decide_eq_true (by omega),hd];rfl
   · have h2:(y.length:Int)>0:=fD h2
     rw [step,hz,decide_eq_true (by omega),hd];rfl
   · have h:¬ (x.length:Int)>0:=fP h
     have h2:¬ (y.length:Int)>0:=fP h2
     rw [step,hz,decide_eq_false (by omega)];simp
 · subst hJ
   rw [List.take_length]
   dsimp only
   exact dD (by omega) rfl
def amg (l:Sp.LS):Prop:=l.Pairwise fun x y=>Op.bytesLess x.1 y.1=true
theorem ap2 {x:Sp.Bytes×Unit} {r:Sp.LS} {s:Sp.Bytes}:Sp.Aq (x::r) s=if Op.bytesLess x.1 s=true then x::Sp.Aq r s else if x.1=s then x::r else (s,())::x::r:=by
 unfold Sp.Aq
 by_cases h:Op.bytesLess x.1 s=true
 · rw [if_pos h,List.takeWhile_cons_of_pos (p:=fun x:Sp.Bytes×Unit=>Op.bytesLess x.1 s) h]
   dsimp only
   rw [List.length_cons]
   cases hc:(decide ((r.takeWhile fun x=>Op.bytesLess x.1 s).length<r.length)&&(r.getD (r.takeWhile fun x=>Op.bytesLess x.1 s).length ([],())).1==s) with
   |true=>
    have:(decide ((r.takeWhile fun x=>Op.bytesLess x.1 s).length+1<(x::r).length)&&((x::r).getD ((r.takeWhile fun x=>Op.bytesLess x.1 s).length+1) ([],())).1==s)=true:=by
     rw [← hc,List.length_cons];simp [List.getD_cons_succ]
    rw [this];rfl
   |false=>
    have:(decide ((r.takeWhile fun x=>Op.bytesLess x.1 s).length+1<(x::r).length)&&((x::r).getD ((r.takeWhile fun x=>Op.bytesLess x.1 s).length+1) ([],())).1==s)=false:=by
     rw [← hc,List.length_cons];simp [List.getD_cons_succ]
    rw [this];rfl
 · rw [if_neg h,List.takeWhile_cons_of_neg (p:=fun x:Sp.Bytes×Unit=>Op.bytesLess x.1 s) h]
   by_cases e:x.1=s
   · rw [if_pos e];simp [e]
   · rw [if_neg e];simp [beq_eq_false_iff_ne.2 e]
theorem adi {s:Sp.Bytes}:∀ {l:Sp.LS},amg l→amg (Sp.Aq l s)
 |[],_=>List.pairwise_singleton _ _
 |y::r,h=>by
  obtain ⟨h1,h2⟩:=List.pairwise_cons.1 h
  have i1:=adi (s:=s) h2
  rw [ap2]
  by_cases c1:Op.bytesLess y.1 s=true
  · rw [if_pos c1]
    refine List.pairwise_cons.2 ⟨fun z hz=>?_,i1⟩
    rcases (yh z).1 hz with rfl|hz
    · exact c1
    · exact h1 z hz
  · rw [if_neg c1]
    by_cases c2:y.1=s
    · rw [if_pos c2];exact h
    · rw [if_neg c2]
      have c3:Op.bytesLess s y.1=true:=Sp.JK y.1 s (by simpa using c1) c2
      refine List.pairwise_cons.2 ⟨fun z hz=>?_,h⟩
      rcases List.mem_cons.1 hz with rfl|hz
      · exact c3
      · exact Sp.FZ _ _ _ c3 (h1 z hz)
theorem anI {l b:Sp.LS} (h:amg l) (hs:∀ x∈l,x∈b):l.length≤b.length:=by
 have hn:l.Nodup:=by
  unfold List.Nodup
  exact List.Pairwise.imp (fun {a b} hab e=>Sp.Ko hab (congrArg Prod.fst e)) h
 exact X9 l b hn hs
structure Rd (d:List Sp.aH) (names out:Sp.LS):Prop where
 asc:amg out
 base:∀ x∈names,x∈out
 reach:∀ x∈out,Sp.Reach d (fun s=>Sp.eP names s=true) x.1
 sub:∀ x∈out,x∈names++Sp.kP d
theorem Rd.len {d:List Sp.aH} {names out:Sp.LS} (h:Rd d names out):out.length≤names.length+d.length:=by
 have:=anI h.asc h.sub
 rw [List.length_append] at this
 have e:(Sp.kP d).length=d.length:=by unfold Sp.kP;rw [List.length_map]
 omega
theorem Rd.put {d:List Sp.aH} {names out:Sp.LS} (h:Rd d names out) {i:Nat} (hi:i<d.length) {s:Sp.Bytes} (hs:(s,())∈out) (ha:s∈Sp.qo (Sp.dK d i)):Rd d names (Sp.Aq out (Sp.nameOf d i)) where
 asc:=adi h.asc
 base:=fun x hx=>(yh x).2 (.inr (h.base x hx))
 reach:=fun x hx=>by
  rcases (yh x).1 hx with rfl|hx
  · exact .step (h.reach _ hs) hi ha
  · exact h.reach x hx
 sub:=fun x hx=>by
  rcases (yh x).1 hx with rfl|hx
  · exact List.mem_append.2 (.inr (LQ hi))
  · exact h.sub x hx
def shut (d:List Sp.aH) (out:Sp.LS):Prop:=∀ i,i<d.length→∀ s∈Sp.qo (Sp.dK d i),(s,())∈out→(Sp.nameOf d i,())∈out
def amh (d:List Sp.aH) (out:Sp.LS):Nat:=((List.range d.length).filter fun i=>Sp.eP out (Sp.nameOf d i)).length
theorem arJ (d:List Sp.aH) (out:Sp.LS):amh d out≤d.length:=by
 have:=List.length_filter_le (fun i=>Sp.eP out (Sp.nameOf d i)) (List.range d.length)
 rw [List.length_range] at this;exact this
theorem arK {d:List Sp.aH} {a b:Sp.LS} (h:∀ x∈a,x∈b) {i:Nat} (hi:i<d.length) (h1:(Sp.nameOf d i,()) ∉ a) (h2:(Sp.nameOf d i,())∈b):amh d a<amh d b:=
 Sp.filter_lt (fun j hj=>Sp.iG.2 (h _ (Sp.iG.1 hj))) ⟨i,List.mem_range.2 hi,Sp.iG.2 h2,by rw [Bool.eq_false_iff];exact fun h'=>h1 (Sp.iG.1 h')⟩
theorem G5:ai prog G gZ.e:=by
 refine G6 (ak ah ⟨Qa,aap,Di,trivial⟩) (fun ⟨d,names,_⟩ hp=>by obtain ⟨r,h⟩:=abD d hp.2.1 names hp.2.2;exact ⟨((r,()),()),h⟩) ?_
 intro d names hin hp
 dsimp only [gZ] at hp ⊢
 obtain ⟨hd,hd5,hnl⟩:Sp.aB d∧d.length≤5∧names.length≤900:=hp
 refine dR (fun i (x:Sp.LS)=>((x,i,()),())) (fun y=>y.1.2.1) (fun _ _=>rfl) names.length (by omega) (fun n l=>amg l∧∀ x,x∈l↔x∈names.take n) ⟨List.Pairwise.nil,fun x=>by simp⟩ (fun I μ n l hn hJ next=>?_) fun I μ l hJ=>?_
 · obtain ⟨h1,h2⟩:=hJ
   have hl:=anI h1 fun x hx=>(h2 x).1 hx
   rw [List.length_take] at hl
   dsimp only
   refine dB (by omega) ⟨⟨by omega,by omega⟩,by omega,rfl,next _ ⟨adi h1,fun x=>?_⟩⟩
   rw [yh,h2,Sp.take_succ' names n ([],()) hn,List.mem_append,List.mem_singleton,Int.toNat_natCast]
   exact Or.comm
 obtain ⟨h1,h2⟩:=hJ
 rw [List.take_length] at h2
 dsimp only
 refine dD (by omega) ⟨fun y=>∃ r:Nat,y.1.2.1=r∧r≤d.length+1∧Rd d names y.1.1∧(shut d y.1.1∨r≤amh d y.1.1),fun y=>((d.length:Int)+1-y.1.2.1).toNat,⟨0,rfl,by omega,⟨h1,fun x hx=>(h2 x).2 hx,fun x hx=> .base (Sp.iG.2 ((h2 x).1 hx)),fun x hx=>List.mem_append.2 (.inl ((h2 x).1 hx))⟩, .inr (Nat.zero_le _)⟩,?_⟩
 rintro ⟨⟨out,_,⟨⟩⟩,⟨⟩⟩ ⟨rd,rfl,hrd,R,hcl⟩
 dsimp only at R hcl ⊢
 refine af (fun hc=>?_) fun hc=>?_
 · have hc:(rd:Int)≤d.length:=fD hc
   have w:IntKind.i64.wrap ((rd:Int)+1)=((rd+1:Nat):Int):=fC _ (by omega)
   rw [w]
   refine dR (fun i (x:Sp.LS)=>((x,i,()),())) (fun y=>y.1.2.1) (fun _ _=>rfl) d.length (by omega) (fun i o=>Rd d names o∧(∀ x∈out,x∈o)∧(∀ j,j<i→∀ s∈Sp.qo (Sp.dK d j),(s,())∈out→(Sp.nameOf d j,())∈o)∧(shut d out→∀ x∈o,x∈out)) ⟨R,fun x hx=>hx,fun j hj=>by omega,fun _ x hx=>hx⟩ (fun I μ i o hi hJ next=>?_) fun I μ o hJ=>?_
   · obtain ⟨R2,g1,g2,g3⟩:=hJ
     dsimp only
     rw [Int.toNat_natCast]
     refine dB (by omega) ⟨⟨by omega,by omega⟩,rD hd hi,?_⟩
     rintro ⟨⟨r7,⟨⟩⟩,⟨⟩⟩ Uo
     have Uo:Sp.fB r7 (Sp.qo (Sp.dK d i)):=Uo
     have h7:=Uo.1
     dsimp only
     refine dR (fun k (x:Sp.LS)=>((x,k,()),())) (fun y=>y.1.2.1) (fun _ _=>rfl) r7.length (by omega) (fun k o3=>Rd d names o3∧(∀ x∈o,x∈o3)∧(∀ t,t<k→r7.getD t ([],())∈out→(Sp.nameOf d i,())∈o3)∧(shut d out→∀ x∈o3,x∈out)) ⟨R2,fun x hx=>hx,fun t ht=>by omega,g3⟩ (fun I μ k o3 hk hJ Zp=>?_) fun I μ o3 hJ=>?_
     · obtain ⟨R3,k1,k2,k3⟩:=hJ
       have hl3:=R3.len
       have hmem:r7.getD k ([],())∈r7:=getD_mem (d:=(([]:Sp.Bytes),())) hk
       have hask:(r7.getD k ([],())).1∈Sp.qo (Sp.dK d i):=(Uo.2 _).1 hmem
       dsimp only
       rw [Int.toNat_natCast]
       refine dB (by omega) ⟨⟨by omega,by omega⟩,trivial,af (fun h=>⟨⟨by omega,by omega⟩,by omega,rfl,Zp _ ⟨R3.put hi (Sp.iG.1 h) hask,fun x hx=>(yh x).2 (.inr (k1 x hx)),fun t _ _=>(yh _).2 (.inl rfl),fun hs x hx=>?_⟩⟩) fun h=>⟨rfl,Zp _ ⟨R3,k1,fun t ht hto=>?_,k3⟩⟩⟩
       · rcases (yh x).1 hx with rfl|hx
         · exact hs i hi _ hask (k3 hs _ (Sp.iG.1 h))
         · exact k3 hs x hx
       · rcases Nat.lt_or_ge t k with h'|h'
         · exact k2 t h' hto
         · have:t=k:=by omega
           subst this
           have h':Sp.eP o3 (r7.getD t ([],())).1=true:=Sp.iG.2 (k1 _ (g1 _ hto))
           have h:Sp.eP o3 (r7.getD t ([],())).1=false:=h
           rw [h] at h';cases h'
     · obtain ⟨R3,k1,k2,k3⟩:=hJ
       dsimp only
       refine dD (by omega) ⟨rfl,next _ ⟨R3,fun x hx=>k1 x (g1 x hx),fun j hj s hs hso=>?_,k3⟩⟩
       rcases Nat.lt_or_ge j i with h'|h'
       · exact k1 _ (g2 j h' s hs hso)
       · have:j=i:=by omega
         subst this
         obtain ⟨t,ht,e⟩:=List.getElem_of_mem ((Uo.2 s).2 hs)
         have hat:r7.getD t ([],())=(s,()):=by rw [List.getD_eq_getElem?_getD,List.getElem?_eq_getElem ht,e];rfl
         exact k2 t ht (by rw [hat];exact hso)
   · obtain ⟨R2,g1,g2,g3⟩:=hJ
     dsimp only
     refine dD (by omega) ⟨rfl,⟨rd+1,rfl,by omega,R2,?_⟩,by omega⟩
     by_cases hs:shut d out
     · left
       intro i hi s hs' hso
       exact g1 _ (hs i hi s hs' (g3 hs _ hso))
     · right
       rcases hcl with hcl|hcl
       · exact (hs hcl).elim
       · obtain ⟨i,hi⟩:=Classical.not_forall.1 hs
         have hi1:i<d.length:=Classical.byContradiction fun h=>hi fun h'=>(h h').elim
         obtain ⟨s,hs2⟩:=Classical.not_forall.1 fun h=>hi fun _=>h
         have hs3:s∈Sp.qo (Sp.dK d i):=Classical.byContradiction fun h=>hs2 fun h'=>(h h').elim
         have hs4:(s,())∈out:=Classical.byContradiction fun h=>hs2 fun _ h'=>(h h').elim
         have hs5:(Sp.nameOf d i,()) ∉ out:=fun h=>hs2 fun _ _=>h
         have:=arK g1 hi1 hs5 (g2 i hi1 s hs3 hs4)
         show rd+1≤amh d o
         omega
 · have hc:¬ (rd:Int)≤d.length:=fP hc
   have hl:=R.len
   have hs:shut d out:=by
    rcases hcl with hcl|hcl
    · exact hcl
    · have:=arJ d out;omega
   refine ⟨by rw [bV];omega,by show out.length≤1000;omega,fun s=>?_⟩
   rw [Sp.iG]
   refine ⟨fun h=>R.reach _ h,fun h=>?_⟩
   show (s,())∈out
   induction h with
   |base hb=>exact R.base _ (Sp.iG.1 hb)
   |step _ hj ha ih=>exact hs _ hj _ ha ih
theorem am2 {c:Sp.ny} {s:Sp.dG} {d:List Sp.aH} (nm:Sp.Bytes→Bool) (h:(Sp.ax d&&Sp.aJ s)=true):∃ c' df,Sp.turned c s d nm c' df true:=by
 obtain ⟨c',df,g⟩:=afN c s d nm
 rw [h] at g;exact ⟨c',df,g⟩
theorem afW:ai prog G tX.e:=by
 refine afX (ak ah ⟨Vh,XY,trivial⟩) (fun ⟨c,s,d,names,_⟩ hp=>by obtain ⟨c',df,h⟩:=am2 (c:=c) (Sp.eP names) hp.2.2.2;exact ⟨((((c'.1,c'.2.1,c'.2.2.1,c'.2.2.2.1,c'.2.2.2.2.1,()),df,()),())),h⟩) ?_
 intro a l nx d0 r0 sa sl sn d names hin hp
 dsimp only [tX] at hp ⊢
 obtain ⟨hc,hs,hd,hz⟩:=hp
 have hr:Sp.bg r0:=hc.2.2
 refine ⟨⟨hs,hd,hr⟩,?_⟩
 rintro ⟨⟨out,ok,⟨⟩⟩,⟨⟩⟩ ⟨e1,e2⟩
 have e1:ok=(Sp.ax d&&Sp.aJ (sa,sl,sn,())):=e1
 have e2:ok=true→Sp.fH sl d r0 (Sp.eP names) out:=e2
 have hev:=e2 (e1.trans hz)
 exact ⟨⟨hr,Hu hev hd.1 hs.2.1 hr⟩,fun r3 hr3=>⟨hz.symm,fun _=>⟨rfl,rfl,hev,hr3⟩,fun h=>by cases h⟩⟩
end Go.Proofs.Tryz
