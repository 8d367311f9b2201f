import Derived.Test.YtlbkigkbmeckbaaGreatP20
namespace Go.Proofs.Tryz
open Go Go.Fw Go.IntWalk
theorem without_take (a b:List (Int×Unit)) {n:Nat} (h:n<a.length):(a.take (n+1)).filter (fun x=>!Sp.fF b x.1)=(a.take n).filter (fun x=>!Sp.fF b x.1)++(bif !Sp.fF b (a.getD n (0,())).1 then [a.getD n (0,())] else []):=jO (fun x:Int×Unit=>!Sp.fF b x.1) (0,()) a h
theorem aiX:ai prog G vH.e:=by
 refine aiY (aj ah ⟨KF,trivial⟩) (fun ⟨a,b,_⟩ _=>⟨((Sp.without b a,Sp.without a b,()),()),⟨rfl,rfl⟩⟩) ?_
 intro a b hin hp
 dsimp only [vH] at hp ⊢
 obtain ⟨ha,hb⟩:a.length≤1000∧b.length≤1000:=hp
 have fl:∀ (p:Int×Unit→Bool) (l:List (Int×Unit)) n,((l.take n).filter p).length≤n:=fun p l n=>by
  have:=List.length_filter_le p (l.take n)
  rw [List.length_take] at this;omega
 refine dM (fun i (x:List (Int×Unit))=>(((),i,()),x,())) (fun y=>y.1.2.1) (fun _ _=>rfl) b.length (by omega) (fun n l=>l=(b.take n).filter fun x=>!Sp.fF a x.1) rfl (fun I μ n l hn hJ next=>?_) fun I μ l hJ=>?_
 · subst hJ
   have hl:=fl (fun x=>!Sp.fF a x.1) b n
   have step:=without_take b a hn
   dsimp only
   refine dh (by omega) ⟨⟨by omega,by omega⟩,trivial,af (fun h=>⟨⟨by omega,by omega⟩,by rw [bU];simp only [List.length_cons,List.length_nil];exact Nat.le_trans (Nat.add_le_add_right hl _) (by omega),rfl,next _ ?_⟩) fun h=>⟨rfl,next _ ?_⟩⟩
   · have h:(!Sp.fF a (b.getD n (0,())).1)=true:=h
     rw [step,h];rfl
   · have h:(!Sp.fF a (b.getD n (0,())).1)=false:=h
     rw [step,h];simp
 · subst hJ
   rw [List.take_length]
   dsimp only
   refine dm (by omega) (dM (fun i (x:List (Int×Unit))=>(((),i,()),x,())) (fun y=>y.1.2.1) (fun _ _=>rfl) a.length (by omega) (fun n l=>l=(a.take n).filter fun x=>!Sp.fF b x.1) rfl (fun I μ n l hn hJ next=>?_) fun I μ l hJ=>?_)
   · subst hJ
     have hl:=fl (fun x=>!Sp.fF b x.1) a n
     have step:=without_take a b hn
     dsimp only
     refine dh (by omega) ⟨⟨by omega,by omega⟩,trivial,af (fun h=>⟨⟨by omega,by omega⟩,by rw [bU];simp only [List.length_cons,List.length_nil];exact Nat.le_trans (Nat.add_le_add_right hl _) (by omega),rfl,next _ ?_⟩) fun h=>⟨rfl,next _ ?_⟩⟩
     · have h:(!Sp.fF b (a.getD n (0,())).1)=true:=h
       rw [step,h];rfl
     · have h:(!Sp.fF b (a.getD n (0,())).1)=false:=h
       rw [step,h];simp
   · subst hJ
     rw [List.take_length]
     dsimp only
     exact dm (by omega) ⟨rfl,rfl⟩
theorem X7:ai prog G nM.e:=by
 refine X8 (aj ah ⟨aiX,FQ,trivial⟩) (fun ⟨a,b,_⟩ _=>⟨((Sp.Gu a b,()),()),rfl⟩) ?_
 intro a b hin hp
 dsimp only [nM] at hp ⊢
 obtain ⟨ha,hb⟩:Sp.bH a∧Sp.bH b:=hp
 have hbl:=hb.1
 refine dM (fun i (x:List Sp.IX)=>(((),i,()),x,())) (fun y=>y.1.2.1) (fun _ _=>rfl) b.length (by omega) (fun n l=>l=((b.take n).map (Sp.wU a)).filter Sp.AQ) rfl (fun I μ n l hn hJ next=>?_) fun I μ l hJ=>?_
 · subst hJ
   have hl:(((b.take n).map (Sp.wU a)).filter Sp.AQ).length≤n:=by
    have:=List.length_filter_le Sp.AQ ((b.take n).map (Sp.wU a))
    rw [List.length_map,List.length_take] at this;omega
   have step:=aiN a b hn
   have l1:=Vw ha (b.getD n qH).1
   have l2:(b.getD n qH).2.1.length≤1000:=Hz hb hn
   dsimp only
   refine dh (by omega) ⟨⟨by omega,by omega⟩,ha,⟨by omega,by omega⟩,⟨l1,l2⟩,?_⟩
   rintro ⟨⟨x,y,⟨⟩⟩,⟨⟩⟩ ⟨e1,e2⟩
   have e1:x=Sp.without (b.getD n qH).2.1 (Sp.fG a (b.getD n qH).1):=e1
   have e2:y=Sp.without (Sp.fG a (b.getD n qH).1) (b.getD n qH).2.1:=e2
   have hd:Sp.wU a (b.getD n qH)=((b.getD n qH).1,x,y,()):=by rw [e1,e2];rfl
   have hz:Sp.AQ (Sp.wU a (b.getD n qH))=decide (0<x.length+y.length):=by rw [hd];rfl
   have small:(((b.take n).map (Sp.wU a)).filter Sp.AQ).length+1≤big:=by rw [bU];omega
   dsimp only
   refine af (fun h=>⟨⟨by omega,by omega⟩,small,rfl,next _ ?_⟩) fun h=>af (fun h2=>⟨⟨by omega,by omega⟩,small,rfl,next _ ?_⟩) fun h2=>⟨rfl,next _ ?_⟩
   · have h:(x.length:Int)>0:=gG h
     rw [step,hz,decide_eq_true (by omega),hd];rfl
   · have h2:(y.length:Int)>0:=gG h2
     rw [step,hz,decide_eq_true (by omega),hd];rfl
   · have h:¬ (x.length:Int)>0:=iw h
     have h2:¬ (y.length:Int)>0:=iw h2
     rw [step,hz,decide_eq_false (by omega)];simp
 · subst hJ
   rw [List.take_length]
   dsimp only
   exact dm (by omega) rfl
theorem auA {α:Type} (p:α→Bool) (d:α) (l:List α) {n:Nat} (h:n<l.length):(l.take (n+1)).any p=((l.take n).any p||p (l.getD n d)):=by
 rw [Sp.take_succ' l n d h,List.any_append];simp
theorem avw {r0 r3:Sp.LS} {f g:Sp.aK} {q:List Sp.bJ} (h0:Sp.dB r0 (Sp.jv f g)) (h3:Sp.dB r3 (Sp.lI q)):(r3.any fun x=>Sp.dQ r0 x.1)=(Sp.lI q).any fun t=>(Sp.jv f g).contains t:=by
 rw [← atD h0 h3,Bool.eq_iff_iff,List.any_eq_true,List.any_eq_true]
 exact ⟨fun ⟨x,hx,h⟩=>⟨x,Sp.gW.1 h,Sp.gW.2 hx⟩,fun ⟨x,hx,h⟩=>⟨x,Sp.gW.1 h,Sp.gW.2 hx⟩⟩
theorem OH:ai prog G jF.e:=by
 refine OI (aj ah ⟨JF,aaE,adi,Vr,afQ,trivial⟩) (fun ⟨d,f,g,_⟩ hp=>by obtain ⟨r,h⟩:=QY d f g;exact ⟨((r,()),()),h⟩) ?_
 intro d a0 a1 a2 a3 a b0 b1 b2 b3 b hin hp
 dsimp only [jF] at hp ⊢
 obtain ⟨hd,hf,hg,hab⟩:Sp.aV d∧Sp.bW (a0,a1,a2,a3,a,())∧Sp.bW (b0,b1,b2,b3,b,())∧a.length+b.length≤1000:=hp
 have hl:=hd.1
 refine af (fun h=>⟨hl,QX (bne_iff_ne.1 h)⟩) fun h=>⟨⟨hf,hg,hab⟩,?_⟩
 have hid:a0=b0:=apG h
 rintro ⟨⟨r0,⟨⟩⟩,⟨⟩⟩ hr0
 have hr0:Sp.dB r0 (Sp.jv (a0,a1,a2,a3,a,()) (b0,b1,b2,b3,b,())):=hr0
 dsimp only
 generalize hF:((a0,a1,a2,a3,a,()):Sp.aK)=F at*
 generalize hG:((b0,b1,b2,b3,b,()):Sp.aK)=G at*
 have aso:(a3 !=b3)=(F.2.2.2.1 !=G.2.2.2.1):=by rw [← hF,← hG]
 refine dM (fun i (x:Sp.LS)=>(((),i,()),x,())) (fun y=>y.1.2.1) (fun _ _=>rfl) d.length (by omega) (fun n l=>l=((d.take n).filter (nR F G)).map fun x=>(x.1,())) rfl (fun I μ n l hn hJ next=>?_) fun I μ l hJ=>?_
 · subst hJ
   have hl:=CY (nR F G) (fun x:Sp.aT=>(x.1,())) d n
   dsimp only
   rw [aso]
   refine dh (by omega) ⟨fun y=>y.1.1=(Sp.linked (d.getD n BK).2.1&&F.2.2.2.1 !=G.2.2.2.1),af (fun h=>⟨⟨by omega,by omega⟩,trivial,rfl,?_⟩) fun h=>⟨rfl,?_⟩,?_⟩
   · rw [h,Bool.and_true];rfl
   · rw [h,Bool.and_false]
   rintro ⟨⟨hit,⟨⟩⟩,⟨⟩⟩ hhit
   have hhit:hit=(Sp.linked (d.getD n BK).2.1&&F.2.2.2.1 !=G.2.2.2.1):=hhit
   refine ⟨⟨by omega,by omega⟩,qW hd hn,?_⟩
   rintro ⟨⟨r6,⟨⟩⟩,⟨⟩⟩ Jm
   have Jm:Sp.dB r6 (Sp.lI (d.getD n BK).2.1):=Jm
   have h6:=Jm.1
   dsimp only
   refine dM (fun i (x:Bool)=>((x,i,()),())) (fun y=>y.1.2.1) (fun _ _=>rfl) r6.length (by omega) (fun k x=>x=(hit||(r6.take k).any fun t=>Sp.dQ r0 t.1)) (by simp) (fun I μ k x hk hJ Na=>?_) fun I μ x hJ=>?_
   · have step:=auA (fun t:Sp.Bytes×Unit=>Sp.dQ r0 t.1) ([],()) r6 hk
     dsimp only
     refine dh (by omega) (af (fun h=>⟨rfl,Na _ ?_⟩) fun h=>⟨⟨by omega,by omega⟩,trivial,rfl,Na _ ?_⟩)
     · have h:x=true:=h
       rw [h] at hJ
       rw [step,← Bool.or_assoc,← hJ];rfl
     · have h:x=false:=h
       rw [h] at hJ
       rw [step,← Bool.or_assoc,← hJ,Bool.false_or,Int.toNat_natCast]
   · rw [List.take_length,avw hr0 Jm] at hJ
     have ht:x=nR F G (d.getD n BK):=by
      rw [hJ,hhit];unfold nR;rw [Bool.or_comm]
     dsimp only
     refine dm (by omega) (af (fun h=>⟨⟨by omega,by omega⟩,by rw [bU];simp only [List.length_cons,List.length_nil];omega,rfl,next _ ?_⟩) fun h=>⟨rfl,next _ ?_⟩)
     · have h:x=true:=h
       rw [jO (nR F G) BK d hn,← ht,h,List.map_append];rfl
     · have h:x=false:=h
       rw [jO (nR F G) BK d hn,← ht,h,List.map_append];simp
 · subst hJ
   rw [List.take_length]
   dsimp only
   exact dm (by omega) (OB (by rw [← hF,← hG];exact hid))
def apJ (l:Sp.LS):Prop:=l.Pairwise fun x y=>Op.bytesLess x.1 y.1=true
theorem atG {x:Sp.Bytes×Unit} {r:Sp.LS} {s:Sp.Bytes}:Sp.BR (x::r) s=if Op.bytesLess x.1 s=true then x::Sp.BR r s else if x.1=s then x::r else (s,())::x::r:=by
 unfold Sp.BR
 by_cases h:Op.bytesLess x.1 s=true
 · rw [if_pos h,List.takeWhile_cons_of_pos (p:=fun x:Sp.Bytes×Unit=>Op.bytesLess x.1 s) h]
   dsimp only
   rw [List.length_cons]
   cases hc:(decide ((r.takeWhile fun x=>Op.bytesLess x.1 s).length<r.length)&&(r.getD (r.takeWhile fun x=>Op.bytesLess x.1 s).length ([],())).1==s) with
   |true=>
    have:(decide ((r.takeWhile fun x=>Op.bytesLess x.1 s).length+1<(x::r).length)&&((x::r).getD ((r.takeWhile fun x=>Op.bytesLess x.1 s).length+1) ([],())).1==s)=true:=by
     rw [← hc,List.length_cons];simp [List.getD_cons_succ]
    rw [this];rfl
   |false=>
    have:(decide ((r.takeWhile fun x=>Op.bytesLess x.1 s).length+1<(x::r).length)&&((x::r).getD ((r.takeWhile fun x=>Op.bytesLess x.1 s).length+1) ([],())).1==s)=false:=by
     rw [← hc,List.length_cons];simp [List.getD_cons_succ]
    rw [this];rfl
 · rw [if_neg h,List.takeWhile_cons_of_neg (p:=fun x:Sp.Bytes×Unit=>Op.bytesLess x.1 s) h]
   by_cases e:x.1=s
   · rw [if_pos e];simp [e]
   · rw [if_neg e];simp [beq_eq_false_iff_ne.2 e]
theorem af5 {s:Sp.Bytes}:∀ {l:Sp.LS},apJ l→apJ (Sp.BR l s)
 |[],_=>List.pairwise_singleton _ _
 |y::r,h=>by
  obtain ⟨h1,h2⟩:=List.pairwise_cons.1 h
  have i1:=af5 (s:=s) h2
  rw [atG]
  by_cases c1:Op.bytesLess y.1 s=true
  · rw [if_pos c1]
    refine List.pairwise_cons.2 ⟨fun z hz=>?_,i1⟩
    rcases (yg z).1 hz with rfl|hz
    · exact c1
    · exact h1 z hz
  · rw [if_neg c1]
    by_cases c2:y.1=s
    · rw [if_pos c2];exact h
    · rw [if_neg c2]
      have c3:Op.bytesLess s y.1=true:=Sp.VB y.1 s (by simpa using c1) c2
      refine List.pairwise_cons.2 ⟨fun z hz=>?_,h⟩
      rcases List.mem_cons.1 hz with rfl|hz
      · exact c3
      · exact Sp.I5 _ _ _ c3 (h1 z hz)
theorem ard {l b:Sp.LS} (h:apJ l) (hs:∀ x∈l,x∈b):l.length≤b.length:=by
 have hn:l.Nodup:=by
  unfold List.Nodup
  exact List.Pairwise.imp (fun {a b} hab e=>Sp.acg hab (congrArg Prod.fst e)) h
 exact aaJ l b hn hs
structure Rd (d:List Sp.aT) (names out:Sp.LS):Prop where
 asc:apJ out
 base:∀ x∈names,x∈out
 reach:∀ x∈out,Sp.Reach d (fun s=>Sp.dQ names s=true) x.1
 sub:∀ x∈out,x∈names++Sp.iY d
theorem Rd.len {d:List Sp.aT} {names out:Sp.LS} (h:Rd d names out):out.length≤names.length+d.length:=by
 have:=ard h.asc h.sub
 rw [List.length_append] at this
 have e:(Sp.iY d).length=d.length:=by unfold Sp.iY;rw [List.length_map]
 omega
theorem Rd.put {d:List Sp.aT} {names out:Sp.LS} (h:Rd d names out) {i:Nat} (hi:i<d.length) {s:Sp.Bytes} (hs:(s,())∈out) (ha:s∈Sp.rQ (Sp.dW d i)):Rd d names (Sp.BR out (Sp.nameOf d i)) where
 asc:=af5 h.asc
 base:=fun x hx=>(yg x).2 (.inr (h.base x hx))
 reach:=fun x hx=>by
  rcases (yg x).1 hx with rfl|hx
  · exact .step (h.reach _ hs) hi ha
  · exact h.reach x hx
 sub:=fun x hx=>by
  rcases (yg x).1 hx with rfl|hx
  · exact List.mem_append.2 (.inr (OE hi))
  · exact h.sub x hx
def shut (d:List Sp.aT) (out:Sp.LS):Prop:=∀ i,i<d.length→∀ s∈Sp.rQ (Sp.dW d i),(s,())∈out→(Sp.nameOf d i,())∈out
def apK (d:List Sp.aT) (out:Sp.LS):Nat:=((List.range d.length).filter fun i=>Sp.dQ out (Sp.nameOf d i)).length
theorem avx (d:List Sp.aT) (out:Sp.LS):apK d out≤d.length:=by
 have:=List.length_filter_le (fun i=>Sp.dQ out (Sp.nameOf d i)) (List.range d.length)
 rw [List.length_range] at this;exact this
theorem avy {d:List Sp.aT} {a b:Sp.LS} (h:∀ x∈a,x∈b) {i:Nat} (hi:i<d.length) (h1:(Sp.nameOf d i,()) ∉ a) (h2:(Sp.nameOf d i,())∈b):apK d a<apK d b:=
 Sp.filter_lt (fun j hj=>Sp.gW.2 (h _ (Sp.gW.1 hj))) ⟨i,List.mem_range.2 hi,Sp.gW.2 h2,by rw [Bool.eq_false_iff];exact fun h'=>h1 (Sp.gW.1 h')⟩
theorem JK:ai prog G iP.e:=by
 refine JL (aj ah ⟨JF,adg,CZ,trivial⟩) (fun ⟨d,names,_⟩ hp=>by obtain ⟨r,h⟩:=QZ d hp.2.1 names hp.2.2;exact ⟨((r,()),()),h⟩) ?_
 intro d names hin hp
 dsimp only [iP] at hp ⊢
 obtain ⟨hd,hd5,hnl⟩:Sp.aV d∧d.length≤5∧names.length≤900:=hp
 refine dM (fun i (x:Sp.LS)=>((x,i,()),())) (fun y=>y.1.2.1) (fun _ _=>rfl) names.length (by omega) (fun n l=>apJ l∧∀ x,x∈l↔x∈names.take n) ⟨List.Pairwise.nil,fun x=>by simp⟩ (fun I μ n l hn hJ next=>?_) fun I μ l hJ=>?_
 · obtain ⟨h1,h2⟩:=hJ
   have hl:=ard h1 fun x hx=>(h2 x).1 hx
   rw [List.length_take] at hl
   dsimp only
   refine dh (by omega) ⟨⟨by omega,by omega⟩,by omega,rfl,next _ ⟨af5 h1,fun x=>?_⟩⟩
   rw [yg,h2,Sp.take_succ' names n ([],()) hn,List.mem_append,List.mem_singleton,Int.toNat_natCast]
   exact Or.comm
 obtain ⟨h1,h2⟩:=hJ
 rw [List.take_length] at h2
 dsimp only
 refine dm (by omega) ⟨fun y=>∃ r:Nat,y.1.2.1=r∧r≤d.length+1∧Rd d names y.1.1∧(shut d y.1.1∨r≤apK d y.1.1),fun y=>((d.length:Int)+1-y.1.2.1).toNat,⟨0,rfl,by omega,⟨h1,fun x hx=>(h2 x).2 hx,fun x hx=> .base (Sp.gW.2 ((h2 x).1 hx)),fun x hx=>List.mem_append.2 (.inl ((h2 x).1 hx))⟩, .inr (Nat.zero_le _)⟩,?_⟩
 rintro ⟨⟨out,_,⟨⟩⟩,⟨⟩⟩ ⟨rd,rfl,hrd,R,hcl⟩
 dsimp only at R hcl ⊢
 refine af (fun hc=>?_) fun hc=>?_
 · have hc:(rd:Int)≤d.length:=gG hc
   have w:IntKind.i64.wrap ((rd:Int)+1)=((rd+1:Nat):Int):=gu _ (by omega)
   rw [w]
   refine dM (fun i (x:Sp.LS)=>((x,i,()),())) (fun y=>y.1.2.1) (fun _ _=>rfl) d.length (by omega) (fun i o=>Rd d names o∧(∀ x∈out,x∈o)∧(∀ j,j<i→∀ s∈Sp.rQ (Sp.dW d j),(s,())∈out→(Sp.nameOf d j,())∈o)∧(shut d out→∀ x∈o,x∈out)) ⟨R,fun x hx=>hx,fun j hj=>by omega,fun _ x hx=>hx⟩ (fun I μ i o hi hJ next=>?_) fun I μ o hJ=>?_
   · obtain ⟨R2,g1,g2,g3⟩:=hJ
     dsimp only
     rw [Int.toNat_natCast]
     refine dh (by omega) ⟨⟨by omega,by omega⟩,qW hd hi,?_⟩
     rintro ⟨⟨r7,⟨⟩⟩,⟨⟩⟩ hr7
     have hr7:Sp.dB r7 (Sp.rQ (Sp.dW d i)):=hr7
     have h7:=hr7.1
     dsimp only
     refine dM (fun k (x:Sp.LS)=>((x,k,()),())) (fun y=>y.1.2.1) (fun _ _=>rfl) r7.length (by omega) (fun k o3=>Rd d names o3∧(∀ x∈o,x∈o3)∧(∀ t,t<k→r7.getD t ([],())∈out→(Sp.nameOf d i,())∈o3)∧(shut d out→∀ x∈o3,x∈out)) ⟨R2,fun x hx=>hx,fun t ht=>by omega,g3⟩ (fun I μ k o3 hk hJ Na=>?_) fun I μ o3 hJ=>?_
     · obtain ⟨R3,k1,k2,k3⟩:=hJ
       have hl3:=R3.len
       have hmem:r7.getD k ([],())∈r7:=getD_mem (d:=(([]:Sp.Bytes),())) hk
       have hask:(r7.getD k ([],())).1∈Sp.rQ (Sp.dW d i):=(hr7.2 _).1 hmem
       dsimp only
       rw [Int.toNat_natCast]
       refine dh (by omega) ⟨⟨by omega,by omega⟩,trivial,af (fun h=>⟨⟨by omega,by omega⟩,by omega,rfl,Na _ ⟨R3.put hi (Sp.gW.1 h) hask,fun x hx=>(yg x).2 (.inr (k1 x hx)),fun t _ _=>(yg _).2 (.inl rfl),fun hs x hx=>?_⟩⟩) fun h=>⟨rfl,Na _ ⟨R3,k1,fun t ht hto=>?_,k3⟩⟩⟩
       · rcases (yg x).1 hx with rfl|hx
         · exact hs i hi _ hask (k3 hs _ (Sp.gW.1 h))
         · exact k3 hs x hx
       · rcases Nat.lt_or_ge t k with h'|h'
         · exact k2 t h' hto
         · have:t=k:=by omega
           subst this
           have h':Sp.dQ o3 (r7.getD t ([],())).1=true:=Sp.gW.2 (k1 _ (g1 _ hto))
           have h:Sp.dQ o3 (r7.getD t ([],())).1=false:=h
           rw [h] at h';cases h'
     · obtain ⟨R3,k1,k2,k3⟩:=hJ
       dsimp only
       refine dm (by omega) ⟨rfl,next _ ⟨R3,fun x hx=>k1 x (g1 x hx),fun j hj s hs hso=>?_,k3⟩⟩
       rcases Nat.lt_or_ge j i with h'|h'
       · exact k1 _ (g2 j h' s hs hso)
       · have:j=i:=by omega
         subst this
         obtain ⟨t,ht,e⟩:=List.getElem_of_mem ((hr7.2 s).2 hs)
         have hat:r7.getD t ([],())=(s,()):=by rw [List.getD_eq_getElem?_getD,List.getElem?_eq_getElem ht,e];rfl
         exact k2 t ht (by rw [hat];exact hso)
   · obtain ⟨R2,g1,g2,g3⟩:=hJ
     dsimp only
     refine dm (by omega) ⟨rfl,⟨rd+1,rfl,by omega,R2,?_⟩,by omega⟩
     by_cases hs:shut d out
     · left
       intro i hi s hs' hso
       exact g1 _ (hs i hi s hs' (g3 hs _ hso))
     · right
       rcases hcl with hcl|hcl
       · exact (hs hcl).elim
       · obtain ⟨i,hi⟩:=Classical.not_forall.1 hs
         have hi1:i<d.length:=Classical.byContradiction fun h=>hi fun h'=>(h h').elim
         obtain ⟨s,hs2⟩:=Classical.not_forall.1 fun h=>hi fun _=>h
         have hs3:s∈Sp.rQ (Sp.dW d i):=Classical.byContradiction fun h=>hs2 fun h'=>(h h').elim
         have hs4:(s,())∈out:=Classical.byContradiction fun h=>hs2 fun _ h'=>(h h').elim
         have hs5:(Sp.nameOf d i,()) ∉ out:=fun h=>hs2 fun _ _=>h
         have:=avy g1 hi1 hs5 (g2 i hi1 s hs3 hs4)
         show rd+1≤apK d o
         omega
 · have hc:¬ (rd:Int)≤d.length:=iw hc
   have hl:=R.len
   have hs:shut d out:=by
    rcases hcl with hcl|hcl
    · exact hcl
    · have:=avx d out;omega
   refine ⟨by rw [bU];omega,by show out.length≤1000;omega,fun s=>?_⟩
   rw [Sp.gW]
   refine ⟨fun h=>R.reach _ h,fun h=>?_⟩
   show (s,())∈out
   induction h with
   |base hb=>exact R.base _ (Sp.gW.1 hb)
   |step _ hj ha ih=>exact hs _ hj _ ha ih
theorem VD:ai prog G mJ.e:=by
 refine VE (aj ah ⟨JK,OH,trivial⟩) (fun ⟨d,f,g,_⟩ hp=>by obtain ⟨r,h⟩:=aq8 d hp.2.1 f g;exact ⟨((r,()),()),h⟩) ?_
 intro d a0 a1 a2 a3 a b0 b1 b2 b3 b hin hp
 dsimp only [mJ] at hp ⊢
 obtain ⟨h1,h2,h3,h4,h5⟩:=hp
 exact ⟨⟨h1,h3,h4,h5⟩,fun r0 hr0=>⟨⟨h1,h2,by have:=hr0.1;omega⟩,fun r1 hr1=>atE hr0 hr1⟩⟩
theorem aqw {c:Sp.jB} {s:Sp.bZ} {d:List Sp.aT} (nm:Sp.Bytes→Bool) (h:(Sp.aF d&&Sp.aH s)=true):∃ c' df,Sp.turned c s d nm c' df true:=by
 obtain ⟨c',df,g⟩:=aiP c s d nm
 rw [h] at g;exact ⟨c',df,g⟩
theorem aiZ:ai prog G vI.e:=by
 refine ai0 (aj ah ⟨X7,aav,trivial⟩) (fun ⟨c,s,d,names,_⟩ hp=>by obtain ⟨c',df,h⟩:=aqw (c:=c) (Sp.dQ names) hp.2.2.2;exact ⟨((((c'.1,c'.2.1,c'.2.2.1,c'.2.2.2.1,c'.2.2.2.2.1,()),df,()),())),h⟩) ?_
 intro a l nx d0 r0 sa sl sn d names hin hp
 dsimp only [vI] at hp ⊢
 obtain ⟨hc,hs,hd,hz⟩:=hp
 have hr:Sp.bH r0:=hc.2.2
 refine ⟨⟨hs,hd,hr⟩,?_⟩
 rintro ⟨⟨out,ok,⟨⟩⟩,⟨⟩⟩ ⟨e1,e2⟩
 have e1:ok=(Sp.aF d&&Sp.aH (sa,sl,sn,())):=e1
 have e2:ok=true→Sp.iD sl d r0 (Sp.dQ names) out:=e2
 have hev:=e2 (e1.trans hz)
 exact ⟨⟨hr,J4 hev hd.1 hs.2.1 hr⟩,fun r3 hr3=>⟨hz.symm,fun _=>⟨rfl,rfl,hev,hr3⟩,fun h=>by cases h⟩⟩
end Go.Proofs.Tryz
