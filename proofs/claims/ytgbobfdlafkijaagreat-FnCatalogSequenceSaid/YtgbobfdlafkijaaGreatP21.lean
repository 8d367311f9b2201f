import Derived.Test.YtgbobfdlafkijaaGreatP20
namespace Go.Proofs.Tryz
open Go Go.Fw Go.IntWalk
theorem without_take (a b:List (Int×Unit)) {n:Nat} (h:n<a.length):(a.take (n+1)).filter (fun x=>!Sp.gu b x.1)=(a.take n).filter (fun x=>!Sp.gu b x.1)++(bif !Sp.gu b (a.getD n (0,())).1 then [a.getD n (0,())] else []):=lY (fun x:Int×Unit=>!Sp.gu b x.1) (0,()) a h
theorem avG:aG prog G JE Lh:=by
 refine avH (aB (l:=[(tu, .pure uy)]) (au ah) (by simp only [List.forall_mem_cons];exact ⟨⟨Yz,WC⟩,fun x hx=>by cases hx⟩)) (fun ⟨a,b,_⟩ _=>⟨((Sp.without b a,Sp.without a b,()),()),⟨rfl,rfl⟩⟩) ?_
 intro a b hin hp
 obtain ⟨ha,hb⟩:a.length≤1000∧b.length≤1000:=hp
 have fl:∀ (p:Int×Unit→Bool) (l:List (Int×Unit)) n,((l.take n).filter p).length≤n:=fun p l n=>by
  have:=List.length_filter_le p (l.take n)
  rw [List.length_take] at this;omega
 refine eX (fun i (x:List (Int×Unit))=>(((),i,()),x,())) (fun y=>y.1.2.1) (fun _ _=>rfl) b.length (by omega) (fun n l=>l=(b.take n).filter fun x=>!Sp.gu a x.1) rfl (fun I μ n l hn hJ next=>?_) fun I μ l hJ=>?_
 · subst hJ
   have hl:=fl (fun x=>!Sp.gu a x.1) b n
   have step:=without_take b a hn
   dsimp only
   refine dW (by omega) ⟨⟨by omega,by omega⟩,trivial,af (fun h=>⟨⟨by omega,by omega⟩,by rw [dS];simp only [List.length_cons,List.length_nil];exact Nat.le_trans (Nat.add_le_add_right hl _) (by omega),rfl,next _ ?_⟩) fun h=>⟨rfl,next _ ?_⟩⟩
   · have h:(!Sp.gu a (b.getD n (0,())).1)=true:=h
     rw [step,h];rfl
   · have h:(!Sp.gu a (b.getD n (0,())).1)=false:=h
     rw [step,h];simp
 · subst hJ
   rw [List.take_length]
   dsimp only
   refine dX (by omega) (eX (fun i (x:List (Int×Unit))=>(((),i,()),x,())) (fun y=>y.1.2.1) (fun _ _=>rfl) a.length (by omega) (fun n l=>l=(a.take n).filter fun x=>!Sp.gu b x.1) rfl (fun I μ n l hn hJ next=>?_) fun I μ l hJ=>?_)
   · subst hJ
     have hl:=fl (fun x=>!Sp.gu b x.1) a n
     have step:=without_take a b hn
     dsimp only
     refine dW (by omega) ⟨⟨by omega,by omega⟩,trivial,af (fun h=>⟨⟨by omega,by omega⟩,by rw [dS];simp only [List.length_cons,List.length_nil];exact Nat.le_trans (Nat.add_le_add_right hl _) (by omega),rfl,next _ ?_⟩) fun h=>⟨rfl,next _ ?_⟩⟩
     · have h:(!Sp.gu b (a.getD n (0,())).1)=true:=h
       rw [step,h];rfl
     · have h:(!Sp.gu b (a.getD n (0,())).1)=false:=h
       rw [step,h];simp
   · subst hJ
     rw [List.take_length]
     dsimp only
     exact dX (by omega) ⟨rfl,rfl⟩
theorem ajA:aG prog G Az Eo:=by
 refine ajB (aB (l:=[(JE, .eff (ax Cm) Lh),(oM, .pure nU)]) (au ah) (by simp only [List.forall_mem_cons];exact ⟨⟨avG,arQ⟩,⟨Qw,OU⟩,fun x hx=>by cases hx⟩)) (fun ⟨a,b,_⟩ _=>⟨((Sp.O5 a b,()),()),rfl⟩) ?_
 intro a b hin hp
 obtain ⟨ha,hb⟩:Sp.aZ a∧Sp.aZ b:=hp
 have hbl:=hb.1
 refine eX (fun i (x:List Sp.adx)=>(((),i,()),x,())) (fun y=>y.1.2.1) (fun _ _=>rfl) b.length (by omega) (fun n l=>l=((b.take n).map (Sp.Bf a)).filter Sp.Ie) rfl (fun I μ n l hn hJ next=>?_) fun I μ l hJ=>?_
 · subst hJ
   have hl:(((b.take n).map (Sp.Bf a)).filter Sp.Ie).length≤n:=by
    have:=List.length_filter_le Sp.Ie ((b.take n).map (Sp.Bf a))
    rw [List.length_map,List.length_take] at this;omega
   have step:=avv a b hn
   have l1:=ahi ha (b.getD n vG).1
   have l2:(b.getD n vG).2.1.length≤1000:=Ub hb hn
   dsimp only
   refine dW (by omega) ⟨⟨by omega,by omega⟩,ha,⟨by omega,by omega⟩,⟨l1,l2⟩,?_⟩
   rintro ⟨⟨x,y,⟨⟩⟩,⟨⟩⟩ ⟨e1,e2⟩
   have e1:x=Sp.without (b.getD n vG).2.1 (Sp.gW a (b.getD n vG).1):=e1
   have e2:y=Sp.without (Sp.gW a (b.getD n vG).1) (b.getD n vG).2.1:=e2
   have hd:Sp.Bf a (b.getD n vG)=((b.getD n vG).1,x,y,()):=by rw [e1,e2];rfl
   have hz:Sp.Ie (Sp.Bf a (b.getD n vG))=decide (0<x.length+y.length):=by rw [hd];rfl
   have small:(((b.take n).map (Sp.Bf a)).filter Sp.Ie).length+1≤big:=by rw [dS];omega
   dsimp only
   refine af (fun h=>⟨⟨by omega,by omega⟩,small,rfl,next _ ?_⟩) fun h=>af (fun h2=>⟨⟨by omega,by omega⟩,small,rfl,next _ ?_⟩) fun h2=>⟨rfl,next _ ?_⟩
   · have h:(x.length:Int)>0:=ji h
     rw [step,hz,decide_eq_true (by omega),hd];rfl
   · have h2:(y.length:Int)>0:=ji h2
     rw [step,hz,decide_eq_true (by omega),hd];rfl
   · have h:¬ (x.length:Int)>0:=jl h
     have h2:¬ (y.length:Int)>0:=jl h2
     rw [step,hz,decide_eq_false (by omega)];simp
 · subst hJ
   rw [List.take_length]
   dsimp only
   exact dX (by omega) rfl
theorem aFH {α:Type} (p:α→Bool) (d:α) (l:List α) {n:Nat} (h:n<l.length):(l.take (n+1)).any p=((l.take n).any p||p (l.getD n d)):=by
 rw [Sp.take_succ' l n d h,List.any_append];simp
theorem aGz {r0 r3:Sp.LS} {f g:Sp.aT} {q:List Sp.bY} (h0:Sp.cO r0 (Sp.jU f g)) (h3:Sp.cO r3 (Sp.mY q)):(r3.any fun x=>Sp.dY r0 x.1)=(Sp.mY q).any fun t=>(Sp.jU f g).contains t:=by
 rw [← aEY h0 h3,Bool.eq_iff_iff,List.any_eq_true,List.any_eq_true]
 exact ⟨fun ⟨x,hx,h⟩=>⟨x,Sp.jk.1 h,Sp.jk.2 hx⟩,fun ⟨x,hx,h⟩=>⟨x,Sp.jk.1 h,Sp.jk.2 hx⟩⟩
theorem acf:aG prog G sV xw:=by
 refine acg (aB (l:=[(uV, .pure tZ),(DI, .eff (ax wI) FX),(Fe, .pure GZ),(zi, .eff (ax rW) Ce),(Hg, .pure I5)]) (au ah) (by simp only [List.forall_mem_cons];exact ⟨⟨Xt,Vu⟩,⟨amw,ai1⟩,⟨apc,alU⟩,⟨ahe,afl⟩,⟨asi,aoG⟩,fun x hx=>by cases hx⟩)) (fun ⟨d,f,g,_⟩ hp=>by obtain ⟨r,h⟩:=aef d f g;exact ⟨((r,()),()),h⟩) ?_
 intro d a0 a1 a2 a3 a b0 b1 b2 b3 b hin hp
 obtain ⟨hd,hf,hg,hab⟩:Sp.aO d∧Sp.bH (a0,a1,a2,a3,a,())∧Sp.bH (b0,b1,b2,b3,b,())∧a.length+b.length≤1000:=hp
 have hl:=hd.1
 refine af (fun h=>⟨hl,aee (bne_iff_ne.1 h)⟩) fun h=>⟨⟨hf,hg,hab⟩,?_⟩
 have hid:a0=b0:=aBu h
 rintro ⟨⟨r0,⟨⟩⟩,⟨⟩⟩ hr0
 have hr0:Sp.cO r0 (Sp.jU (a0,a1,a2,a3,a,()) (b0,b1,b2,b3,b,())):=hr0
 dsimp only
 generalize hF:((a0,a1,a2,a3,a,()):Sp.aT)=F at*
 generalize hG:((b0,b1,b2,b3,b,()):Sp.aT)=G at*
 have aDR:(a3 !=b3)=(F.2.2.2.1 !=G.2.2.2.1):=by rw [← hF,← hG]
 refine eX (fun i (x:Sp.LS)=>(((),i,()),x,())) (fun y=>y.1.2.1) (fun _ _=>rfl) d.length (by omega) (fun n l=>l=((d.take n).filter (qW F G)).map fun x=>(x.1,())) rfl (fun I μ n l hn hJ next=>?_) fun I μ l hJ=>?_
 · subst hJ
   have hl:=J3 (qW F G) (fun x:Sp.aY=>(x.1,())) d n
   dsimp only
   rw [aDR]
   refine dW (by omega) ⟨fun y=>y.1.1=(Sp.linked (d.getD n II).2.1&&F.2.2.2.1 !=G.2.2.2.1),af (fun h=>⟨⟨by omega,by omega⟩,trivial,rfl,?_⟩) fun h=>⟨rfl,?_⟩,?_⟩
   · rw [h,Bool.and_true];rfl
   · rw [h,Bool.and_false]
   rintro ⟨⟨hit,⟨⟩⟩,⟨⟩⟩ hhit
   have hhit:hit=(Sp.linked (d.getD n II).2.1&&F.2.2.2.1 !=G.2.2.2.1):=hhit
   refine ⟨⟨by omega,by omega⟩,vN hd hn,?_⟩
   rintro ⟨⟨r6,⟨⟩⟩,⟨⟩⟩ hr6
   have hr6:Sp.cO r6 (Sp.mY (d.getD n II).2.1):=hr6
   have h6:=hr6.1
   dsimp only
   refine eX (fun i (x:Bool)=>((x,i,()),())) (fun y=>y.1.2.1) (fun _ _=>rfl) r6.length (by omega) (fun k x=>x=(hit||(r6.take k).any fun t=>Sp.dY r0 t.1)) (by simp) (fun I μ k x hk hJ aav=>?_) fun I μ x hJ=>?_
   · have step:=aFH (fun t:Sp.Bytes×Unit=>Sp.dY r0 t.1) ([],()) r6 hk
     dsimp only
     refine dW (by omega) (af (fun h=>⟨rfl,aav _ ?_⟩) fun h=>⟨⟨by omega,by omega⟩,trivial,rfl,aav _ ?_⟩)
     · have h:x=true:=h
       rw [h] at hJ
       rw [step,← Bool.or_assoc,← hJ];rfl
     · have h:x=false:=h
       rw [h] at hJ
       rw [step,← Bool.or_assoc,← hJ,Bool.false_or,Int.toNat_natCast]
   · rw [List.take_length,aGz hr0 hr6] at hJ
     have ht:x=qW F G (d.getD n II):=by
      rw [hJ,hhit];unfold qW;rw [Bool.or_comm]
     dsimp only
     refine dX (by omega) (af (fun h=>⟨⟨by omega,by omega⟩,by rw [dS];simp only [List.length_cons,List.length_nil];omega,rfl,next _ ?_⟩) fun h=>⟨rfl,next _ ?_⟩)
     · have h:x=true:=h
       rw [lY (qW F G) II d hn,← ht,h,List.map_append];rfl
     · have h:x=false:=h
       rw [lY (qW F G) II d hn,← ht,h,List.map_append];simp
 · subst hJ
   rw [List.take_length]
   dsimp only
   exact dX (by omega) (ab7 (by rw [← hF,← hG];exact hid))
def aBz (l:Sp.LS):Prop:=l.Pairwise fun x y=>Op.bytesLess x.1 y.1=true
theorem aE0 {x:Sp.Bytes×Unit} {r:Sp.LS} {s:Sp.Bytes}:Sp.Il (x::r) s=if Op.bytesLess x.1 s=true then x::Sp.Il r s else if x.1=s then x::r else (s,())::x::r:=by
 unfold Sp.Il
 by_cases h:Op.bytesLess x.1 s=true
 · rw [if_pos h,List.takeWhile_cons_of_pos (p:=fun x:Sp.Bytes×Unit=>Op.bytesLess x.1 s) h]
   dsimp only
   rw [List.length_cons]
   cases hc:(decide ((r.takeWhile fun x=>Op.bytesLess x.1 s).length<r.length)&&(r.getD (r.takeWhile fun x=>Op.bytesLess x.1 s).length ([],())).1==s) with
   |true=>
    have:(decide ((r.takeWhile fun x=>Op.bytesLess x.1 s).length+1<(x::r).length)&&((x::r).getD ((r.takeWhile fun x=>Op.bytesLess x.1 s).length+1) ([],())).1==s)=true:=by
     rw [← hc,List.length_cons];simp [List.getD_cons_succ]
    rw [this];rfl
   |false=>
    have:(decide ((r.takeWhile fun x=>Op.bytesLess x.1 s).length+1<(x::r).length)&&((x::r).getD ((r.takeWhile fun x=>Op.bytesLess x.1 s).length+1) ([],())).1==s)=false:=by
     rw [← hc,List.length_cons];simp [List.getD_cons_succ]
    rw [this];rfl
 · rw [if_neg h,List.takeWhile_cons_of_neg (p:=fun x:Sp.Bytes×Unit=>Op.bytesLess x.1 s) h]
   by_cases e:x.1=s
   · rw [if_pos e];simp [e]
   · rw [if_neg e];simp [beq_eq_false_iff_ne.2 e]
theorem asA {s:Sp.Bytes}:∀ {l:Sp.LS},aBz l→aBz (Sp.Il l s)
 |[],_=>List.pairwise_singleton _ _
 |y::r,h=>by
  obtain ⟨h1,h2⟩:=List.pairwise_cons.1 h
  have i1:=asA (s:=s) h2
  rw [aE0]
  by_cases c1:Op.bytesLess y.1 s=true
  · rw [if_pos c1]
    refine List.pairwise_cons.2 ⟨fun z hz=>?_,i1⟩
    rcases (Dk z).1 hz with rfl|hz
    · exact c1
    · exact h1 z hz
  · rw [if_neg c1]
    by_cases c2:y.1=s
    · rw [if_pos c2];exact h
    · rw [if_neg c2]
      have c3:Op.bytesLess s y.1=true:=Sp.ahm y.1 s (by simpa using c1) c2
      refine List.pairwise_cons.2 ⟨fun z hz=>?_,h⟩
      rcases List.mem_cons.1 hz with rfl|hz
      · exact c3
      · exact Sp.Ph _ _ _ c3 (h1 z hz)
theorem aCS {l b:Sp.LS} (h:aBz l) (hs:∀ x∈l,x∈b):l.length≤b.length:=by
 have hn:l.Nodup:=by
  unfold List.Nodup
  exact List.Pairwise.imp (fun {a b} hab e=>Sp.an3 hab (congrArg Prod.fst e)) h
 exact amB l b hn hs
structure Rd (d:List Sp.aY) (names out:Sp.LS):Prop where
 asc:aBz out
 base:∀ x∈names,x∈out
 reach:∀ x∈out,Sp.Reach d (fun s=>Sp.dY names s=true) x.1
 sub:∀ x∈out,x∈names++Sp.jD d
theorem Rd.len {d:List Sp.aY} {names out:Sp.LS} (h:Rd d names out):out.length≤names.length+d.length:=by
 have:=aCS h.asc h.sub
 rw [List.length_append] at this
 have e:(Sp.jD d).length=d.length:=by unfold Sp.jD;rw [List.length_map]
 omega
theorem Rd.put {d:List Sp.aY} {names out:Sp.LS} (h:Rd d names out) {i:Nat} (hi:i<d.length) {s:Sp.Bytes} (hs:(s,())∈out) (ha:s∈Sp.sQ (Sp.fK d i)):Rd d names (Sp.Il out (Sp.nameOf d i)) where
 asc:=asA h.asc
 base:=fun x hx=>(Dk x).2 (.inr (h.base x hx))
 reach:=fun x hx=>by
  rcases (Dk x).1 hx with rfl|hx
  · exact .step (h.reach _ hs) hi ha
  · exact h.reach x hx
 sub:=fun x hx=>by
  rcases (Dk x).1 hx with rfl|hx
  · exact List.mem_append.2 (.inr (acd hi))
  · exact h.sub x hx
def shut (d:List Sp.aY) (out:Sp.LS):Prop:=∀ i,i<d.length→∀ s∈Sp.sQ (Sp.fK d i),(s,())∈out→(Sp.nameOf d i,())∈out
def aBA (d:List Sp.aY) (out:Sp.LS):Nat:=((List.range d.length).filter fun i=>Sp.dY out (Sp.nameOf d i)).length
theorem aGA (d:List Sp.aY) (out:Sp.LS):aBA d out≤d.length:=by
 have:=List.length_filter_le (fun i=>Sp.dY out (Sp.nameOf d i)) (List.range d.length)
 rw [List.length_range] at this;exact this
theorem aGB {d:List Sp.aY} {a b:Sp.LS} (h:∀ x∈a,x∈b) {i:Nat} (hi:i<d.length) (h1:(Sp.nameOf d i,()) ∉ a) (h2:(Sp.nameOf d i,())∈b):aBA d a<aBA d b:=
 Sp.filter_lt (fun j hj=>Sp.jk.2 (h _ (Sp.jk.1 hj))) ⟨i,List.mem_range.2 hi,Sp.jk.2 h2,by rw [Bool.eq_false_iff];exact fun h'=>h1 (Sp.jk.1 h')⟩
theorem Xy:aG prog G nZ qE:=by
 refine Xz (aB (l:=[(uV, .pure tZ),(Fb, .eff (ax yC) GY),(lI, .pure kS)]) (au ah) (by simp only [List.forall_mem_cons];exact ⟨⟨Xt,Vu⟩,⟨apa,alT⟩,⟨J4,H7⟩,fun x hx=>by cases hx⟩)) (fun ⟨d,names,_⟩ hp=>by obtain ⟨r,h⟩:=aeg d hp.2.1 names hp.2.2;exact ⟨((r,()),()),h⟩) ?_
 intro d names hin hp
 obtain ⟨hd,hd5,hnl⟩:Sp.aO d∧d.length≤5∧names.length≤900:=hp
 refine eX (fun i (x:Sp.LS)=>((x,i,()),())) (fun y=>y.1.2.1) (fun _ _=>rfl) names.length (by omega) (fun n l=>aBz l∧∀ x,x∈l↔x∈names.take n) ⟨List.Pairwise.nil,fun x=>by simp⟩ (fun I μ n l hn hJ next=>?_) fun I μ l hJ=>?_
 · obtain ⟨h1,h2⟩:=hJ
   have hl:=aCS h1 fun x hx=>(h2 x).1 hx
   rw [List.length_take] at hl
   dsimp only
   refine dW (by omega) ⟨⟨by omega,by omega⟩,by omega,rfl,next _ ⟨asA h1,fun x=>?_⟩⟩
   rw [Dk,h2,Sp.take_succ' names n ([],()) hn,List.mem_append,List.mem_singleton,Int.toNat_natCast]
   exact Or.comm
 obtain ⟨h1,h2⟩:=hJ
 rw [List.take_length] at h2
 dsimp only
 refine dX (by omega) ⟨fun y=>∃ r:Nat,y.1.2.1=r∧r≤d.length+1∧Rd d names y.1.1∧(shut d y.1.1∨r≤aBA d y.1.1),fun y=>((d.length:Int)+1-y.1.2.1).toNat,⟨0,rfl,by omega,⟨h1,fun x hx=>(h2 x).2 hx,fun x hx=> .base (Sp.jk.2 ((h2 x).1 hx)),fun x hx=>List.mem_append.2 (.inl ((h2 x).1 hx))⟩, .inr (Nat.zero_le _)⟩,?_⟩
 rintro ⟨⟨out,_,⟨⟩⟩,⟨⟩⟩ ⟨rd,rfl,hrd,R,hcl⟩
 dsimp only at R hcl ⊢
 refine af (fun hc=>?_) fun hc=>?_
 · have hc:(rd:Int)≤d.length:=ji hc
   have w:IntKind.i64.wrap ((rd:Int)+1)=((rd+1:Nat):Int):=iL _ (by omega)
   rw [w]
   refine eX (fun i (x:Sp.LS)=>((x,i,()),())) (fun y=>y.1.2.1) (fun _ _=>rfl) d.length (by omega) (fun i o=>Rd d names o∧(∀ x∈out,x∈o)∧(∀ j,j<i→∀ s∈Sp.sQ (Sp.fK d j),(s,())∈out→(Sp.nameOf d j,())∈o)∧(shut d out→∀ x∈o,x∈out)) ⟨R,fun x hx=>hx,fun j hj=>by omega,fun _ x hx=>hx⟩ (fun I μ i o hi hJ next=>?_) fun I μ o hJ=>?_
   · obtain ⟨R2,g1,g2,g3⟩:=hJ
     dsimp only
     rw [Int.toNat_natCast]
     refine dW (by omega) ⟨⟨by omega,by omega⟩,vN hd hi,?_⟩
     rintro ⟨⟨r7,⟨⟩⟩,⟨⟩⟩ hr7
     have hr7:Sp.cO r7 (Sp.sQ (Sp.fK d i)):=hr7
     have h7:=hr7.1
     dsimp only
     refine eX (fun k (x:Sp.LS)=>((x,k,()),())) (fun y=>y.1.2.1) (fun _ _=>rfl) r7.length (by omega) (fun k o3=>Rd d names o3∧(∀ x∈o,x∈o3)∧(∀ t,t<k→r7.getD t ([],())∈out→(Sp.nameOf d i,())∈o3)∧(shut d out→∀ x∈o3,x∈out)) ⟨R2,fun x hx=>hx,fun t ht=>by omega,g3⟩ (fun I μ k o3 hk hJ aav=>?_) fun I μ o3 hJ=>?_
     · obtain ⟨R3,k1,k2,k3⟩:=hJ
       have hl3:=R3.len
       have hmem:r7.getD k ([],())∈r7:=getD_mem (d:=(([]:Sp.Bytes),())) hk
       have hask:(r7.getD k ([],())).1∈Sp.sQ (Sp.fK d i):=(hr7.2 _).1 hmem
       dsimp only
       rw [Int.toNat_natCast]
       refine dW (by omega) ⟨⟨by omega,by omega⟩,trivial,af (fun h=>⟨⟨by omega,by omega⟩,by omega,rfl,aav _ ⟨R3.put hi (Sp.jk.1 h) hask,fun x hx=>(Dk x).2 (.inr (k1 x hx)),fun t _ _=>(Dk _).2 (.inl rfl),fun hs x hx=>?_⟩⟩) fun h=>⟨rfl,aav _ ⟨R3,k1,fun t ht hto=>?_,k3⟩⟩⟩
       · rcases (Dk x).1 hx with rfl|hx
         · exact hs i hi _ hask (k3 hs _ (Sp.jk.1 h))
         · exact k3 hs x hx
       · rcases Nat.lt_or_ge t k with h'|h'
         · exact k2 t h' hto
         · have:t=k:=by omega
           subst this
           have h':Sp.dY o3 (r7.getD t ([],())).1=true:=Sp.jk.2 (k1 _ (g1 _ hto))
           have h:Sp.dY o3 (r7.getD t ([],())).1=false:=h
           rw [h] at h';cases h'
     · obtain ⟨R3,k1,k2,k3⟩:=hJ
       dsimp only
       refine dX (by omega) ⟨rfl,next _ ⟨R3,fun x hx=>k1 x (g1 x hx),fun j hj s hs hso=>?_,k3⟩⟩
       rcases Nat.lt_or_ge j i with h'|h'
       · exact k1 _ (g2 j h' s hs hso)
       · have:j=i:=by omega
         subst this
         obtain ⟨t,ht,e⟩:=List.getElem_of_mem ((hr7.2 s).2 hs)
         have hat:r7.getD t ([],())=(s,()):=by rw [List.getD_eq_getElem?_getD,List.getElem?_eq_getElem ht,e];rfl
         exact k2 t ht (by rw [hat];exact hso)
   · obtain ⟨R2,g1,g2,g3⟩:=hJ
     dsimp only
     refine dX (by omega) ⟨rfl,⟨rd+1,rfl,by omega,R2,?_⟩,by omega⟩
     by_cases hs:shut d out
     · left
       intro i hi s hs' hso
       exact g1 _ (hs i hi s hs' (g3 hs _ hso))
     · right
       rcases hcl with hcl|hcl
       · exact (hs hcl).elim
       · obtain ⟨i,hi⟩:=Classical.not_forall.1 hs
         have hi1:i<d.length:=Classical.byContradiction fun h=>hi fun h'=>(h h').elim
         obtain ⟨s,hs2⟩:=Classical.not_forall.1 fun h=>hi fun _=>h
         have hs3:s∈Sp.sQ (Sp.fK d i):=Classical.byContradiction fun h=>hs2 fun h'=>(h h').elim
         have hs4:(s,())∈out:=Classical.byContradiction fun h=>hs2 fun _ h'=>(h h').elim
         have hs5:(Sp.nameOf d i,()) ∉ out:=fun h=>hs2 fun _ _=>h
         have:=aGB g1 hi1 hs5 (g2 i hi1 s hs3 hs4)
         show rd+1≤aBA d o
         omega
 · have hc:¬ (rd:Int)≤d.length:=jl hc
   have hl:=R.len
   have hs:shut d out:=by
    rcases hcl with hcl|hcl
    · exact hcl
    · have:=aGA d out;omega
   refine ⟨by rw [dS];omega,by show out.length≤1000;omega,fun s=>?_⟩
   rw [Sp.jk]
   refine ⟨fun h=>R.reach _ h,fun h=>?_⟩
   show (s,())∈out
   induction h with
   |base hb=>exact R.base _ (Sp.jk.1 hb)
   |step _ hj ha ih=>exact hs _ hj _ ha ih
theorem ahn:aG prog G zl CJ:=by
 refine aho (aB (l:=[(nZ, .eff (ax kP) qE),(sV, .eff (ax ng) xw)]) (au ah) (by simp only [List.forall_mem_cons];exact ⟨⟨Xy,VR⟩,⟨acf,aan⟩,fun x hx=>by cases hx⟩)) (fun ⟨d,f,g,_⟩ hp=>by obtain ⟨r,h⟩:=aCM d hp.2.1 f g;exact ⟨((r,()),()),h⟩) ?_
 intro d a0 a1 a2 a3 a b0 b1 b2 b3 b hin hp
 obtain ⟨h1,h2,h3,h4,h5⟩:=hp
 exact ⟨⟨h1,h3,h4,h5⟩,fun r0 hr0=>⟨⟨h1,h2,by have:=hr0.1;omega⟩,fun r1 hr1=>aEZ hr0 hr1⟩⟩
theorem aCe {c:Sp.EG} {s:Sp.eG} {d:List Sp.aY} (nm:Sp.Bytes→Bool) (h:(Sp.aF d&&Sp.aH s)=true):∃ c' df,Sp.turned c s d nm c' df true:=by
 obtain ⟨c',df,g⟩:=avy c s d nm
 rw [h] at g;exact ⟨c',df,g⟩
theorem avI:aG prog G JF Ll:=by
 refine avJ (aB (l:=[(Az, .eff (ax uH) Eo),(DL, .eff (ax wE) FU)]) (au ah) (by simp only [List.forall_mem_cons];exact ⟨⟨ajA,agN⟩,⟨amk,aiY⟩,fun x hx=>by cases hx⟩)) (fun ⟨c,s,d,names,_⟩ hp=>by obtain ⟨c',df,h⟩:=aCe (c:=c) (Sp.dY names) hp.2.2.2;exact ⟨((((c'.1,c'.2.1,c'.2.2.1,c'.2.2.2.1,c'.2.2.2.2.1,()),df,()),())),h⟩) ?_
 intro a l nx d0 r0 sa sl sn d names hin hp
 obtain ⟨hc,hs,hd,hz⟩:=hp
 have hr:Sp.aZ r0:=hc.2.2
 refine ⟨⟨hs,hd,hr⟩,?_⟩
 rintro ⟨⟨out,ok,⟨⟩⟩,⟨⟩⟩ ⟨e1,e2⟩
 have e1:ok=(Sp.aF d&&Sp.aH (sa,sl,sn,())):=e1
 have e2:ok=true→Sp.iO sl d r0 (Sp.dY names) out:=e2
 have hev:=e2 (e1.trans hz)
 exact ⟨⟨hr,XM hev hd.1 hs.2.1 hr⟩,fun r3 hr3=>⟨hz.symm,fun _=>⟨rfl,rfl,hev,hr3⟩,fun h=>by cases h⟩⟩
end Go.Proofs.Tryz
