import Derived.Test.YtlbkigkbmeckbaaGreatP20
namespace Go.Proofs.Tryz
open Go Go.Fw Go.IntWalk
theorem without_take (a b:List (Int×Unit)) {n:Nat} (h:n<a.length):(a.take (n+1)).filter (fun x=>!Sp.dw b x.1)=(a.take n).filter (fun x=>!Sp.dw b x.1)++(bif !Sp.dw b (a.getD n (0,())).1 then [a.getD n (0,())] else []):=jg (fun x:Int×Unit=>!Sp.dw b x.1) (0,()) a h
theorem ahJ:ai prog G uV.e:=by
 refine ahK (aj ah ⟨Eg,trivial⟩) (fun ⟨a,b,_⟩ _=>⟨((Sp.without b a,Sp.without a b,()),()),⟨rfl,rfl⟩⟩) ?_
 intro a b hin hp
 dsimp only [uV] at hp ⊢
 obtain ⟨ha,hb⟩:a.length≤1000∧b.length≤1000:=hp
 have fl:∀ (p:Int×Unit→Bool) (l:List (Int×Unit)) n,((l.take n).filter p).length≤n:=fun p l n=>by
  have:=List.length_filter_le p (l.take n)
  rw [List.length_take] at this;omega
 refine dI (fun i (x:List (Int×Unit))=>(((),i,()),x,())) (fun y=>y.1.2.1) (fun _ _=>rfl) b.length (by omega) (fun n l=>l=(b.take n).filter fun x=>!Sp.dw a x.1) rfl (fun I μ n l hn hJ next=>?_) fun I μ l hJ=>?_
 · subst hJ
   have hl:=fl (fun x=>!Sp.dw a x.1) b n
   have step:=without_take b a hn
   dsimp only
   refine dh (by omega) ⟨⟨by omega,by omega⟩,trivial,af (fun h=>⟨⟨by omega,by omega⟩,by rw [bT];simp only [List.length_cons,List.length_nil];exact Nat.le_trans (Nat.add_le_add_right hl _) (by omega),rfl,next _ ?_⟩) fun h=>⟨rfl,next _ ?_⟩⟩
   · have h:(!Sp.dw a (b.getD n (0,())).1)=true:=h
     rw [step,h];rfl
   · have h:(!Sp.dw a (b.getD n (0,())).1)=false:=h
     rw [step,h];simp
 · subst hJ
   rw [List.take_length]
   dsimp only
   refine dm (by omega) (dI (fun i (x:List (Int×Unit))=>(((),i,()),x,())) (fun y=>y.1.2.1) (fun _ _=>rfl) a.length (by omega) (fun n l=>l=(a.take n).filter fun x=>!Sp.dw b x.1) rfl (fun I μ n l hn hJ next=>?_) fun I μ l hJ=>?_)
   · subst hJ
     have hl:=fl (fun x=>!Sp.dw b x.1) a n
     have step:=without_take a b hn
     dsimp only
     refine dh (by omega) ⟨⟨by omega,by omega⟩,trivial,af (fun h=>⟨⟨by omega,by omega⟩,by rw [bT];simp only [List.length_cons,List.length_nil];exact Nat.le_trans (Nat.add_le_add_right hl _) (by omega),rfl,next _ ?_⟩) fun h=>⟨rfl,next _ ?_⟩⟩
     · have h:(!Sp.dw b (a.getD n (0,())).1)=true:=h
       rw [step,h];rfl
     · have h:(!Sp.dw b (a.getD n (0,())).1)=false:=h
       rw [step,h];simp
   · subst hJ
     rw [List.take_length]
     dsimp only
     exact dm (by omega) ⟨rfl,rfl⟩
theorem WI:ai prog G nD.e:=by
 refine WJ (aj ah ⟨ahJ,EL,trivial⟩) (fun ⟨a,b,_⟩ _=>⟨((Sp.wQ a b,()),()),rfl⟩) ?_
 intro a b hin hp
 dsimp only [nD] at hp ⊢
 obtain ⟨ha,hb⟩:Sp.bF a∧Sp.bF b:=hp
 have hbl:=hb.1
 refine dI (fun i (x:List Sp.tK)=>(((),i,()),x,())) (fun y=>y.1.2.1) (fun _ _=>rfl) b.length (by omega) (fun n l=>l=((b.take n).map (Sp.jR a)).filter Sp.rX) rfl (fun I μ n l hn hJ next=>?_) fun I μ l hJ=>?_
 · subst hJ
   have hl:(((b.take n).map (Sp.jR a)).filter Sp.rX).length≤n:=by
    have:=List.length_filter_le Sp.rX ((b.take n).map (Sp.jR a))
    rw [List.length_map,List.length_take] at this;omega
   have step:=ahx a b hn
   have l1:=Ut ha (b.getD n kZ).1
   have l2:(b.getD n kZ).2.1.length≤1000:=Gt hb hn
   dsimp only
   refine dh (by omega) ⟨⟨by omega,by omega⟩,ha,⟨by omega,by omega⟩,⟨l1,l2⟩,?_⟩
   rintro ⟨⟨x,y,⟨⟩⟩,⟨⟩⟩ ⟨e1,e2⟩
   have e1:x=Sp.without (b.getD n kZ).2.1 (Sp.fM a (b.getD n kZ).1):=e1
   have e2:y=Sp.without (Sp.fM a (b.getD n kZ).1) (b.getD n kZ).2.1:=e2
   have hd:Sp.jR a (b.getD n kZ)=((b.getD n kZ).1,x,y,()):=by rw [e1,e2];rfl
   have hz:Sp.rX (Sp.jR a (b.getD n kZ))=decide (0<x.length+y.length):=by rw [hd];rfl
   have small:(((b.take n).map (Sp.jR a)).filter Sp.rX).length+1≤big:=by rw [bT];omega
   dsimp only
   refine af (fun h=>⟨⟨by omega,by omega⟩,small,rfl,next _ ?_⟩) fun h=>af (fun h2=>⟨⟨by omega,by omega⟩,small,rfl,next _ ?_⟩) fun h2=>⟨rfl,next _ ?_⟩
   · have h:(x.length:Int)>0:=gm h
     rw [step,hz,decide_eq_true (by omega),hd];rfl
   · have h2:(y.length:Int)>0:=gm h2
     rw [step,hz,decide_eq_true (by omega),hd];rfl
   · have h:¬ (x.length:Int)>0:=gU h
     have h2:¬ (y.length:Int)>0:=gU h2
     rw [step,hz,decide_eq_false (by omega)];simp
 · subst hJ
   rw [List.take_length]
   dsimp only
   exact dm (by omega) rfl
theorem asz {α:Type} (p:α→Bool) (d:α) (l:List α) {n:Nat} (h:n<l.length):(l.take (n+1)).any p=((l.take n).any p||p (l.getD n d)):=by
 rw [Sp.take_succ' l n d h,List.any_append];simp
theorem atC {r0 r3:Sp.LS} {f g:Sp.aN} {q:List Sp.bH} (h0:Sp.dD r0 (Sp.jm f g)) (h3:Sp.dD r3 (Sp.lG q)):(r3.any fun x=>Sp.dF r0 x.1)=(Sp.lG q).any fun t=>(Sp.jm f g).contains t:=by
 rw [← arA h0 h3,Bool.eq_iff_iff,List.any_eq_true,List.any_eq_true]
 exact ⟨fun ⟨x,hx,h⟩=>⟨x,Sp.gI.1 h,Sp.gI.2 hx⟩,fun ⟨x,hx,h⟩=>⟨x,Sp.gI.1 h,Sp.gI.2 hx⟩⟩
theorem Nz:ai prog G jA.e:=by
 refine NC (aj ah ⟨IK,Zl,ab5,Un,FY,trivial⟩) (fun ⟨d,f,g,_⟩ hp=>by obtain ⟨r,h⟩:=PZ d f g;exact ⟨((r,()),()),h⟩) ?_
 intro d a0 a1 a2 a3 a b0 b1 b2 b3 b hin hp
 dsimp only [jA] at hp ⊢
 obtain ⟨hd,hf,hg,hab⟩:Sp.aS d∧Sp.bU (a0,a1,a2,a3,a,())∧Sp.bU (b0,b1,b2,b3,b,())∧a.length+b.length≤1000:=hp
 have hl:=hd.1
 refine af (fun h=>⟨hl,PY (bne_iff_ne.1 h)⟩) fun h=>⟨⟨hf,hg,hab⟩,?_⟩
 have hid:a0=b0:=anX h
 rintro ⟨⟨r0,⟨⟩⟩,⟨⟩⟩ hr0
 have hr0:Sp.dD r0 (Sp.jm (a0,a1,a2,a3,a,()) (b0,b1,b2,b3,b,())):=hr0
 dsimp only
 generalize hF:((a0,a1,a2,a3,a,()):Sp.aN)=F at*
 generalize hG:((b0,b1,b2,b3,b,()):Sp.aN)=G at*
 have aqn:(a3 !=b3)=(F.2.2.2.1 !=G.2.2.2.1):=by rw [← hF,← hG]
 refine dI (fun i (x:Sp.LS)=>(((),i,()),x,())) (fun y=>y.1.2.1) (fun _ _=>rfl) d.length (by omega) (fun n l=>l=((d.take n).filter (nJ F G)).map fun x=>(x.1,())) rfl (fun I μ n l hn hJ next=>?_) fun I μ l hJ=>?_
 · subst hJ
   have hl:=BB (nJ F G) (fun x:Sp.aQ=>(x.1,())) d n
   dsimp only
   rw [aqn]
   refine dh (by omega) ⟨fun y=>y.1.1=(Sp.linked (d.getD n Au).2.1&&F.2.2.2.1 !=G.2.2.2.1),af (fun h=>⟨⟨by omega,by omega⟩,trivial,rfl,?_⟩) fun h=>⟨rfl,?_⟩,?_⟩
   · rw [h,Bool.and_true];rfl
   · rw [h,Bool.and_false]
   rintro ⟨⟨hit,⟨⟩⟩,⟨⟩⟩ hhit
   have hhit:hit=(Sp.linked (d.getD n Au).2.1&&F.2.2.2.1 !=G.2.2.2.1):=hhit
   refine ⟨⟨by omega,by omega⟩,qR hd hn,?_⟩
   rintro ⟨⟨r6,⟨⟩⟩,⟨⟩⟩ Vz
   have Vz:Sp.dD r6 (Sp.lG (d.getD n Au).2.1):=Vz
   have h6:=Vz.1
   dsimp only
   refine dI (fun i (x:Bool)=>((x,i,()),())) (fun y=>y.1.2.1) (fun _ _=>rfl) r6.length (by omega) (fun k x=>x=(hit||(r6.take k).any fun t=>Sp.dF r0 t.1)) (by simp) (fun I μ k x hk hJ FM=>?_) fun I μ x hJ=>?_
   · have step:=asz (fun t:Sp.Bytes×Unit=>Sp.dF r0 t.1) ([],()) r6 hk
     dsimp only
     refine dh (by omega) (af (fun h=>⟨rfl,FM _ ?_⟩) fun h=>⟨⟨by omega,by omega⟩,trivial,rfl,FM _ ?_⟩)
     · have h:x=true:=h
       rw [h] at hJ
       rw [step,← Bool.or_assoc,← hJ];rfl
     · have h:x=false:=h
       rw [h] at hJ
       rw [step,← Bool.or_assoc,← hJ,Bool.false_or,Int.toNat_natCast]
   · rw [List.take_length,atC hr0 Vz] at hJ
     have ht:x=nJ F G (d.getD n Au):=by
      rw [hJ,hhit];unfold nJ;rw [Bool.or_comm]
     dsimp only
     refine dm (by omega) (af (fun h=>⟨⟨by omega,by omega⟩,by rw [bT];simp only [List.length_cons,List.length_nil];omega,rfl,next _ ?_⟩) fun h=>⟨rfl,next _ ?_⟩)
     · have h:x=true:=h
       rw [jg (nJ F G) Au d hn,← ht,h,List.map_append];rfl
     · have h:x=false:=h
       rw [jg (nJ F G) Au d hn,← ht,h,List.map_append];simp
 · subst hJ
   rw [List.take_length]
   dsimp only
   exact dm (by omega) (Nq (by rw [← hF,← hG];exact hid))
def an2 (l:Sp.LS):Prop:=l.Pairwise fun x y=>Op.bytesLess x.1 y.1=true
theorem arF {x:Sp.Bytes×Unit} {r:Sp.LS} {s:Sp.Bytes}:Sp.AU (x::r) s=if Op.bytesLess x.1 s=true then x::Sp.AU r s else if x.1=s then x::r else (s,())::x::r:=by
 unfold Sp.AU
 by_cases h:Op.bytesLess x.1 s=true
 · rw [if_pos h,List.takeWhile_cons_of_pos (p:=fun x:Sp.Bytes×Unit=>Op.bytesLess x.1 s) h]
   dsimp only
   rw [List.length_cons]
   cases hc:(decide ((r.takeWhile fun x=>Op.bytesLess x.1 s).length<r.length)&&(r.getD (r.takeWhile fun x=>Op.bytesLess x.1 s).length ([],())).1==s) with
   |true=>
    have:(decide ((r.takeWhile fun x=>Op.bytesLess x.1 s).length+1<(x::r).length)&&((x::r).getD ((r.takeWhile fun x=>Op.bytesLess x.1 s).length+1) ([],())).1==s)=true:=by
     rw [← hc,List.length_cons];simp [List.getD_cons_succ]
    rw [this];rfl
   |false=>
    have:(decide ((r.takeWhile fun x=>Op.bytesLess x.1 s).length+1<(x::r).length)&&((x::r).getD ((r.takeWhile fun x=>Op.bytesLess x.1 s).length+1) ([],())).1==s)=false:=by
     rw [← hc,List.length_cons];simp [List.getD_cons_succ]
    rw [this];rfl
 · rw [if_neg h,List.takeWhile_cons_of_neg (p:=fun x:Sp.Bytes×Unit=>Op.bytesLess x.1 s) h]
   by_cases e:x.1=s
   · rw [if_pos e];simp [e]
   · rw [if_neg e];simp [beq_eq_false_iff_ne.2 e]
theorem aeY {s:Sp.Bytes}:∀ {l:Sp.LS},an2 l→an2 (Sp.AU l s)
 |[],_=>List.pairwise_singleton _ _
 |y::r,h=>by
  obtain ⟨h1,h2⟩:=List.pairwise_cons.1 h
  have i1:=aeY (s:=s) h2
  rw [arF]
  by_cases c1:Op.bytesLess y.1 s=true
  · rw [if_pos c1]
    refine List.pairwise_cons.2 ⟨fun z hz=>?_,i1⟩
    rcases (xJ z).1 hz with rfl|hz
    · exact c1
    · exact h1 z hz
  · rw [if_neg c1]
    by_cases c2:y.1=s
    · rw [if_pos c2];exact h
    · rw [if_neg c2]
      have c3:Op.bytesLess s y.1=true:=Sp.ahL y.1 s (by simpa using c1) c2
      refine List.pairwise_cons.2 ⟨fun z hz=>?_,h⟩
      rcases List.mem_cons.1 hz with rfl|hz
      · exact c3
      · exact Sp.Le _ _ _ c3 (h1 z hz)
theorem apt {l b:Sp.LS} (h:an2 l) (hs:∀ x∈l,x∈b):l.length≤b.length:=by
 have hn:l.Nodup:=by
  unfold List.Nodup
  exact List.Pairwise.imp (fun {a b} hab e=>Sp.aa4 hab (congrArg Prod.fst e)) h
 exact Zq l b hn hs
structure Rd (d:List Sp.aQ) (names out:Sp.LS):Prop where
 asc:an2 out
 base:∀ x∈names,x∈out
 reach:∀ x∈out,Sp.Reach d (fun s=>Sp.dF names s=true) x.1
 sub:∀ x∈out,x∈names++Sp.fJ d
theorem Rd.len {d:List Sp.aQ} {names out:Sp.LS} (h:Rd d names out):out.length≤names.length+d.length:=by
 have:=apt h.asc h.sub
 rw [List.length_append] at this
 have e:(Sp.fJ d).length=d.length:=by unfold Sp.fJ;rw [List.length_map]
 omega
theorem Rd.put {d:List Sp.aQ} {names out:Sp.LS} (h:Rd d names out) {i:Nat} (hi:i<d.length) {s:Sp.Bytes} (hs:(s,())∈out) (ha:s∈Sp.rH (Sp.dY d i)):Rd d names (Sp.AU out (Sp.nameOf d i)) where
 asc:=aeY h.asc
 base:=fun x hx=>(xJ x).2 (.inr (h.base x hx))
 reach:=fun x hx=>by
  rcases (xJ x).1 hx with rfl|hx
  · exact .step (h.reach _ hs) hi ha
  · exact h.reach x hx
 sub:=fun x hx=>by
  rcases (xJ x).1 hx with rfl|hx
  · exact List.mem_append.2 (.inr (Nu hi))
  · exact h.sub x hx
def shut (d:List Sp.aQ) (out:Sp.LS):Prop:=∀ i,i<d.length→∀ s∈Sp.rH (Sp.dY d i),(s,())∈out→(Sp.nameOf d i,())∈out
def an3 (d:List Sp.aQ) (out:Sp.LS):Nat:=((List.range d.length).filter fun i=>Sp.dF out (Sp.nameOf d i)).length
theorem atD (d:List Sp.aQ) (out:Sp.LS):an3 d out≤d.length:=by
 have:=List.length_filter_le (fun i=>Sp.dF out (Sp.nameOf d i)) (List.range d.length)
 rw [List.length_range] at this;exact this
theorem atE {d:List Sp.aQ} {a b:Sp.LS} (h:∀ x∈a,x∈b) {i:Nat} (hi:i<d.length) (h1:(Sp.nameOf d i,()) ∉ a) (h2:(Sp.nameOf d i,())∈b):an3 d a<an3 d b:=
 Sp.filter_lt (fun j hj=>Sp.gI.2 (h _ (Sp.gI.1 hj))) ⟨i,List.mem_range.2 hi,Sp.gI.2 h2,by rw [Bool.eq_false_iff];exact fun h'=>h1 (Sp.gI.1 h')⟩
theorem IX:ai prog G iI.e:=by
 refine IY (aj ah ⟨IK,ab3,BD,trivial⟩) (fun ⟨d,names,_⟩ hp=>by obtain ⟨r,h⟩:=P5 d hp.2.1 names hp.2.2;exact ⟨((r,()),()),h⟩) ?_
 intro d names hin hp
 dsimp only [iI] at hp ⊢
 obtain ⟨hd,hd5,hnl⟩:Sp.aS d∧d.length≤5∧names.length≤900:=hp
 refine dI (fun i (x:Sp.LS)=>((x,i,()),())) (fun y=>y.1.2.1) (fun _ _=>rfl) names.length (by omega) (fun n l=>an2 l∧∀ x,x∈l↔x∈names.take n) ⟨List.Pairwise.nil,fun x=>by simp⟩ (fun I μ n l hn hJ next=>?_) fun I μ l hJ=>?_
 · obtain ⟨h1,h2⟩:=hJ
   have hl:=apt h1 fun x hx=>(h2 x).1 hx
   rw [List.length_take] at hl
   dsimp only
   refine dh (by omega) ⟨⟨by omega,by omega⟩,by omega,rfl,next _ ⟨aeY h1,fun x=>?_⟩⟩
   rw [xJ,h2,Sp.take_succ' names n ([],()) hn,List.mem_append,List.mem_singleton,Int.toNat_natCast]
   exact Or.comm
 obtain ⟨h1,h2⟩:=hJ
 rw [List.take_length] at h2
 dsimp only
 refine dm (by omega) ⟨fun y=>∃ r:Nat,y.1.2.1=r∧r≤d.length+1∧Rd d names y.1.1∧(shut d y.1.1∨r≤an3 d y.1.1),fun y=>((d.length:Int)+1-y.1.2.1).toNat,⟨0,rfl,by omega,⟨h1,fun x hx=>(h2 x).2 hx,fun x hx=> .base (Sp.gI.2 ((h2 x).1 hx)),fun x hx=>List.mem_append.2 (.inl ((h2 x).1 hx))⟩, .inr (Nat.zero_le _)⟩,?_⟩
 rintro ⟨⟨out,_,⟨⟩⟩,⟨⟩⟩ ⟨rd,rfl,hrd,R,hcl⟩
 dsimp only at R hcl ⊢
 refine af (fun hc=>?_) fun hc=>?_
 · have hc:(rd:Int)≤d.length:=gm hc
   have w:IntKind.i64.wrap ((rd:Int)+1)=((rd+1:Nat):Int):=fO _ (by omega)
   rw [w]
   refine dI (fun i (x:Sp.LS)=>((x,i,()),())) (fun y=>y.1.2.1) (fun _ _=>rfl) d.length (by omega) (fun i o=>Rd d names o∧(∀ x∈out,x∈o)∧(∀ j,j<i→∀ s∈Sp.rH (Sp.dY d j),(s,())∈out→(Sp.nameOf d j,())∈o)∧(shut d out→∀ x∈o,x∈out)) ⟨R,fun x hx=>hx,fun j hj=>by omega,fun _ x hx=>hx⟩ (fun I μ i o hi hJ next=>?_) fun I μ o hJ=>?_
   · obtain ⟨R2,g1,g2,g3⟩:=hJ
     dsimp only
     rw [Int.toNat_natCast]
     refine dh (by omega) ⟨⟨by omega,by omega⟩,qR hd hi,?_⟩
     rintro ⟨⟨r7,⟨⟩⟩,⟨⟩⟩ hr7
     have hr7:Sp.dD r7 (Sp.rH (Sp.dY d i)):=hr7
     have h7:=hr7.1
     dsimp only
     refine dI (fun k (x:Sp.LS)=>((x,k,()),())) (fun y=>y.1.2.1) (fun _ _=>rfl) r7.length (by omega) (fun k o3=>Rd d names o3∧(∀ x∈o,x∈o3)∧(∀ t,t<k→r7.getD t ([],())∈out→(Sp.nameOf d i,())∈o3)∧(shut d out→∀ x∈o3,x∈out)) ⟨R2,fun x hx=>hx,fun t ht=>by omega,g3⟩ (fun I μ k o3 hk hJ FM=>?_) fun I μ o3 hJ=>?_
     · obtain ⟨R3,k1,k2,k3⟩:=hJ
       have hl3:=R3.len
       have hmem:r7.getD k ([],())∈r7:=getD_mem (d:=(([]:Sp.Bytes),())) hk
       have hask:(r7.getD k ([],())).1∈Sp.rH (Sp.dY d i):=(hr7.2 _).1 hmem
       dsimp only
       rw [Int.toNat_natCast]
       refine dh (by omega) ⟨⟨by omega,by omega⟩,trivial,af (fun h=>⟨⟨by omega,by omega⟩,by omega,rfl,FM _ ⟨R3.put hi (Sp.gI.1 h) hask,fun x hx=>(xJ x).2 (.inr (k1 x hx)),fun t _ _=>(xJ _).2 (.inl rfl),fun hs x hx=>?_⟩⟩) fun h=>⟨rfl,FM _ ⟨R3,k1,fun t ht hto=>?_,k3⟩⟩⟩
       · rcases (xJ x).1 hx with rfl|hx
         · exact hs i hi _ hask (k3 hs _ (Sp.gI.1 h))
         · exact k3 hs x hx
       · rcases Nat.lt_or_ge t k with h'|h'
         · exact k2 t h' hto
         · have:t=k:=by omega
           subst this
           have h':Sp.dF o3 (r7.getD t ([],())).1=true:=Sp.gI.2 (k1 _ (g1 _ hto))
           have h:Sp.dF o3 (r7.getD t ([],())).1=false:=h
           rw [h] at h';cases h'
     · obtain ⟨R3,k1,k2,k3⟩:=hJ
       dsimp only
       refine dm (by omega) ⟨rfl,next _ ⟨R3,fun x hx=>k1 x (g1 x hx),fun j hj s hs hso=>?_,k3⟩⟩
       rcases Nat.lt_or_ge j i with h'|h'
       · exact k1 _ (g2 j h' s hs hso)
       · have:j=i:=by omega
         subst this
         obtain ⟨t,ht,e⟩:=List.getElem_of_mem ((hr7.2 s).2 hs)
         have hat:r7.getD t ([],())=(s,()):=by rw [List.getD_eq_getElem?_getD,List.getElem?_eq_getElem ht,e];rfl
         exact k2 t ht (by rw [hat];exact hso)
   · obtain ⟨R2,g1,g2,g3⟩:=hJ
     dsimp only
     refine dm (by omega) ⟨rfl,⟨rd+1,rfl,by omega,R2,?_⟩,by omega⟩
     by_cases hs:shut d out
     · left
       intro i hi s hs' hso
       exact g1 _ (hs i hi s hs' (g3 hs _ hso))
     · right
       rcases hcl with hcl|hcl
       · exact (hs hcl).elim
       · obtain ⟨i,hi⟩:=Classical.not_forall.1 hs
         have hi1:i<d.length:=Classical.byContradiction fun h=>hi fun h'=>(h h').elim
         obtain ⟨s,hs2⟩:=Classical.not_forall.1 fun h=>hi fun _=>h
         have hs3:s∈Sp.rH (Sp.dY d i):=Classical.byContradiction fun h=>hs2 fun h'=>(h h').elim
         have hs4:(s,())∈out:=Classical.byContradiction fun h=>hs2 fun _ h'=>(h h').elim
         have hs5:(Sp.nameOf d i,()) ∉ out:=fun h=>hs2 fun _ _=>h
         have:=atE g1 hi1 hs5 (g2 i hi1 s hs3 hs4)
         show rd+1≤an3 d o
         omega
 · have hc:¬ (rd:Int)≤d.length:=gU hc
   have hl:=R.len
   have hs:shut d out:=by
    rcases hcl with hcl|hcl
    · exact hcl
    · have:=atD d out;omega
   refine ⟨by rw [bT];omega,by show out.length≤1000;omega,fun s=>?_⟩
   rw [Sp.gI]
   refine ⟨fun h=>R.reach _ h,fun h=>?_⟩
   show (s,())∈out
   induction h with
   |base hb=>exact R.base _ (Sp.gI.1 hb)
   |step _ hj ha ih=>exact hs _ hj _ ha ih
theorem Ux:ai prog G l7.e:=by
 refine Uy (aj ah ⟨IX,Nz,trivial⟩) (fun ⟨d,f,g,_⟩ hp=>by obtain ⟨r,h⟩:=apl d hp.2.1 f g;exact ⟨((r,()),()),h⟩) ?_
 intro d a0 a1 a2 a3 a b0 b1 b2 b3 b hin hp
 dsimp only [l7] at hp ⊢
 obtain ⟨h1,h2,h3,h4,h5⟩:=hp
 exact ⟨⟨h1,h3,h4,h5⟩,fun r0 hr0=>⟨⟨h1,h2,by have:=hr0.1;omega⟩,fun r1 hr1=>arB hr0 hr1⟩⟩
theorem aoJ {c:Sp.jv} {s:Sp.bV} {d:List Sp.aQ} (nm:Sp.Bytes→Bool) (h:(Sp.aF d&&Sp.aB s)=true):∃ c' df,Sp.turned c s d nm c' df true:=by
 obtain ⟨c',df,g⟩:=ahz c s d nm
 rw [h] at g;exact ⟨c',df,g⟩
theorem Hz:ai prog G nV.e:=by
 refine ahM (aj ah ⟨WI,Zb,trivial⟩) (fun ⟨c,s,d,names,_⟩ hp=>by obtain ⟨c',df,h⟩:=aoJ (c:=c) (Sp.dF names) hp.2.2.2;exact ⟨((((c'.1,c'.2.1,c'.2.2.1,c'.2.2.2.1,c'.2.2.2.2.1,()),df,()),())),h⟩) ?_
 intro a l nx d0 r0 sa sl sn d names hin hp
 dsimp only [nV] at hp ⊢
 obtain ⟨hc,hs,hd,hz⟩:=hp
 have hr:Sp.bF r0:=hc.2.2
 refine ⟨⟨hs,hd,hr⟩,?_⟩
 rintro ⟨⟨out,ok,⟨⟩⟩,⟨⟩⟩ ⟨e1,e2⟩
 have e1:ok=(Sp.aF d&&Sp.aB (sa,sl,sn,())):=e1
 have e2:ok=true→Sp.gQ sl d r0 (Sp.dF names) out:=e2
 have hev:=e2 (e1.trans hz)
 exact ⟨⟨hr,Jg hev hd.1 hs.2.1 hr⟩,fun r3 hr3=>⟨hz.symm,fun _=>⟨rfl,rfl,hev,hr3⟩,fun h=>by cases h⟩⟩
end Go.Proofs.Tryz
