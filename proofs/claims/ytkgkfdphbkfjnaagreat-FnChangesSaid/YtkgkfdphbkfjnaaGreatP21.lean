import Derived.Test.YtkgkfdphbkfjnaaGreatP20
namespace Go.Proofs.Tryz
open Go Go.Fw Go.IntWalk Sp
theorem without_take (a b:List (Int×Unit)) {n:Nat} (h:n<a.length):(a.take (n+1)).filter (fun x=>!fG b x.1)=(a.take n).filter (fun x=>!fG b x.1)++(bif !fG b (a.getD n (0,())).1 then [a.getD n (0,())] else []):=jE (fun x:Int×Unit=>!fG b x.1) (0,()) a h
theorem aeS:OK Fa.e:=by
 refine XA.ok mixed (au [qH.e] ⟨KN,trivial⟩) agB (fun ⟨a,b,_⟩ _=>⟨((Sp.without b a,Sp.without a b,()),()),⟨rfl,rfl⟩⟩) (by kernel_rfl) (show ∀ a b,Fa.goal (aeT a b) (a,b,()) from ?_)
 intro a b hin hp
 dsimp only [Fa] at hp ⊢
 obtain ⟨ha,hb⟩:a.length≤1000∧b.length≤1000:=hp
 have fl:∀ (p:Int×Unit→Bool) (l:List (Int×Unit)) n,((l.take n).filter p).length≤n:=fun p l n=>by
  have:=List.length_filter_le p (l.take n)
  rw [List.length_take] at this;omega
 refine dN (fun i (x:List (Int×Unit))=>(((),i,()),x,())) (fun y=>y.1.2.1) (fun _ _=>rfl) b.length (by omega) (fun n l=>l=(b.take n).filter fun x=>!fG a x.1) rfl (fun I μ n l hn hJ next=>?_) fun I μ l hJ=>?_
 · subst hJ
   have hl:=fl (fun x=>!fG a x.1) b n
   have step:=without_take b a hn
   dsimp only
   refine dH (by omega) ⟨⟨by omega,by omega⟩,trivial,af (fun h=>⟨⟨by omega,by omega⟩,by rw [bW];simp only [List.length_cons,List.length_nil];exact Nat.le_trans (Nat.add_le_add_right hl _) (by omega),rfl,next _ ?_⟩) fun h=>⟨rfl,next _ ?_⟩⟩
   · have h:(!fG a (b.getD n (0,())).1)=true:=h
     rw [step,h];rfl
   · have h:(!fG a (b.getD n (0,())).1)=false:=h
     rw [step,h];simp
 · subst hJ
   rw [List.take_length]
   dsimp only
   refine dI (by omega) (dN (fun i (x:List (Int×Unit))=>(((),i,()),x,())) (fun y=>y.1.2.1) (fun _ _=>rfl) a.length (by omega) (fun n l=>l=(a.take n).filter fun x=>!fG b x.1) rfl (fun I μ n l hn hJ next=>?_) fun I μ l hJ=>?_)
   · subst hJ
     have hl:=fl (fun x=>!fG b x.1) a n
     have step:=without_take a b hn
     dsimp only
     refine dH (by omega) ⟨⟨by omega,by omega⟩,trivial,af (fun h=>⟨⟨by omega,by omega⟩,by rw [bW];simp only [List.length_cons,List.length_nil];exact Nat.le_trans (Nat.add_le_add_right hl _) (by omega),rfl,next _ ?_⟩) fun h=>⟨rfl,next _ ?_⟩⟩
     · have h:(!fG b (a.getD n (0,())).1)=true:=h
       rw [step,h];rfl
     · have h:(!fG b (a.getD n (0,())).1)=false:=h
       rw [step,h];simp
   · subst hJ
     rw [List.take_length]
     dsimp only
     exact dI (by omega) ⟨rfl,rfl⟩
theorem V4:OK yR.e:=by
 refine XA.ok mixed (au [Fa.e,oG.e] ⟨aeS,FY,trivial⟩) Yz (fun ⟨a,b,_⟩ _=>⟨((Fb a b,()),()),rfl⟩) (by kernel_rfl) (show ∀ a b,yR.goal (V5 a b) (a,b,()) from ?_)
 intro a b hin hp
 dsimp only [yR] at hp ⊢
 obtain ⟨ha,hb⟩:bH a∧bH b:=hp
 have hbl:=hb.1
 refine dN (fun i (x:List qF)=>(((),i,()),x,())) (fun y=>y.1.2.1) (fun _ _=>rfl) b.length (by omega) (fun n l=>l=((b.take n).map (tV a)).filter zx) rfl (fun I μ n l hn hJ next=>?_) fun I μ l hJ=>?_
 · subst hJ
   have hl:(((b.take n).map (tV a)).filter zx).length≤n:=by
    have:=List.length_filter_le zx ((b.take n).map (tV a))
    rw [List.length_map,List.length_take] at this;omega
   have step:=aeH a b hn
   have l1:=UC ha (b.getD n oC).1
   have l2:(b.getD n oC).2.1.length≤1000:=Ip hb hn
   dsimp only
   refine dH (by omega) ⟨⟨by omega,by omega⟩,ha,⟨by omega,by omega⟩,⟨l1,l2⟩,?_⟩
   rintro ⟨⟨x,y,⟨⟩⟩,⟨⟩⟩ ⟨e1,e2⟩
   have e1:x=Sp.without (b.getD n oC).2.1 (fK a (b.getD n oC).1):=e1
   have e2:y=Sp.without (fK a (b.getD n oC).1) (b.getD n oC).2.1:=e2
   have hd:tV a (b.getD n oC)=((b.getD n oC).1,x,y,()):=by rw [e1,e2];rfl
   have hz:zx (tV a (b.getD n oC))=decide (0<x.length+y.length):=by rw [hd];rfl
   have small:(((b.take n).map (tV a)).filter zx).length+1≤big:=by rw [bW];omega
   dsimp only
   refine af (fun h=>⟨⟨by omega,by omega⟩,small,rfl,next _ ?_⟩) fun h=>af (fun h2=>⟨⟨by omega,by omega⟩,small,rfl,next _ ?_⟩) fun h2=>⟨rfl,next _ ?_⟩
   · have h:(x.length:Int)>0:=fJ h
     rw [step,hz,decide_eq_true (by omega),hd];rfl
   · have h2:(y.length:Int)>0:=fJ h2
     rw [step,hz,decide_eq_true (by omega),hd];rfl
   · have h:¬ (x.length:Int)>0:=fZ h
     have h2:¬ (y.length:Int)>0:=fZ h2
     rw [step,hz,decide_eq_false (by omega)];simp
 · subst hJ
   rw [List.take_length]
   dsimp only
   exact dI (by omega) rfl
theorem aos {α:Type} (p:α→Bool) (d:α) (l:List α) {n:Nat} (h:n<l.length):(l.take (n+1)).any p=((l.take n).any p||p (l.getD n d)):=by
 rw [Sp.take_succ' l n d h,List.any_append];simp
theorem apz {r0 r3:Sp.LS} {f g:aN} {q:List bK} (h0:dK r0 (jc f g)) (h3:dK r3 (kS q)):(r3.any fun x=>dA r0 x.1)=(kS q).any fun t=>(jc f g).contains t:=by
 rw [← anv h0 h3,Bool.eq_iff_iff,List.any_eq_true,List.any_eq_true]
 exact ⟨fun ⟨x,hx,h⟩=>⟨x,gB.1 h,gB.2 hx⟩,fun ⟨x,hx,h⟩=>⟨x,gB.1 h,gB.2 hx⟩⟩
theorem OL:OK qV.e:=by
 refine XA.ok mixed (au [x9.e,zZ.e,Cm.e,xG.e,uq.e] ⟨JW,Yf,aak,Uy,Hy,trivial⟩) O6 (fun ⟨d,f,g,_⟩ hp=>by obtain ⟨r,h⟩:=QE d f g;exact ⟨((r,()),()),h⟩) (by kernel_rfl) (show ∀ d a0 a1 a2 a3 a4 b0 b1 b2 b3 b4,qV.goal (OM d a0 a1 a2 a3 a4 b0 b1 b2 b3 b4) (d,(a0,a1,a2,a3,a4,()),(b0,b1,b2,b3,b4,()),()) from ?_)
 intro d a0 a1 a2 a3 a b0 b1 b2 b3 b hin hp
 dsimp only [qV] at hp ⊢
 obtain ⟨hd,hf,hg,hab⟩:aA d∧cu (a0,a1,a2,a3,a,())∧cu (b0,b1,b2,b3,b,())∧a.length+b.length≤1000:=hp
 have hl:=hd.1
 refine af (fun h=>⟨hl,QD (bne_iff_ne.1 h)⟩) fun h=>⟨⟨hf,hg,hab⟩,?_⟩
 have hid:a0=b0:=ajz h
 rintro ⟨⟨r0,⟨⟩⟩,⟨⟩⟩ hr0
 have hr0:dK r0 (jc (a0,a1,a2,a3,a,()) (b0,b1,b2,b3,b,())):=hr0
 dsimp only
 generalize hF:((a0,a1,a2,a3,a,()):aN)=F at*
 generalize hG:((b0,b1,b2,b3,b,()):aN)=G at*
 have amg:(a3 !=b3)=(F.2.2.2.1 !=G.2.2.2.1):=by rw [← hF,← hG]
 refine dN (fun i (x:Sp.LS)=>(((),i,()),x,())) (fun y=>y.1.2.1) (fun _ _=>rfl) d.length (by omega) (fun n l=>l=((d.take n).filter (lV F G)).map fun x=>(x.1,())) rfl (fun I μ n l hn hJ next=>?_) fun I μ l hJ=>?_
 · subst hJ
   have hl:=Bo (lV F G) (fun x:aC=>(x.1,())) d n
   dsimp only
   rw [amg]
   refine dH (by omega) ⟨fun y=>y.1.1=(Sp.linked (d.getD n zN).2.1&&F.2.2.2.1 !=G.2.2.2.1),af (fun h=>⟨⟨by omega,by omega⟩,trivial,rfl,?_⟩) fun h=>⟨rfl,?_⟩,?_⟩
   · rw [h,Bool.and_true];rfl
   · rw [h,Bool.and_false]
   rintro ⟨⟨hit,⟨⟩⟩,⟨⟩⟩ hhit
   have hhit:hit=(Sp.linked (d.getD n zN).2.1&&F.2.2.2.1 !=G.2.2.2.1):=hhit
   refine ⟨⟨by omega,by omega⟩,mV hd hn,?_⟩
   rintro ⟨⟨r6,⟨⟩⟩,⟨⟩⟩ LV
   have LV:dK r6 (kS (d.getD n zN).2.1):=LV
   have h6:=LV.1
   dsimp only
   refine dN (fun i (x:Bool)=>((x,i,()),())) (fun y=>y.1.2.1) (fun _ _=>rfl) r6.length (by omega) (fun k x=>x=(hit||(r6.take k).any fun t=>dA r0 t.1)) (by simp) (fun I μ k x hk hJ Nb=>?_) fun I μ x hJ=>?_
   · have step:=aos (fun t:Sp.Bytes×Unit=>dA r0 t.1) ([],()) r6 hk
     dsimp only
     refine dH (by omega) (af (fun h=>⟨rfl,Nb _ ?_⟩) fun h=>⟨⟨by omega,by omega⟩,trivial,rfl,Nb _ ?_⟩)
     · have h:x=true:=h
       rw [h] at hJ
       rw [step,← Bool.or_assoc,← hJ];rfl
     · have h:x=false:=h
       rw [h] at hJ
       rw [step,← Bool.or_assoc,← hJ,Bool.false_or,Int.toNat_natCast]
   · rw [List.take_length,apz hr0 LV] at hJ
     have ht:x=lV F G (d.getD n zN):=by
      rw [hJ,hhit];unfold lV;rw [Bool.or_comm]
     dsimp only
     refine dI (by omega) (af (fun h=>⟨⟨by omega,by omega⟩,by rw [bW];simp only [List.length_cons,List.length_nil];omega,rfl,next _ ?_⟩) fun h=>⟨rfl,next _ ?_⟩)
     · have h:x=true:=h
       rw [jE (lV F G) zN d hn,← ht,h,List.map_append];rfl
     · have h:x=false:=h
       rw [jE (lV F G) zN d hn,← ht,h,List.map_append];simp
 · subst hJ
   rw [List.take_length]
   dsimp only
   exact dI (by omega) (OD (by rw [← hF,← hG];exact hid))
def ajD (l:Sp.LS):Prop:=l.Pairwise fun x y=>Op.bytesLess x.1 y.1=true
theorem anA {x:Sp.Bytes×Unit} {r:Sp.LS} {s:Sp.Bytes}:AB (x::r) s=if Op.bytesLess x.1 s=true then x::AB r s else if x.1=s then x::r else (s,())::x::r:=by
 unfold AB
 by_cases h:Op.bytesLess x.1 s=true
 · rw [if_pos h,List.takeWhile_cons_of_pos (p:=fun x:Sp.Bytes×Unit=>Op.bytesLess x.1 s) h]
   dsimp only
   rw [List.length_cons]
   cases hc:(decide ((r.takeWhile fun x=>Op.bytesLess x.1 s).length<r.length)&&(r.getD (r.takeWhile fun x=>Op.bytesLess x.1 s).length ([],())).1==s) with
   |true=>
    have:(decide ((r.takeWhile fun x=>Op.bytesLess x.1 s).length+1<(x::r).length)&&((x::r).getD ((r.takeWhile fun x=>Op.bytesLess x.1 s).length+1) ([],())).1==s)=true:=by
     rw [← hc,List.length_cons];simp [List.getD_cons_succ]
    rw [this];rfl
   |false=>
    have:(decide ((r.takeWhile fun x=>Op.bytesLess x.1 s).length+1<(x::r).length)&&((x::r).getD ((r.takeWhile fun x=>Op.bytesLess x.1 s).length+1) ([],())).1==s)=false:=by
     rw [← hc,List.length_cons];simp [List.getD_cons_succ]
    rw [this];rfl
 · rw [if_neg h,List.takeWhile_cons_of_neg (p:=fun x:Sp.Bytes×Unit=>Op.bytesLess x.1 s) h]
   by_cases e:x.1=s
   · rw [if_pos e];simp [e]
   · rw [if_neg e];simp [beq_eq_false_iff_ne.2 e]
theorem acN {s:Sp.Bytes}:∀ {l:Sp.LS},ajD l→ajD (AB l s)
 |[],_=>List.pairwise_singleton _ _
 |y::r,h=>by
  obtain ⟨h1,h2⟩:=List.pairwise_cons.1 h
  have i1:=acN (s:=s) h2
  rw [anA]
  by_cases c1:Op.bytesLess y.1 s=true
  · rw [if_pos c1]
    refine List.pairwise_cons.2 ⟨fun z hz=>?_,i1⟩
    rcases (uQ z).1 hz with rfl|hz
    · exact c1
    · exact h1 z hz
  · rw [if_neg c1]
    by_cases c2:y.1=s
    · rw [if_pos c2];exact h
    · rw [if_neg c2]
      have c3:Op.bytesLess s y.1=true:=Nc y.1 s (by simpa using c1) c2
      refine List.pairwise_cons.2 ⟨fun z hz=>?_,h⟩
      rcases List.mem_cons.1 hz with rfl|hz
      · exact c3
      · exact FI _ _ _ c3 (h1 z hz)
theorem ald {l b:Sp.LS} (h:ajD l) (hs:∀ x∈l,x∈b):l.length≤b.length:=by
 have hn:l.Nodup:=by
  unfold List.Nodup
  exact List.Pairwise.imp (fun {a b} hab e=>Iq hab (congrArg Prod.fst e)) h
 exact Yl l b hn hs
structure Rd (d:List aC) (names out:Sp.LS):Prop where
 asc:ajD out
 base:∀ x∈names,x∈out
 reach:∀ x∈out,Sp.Reach d (fun s=>dA names s=true) x.1
 sub:∀ x∈out,x∈names++fE d
theorem Rd.len {d:List aC} {names out:Sp.LS} (h:Rd d names out):out.length≤names.length+d.length:=by
 have:=ald h.asc h.sub
 rw [List.length_append] at this
 have e:(fE d).length=d.length:=by unfold fE;rw [List.length_map]
 omega
theorem Rd.put {d:List aC} {names out:Sp.LS} (h:Rd d names out) {i:Nat} (hi:i<d.length) {s:Sp.Bytes} (hs:(s,())∈out) (ha:s∈nS (dQ d i)):Rd d names (AB out (Sp.nameOf d i)) where
 asc:=acN h.asc
 base:=fun x hx=>(uQ x).2 (.inr (h.base x hx))
 reach:=fun x hx=>by
  rcases (uQ x).1 hx with rfl|hx
  · exact .step (h.reach _ hs) hi ha
  · exact h.reach x hx
 sub:=fun x hx=>by
  rcases (uQ x).1 hx with rfl|hx
  · exact List.mem_append.2 (.inr (OH hi))
  · exact h.sub x hx
def shut (d:List aC) (out:Sp.LS):Prop:=∀ i,i<d.length→∀ s∈nS (dQ d i),(s,())∈out→(Sp.nameOf d i,())∈out
def ajE (d:List aC) (out:Sp.LS):Nat:=((List.range d.length).filter fun i=>dA out (Sp.nameOf d i)).length
theorem apA (d:List aC) (out:Sp.LS):ajE d out≤d.length:=by
 have:=List.length_filter_le (fun i=>dA out (Sp.nameOf d i)) (List.range d.length)
 rw [List.length_range] at this;exact this
theorem apB {d:List aC} {a b:Sp.LS} (h:∀ x∈a,x∈b) {i:Nat} (hi:i<d.length) (h1:(Sp.nameOf d i,()) ∉ a) (h2:(Sp.nameOf d i,())∈b):ajE d a<ajE d b:=
 Sp.filter_lt (fun j hj=>gB.2 (h _ (gB.1 hj))) ⟨i,List.mem_range.2 hi,gB.2 h2,by rw [Bool.eq_false_iff];exact fun h'=>h1 (gB.1 h')⟩
theorem rY:OK jg.e:=by
 refine XA.ok mixed (au [x9.e,Cj.e,qL.e] ⟨JW,aah,Bq,trivial⟩) KW (fun ⟨d,names,_⟩ hp=>by obtain ⟨r,h⟩:=QF d hp.2.1 names hp.2.2;exact ⟨((r,()),()),h⟩) (by kernel_rfl) (show ∀ d names,jg.goal (J4 d names) (d,names,()) from ?_)
 intro d names hin hp
 dsimp only [jg] at hp ⊢
 obtain ⟨hd,hd5,hnl⟩:aA d∧d.length≤5∧names.length≤900:=hp
 refine dN (fun i (x:Sp.LS)=>((x,i,()),())) (fun y=>y.1.2.1) (fun _ _=>rfl) names.length (by omega) (fun n l=>ajD l∧∀ x,x∈l↔x∈names.take n) ⟨List.Pairwise.nil,fun x=>by simp⟩ (fun I μ n l hn hJ next=>?_) fun I μ l hJ=>?_
 · obtain ⟨h1,h2⟩:=hJ
   have hl:=ald h1 fun x hx=>(h2 x).1 hx
   rw [List.length_take] at hl
   dsimp only
   refine dH (by omega) ⟨⟨by omega,by omega⟩,by omega,rfl,next _ ⟨acN h1,fun x=>?_⟩⟩
   rw [uQ,h2,Sp.take_succ' names n ([],()) hn,List.mem_append,List.mem_singleton,Int.toNat_natCast]
   exact Or.comm
 obtain ⟨h1,h2⟩:=hJ
 rw [List.take_length] at h2
 dsimp only
 refine dI (by omega) ⟨fun y=>∃ r:Nat,y.1.2.1=r∧r≤d.length+1∧Rd d names y.1.1∧(shut d y.1.1∨r≤ajE d y.1.1),fun y=>((d.length:Int)+1-y.1.2.1).toNat,⟨0,rfl,by omega,⟨h1,fun x hx=>(h2 x).2 hx,fun x hx=> .base (gB.2 ((h2 x).1 hx)),fun x hx=>List.mem_append.2 (.inl ((h2 x).1 hx))⟩, .inr (Nat.zero_le _)⟩,?_⟩
 rintro ⟨⟨out,_,⟨⟩⟩,⟨⟩⟩ ⟨rd,rfl,hrd,R,hcl⟩
 dsimp only at R hcl ⊢
 refine af (fun hc=>?_) fun hc=>?_
 · have hc:(rd:Int)≤d.length:=fJ hc
   have w:IntKind.i64.wrap ((rd:Int)+1)=((rd+1:Nat):Int):=fF _ (by omega)
   rw [w]
   refine dN (fun i (x:Sp.LS)=>((x,i,()),())) (fun y=>y.1.2.1) (fun _ _=>rfl) d.length (by omega) (fun i o=>Rd d names o∧(∀ x∈out,x∈o)∧(∀ j,j<i→∀ s∈nS (dQ d j),(s,())∈out→(Sp.nameOf d j,())∈o)∧(shut d out→∀ x∈o,x∈out)) ⟨R,fun x hx=>hx,fun j hj=>by omega,fun _ x hx=>hx⟩ (fun I μ i o hi hJ next=>?_) fun I μ o hJ=>?_
   · obtain ⟨R2,g1,g2,g3⟩:=hJ
     dsimp only
     rw [Int.toNat_natCast]
     refine dH (by omega) ⟨⟨by omega,by omega⟩,mV hd hi,?_⟩
     rintro ⟨⟨r7,⟨⟩⟩,⟨⟩⟩ YA
     have YA:dK r7 (nS (dQ d i)):=YA
     have h7:=YA.1
     dsimp only
     refine dN (fun k (x:Sp.LS)=>((x,k,()),())) (fun y=>y.1.2.1) (fun _ _=>rfl) r7.length (by omega) (fun k o3=>Rd d names o3∧(∀ x∈o,x∈o3)∧(∀ t,t<k→r7.getD t ([],())∈out→(Sp.nameOf d i,())∈o3)∧(shut d out→∀ x∈o3,x∈out)) ⟨R2,fun x hx=>hx,fun t ht=>by omega,g3⟩ (fun I μ k o3 hk hJ Nb=>?_) fun I μ o3 hJ=>?_
     · obtain ⟨R3,k1,k2,k3⟩:=hJ
       have hl3:=R3.len
       have hmem:r7.getD k ([],())∈r7:=getD_mem (d:=(([]:Sp.Bytes),())) hk
       have hask:(r7.getD k ([],())).1∈nS (dQ d i):=(YA.2 _).1 hmem
       dsimp only
       rw [Int.toNat_natCast]
       refine dH (by omega) ⟨⟨by omega,by omega⟩,trivial,af (fun h=>⟨⟨by omega,by omega⟩,by omega,rfl,Nb _ ⟨R3.put hi (gB.1 h) hask,fun x hx=>(uQ x).2 (.inr (k1 x hx)),fun t _ _=>(uQ _).2 (.inl rfl),fun hs x hx=>?_⟩⟩) fun h=>⟨rfl,Nb _ ⟨R3,k1,fun t ht hto=>?_,k3⟩⟩⟩
       · rcases (uQ x).1 hx with rfl|hx
         · exact hs i hi _ hask (k3 hs _ (gB.1 h))
         · exact k3 hs x hx
       · rcases Nat.lt_or_ge t k with h'|h'
         · exact k2 t h' hto
         · have:t=k:=by omega
           subst this
           have h':dA o3 (r7.getD t ([],())).1=true:=gB.2 (k1 _ (g1 _ hto))
           have h:dA o3 (r7.getD t ([],())).1=false:=h
           rw [h] at h';cases h'
     · obtain ⟨R3,k1,k2,k3⟩:=hJ
       dsimp only
       refine dI (by omega) ⟨rfl,next _ ⟨R3,fun x hx=>k1 x (g1 x hx),fun j hj s hs hso=>?_,k3⟩⟩
       rcases Nat.lt_or_ge j i with h'|h'
       · exact k1 _ (g2 j h' s hs hso)
       · have:j=i:=by omega
         subst this
         obtain ⟨t,ht,e⟩:=List.getElem_of_mem ((YA.2 s).2 hs)
         have hat:r7.getD t ([],())=(s,()):=by rw [List.getD_eq_getElem?_getD,List.getElem?_eq_getElem ht,e];rfl
         exact k2 t ht (by rw [hat];exact hso)
   · obtain ⟨R2,g1,g2,g3⟩:=hJ
     dsimp only
     refine dI (by omega) ⟨rfl,⟨rd+1,rfl,by omega,R2,?_⟩,by dsimp only;omega⟩
     by_cases hs:shut d out
     · left
       intro i hi s hs' hso
       exact g1 _ (hs i hi s hs' (g3 hs _ hso))
     · right
       rcases hcl with hcl|hcl
       · exact (hs hcl).elim
       · obtain ⟨i,hi⟩:=Classical.not_forall.1 hs
         have hi1:i<d.length:=Classical.byContradiction fun h=>hi fun h'=>(h h').elim
         obtain ⟨s,hs2⟩:=Classical.not_forall.1 fun h=>hi fun _=>h
         have hs3:s∈nS (dQ d i):=Classical.byContradiction fun h=>hs2 fun h'=>(h h').elim
         have hs4:(s,())∈out:=Classical.byContradiction fun h=>hs2 fun _ h'=>(h h').elim
         have hs5:(Sp.nameOf d i,()) ∉ out:=fun h=>hs2 fun _ _=>h
         have:=apB g1 hi1 hs5 (g2 i hi1 s hs3 hs4)
         show rd+1≤ajE d o
         omega
 · have hc:¬ (rd:Int)≤d.length:=fZ hc
   have hl:=R.len
   have hs:shut d out:=by
    rcases hcl with hcl|hcl
    · exact hcl
    · have:=apA d out;omega
   refine ⟨by rw [bW];omega,by show out.length≤1000;omega,fun s=>?_⟩
   rw [gB]
   refine ⟨fun h=>R.reach _ h,fun h=>?_⟩
   show (s,())∈out
   induction h with
   |base hb=>exact R.base _ (gB.1 hb)
   |step _ hj ha ih=>exact hs _ hj _ ha ih
theorem UG:OK xI.e:=by
 refine XA.ok mixed (au [jg.e,qV.e] ⟨rY,OL,trivial⟩) H0 (fun ⟨d,f,g,_⟩ hp=>by obtain ⟨r,h⟩:=ala d hp.2.1 f g;exact ⟨((r,()),()),h⟩) (by kernel_rfl) (show ∀ d a0 a1 a2 a3 a4 b0 b1 b2 b3 b4,xI.goal (UH d a0 a1 a2 a3 a4 b0 b1 b2 b3 b4) (d,(a0,a1,a2,a3,a4,()),(b0,b1,b2,b3,b4,()),()) from ?_)
 intro d a0 a1 a2 a3 a b0 b1 b2 b3 b hin hp
 dsimp only [xI] at hp ⊢
 obtain ⟨h1,h2,h3,h4,h5⟩:=hp
 exact ⟨⟨h1,h3,h4,h5⟩,fun r0 hr0=>⟨⟨h1,h2,by have:=hr0.1;omega⟩,fun r1 hr1=>anw hr0 hr1⟩⟩
theorem akx {c:gm} {s:bT} {d:List aC} (nm:Sp.Bytes→Bool) (h:(ai d&&ax s)=true):∃ c' df,Sp.turned c s d nm c' df true:=by
 obtain ⟨c',df,g⟩:=aeJ c s d nm
 rw [h] at g;exact ⟨c',df,g⟩
theorem zA:OK oW.e:=by
 refine XA.ok mixed (au [yR.e,zX.e] ⟨V4,X4,trivial⟩) H0 (fun ⟨c,s,d,names,_⟩ hp=>by obtain ⟨c',df,h⟩:=akx (c:=c) (dA names) hp.2.2.2;exact ⟨((((c'.1,c'.2.1,c'.2.2.1,c'.2.2.2.1,c'.2.2.2.2.1,()),df,()),())),h⟩) (by kernel_rfl) (show ∀ l0 l1 l2 l3 l4 s0 s1 s2 d names,oW.goal (aeU l0 l1 l2 l3 l4 s0 s1 s2 d names) ((l0,l1,l2,l3,l4,()),(s0,s1,s2,()),d,names,()) from ?_)
 intro a l nx d0 r0 sa sl sn d names hin hp
 dsimp only [oW] at hp ⊢
 obtain ⟨hc,hs,hd,hz⟩:=hp
 have hr:bH r0:=hc.2.2
 refine ⟨⟨hs,hd,hr⟩,?_⟩
 rintro ⟨⟨out,ok,⟨⟩⟩,⟨⟩⟩ ⟨e1,e2⟩
 have e1:ok=(ai d&&ax (sa,sl,sn,())):=e1
 have e2:ok=true→fM sl d r0 (dA names) out:=e2
 have hev:=e2 (e1.trans hz)
 exact ⟨⟨hr,Kw hev hd.1 hs.2.1 hr⟩,fun r3 hr3=>⟨hz.symm,fun _=>⟨rfl,rfl,hev,hr3⟩,fun h=>by cases h⟩⟩
end Go.Proofs.Tryz
