import Derived.Test.YtkgkfdphbkfjnaaGreatP23
import Derived.Test.YtkgkfdphbkfjnaaGreatL2
import Derived.Test.YtkgkfdphbkfjnaaGreatSp
namespace Go.Proofs.Tryz
open Go Go.Fw Go.IntWalk Sp
theorem Ir:OK qo.e:=by
 refine XA.ok mixed (au [wC.e] ⟨Jj,trivial⟩) UJ (fun ⟨d,_⟩ _=>⟨((d,()),()),rfl⟩) (by kernel_rfl) (show ∀ d,qo.goal (SB d) (d,()) from ?_)
 intro d hin hp
 dsimp only [qo] at hp ⊢
 have hp:aA d:=hp
 have hlen:d.length≤1000:=hp.1
 refine dN (fun i (x:List aC)=>(((),i,()),x,())) (fun y=>y.1.2.1) (fun _ _=>rfl) d.length (by omega) (fun n l=>l=d.take n) (by simp) (fun I μ n l hn hJ next=>?_) fun I μ l hJ=>?_
 · subst hJ
   have hl:(d.take n).length≤n:=by rw [List.length_take];omega
   dsimp only
   refine dH (by omega) ⟨⟨by omega,by omega⟩,mV hp hn,by rw [bW];simp only [List.length_cons,List.length_nil];omega,rfl,next _ ?_⟩
   exact (Sp.take_succ' d n ([],[],()) hn).symm
 · subst hJ
   dsimp only
   refine dI (by omega) ?_
   rw [List.take_length]
theorem OO:OK yX.e:=by
 refine PA.ok mixed (au [] trivial) H0 (by kernel_rfl) (show ∀ o0 o1 p10 p11,yX.goal (acO o0 o1 p10 p11) ((o0,o1,()),(p10,p11,()),()) from ?_)
 intro nm q x0 x1 hin hp
 dsimp only [yX] at hp ⊢
 exact congrArg (·,()) (aov nm x0)
theorem zQ:OK iF.e:=by
 refine PA.ok mixed (au [yX.e] ⟨OO,trivial⟩) BB (by kernel_rfl) (show ∀ s mJ amk,iF.goal (zS s mJ amk) (s,((mJ,amk,()),()),()) from ?_)
 intro d nm q hin hp
 dsimp only [iF] at hp ⊢
 exact Yk (K:=fun r=>r=(Sp.findAt (fun o:aC=>Op.bytesLess nm o.1) d,())) (fun o:aC=>Op.bytesLess nm o.1) ([],[],()) d _ hin.1.1 rfl
theorem YD {d:List aC} {x:aC} (h:(bF d&&bF (jL d x))=false):bY d x=(d,false):=by
 unfold bY
 rw [h];rfl
theorem agI {d:List aC} {x:aC} (h:(bF d&&bF (jL d x))=true):bY d x=(jL d x,true):=by
 unfold bY
 rw [h];rfl
theorem apD {d:List aC} {x:aC} (h:(bY d x).2=true):bF d=true∧bF (jL d x)=true∧bY d x=(jL d x,true):=by
 cases hb:bF d&&bF (jL d x) with
 |false=>rw [YD hb] at h;cases h
 |true=>
  have:=hb
  rw [Bool.and_eq_true] at this
  exact ⟨this.1,this.2,agI hb⟩
theorem ale {d r:List aC} {x:aC} (e:bF d=true→r=jL d x):(bF d=false→(d,false)=bY d x)∧(bF d=true→bF r=false→(d,false)=bY d x)∧(bF d=true→bF r=true→(r,true)=bY d x):=
 ⟨fun h=>(YD (by rw [h];rfl)).symm,fun h h'=>(YD (by rw [← e h,h',Bool.and_false])).symm,fun h h'=>by rw [agI (by rw [← e h,h,h'];rfl),e h]⟩
theorem YE {d:List aC} {x:aC} (h1:aA d) (h2:d.length≤900) (h3:x.2.1.length≤1000):aA (bY d x).1:=by
 cases hb:bF d&&bF (jL d x) with
 |false=>rw [YD hb];exact h1
 |true=>rw [agI hb];exact aeZ h1 (by omega) h3
theorem BD {α β:Type} {a:α} {b:β} {p:α×β} (h:(a,b)=p):a=p.1∧b=p.2:=by subst h;exact ⟨rfl,rfl⟩
theorem agJ:OK GZ.e:=by
 refine XA.ok mixed (au [oP.e,(wX, .eff (Dt pR) Dq),iF.e,yX.e,wC.e,AO.e,qo.e] ⟨D9,⟨MP,Le⟩,zQ,OO,Jj,LC,Ir,trivial⟩) ah8 (fun ⟨d,x,_⟩ _=>⟨(((bY d x).1,(bY d x).2,()),()),⟨rfl,rfl⟩⟩) (by kernel_rfl) (show ∀ d x0 x1,GZ.goal (agK d x0 x1) (d,(x0,x1,()),()) from ?_)
 intro d x0 x1 hin hp
 dsimp only [GZ] at hp ⊢
 obtain ⟨h1,h2,h3⟩:aA d∧d.length≤900∧x1.length≤1000:=hp
 refine ⟨h1,?_⟩
 rintro ⟨⟨o,⟨⟩⟩,⟨⟩⟩ e
 obtain rfl:o=d:=e
 have fin:∀ r:List aC,(bF o=true→r=jL o (x0,x1,()))→aA r→(bif !bF o then aA o∧∀ r1:(List aC×Unit)×Unit,r1.1.1=o→(r1.1.1=(bY o (x0,x1,())).1∧false=(bY o (x0,x1,())).2)
  else aA r∧bif !bF r then aA o∧∀ r1:(List aC×Unit)×Unit,r1.1.1=o→(r1.1.1=(bY o (x0,x1,())).1∧false=(bY o (x0,x1,())).2) else (r=(bY o (x0,x1,())).1∧true=(bY o (x0,x1,())).2)):=fun r hr hs=>by
  obtain ⟨z1,z2,z3⟩:=ale hr
  refine af (fun h=>⟨h1,fun r1 hr1=>?_⟩) fun h=>⟨hs,af (fun h'=>⟨h1,fun r1 hr1=>?_⟩) fun h'=>BD (z3 (bU h) (bU h'))⟩
  · rw [hr1];exact BD (z1 (dS h))
  · rw [hr1];exact BD (z2 (bU h) (dS h'))
 refine ⟨trivial,af (fun hc=>?_) fun hc=>⟨trivial,?_⟩⟩
 · have hc:=fJ hc
   rcases pK o x0 with ⟨e,_⟩|⟨n,hn,e,he,_⟩
   · omega
   · rw [e,Int.toNat_natCast]
     dsimp only
     refine ⟨h3,⟨by omega,by omega⟩,hn,h1,fin _ (fun hd=>apE hd hn he) ⟨by rw [List.length_set];exact h1.1,fun y hy=>?_⟩⟩
     rcases List.mem_or_eq_of_mem_set hy with hy|rfl
     · exact h1.2 y hy
     · exact h3
 · have hc:=fZ hc
   have hno:∀ y∈o,y.1≠x0:=by
    rcases pK o x0 with ⟨_,h⟩|⟨n,hn,e,_⟩
    · exact h
    · omega
   have sm:∀ k,aA (o.take k++([(x0,x1,())]++o.drop k)):=fun k=>by
    refine ⟨by rw [List.length_append,List.length_append,List.length_take,List.length_drop,List.length_singleton];omega,fun y hy=>?_⟩
    rcases List.mem_append.1 hy with hy|hy
    · exact h1.2 y (List.mem_of_mem_take hy)
    · rcases List.mem_cons.1 hy with rfl|hy
      · exact h3
      · exact h1.2 y (List.mem_of_mem_drop hy)
   dsimp only
   rcases OQ (fun o:aC=>Op.bytesLess x0 o.1) ([],[],()) o with ⟨g,hg⟩|⟨k,hk,g,gk,hlt⟩
   · rw [g]
     refine dH (by decide) ⟨h3,⟨by omega,by omega,h1.1,rfl⟩,fun r5 hr5=>⟨h1,?_⟩⟩
     rw [Int.toNat_natCast] at hr5
     rw [hr5]
     exact fin _ (fun hd=>alf hd hno (Nat.le_refl _) (fun i hi=>hg i hi) fun h=>(by omega)) (sm _)
   · rw [g]
     refine dI (by omega) ⟨h3,⟨by omega,by omega,h1.1,rfl⟩,fun r5 hr5=>⟨h1,?_⟩⟩
     rw [Int.toNat_natCast] at hr5
     rw [hr5]
     exact fin _ (fun hd=>alf hd hno (by omega) (fun i hi=>hlt i hi) fun _=>gk) (sm _)
theorem agL:OK G5.e:=by
 refine XA.ok mixed (au [rP.e,oO.e] ⟨Ep,D8,trivial⟩) ah9 (fun ⟨d,x,_⟩ _=>⟨(((bY d x).1,(bY d x).2,()),()),⟨rfl,rfl⟩⟩) (by kernel_rfl) (show ∀ d x0 x1,G5.goal (agM d x0 x1) (d,(x0,x1,()),()) from ?_)
 intro d x0 x1 hin hp
 dsimp only [G5] at hp ⊢
 obtain ⟨h1,h2,h3⟩:aA d∧d.length≤900∧x1.length≤1000:=hp
 refine ⟨h1,af (fun h=>⟨h1,by rw [YD (by rw [dS h];rfl)];exact ⟨rfl,rfl⟩⟩) fun hd=>?_⟩
 have hd:=bU hd
 have fin:∀ r:List aC,r=jL d (x0,x1,())→aA r∧(bif !bF r then aA d∧(d=(bY d (x0,x1,())).1∧false=(bY d (x0,x1,())).2) else aA r∧(r=(bY d (x0,x1,())).1∧true=(bY d (x0,x1,())).2)):=fun r hr=>by
  have hs:aA r:=by rw [hr];exact aeZ h1 (by omega) h3
  obtain ⟨_,z2,z3⟩:=ale (d:=d) (r:=r) (x:=(x0,x1,())) fun _=>hr
  exact ⟨hs,af (fun h=>⟨h1,BD (z2 hd (dS h))⟩) fun h=>⟨hs,BD (z3 hd (bU h))⟩⟩
 refine ⟨fun y=>∃ n:Nat,y.1.2.2.1=n∧n≤d.length∧y.1.2.1=decide (mW d x0<n)∧y.2.1=tX d (x0,x1,()) n,fun y=>(d.length-y.1.2.2.1).toNat,⟨0,rfl,Nat.zero_le _,(decide_eq_false (Nat.not_lt_zero _)).symm,(if_pos (Nat.zero_le _)).symm⟩,?_⟩
 rintro ⟨⟨_,put,_,⟨⟩⟩,out,⟨⟩⟩ ⟨n,rfl,hn,hput,hout⟩
 have hput:put=decide (mW d x0<n):=hput
 have hout:out=tX d (x0,x1,()) n:=hout
 have hlen:=aml d (x0,x1,()) n
 rw [← hout] at hlen
 have w:IntKind.i64.wrap ((n:Int)+1)=((n+1:Nat):Int):=fF _ (by omega)
 dsimp only
 rw [w,Int.toNat_natCast]
 refine af (fun hc=>?_) fun hc=>?_
 · have hc:n<d.length:=by have:=fJ hc;omega
   refine ⟨fun z=>z.1.1=decide (mW d x0<n+1)∧z.2.1=(if n=mW d x0 then out++[(x0,x1,())] else out),?_,?_⟩
   · refine af (fun h=>⟨⟨by omega,by omega⟩,?_⟩) fun h=>⟨rfl,?_,?_⟩
     · have h:=dS h
       rw [hput,decide_eq_false_iff_not] at h
       refine af (fun hb=>⟨by rw [bW];simp only [List.length_cons,List.length_nil];omega,rfl,?_⟩) fun hb=>⟨rfl,?_⟩
       · have hb:Sp.belowD x0 (bG d n)=false:=dS hb
         have e:n=mW d x0:=by
          rcases Nat.lt_or_ge n (mW d x0) with h'|h'
          · have:=(ae0 (x:=(x0,x1,())) hc h').2
            rw [hb] at this;cases this
          · omega
         exact ⟨(decide_eq_true (by omega)).symm,(if_pos e).symm⟩
       · have hb:Sp.belowD x0 (bG d n)=true:=bU hb
         have e:n<mW d x0:=by
          rcases Nat.lt_or_ge n (mW d x0) with h'|h'
          · exact h'
          · have:=(ahz (x:=(x0,x1,())) hc (show n=mW d x0 by omega)).2
            rw [hb] at this;cases this
         exact ⟨hput.trans (by rw [decide_eq_false (by omega),decide_eq_false (by omega)]),(if_neg (by omega)).symm⟩
     · have h:=bU h
       rw [hput,decide_eq_true_eq] at h
       exact hput.trans (by rw [decide_eq_true (by omega),decide_eq_true (by omega)])
     · have h:=bU h
       rw [hput,decide_eq_true_eq] at h
       exact (if_neg (by omega)).symm
   · rintro ⟨⟨p3,⟨⟩⟩,o3,⟨⟩⟩ ⟨g1,g2⟩
     have g1:p3=decide (mW d x0<n+1):=g1
     have g2:o3=(if n=mW d x0 then out++[(x0,x1,())] else out):=g2
     have l3:o3.length≤n+2:=by
      rw [g2]
      split
      · rw [List.length_append,List.length_singleton];omega
      · omega
     have step:tX d (x0,x1,()) (n+1)=o3++(bif jY x0 (bG d n) then [bG d n] else []):=by
      rw [g2]
      rcases Nat.lt_trichotomy n (mW d x0) with h'|h'|h'
      · obtain ⟨e1,e2⟩:=ae0 (x:=(x0,x1,())) hc h'
        have:jY x0 (bG d n)=true:=by
         unfold jY
         rw [beq_eq_false_iff_ne.2 (Iq e2)];rfl
        rw [e1,if_neg (by omega),this,hout];rfl
      · obtain ⟨e1,_⟩:=ahz (x:=(x0,x1,())) hc h'
        rw [e1,if_pos h',hout,List.append_assoc];rfl
      · rw [aky (x:=(x0,x1,())) hc h',if_neg (by omega),hout]
     refine ⟨⟨by omega,by omega⟩,af (fun h=>⟨⟨by omega,by omega⟩,by rw [bW];simp only [List.length_cons,List.length_nil];omega,rfl,⟨n+1,rfl,hc,g1,?_⟩,by omega⟩) fun h=>⟨rfl,⟨n+1,rfl,hc,g1,?_⟩,by dsimp only;omega⟩⟩
     · have h:jY x0 (bG d n)=true:=h
       rw [step,h];rfl
     · have h:jY x0 (bG d n)=false:=h
       rw [step,h];exact (List.append_nil _).symm
 · have hc:n=d.length:=by have:=fZ hc;omega
   have e:=amm (d:=d) (x:=(x0,x1,()))
   rw [hc] at hput hout
   rw [← hout] at e
   dsimp only at e
   refine af (fun h=>⟨by rw [bW];simp only [List.length_cons,List.length_nil];omega,?_⟩) fun h=>?_
   · have h:=dS h
     rw [hput,decide_eq_false_iff_not] at h
     rw [if_pos (by omega)] at e
     exact fin _ e.symm
   · have h:=bU h
     rw [hput,decide_eq_true_eq] at h
     rw [if_neg (by omega)] at e
     exact fin _ e.symm
end Go.Proofs.Tryz
