import Derived.Test.YtlbkigkbmeckbaaGreatP23
import Derived.Test.YtlbkigkbmeckbaaGreatL2
import Derived.Test.YtlbkigkbmeckbaaGreatSp
namespace Go.Proofs.Tryz
open Go Go.Fw Go.IntWalk
theorem Ql:ai prog G jT.e:=by
 refine Qm (ak ah ⟨F5,trivial⟩) (fun ⟨d,_⟩ _=>⟨((d,()),()),rfl⟩) ?_
 intro d hin hp
 dsimp only [jT] at hp ⊢
 have hp:Sp.aB d:=hp
 have hlen:d.length≤1000:=hp.1
 refine dR (fun i (x:List Sp.aH)=>(((),i,()),x,())) (fun y=>y.1.2.1) (fun _ _=>rfl) d.length (by omega) (fun n l=>l=d.take n) (by simp) (fun I μ n l hn hJ next=>?_) fun I μ l hJ=>?_
 · subst hJ
   have hl:(d.take n).length≤n:=by rw [List.length_take];omega
   dsimp only
   refine dB (by omega) ⟨⟨by omega,by omega⟩,rD hp hn,by rw [bV];simp only [List.length_cons,List.length_nil];omega,rfl,next _ ?_⟩
   exact (Sp.take_succ' d n ([],[],()) hn).symm
 · subst hJ
   dsimp only
   refine dD (by omega) ?_
   rw [List.take_length]
theorem LW:ai prog G vS.e:=by
 refine adk (ak ah trivial) ?_
 intro nm q x0 x1 hin hp
 dsimp only [vS] at hp ⊢
 exact congrArg (·,()) (Sp.aqH nm x0)
theorem zo:ai prog G fK.e:=by
 refine zq (ak ah ⟨LW,trivial⟩) ?_
 intro d nm q hin hp
 dsimp only [fK] at hp ⊢
 exact amf (K:=fun r=>r=(Sp.findAt (fun o:Sp.aH=>Op.bytesLess nm o.1) d,())) (fun o:Sp.aH=>Op.bytesLess nm o.1) ([],[],()) d _ hin.1.1 rfl
theorem Yg {d:List Sp.aH} {x:Sp.aH} (h:(Sp.bJ d&&Sp.bJ (Sp.jo d x))=false):Sp.bG d x=(d,false):=by
 unfold Sp.bG
 rw [h];rfl
theorem ait {d:List Sp.aH} {x:Sp.aH} (h:(Sp.bJ d&&Sp.bJ (Sp.jo d x))=true):Sp.bG d x=(Sp.jo d x,true):=by
 unfold Sp.bG
 rw [h];rfl
theorem arL {d:List Sp.aH} {x:Sp.aH} (h:(Sp.bG d x).2=true):Sp.bJ d=true∧Sp.bJ (Sp.jo d x)=true∧Sp.bG d x=(Sp.jo d x,true):=by
 cases hb:Sp.bJ d&&Sp.bJ (Sp.jo d x) with
 |false=>rw [Yg hb] at h;cases h
 |true=>
  have:=hb
  rw [Bool.and_eq_true] at this
  exact ⟨this.1,this.2,ait hb⟩
theorem anK {d r:List Sp.aH} {x:Sp.aH} (e:Sp.bJ d=true→r=Sp.jo d x):(Sp.bJ d=false→(d,false)=Sp.bG d x)∧(Sp.bJ d=true→Sp.bJ r=false→(d,false)=Sp.bG d x)∧(Sp.bJ d=true→Sp.bJ r=true→(r,true)=Sp.bG d x):=
 ⟨fun h=>(Yg (by rw [h];rfl)).symm,fun h h'=>(Yg (by rw [← e h,h',Bool.and_false])).symm,fun h h'=>by rw [ait (by rw [← e h,h,h'];rfl),e h]⟩
theorem Yh {d:List Sp.aH} {x:Sp.aH} (h1:Sp.aB d) (h2:d.length≤900) (h3:x.2.1.length≤1000):Sp.aB (Sp.bG d x).1:=by
 cases hb:Sp.bJ d&&Sp.bJ (Sp.jo d x) with
 |false=>rw [Yg hb];exact h1
 |true=>rw [ait hb];exact Sp.af6 h1 (by omega) h3
theorem Qn {α β:Type} {a:α} {b:β} {p:α×β} (h:(a,b)=p):a=p.1∧b=p.2:=by subst h;exact ⟨rfl,rfl⟩
theorem aiu:ai prog G wu.e:=by
 refine aiv (ak ah ⟨Gn,⟨JA,II⟩,zo,LW,F5,Us,Ql,trivial⟩) (fun ⟨d,x,_⟩ _=>⟨(((Sp.bG d x).1,(Sp.bG d x).2,()),()),⟨rfl,rfl⟩⟩) ?_
 intro d x0 x1 hin hp
 dsimp only [wu] at hp ⊢
 obtain ⟨h1,h2,h3⟩:Sp.aB d∧d.length≤900∧x1.length≤1000:=hp
 refine ⟨h1,?_⟩
 rintro ⟨⟨o,⟨⟩⟩,⟨⟩⟩ e
 obtain rfl:o=d:=e
 have fin:∀ r:List Sp.aH,(Sp.bJ o=true→r=Sp.jo o (x0,x1,()))→Sp.aB r→(bif !Sp.bJ o then Sp.aB o∧∀ r1:(List Sp.aH×Unit)×Unit,r1.1.1=o→(r1.1.1=(Sp.bG o (x0,x1,())).1∧false=(Sp.bG o (x0,x1,())).2)
  else Sp.aB r∧bif !Sp.bJ r then Sp.aB o∧∀ r1:(List Sp.aH×Unit)×Unit,r1.1.1=o→(r1.1.1=(Sp.bG o (x0,x1,())).1∧false=(Sp.bG o (x0,x1,())).2) else (r=(Sp.bG o (x0,x1,())).1∧true=(Sp.bG o (x0,x1,())).2)):=fun r hr hs=>by
  obtain ⟨z1,z2,z3⟩:=anK hr
  refine af (fun h=>⟨h1,fun r1 hr1=>?_⟩) fun h=>⟨hs,af (fun h'=>⟨h1,fun r1 hr1=>?_⟩) fun h'=>Qn (z3 (dH h) (dH h'))⟩
  · rw [hr1];exact Qn (z1 (fQ h))
  · rw [hr1];exact Qn (z2 (dH h) (fQ h'))
 refine ⟨trivial,af (fun hc=>?_) fun hc=>⟨trivial,?_⟩⟩
 · have hc:=fD hc
   rcases Sp.xG o x0 with ⟨e,_⟩|⟨n,hn,e,he,_⟩
   · omega
   · rw [e,Int.toNat_natCast]
     dsimp only
     refine ⟨h3,⟨by omega,by omega⟩,hn,h1,fin _ (fun hd=>Sp.arM hd hn he) ⟨by rw [List.length_set];exact h1.1,fun y hy=>?_⟩⟩
     rcases List.mem_or_eq_of_mem_set hy with hy|rfl
     · exact h1.2 y hy
     · exact h3
 · have hc:=fP hc
   have hno:∀ y∈o,y.1≠x0:=by
    rcases Sp.xG o x0 with ⟨_,h⟩|⟨n,hn,e,_⟩
    · exact h
    · omega
   have sm:∀ k,Sp.aB (o.take k++([(x0,x1,())]++o.drop k)):=fun k=>by
    refine ⟨by rw [List.length_append,List.length_append,List.length_take,List.length_drop,List.length_singleton];omega,fun y hy=>?_⟩
    rcases List.mem_append.1 hy with hy|hy
    · exact h1.2 y (List.mem_of_mem_take hy)
    · rcases List.mem_cons.1 hy with rfl|hy
      · exact h3
      · exact h1.2 y (List.mem_of_mem_drop hy)
   dsimp only
   rcases Sp.LX (fun o:Sp.aH=>Op.bytesLess x0 o.1) ([],[],()) o with ⟨g,hg⟩|⟨k,hk,g,gk,hlt⟩
   · rw [g]
     refine dB (by decide) ⟨h3,⟨by omega,by omega,h1.1,rfl⟩,fun r5 Ur=>⟨h1,?_⟩⟩
     rw [Int.toNat_natCast] at Ur
     rw [Ur]
     exact fin _ (fun hd=>Sp.anL hd hno (Nat.le_refl _) (fun i hi=>hg i hi) fun h=>(by omega)) (sm _)
   · rw [g]
     refine dD (by omega) ⟨h3,⟨by omega,by omega,h1.1,rfl⟩,fun r5 Ur=>⟨h1,?_⟩⟩
     rw [Int.toNat_natCast] at Ur
     rw [Ur]
     exact fin _ (fun hd=>Sp.anL hd hno (by omega) (fun i hi=>hlt i hi) fun _=>gk) (sm _)
theorem Qo:ai prog G rY.e:=by
 refine aiw (ak ah ⟨FW,Gm,trivial⟩) (fun ⟨d,x,_⟩ _=>⟨(((Sp.bG d x).1,(Sp.bG d x).2,()),()),⟨rfl,rfl⟩⟩) ?_
 intro d x0 x1 hin hp
 dsimp only [rY] at hp ⊢
 obtain ⟨h1,h2,h3⟩:Sp.aB d∧d.length≤900∧x1.length≤1000:=hp
 refine ⟨h1,af (fun h=>⟨h1,by rw [Yg (by rw [fQ h];rfl)];exact ⟨rfl,rfl⟩⟩) fun hd=>?_⟩
 have hd:=dH hd
 have fin:∀ r:List Sp.aH,r=Sp.jo d (x0,x1,())→Sp.aB r∧(bif !Sp.bJ r then Sp.aB d∧(d=(Sp.bG d (x0,x1,())).1∧false=(Sp.bG d (x0,x1,())).2) else Sp.aB r∧(r=(Sp.bG d (x0,x1,())).1∧true=(Sp.bG d (x0,x1,())).2)):=fun r hr=>by
  have hs:Sp.aB r:=by rw [hr];exact Sp.af6 h1 (by omega) h3
  obtain ⟨_,z2,z3⟩:=anK (d:=d) (r:=r) (x:=(x0,x1,())) fun _=>hr
  exact ⟨hs,af (fun h=>⟨h1,Qn (z2 hd (fQ h))⟩) fun h=>⟨hs,Qn (z3 hd (dH h))⟩⟩
 refine ⟨fun y=>∃ n:Nat,y.1.2.2.1=n∧n≤d.length∧y.1.2.1=decide (Sp.nC d x0<n)∧y.2.1=Sp.vI d (x0,x1,()) n,fun y=>(d.length-y.1.2.2.1).toNat,⟨0,rfl,Nat.zero_le _,(decide_eq_false (Nat.not_lt_zero _)).symm,(if_pos (Nat.zero_le _)).symm⟩,?_⟩
 rintro ⟨⟨_,put,_,⟨⟩⟩,out,⟨⟩⟩ ⟨n,rfl,hn,hput,hout⟩
 have hput:put=decide (Sp.nC d x0<n):=hput
 have hout:out=Sp.vI d (x0,x1,()) n:=hout
 have hlen:=Sp.aoO d (x0,x1,()) n
 rw [← hout] at hlen
 have w:IntKind.i64.wrap ((n:Int)+1)=((n+1:Nat):Int):=fC _ (by omega)
 dsimp only
 rw [w,Int.toNat_natCast]
 refine af (fun hc=>?_) fun hc=>?_
 · have hc:n<d.length:=by have:=fD hc;omega
   refine ⟨fun z=>z.1.1=decide (Sp.nC d x0<n+1)∧z.2.1=(if n=Sp.nC d x0 then out++[(x0,x1,())] else out),?_,?_⟩
   · refine af (fun h=>⟨⟨by omega,by omega⟩,?_⟩) fun h=>⟨rfl,?_,?_⟩
     · have h:=fQ h
       rw [hput,decide_eq_false_iff_not] at h
       refine af (fun hb=>⟨by rw [bV];simp only [List.length_cons,List.length_nil];omega,rfl,?_⟩) fun hb=>⟨rfl,?_⟩
       · have hb:Sp.belowD x0 (Sp.bI d n)=false:=fQ hb
         have e:n=Sp.nC d x0:=by
          rcases Nat.lt_or_ge n (Sp.nC d x0) with h'|h'
          · have:=(Sp.af7 (x:=(x0,x1,())) hc h').2
            rw [hb] at this;cases this
          · omega
         exact ⟨(decide_eq_true (by omega)).symm,(if_pos e).symm⟩
       · have hb:Sp.belowD x0 (Sp.bI d n)=true:=dH hb
         have e:n<Sp.nC d x0:=by
          rcases Nat.lt_or_ge n (Sp.nC d x0) with h'|h'
          · exact h'
          · have:=(Sp.ajO (x:=(x0,x1,())) hc (show n=Sp.nC d x0 by omega)).2
            rw [hb] at this;cases this
         exact ⟨hput.trans (by rw [decide_eq_false (by omega),decide_eq_false (by omega)]),(if_neg (by omega)).symm⟩
     · have h:=dH h
       rw [hput,decide_eq_true_eq] at h
       exact hput.trans (by rw [decide_eq_true (by omega),decide_eq_true (by omega)])
     · have h:=dH h
       rw [hput,decide_eq_true_eq] at h
       exact (if_neg (by omega)).symm
   · rintro ⟨⟨p3,⟨⟩⟩,o3,⟨⟩⟩ ⟨g1,g2⟩
     have g1:p3=decide (Sp.nC d x0<n+1):=g1
     have g2:o3=(if n=Sp.nC d x0 then out++[(x0,x1,())] else out):=g2
     have l3:o3.length≤n+2:=by
      rw [g2]
      split
      · rw [List.length_append,List.length_singleton];omega
      · omega
     have step:Sp.vI d (x0,x1,()) (n+1)=o3++(bif Sp.vJ x0 (Sp.bI d n) then [Sp.bI d n] else []):=by
      rw [g2]
      rcases Nat.lt_trichotomy n (Sp.nC d x0) with h'|h'|h'
      · obtain ⟨e1,e2⟩:=Sp.af7 (x:=(x0,x1,())) hc h'
        have:Sp.vJ x0 (Sp.bI d n)=true:=by
         unfold Sp.vJ
         rw [beq_eq_false_iff_ne.2 (Sp.Ko e2)];rfl
        rw [e1,if_neg (by omega),this,hout];rfl
      · obtain ⟨e1,_⟩:=Sp.ajO (x:=(x0,x1,())) hc h'
        rw [e1,if_pos h',hout,List.append_assoc];rfl
      · rw [Sp.am3 (x:=(x0,x1,())) hc h',if_neg (by omega),hout]
     refine ⟨⟨by omega,by omega⟩,af (fun h=>⟨⟨by omega,by omega⟩,by rw [bV];simp only [List.length_cons,List.length_nil];omega,rfl,⟨n+1,rfl,hc,g1,?_⟩,by omega⟩) fun h=>⟨rfl,⟨n+1,rfl,hc,g1,?_⟩,by omega⟩⟩
     · have h:Sp.vJ x0 (Sp.bI d n)=true:=h
       rw [step,h];rfl
     · have h:Sp.vJ x0 (Sp.bI d n)=false:=h
       rw [step,h];exact (List.append_nil _).symm
 · have hc:n=d.length:=by have:=fP hc;omega
   have e:=Sp.aoP (d:=d) (x:=(x0,x1,()))
   rw [hc] at hput hout
   rw [← hout] at e
   dsimp only at e
   refine af (fun h=>⟨by rw [bV];simp only [List.length_cons,List.length_nil];omega,?_⟩) fun h=>?_
   · have h:=fQ h
     rw [hput,decide_eq_false_iff_not] at h
     rw [if_pos (by omega)] at e
     exact fin _ e.symm
   · have h:=dH h
     rw [hput,decide_eq_true_eq] at h
     rw [if_neg (by omega)] at e
     exact fin _ e.symm
end Go.Proofs.Tryz
