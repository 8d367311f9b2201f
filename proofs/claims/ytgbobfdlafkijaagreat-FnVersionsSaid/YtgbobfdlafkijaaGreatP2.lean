import Derived.Test.YtgbobfdlafkijaaGreatV2
import Derived.Test.YtgbobfdlafkijaaGreatP1
import Derived.Test.YtgbobfdlafkijaaGreatFwC
import Derived.Test.YtgbobfdlafkijaaGreatSp
namespace Go.Proofs.Tryz
open Go Go.Fw Go.IntWalk
theorem agJ:aC prog G Am Dl:=by
 refine agK (aF (l:=[(eP, .eff (ai dG) dN)]) (ay ah) (by simp only [List.forall_mem_cons];exact ⟨⟨oh,mF⟩,fun x hx=>by cases hx⟩)) (fun _ _=>⟨((([]:List UInt8),()),(([],0,0,()),())),⟨by decide,by decide⟩⟩) ?_
 intro b i h hin hp
 have hp:0≤i:=hp
 repeat' first
  |exact trivial
  |refine af (fun _=>?_) fun _=>?_
  |refine And.intro ?_ ?_
  |(intro r hr;simp only [] at hr)
  |intro r hr
 all_goals first
  |omega
  |(dsimp only at*;omega)
  |exact hr
  |(simp only [beq_eq_false_iff_ne,ne_eq] at*;omega)
  |(simp only [List.length_set,List.length_take,List.length_append,List.length_cons,List.length_nil];omega)
  |(rw [gy];simp only [List.length_set,List.length_take,List.length_append,List.length_cons,List.length_nil];omega)
  |(simp only [List.length_set,List.length_take,List.length_append,List.length_cons,List.length_nil] at*;omega)
  |exact (show ∀ y∈_,List.length y.1≤10 from by decide) _ hr.2
  |(simp;done)
  |skip
theorem YA:aC prog G xW xJ:=by
 refine amI (aF (l:=[(Am, .eff (ai uh) Dl),(jh, .pure iZ),(nS, .pure mZ),(eP, .eff (ai dG) dN),(aU, .eff (ai aQ) aP)]) (ay ah) (by simp only [List.forall_mem_cons];exact ⟨⟨agJ,ad2⟩,⟨Du,Bq⟩,⟨MK,KU⟩,⟨oh,mF⟩,⟨dQ,dA⟩,fun x hx=>by cases hx⟩)) (fun _ _=>⟨((((0:Int),(0:Int),(0:Int),([]:List UInt8),(0:Int),(0:Int),([]:List UInt8),()),()),(([],0,0,()),())),⟨by decide,trivial⟩⟩) ?_
 intro b i h hin hp
 have hp:0≤i:=hp
 repeat' first
  |exact trivial
  |refine af (fun _=>?_) fun _=>?_
  |refine And.intro ?_ ?_
  |(intro r hr;simp only [] at hr)
  |intro r hr
 all_goals first
  |omega
  |(dsimp only at*;omega)
  |exact hr
  |(simp only [beq_eq_false_iff_ne,ne_eq] at*;omega)
  |(simp only [List.length_set,List.length_take,List.length_append,List.length_cons,List.length_nil];omega)
  |(rw [gy];simp only [List.length_set,List.length_take,List.length_append,List.length_cons,List.length_nil];omega)
  |(simp only [List.length_set,List.length_take,List.length_append,List.length_cons,List.length_nil] at*;omega)
  |exact (show ∀ y∈_,List.length y.1≤10 from by decide) _ hr.2
  |(simp;done)
  |skip
theorem aaF [YD] (aci:aC prog G Dt Fv):aC prog G O9 Lj:=by
 refine aaG (aF (l:=[(Dt, .eff (ai uX) Fv),(aU, .eff (ai aQ) aP),(xW, .eff (ai qQ) xJ),(jU, .eff (ai iP) jw)]) (ay ah) (by simp only [List.forall_mem_cons];exact ⟨⟨aci,Z7⟩,⟨dQ,dA⟩,⟨YA,Ws⟩,⟨Eo,C9⟩,fun x hx=>by cases hx⟩)) (fun ⟨_,q,deep,_,_⟩ _=>⟨((q++[(0,0,0,[],0,0,[],())],()),(([],0,0,()),())),⟨by decide,by simp,by simp⟩⟩) ?_
 intro b i h q deep not hin hp
 obtain ⟨⟨hp1,hp2,hp3,hp4⟩,hp5⟩:=hp
 have hw:IntKind.i64.wrap (deep-1)=deep-1:=iI _ (by omega)
 refine ⟨fun y=>0≤y.2.1.2.1∧0<deep,?_⟩
 dsimp only
 rw [hw]
 repeat' first
  |exact trivial
  |refine af (fun _=>?_) fun _=>?_
  |refine And.intro ?_ ?_
  |(intro r hr;simp only [] at hr)
  |intro r hr
 all_goals first
  |omega
  |(dsimp only at*;omega)
  |exact hr
  |(simp only [beq_eq_false_iff_ne,ne_eq] at*;omega)
  |(simp only [List.length_set,List.length_take,List.length_append,List.length_cons,List.length_nil];omega)
  |(rw [gy];simp only [List.length_set,List.length_take,List.length_append,List.length_cons,List.length_nil];omega)
  |(simp only [List.length_set,List.length_take,List.length_append,List.length_cons,List.length_nil] at*;omega)
  |exact (show ∀ y∈_,List.length y.1≤10 from by decide) _ hr.2
  |(simp;done)
  |skip
theorem amJ:aC prog G aon ajn:=
 awC (fun n=>@PS ⟨n⟩) (fun n=>@AA ⟨n⟩) (by rintro ⟨⟨b,i,h,⟨⟩⟩,q,deep,not,⟨⟩⟩ h;exact Nat.not_lt_zero _ h.2) (by rintro _ ⟨⟨b,i,h,⟨⟩⟩,q,deep,not,⟨⟩⟩;rfl) (by rintro ⟨⟨b,i,h,⟨⟩⟩,q,deep,not,⟨⟩⟩ h;exact ⟨_,h,Nat.lt_succ_self _⟩) (by rintro _ ⟨⟨b,i,h,⟨⟩⟩,q,deep,not,⟨⟩⟩;rfl) fun n h=>@aaF ⟨n⟩ h
theorem Py:aC prog G rP uj:=
 au7 (F:=Zz) (F':=PU) (by decide) amJ (fun a x h=>⟨h.1,h.2.1,h.2.2,(show ∀ z:Int,0≤z→z≤4→0+2*z.toNat≤900 from fun z _ _=>by omega) _ h.2.1 h.2.2⟩) fun a x h=>rfl
theorem ael:aC prog G yT AB:=by
 refine aem (aF (l:=[(rP, .eff (ai l9) uj),(aU, .eff (ai aQ) aP)]) (ay ah) (by simp only [List.forall_mem_cons];exact ⟨⟨Py,NK⟩,⟨dQ,dA⟩,fun x hx=>by cases hx⟩)) (fun _ _=>⟨(([(0,0,0,[],0,0,[],())],()),(([],0,0,()),())),⟨by decide,by decide,by decide⟩⟩) ?_
 intro b i h hin hp
 have hp:0≤i:=hp
 repeat' first
  |exact trivial
  |refine af (fun _=>?_) fun _=>?_
  |refine And.intro ?_ ?_
  |(intro r hr;simp only [] at hr)
  |intro r hr
 all_goals first
  |omega
  |(dsimp only at*;omega)
  |exact hr
  |(simp only [beq_eq_false_iff_ne,ne_eq] at*;omega)
  |(simp only [List.length_set,List.length_take,List.length_append,List.length_cons,List.length_nil];omega)
  |(rw [gy];simp only [List.length_set,List.length_take,List.length_append,List.length_cons,List.length_nil];omega)
  |(simp only [List.length_set,List.length_take,List.length_append,List.length_cons,List.length_nil] at*;omega)
  |exact (show ∀ y∈_,List.length y.1≤10 from by decide) _ hr.2
  |(simp;done)
  |skip
theorem Iu:aC prog G jK kz:=by
 refine Td (aF (l:=[(rP, .eff (ai l9) uj),(aU, .eff (ai aQ) aP)]) (ay ah) (by simp only [List.forall_mem_cons];exact ⟨⟨Py,NK⟩,⟨dQ,dA⟩,fun x hx=>by cases hx⟩)) (fun _ _=>⟨(([(0,0,0,[],0,0,[],())],()),(([],0,0,()),())),⟨by decide,by decide,by decide⟩⟩) ?_
 intro b i h hin hp
 have hp:0≤i:=hp
 repeat' first
  |exact trivial
  |refine af (fun _=>?_) fun _=>?_
  |refine And.intro ?_ ?_
  |(intro r hr;simp only [] at hr)
  |intro r hr
 all_goals first
  |omega
  |(dsimp only at*;omega)
  |exact hr
  |(simp only [beq_eq_false_iff_ne,ne_eq] at*;omega)
  |(simp only [List.length_set,List.length_take,List.length_append,List.length_cons,List.length_nil];omega)
  |(rw [gy];simp only [List.length_set,List.length_take,List.length_append,List.length_cons,List.length_nil];omega)
  |(simp only [List.length_set,List.length_take,List.length_append,List.length_cons,List.length_nil] at*;omega)
  |exact (show ∀ y∈_,List.length y.1≤10 from by decide) _ hr.2
  |(simp;done)
  |skip
theorem aoK:aC prog G Ig Ji:=by
 refine aoL (aF (l:=[(Ac, .eff (ai tZ) zy),(xW, .eff (ai qQ) xJ),(eP, .eff (ai dG) dN),(eX, .eff (ai dI) dX),(aU, .eff (ai aQ) aP),(yT, .eff (ai rG) AB)]) (ay ah) (by simp only [List.forall_mem_cons];exact ⟨⟨aal,Yn⟩,⟨YA,Ws⟩,⟨oh,mF⟩,⟨pI,nP⟩,⟨dQ,dA⟩,⟨ael,abE⟩,fun x hx=>by cases hx⟩)) (fun _ _=>⟨(([],()),(([],0,0,()),())),⟨by decide,by decide⟩⟩) ?_
 intro b i h hin hp
 have hp:0≤i:=hp
 repeat' first
  |exact trivial
  |refine af (fun _=>?_) fun _=>?_
  |refine And.intro ?_ ?_
  |(intro r hr;simp only [] at hr)
  |intro r hr
 all_goals first
  |omega
  |(dsimp only at*;omega)
  |exact hr
  |(simp only [beq_eq_false_iff_ne,ne_eq] at*;omega)
  |(simp only [List.length_set,List.length_take,List.length_append,List.length_cons,List.length_nil];omega)
  |(rw [gy];simp only [List.length_set,List.length_take,List.length_append,List.length_cons,List.length_nil];omega)
  |(simp only [List.length_set,List.length_take,List.length_append,List.length_cons,List.length_nil] at*;omega)
  |exact (show ∀ y∈_,List.length y.1≤10 from by decide) _ hr.2
  |(simp;done)
  |skip
theorem Et:Sp.bY []:=⟨by simp,fun x hx=>by cases hx⟩
theorem ab6 {d:List Sp.gK} {x:Sp.gK} (h:Sp.bY d) (hl:d.length<1000) (hx:x.2.1.length≤1000):Sp.bY (d++[x]):=
 ⟨by simp;omega,fun y hy=>by rcases List.mem_append.1 hy with hy|hy;exact h.2 y hy;rw [List.mem_singleton.1 hy];exact hx⟩
theorem amK {d:List Sp.gK} {x:Sp.gK} (n:Nat) (h:Sp.bY d) (hx:x.2.1.length≤1000):Sp.bY (d.set n x):=
 ⟨by simp;exact h.1,fun y hy=>by rcases List.mem_or_eq_of_mem_set hy with hy|hy;exact h.2 y hy;rw [hy];exact hx⟩
theorem as5 {d:List Sp.gK} (n:Nat) (h:Sp.bY d):Sp.bY (d.take n):=
 ⟨by rw [List.length_take];have:=h.1;omega,fun y hy=>h.2 y (List.mem_of_mem_take hy)⟩
theorem avs {d:List Sp.gK} (h:Sp.bY d) {n:Nat} (hn:n<d.length):(d.getD n ([],[],())).2.1.length≤1000:=h.2 _ (getD_mem hn)
theorem Yy:aC prog G xX xK:=by
 refine amL (aF (l:=[(jK, .eff (ai iG) kz),(aU, .eff (ai aQ) aP)]) (ay ah) (by simp only [List.forall_mem_cons];exact ⟨⟨Iu,Gv⟩,⟨dQ,dA⟩,fun x hx=>by cases hx⟩)) (fun _ _=>⟨(([([],[],())],()),(([],0,0,()),())),⟨by decide,by decide,by decide,by decide,by decide⟩⟩) ?_
 intro b i h hin hp
 have hp:0≤i:=hp
 refine ⟨fun y=>0≤y.2.1.2.1∧y.1.2.1=y.2.2.1.length∧y.2.2.1.length≤4∧Sp.bY y.2.2.1,fun y=>(4-y.1.2.1).toNat,⟨hp,rfl,by simp,Et⟩,?_⟩
 rintro ⟨⟨_,k,_⟩,⟨b1,i1,h1,_⟩,l,_⟩ ⟨q1,q2,q3,q4⟩
 dsimp only at q1 q2 q3 q4 ⊢
 refine ⟨q1,?_⟩
 rintro ⟨⟨r,_⟩,⟨b2,i2,h2,_⟩,_⟩ ⟨e1,e2,e3,_⟩
 dsimp only at e1 e2 e3 ⊢
 have e3:=e3 (by omega)
 rw [iI (1+r) (by omega),iI (k+1) (by omega)]
 refine af (fun hc=>?_) fun hc=>?_
 · have hc:=iO hc
   refine ⟨⟨by omega,by simp only [List.length_cons,List.length_nil];omega⟩,by simp only [List.length_cons,List.length_nil];omega,e1,?_⟩
   rintro ⟨⟨x,_⟩,⟨b3,i3,h3,_⟩,_⟩ ⟨g1,g2,g3⟩
   dsimp only at g1 g2 g3 ⊢
   refine ⟨by rw [gy];simp only [List.length_cons,List.length_nil];omega,rfl,⟨g1,by simp;omega,by simp;omega,ab6 q4 (by omega) (by dsimp only;omega)⟩,by omega⟩
 · have hc:=ji hc
   exact ⟨e1,by omega,by omega,q4⟩
theorem aoH:aC prog G Ih Jj:=by
 refine aoM (aF (l:=[(jK, .eff (ai iG) kz),(Ig, .eff (ai BM) Ji),(eP, .eff (ai dG) dN),(aU, .eff (ai aQ) aP),(xX, .eff (ai qR) xK)]) (ay ah) (by simp only [List.forall_mem_cons];exact ⟨⟨Iu,Gv⟩,⟨aoK,amb⟩,⟨oh,mF⟩,⟨dQ,dA⟩,⟨Yy,Wu⟩,fun x hx=>by cases hx⟩)) (fun _ _=>⟨(([],()),(([],0,0,()),())),⟨by decide,by decide,Et⟩⟩) ?_
 intro b i h hin hp
 have hp:0≤i:=hp
 refine ⟨hp,?_⟩
 rintro ⟨⟨d,_⟩,⟨b1,i1,h1,_⟩,_⟩ ⟨q1,q2,q3,q4⟩
 dsimp only at q1 q2 q3 q4 ⊢
 refine ⟨q1,?_⟩
 rintro ⟨⟨r,_⟩,⟨b2,i2,h2,_⟩,_⟩ ⟨e1,e2,e3,_⟩
 dsimp only at e1 e2 e3 ⊢
 have e3:=e3 (by omega)
 refine ⟨e1,?_⟩
 rintro ⟨⟨s,_⟩,⟨b3,i3,h3,_⟩,_⟩ ⟨f1,f2,f3,_⟩
 dsimp only at f1 f2 f3 ⊢
 have hn:r.toNat<d.length:=by omega
 refine af (fun _=>⟨⟨f1,by simp⟩,?_⟩) fun _=>af (fun _=>⟨f1,?_⟩) fun _=>af (fun _=>?_) fun _=>af (fun _=>?_) fun _=>?_
 · rintro ⟨⟨x,_⟩,⟨b4,i4,h4,_⟩,_⟩ ⟨g1,g2⟩
   exact ⟨⟨e2,e3⟩,hn,g1,by simp;omega,amK _ q4 (avs q4 hn)⟩
 · rintro ⟨⟨x,_⟩,⟨b4,i4,h4,_⟩,_⟩ ⟨g1,g2⟩
   exact ⟨⟨e2,e3⟩,hn,g1,by simp;omega,amK _ q4 (by dsimp only at g2 ⊢;omega)⟩
 · refine ⟨fun y=>0≤y.2.1.2.1∧y.2.2.1.length≤6∧Sp.bY y.2.2.1,fun y=>6-y.2.2.1.length,⟨f1,by dsimp only;omega,q4⟩,?_⟩
   rintro ⟨_,⟨b4,i4,h4,_⟩,l,_⟩ ⟨g1,g2,g3⟩
   dsimp only at g1 g2 g3 ⊢
   refine ⟨g1,?_⟩
   rintro ⟨⟨r',_⟩,⟨b5,i5,h5,_⟩,_⟩ ⟨k1,k2,k3,_⟩
   dsimp only at k1 k2 k3 ⊢
   have k3:=k3 (by omega)
   rw [iI (5+r') (by omega)]
   refine af (fun hc=>?_) fun hc=>?_
   · have hc:=iO hc
     refine ⟨⟨by omega,by simp only [List.length_cons,List.length_nil];omega⟩,k1,?_⟩
     rintro ⟨⟨x,_⟩,⟨b6,i6,h6,_⟩,_⟩ ⟨m1,m2,m3⟩
     dsimp only at m1 m2 m3 ⊢
     refine ⟨by rw [gy];simp only [List.length_cons,List.length_nil];omega,rfl,⟨m1,by simp;omega,ab6 g3 (by omega) (by dsimp only;omega)⟩,by simp;omega⟩
   · exact ⟨k1,by omega,g3⟩
 · exact ⟨f1,by simp,Et⟩
 · exact ⟨f1,by omega,q4⟩
end Go.Proofs.Tryz
