import Derived.Test.YtgbobfdlafkijaaGreatV2
import Derived.Test.YtgbobfdlafkijaaGreatP1
import Derived.Test.YtgbobfdlafkijaaGreatFwC
import Derived.Test.YtgbobfdlafkijaaGreatSp
namespace Go.Proofs.Tryz
open Go Go.Fw Go.IntWalk
theorem amK:aG prog G Dw FN:=by
 refine amL (aB (l:=[(sF, .eff (ax nN) qG)]) (au ah) (by simp only [List.forall_mem_cons];exact ⟨⟨Vz,Sz⟩,fun x hx=>by cases hx⟩)) (fun _ _=>⟨((([]:List UInt8),()),(([],0,0,()),())),⟨by decide,by decide⟩⟩) ?_
 intro b i h hin hp
 have hp:0≤i:=hp
 repeat' first
  |exact trivial
  |refine af (fun _=>?_) fun _=>?_
  |refine And.intro ?_ ?_
  |(intro r hr;simp only [] at hr)
  |intro r hr
 all_goals first
  |omega
  |(dsimp only at*;omega)
  |exact hr
  |(simp only [beq_eq_false_iff_ne,ne_eq] at*;omega)
  |(simp only [List.length_set,List.length_take,List.length_append,List.length_cons,List.length_nil];omega)
  |(rw [dS];simp only [List.length_set,List.length_take,List.length_append,List.length_cons,List.length_nil];omega)
  |(simp only [List.length_set,List.length_take,List.length_append,List.length_cons,List.length_nil] at*;omega)
  |exact (show ∀ y∈_,List.length y.1≤10 from by decide) _ hr.2
  |(simp;done)
  |skip
theorem avC:aG prog G Ju KJ:=by
 refine avD (aB (l:=[(Dw, .eff (ax vX) FN),(qL, .pure rF),(qj, .pure pG),(sF, .eff (ax nN) qG),(dU, .eff (ax dI) dK)]) (au ah) (by simp only [List.forall_mem_cons];exact ⟨⟨amK,aiU⟩,⟨WG,Vm⟩,⟨SB,Qp⟩,⟨Vz,Sz⟩,⟨kV,jZ⟩,fun x hx=>by cases hx⟩)) (fun _ _=>⟨((((0:Int),(0:Int),(0:Int),([]:List UInt8),(0:Int),(0:Int),([]:List UInt8),()),()),(([],0,0,()),())),⟨by decide,trivial⟩⟩) ?_
 intro b i h hin hp
 have hp:0≤i:=hp
 repeat' first
  |exact trivial
  |refine af (fun _=>?_) fun _=>?_
  |refine And.intro ?_ ?_
  |(intro r hr;simp only [] at hr)
  |intro r hr
 all_goals first
  |omega
  |(dsimp only at*;omega)
  |exact hr
  |(simp only [beq_eq_false_iff_ne,ne_eq] at*;omega)
  |(simp only [List.length_set,List.length_take,List.length_append,List.length_cons,List.length_nil];omega)
  |(rw [dS];simp only [List.length_set,List.length_take,List.length_append,List.length_cons,List.length_nil];omega)
  |(simp only [List.length_set,List.length_take,List.length_append,List.length_cons,List.length_nil] at*;omega)
  |exact (show ∀ y∈_,List.length y.1≤10 from by decide) _ hr.2
  |(simp;done)
  |skip
theorem afE [Af] (ahk:aG prog G F9 Jj):aG prog G Vp QK:=by
 refine afF (aB (l:=[(F9, .eff (ax xH) Jj),(dU, .eff (ax dI) dK),(Ju, .eff (ax BH) KJ),(sG, .eff (ax nM) qF)]) (au ah) (by simp only [List.forall_mem_cons];exact ⟨⟨ahk,ae9⟩,⟨kV,jZ⟩,⟨avC,arF⟩,⟨Vy,Sv⟩,fun x hx=>by cases hx⟩)) (fun ⟨_,q,deep,_,_⟩ _=>⟨((q++[(0,0,0,[],0,0,[],())],()),(([],0,0,()),())),⟨by decide,by simp,by simp⟩⟩) ?_
 intro b i h q deep not hin hp
 obtain ⟨⟨hp1,hp2,hp3,hp4⟩,hp5⟩:=hp
 have hw:IntKind.i64.wrap (deep-1)=deep-1:=iL _ (by omega)
 refine ⟨fun y=>0≤y.2.1.2.1∧0<deep,?_⟩
 dsimp only
 rw [hw]
 repeat' first
  |exact trivial
  |refine af (fun _=>?_) fun _=>?_
  |refine And.intro ?_ ?_
  |(intro r hr;simp only [] at hr)
  |intro r hr
 all_goals first
  |omega
  |(dsimp only at*;omega)
  |exact hr
  |(simp only [beq_eq_false_iff_ne,ne_eq] at*;omega)
  |(simp only [List.length_set,List.length_take,List.length_append,List.length_cons,List.length_nil];omega)
  |(rw [dS];simp only [List.length_set,List.length_take,List.length_append,List.length_cons,List.length_nil];omega)
  |(simp only [List.length_set,List.length_take,List.length_append,List.length_cons,List.length_nil] at*;omega)
  |exact (show ∀ y∈_,List.length y.1≤10 from by decide) _ hr.2
  |(simp;done)
  |skip
theorem avE:aG prog G axS aqG:=
 aGn (fun n=>@VY ⟨n⟩) (fun n=>@D7 ⟨n⟩) (by rintro ⟨⟨b,i,h,⟨⟩⟩,q,deep,not,⟨⟩⟩ h;exact Nat.not_lt_zero _ h.2) (by rintro _ ⟨⟨b,i,h,⟨⟩⟩,q,deep,not,⟨⟩⟩;rfl) (by rintro ⟨⟨b,i,h,⟨⟩⟩,q,deep,not,⟨⟩⟩ h;exact ⟨_,h,Nat.lt_succ_self _⟩) (by rintro _ ⟨⟨b,i,h,⟨⟩⟩,q,deep,not,⟨⟩⟩;rfl) fun n h=>@afE ⟨n⟩ h
theorem VH:aG prog G uK vY:=
 aEy (F:=aeC) (F':=VZ) (by decide) avE (fun a x h=>⟨h.1,h.2.1,h.2.2,(show ∀ z:Int,0≤z→z≤4→0+2*z.toNat≤900 from fun z _ _=>by omega) _ h.2.1 h.2.2⟩) fun a x h=>rfl
theorem aD6:aG prog G Yu Ur:=by
 refine ajz (aB (l:=[(uK, .eff (ax oI) vY),(dU, .eff (ax dI) dK)]) (au ah) (by simp only [List.forall_mem_cons];exact ⟨⟨VH,TV⟩,⟨kV,jZ⟩,fun x hx=>by cases hx⟩)) (fun _ _=>⟨(([(0,0,0,[],0,0,[],())],()),(([],0,0,()),())),⟨by decide,by decide,by decide⟩⟩) ?_
 intro b i h hin hp
 have hp:0≤i:=hp
 repeat' first
  |exact trivial
  |refine af (fun _=>?_) fun _=>?_
  |refine And.intro ?_ ?_
  |(intro r hr;simp only [] at hr)
  |intro r hr
 all_goals first
  |omega
  |(dsimp only at*;omega)
  |exact hr
  |(simp only [beq_eq_false_iff_ne,ne_eq] at*;omega)
  |(simp only [List.length_set,List.length_take,List.length_append,List.length_cons,List.length_nil];omega)
  |(rw [dS];simp only [List.length_set,List.length_take,List.length_append,List.length_cons,List.length_nil];omega)
  |(simp only [List.length_set,List.length_take,List.length_append,List.length_cons,List.length_nil] at*;omega)
  |exact (show ∀ y∈_,List.length y.1≤10 from by decide) _ hr.2
  |(simp;done)
  |skip
theorem YZ:aG prog G qp tX:=by
 refine Y0 (aB (l:=[(uK, .eff (ax oI) vY),(dU, .eff (ax dI) dK)]) (au ah) (by simp only [List.forall_mem_cons];exact ⟨⟨VH,TV⟩,⟨kV,jZ⟩,fun x hx=>by cases hx⟩)) (fun _ _=>⟨(([(0,0,0,[],0,0,[],())],()),(([],0,0,()),())),⟨by decide,by decide,by decide⟩⟩) ?_
 intro b i h hin hp
 have hp:0≤i:=hp
 repeat' first
  |exact trivial
  |refine af (fun _=>?_) fun _=>?_
  |refine And.intro ?_ ?_
  |(intro r hr;simp only [] at hr)
  |intro r hr
 all_goals first
  |omega
  |(dsimp only at*;omega)
  |exact hr
  |(simp only [beq_eq_false_iff_ne,ne_eq] at*;omega)
  |(simp only [List.length_set,List.length_take,List.length_append,List.length_cons,List.length_nil];omega)
  |(rw [dS];simp only [List.length_set,List.length_take,List.length_append,List.length_cons,List.length_nil];omega)
  |(simp only [List.length_set,List.length_take,List.length_append,List.length_cons,List.length_nil] at*;omega)
  |exact (show ∀ y∈_,List.length y.1≤10 from by decide) _ hr.2
  |(simp;done)
  |skip
theorem aat:Sp.aO []:=⟨by simp,fun x hx=>by cases hx⟩
theorem aas {d:List Sp.aY} {x:Sp.aY} (h:Sp.aO d) (hl:d.length<1000) (hx:x.2.1.length≤1000):Sp.aO (d++[x]):=
 ⟨by simp;omega,fun y hy=>by rcases List.mem_append.1 hy with hy|hy;exact h.2 y hy;rw [List.mem_singleton.1 hy];exact hx⟩
theorem aCc {d:List Sp.aY} (n:Nat) (h:Sp.aO d):Sp.aO (d.take n):=
 ⟨by rw [List.length_take];have:=h.1;omega,fun y hy=>h.2 y (List.mem_of_mem_take hy)⟩
theorem avb:aG prog G Jv KL:=by
 refine avF (aB (l:=[(qp, .eff (ax lG) tX),(dU, .eff (ax dI) dK)]) (au ah) (by simp only [List.forall_mem_cons];exact ⟨⟨YZ,Yv⟩,⟨kV,jZ⟩,fun x hx=>by cases hx⟩)) (fun _ _=>⟨(([([],[],())],()),(([],0,0,()),())),⟨by decide,by decide,by decide,by decide,by decide⟩⟩) ?_
 intro b i h hin hp
 have hp:0≤i:=hp
 refine ⟨fun y=>0≤y.2.1.2.1∧y.1.2.1=y.2.2.1.length∧y.2.2.1.length≤4∧Sp.aO y.2.2.1,fun y=>(4-y.1.2.1).toNat,⟨hp,rfl,by simp,aat⟩,?_⟩
 rintro ⟨⟨_,k,_⟩,⟨b1,i1,h1,_⟩,l,_⟩ ⟨q1,q2,q3,q4⟩
 dsimp only at q1 q2 q3 q4 ⊢
 refine ⟨q1,?_⟩
 rintro ⟨⟨r,_⟩,⟨b2,i2,h2,_⟩,_⟩ ⟨e1,e2,e3,_⟩
 dsimp only at e1 e2 e3 ⊢
 have e3:=e3 (by omega)
 rw [iL (1+r) (by omega),iL (k+1) (by omega)]
 refine af (fun hc=>?_) fun hc=>?_
 · have hc:=ji hc
   refine ⟨⟨by omega,by simp only [List.length_cons,List.length_nil];omega⟩,by simp only [List.length_cons,List.length_nil];omega,e1,?_⟩
   rintro ⟨⟨x,_⟩,⟨b3,i3,h3,_⟩,_⟩ ⟨g1,g2,g3⟩
   dsimp only at g1 g2 g3 ⊢
   refine ⟨by rw [dS];simp only [List.length_cons,List.length_nil];omega,rfl,⟨g1,by simp;omega,by simp;omega,aas q4 (by omega) (by dsimp only;omega)⟩,by omega⟩
 · have hc:=jl hc
   exact ⟨e1,by omega,by omega,q4⟩
end Go.Proofs.Tryz
