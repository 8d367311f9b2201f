import Derived.Test.YtgbobfdlafkijaaGreatV2
import Derived.Test.YtgbobfdlafkijaaGreatP1
import Derived.Test.YtgbobfdlafkijaaGreatFwC
import Derived.Test.YtgbobfdlafkijaaGreatSp
namespace Go.Proofs.Tryz
open Go Go.Fw Go.IntWalk
theorem abL:aC prog G wE yP:=by
 refine abM (aF (l:=[(dN, .eff (aj dm) dD)]) (aA ah) (by simp only [List.forall_mem_cons];exact ⟨⟨lD,kz⟩,fun x hx=>by cases hx⟩)) (fun _ _=>⟨((([]:List UInt8),()),(([],0,0,()),())),⟨by decide,by decide⟩⟩) ?_
 intro b i h hin hp
 have hp:0≤i:=hp
 repeat' first
  |exact trivial
  |refine af (fun _=>?_) fun _=>?_
  |refine And.intro ?_ ?_
  |(intro r hr;simp only [] at hr)
  |intro r hr
 all_goals first
  |omega
  |(dsimp only at*;omega)
  |exact hr
  |(simp only [beq_eq_false_iff_ne,ne_eq] at*;omega)
  |(simp only [List.length_set,List.length_take,List.length_append,List.length_cons,List.length_nil];omega)
  |(rw [fD];simp only [List.length_set,List.length_take,List.length_append,List.length_cons,List.length_nil];omega)
  |(simp only [List.length_set,List.length_take,List.length_append,List.length_cons,List.length_nil] at*;omega)
  |exact (show ∀ y∈_,List.length y.1≤10 from by decide) _ hr.2
  |(simp;done)
  |skip
theorem TP:aC prog G tY tq:=by
 refine ahB (aF (l:=[(wE, .eff (aj pU) yP),(gZ, .pure gQ),(lg, .pure kK),(dN, .eff (aj dm) dD),(aS, .eff (aj aJ) aI)]) (aA ah) (by simp only [List.forall_mem_cons];exact ⟨⟨abL,Zd⟩,⟨yU,xw⟩,⟨H9,Gn⟩,⟨lD,kz⟩,⟨dF,cO⟩,fun x hx=>by cases hx⟩)) (fun _ _=>⟨((((0:Int),(0:Int),(0:Int),([]:List UInt8),(0:Int),(0:Int),([]:List UInt8),()),()),(([],0,0,()),())),⟨by decide,trivial⟩⟩) ?_
 intro b i h hin hp
 have hp:0≤i:=hp
 repeat' first
  |exact trivial
  |refine af (fun _=>?_) fun _=>?_
  |refine And.intro ?_ ?_
  |(intro r hr;simp only [] at hr)
  |intro r hr
 all_goals first
  |omega
  |(dsimp only at*;omega)
  |exact hr
  |(simp only [beq_eq_false_iff_ne,ne_eq] at*;omega)
  |(simp only [List.length_set,List.length_take,List.length_append,List.length_cons,List.length_nil];omega)
  |(rw [fD];simp only [List.length_set,List.length_take,List.length_append,List.length_cons,List.length_nil];omega)
  |(simp only [List.length_set,List.length_take,List.length_append,List.length_cons,List.length_nil] at*;omega)
  |exact (show ∀ y∈_,List.length y.1≤10 from by decide) _ hr.2
  |(simp;done)
  |skip
theorem VP [TS] (XD:aC prog G yT Bg):aC prog G J7 Gy:=by
 refine VQ (aF (l:=[(yT, .eff (aj qE) Bg),(aS, .eff (aj aJ) aI),(tY, .eff (aj nT) tq),(jJ, .eff (aj iW) jr)]) (aA ah) (by simp only [List.forall_mem_cons];exact ⟨⟨XD,Vl⟩,⟨dF,cO⟩,⟨TP,QE⟩,⟨ER,Du⟩,fun x hx=>by cases hx⟩)) (fun ⟨_,q,deep,_,_⟩ _=>⟨((q++[(0,0,0,[],0,0,[],())],()),(([],0,0,()),())),⟨by decide,by simp,by simp⟩⟩) ?_
 intro b i h q deep not hin hp
 obtain ⟨⟨hp1,hp2,hp3,hp4⟩,hp5⟩:=hp
 have hw:IntKind.i64.wrap (deep-1)=deep-1:=gK _ (by omega)
 refine ⟨fun y=>0≤y.2.1.2.1∧0<deep,?_⟩
 dsimp only
 rw [hw]
 repeat' first
  |exact trivial
  |refine af (fun _=>?_) fun _=>?_
  |refine And.intro ?_ ?_
  |(intro r hr;simp only [] at hr)
  |intro r hr
 all_goals first
  |omega
  |(dsimp only at*;omega)
  |exact hr
  |(simp only [beq_eq_false_iff_ne,ne_eq] at*;omega)
  |(simp only [List.length_set,List.length_take,List.length_append,List.length_cons,List.length_nil];omega)
  |(rw [fD];simp only [List.length_set,List.length_take,List.length_append,List.length_cons,List.length_nil];omega)
  |(simp only [List.length_set,List.length_take,List.length_append,List.length_cons,List.length_nil] at*;omega)
  |exact (show ∀ y∈_,List.length y.1≤10 from by decide) _ hr.2
  |(simp;done)
  |skip
theorem ahC:aC prog G ajf aei:=
 aq0 (fun n=>@KI ⟨n⟩) (fun n=>@wL ⟨n⟩) (by rintro ⟨⟨b,i,h,⟨⟩⟩,q,deep,not,⟨⟩⟩ h;exact Nat.not_lt_zero _ h.2) (by rintro _ ⟨⟨b,i,h,⟨⟩⟩,q,deep,not,⟨⟩⟩;rfl) (by rintro ⟨⟨b,i,h,⟨⟩⟩,q,deep,not,⟨⟩⟩ h;exact ⟨_,h,Nat.lt_succ_self _⟩) (by rintro _ ⟨⟨b,i,h,⟨⟩⟩,q,deep,not,⟨⟩⟩;rfl) fun n h=>@VP ⟨n⟩ h
theorem Kw:aC prog G oJ pV:=
 apC (F:=UR) (F':=KJ) (by decide) ahC (fun a x h=>⟨h.1,h.2.1,h.2.2,(show ∀ z:Int,0≤z→z≤4→0+2*z.toNat≤900 from fun z _ _=>by omega) _ h.2.1 h.2.2⟩) fun a x h=>rfl
theorem Zu:aC prog G uD wM:=by
 refine Zv (aF (l:=[(oJ, .eff (aj jX) pV),(aS, .eff (aj aJ) aI)]) (aA ah) (by simp only [List.forall_mem_cons];exact ⟨⟨Kw,IV⟩,⟨dF,cO⟩,fun x hx=>by cases hx⟩)) (fun _ _=>⟨(([(0,0,0,[],0,0,[],())],()),(([],0,0,()),())),⟨by decide,by decide,by decide⟩⟩) ?_
 intro b i h hin hp
 have hp:0≤i:=hp
 repeat' first
  |exact trivial
  |refine af (fun _=>?_) fun _=>?_
  |refine And.intro ?_ ?_
  |(intro r hr;simp only [] at hr)
  |intro r hr
 all_goals first
  |omega
  |(dsimp only at*;omega)
  |exact hr
  |(simp only [beq_eq_false_iff_ne,ne_eq] at*;omega)
  |(simp only [List.length_set,List.length_take,List.length_append,List.length_cons,List.length_nil];omega)
  |(rw [fD];simp only [List.length_set,List.length_take,List.length_append,List.length_cons,List.length_nil];omega)
  |(simp only [List.length_set,List.length_take,List.length_append,List.length_cons,List.length_nil] at*;omega)
  |exact (show ∀ y∈_,List.length y.1≤10 from by decide) _ hr.2
  |(simp;done)
  |skip
theorem DZ:aC prog G iK je:=by
 refine NR (aF (l:=[(oJ, .eff (aj jX) pV),(aS, .eff (aj aJ) aI)]) (aA ah) (by simp only [List.forall_mem_cons];exact ⟨⟨Kw,IV⟩,⟨dF,cO⟩,fun x hx=>by cases hx⟩)) (fun _ _=>⟨(([(0,0,0,[],0,0,[],())],()),(([],0,0,()),())),⟨by decide,by decide,by decide⟩⟩) ?_
 intro b i h hin hp
 have hp:0≤i:=hp
 repeat' first
  |exact trivial
  |refine af (fun _=>?_) fun _=>?_
  |refine And.intro ?_ ?_
  |(intro r hr;simp only [] at hr)
  |intro r hr
 all_goals first
  |omega
  |(dsimp only at*;omega)
  |exact hr
  |(simp only [beq_eq_false_iff_ne,ne_eq] at*;omega)
  |(simp only [List.length_set,List.length_take,List.length_append,List.length_cons,List.length_nil];omega)
  |(rw [fD];simp only [List.length_set,List.length_take,List.length_append,List.length_cons,List.length_nil];omega)
  |(simp only [List.length_set,List.length_take,List.length_append,List.length_cons,List.length_nil] at*;omega)
  |exact (show ∀ y∈_,List.length y.1≤10 from by decide) _ hr.2
  |(simp;done)
  |skip
theorem ajB:aC prog G DK EG:=by
 refine ajC (aF (l:=[(vW, .eff (aj pK) uX),(tY, .eff (aj nT) tq),(dN, .eff (aj dm) dD),(dP, .eff (aj dn) dI),(aS, .eff (aj aJ) aI),(uD, .eff (aj oG) wM)]) (aA ah) (by simp only [List.forall_mem_cons];exact ⟨⟨Vy,Tn⟩,⟨TP,QE⟩,⟨lD,kz⟩,⟨mG,kZ⟩,⟨dF,cO⟩,⟨Zu,Xc⟩,fun x hx=>by cases hx⟩)) (fun _ _=>⟨(([],()),(([],0,0,()),())),⟨by decide,by decide⟩⟩) ?_
 intro b i h hin hp
 have hp:0≤i:=hp
 repeat' first
  |exact trivial
  |refine af (fun _=>?_) fun _=>?_
  |refine And.intro ?_ ?_
  |(intro r hr;simp only [] at hr)
  |intro r hr
 all_goals first
  |omega
  |(dsimp only at*;omega)
  |exact hr
  |(simp only [beq_eq_false_iff_ne,ne_eq] at*;omega)
  |(simp only [List.length_set,List.length_take,List.length_append,List.length_cons,List.length_nil];omega)
  |(rw [fD];simp only [List.length_set,List.length_take,List.length_append,List.length_cons,List.length_nil];omega)
  |(simp only [List.length_set,List.length_take,List.length_append,List.length_cons,List.length_nil] at*;omega)
  |exact (show ∀ y∈_,List.length y.1≤10 from by decide) _ hr.2
  |(simp;done)
  |skip
theorem zZ:Sp.bJ []:=⟨by simp,fun x hx=>by cases hx⟩
theorem XA {d:List Sp.eY} {x:Sp.eY} (h:Sp.bJ d) (hl:d.length<1000) (hx:x.2.1.length≤1000):Sp.bJ (d++[x]):=
 ⟨by simp;omega,fun y hy=>by rcases List.mem_append.1 hy with hy|hy;exact h.2 y hy;rw [List.mem_singleton.1 hy];exact hx⟩
theorem ahD {d:List Sp.eY} {x:Sp.eY} (n:Nat) (h:Sp.bJ d) (hx:x.2.1.length≤1000):Sp.bJ (d.set n x):=
 ⟨by simp;exact h.1,fun y hy=>by rcases List.mem_or_eq_of_mem_set hy with hy|hy;exact h.2 y hy;rw [hy];exact hx⟩
theorem anG {d:List Sp.eY} (n:Nat) (h:Sp.bJ d):Sp.bJ (d.take n):=
 ⟨by rw [List.length_take];have:=h.1;omega,fun y hy=>h.2 y (List.mem_of_mem_take hy)⟩
theorem apY {d:List Sp.eY} (h:Sp.bJ d) {n:Nat} (hn:n<d.length):(d.getD n ([],[],())).2.1.length≤1000:=h.2 _ (getD_mem hn)
theorem TM:aC prog G tZ tu:=by
 refine ahE (aF (l:=[(iK, .eff (aj gy) je),(aS, .eff (aj aJ) aI)]) (aA ah) (by simp only [List.forall_mem_cons];exact ⟨⟨DZ,Ci⟩,⟨dF,cO⟩,fun x hx=>by cases hx⟩)) (fun _ _=>⟨(([([],[],())],()),(([],0,0,()),())),⟨by decide,by decide,by decide,by decide,by decide⟩⟩) ?_
 intro b i h hin hp
 have hp:0≤i:=hp
 refine ⟨fun y=>0≤y.2.1.2.1∧y.1.2.1=y.2.2.1.length∧y.2.2.1.length≤4∧Sp.bJ y.2.2.1,fun y=>(4-y.1.2.1).toNat,⟨hp,rfl,by simp,zZ⟩,?_⟩
 rintro ⟨⟨_,k,_⟩,⟨b1,i1,h1,_⟩,l,_⟩ ⟨q1,q2,q3,q4⟩
 dsimp only at q1 q2 q3 q4 ⊢
 refine ⟨q1,?_⟩
 rintro ⟨⟨r,_⟩,⟨b2,i2,h2,_⟩,_⟩ ⟨e1,e2,e3,_⟩
 dsimp only at e1 e2 e3 ⊢
 have e3:=e3 (by omega)
 rw [gK (1+r) (by omega),gK (k+1) (by omega)]
 refine af (fun hc=>?_) fun hc=>?_
 · have hc:=iV hc
   refine ⟨⟨by omega,by simp only [List.length_cons,List.length_nil];omega⟩,by simp only [List.length_cons,List.length_nil];omega,e1,?_⟩
   rintro ⟨⟨x,_⟩,⟨b3,i3,h3,_⟩,_⟩ ⟨g1,g2,g3⟩
   dsimp only at g1 g2 g3 ⊢
   refine ⟨by rw [fD];simp only [List.length_cons,List.length_nil];omega,rfl,⟨g1,by simp;omega,by simp;omega,XA q4 (by omega) (by dsimp only;omega)⟩,by omega⟩
 · have hc:=jh hc
   exact ⟨e1,by omega,by omega,q4⟩
theorem ajz:aC prog G DL EH:=by
 refine ajD (aF (l:=[(iK, .eff (aj gy) je),(DK, .eff (aj xM) EG),(dN, .eff (aj dm) dD),(aS, .eff (aj aJ) aI),(tZ, .eff (aj nU) tu)]) (aA ah) (by simp only [List.forall_mem_cons];exact ⟨⟨DZ,Ci⟩,⟨ajB,ag5⟩,⟨lD,kz⟩,⟨dF,cO⟩,⟨TM,QF⟩,fun x hx=>by cases hx⟩)) (fun _ _=>⟨(([],()),(([],0,0,()),())),⟨by decide,by decide,zZ⟩⟩) ?_
 intro b i h hin hp
 have hp:0≤i:=hp
 refine ⟨hp,?_⟩
 rintro ⟨⟨d,_⟩,⟨b1,i1,h1,_⟩,_⟩ ⟨q1,q2,q3,q4⟩
 dsimp only at q1 q2 q3 q4 ⊢
 refine ⟨q1,?_⟩
 rintro ⟨⟨r,_⟩,⟨b2,i2,h2,_⟩,_⟩ ⟨e1,e2,e3,_⟩
 dsimp only at e1 e2 e3 ⊢
 have e3:=e3 (by omega)
 refine ⟨e1,?_⟩
 rintro ⟨⟨s,_⟩,⟨b3,i3,h3,_⟩,_⟩ ⟨f1,f2,f3,_⟩
 dsimp only at f1 f2 f3 ⊢
 have hn:r.toNat<d.length:=by omega
 refine af (fun _=>⟨⟨f1,by simp⟩,?_⟩) fun _=>af (fun _=>⟨f1,?_⟩) fun _=>af (fun _=>?_) fun _=>af (fun _=>?_) fun _=>?_
 · rintro ⟨⟨x,_⟩,⟨b4,i4,h4,_⟩,_⟩ ⟨g1,g2⟩
   exact ⟨⟨e2,e3⟩,hn,g1,by simp;omega,ahD _ q4 (apY q4 hn)⟩
 · rintro ⟨⟨x,_⟩,⟨b4,i4,h4,_⟩,_⟩ ⟨g1,g2⟩
   exact ⟨⟨e2,e3⟩,hn,g1,by simp;omega,ahD _ q4 (by dsimp only at g2 ⊢;omega)⟩
 · refine ⟨fun y=>0≤y.2.1.2.1∧y.2.2.1.length≤6∧Sp.bJ y.2.2.1,fun y=>6-y.2.2.1.length,⟨f1,by dsimp only;omega,q4⟩,?_⟩
   rintro ⟨_,⟨b4,i4,h4,_⟩,l,_⟩ ⟨g1,g2,g3⟩
   dsimp only at g1 g2 g3 ⊢
   refine ⟨g1,?_⟩
   rintro ⟨⟨r',_⟩,⟨b5,i5,h5,_⟩,_⟩ ⟨k1,k2,k3,_⟩
   dsimp only at k1 k2 k3 ⊢
   have k3:=k3 (by omega)
   rw [gK (5+r') (by omega)]
   refine af (fun hc=>?_) fun hc=>?_
   · have hc:=iV hc
     refine ⟨⟨by omega,by simp only [List.length_cons,List.length_nil];omega⟩,k1,?_⟩
     rintro ⟨⟨x,_⟩,⟨b6,i6,h6,_⟩,_⟩ ⟨m1,m2,m3⟩
     dsimp only at m1 m2 m3 ⊢
     refine ⟨by rw [fD];simp only [List.length_cons,List.length_nil];omega,rfl,⟨m1,by simp;omega,XA g3 (by omega) (by dsimp only;omega)⟩,by simp;omega⟩
   · exact ⟨k1,by omega,g3⟩
 · exact ⟨f1,by simp,zZ⟩
 · exact ⟨f1,by omega,q4⟩
end Go.Proofs.Tryz
