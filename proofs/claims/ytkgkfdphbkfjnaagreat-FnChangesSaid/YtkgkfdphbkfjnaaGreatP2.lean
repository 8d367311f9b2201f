import Derived.Test.YtkgkfdphbkfjnaaGreatV2
import Derived.Test.YtkgkfdphbkfjnaaGreatP1
import Derived.Test.YtkgkfdphbkfjnaaGreatFwC
import Derived.Test.YtkgkfdphbkfjnaaGreatSp
namespace Go.Proofs.Tryz
open Go Go.Fw Go.IntWalk Sp
theorem Yw:OK zU.e:=by
 refine XA.ok mixed (au [iE.e] ⟨jy,trivial⟩) H0 (fun _ _=>⟨((([]:List UInt8),()),(([],0,0,()),())),⟨by decide,by decide⟩⟩) (by kernel_rfl) (show ∀ c0 c1 c2,zU.goal (Yx c0 c1 c2) ((c0,c1,c2,()),()) from ?_)
 intro b i h hin hp
 dsimp only [zU] at hp ⊢
 have hp:0≤i:=hp
 repeat' first
  |exact trivial
  |refine af (fun _=>?_) fun _=>?_
  |refine And.intro ?_ ?_
  |(intro r hr;simp only [] at hr)
  |intro r hr
 all_goals first
  |omega
  |(dsimp only at*;omega)
  |exact hr
  |(simp only [beq_eq_false_iff_ne,ne_eq] at*;omega)
  |(simp only [List.length_set,List.length_take,List.length_append,List.length_cons,List.length_nil];omega)
  |(rw [bW];simp only [List.length_set,List.length_take,List.length_append,List.length_cons,List.length_nil];omega)
  |(simp only [List.length_set,List.length_take,List.length_append,List.length_cons,List.length_nil] at*;omega)
  |exact (show ∀ y∈_,List.length y.1≤10 from by decide) _ hr.2
  |(simp;done)
  |skip
theorem P8:OK wB.e:=by
 refine XA.ok mixed (au [zU.e,lJ.e,uf.e,iE.e,dR.e] ⟨Yw,xP,Ht,jy,dY,trivial⟩) H0 (fun _ _=>⟨((((0:Int),(0:Int),(0:Int),([]:List UInt8),(0:Int),(0:Int),([]:List UInt8),()),()),(([],0,0,()),())),⟨by decide,trivial⟩⟩) (by kernel_rfl) (show ∀ c0 c1 c2,wB.goal (aeN c0 c1 c2) ((c0,c1,c2,()),()) from ?_)
 intro b i h hin hp
 dsimp only [wB] at hp ⊢
 have hp:0≤i:=hp
 repeat' first
  |exact trivial
  |refine af (fun _=>?_) fun _=>?_
  |refine And.intro ?_ ?_
  |(intro r hr;simp only [] at hr)
  |intro r hr
 all_goals first
  |omega
  |(dsimp only at*;omega)
  |exact hr
  |(simp only [beq_eq_false_iff_ne,ne_eq] at*;omega)
  |(simp only [List.length_set,List.length_take,List.length_append,List.length_cons,List.length_nil];omega)
  |(rw [bW];simp only [List.length_set,List.length_take,List.length_append,List.length_cons,List.length_nil];omega)
  |(simp only [List.length_set,List.length_take,List.length_append,List.length_cons,List.length_nil] at*;omega)
  |exact (show ∀ y∈_,List.length y.1≤10 from by decide) _ hr.2
  |(simp;done)
  |skip
theorem Sz [sK] (UE:jV prog G xK Au):jV prog G Ja F7:=by
 refine SA (au [(xK, .eff (Dt qi) Au),dR.e,wB.e,kQ.e] ⟨⟨UE,Rz⟩,dY,P8,uJ,trivial⟩) (fun ⟨_,q,deep,_,_⟩ _=>⟨((q++[(0,0,0,[],0,0,[],())],()),(([],0,0,()),())),⟨by decide,by simp,by simp⟩⟩) ?_
 intro b i h q deep not hin hp
 obtain ⟨⟨hp1,hp2,hp3,hp4⟩,hp5⟩:=hp
 have hw:IntKind.i64.wrap (deep-1)=deep-1:=fF _ (by omega)
 refine ⟨fun y=>0≤y.2.1.2.1∧0<deep,?_⟩
 dsimp only
 rw [hw]
 repeat' first
  |exact trivial
  |refine af (fun _=>?_) fun _=>?_
  |refine And.intro ?_ ?_
  |(intro r hr;simp only [] at hr)
  |intro r hr
 all_goals first
  |omega
  |(dsimp only at*;omega)
  |exact hr
  |(simp only [beq_eq_false_iff_ne,ne_eq] at*;omega)
  |(simp only [List.length_set,List.length_take,List.length_append,List.length_cons,List.length_nil];omega)
  |(rw [bW];simp only [List.length_set,List.length_take,List.length_append,List.length_cons,List.length_nil];omega)
  |(simp only [List.length_set,List.length_take,List.length_append,List.length_cons,List.length_nil] at*;omega)
  |exact (show ∀ y∈_,List.length y.1≤10 from by decide) _ hr.2
  |(simp;done)
  |skip
theorem aeO:jV prog G afY aby:=
 apl (fun n=>@Jr ⟨n⟩) (fun n=>@vN ⟨n⟩) (by rintro ⟨⟨b,i,h,⟨⟩⟩,q,deep,not,⟨⟩⟩ h;exact Nat.not_lt_zero _ h.2) (by rintro _ ⟨⟨b,i,h,⟨⟩⟩,q,deep,not,⟨⟩⟩;rfl) (by rintro ⟨⟨b,i,h,⟨⟩⟩,q,deep,not,⟨⟩⟩ h;exact ⟨_,h,Nat.lt_succ_self _⟩) (by rintro _ ⟨⟨b,i,h,⟨⟩⟩,q,deep,not,⟨⟩⟩;rfl) fun n h=>@Sz ⟨n⟩ h
theorem Ji:jV prog G xO Aw:=
 am3 (F:=QU) (F':=Js) (by decide) aeO (fun a x h=>⟨h.1,h.2.1,h.2.2,(show ∀ z:Int,0≤z→z≤4→0+2*z.toNat≤900 from fun z _ _=>by omega) _ h.2.1 h.2.2⟩) fun a x h=>rfl
theorem JB:OK sN.e:=by
 refine XA.ok mixed (au [(xO, .eff (Dt qj) Aw),dR.e] ⟨⟨Ji,Ii⟩,dY,trivial⟩) Yy (fun _ _=>⟨(([(0,0,0,[],0,0,[],())],()),(([],0,0,()),())),⟨by decide,by decide,by decide⟩⟩) (by kernel_rfl) (show ∀ c0 c1 c2,sN.goal (V3 c0 c1 c2) ((c0,c1,c2,()),()) from ?_)
 intro b i h hin hp
 dsimp only [sN] at hp ⊢
 have hp:0≤i:=hp
 repeat' first
  |exact trivial
  |refine af (fun _=>?_) fun _=>?_
  |refine And.intro ?_ ?_
  |(intro r hr;simp only [] at hr)
  |intro r hr
 all_goals first
  |omega
  |(dsimp only at*;omega)
  |exact hr
  |(simp only [beq_eq_false_iff_ne,ne_eq] at*;omega)
  |(simp only [List.length_set,List.length_take,List.length_append,List.length_cons,List.length_nil];omega)
  |(rw [bW];simp only [List.length_set,List.length_take,List.length_append,List.length_cons,List.length_nil];omega)
  |(simp only [List.length_set,List.length_take,List.length_append,List.length_cons,List.length_nil] at*;omega)
  |exact (show ∀ y∈_,List.length y.1≤10 from by decide) _ hr.2
  |(simp;done)
  |skip
theorem DK:OK lC.e:=by
 refine XA.ok mixed (au [(xO, .eff (Dt qj) Aw),dR.e] ⟨⟨Ji,Ii⟩,dY,trivial⟩) Na (fun _ _=>⟨(([(0,0,0,[],0,0,[],())],()),(([],0,0,()),())),⟨by decide,by decide,by decide⟩⟩) (by kernel_rfl) (show ∀ c0 c1 c2,lC.goal (Lu c0 c1 c2) ((c0,c1,c2,()),()) from ?_)
 intro b i h hin hp
 dsimp only [lC] at hp ⊢
 have hp:0≤i:=hp
 repeat' first
  |exact trivial
  |refine af (fun _=>?_) fun _=>?_
  |refine And.intro ?_ ?_
  |(intro r hr;simp only [] at hr)
  |intro r hr
 all_goals first
  |omega
  |(dsimp only at*;omega)
  |exact hr
  |(simp only [beq_eq_false_iff_ne,ne_eq] at*;omega)
  |(simp only [List.length_set,List.length_take,List.length_append,List.length_cons,List.length_nil];omega)
  |(rw [bW];simp only [List.length_set,List.length_take,List.length_append,List.length_cons,List.length_nil];omega)
  |(simp only [List.length_set,List.length_take,List.length_append,List.length_cons,List.length_nil] at*;omega)
  |exact (show ∀ y∈_,List.length y.1≤10 from by decide) _ hr.2
  |(simp;done)
  |skip
theorem agv:OK GR.e:=by
 refine XA.ok mixed (au [Dn.e,wB.e,iE.e,jk.e,dR.e,sN.e] ⟨RG,P8,jy,lT,dY,JB,trivial⟩) ah1 (fun _ _=>⟨(([],()),(([],0,0,()),())),⟨by decide,by decide⟩⟩) (by kernel_rfl) (show ∀ c0 c1 c2,GR.goal (agw c0 c1 c2) ((c0,c1,c2,()),()) from ?_)
 intro b i h hin hp
 dsimp only [GR] at hp ⊢
 have hp:0≤i:=hp
 repeat' first
  |exact trivial
  |refine af (fun _=>?_) fun _=>?_
  |refine And.intro ?_ ?_
  |(intro r hr;simp only [] at hr)
  |intro r hr
 all_goals first
  |omega
  |(dsimp only at*;omega)
  |exact hr
  |(simp only [beq_eq_false_iff_ne,ne_eq] at*;omega)
  |(simp only [List.length_set,List.length_take,List.length_append,List.length_cons,List.length_nil];omega)
  |(rw [bW];simp only [List.length_set,List.length_take,List.length_append,List.length_cons,List.length_nil];omega)
  |(simp only [List.length_set,List.length_take,List.length_append,List.length_cons,List.length_nil] at*;omega)
  |exact (show ∀ y∈_,List.length y.1≤10 from by decide) _ hr.2
  |(simp;done)
  |skip
theorem Dc:aA []:=⟨by simp,fun x hx=>by cases hx⟩
theorem Jf {d:List aC} {x:aC} (h:aA d) (hl:d.length<1000) (hx:x.2.1.length≤1000):aA (d++[x]):=
 ⟨by simp;omega,fun y hy=>by rcases List.mem_append.1 hy with hy|hy;exact h.2 y hy;rw [List.mem_singleton.1 hy];exact hx⟩
theorem aeP {d:List aC} {x:aC} (n:Nat) (h:aA d) (hx:x.2.1.length≤1000):aA (d.set n x):=
 ⟨by simp;exact h.1,fun y hy=>by rcases List.mem_or_eq_of_mem_set hy with hy|hy;exact h.2 y hy;rw [hy];exact hx⟩
theorem akw {d:List aC} (n:Nat) (h:aA d):aA (d.take n):=
 ⟨by rw [List.length_take];have:=h.1;omega,fun y hy=>h.2 y (List.mem_of_mem_take hy)⟩
theorem anx {d:List aC} (h:aA d) {n:Nat} (hn:n<d.length):(d.getD n ([],[],())).2.1.length≤1000:=h.2 _ (getD_mem hn)
theorem P6:OK Az.e:=by
 refine XA.ok mixed (au [lC.e,dR.e] ⟨DK,dY,trivial⟩) agx (fun _ _=>⟨(([([],[],())],()),(([],0,0,()),())),⟨by decide,by decide,by decide,by decide,by decide⟩⟩) (by kernel_rfl) (show ∀ c0 c1 c2,Az.goal (aeQ c0 c1 c2) ((c0,c1,c2,()),()) from ?_)
 intro b i h hin hp
 dsimp only [Az] at hp ⊢
 have hp:0≤i:=hp
 refine ⟨fun y=>0≤y.2.1.2.1∧y.1.2.1=y.2.2.1.length∧y.2.2.1.length≤4∧aA y.2.2.1,fun y=>(4-y.1.2.1).toNat,⟨hp,rfl,by simp,Dc⟩,?_⟩
 rintro ⟨⟨_,k,_⟩,⟨b1,i1,h1,_⟩,l,_⟩ ⟨q1,q2,q3,q4⟩
 dsimp only at q1 q2 q3 q4 ⊢
 refine ⟨q1,?_⟩
 rintro ⟨⟨r,_⟩,⟨b2,i2,h2,_⟩,_⟩ ⟨e1,e2,e3,_⟩
 dsimp only at e1 e2 e3 ⊢
 have e3:=e3 (by omega)
 rw [fF (1+r) (by omega),fF (k+1) (by omega)]
 refine af (fun hc=>?_) fun hc=>?_
 · have hc:=fJ hc
   refine ⟨⟨by omega,by simp only [List.length_cons,List.length_nil];omega⟩,by simp only [List.length_cons,List.length_nil];omega,e1,?_⟩
   rintro ⟨⟨x,_⟩,⟨b3,i3,h3,_⟩,_⟩ ⟨g1,g2,g3⟩
   dsimp only at g1 g2 g3 ⊢
   refine ⟨by rw [bW];simp only [List.length_cons,List.length_nil];omega,rfl,⟨g1,by simp;omega,by simp;omega,Jf q4 (by omega) (by dsimp only;omega)⟩,by omega⟩
 · have hc:=fZ hc
   exact ⟨e1,by omega,by omega,q4⟩
theorem agy:OK GU.e:=by
 refine XA.ok mixed (au [lC.e,GR.e,iE.e,dR.e,Az.e] ⟨DK,agv,jy,dY,P6,trivial⟩) ah2 (fun _ _=>⟨(([],()),(([],0,0,()),())),⟨by decide,by decide,Dc⟩⟩) (by kernel_rfl) (show ∀ c0 c1 c2,GU.goal (agz c0 c1 c2) ((c0,c1,c2,()),()) from ?_)
 intro b i h hin hp
 dsimp only [GU] at hp ⊢
 have hp:0≤i:=hp
 refine ⟨hp,?_⟩
 rintro ⟨⟨d,_⟩,⟨b1,i1,h1,_⟩,_⟩ ⟨q1,q2,q3,q4⟩
 dsimp only at q1 q2 q3 q4 ⊢
 refine ⟨q1,?_⟩
 rintro ⟨⟨r,_⟩,⟨b2,i2,h2,_⟩,_⟩ ⟨e1,e2,e3,_⟩
 dsimp only at e1 e2 e3 ⊢
 have e3:=e3 (by omega)
 refine ⟨e1,?_⟩
 rintro ⟨⟨s,_⟩,⟨b3,i3,h3,_⟩,_⟩ ⟨f1,f2,f3,_⟩
 dsimp only at f1 f2 f3 ⊢
 have hn:r.toNat<d.length:=by omega
 refine af (fun _=>⟨⟨f1,by simp⟩,?_⟩) fun _=>af (fun _=>⟨f1,?_⟩) fun _=>af (fun _=>?_) fun _=>af (fun _=>?_) fun _=>?_
 · rintro ⟨⟨x,_⟩,⟨b4,i4,h4,_⟩,_⟩ ⟨g1,g2⟩
   exact ⟨⟨e2,e3⟩,hn,g1,by simp;omega,aeP _ q4 (anx q4 hn)⟩
 · rintro ⟨⟨x,_⟩,⟨b4,i4,h4,_⟩,_⟩ ⟨g1,g2⟩
   exact ⟨⟨e2,e3⟩,hn,g1,by simp;omega,aeP _ q4 (by dsimp only at g2 ⊢;omega)⟩
 · refine ⟨fun y=>0≤y.2.1.2.1∧y.2.2.1.length≤6∧aA y.2.2.1,fun y=>6-y.2.2.1.length,⟨f1,by dsimp only;omega,q4⟩,?_⟩
   rintro ⟨_,⟨b4,i4,h4,_⟩,l,_⟩ ⟨g1,g2,g3⟩
   dsimp only at g1 g2 g3 ⊢
   refine ⟨g1,?_⟩
   rintro ⟨⟨r',_⟩,⟨b5,i5,h5,_⟩,_⟩ ⟨k1,k2,k3,_⟩
   dsimp only at k1 k2 k3 ⊢
   have k3:=k3 (by omega)
   rw [fF (5+r') (by omega)]
   refine af (fun hc=>?_) fun hc=>?_
   · have hc:=fJ hc
     refine ⟨⟨by omega,by simp only [List.length_cons,List.length_nil];omega⟩,k1,?_⟩
     rintro ⟨⟨x,_⟩,⟨b6,i6,h6,_⟩,_⟩ ⟨m1,m2,m3⟩
     dsimp only at m1 m2 m3 ⊢
     refine ⟨by rw [bW];simp only [List.length_cons,List.length_nil];omega,rfl,⟨m1,by simp;omega,Jf g3 (by omega) (by dsimp only;omega)⟩,by simp;omega⟩
   · exact ⟨k1,by omega,g3⟩
 · exact ⟨f1,by simp,Dc⟩
 · exact ⟨f1,by omega,q4⟩
end Go.Proofs.Tryz
