import Derived.Test.YtlbkigkbmeckbaaGreatV2
import Derived.Test.YtlbkigkbmeckbaaGreatP1
import Derived.Test.YtlbkigkbmeckbaaGreatFwC
import Derived.Test.YtlbkigkbmeckbaaGreatSp
namespace Go.Proofs.Tryz
open Go Go.Fw Go.IntWalk
theorem aaP:ai prog G oL.e:=by
 refine aaQ (aj ah ⟨jK,trivial⟩) (fun _ _=>⟨((([]:List UInt8),()),(([],0,0,()),())),⟨by decide,by decide⟩⟩) ?_
 intro b i h hin hp
 dsimp only [oL] at hp ⊢
 have hp:0≤i:=hp
 repeat' first
  |exact trivial
  |refine af (fun _=>?_) fun _=>?_
  |refine And.intro ?_ ?_
  |(intro r hr;simp only [] at hr)
  |intro r hr
 all_goals first
  |omega
  |(dsimp only at*;omega)
  |exact hr
  |(simp only [beq_eq_false_iff_ne,ne_eq] at*;omega)
  |(simp only [List.length_set,List.length_take,List.length_append,List.length_cons,List.length_nil];omega)
  |(rw [bU];simp only [List.length_set,List.length_take,List.length_append,List.length_cons,List.length_nil];omega)
  |(simp only [List.length_set,List.length_take,List.length_append,List.length_cons,List.length_nil] at*;omega)
  |exact (show ∀ y∈_,List.length y.1≤10 from by decide) _ hr.2
  |(simp;done)
  |skip
theorem Qd:ai prog G rE.e:=by
 refine aiS (aj ah ⟨aaP,uT,GN,jK,dY,trivial⟩) (fun _ _=>⟨((((0:Int),(0:Int),(0:Int),([]:List UInt8),(0:Int),(0:Int),([]:List UInt8),()),()),(([],0,0,()),())),⟨by decide,trivial⟩⟩) ?_
 intro b i h hin hp
 dsimp only [rE] at hp ⊢
 have hp:0≤i:=hp
 repeat' first
  |exact trivial
  |refine af (fun _=>?_) fun _=>?_
  |refine And.intro ?_ ?_
  |(intro r hr;simp only [] at hr)
  |intro r hr
 all_goals first
  |omega
  |(dsimp only at*;omega)
  |exact hr
  |(simp only [beq_eq_false_iff_ne,ne_eq] at*;omega)
  |(simp only [List.length_set,List.length_take,List.length_append,List.length_cons,List.length_nil];omega)
  |(rw [bU];simp only [List.length_set,List.length_take,List.length_append,List.length_cons,List.length_nil];omega)
  |(simp only [List.length_set,List.length_take,List.length_append,List.length_cons,List.length_nil] at*;omega)
  |exact (show ∀ y∈_,List.length y.1≤10 from by decide) _ hr.2
  |(simp;done)
  |skip
theorem TR [vX] (Vz:kK prog G Eu G6):kK prog G IE FX:=by
 refine TS (aj ah ⟨⟨Vz,Tf⟩,dY,Qd,AB,trivial⟩) (fun ⟨_,q,deep,_,_⟩ _=>⟨((q++[(0,0,0,[],0,0,[],())],()),(([],0,0,()),())),⟨by decide,by simp,by simp⟩⟩) ?_
 intro b i h q deep not hin hp
 obtain ⟨⟨hp1,hp2,hp3,hp4⟩,hp5⟩:=hp
 have hw:IntKind.i64.wrap (deep-1)=deep-1:=gu _ (by omega)
 refine ⟨fun y=>0≤y.2.1.2.1∧0<deep,?_⟩
 dsimp only
 rw [hw]
 repeat' first
  |exact trivial
  |refine af (fun _=>?_) fun _=>?_
  |refine And.intro ?_ ?_
  |(intro r hr;simp only [] at hr)
  |intro r hr
 all_goals first
  |omega
  |(dsimp only at*;omega)
  |exact hr
  |(simp only [beq_eq_false_iff_ne,ne_eq] at*;omega)
  |(simp only [List.length_set,List.length_take,List.length_append,List.length_cons,List.length_nil];omega)
  |(rw [bU];simp only [List.length_set,List.length_take,List.length_append,List.length_cons,List.length_nil];omega)
  |(simp only [List.length_set,List.length_take,List.length_append,List.length_cons,List.length_nil] at*;omega)
  |exact (show ∀ y∈_,List.length y.1≤10 from by decide) _ hr.2
  |(simp;done)
  |skip
theorem aiT:kK prog G alj aeK:=
 avk (fun n=>@Jf ⟨n⟩) (fun n=>@yJ ⟨n⟩) (by rintro ⟨⟨b,i,h,⟨⟩⟩,q,deep,not,⟨⟩⟩ h;exact Nat.not_lt_zero _ h.2) (by rintro _ ⟨⟨b,i,h,⟨⟩⟩,q,deep,not,⟨⟩⟩;rfl) (by rintro ⟨⟨b,i,h,⟨⟩⟩,q,deep,not,⟨⟩⟩ h;exact ⟨_,h,Nat.lt_succ_self _⟩) (by rintro _ ⟨⟨b,i,h,⟨⟩⟩,q,deep,not,⟨⟩⟩;rfl) fun n h=>@TR ⟨n⟩ h
theorem I4:kK prog G zT BQ:=
 atb (F:=RN) (F':=Jg) (by decide) aiT (fun a x h=>⟨h.1,h.2.1,h.2.2,(show ∀ z:Int,0≤z→z≤4→0+2*z.toNat≤900 from fun z _ _=>by omega) _ h.2.1 h.2.2⟩) fun a x h=>rfl
theorem X5:ai prog G nC.e:=by
 refine X6 (aj ah ⟨⟨I4,Ht⟩,dY,trivial⟩) (fun _ _=>⟨(([(0,0,0,[],0,0,[],())],()),(([],0,0,()),())),⟨by decide,by decide,by decide⟩⟩) ?_
 intro b i h hin hp
 dsimp only [nC] at hp ⊢
 have hp:0≤i:=hp
 repeat' first
  |exact trivial
  |refine af (fun _=>?_) fun _=>?_
  |refine And.intro ?_ ?_
  |(intro r hr;simp only [] at hr)
  |intro r hr
 all_goals first
  |omega
  |(dsimp only at*;omega)
  |exact hr
  |(simp only [beq_eq_false_iff_ne,ne_eq] at*;omega)
  |(simp only [List.length_set,List.length_take,List.length_append,List.length_cons,List.length_nil];omega)
  |(rw [bU];simp only [List.length_set,List.length_take,List.length_append,List.length_cons,List.length_nil];omega)
  |(simp only [List.length_set,List.length_take,List.length_append,List.length_cons,List.length_nil] at*;omega)
  |exact (show ∀ y∈_,List.length y.1≤10 from by decide) _ hr.2
  |(simp;done)
  |skip
theorem Ec:ai prog G iG.e:=by
 refine Ll (aj ah ⟨⟨I4,Ht⟩,dY,trivial⟩) (fun _ _=>⟨(([(0,0,0,[],0,0,[],())],()),(([],0,0,()),())),⟨by decide,by decide,by decide⟩⟩) ?_
 intro b i h hin hp
 dsimp only [iG] at hp ⊢
 have hp:0≤i:=hp
 repeat' first
  |exact trivial
  |refine af (fun _=>?_) fun _=>?_
  |refine And.intro ?_ ?_
  |(intro r hr;simp only [] at hr)
  |intro r hr
 all_goals first
  |omega
  |(dsimp only at*;omega)
  |exact hr
  |(simp only [beq_eq_false_iff_ne,ne_eq] at*;omega)
  |(simp only [List.length_set,List.length_take,List.length_append,List.length_cons,List.length_nil];omega)
  |(rw [bU];simp only [List.length_set,List.length_take,List.length_append,List.length_cons,List.length_nil];omega)
  |(simp only [List.length_set,List.length_take,List.length_append,List.length_cons,List.length_nil] at*;omega)
  |exact (show ∀ y∈_,List.length y.1≤10 from by decide) _ hr.2
  |(simp;done)
  |skip
theorem alF:ai prog G xR.e:=by
 refine alG (aj ah ⟨Tm,Qd,jK,sF,dY,X5,trivial⟩) (fun _ _=>⟨(([],()),(([],0,0,()),())),⟨by decide,by decide⟩⟩) ?_
 intro b i h hin hp
 dsimp only [xR] at hp ⊢
 have hp:0≤i:=hp
 repeat' first
  |exact trivial
  |refine af (fun _=>?_) fun _=>?_
  |refine And.intro ?_ ?_
  |(intro r hr;simp only [] at hr)
  |intro r hr
 all_goals first
  |omega
  |(dsimp only at*;omega)
  |exact hr
  |(simp only [beq_eq_false_iff_ne,ne_eq] at*;omega)
  |(simp only [List.length_set,List.length_take,List.length_append,List.length_cons,List.length_nil];omega)
  |(rw [bU];simp only [List.length_set,List.length_take,List.length_append,List.length_cons,List.length_nil];omega)
  |(simp only [List.length_set,List.length_take,List.length_append,List.length_cons,List.length_nil] at*;omega)
  |exact (show ∀ y∈_,List.length y.1≤10 from by decide) _ hr.2
  |(simp;done)
  |skip
theorem DK:Sp.aV []:=⟨by simp,fun x hx=>by cases hx⟩
theorem IQ {d:List Sp.aT} {x:Sp.aT} (h:Sp.aV d) (hl:d.length<1000) (hx:x.2.1.length≤1000):Sp.aV (d++[x]):=
 ⟨by simp;omega,fun y hy=>by rcases List.mem_append.1 hy with hy|hy;exact h.2 y hy;rw [List.mem_singleton.1 hy];exact hx⟩
theorem aiU {d:List Sp.aT} {x:Sp.aT} (n:Nat) (h:Sp.aV d) (hx:x.2.1.length≤1000):Sp.aV (d.set n x):=
 ⟨by simp;exact h.1,fun y hy=>by rcases List.mem_or_eq_of_mem_set hy with hy|hy;exact h.2 y hy;rw [hy];exact hx⟩
theorem aqv {d:List Sp.aT} (n:Nat) (h:Sp.aV d):Sp.aV (d.take n):=
 ⟨by rw [List.length_take];have:=h.1;omega,fun y hy=>h.2 y (List.mem_of_mem_take hy)⟩
theorem atF {d:List Sp.aT} (h:Sp.aV d) {n:Nat} (hn:n<d.length):(d.getD n ([],[],())).2.1.length≤1000:=h.2 _ (getD_mem hn)
theorem Qb:ai prog G rF.e:=by
 refine aiV (aj ah ⟨Ec,dY,trivial⟩) (fun _ _=>⟨(([([],[],())],()),(([],0,0,()),())),⟨by decide,by decide,by decide,by decide,by decide⟩⟩) ?_
 intro b i h hin hp
 dsimp only [rF] at hp ⊢
 have hp:0≤i:=hp
 refine ⟨fun y=>0≤y.2.1.2.1∧y.1.2.1=y.2.2.1.length∧y.2.2.1.length≤4∧Sp.aV y.2.2.1,fun y=>(4-y.1.2.1).toNat,⟨hp,rfl,by simp,DK⟩,?_⟩
 rintro ⟨⟨_,k,_⟩,⟨b1,i1,h1,_⟩,l,_⟩ ⟨q1,q2,q3,q4⟩
 dsimp only at q1 q2 q3 q4 ⊢
 refine ⟨q1,?_⟩
 rintro ⟨⟨r,_⟩,⟨b2,i2,h2,_⟩,_⟩ ⟨e1,e2,e3,_⟩
 dsimp only at e1 e2 e3 ⊢
 have e3:=e3 (by omega)
 rw [gu (1+r) (by omega),gu (k+1) (by omega)]
 refine af (fun hc=>?_) fun hc=>?_
 · have hc:=gG hc
   refine ⟨⟨by omega,by simp only [List.length_cons,List.length_nil];omega⟩,by simp only [List.length_cons,List.length_nil];omega,e1,?_⟩
   rintro ⟨⟨x,_⟩,⟨b3,i3,h3,_⟩,_⟩ ⟨g1,g2,g3⟩
   dsimp only at g1 g2 g3 ⊢
   refine ⟨by rw [bU];simp only [List.length_cons,List.length_nil];omega,rfl,⟨g1,by simp;omega,by simp;omega,IQ q4 (by omega) (by dsimp only;omega)⟩,by omega⟩
 · have hc:=iw hc
   exact ⟨e1,by omega,by omega,q4⟩
theorem alH:ai prog G xU.e:=by
 refine alI (aj ah ⟨Ec,alF,jK,dY,Qb,trivial⟩) (fun _ _=>⟨(([],()),(([],0,0,()),())),⟨by decide,by decide,DK⟩⟩) ?_
 intro b i h hin hp
 dsimp only [xU] at hp ⊢
 have hp:0≤i:=hp
 refine ⟨hp,?_⟩
 rintro ⟨⟨d,_⟩,⟨b1,i1,h1,_⟩,_⟩ ⟨q1,q2,q3,q4⟩
 dsimp only at q1 q2 q3 q4 ⊢
 refine ⟨q1,?_⟩
 rintro ⟨⟨r,_⟩,⟨b2,i2,h2,_⟩,_⟩ ⟨e1,e2,e3,_⟩
 dsimp only at e1 e2 e3 ⊢
 have e3:=e3 (by omega)
 refine ⟨e1,?_⟩
 rintro ⟨⟨s,_⟩,⟨b3,i3,h3,_⟩,_⟩ ⟨f1,f2,f3,_⟩
 dsimp only at f1 f2 f3 ⊢
 have hn:r.toNat<d.length:=by omega
 refine af (fun _=>⟨⟨f1,by simp⟩,?_⟩) fun _=>af (fun _=>⟨f1,?_⟩) fun _=>af (fun _=>?_) fun _=>af (fun _=>?_) fun _=>?_
 · rintro ⟨⟨x,_⟩,⟨b4,i4,h4,_⟩,_⟩ ⟨g1,g2⟩
   exact ⟨⟨e2,e3⟩,hn,g1,by simp;omega,aiU _ q4 (atF q4 hn)⟩
 · rintro ⟨⟨x,_⟩,⟨b4,i4,h4,_⟩,_⟩ ⟨g1,g2⟩
   exact ⟨⟨e2,e3⟩,hn,g1,by simp;omega,aiU _ q4 (by dsimp only at g2 ⊢;omega)⟩
 · refine ⟨fun y=>0≤y.2.1.2.1∧y.2.2.1.length≤6∧Sp.aV y.2.2.1,fun y=>6-y.2.2.1.length,⟨f1,by dsimp only;omega,q4⟩,?_⟩
   rintro ⟨_,⟨b4,i4,h4,_⟩,l,_⟩ ⟨g1,g2,g3⟩
   dsimp only at g1 g2 g3 ⊢
   refine ⟨g1,?_⟩
   rintro ⟨⟨r',_⟩,⟨b5,i5,h5,_⟩,_⟩ ⟨k1,k2,k3,_⟩
   dsimp only at k1 k2 k3 ⊢
   have k3:=k3 (by omega)
   rw [gu (5+r') (by omega)]
   refine af (fun hc=>?_) fun hc=>?_
   · have hc:=gG hc
     refine ⟨⟨by omega,by simp only [List.length_cons,List.length_nil];omega⟩,k1,?_⟩
     rintro ⟨⟨x,_⟩,⟨b6,i6,h6,_⟩,_⟩ ⟨m1,m2,m3⟩
     dsimp only at m1 m2 m3 ⊢
     refine ⟨by rw [bU];simp only [List.length_cons,List.length_nil];omega,rfl,⟨m1,by simp;omega,IQ g3 (by omega) (by dsimp only;omega)⟩,by simp;omega⟩
   · exact ⟨k1,by omega,g3⟩
 · exact ⟨f1,by simp,DK⟩
 · exact ⟨f1,by omega,q4⟩
end Go.Proofs.Tryz
