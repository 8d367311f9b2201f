import Derived.Test.YtgbobfdlafkijaaGreatP11
namespace Go.Proofs.Tryz
open Go Go.Fw Go.IntWalk
theorem agC:aC prog G Ap Dn:=by
 refine agD (aF (l:=[(eX, .eff (ai dI) dX)]) (ay ah) (by simp only [List.forall_mem_cons];exact ⟨⟨pI,nP⟩,fun x hx=>by cases hx⟩)) (fun _ _=>⟨(((0:Int),()),(([],0,0,()),())),⟨by decide,trivial⟩⟩) ?_
 intro b i h hin hp
 have hp:0≤i:=hp
 repeat' first
  |exact trivial
  |refine af (fun _=>?_) fun _=>?_
  |refine And.intro ?_ ?_
  |(intro r hr;simp only [] at hr)
  |intro r hr
 all_goals first
  |omega
  |(dsimp only at*;omega)
  |exact hr
  |(simp only [beq_eq_false_iff_ne,ne_eq] at*;omega)
  |(simp only [List.length_set,List.length_take,List.length_append,List.length_cons,List.length_nil];omega)
  |(rw [gy];simp only [List.length_set,List.length_take,List.length_append,List.length_cons,List.length_nil];omega)
  |(simp only [List.length_set,List.length_take,List.length_append,List.length_cons,List.length_nil] at*;omega)
  |exact (show ∀ y∈_,List.length y.1≤10 from by decide) _ hr.2
  |(simp;done)
  |skip
theorem amD:aC prog G FH GK:=by
 refine amE (aF (l:=[(nI, .pure oH),(xX, .eff (ai qR) xK)]) (ay ah) (by simp only [List.forall_mem_cons];exact ⟨⟨Po,NQ⟩,⟨Yy,Wu⟩,fun x hx=>by cases hx⟩)) (fun _ _=>⟨(([],()),(([],0,0,()),())),⟨by decide,by decide,Et⟩⟩) ?_
 intro b i h hin hp
 have hp:0≤i:=hp
 refine ⟨hp,?_⟩
 rintro ⟨⟨d,_⟩,⟨b1,i1,h1,_⟩,_⟩ ⟨q1,q2,q3,q4⟩
 dsimp only at q1 q2 q3 q4 ⊢
 have fin:∀ l:List Sp.gK,l.length≤4→Sp.bY l→(bif (l.length:Int)==(0:Int) then 0≤i1∧([(([100,97]:List UInt8),[((1:Int),(0:Int),(0:Int),([]:List UInt8),(0:Int),(0:Int),([]:List UInt8),())],())]:List Sp.gK).length≤10∧Sp.bY [([100,97],[(1,0,0,[],0,0,[],())],())] else 0≤i1∧l.length≤10∧Sp.bY l):=fun l hl hs=>
  af (fun _=>⟨q1,by simp,ab6 Et (by simp) (by simp)⟩) fun _=>⟨q1,by omega,hs⟩
 refine ⟨fun y=>y.1.1.length≤4∧Sp.bY y.1.1,fun y=>y.1.1.length,⟨q3,q4⟩,?_⟩
 rintro ⟨⟨l,⟨⟩⟩,⟨⟩⟩ ⟨g1,g2⟩
 dsimp only at g1 g2 ⊢
 refine af (fun hc=>⟨g2,af (fun _=>?_) fun _=>fin l g1 g2⟩) fun _=>fin l g1 g2
 have hc:0<l.length:=by have:=iO hc;omega
 rw [wz hc (by omega),List.drop_zero,Int.toNat_natCast]
 exact ⟨⟨by omega,by omega⟩,rfl,⟨by rw [List.length_take];omega,as5 _ g2⟩,by rw [List.length_take];omega⟩
theorem WO:aC prog G vI vZ:=by
 refine akr (aF (l:=[(FH, .eff (ai zC) GK),(vH, .eff (ai oP) vW)]) (ay ah) (by simp only [List.forall_mem_cons];exact ⟨⟨amD,ajX⟩,⟨WL,Ue⟩,fun x hx=>by cases hx⟩)) (fun _ _=>⟨((([],[],0,[],()),()),(([],0,0,()),())),⟨by decide,⟨by decide,by decide,fun x hx=>by cases hx⟩,Et⟩⟩) ?_
 intro b i h hin hp
 have hp:0≤i:=hp
 refine ⟨hp,fun r hr=>⟨hr.1,fun x hx=>⟨hx.1,hr.2.2.2.2,hx.2.2⟩⟩⟩
theorem aaB:aC prog G Ad zD:=by
 refine aoG (aF (l:=[(Ih, .eff (ai BN) Jj),(Ii, .eff (ai BL) Jh),(aU, .eff (ai aQ) aP),(vI, .eff (ai oQ) vZ)]) (ay ah) (by simp only [List.forall_mem_cons];exact ⟨⟨aoH,amc⟩,⟨aoA,ama⟩,⟨dQ,dA⟩,⟨WO,Uf⟩,fun x hx=>by cases hx⟩)) (fun _ _=>⟨((([],[],0,[],()),()),(([],0,0,()),())),⟨by decide,⟨by decide,by decide,fun x hx=>by cases hx⟩,Et⟩⟩) ?_
 intro b i h hin hp
 have hp:0≤i:=hp
 refine ⟨hp,fun r hr=>⟨hr.1,fun x hx=>af (fun _=>⟨hx.1,fun y hy=>⟨hy.1,hy.2,hr.2.2⟩⟩) fun _=>af (fun _=>⟨hx.1,fun y hy=>⟨hy.1,hr.2.1,hy.2.2⟩⟩) fun _=>⟨hx.1,hr.2⟩⟩⟩
theorem amF {v:List Sp.gX} {n:Int} {x:Sp.QT} (h1:Sp.aH v) (h2:v.length≤100) (h3:Sp.fV x):Sp.aH (Sp.iD v n x).1∧(Sp.iD v n x).1.length≤v.length+1:=by
 unfold Sp.iD
 cases Sp.fZ v&&Sp.fZ (v++[(n,x.1,x.2.1,x.2.2.1,x.2.2.2.1,0,())]) with
 |true=>exact ⟨ab1 h1 (by omega) h3,by simp⟩
 |false=>exact ⟨h1,Nat.le_succ _⟩
theorem amG:aC prog G FI GL:=by
 refine amH (aF (l:=[(qE, .eff (ai lV) rH),(jU, .eff (ai iP) jw),(mD, .eff (ai kE) mW),(vI, .eff (ai oQ) vZ),(aU, .eff (ai aQ) aP)]) (ay ah) (by simp only [List.forall_mem_cons];exact ⟨⟨RI,Qa⟩,⟨Eo,C9⟩,⟨NY,LM⟩,⟨WO,Uf⟩,⟨dQ,dA⟩,fun x hx=>by cases hx⟩)) (fun _ _=>⟨(([],()),(([],0,0,()),())),⟨by decide,by decide,yL⟩⟩) ?_
 intro b i h hin hp
 have hp:0≤i:=hp
 refine ⟨hp,?_⟩
 rintro ⟨⟨n,_⟩,⟨b1,i1,h1,_⟩,_⟩ ⟨q1,q2,q3,_⟩
 dsimp only at q1 q2 q3 ⊢
 have q3:=q3 (by omega)
 refine ⟨fun y=>0≤y.2.1.2.1∧0≤y.1.2.2.1∧(y.2.2.1.length:Int)+y.1.2.2.1≤4∧Sp.aH y.2.2.1,fun y=>y.1.2.2.1.toNat,⟨q1,q2,by simp;omega,yL⟩,?_⟩
 rintro ⟨⟨_,k,m,_⟩,⟨b2,i2,h2,_⟩,l,_⟩ ⟨g1,g2,g3,g4⟩
 dsimp only at g1 g2 g3 g4 ⊢
 refine af (fun hc=>⟨g1,?_⟩) fun hc=>⟨g1,by omega,g4⟩
 have hc:m>0:=iO hc
 rw [iI (m-1) (by omega)]
 rintro ⟨⟨r,_⟩,⟨b3,i3,h3,_⟩,_⟩ ⟨k1,_⟩
 refine ⟨k1,?_⟩
 rintro ⟨⟨⟨a,fl,nx,d,_⟩,_⟩,⟨b4,i4,h4,_⟩,_⟩ ⟨k2,k3⟩
 have k3:Sp.fV (a,fl,nx,d,()):=k3
 refine ⟨⟨g4,by omega,k3⟩,?_⟩
 rintro ⟨⟨w,ok,⟨⟩⟩,⟨⟩⟩ ⟨e1,_⟩
 have hs:=amF (n:=IntKind.i64.wrap (IntKind.i64.wrap (k+1)+r)) g4 (by omega) k3
 have e1:w=(Sp.iD l (IntKind.i64.wrap (IntKind.i64.wrap (k+1)+r)) (a,fl,nx,d,())).1:=e1
 rw [← e1] at hs
 refine ⟨k2,?_⟩
 rintro ⟨⟨c,_⟩,⟨b5,i5,h5,_⟩,_⟩ k4
 refine af (fun _=>⟨⟨hs.1,by dsimp only;omega⟩,?_⟩) fun _=>⟨rfl,⟨k4,by omega,by dsimp only;omega,hs.1⟩,by omega⟩
 rintro ⟨⟨u,ok2,⟨⟩⟩,⟨⟩⟩ ⟨m1,m2⟩
 have m1:u=(Sp.dJ w _ 1).1:=m1
 have hu:=agA (n:=IntKind.i64.wrap (IntKind.i64.wrap (k+1)+r)) (m:=1) hs.1
 rw [← m1] at hu
 exact ⟨rfl,⟨k4,by omega,by dsimp only;omega,hu.1⟩,by omega⟩
theorem Kr:aC prog G mG lS:=by
 refine aoI (aF (l:=[(Ad, .eff (ai um) zD),(eX, .eff (ai dI) dX),(aU, .eff (ai aQ) aP),(FI, .eff (ai zF) GL)]) (ay ah) (by simp only [List.forall_mem_cons];exact ⟨⟨aaB,Yo⟩,⟨pI,nP⟩,⟨dQ,dA⟩,⟨amG,ajY⟩,fun x hx=>by cases hx⟩)) (fun _ _=>⟨(([],()),(([],0,0,()),())),⟨by decide,by decide,yL⟩⟩) ?_
 intro b i h hin hp
 have hp:0≤i:=hp
 refine ⟨hp,?_⟩
 rintro ⟨⟨v,_⟩,⟨b1,i1,h1,_⟩,_⟩ ⟨q1,q2,q3⟩
 dsimp only at q1 q2 q3 ⊢
 refine af (fun _=>⟨q1,q2,q3⟩) fun h0=>⟨q1,?_⟩
 have h0:0<v.length:=by have h0:(v.length:Int)≠0:=beq_eq_false_iff_ne.1 h0;omega
 rw [wz h0 (by omega)]
 rintro ⟨⟨r,_⟩,⟨b2,i2,h2,_⟩,_⟩ ⟨e1,e2,e3,_⟩
 refine af (fun _=>⟨⟨e1,by simp⟩,?_⟩) fun _=>af (fun _=>⟨e1,?_⟩) fun _=>af (fun _=>⟨e1,?_⟩) fun _=>⟨e1,q2,q3⟩
 · rintro ⟨⟨s,_⟩,⟨b3,i3,h3,_⟩,_⟩ ⟨f1,_⟩
   exact ⟨⟨by omega,by omega⟩,h0,f1,by simp;omega,Pq _ q3 (BI q3 h0)⟩
 · rintro ⟨⟨s,_⟩,⟨b3,i3,h3,_⟩,_⟩ ⟨f1,_⟩
   exact ⟨⟨by omega,by omega⟩,by omega,f1,by simp;omega,Pq _ q3 (BI q3 (n:=v.length-1) (by omega))⟩
 · rintro ⟨⟨⟨a,l,nx,d,_⟩,_⟩,⟨b3,i3,h3,_⟩,_⟩ ⟨f1,f2⟩
   exact ⟨⟨by omega,by omega⟩,h0,f1,by simp;omega,Pq _ q3 f2⟩
theorem UK:aC prog G pz sK:=by
 refine UL (aF (l:=[(Ad, .eff (ai um) zD),(eX, .eff (ai dI) dX),(mG, .eff (ai kL) lS),(mJ, .eff (ai lg) lM)]) (ay ah) (by simp only [List.forall_mem_cons];exact ⟨⟨aaB,Yo⟩,⟨pI,nP⟩,⟨Kr,Jt⟩,⟨Ko,Js⟩,fun x hx=>by cases hx⟩)) (fun _ _=>⟨((([],0,([],[],0,[],()),()),())),⟨by decide,yL,⟨by decide,by decide,fun x hx=>by cases hx⟩,Et⟩⟩) ?_
 intro code hin hp
 refine ⟨hp,fun r0 hr0=>⟨by rw [hr0];exact Int.le_refl _,fun r1 hr1=>⟨⟨hr1.1,by simp⟩,fun r2 hr2=>⟨hr2.1,fun r3 hr3=>⟨hr1.2.1,hr1.2.2,hr3.2⟩⟩⟩⟩⟩
theorem Kz:aC prog G kT lD:=by
 refine Xq (aF (l:=[(Ap, .eff (ai uo) Dn),(mG, .eff (ai kL) lS),(mJ, .eff (ai lg) lM)]) (ay ah) (by simp only [List.forall_mem_cons];exact ⟨⟨agC,ad3⟩,⟨Kr,Jt⟩,⟨Ko,Js⟩,fun x hx=>by cases hx⟩)) (fun _ _=>⟨((([],0,()),())),⟨by decide,yL⟩⟩) ?_
 intro code hin hp
 exact ⟨hp,fun r0 hr0=>⟨by rw [hr0];exact Int.le_refl _,fun r1 hr1=>⟨hr1.1,fun r2 hr2=>⟨hr1.2.1,hr1.2.2⟩⟩⟩⟩
end Go.Proofs.Tryz
