import Derived.Test.YtgbobfdlafkijaaGreatP11
namespace Go.Proofs.Tryz
open Go Go.Fw Go.IntWalk
theorem abJ:aC prog G wG yQ:=by
 refine abK (aF (l:=[(dP, .eff (aj dn) dI)]) (aA ah) (by simp only [List.forall_mem_cons];exact ⟨⟨mG,kZ⟩,fun x hx=>by cases hx⟩)) (fun _ _=>⟨(((0:Int),()),(([],0,0,()),())),⟨by decide,trivial⟩⟩) ?_
 intro b i h hin hp
 have hp:0≤i:=hp
 repeat' first
  |exact trivial
  |refine af (fun _=>?_) fun _=>?_
  |refine And.intro ?_ ?_
  |(intro r hr;simp only [] at hr)
  |intro r hr
 all_goals first
  |omega
  |(dsimp only at*;omega)
  |exact hr
  |(simp only [beq_eq_false_iff_ne,ne_eq] at*;omega)
  |(simp only [List.length_set,List.length_take,List.length_append,List.length_cons,List.length_nil];omega)
  |(rw [fD];simp only [List.length_set,List.length_take,List.length_append,List.length_cons,List.length_nil];omega)
  |(simp only [List.length_set,List.length_take,List.length_append,List.length_cons,List.length_nil] at*;omega)
  |exact (show ∀ y∈_,List.length y.1≤10 from by decide) _ hr.2
  |(simp;done)
  |skip
theorem ahx:aC prog G Bj CP:=by
 refine ahy (aF (l:=[(kT, .pure lJ),(tZ, .eff (aj nU) tu)]) (aA ah) (by simp only [List.forall_mem_cons];exact ⟨⟨Kt,IY⟩,⟨TM,QF⟩,fun x hx=>by cases hx⟩)) (fun _ _=>⟨(([],()),(([],0,0,()),())),⟨by decide,by decide,zZ⟩⟩) ?_
 intro b i h hin hp
 have hp:0≤i:=hp
 refine ⟨hp,?_⟩
 rintro ⟨⟨d,_⟩,⟨b1,i1,h1,_⟩,_⟩ ⟨q1,q2,q3,q4⟩
 dsimp only at q1 q2 q3 q4 ⊢
 have fin:∀ l:List Sp.eY,l.length≤4→Sp.bJ l→(bif (l.length:Int)==(0:Int) then 0≤i1∧([(([100,97]:List UInt8),[((1:Int),(0:Int),(0:Int),([]:List UInt8),(0:Int),(0:Int),([]:List UInt8),())],())]:List Sp.eY).length≤10∧Sp.bJ [([100,97],[(1,0,0,[],0,0,[],())],())] else 0≤i1∧l.length≤10∧Sp.bJ l):=fun l hl hs=>
  af (fun _=>⟨q1,by simp,XA zZ (by simp) (by simp)⟩) fun _=>⟨q1,by omega,hs⟩
 refine ⟨fun y=>y.1.1.length≤4∧Sp.bJ y.1.1,fun y=>y.1.1.length,⟨q3,q4⟩,?_⟩
 rintro ⟨⟨l,⟨⟩⟩,⟨⟩⟩ ⟨g1,g2⟩
 dsimp only at g1 g2 ⊢
 refine af (fun hc=>⟨g2,af (fun _=>?_) fun _=>fin l g1 g2⟩) fun _=>fin l g1 g2
 have hc:0<l.length:=by have:=iV hc;omega
 rw [vT hc (by omega),List.drop_zero,Int.toNat_natCast]
 exact ⟨⟨by omega,by omega⟩,rfl,⟨by rw [List.length_take];omega,anG _ g2⟩,by rw [List.length_take];omega⟩
theorem QZ:aC prog G qO rE:=by
 refine afk (aF (l:=[(Bj, .eff (aj ve) CP),(qN, .eff (aj lU) ru)]) (aA ah) (by simp only [List.forall_mem_cons];exact ⟨⟨ahx,aeS⟩,⟨QV,OC⟩,fun x hx=>by cases hx⟩)) (fun _ _=>⟨((([],[],0,[],()),()),(([],0,0,()),())),⟨by decide,⟨by decide,by decide,fun x hx=>by cases hx⟩,zZ⟩⟩) ?_
 intro b i h hin hp
 have hp:0≤i:=hp
 refine ⟨hp,fun r hr=>⟨hr.1,fun x hx=>⟨hx.1,hr.2.2.2.2,hx.2.2⟩⟩⟩
theorem VN:aC prog G vX vg:=by
 refine ajy (aF (l:=[(DL, .eff (aj xO) EH),(DN, .eff (aj xK) EF),(aS, .eff (aj aJ) aI),(qO, .eff (aj lV) rE)]) (aA ah) (by simp only [List.forall_mem_cons];exact ⟨⟨ajz,ag6⟩,⟨ajs,ag4⟩,⟨dF,cO⟩,⟨QZ,OD⟩,fun x hx=>by cases hx⟩)) (fun _ _=>⟨((([],[],0,[],()),()),(([],0,0,()),())),⟨by decide,⟨by decide,by decide,fun x hx=>by cases hx⟩,zZ⟩⟩) ?_
 intro b i h hin hp
 have hp:0≤i:=hp
 refine ⟨hp,fun r hr=>⟨hr.1,fun x hx=>af (fun _=>⟨hx.1,fun y hy=>⟨hy.1,hy.2,hr.2.2⟩⟩) fun _=>af (fun _=>⟨hx.1,fun y hy=>⟨hy.1,hr.2.1,hy.2.2⟩⟩) fun _=>⟨hx.1,hr.2⟩⟩⟩
theorem TN {v:List Sp.iF} {n:Int} {x:Sp.Me} (h1:Sp.bn v) (h2:v.length≤100) (h3:Sp.eF x):Sp.bn (Sp.fM v n x).1∧(Sp.fM v n x).1.length≤v.length+1:=by
 unfold Sp.fM
 cases Sp.fO v&&Sp.fO (v++[(n,x.1,x.2.1,x.2.2.1,x.2.2.2.1,0,())]) with
 |true=>exact ⟨Xw h1 (by omega) h3,by simp⟩
 |false=>exact ⟨h1,Nat.le_succ _⟩
theorem ahz:aC prog G Bl CQ:=by
 refine ahA (aF (l:=[(wF, .eff (aj qg) yS),(jJ, .eff (aj iW) jr),(ku, .eff (aj jg) kG),(qO, .eff (aj lV) rE),(aS, .eff (aj aJ) aI)]) (aA ah) (by simp only [List.forall_mem_cons];exact ⟨⟨abH,Zg⟩,⟨ER,Du⟩,⟨Jb,GZ⟩,⟨QZ,OD⟩,⟨dF,cO⟩,fun x hx=>by cases hx⟩)) (fun _ _=>⟨(([],()),(([],0,0,()),())),⟨by decide,by decide,Ku⟩⟩) ?_
 intro b i h hin hp
 have hp:0≤i:=hp
 refine ⟨hp,?_⟩
 rintro ⟨⟨n,_⟩,⟨b1,i1,h1,_⟩,_⟩ ⟨q1,q2,q3,_⟩
 dsimp only at q1 q2 q3 ⊢
 have q3:=q3 (by omega)
 refine ⟨fun y=>0≤y.2.1.2.1∧0≤y.1.2.2.1∧(y.2.2.1.length:Int)+y.1.2.2.1≤4∧Sp.bn y.2.2.1,fun y=>y.1.2.2.1.toNat,⟨q1,q2,by simp;omega,Ku⟩,?_⟩
 rintro ⟨⟨_,k,m,_⟩,⟨b2,i2,h2,_⟩,l,_⟩ ⟨g1,g2,g3,g4⟩
 dsimp only at g1 g2 g3 g4 ⊢
 refine af (fun hc=>⟨g1,?_⟩) fun hc=>⟨g1,by omega,g4⟩
 have hc:m>0:=iV hc
 rw [gK (m-1) (by omega)]
 rintro ⟨⟨r,_⟩,⟨b3,i3,h3,_⟩,_⟩ ⟨k1,_⟩
 refine ⟨k1,?_⟩
 rintro ⟨⟨⟨a,fl,nx,d,_⟩,_⟩,⟨b4,i4,h4,_⟩,_⟩ ⟨k2,k3⟩
 have k3:Sp.eF (a,fl,nx,d,()):=k3
 refine ⟨⟨g4,by omega,k3⟩,?_⟩
 rintro ⟨⟨w,ok,⟨⟩⟩,⟨⟩⟩ ⟨e1,_⟩
 have hs:=TN (n:=IntKind.i64.wrap (IntKind.i64.wrap (k+1)+r)) g4 (by omega) k3
 have e1:w=(Sp.fM l (IntKind.i64.wrap (IntKind.i64.wrap (k+1)+r)) (a,fl,nx,d,())).1:=e1
 rw [← e1] at hs
 refine ⟨k2,?_⟩
 rintro ⟨⟨c,_⟩,⟨b5,i5,h5,_⟩,_⟩ k4
 refine af (fun _=>⟨⟨hs.1,by dsimp only;omega⟩,?_⟩) fun _=>⟨rfl,⟨k4,by omega,by dsimp only;omega,hs.1⟩,by omega⟩
 rintro ⟨⟨u,ok2,⟨⟩⟩,⟨⟩⟩ ⟨m1,m2⟩
 have m1:u=(Sp.yj w _ 1).1:=m1
 have hu:=am4 (n:=IntKind.i64.wrap (IntKind.i64.wrap (k+1)+r)) (m:=1) hs.1
 rw [← m1] at hu
 exact ⟨rfl,⟨k4,by omega,by dsimp only;omega,hu.1⟩,by omega⟩
theorem VO:aC prog G vY vz:=by
 refine ajA (aF (l:=[(vX, .eff (aj pW) vg),(dP, .eff (aj dn) dI),(aS, .eff (aj aJ) aI),(Bl, .eff (aj vw) CQ)]) (aA ah) (by simp only [List.forall_mem_cons];exact ⟨⟨VN,Tq⟩,⟨mG,kZ⟩,⟨dF,cO⟩,⟨ahz,aeT⟩,fun x hx=>by cases hx⟩)) (fun _ _=>⟨(([],()),(([],0,0,()),())),⟨by decide,by decide,Ku⟩⟩) ?_
 intro b i h hin hp
 have hp:0≤i:=hp
 refine ⟨hp,?_⟩
 rintro ⟨⟨v,_⟩,⟨b1,i1,h1,_⟩,_⟩ ⟨q1,q2,q3⟩
 dsimp only at q1 q2 q3 ⊢
 refine af (fun _=>⟨q1,q2,q3⟩) fun h0=>⟨q1,?_⟩
 have h0:0<v.length:=by have h0:(v.length:Int)≠0:=beq_eq_false_iff_ne.1 h0;omega
 rw [vT h0 (by omega)]
 rintro ⟨⟨r,_⟩,⟨b2,i2,h2,_⟩,_⟩ ⟨e1,e2,e3,_⟩
 refine af (fun _=>⟨⟨e1,by simp⟩,?_⟩) fun _=>af (fun _=>⟨e1,?_⟩) fun _=>af (fun _=>⟨e1,?_⟩) fun _=>⟨e1,q2,q3⟩
 · rintro ⟨⟨s,_⟩,⟨b3,i3,h3,_⟩,_⟩ ⟨f1,_⟩
   exact ⟨⟨by omega,by omega⟩,h0,f1,by simp;omega,O7 _ q3 (zX q3 h0)⟩
 · rintro ⟨⟨s,_⟩,⟨b3,i3,h3,_⟩,_⟩ ⟨f1,_⟩
   exact ⟨⟨by omega,by omega⟩,by omega,f1,by simp;omega,O7 _ q3 (zX q3 (n:=v.length-1) (by omega))⟩
 · rintro ⟨⟨⟨a,l,nx,d,_⟩,_⟩,⟨b3,i3,h3,_⟩,_⟩ ⟨f1,f2⟩
   exact ⟨⟨by omega,by omega⟩,h0,f1,by simp;omega,O7 _ q3 f2⟩
theorem O8:aC prog G mr oW:=by
 refine O9 (aF (l:=[(vX, .eff (aj pW) vg),(dP, .eff (aj dn) dI),(vY, .eff (aj pX) vz),(vZ, .eff (aj sO) uU)]) (aA ah) (by simp only [List.forall_mem_cons];exact ⟨⟨VN,Tq⟩,⟨mG,kZ⟩,⟨VO,Tt⟩,⟨Vx,Tm⟩,fun x hx=>by cases hx⟩)) (fun _ _=>⟨((([],0,([],[],0,[],()),()),())),⟨by decide,Ku,⟨by decide,by decide,fun x hx=>by cases hx⟩,zZ⟩⟩) ?_
 intro code hin hp
 refine ⟨hp,fun r0 hr0=>⟨by rw [hr0];exact Int.le_refl _,fun r1 hr1=>⟨⟨hr1.1,by simp⟩,fun r2 hr2=>⟨hr2.1,fun r3 hr3=>⟨hr1.2.1,hr1.2.2,hr3.2⟩⟩⟩⟩⟩
theorem Ry:aC prog G oP qF:=by
 refine Rz (aF (l:=[(wG, .eff (aj pY) yQ),(vY, .eff (aj pX) vz),(vZ, .eff (aj sO) uU)]) (aA ah) (by simp only [List.forall_mem_cons];exact ⟨⟨abJ,Ze⟩,⟨VO,Tt⟩,⟨Vx,Tm⟩,fun x hx=>by cases hx⟩)) (fun _ _=>⟨((([],0,()),())),⟨by decide,Ku⟩⟩) ?_
 intro code hin hp
 exact ⟨hp,fun r0 hr0=>⟨by rw [hr0];exact Int.le_refl _,fun r1 hr1=>⟨hr1.1,fun r2 hr2=>⟨hr1.2.1,hr1.2.2⟩⟩⟩⟩
theorem anH {v:List Sp.iF} (h:Sp.fO v=true) {n:Nat} (hn:n+1<v.length):(Sp.bW v n).1<(Sp.bW v (n+1)).1:=by
 have:=akS h hn
 unfold Sp.kJ at this
 simp only [Bool.and_eq_true] at this
 have h2:=this.2.1
 rw [decide_eq_true (show 0<n+1 by omega),Bool.true_and,Nat.add_sub_cancel] at h2
 have:=jh (jB h2)
 omega
theorem akT {v:List Sp.iF} (h:Sp.fO v=true) {i:Nat}:∀ n,i<n→n<v.length→(Sp.bW v i).1<(Sp.bW v n).1
 |0,hi,_=>by omega
 |n+1,hi,hn=>by
  have h1:=anH h hn
  rcases Nat.lt_or_ge i n with h2|h2
  · have:=akT h n h2 (by omega)
    omega
  · have:i=n:=by omega
    rw [this];exact h1
theorem XB (v:List Sp.iF) (x:Sp.iF):Sp.bW (v++[x]) v.length=x:=by
 unfold Sp.bW
 rw [List.getD_eq_getElem?_getD,List.getElem?_append_right (Nat.le_refl _),Nat.sub_self]
 rfl
theorem anI {v:List Sp.iF} {x:Sp.iF} (h:Sp.fO (v++[x])=true):Sp.iq (v++[x]) x.1=(Sp.qp x,true):=by
 have hp:Sp.aP (v++[x]) x.1=v.length:=Uz (by simp) (by rw [XB]) fun i hi=>by
  have:=akT h v.length hi (by simp)
  rw [XB] at this
  omega
 rw [UB (by rw [hp];omega),hp,Int.toNat_natCast,XB]
theorem UC:aG prog G I4 FW:=by
 refine UD (aF (l:=[(jk, .pure jD),(kW, .pure lM),(sJ, .pure vN),(uM, .eff (aj oI) wX),(uN, .eff (aj oH) wW),(oP, .eff (aj jW) qF),(ku, .eff (aj jg) kG),(qR, .eff (aj lK) uw),(mr, .eff (aj jC) oW),(JK, .pure Jp)]) (aA ah) (by simp only [List.forall_mem_cons];exact ⟨⟨FD,EO⟩,⟨Kv,IZ⟩,⟨XC,Vw⟩,⟨Zr,Xj⟩,⟨Zp,Xi⟩,⟨Ry,QG⟩,⟨Jb,GZ⟩,⟨VJ,Uw⟩,⟨O8,NK⟩,⟨anE,amS⟩,fun x hx=>by cases hx⟩)) ?_
 intro code hin hp
 refine ⟨trivial,af (fun _=>rfl) fun hc=>?_⟩
 have hc:code.length≤1048576:=by
  have hc:¬ (1048576:Int)<(code.length:Int):=jh hc
  exact Int.ofNat_le.1 (Int.not_lt.1 hc)
 refine ⟨hc,?_⟩
 rintro ⟨⟨v,n,⟨a,l,nx,d,⟨⟩⟩,⟨⟩⟩,⟨⟩⟩ ⟨hv1,hv2,hx⟩
 dsimp only at hv1 hv2 hx ⊢
 refine ⟨⟨hv2,by omega,hx⟩,?_⟩
 rintro ⟨⟨w,ok,⟨⟩⟩,⟨⟩⟩ ⟨e1,e2⟩
 dsimp only at e1 e2 ⊢
 refine ⟨⟨hv2,by omega,hx⟩,?_⟩
 rintro ⟨⟨w3,ok3,⟨⟩⟩,⟨⟩⟩ ⟨e3,e4⟩
 dsimp only at e3 e4 ⊢
 refine ⟨hc,?_⟩
 rintro ⟨⟨v',n',⟨⟩⟩,⟨⟩⟩ ⟨hv3,hv4⟩
 dsimp only at hv3 hv4 ⊢
 refine ⟨hv4,?_⟩
 rintro ⟨⟨⟨a5,l5,x5,d5,⟨⟩⟩,ok5,⟨⟩⟩,⟨⟩⟩ ⟨e5,e6⟩
 dsimp only at e5 e6 ⊢
 refine ⟨hv4,?_⟩
 rintro ⟨⟨⟨a6,l6,x6,d6,⟨⟩⟩,ok6,⟨⟩⟩,⟨⟩⟩ ⟨e7,e8⟩
 dsimp only at e7 e8 ⊢
 have hw:w=w3:=e1.trans e3.symm
 have hok:ok=ok3:=e2.trans e4.symm
 have h56:=e5.trans e7.symm
 have as9:ok5=ok6:=e6.trans e8.symm
 have hws:=(TN (n:=n) hv2 (by omega) hx).1
 rw [← e1] at hws
 refine ⟨fun _=>True,?_,?_⟩
 · refine af (fun h=>?_) fun _=>⟨trivial,af (fun h=>?_) fun _=>af (fun h=>?_) fun _=>⟨trivial,af (fun h=>?_) fun _=>⟨rfl,trivial⟩⟩⟩
   · subst hok;simp at h
   · exact (jh (jB h) hw).elim
   · subst as9;simp at h
   · exact (jh (jB h) h56).elim
 · intro _ _
   refine ⟨hws,?_⟩
   rintro ⟨⟨⟨a7,l7,x7,d7,⟨⟩⟩,ok7,⟨⟩⟩,⟨⟩⟩ ⟨e9,e10⟩
   dsimp only at e9 e10 ⊢
   refine af (fun _=>rfl) fun hk=>?_
   have hk:ok=true:=fJ hk
   have good:Sp.fO v=true∧Sp.fO (v++[(n,a,l,nx,d,0,())])=true:=by
    rw [e2] at hk
    unfold Sp.fM at hk
    cases g:Sp.fO v&&Sp.fO (v++[(n,a,l,nx,d,0,())]) with
    |true=>rw [Bool.and_eq_true] at g;exact g
    |false=>rw [g] at hk;cases hk
   have hap:=LU (n:=n) (x:=(a,l,nx,d,())) good.1 good.2
   rw [hap] at e1
   have e1:w=v++[(n,a,l,nx,d,0,())]:=e1
   have hf:=anI good.2
   rw [e1,hf] at e9 e10
   have e10:ok7=true:=e10
   refine af (fun _=>⟨trivial,af (fun _=>af (fun _=>⟨hws,?_⟩) fun h=>?_) fun h=>?_⟩) fun h=>?_
   · rw [e1,good.2]
   · have h:=beq_eq_false_iff_ne.1 h
     rw [e1,gK _ (by omega)] at h
     exact (h (by simp)).elim
   · exact (jh h e9).elim
   · rw [e10] at h;cases h
end Go.Proofs.Tryz
