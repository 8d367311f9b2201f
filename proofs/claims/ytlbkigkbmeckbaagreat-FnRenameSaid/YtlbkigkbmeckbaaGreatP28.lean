import Derived.Test.YtlbkigkbmeckbaaGreatP27
import Derived.Test.YtlbkigkbmeckbaaGreatV10
import Derived.Test.YtlbkigkbmeckbaaGreatL3
namespace Go.Proofs.Tryz
open Go Go.Fw Go.IntWalk
theorem Qe:ai prog G zh.e:=by
 refine ai4 (aj ah ⟨jX,trivial⟩) ?_
 intro f0 f1 f2 f3 f4 u hin hp
 dsimp only [zh] at hp ⊢
 refine ⟨trivial,af (fun h=>af (fun h2=>?_) fun h2=>?_) fun h=>?_⟩
 all_goals refine congrArg (·,()) ?_
 · show _=((decide (0≤u)&&decide (u≤2))&&(decide (f1=u)||f2))
   rw [h,show decide (f1=u)=true from h2];rfl
 · show _=((decide (0≤u)&&decide (u≤2))&&(decide (f1=u)||f2))
   rw [h,show decide (f1=u)=false from h2];rfl
 · show _=((decide (0≤u)&&decide (u≤2))&&(decide (f1=u)||f2))
   rw [h];rfl
theorem ai5:ai prog G Ci.e:=by
 refine ai6 (aj ah ⟨JD,trivial⟩) ?_
 intro f0 f1 f2 f3 f4 u hin hp
 dsimp only [Ci] at hp ⊢
 refine ⟨trivial,af (fun h=>af (fun h2=>?_) fun h2=>?_) fun h=>?_⟩
 all_goals refine congrArg (·,()) ?_
 · show _=((decide (0≤u)&&decide (u≤2))&&(decide (f1=u)||f2))
   rw [h,show decide (f1=u)=true from h2];rfl
 · show _=((decide (0≤u)&&decide (u≤2))&&(decide (f1=u)||f2))
   rw [h,show decide (f1=u)=false from h2];rfl
 · show _=((decide (0≤u)&&decide (u≤2))&&(decide (f1=u)||f2))
   rw [h];rfl
theorem OJ:ai prog G xC.e:=by
 refine af6 (aj ah ⟨jX,trivial⟩) ?_
 intro f0 f1 f2 f3 f4 u hin hp
 dsimp only [xC] at hp ⊢
 refine ⟨trivial,af (fun h=>?_) fun h=>?_⟩
 all_goals refine congrArg (·,()) ?_
 · show _=((decide (0≤u)&&decide (u≤2))&&decide (f1=u))
   rw [h];rfl
 · show _=((decide (0≤u)&&decide (u≤2))&&decide (f1=u))
   rw [h];rfl
theorem OL:ai prog G xE.e:=by
 refine af7 (aj ah ⟨JD,trivial⟩) ?_
 intro f0 f1 f2 f3 f4 u hin hp
 dsimp only [xE] at hp ⊢
 refine ⟨trivial,af (fun h=>?_) fun h=>?_⟩
 all_goals refine congrArg (·,()) ?_
 · show _=((decide (0≤u)&&decide (u≤2))&&decide (f1=u))
   rw [h];rfl
 · show _=((decide (0≤u)&&decide (u≤2))&&decide (f1=u))
   rw [h];rfl
theorem X9:ai prog G wI.e:=by
 refine Ya (aj ah trivial) ?_
 intro w hin hp
 dsimp only [wI] at hp ⊢
 exact rfl
theorem I7:ai prog G iC.e:=by
 refine I8 (aj ah trivial) (fun ⟨s,_⟩ _=>⟨((s,()),()),rfl⟩) ?_
 intro s hin hp
 dsimp only [iC] at hp ⊢
 have hp:s.length≤1000:=hp
 intro g hg
 refine af (fun h=>?_) fun h=>⟨by rw [bU];omega,rfl⟩
 exact (List.length_eq_zero_iff.1 (hg h)).symm
theorem TT:ai prog G lq.e:=by
 refine TU (aj ah ⟨I7,trivial⟩) (fun ⟨(i,o,s,l,a,_),_⟩ _=>⟨(((i,o,s,l,a,()),()),()),⟨rfl,rfl,rfl,rfl,rfl⟩⟩) ?_
 intro f0 f1 f2 f3 f4 hin hp
 dsimp only [lq] at hp ⊢
 exact ⟨hp,fun r0 hr0=>⟨rfl,rfl,rfl,rfl,hr0⟩⟩
theorem FV:ai prog G qQ.e:=by
 refine adp (aj ah trivial) ?_
 intro a0 a1 a2 a3 p hin hp
 dsimp only [qQ] at hp ⊢
 exact rfl
theorem LU:ai prog G vM.e:=by
 refine adq (aj ah trivial) ?_
 intro a0 a1 a2 a3 p hin hp
 dsimp only [vM] at hp ⊢
 exact congrArg (·,()) (Sp.apN a0 p)
theorem AU:ai prog G gm.e:=by
 refine AX (aj ah ⟨FV,trivial⟩) ?_
 intro l nm hin hp
 dsimp only [gm] at hp ⊢
 exact TP (K:=fun r=>r=(Sp.findAt (fun x:Sp.dR=>x.1==nm) l,())) (fun x:Sp.dR=>x.1==nm) ([],0,0,[],()) l _ hin.1.1 rfl
theorem AY:ai prog G gq.e:=by
 refine AZ (aj ah ⟨LU,trivial⟩) ?_
 intro l nm hin hp
 dsimp only [gq] at hp ⊢
 exact TP (K:=fun r=>r=(Sp.findAt (fun x:Sp.dR=>Op.bytesLess nm x.1) l,())) (fun x:Sp.dR=>Op.bytesLess nm x.1) ([],0,0,[],()) l _ hin.1.1 rfl
theorem zX:ai prog G dL.e:=by
 refine zY (aj ah ⟨AU,FV,trivial⟩) (fun ⟨s,((nm,_),_),_⟩ _=>⟨((s.filter (fun x=>!(x.1==nm)),()),()),rfl⟩) ?_
 intro s nm hin hp
 dsimp only [dL] at hp ⊢
 exact ⟨trivial,aq9 (K:=fun r=>r.1.1=s.filter fun x=>!(x.1==nm)) (fun x:Sp.dR=>x.1==nm) ([],0,0,[],()) s _ (by have hp:s.length≤1000:=hp;omega) rfl⟩
theorem atI {r:List Sp.dR} {x:Sp.dR} {k:Nat} (hk:k≤r.length) (h1:∀ i,i<k→Op.bytesLess x.1 (r.getD i ([],0,0,[],())).1=false) (h2:k<r.length→Op.bytesLess x.1 (r.getD k ([],0,0,[],())).1=true):r.take k++([x]++r.drop k)=Sp.Fp r x:=by
 have e:∀ y:Sp.dR,Sp.kM x.1 y=!Op.bytesLess x.1 y.1:=fun y=>by rw [← Sp.apN y.1 x.1,Bool.not_not];rfl
 have hl:=Sp.ang (Sp.kM x.1) ([],0,0,[],()) r k hk (fun i hi=>by rw [e,h1 i hi];rfl) fun h=>by rw [e,h2 h];rfl
 unfold Sp.Fp
 rw [Sp.au8 (Sp.kM x.1) r,Sp.au9,hl];rfl
theorem ai7:ai prog G vN.e:=by
 refine ai8 (aj ah ⟨⟨Lc,KD⟩,AY,LU,zX,FV,TT,trivial⟩) (fun ⟨(i,o,s,l,a,_),nm,(k,n,w,_),_⟩ _=>⟨(((i,o,s,l,Sp.fH a nm k n w,()),()),()),⟨rfl,rfl,rfl,rfl,rfl⟩⟩) ?_
 intro f0 f1 f2 f3 f4 name v0 v1 v2 hin hp
 dsimp only [vN] at hp ⊢
 have hp:f4.length≤900:=hp
 refine ⟨by omega,?_⟩
 rintro ⟨⟨⟨i,o,s,l,a,⟨⟩⟩,⟨⟩⟩,⟨⟩⟩ ⟨e0,e1,e2,e3,e4⟩
 obtain rfl:i=f0:=e0
 obtain rfl:o=f1:=e1
 obtain rfl:s=f2:=e2
 obtain rfl:l=f3:=e3
 obtain rfl:a=f4:=e4
 refine ⟨(show a.length≤1000 by omega),?_⟩
 rintro ⟨⟨r,⟨⟩⟩,⟨⟩⟩ er
 have er:r=a.filter (Sp.jy name):=er
 have hl:r.length≤900:=by rw [er];exact Nat.le_trans (List.length_filter_le _ _) hp
 refine af (fun h=>⟨rfl,rfl,rfl,rfl,?_⟩) fun h=>⟨trivial,?_⟩
 · show r=Sp.fH a name v0 v1 v2
   unfold Sp.fH
   rw [decide_eq_true (beq_iff_eq.1 h)];exact er
 · have axK:Sp.fH a name v0 v1 v2=Sp.Fp r (name,v0,v1,v2,()):=by
    unfold Sp.fH
    rw [decide_eq_false (beq_eq_false_iff_ne.1 h),← er];rfl
   dsimp only
   rw [axK]
   rcases Sp.OM (fun x:Sp.dR=>Op.bytesLess name x.1) ([],0,0,[],()) r with ⟨g,hg⟩|⟨k,hk,g,gk,hlt⟩
   · rw [g]
     refine dh (by decide) ⟨⟨by omega,by omega,by omega,rfl⟩,fun r3 hr3=>⟨rfl,rfl,rfl,rfl,?_⟩⟩
     rw [Int.toNat_natCast] at hr3
     exact hr3.trans (atI (x:=(name,v0,v1,v2,())) (Nat.le_refl _) hg fun h=>(by omega))
   · rw [g]
     refine dm (by omega) ⟨⟨by omega,by omega,by omega,rfl⟩,fun r4 hr4=>⟨rfl,rfl,rfl,rfl,?_⟩⟩
     rw [Int.toNat_natCast] at hr4
     exact hr4.trans (atI (x:=(name,v0,v1,v2,())) (by omega) hlt fun _=>gk)
theorem af8:ai prog G Aq.e:=by
 refine af9 (aj ah ⟨IV,trivial⟩) ?_
 intro f0 f1 f2 f3 f4 hin hp
 dsimp only [Aq] at hp ⊢
 refine ⟨trivial,af (fun h=>congrArg (·,()) ?_) fun h=>congrArg (·,()) ?_⟩
 · show _=bif (Sp.bM f4 [110]).1==2 then _ else _
   rw [show ((Sp.bM f4 [110]).1==2)=false by simpa using h];rfl
 · show _=bif (Sp.bM f4 [110]).1==2 then _ else _
   rw [show ((Sp.bM f4 [110]).1==2)=true by simpa using h];rfl
theorem VF:ai prog G uP.e:=by
 refine VG (aj ah trivial) ?_
 intro s0 s1 s2 u hin hp
 dsimp only [uP] at hp ⊢
 have hp:s1.length≤1000:=hp
 refine dM (fun i (x:List (Int×Unit))=>(((),i,()),x,())) (fun y=>y.1.2.1) (fun _ _=>rfl) s1.length (by omega) (fun n l=>l=Sp.Hf (s1.take n) u) rfl (fun I μ n l hn hJ next=>?_) fun I μ l hJ=>?_
 · subst hJ
   have hl:=att (s1.take n) u
   rw [List.length_take] at hl
   dsimp only
   refine dh (by omega) ⟨⟨by omega,by omega⟩,af (fun h=>⟨⟨by omega,by omega⟩,by rw [bU];simp only [List.length_cons,List.length_nil];omega,rfl,next _ ?_⟩) fun h=>⟨rfl,next _ ?_⟩⟩
   · rw [aij hn,if_pos (show (Sp.fileAt s1 n).2.1=u from gG h)];rfl
   · rw [aij hn,if_neg (show ¬ (Sp.fileAt s1 n).2.1=u from iw h),List.append_nil]
 · subst hJ
   dsimp only
   refine dm (by omega) ?_
   rw [List.take_length]
theorem alQ:ai prog G DY.e:=by
 refine alR (aj ah ⟨DR,trivial⟩) ?_
 intro s0 s1 s2 id hin hp
 dsimp only [DY] at hp ⊢
 exact ⟨hp,rfl⟩
theorem ai9:ai prog G vO.e:=by
 refine aja (aj ah ⟨sF,trivial⟩) (fun _ _=>⟨((0,()),(([],0,0,()),())),Int.le_refl 0⟩) ?_
 intro b i h hin hp
 dsimp only [vO] at hp ⊢
 exact ⟨⟨hp,by simp⟩,fun r0 hr0=>hr0.1⟩
theorem Q9:ai prog G kF.e:=by
 refine Rf (aj ah ⟨KI,Qa,GV,trivial⟩) (fun _ _=>by obtain ⟨c,h⟩:=ane;exact ⟨(((c.1,c.2.1,c.2.2.1,c.2.2.2.1,c.2.2.2.2.1,()),()),(([],0,0,()),())),⟨Int.le_refl 0,h⟩⟩) ?_
 intro b i h hin hp
 dsimp only [kF] at hp ⊢
 refine ⟨hp,fun r0 hr0=>⟨hr0.1,fun r1 hr1=>⟨⟨hr0.2.2.2.2.1,hr1.2.2.1⟩,?_⟩⟩⟩
 rintro ⟨⟨⟨a,fs,nx,d,r,⟨⟩⟩,ok,⟨⟩⟩,⟨⟩⟩ ⟨e1,e2,_⟩
 have hz:(Sp.aF r1.1.1&&Sp.aH r0.1.1)=true:=by rw [hr1.2.2.2.1,hr0.2.2.1];rfl
 obtain ⟨k1,k2,k3⟩:=e2 (e1.trans hz)
 have k1:((a,fs,nx,()):Sp.bZ)=r0.1.1:=k1
 have k2:d=r1.1.1:=k2
 refine ⟨hr1.1,?_⟩
 subst k2
 rw [← k1] at hr0 k3
 exact ⟨alE hr0.2.1 hr0.2.2.1 hr0.2.2.2.2.1 hr0.2.2.2.2.2 hr1.2.2.1 hr1.2.2.2.1 k3,hr1.2.2.2.2⟩
theorem Qg:ai prog G rU.e:=by
 refine ajb (aj ah ⟨alO,ai2,dY,AB,VF,WZ,ai9,Q9,trivial⟩) (fun _ _=>by obtain ⟨c,h⟩:=any_some;exact ⟨(((c.1,c.2.1,c.2.2.1,c.2.2.2.1,c.2.2.2.2.1,()),0,[],0,()),(([],0,0,()),())),⟨Int.le_refl 0,h⟩⟩) ?_
 intro b i h hin hp
 dsimp only [rU] at hp ⊢
 refine ⟨hp,?_⟩
 rintro ⟨⟨c,⟨⟩⟩,⟨b0,i0,g0,⟨⟩⟩,⟨⟩⟩ ⟨p0,hl,hd⟩
 have hl:Sp.LX c:=hl
 have hd:0<(Sp.jW c).length:=hd
 have hany:=(apM hl).1
 refine ⟨p0,fun r1 hr1=>⟨hr1,fun r2 hr2=>⟨hany.1.1.2.1,?_⟩⟩⟩
 refine ⟨fun y=>0≤y.2.1.2.1,af (fun hc=>⟨hr2,fun r5 hr5=>af (fun _=>⟨hr5,fun r6 Jm=>⟨⟨Jm.2.1,Jm.2.2.1 (by have:=gG hc;omega)⟩,rfl,Jm.1⟩⟩) fun _=>⟨rfl,hr5⟩⟩) fun _=>⟨rfl,hr2⟩,fun y7 hJ=>⟨hJ,fun r8 OO=>⟨OO.1,fun r9 hr9=>?_⟩⟩⟩
 have q9:0≤r9.2.1.2.1:=hr9
 refine af (fun _=>⟨q9,fun r10 Vy=>⟨⟨Vy.2.1,Vy.2.2.1 (by show (0:Int)<((Sp.jW c).length:Int);omega)⟩,Vy.1,fun r11 afZ=>?_⟩⟩) fun _=>⟨q9,fun r13 axL=>?_⟩
 · have q11:0≤r11.2.1.2.1:=afZ
   exact af (fun _=>⟨q11,fun r12 axM=>axM⟩) fun _=>⟨q11,hany⟩
 · have q13:0≤r13.2.1.2.1:=axL
   exact af (fun _=>⟨q13,fun A7 axN=>axN⟩) fun _=>⟨q13,hany⟩
theorem Qh:ai prog G zi.e:=by
 refine ajc (aj ah ⟨LQ,OJ,DR,trivial⟩) ?_
 intro a l nx d r u id hin hp
 dsimp only [zi] at hp ⊢
 refine ⟨hp.1,af (fun h1=>⟨trivial,af (fun h2=>⟨hp,?_⟩) fun h2=>?_⟩) fun h1=>?_⟩
 all_goals refine congrArg (fun b:Bool=>((Sp.au (a,l,nx,()) id).1,b,())) ?_
 all_goals show _=(((Sp.au (a,l,nx,()) id).2&&Sp.mM (Sp.au (a,l,nx,()) id).1 u)&&Sp.iH (a,l,nx,d,r,()))
 · rw [h1,show Sp.mM (Sp.au (a,l,nx,()) id).1 u=true from h2];rfl
 · rw [h1,show Sp.mM (Sp.au (a,l,nx,()) id).1 u=false from h2];rfl
 · rw [h1];rfl
end Go.Proofs.Tryz
