import Derived.Test.YtkgkfdphbkfjnaaGreatP27
import Derived.Test.YtkgkfdphbkfjnaaGreatV10
import Derived.Test.YtkgkfdphbkfjnaaGreatL3
namespace Go.Proofs.Tryz
open Go Go.Fw Go.IntWalk Sp
theorem acT:OK Eh.e:=by
 refine PA.ok mixed (au [iL.e] ⟨jq,trivial⟩) H0 (by kernel_rfl) (show ∀ f0 f1 f2 f3 f4 u,Eh.goal (acU f0 f1 f2 f3 f4 u) ((f0,f1,f2,f3,f4,()),u,()) from ?_)
 intro f0 f1 f2 f3 f4 u hin hp
 dsimp only [Eh] at hp ⊢
 refine ⟨trivial,af (fun h=>?_) fun h=>?_⟩
 all_goals refine congrArg (·,()) ?_
 · show _=((decide (0≤u)&&decide (u≤2))&&decide (f1=u))
   rw [h];rfl
 · show _=((decide (0≤u)&&decide (u≤2))&&decide (f1=u))
   rw [h];rfl
theorem acV:OK Ei.e:=by
 refine PA.ok mixed (au [xX.e] ⟨JR,trivial⟩) H0 (by kernel_rfl) (show ∀ f0 f1 f2 f3 f4 user,Ei.goal (acW f0 f1 f2 f3 f4 user) ((f0,f1,f2,f3,f4,()),user,()) from ?_)
 intro f0 f1 f2 f3 f4 u hin hp
 dsimp only [Ei] at hp ⊢
 refine ⟨trivial,af (fun h=>?_) fun h=>?_⟩
 all_goals refine congrArg (·,()) ?_
 · show _=((decide (0≤u)&&decide (u≤2))&&decide (f1=u))
   rw [h];rfl
 · show _=((decide (0≤u)&&decide (u≤2))&&decide (f1=u))
   rw [h];rfl
theorem UK:OK xJ.e:=by
 refine PA.ok mixed (au [] trivial) V6 (by kernel_rfl) (show ∀ s0 s1 s2 u,xJ.goal (UL s0 s1 s2 u) ((s0,s1,s2,()),u,()) from ?_)
 intro s0 s1 s2 u hin hp
 dsimp only [xJ] at hp ⊢
 have hp:s1.length≤1000:=hp
 refine dN (fun i (x:List (Int×Unit))=>(((),i,()),x,())) (fun y=>y.1.2.1) (fun _ _=>rfl) s1.length (by omega) (fun n l=>l=wF (s1.take n) u) rfl (fun I μ n l hn hJ next=>?_) fun I μ l hJ=>?_
 · subst hJ
   have hl:=ank (s1.take n) u
   rw [List.length_take] at hl
   dsimp only
   refine dH (by omega) ⟨⟨by omega,by omega⟩,af (fun h=>⟨⟨by omega,by omega⟩,by rw [bW];simp only [List.length_cons,List.length_nil];omega,rfl,next _ ?_⟩) fun h=>⟨rfl,next _ ?_⟩⟩
   · rw [ad8 hn,if_pos (show (Sp.fileAt s1 n).2.1=u from fJ h)];rfl
   · rw [ad8 hn,if_neg (show ¬ (Sp.fileAt s1 n).2.1=u from fZ h),List.append_nil]
 · subst hJ
   dsimp only
   refine dI (by omega) ?_
   rw [List.take_length]
theorem ae9:OK Fp.e:=by
 refine XA.ok mixed (au [jk.e] ⟨lT,trivial⟩) H0 (fun _ _=>⟨((0,()),(([],0,0,()),())),Int.le_refl 0⟩) (by kernel_rfl) (show ∀ c0 c1 c2,Fp.goal (afa c0 c1 c2) ((c0,c1,c2,()),()) from ?_)
 intro b i h hin hp
 dsimp only [Fp] at hp ⊢
 exact ⟨⟨hp,by simp⟩,fun r0 hr0=>hr0.1⟩
theorem QG:OK uD.e:=by
 refine XA.ok mixed (au [vw.e,AA.e,uh.e] ⟨KQ,P5,Hw,trivial⟩) H0 (fun _ _=>by obtain ⟨c,h⟩:=ahy;exact ⟨(((c.1,c.2.1,c.2.2.1,c.2.2.2.1,c.2.2.2.2.1,()),()),(([],0,0,()),())),⟨Int.le_refl 0,h⟩⟩) (by kernel_rfl) (show ∀ c0 c1 c2,uD.goal (QI c0 c1 c2) ((c0,c1,c2,()),()) from ?_)
 intro b i h hin hp
 dsimp only [uD] at hp ⊢
 refine ⟨hp,fun r0 hr0=>⟨hr0.1,fun r1 hr1=>⟨⟨hr0.2.2.2.2.1,hr1.2.2.1⟩,?_⟩⟩⟩
 rintro ⟨⟨⟨a,fs,nx,d,r,⟨⟩⟩,ok,⟨⟩⟩,⟨⟩⟩ ⟨e1,e2,_⟩
 have hz:(ai r1.1.1&&ax r0.1.1)=true:=by rw [hr1.2.2.2.1,hr0.2.2.1];rfl
 obtain ⟨k1,k2,k3⟩:=e2 (e1.trans hz)
 have k1:((a,fs,nx,()):bT)=r0.1.1:=k1
 have k2:d=r1.1.1:=k2
 refine ⟨hr1.1,?_⟩
 subst k2
 rw [← k1] at hr0 k3
 exact ⟨agt hr0.2.1 hr0.2.2.1 hr0.2.2.2.2.1 hr0.2.2.2.2.2 hr1.2.2.1 hr1.2.2.2.1 k3,hr1.2.2.2.2⟩
end Go.Proofs.Tryz
