import Derived.Test.YtgbobfdlafkijaaGreatV3
import Derived.Test.YtgbobfdlafkijaaGreatP12
import Derived.Test.YtgbobfdlafkijaaGreatSp
namespace Go.Proofs.Tryz
open Go Go.Fw Go.IntWalk
theorem UM:aG prog G o7 sO:=by
 refine UN (aF (l:=[]) (ay ah) (fun x hx=>by cases hx)) ?_
 intro a b hin hp
 exact eqL (K:=fun r=>r=(decide (a=b),())) (fun x y=>!(x.1==y.1&&(x.2.1==y.2.1&&(x.2.2.1==y.2.2.1&&(x.2.2.2.1==y.2.2.2.1&&true))))) (fun x y=>by simp [Prod.ext_iff]) _ a b _ hin.1.1 rfl
theorem S9:aG prog G nX qU:=by
 refine Tc (aF (l:=[]) (ay ah) (fun x hx=>by cases hx)) ?_
 intro a b hin hp
 exact eqL (K:=fun r=>r=(decide (a=b),())) (fun x y=>!(x.1==y.1&&(x.2.1==y.2.1&&true))) (fun x y=>by simp [Prod.ext_iff]) _ a b _ hin.1.1 rfl
theorem UO:aG prog G o8 sQ:=by
 refine UQ (aF (l:=[]) (ay ah) (fun x hx=>by cases hx)) ?_
 intro a b hin hp
 exact eqL (K:=fun r=>r=(decide (a=b),())) (fun x y=>!(x.1==y.1&&(x.2.1==y.2.1&&(x.2.2.1==y.2.2.1&&(x.2.2.2.1==y.2.2.2.1&&(x.2.2.2.2.1==y.2.2.2.2.1&&(x.2.2.2.2.2.1==y.2.2.2.2.2.1&&(x.2.2.2.2.2.2.1==y.2.2.2.2.2.2.1&&true)))))))) (fun x y=>by simp [Prod.ext_iff]) _ a b _ hin.1.1 rfl
theorem RJ:aG prog G qF rO:=by
 refine agE (aF (l:=[(o7, .pure sO)]) (ay ah) (by simp only [List.forall_mem_cons];exact ⟨⟨UM,SN⟩,fun x hx=>by cases hx⟩)) ?_
 intro a0 a1 a2 a3 a4 b0 b1 b2 b3 b4 hin hp
 refine af (fun h0=>af (fun h1=>af (fun h2=>af (fun h3=>⟨trivial,?_⟩) fun h3=>?_) fun h2=>?_) fun h1=>?_) fun h0=>?_
 all_goals refine congrArg (·,()) (Bool.eq_iff_iff.2 ?_)
 · simp only [beq_iff_eq] at h0 h1 h2 h3
   subst h0 h1 h2 h3
   simp
 · have h3:a3≠b3:=by simpa using h3
   simp [h3]
 · have h2:a2≠b2:=by simpa using h2
   simp [h2]
 · have h1:a1≠b1:=by simpa using h1
   simp [h1]
 · have h0:a0≠b0:=by simpa using h0
   simp [h0]
theorem yh:aG prog G dU fU:=by
 refine yj (aF (l:=[(qF, .pure rO)]) (ay ah) (by simp only [List.forall_mem_cons];exact ⟨⟨RJ,Qb⟩,fun x hx=>by cases hx⟩)) ?_
 intro a b hin hp
 exact avV (K:=fun r=>r=(decide (a=b),())) (fun x y=>!decide (x=y)) (fun x y=>by simp) _ a b _ hin.1.1 rfl
theorem aei:aG prog G zf Bd:=by
 refine aej (aF (l:=[(qF, .pure rO),(dU, .pure fU),(nX, .pure qU)]) (ay ah) (by simp only [List.forall_mem_cons];exact ⟨⟨RJ,Qb⟩,⟨yh,xq⟩,⟨S9,RG⟩,fun x hx=>by cases hx⟩)) ?_
 intro a0 a1 a2 b0 b1 b2 hin hp
 refine ⟨trivial,af (fun h0=>⟨trivial,af (fun h1=>?_) fun h1=>?_⟩) fun h0=>?_⟩
 all_goals refine congrArg (·,()) (Bool.eq_iff_iff.2 ?_)
 · have h0:=iO h0
   have h1:=iO h1
   subst h0 h1
   simp
 · have h1:=ji h1
   simp [h1]
 · have h0:=ji h0
   simp [h0]
theorem ab7:aG prog G wV zT:=by
 refine ab8 (aF (l:=[(o8, .pure sQ)]) (ay ah) (by simp only [List.forall_mem_cons];exact ⟨⟨UO,SQ⟩,fun x hx=>by cases hx⟩)) ?_
 intro a b hin hp
 exact ⟨trivial,rfl⟩
theorem Qe:aG prog G o9 qi:=by
 refine aek (aF (l:=[(wV, .pure zT)]) (ay ah) (by simp only [List.forall_mem_cons];exact ⟨⟨ab7,aak⟩,fun x hx=>by cases hx⟩)) ?_
 intro a0 a1 b0 b1 hin hp
 refine af (fun h0=>⟨trivial,?_⟩) fun h0=>?_
 all_goals refine congrArg (·,()) (Bool.eq_iff_iff.2 ?_)
 · simp [beq_iff_eq.1 h0]
 · simp [show a0≠b0 by simpa using h0]
theorem yM:aG prog G dW gq:=by
 refine yN (aF (l:=[(o9, .pure qi)]) (ay ah) (by simp only [List.forall_mem_cons];exact ⟨⟨Qe,Pg⟩,fun x hx=>by cases hx⟩)) ?_
 intro a b hin hp
 exact avV (K:=fun r=>r=(decide (a=b),())) (fun x y=>!decide (x=y)) (fun x y=>by simp) _ a b _ hin.1.1 rfl
theorem aik:aG prog G CU D5:=by
 refine ail (aF (l:=[(o9, .pure qi),(dW, .pure gq)]) (ay ah) (by simp only [List.forall_mem_cons];exact ⟨⟨Qe,Pg⟩,⟨yM,x9⟩,fun x hx=>by cases hx⟩)) ?_
 intro a b hin hp
 exact ⟨trivial,rfl⟩
theorem Ze:aG prog G uF wI:=by
 refine Zf (aF (l:=[(CU, .pure D5),(zf, .pure Bd)]) (ay ah) (by simp only [List.forall_mem_cons];exact ⟨⟨aik,agm⟩,⟨aei,abO⟩,fun x hx=>by cases hx⟩)) ?_
 intro a0 a1 a2 a3 b0 b1 b2 b3 hin hp
 refine ⟨trivial,af (fun h0=>⟨trivial,?_⟩) fun h0=>?_⟩
 all_goals refine congrArg (·,()) (Bool.eq_iff_iff.2 ?_)
 · have h0:=iO h0
   simp only [Prod.mk.injEq] at h0
   obtain ⟨rfl,rfl,rfl,_⟩:=h0
   simp
 · have h0:=ji h0
   simp only [decide_eq_true_eq,Bool.false_eq_true,false_iff,Prod.mk.injEq,and_true] at h0 ⊢
   exact fun h=>h0 ⟨h.1,h.2.1,h.2.2.1⟩
theorem KA:aG prog G kS lH:=by
 refine Xr (aF (l:=[(uF, .pure wI)]) (ay ah) (by simp only [List.forall_mem_cons];exact ⟨⟨Ze,Xi⟩,fun x hx=>by cases hx⟩)) ?_
 intro a0 a1 a2 a3 a4 a5 b0 b1 b2 b3 b4 b5 hin hp
 refine af (fun h0=>af (fun h1=>⟨trivial,?_⟩) fun h1=>?_) fun h0=>?_
 all_goals refine congrArg (·,()) (Bool.eq_iff_iff.2 ?_)
 · have h0:a0=b0:=by simpa using h0
   have h1:a5=b5:=by simpa using h1
   subst h0 h1
   simp
 · simp [show a5≠b5 by simpa using h1]
 · simp [show a0≠b0 by simpa using h0]
theorem rC:aG prog G cu dK:=by
 refine rD (aF (l:=[(kS, .pure lH)]) (ay ah) (by simp only [List.forall_mem_cons];exact ⟨⟨KA,JY⟩,fun x hx=>by cases hx⟩)) ?_
 intro a b hin hp
 exact avV (K:=fun r=>r=(decide (a=b),())) (fun x y=>!decide (x=y)) (fun x y=>by simp) _ a b _ hin.1.1 rfl
theorem aaC:aG prog G vK yH:=by
 refine aaD (aF (l:=[(kS, .pure lH),(cu, .pure dK)]) (ay ah) (by simp only [List.forall_mem_cons];exact ⟨⟨KA,JY⟩,⟨rC,qJ⟩,fun x hx=>by cases hx⟩)) ?_
 intro a b hin hp
 exact ⟨trivial,rfl⟩
theorem BB:aG prog G iE iH:=by
 refine UR (aF (l:=[]) (ay ah) (fun x hx=>by cases hx)) ?_
 intro x0 x1 x2 x3 x4 x5 hin hp
 exact rfl
theorem yt:aG prog G dS fQ:=by
 refine yu (aF (l:=[(iE, .pure iH)]) (ay ah) (by simp only [List.forall_mem_cons];exact ⟨⟨BB,Ah⟩,fun x hx=>by cases hx⟩)) ?_
 intro d hin hp
 exact axe (K:=fun r=>r=(Sp.findAt Sp.unpinned d,())) Sp.unpinned V0 d _ hin.1.1 rfl
theorem xu:aC prog G dO fH:=by
 refine xw (aF (l:=[(dS, .pure fQ),(iE, .pure iH)]) (ay ah) (by simp only [List.forall_mem_cons];exact ⟨⟨yt,xk⟩,⟨BB,Ah⟩,fun x hx=>by cases hx⟩)) (fun ⟨s,_,_⟩ _=>⟨((s.filter (fun x=>!Sp.unpinned x),()),()),rfl⟩) ?_
 intro s hin hp
 exact ⟨trivial,awM (K:=fun r=>r.1.1=s.filter fun x=>!Sp.unpinned x) Sp.unpinned V0 s _ (by have hp:s.length≤1000:=hp;omega) rfl⟩
end Go.Proofs.Tryz
