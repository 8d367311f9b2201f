import Derived.Test.YtlbkigkbmeckbaaGreatV3
import Derived.Test.YtlbkigkbmeckbaaGreatP12
import Derived.Test.YtlbkigkbmeckbaaGreatSp
namespace Go.Proofs.Tryz
open Go Go.Fw Go.IntWalk
theorem JE:ai prog G lG.e:=by
 refine JF (ak ah trivial) ?_
 intro a b hin hp
 dsimp only [lG] at hp ⊢
 exact eqL (K:=fun r=>r=(decide (a=b),())) (fun x y=>!(x.1==y.1&&(x.2.1==y.2.1&&(x.2.2.1==y.2.2.1&&(x.2.2.2.1==y.2.2.2.1&&true))))) (fun x y=>by simp [Prod.ext_iff]) _ a b _ hin.1.1 rfl
theorem IL:ai prog G kW.e:=by
 refine IQ (ak ah trivial) ?_
 intro a b hin hp
 dsimp only [kW] at hp ⊢
 exact eqL (K:=fun r=>r=(decide (a=b),())) (fun x y=>!(x.1==y.1&&(x.2.1==y.2.1&&true))) (fun x y=>by simp [Prod.ext_iff]) _ a b _ hin.1.1 rfl
theorem JG:ai prog G lH.e:=by
 refine JH (ak ah trivial) ?_
 intro a b hin hp
 dsimp only [lH] at hp ⊢
 exact eqL (K:=fun r=>r=(decide (a=b),())) (fun x y=>!(x.1==y.1&&(x.2.1==y.2.1&&(x.2.2.1==y.2.2.1&&(x.2.2.2.1==y.2.2.2.1&&(x.2.2.2.2.1==y.2.2.2.2.1&&(x.2.2.2.2.2.1==y.2.2.2.2.2.1&&(x.2.2.2.2.2.2.1==y.2.2.2.2.2.2.1&&true)))))))) (fun x y=>by simp [Prod.ext_iff]) _ a b _ hin.1.1 rfl
theorem Ij:ai prog G rE.e:=by
 refine XJ (ak ah ⟨JE,trivial⟩) ?_
 intro a0 a1 a2 a3 a4 b0 b1 b2 b3 b4 hin hp
 dsimp only [rE] at hp ⊢
 refine af (fun h0=>af (fun h1=>af (fun h2=>af (fun h3=>⟨trivial,?_⟩) fun h3=>?_) fun h2=>?_) fun h1=>?_) fun h0=>?_
 all_goals refine congrArg (·,()) (Bool.eq_iff_iff.2 ?_)
 · simp only [beq_iff_eq] at h0 h1 h2 h3
   subst h0 h1 h2 h3
   simp
 · have h3:a3≠b3:=by simpa using h3
   simp [h3]
 · have h2:a2≠b2:=by simpa using h2
   simp [h2]
 · have h1:a1≠b1:=by simpa using h1
   simp [h1]
 · have h0:a0≠b0:=by simpa using h0
   simp [h0]
theorem uj:ai prog G dJ.e:=by
 refine um (ak ah ⟨Ij,trivial⟩) ?_
 intro a b hin hp
 dsimp only [dJ] at hp ⊢
 exact amb (K:=fun r=>r=(decide (a=b),())) (fun x y=>!decide (x=y)) (fun x y=>by simp) _ a b _ hin.1.1 rfl
theorem UW:ai prog G uT.e:=by
 refine UX (ak ah ⟨Ij,uj,IL,trivial⟩) ?_
 intro a0 a1 a2 b0 b1 b2 hin hp
 dsimp only [uT] at hp ⊢
 refine ⟨trivial,af (fun h0=>⟨trivial,af (fun h1=>?_) fun h1=>?_⟩) fun h0=>?_⟩
 all_goals refine congrArg (·,()) (Bool.eq_iff_iff.2 ?_)
 · have h0:=fD h0
   have h1:=fD h1
   subst h0 h1
   simp
 · have h1:=fP h1
   simp [h1]
 · have h0:=fP h0
   simp [h0]
theorem Sm:ai prog G sS.e:=by
 refine Sr (ak ah ⟨JG,trivial⟩) ?_
 intro a b hin hp
 dsimp only [sS] at hp ⊢
 exact ⟨trivial,rfl⟩
theorem Gp:ai prog G qh.e:=by
 refine UY (ak ah ⟨Sm,trivial⟩) ?_
 intro a0 a1 b0 b1 hin hp
 dsimp only [qh] at hp ⊢
 refine af (fun h0=>⟨trivial,?_⟩) fun h0=>?_
 all_goals refine congrArg (·,()) (Bool.eq_iff_iff.2 ?_)
 · simp [beq_iff_eq.1 h0]
 · simp [show a0≠b0 by simpa using h0]
theorem uF:ai prog G dL.e:=by
 refine uG (ak ah ⟨Gp,trivial⟩) ?_
 intro a b hin hp
 dsimp only [dL] at hp ⊢
 exact amb (K:=fun r=>r=(decide (a=b),())) (fun x y=>!decide (x=y)) (fun x y=>by simp) _ a b _ hin.1.1 rfl
theorem aad:ai prog G xP.e:=by
 refine aae (ak ah ⟨Gp,uF,trivial⟩) ?_
 intro a b hin hp
 dsimp only [xP] at hp ⊢
 exact ⟨trivial,rfl⟩
end Go.Proofs.Tryz
