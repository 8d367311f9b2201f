import Derived.Test.YtkgkfdphbkfjnaaGreatP2
import Derived.Test.YtkgkfdphbkfjnaaGreatSp
namespace Go.Proofs.Tryz
open Go Go.Fw Go.IntWalk Sp
theorem Nj (n0 n1 n2:Int) (n3:Sp.Bytes) (n4 n5:Int) (n6:Sp.Bytes) (a:Int):kD (n0,n1,n2,n3,n4,n5,n6,()) a=
 (bif n0==1 then (n1==0&&n2==0)&&(n3==[]&&(n4==0&&(n5==0&&n6==[]))) else bif n0==2 then (n1==0&&n2==0)&&(n4==0&&(n5==0&&n6==[]))&&jK n3 else
 bif n0==3 then (n1==0&&n2==0)&&jK n3&&jS n4 n5 n6&&!(n4==0) else bif n0==4 then (n1==0&&n2==0)&&jK n3&&jS n4 n5 n6&&n4==1 else
 bif n0==5 then (decide (0≤n1)&&decide (n1≤a-1)&&decide (0<a))&&n2==0&&(n3==[]&&(n4==0&&(n5==0&&n6==[]))) else
 bif n0==6||n0==7 then (decide (0≤n1)&&decide (n1≤a-1)&&decide (0<a))&&(decide (0≤n2)&&decide (n2≤a-1))&&(n3==[]&&(n4==0&&(n5==0&&n6==[]))) else
 bif n0==8||n0==9 then (n1==0&&n2==0)&&(n4==0&&(n5==0&&n6==[]))&&iq n3 else false):=rfl
theorem V7:OK yC.e:=by
 refine PA.ok mixed (au [mg.e,kM.e,rq.e,nR.e] ⟨Bl,pI,Jd,FP,trivial⟩) YN (by kernel_rfl) (show ∀ n0 n1 n2 n3 n4 n5 n6 at',yC.goal (JC n0 n1 n2 n3 n4 n5 n6 at') ((n0,n1,n2,n3,n4,n5,n6,()),at',()) from ?_)
 intro n0 n1 n2 n3 n4 n5 n6 a hin hp
 dsimp only [yC] at hp ⊢
 have ha:-9223372036854775808≤a∧a≤9223372036854775807:=hin.2.1
 show JC n0 n1 n2 n3 n4 n5 n6 a fun r=>r=(kD (n0,n1,n2,n3,n4,n5,n6,()) a,())
 rw [Nj]
 have w:0<a→IntKind.i64.wrap (a-1)=a-1:=fun h=>fF _ (by omega)
 refine af (fun _=>?_) fun _=>af (fun _=>af (fun _=>⟨trivial,?_⟩) fun _=>?_) fun _=>⟨fun y=>y=((n0==3||n0==4,()),()),?_,?_⟩
 · first|(simp_all;done)|(simp_all;grind)
 · first|(simp_all;done)|(simp_all;grind)
 · first|(simp_all;done)|(simp_all;grind)
 · refine af (fun _=>⟨rfl,?_⟩) fun _=>⟨rfl,?_⟩<;>first|(simp_all;done)|(simp_all;grind)
 · rintro _ rfl
   refine af (fun _=>?_) fun _=>af (fun _=>af (fun _=>af (fun h=>⟨trivial,?_⟩) fun _=>?_) fun _=>?_) fun _=>⟨fun y=>y=((n0==6||n0==7,()),()),?_,?_⟩
   · refine af (fun _=>⟨trivial,af (fun _=>⟨trivial,af (fun _=>af (fun _=>af (fun _=>?_) fun _=>?_) fun _=>?_) fun _=>?_⟩) fun _=>?_⟩) fun _=>?_
     all_goals first|(simp_all;done)|(simp_all;grind)
   · rw [w (fJ h)]
     first|(simp_all;done)|(simp_all;grind)
   · first|(simp_all;done)|(simp_all;grind)
   · first|(simp_all;done)|(simp_all;grind)
   · refine af (fun _=>⟨rfl,?_⟩) fun _=>⟨rfl,?_⟩<;>first|(simp_all;done)|(simp_all;grind)
   · rintro _ rfl
     refine af (fun _=>af (fun _=>af (fun h=>⟨trivial,?_⟩) fun _=>?_) fun _=>?_) fun _=>?_
     · rw [w (fJ h)]
       refine af (fun _=>⟨trivial,?_⟩) fun _=>?_<;>first|(simp_all;done)|(simp_all;grind)
     · first|(simp_all;done)|(simp_all;grind)
     · first|(simp_all;done)|(simp_all;grind)
     · refine af (fun _=>af (fun _=>af (fun _=>⟨trivial,?_⟩) fun _=>?_) fun _=>?_) fun _=>af (fun _=>af (fun _=>⟨trivial,?_⟩) fun _=>?_) fun _=>?_
       all_goals first|(simp_all;done)|(simp_all;grind)
theorem V8:OK yB.e:=by
 refine PA.ok mixed (au [l9.e,qZ.e,nP.e,iL.e] ⟨Bg,Jc,FO,jq,trivial⟩) YO (by kernel_rfl) (show ∀ n0 n1 n2 n3 n4 n5 n6 at',yB.goal (JD n0 n1 n2 n3 n4 n5 n6 at') ((n0,n1,n2,n3,n4,n5,n6,()),at',()) from ?_)
 intro n0 n1 n2 n3 n4 n5 n6 a hin hp
 dsimp only [yB] at hp ⊢
 have ha:-9223372036854775808≤a∧a≤9223372036854775807:=hin.2.1
 show JD n0 n1 n2 n3 n4 n5 n6 a fun r=>r=(kD (n0,n1,n2,n3,n4,n5,n6,()) a,())
 rw [Nj]
 have w:0<a→IntKind.i64.wrap (a-1)=a-1:=fun h=>fF _ (by omega)
 refine ⟨fun y=>y=((decide (0≤n1)&&decide (n1≤a-1)&&decide (0<a),()),()),⟨trivial,?_⟩,?_⟩
 · by_cases h:0<a
   · dsimp only
     rw [w h]
     refine af (fun _=>⟨rfl,?_⟩) fun _=>⟨rfl,?_⟩<;>first|(simp_all;done)|(simp_all;grind)
   · dsimp only
     refine af (fun _=>⟨rfl,?_⟩) fun _=>⟨rfl,?_⟩<;>first|(simp_all;done)|(simp_all;grind)
 · rintro _ rfl
   refine ⟨fun y=>y=(((decide (0≤n1)&&decide (n1≤a-1)&&decide (0<a))&&(decide (0≤n2)&&decide (n2≤a-1)),()),()),?_,?_⟩
   · refine af (fun h=>⟨trivial,rfl,?_⟩) fun h=>⟨rfl,?_⟩
     · have h:(decide (0≤n1)&&decide (n1≤a-1)&&decide (0<a))=true:=h
       have h2:0<a:=by simp at h;omega
       rw [w h2,h,Bool.true_and]
     · have h:(decide (0≤n1)&&decide (n1≤a-1)&&decide (0<a))=false:=h
       rw [h,Bool.false_and]
   · rintro _ rfl
     dsimp only
     generalize (decide (0≤n1)&&decide (n1≤a-1)&&decide (0<a))=kids
     generalize (decide (0≤n2)&&decide (n2≤a-1))=two
     repeat' first
      |exact trivial
      |refine af (fun _=>?_) fun _=>?_
      |refine And.intro trivial ?_
     all_goals first|(simp_all;done)|(simp_all;grind)
end Go.Proofs.Tryz
