import Derived.Test.YtgbobfdlafkijaaGreatP2
import Derived.Test.YtgbobfdlafkijaaGreatSp
namespace Go.Proofs.Tryz
open Go Go.Fw Go.IntWalk
theorem Yi (n0 n1 n2:Int) (n3:Sp.Bytes) (n4 n5:Int) (n6:Sp.Bytes) (a:Int):Sp.lG (n0,n1,n2,n3,n4,n5,n6,()) a=
 (bif n0==1 then (n1==0&&n2==0)&&(n3==[]&&(n4==0&&(n5==0&&n6==[]))) else bif n0==2 then (n1==0&&n2==0)&&(n4==0&&(n5==0&&n6==[]))&&Sp.kN n3 else
 bif n0==3 then (n1==0&&n2==0)&&Sp.kN n3&&Sp.kF n4 n5 n6&&!(n4==0) else bif n0==4 then (n1==0&&n2==0)&&Sp.kN n3&&Sp.kF n4 n5 n6&&n4==1 else
 bif n0==5 then (decide (0≤n1)&&decide (n1≤a-1)&&decide (0<a))&&n2==0&&(n3==[]&&(n4==0&&(n5==0&&n6==[]))) else
 bif n0==6||n0==7 then (decide (0≤n1)&&decide (n1≤a-1)&&decide (0<a))&&(decide (0≤n2)&&decide (n2≤a-1))&&(n3==[]&&(n4==0&&(n5==0&&n6==[]))) else
 bif n0==8||n0==9 then (n1==0&&n2==0)&&(n4==0&&(n5==0&&n6==[]))&&Sp.jf n3 else false):=rfl
theorem ag2:aA prog G yY Cc:=by
 refine ag3 (aC (l:=[(jL, .pure jP),(iZ, .pure iF),(oJ, .pure o6),(kZ, .pure lN)]) (au ah) (by simp only [List.forall_mem_cons];exact ⟨⟨Iz,Gf⟩,⟨yL,wG⟩,⟨Tj,Qz⟩,⟨Ny,MF⟩,fun x hx=>by cases hx⟩)) ?_
 intro n0 n1 n2 n3 n4 n5 n6 a hin hp
 have ha:-9223372036854775808≤a∧a≤9223372036854775807:=hin.2.1
 show UB n0 n1 n2 n3 n4 n5 n6 a fun r=>r=(Sp.lG (n0,n1,n2,n3,n4,n5,n6,()) a,())
 rw [Yi]
 have w:0<a→IntKind.i64.wrap (a-1)=a-1:=fun h=>iM _ (by omega)
 refine af (fun _=>?_) fun _=>af (fun _=>af (fun _=>⟨trivial,?_⟩) fun _=>?_) fun _=>⟨fun y=>y=((n0==3||n0==4,()),()),?_,?_⟩
 · first|(simp_all;done)|(simp_all;grind)
 · first|(simp_all;done)|(simp_all;grind)
 · first|(simp_all;done)|(simp_all;grind)
 · refine af (fun _=>⟨rfl,?_⟩) fun _=>⟨rfl,?_⟩<;>first|(simp_all;done)|(simp_all;grind)
 · rintro _ rfl
   refine af (fun _=>?_) fun _=>af (fun _=>af (fun _=>af (fun h=>⟨trivial,?_⟩) fun _=>?_) fun _=>?_) fun _=>⟨fun y=>y=((n0==6||n0==7,()),()),?_,?_⟩
   · refine af (fun _=>⟨trivial,af (fun _=>⟨trivial,af (fun _=>af (fun _=>af (fun _=>?_) fun _=>?_) fun _=>?_) fun _=>?_⟩) fun _=>?_⟩) fun _=>?_
     all_goals first|(simp_all;done)|(simp_all;grind)
   · rw [w (jw h)]
     first|(simp_all;done)|(simp_all;grind)
   · first|(simp_all;done)|(simp_all;grind)
   · first|(simp_all;done)|(simp_all;grind)
   · refine af (fun _=>⟨rfl,?_⟩) fun _=>⟨rfl,?_⟩<;>first|(simp_all;done)|(simp_all;grind)
   · rintro _ rfl
     refine af (fun _=>af (fun _=>af (fun h=>⟨trivial,?_⟩) fun _=>?_) fun _=>?_) fun _=>?_
     · rw [w (jw h)]
       refine af (fun _=>⟨trivial,?_⟩) fun _=>?_<;>first|(simp_all;done)|(simp_all;grind)
     · first|(simp_all;done)|(simp_all;grind)
     · first|(simp_all;done)|(simp_all;grind)
     · refine af (fun _=>af (fun _=>af (fun _=>⟨trivial,?_⟩) fun _=>?_) fun _=>?_) fun _=>af (fun _=>af (fun _=>⟨trivial,?_⟩) fun _=>?_) fun _=>?_
       all_goals first|(simp_all;done)|(simp_all;grind)
theorem ag4:aA prog G yX Cb:=by
 refine ag5 (aC (l:=[(jK, .pure jO),(oI, .pure o5),(kY, .pure lM),(iU, .pure gX)]) (au ah) (by simp only [List.forall_mem_cons];exact ⟨⟨Iy,F9⟩,⟨Td,Qy⟩,⟨Nw,MC⟩,⟨xk,vF⟩,fun x hx=>by cases hx⟩)) ?_
 intro n0 n1 n2 n3 n4 n5 n6 a hin hp
 have ha:-9223372036854775808≤a∧a≤9223372036854775807:=hin.2.1
 show UC n0 n1 n2 n3 n4 n5 n6 a fun r=>r=(Sp.lG (n0,n1,n2,n3,n4,n5,n6,()) a,())
 rw [Yi]
 have w:0<a→IntKind.i64.wrap (a-1)=a-1:=fun h=>iM _ (by omega)
 refine ⟨fun y=>y=((decide (0≤n1)&&decide (n1≤a-1)&&decide (0<a),()),()),⟨trivial,?_⟩,?_⟩
 · by_cases h:0<a
   · dsimp only
     rw [w h]
     refine af (fun _=>⟨rfl,?_⟩) fun _=>⟨rfl,?_⟩<;>first|(simp_all;done)|(simp_all;grind)
   · dsimp only
     refine af (fun _=>⟨rfl,?_⟩) fun _=>⟨rfl,?_⟩<;>first|(simp_all;done)|(simp_all;grind)
 · rintro _ rfl
   refine ⟨fun y=>y=(((decide (0≤n1)&&decide (n1≤a-1)&&decide (0<a))&&(decide (0≤n2)&&decide (n2≤a-1)),()),()),?_,?_⟩
   · refine af (fun h=>⟨trivial,rfl,?_⟩) fun h=>⟨rfl,?_⟩
     · have h:(decide (0≤n1)&&decide (n1≤a-1)&&decide (0<a))=true:=h
       have h2:0<a:=by simp at h;omega
       rw [w h2,h,Bool.true_and]
     · have h:(decide (0≤n1)&&decide (n1≤a-1)&&decide (0<a))=false:=h
       rw [h,Bool.false_and]
   · rintro _ rfl
     dsimp only
     generalize (decide (0≤n1)&&decide (n1≤a-1)&&decide (0<a))=kids
     generalize (decide (0≤n2)&&decide (n2≤a-1))=two
     repeat' first
      |exact trivial
      |refine af (fun _=>?_) fun _=>?_
      |refine And.intro trivial ?_
     all_goals first|(simp_all;done)|(simp_all;grind)
end Go.Proofs.Tryz
