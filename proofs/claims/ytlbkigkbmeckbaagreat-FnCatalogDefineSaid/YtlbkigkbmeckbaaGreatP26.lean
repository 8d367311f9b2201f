import Derived.Test.YtlbkigkbmeckbaaGreatP25
namespace Go.Proofs.Tryz
open Go Go.Fw Go.IntWalk
def akY (s:Sp.dG) (e:List Sp.aH) (z:Sp.ny) (fine:Bool):Prop:=
 fine=(Sp.ax e&&Sp.aJ s)∧(fine=true→(z.1,z.2.1,z.2.2.1,())=s∧z.2.2.2.1=e∧Sp.fH s.2.1 e [] (fun _=>true) z.2.2.2.2.1)∧(fine=false→z=([],[],0,[],[],()))
theorem arN {s:Sp.dG} {e:List Sp.aH} {z z2:Sp.ny} {f f2:Bool} (h:akY s e z f) (h2:akY s e z2 f2):z=z2∧f=f2:=by
 obtain ⟨a1,a2,a3⟩:=h
 obtain ⟨b1,b2,b3⟩:=h2
 have ef:=a1.trans b1.symm
 refine ⟨?_,ef⟩
 cases hf:f with
 |false=>rw [a3 hf,b3 (ef.symm.trans hf)]
 |true=>
  obtain ⟨x1,x2,x3⟩:=a2 hf
  obtain ⟨y1,y2,y3⟩:=b2 (ef.symm.trans hf)
  have hz:=a1.symm.trans hf
  rw [Bool.and_eq_true] at hz
  exact anJ (x1.trans y1.symm) (x2.trans y2.symm) (Sp.LH (nV hz.1).1 x3 y3)
theorem arO {s:Sp.dG} {e:List Sp.aH} {z:Sp.ny} (h:akY s e z true) (he:Sp.aB e):Sp.gq z∧Sp.gy z=true:=by
 obtain ⟨a1,a2,_⟩:=h
 obtain ⟨x1,x2,x3⟩:=a2 rfl
 obtain ⟨a,l,nx,d,r,_⟩:=z
 have x1:((a,l,nx,()):Sp.dG)=s:=x1
 have x2:d=e:=x2
 subst x1 x2
 have hc:Sp.gy (a,l,nx,d,r,())=true:=by rw [Qb (out:=r) a1.symm x3,decide_eq_true rfl]
 exact ⟨ajN hc he,hc⟩
theorem aoQ {c y:Sp.ny} {s:Sp.dG} {d:List Sp.aH} {b:Bool} {df:List Sp.FX} (h:Sp.became c s d b y df true) (hd:Sp.aB d):Sp.gq y∧Sp.gy y=true:=by
 obtain ⟨k1,k2,k3,_⟩:=h.2.1 rfl
 exact ⟨ajN k3 (by rw [k2];exact hd),k3⟩
theorem MJ:ai prog G uq.e:=by
 refine MK (ak ah ⟨AB,Qo,Jb,Ja,Qp,aau,Ve,JL,Io,Yi,OC,aay,aaw,Qj,amX,trivial⟩) ?_
 intro code hin hp
 dsimp only [uq] at hp ⊢
 refine ⟨trivial,af (fun _=>rfl) fun hb=>?_⟩
 have hc:code.length≤1048576:=by have:=fP hb;omega
 refine ⟨hc,?_⟩
 rintro ⟨⟨c,x,⟨⟩⟩,⟨⟩⟩ ⟨hany,hx⟩
 have hany:Sp.zJ c:=hany
 have hx:x.2.1.length≤1000:=hx
 refine ⟨⟨hany,hx⟩,?_⟩
 rintro ⟨⟨y,df,ok,⟨⟩⟩,⟨⟩⟩ hy
 have hy:Sp.became c (Sp.mJ c) (Sp.bG (Sp.fM c) x).1 (Sp.gy c&&((Sp.bG (Sp.fM c) x).2&&Sp.ax (Sp.bG (Sp.fM c) x).1)) y df ok:=hy
 refine ⟨⟨hany,hx⟩,?_⟩
 rintro ⟨⟨y2,df2,ok2,⟨⟩⟩,⟨⟩⟩ hy2
 obtain ⟨rfl,rfl,rfl⟩:=aoN hy hy2
 refine ⟨hc,?_⟩
 rintro ⟨⟨s,e,⟨⟩⟩,⟨⟩⟩ ⟨hs,he⟩
 have he:Sp.aB e:=he
 refine ⟨⟨hs,he⟩,?_⟩
 rintro ⟨⟨z,fine,⟨⟩⟩,⟨⟩⟩ hz
 have hz:akY s e z fine:=hz
 refine ⟨⟨hs,he⟩,?_⟩
 rintro ⟨⟨z2,good,⟨⟩⟩,⟨⟩⟩ hz2
 obtain ⟨rfl,rfl⟩:=arN hz hz2
 refine ⟨hc,?_⟩
 rintro ⟨⟨a,b,⟨⟩⟩,⟨⟩⟩ ⟨ha,_⟩
 have ha:Sp.gq a:=ha.1
 refine ⟨fun _=>True,?_,fun _ _=>?_⟩
 · dsimp only
   rw [show (ok==ok)=true from beq_self_eq_true ok,decide_eq_true (rfl:y=y),decide_eq_true (rfl:df=df),show (fine==fine)=true from beq_self_eq_true fine,decide_eq_true (rfl:z=z),show (decide (a=b)==decide (a=b))=true from beq_self_eq_true _,show (Sp.gy a==Sp.gy a)=true from beq_self_eq_true _]
   exact ⟨trivial,trivial,trivial,trivial,trivial,ha,ha,rfl,trivial⟩
 · have h10:(Sp.fM c).length≤10:=hany.2.2
   have sm:=Yh (x:=x) hany.1.2.1 (by omega) hx
   have sm':Sp.aB (Sp.fM c):=hany.1.2.1
   refine ⟨⟨sm',(show (Sp.fM c).length≤900 by omega),hx⟩,?_⟩
   rintro ⟨⟨o,st,⟨⟩⟩,⟨⟩⟩ ⟨e1,e2⟩
   obtain rfl:o=(Sp.bG (Sp.fM c) x).1:=e1
   obtain rfl:st=(Sp.bG (Sp.fM c) x).2:=e2
   have tail:(bif !fine then ((true,()):Bool×Unit)=(true,()) else Sp.gq z∧((Sp.gy z,()):Bool×Unit)=(true,())):=by
    cases fine with
    |false=>rfl
    |true=>obtain ⟨k1,k2⟩:=arO hz he;exact ⟨k1,by rw [k2]⟩
   have mid:(bif !ok then (bif !fine then ((true,()):Bool×Unit)=(true,()) else Sp.gq z∧((Sp.gy z,()):Bool×Unit)=(true,()))
    else Sp.gq y∧bif Sp.gy y then (bif !fine then ((true,()):Bool×Unit)=(true,()) else Sp.gq z∧((Sp.gy z,()):Bool×Unit)=(true,())) else ((false,()):Bool×Unit)=(true,())):=by
    cases ok with
    |false=>exact tail
    |true=>obtain ⟨k1,k2⟩:=aoQ hy sm;refine ⟨k1,?_⟩;rw [k2];exact tail
   have hok:=hy.1
   refine ⟨hany.1,?_⟩
   dsimp only
   refine af (fun h1=>af (fun h2=>⟨sm,?_⟩) fun h2=>?_) fun h1=>?_
   · rw [show (ok==Sp.ax (Sp.bG (Sp.fM c) x).1)=true by rw [hok,h1,h2,Bool.true_and,Bool.true_and];exact beq_self_eq_true _]
     exact mid
   · rw [show (ok==false)=true by rw [hok,h2,Bool.false_and,Bool.and_false];rfl]
     exact mid
   · rw [show (ok==false)=true by rw [hok,h1];rfl]
     exact mid
end Go.Proofs.Tryz
