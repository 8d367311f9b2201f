import Derived.Test.YtlbkigkbmeckbaaGreatP26
namespace Go.Proofs.Tryz
open Go Go.Fw Go.IntWalk
theorem UA {c y:Sp.jv} {s:Sp.bV} {b ok:Bool} {df:List Sp.tK} (hb:b=true→Sp.dS c=true) (hd:Sp.aS (Sp.fF c)) (h:Sp.became c s (Sp.fF c) b y df ok) (hok:ok=true):
 Sp.fK y∧Sp.dS y=true∧Sp.wS (Sp.jH c)∧Sp.wU df∧Sp.iE (Sp.jH c) df=Sp.jH y:=by
 subst hok
 obtain ⟨k1,k2⟩:=aqs h hd
 exact ⟨k1,k2,amf hb h⟩
theorem seg {T:Prop} {c y:Sp.jv} {ok:Bool} {df:List Sp.tK} (h:ok=true→Sp.fK y∧Sp.dS y=true∧Sp.wS (Sp.jH c)∧Sp.wU df∧Sp.iE (Sp.jH c) df=Sp.jH y) (ht:T):
 bif !ok then T else Sp.fK y∧bif Sp.dS y then (Sp.wS (Sp.jH c)∧Sp.wU df)∧∀ r:(List Sp.dn×Unit)×Unit,r.1.1=Sp.iE (Sp.jH c) df→True∧bif decide (r.1.1=Sp.jH y) then T else ((false,()):Bool×Unit)=(true,())
  else ((false,()):Bool×Unit)=(true,()):=by
 cases ok with
 |false=>exact ht
 |true=>
  obtain ⟨h1,h2,h3,h4,h5⟩:=h rfl
  refine ⟨h1,?_⟩
  rw [h2]
  refine ⟨⟨h3,h4⟩,fun r hr=>⟨trivial,?_⟩⟩
  rw [decide_eq_true (hr.trans h5)];exact ht
theorem and_left {a b:Bool} (h:(a&&b)=true):a=true:=by rw [Bool.and_eq_true] at h;exact h.1
theorem NZ:ai prog G vF.e:=by
 refine N7 (aj ah ⟨Ii,ZA,AL,ab9,WC,ZL,ZJ,Qb,ahU,ahS,WL,ZC,Zu,P9,aoF,trivial⟩) ?_
 intro code hin hp
 dsimp only [vF] at hp ⊢
 refine ⟨trivial,af (fun _=>rfl) fun hb=>?_⟩
 have hc:code.length≤1048576:=by have:=gU hb;omega
 refine ⟨hc,?_⟩
 rintro ⟨⟨c,f,⟨⟩⟩,⟨⟩⟩ ⟨hany,hf⟩
 have hany:Sp.yh c:=hany
 have hf:f.2.2.2.2.1.length≤10:=hf
 have pre:Sp.fK c∧Sp.bU f∧Sp.SI c∧Sp.Ot f:=⟨hany.1,Nat.le_trans hf (by decide),Sp.asE hany.2.1,Nat.le_trans hf (by decide)⟩
 refine ⟨pre,?_⟩
 rintro ⟨⟨x,d,ok,⟨⟩⟩,⟨⟩⟩ hx
 have hx:=ahO (c:=c) (f:=f) (c':=x) (df:=d) (ok:=ok) hx
 refine ⟨pre,?_⟩
 rintro ⟨⟨x2,d2,ok2,⟨⟩⟩,⟨⟩⟩ hx2
 have hx2:=ahO (c:=c) (f:=f) (c':=x2) (df:=d2) (ok:=ok2) hx2
 obtain ⟨rfl,rfl,rfl⟩:=Uz hx hx2
 refine ⟨hc,?_⟩
 rintro ⟨⟨a,g,⟨⟩⟩,⟨⟩⟩ ⟨amN,hg⟩
 have amN:Sp.yh a:=amN
 have pre2:Sp.yh a∧Sp.bU g:=⟨amN,Nat.le_trans hg (by decide)⟩
 refine ⟨pre2,?_⟩
 rintro ⟨⟨y,id,e,made,⟨⟩⟩,⟨⟩⟩ ⟨hy,hid⟩
 have hy:Sp.became a (Sp.aH (Sp.bJ a) g).1 (Sp.fF a) (Sp.dS a&&(Sp.aH (Sp.bJ a) g).2.2) y e made:=hy
 have hid:id=(bif made then (Sp.aH (Sp.bJ a) g).2.1 else 0):=hid
 refine ⟨pre2,?_⟩
 rintro ⟨⟨y2,id2,e2,made2,⟨⟩⟩,⟨⟩⟩ ⟨hy2,asF⟩
 have asF:id2=(bif made2 then (Sp.aH (Sp.bJ a) g).2.1 else 0):=asF
 obtain ⟨rfl,rfl,rfl⟩:=Uz hy hy2
 obtain rfl:id=id2:=hid.trans asF.symm
 refine ⟨hc,?_⟩
 rintro ⟨⟨b,k,⟨⟩⟩,⟨⟩⟩ ahW
 have ahW:Sp.yh b:=ahW
 refine ⟨ahW,?_⟩
 rintro ⟨⟨z,h,gone,⟨⟩⟩,⟨⟩⟩ hz
 have hz:Sp.became b (Sp.aT (Sp.bJ b) k).1 (Sp.fF b) (Sp.dS b&&(Sp.aT (Sp.bJ b) k).2) z h gone:=hz
 refine ⟨ahW,?_⟩
 rintro ⟨⟨z2,h2,awP,⟨⟩⟩,⟨⟩⟩ hz2
 obtain ⟨rfl,rfl,rfl⟩:=Uz hz hz2
 refine ⟨fun _=>True,?_,fun _ _=>?_⟩
 · dsimp only
   rw [show (ok==ok)=true from beq_self_eq_true ok,decide_eq_true (rfl:x=x),decide_eq_true (rfl:d=d),show (made==made)=true from beq_self_eq_true made,show (id !=id)=false from bne_self_eq_false id,
    decide_eq_true (rfl:y=y),decide_eq_true (rfl:e=e),show (gone==gone)=true from beq_self_eq_true gone,decide_eq_true (rfl:z=z),decide_eq_true (rfl:h=h)]
   exact ⟨trivial,trivial,trivial,trivial,trivial,trivial,rfl,trivial⟩
 · have tail:bif ok then ((true,()):Bool×Unit)=(true,()) else True∧((decide (x=c),()):Bool×Unit)=(true,()):=by
    cases ok with
    |true=>rfl
    |false=>exact ⟨trivial,by rw [decide_eq_true (hx.2.2 rfl).1]⟩
   exact seg (c:=c) (y:=x) (ok:=ok) (df:=d) (UA and_left hany.1.2.1 hx) (seg (c:=a) (y:=y) (ok:=made) (df:=e) (UA and_left amN.1.2.1 hy) (seg (c:=b) (y:=z) (ok:=gone) (df:=h) (UA and_left ahW.1.2.1 hz) tail))
end Go.Proofs.Tryz
