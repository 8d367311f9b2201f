import Derived.Test.YtkgkfdphbkfjnaaGreatP6
import Derived.Test.YtkgkfdphbkfjnaaGreatL1
import Derived.Test.YtkgkfdphbkfjnaaGreatSp
namespace Go.Proofs.Tryz
open Go Go.Fw Go.IntWalk Sp
def ahy(q:List bK)(neg:Bool)(i:Nat):Option Sp.Bytes:=bif jH (Sp.nodeAt q i)&&((Sp.negated q).getD i (false,())).1==neg then some (Sp.nodeAt q i).2.2.2.1 else none
def Fb(q:List bK)(neg:Bool)(n:Nat):List Sp.Bytes:=(List.range n).filterMap (ahy q neg)
theorem zJ(q:List bK)(neg:Bool):Fb q neg (Sp.negated q).length=fK q neg:=rfl
theorem af2{q:List bK}{neg:Bool}{n:Nat}(h1:jH (Sp.nodeAt q n)=true)(h2:((Sp.negated q).getD n (false,())).1=neg):Fb q neg (n+1)=Fb q neg n++[(Sp.nodeAt q n).2.2.2.1]:=by
 unfold Fb;rw[axC,List.filterMap_append];congr 1;show List.filterMap _ [n]=_;rw[axf];have:ahy q neg n=some (Sp.nodeAt q n).2.2.2.1:=by unfold ahy;rw[h1,h2];simp
 rw[this];rfl
theorem QE{q:List bK}{neg:Bool}{n:Nat}(h:¬(jH (Sp.nodeAt q n)=true/\((Sp.negated q).getD n (false,())).1=neg)):Fb q neg (n+1)=Fb q neg n:=by
 unfold Fb;rw[axC,List.filterMap_append];have:ahy q neg n=none:=by
  unfold ahy;have:(jH (Sp.nodeAt q n)&&((Sp.negated q).getD n (false,())).1==neg)=false:=by rw[avF];intro h';rw[auq,auE]at h';exact h h'
  rw[this];rfl
 rw[axf,this];simp
theorem zK(q:List bK)(neg:Bool)(n:Nat):(Fb q neg n).length<=n:=by have:=List.length_filterMap_le (ahy q neg) (List.range n);rw[List.length_range]at this;exact this
theorem zL(q:List bK):(Sp.negated q).length<=q.length:=by
 cases h:bQ q with
 |true=>rw[alr h];exact auI _
 |false=>unfold Sp.negated;rw[h];exact auX _
theorem MO:OK wX.e:=by
 refine XA.ok mixed (au [(mY,.eff (DC jB) lC),yM.e,xG.e] ⟨⟨uh,rQ⟩,O0,Vr,trivial⟩) adJ (λ⟨q,neg,_⟩ hp=>⟨((((fK q neg).map λs=>(s,()),()),())),⟨by show((fK q neg).map _).length<=1000;rw[auG];have:=zK q neg (Sp.negated q).length;have:=zL q;have hp:q.length<=1000:=hp;rw[zJ]at*;omega,λs=>by show(s,())∈(fK q neg).map _↔_;simp⟩⟩) (by kernel_rfl) (show∀q negated,wX.goal (abe q negated) (q,negated,())from ?_);intro q neg hin hp;dsimp only[wX]at hp ⊢;have hp:q.length<=1000:=hp;have hnl:=zL q;refine⟨hp,?_⟩;refine dM (λi(x:Sp.LS)=>(((),i,()),x,())) (λy=>y.1.2.1) (λ_ _=>rfl) (Sp.negated q).length (by omega) (λn l=>l=(Fb q neg n).map λs=>(s,())) rfl (λI μ n l hn hJ next=>?_) λI μ l hJ=>?_
 .subst hJ;have hl:=zK q neg n;dsimp only;refine dn (by omega) ⟨⟨by omega,by omega⟩,⟨by omega,by omega⟩,trivial,af (λh1=>af (λh2=>⟨⟨by omega,by omega⟩,?_,rfl,next _ ?_⟩) λh2=>⟨rfl,next _ ?_⟩) λh1=>⟨rfl,next _ ?_⟩⟩
  .rw[bY];simp only[auv,auz,auG];omega
  .rw[af2 (show jH (Sp.nodeAt q n)=true from h1) (auE.1 h2),avd];rfl
  .rw[QE λh=>by have h2:=auu.1 h2;exact h2 h.2]
  .rw[QE λh=>by have h1:jH (Sp.nodeAt q n)=false:=h1;rw[h1]at h;cases h.1]
 .subst hJ;have hl:=zK q neg (Sp.negated q).length;rw[zJ]at hl ⊢;dsimp only;refine dw (by omega) ⟨by rw[auG];omega,?_⟩;rintro⟨⟨r,⟨⟩⟩,⟨⟩⟩ ⟨h1,h2⟩;have h1:r.length<=((fK q neg).map λs=>(s,())).length:=h1;rw[auG]at h1;refine⟨by show r.length<=1000;omega,λs=>?_⟩;have:=h2 (s,());show(s,())∈r↔_;rw[this];simp
theorem UI:OK xH.e:=by refine XA.ok mixed (au [wX.e] ⟨MO,trivial⟩) H0 (λ⟨q,_⟩ hp=>⟨((((fK q false).map λs=>(s,()),()),())),⟨by show((fK q false).map _).length<=1000;rw[auG];have:=zK q false (Sp.negated q).length;have:=zL q;have hp:q.length<=1000:=hp;rw[zJ]at*;omega,λs=>by show(s,())∈(fK q false).map _↔_;simp⟩⟩) (by kernel_rfl) (show∀q,xH.goal (Vw q) (q,())from ?_);intro q hin hp;dsimp only[xH]at hp ⊢;exact⟨hp,λr hr=>hr⟩
theorem UH:OK xI.e:=by refine XA.ok mixed (au [wX.e] ⟨MO,trivial⟩) H0 (λ⟨q,_⟩ hp=>⟨((((fK q true).map λs=>(s,()),()),())),⟨by show((fK q true).map _).length<=1000;rw[auG];have:=zK q true (Sp.negated q).length;have:=zL q;have hp:q.length<=1000:=hp;rw[zJ]at*;omega,λs=>by show(s,())∈(fK q true).map _↔_;simp⟩⟩) (by kernel_rfl) (show∀q,xI.goal (Vx q) (q,())from ?_);intro q hin hp;dsimp only[xI]at hp ⊢;exact⟨hp,λr hr=>hr⟩
theorem ama{l:Sp.LS}{s:Sp.Bytes}{m:Nat}(hm:m<=l.length)(h1:∀i,i<m->Op.bytesLess (l.getD i ([],())).1 s=true)(h2:m<l.length->Op.bytesLess (l.getD m ([],())).1 s=false):
 AY l s=bif decide (m<l.length)&&(l.getD m ([],())).1==s then l else l.take m++[(s,())]++l.drop m:=by
 obtain⟨e1,_⟩:=OI (d:=(([]:List UInt8),())) l m hm (p:=λx=>Op.bytesLess x.1 s) h1 h2;unfold AY;rw[e1];have:(l.take m).length=m:=by rw[aut];omega
 rw[this]
theorem vC{l:Sp.LS}{s:Sp.Bytes}(x:Sp.Bytes×Unit):x∈AY l s↔x=(s,())\/x∈l:=by
 unfold AY;dsimp only;generalize (l.takeWhile λx=>Op.bytesLess x.1 s).length=n;cases h:decide (n<l.length)&&(l.getD n ([],())).1==s with
 |true=>
  rw[auq,auE]at h;refine⟨.inr,λhx=>?_⟩;rcases hx with rfl|hx
  .have:=getD_mem (d:=(([]:List UInt8),())) (fG h.1);rw[show l.getD n ([],())=(s,())from aw4 h.2 rfl]at this;exact this
  .exact hx
 |false=>
  show x∈l.take n++[(s,())]++l.drop n↔_;rw[auL,auL,avk]
  conv=>rhs;rw[← avJ n l,auL]
  constructor
  .rintro((h|h)|h)
   .exact .inr (.inl h)
   .exact .inl h
   .exact .inr (.inr h)
  .rintro(h|h|h)
   .exact .inl (.inr h)
   .exact .inl (.inl h)
   .exact .inr h
theorem UY(l:Sp.LS)(s:Sp.Bytes):(AY l s).length<=l.length+1:=by
 unfold AY;dsimp only;generalize (l.takeWhile λx=>Op.bytesLess x.1 s).length=n;cases decide (n<l.length)&&(l.getD n ([],())).1==s with
 |true=>exact Nat.le_succ _
 |false=>show(l.take n++[(s,())]++l.drop n).length<=_;simp;omega
theorem BF:OK qU.e:=by
 refine PA.ok mixed (au [] trivial) ai0 (by kernel_rfl) (show∀list s,qU.goal (ahz list s) (list,s,())from ?_);intro l s hin hp;dsimp only[qU]at hp ⊢;have hp:l.length<=1000:=hp;have fin:∀m:Nat,m<=l.length->AY l s=l.take m++[(s,())]++l.drop m->((0:Int)<=m/\(m:Int)<=l.length)/\0+(List.drop 0 (List.take m l)).length<=big/\(List.drop 0 (List.take m l)).length+[(s,())].length<=big/\((0:Int)<=m/\(m:Int)<=l.length)/\
  (List.drop 0 (List.take m l)++[(s,())]).length+(List.drop m (List.take l.length l)).length<=big/\(List.drop 0 (List.take m l)++[(s,())]++List.drop m (List.take l.length l),())=(AY l s,()):=by
  intro m hm h;refine⟨⟨by omega,by omega⟩,?_,?_,⟨by omega,by omega⟩,?_,?_⟩
  .rw[bY];simp only[au2,aut];omega
  .rw[bY];simp only[au2,aut,auv,auz];omega
  .rw[bY];simp only[auy,au2,aut,auv,auz];omega
  .rw[h,auO,av2]
 refine iL l.length (by omega) (λn=>∀i,i<n->Op.bytesLess (l.getD i ([],())).1 s=true) (λi hi=>by omega) (λI μ n hn hJ next=>?_) λI μ hJ=>?_
 .dsimp only;refine dn (by omega) ⟨⟨by omega,by omega⟩,af (λh=>⟨rfl,next (fJ (f:=λi=>Op.bytesLess (l.getD i ([],())).1 s) hJ h)⟩) λh=>dn (by omega) ⟨⟨by omega,by omega⟩,?_⟩⟩;have e:=ama (Nat.le_of_lt hn) hJ λ_=>h;rw[auB hn,av8]at e;refine af (λh2=>?_) λh2=>fin n (Nat.le_of_lt hn) ?_
  .rw[show((l.getD n ([],())).1==s)=true from h2]at e;rw[e];rfl
  .rw[show((l.getD n ([],())).1==s)=false from h2]at e;exact e
 .dsimp only;refine dw (by omega) (dw (by omega) (fin l.length (auI _) ?_));have e:=ama (auI _) hJ λh=>by omega
  rw[auD (by omega)]at e;exact e
theorem aoz(x:bK):jH x=(decide (8<=x.1)&&decide (x.1<=9)):=by unfold jH;rw[auS];simp;omega
theorem PE:OK yN.e:=by
 refine XA.ok mixed (au [qU.e,iT.e,xE.e] ⟨BF,jA,Vt,trivial⟩) af4 (λ⟨q,neg,_⟩ hp=>⟨((((fK q neg).map λs=>(s,()),()),())),⟨by show((fK q neg).map _).length<=1000;rw[auG];have:=zK q neg (Sp.negated q).length;have:=zL q;have hp:q.length<=1000:=hp;rw[zJ]at*;omega,λs=>by show(s,())∈(fK q neg).map _↔_;simp⟩⟩) (by kernel_rfl) (show∀q under,yN.goal (adK q under) (q,under,())from ?_);intro q neg hin hp;dsimp only[yN]at hp ⊢;have hp:q.length<=1000:=hp;have hnl:=zL q;refine⟨hp,?_⟩;refine dM (λi(x:Sp.LS)=>((x,i,()),())) (λy=>y.1.2.1) (λ_ _=>rfl) (Sp.negated q).length (by omega) (λn l=>l.length<=n/\∀s,(s,())∈l↔s∈Fb q neg n) ⟨auI _,λs=>by simp[Fb]⟩ (λI μ n l hn hJ next=>?_) λI μ l hJ=>?_
 .obtain⟨hl,hJ⟩:=hJ;dsimp only;have hnm:=aoz (Sp.nodeAt q n);refine dn (by omega) ⟨⟨by omega,by omega⟩,trivial,af (λh1=>⟨⟨by omega,by omega⟩,af (λh2=>⟨⟨by omega,by omega⟩,by omega,rfl,next _ ?_⟩) λh2=>⟨rfl,next _ ⟨by omega,?_⟩⟩⟩) λh1=>⟨rfl,next _ ⟨by omega,?_⟩⟩⟩
  .have h1:(decide (8<=(Sp.nodeAt q n).1)&&decide ((Sp.nodeAt q n).1<=9))=true:=h1;rw[af2 (hnm.trans h1) (auE.1 h2)];refine⟨auM (UY _ _) (by omega),λs=>?_⟩;rw[vC,auL,avk,hJ,Prod.mk.injEq];constructor
   .rintro(⟨h,_⟩|h)
    .exact .inr h
    .exact .inl h
   .rintro(h|h)
    .exact .inr h
    .exact .inl ⟨h,rfl⟩
  .rw[QE λh=>by have h2:=auu.1 h2;exact h2 h.2];exact hJ
  .rw[QE λh=>by have h1:(decide (8<=(Sp.nodeAt q n).1)&&decide ((Sp.nodeAt q n).1<=9))=false:=h1;rw[hnm,h1]at h;cases h.1];exact hJ
 .obtain⟨hl,hJ⟩:=hJ;rw[zJ]at hJ;dsimp only;exact dw (by omega) ⟨by rw[bY];omega,by show l.length<=1000;omega,hJ⟩
theorem Vy:OK xJ.e:=by refine XA.ok mixed (au [yN.e] ⟨PE,trivial⟩) H0 (λ⟨q,_⟩ hp=>⟨((((fK q false).map λs=>(s,()),()),())),⟨by show((fK q false).map _).length<=1000;rw[auG];have:=zK q false (Sp.negated q).length;have:=zL q;have hp:q.length<=1000:=hp;rw[zJ]at*;omega,λs=>by show(s,())∈(fK q false).map _↔_;simp⟩⟩) (by kernel_rfl) (show∀q,xJ.goal (Vz q) (q,())from ?_);intro q hin hp;dsimp only[xJ]at hp ⊢;exact⟨hp,λr hr=>hr⟩
theorem VA:OK xK.e:=by refine XA.ok mixed (au [yN.e] ⟨PE,trivial⟩) H0 (λ⟨q,_⟩ hp=>⟨((((fK q true).map λs=>(s,()),()),())),⟨by show((fK q true).map _).length<=1000;rw[auG];have:=zK q true (Sp.negated q).length;have:=zL q;have hp:q.length<=1000:=hp;rw[zJ]at*;omega,λs=>by show(s,())∈(fK q true).map _↔_;simp⟩⟩) (by kernel_rfl) (show∀q,xK.goal (VB q) (q,())from ?_);intro q hin hp;dsimp only[xK]at hp ⊢;exact⟨hp,λr hr=>hr⟩
end Go.Proofs.Tryz
