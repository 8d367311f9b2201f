import Derived.Test.YtkgkfdphbkfjnaaGreatP1
import Derived.Test.YtkgkfdphbkfjnaaGreatL1
import Derived.Test.YtkgkfdphbkfjnaaGreatSp
import Derived.Test.YtkgkfdphbkfjnaaGreatV3
import Derived.Test.YtkgkfdphbkfjnaaGreatV4
import Derived.Test.YtkgkfdphbkfjnaaGreatV6
import Derived.Test.YtkgkfdphbkfjnaaGreatV7
import Derived.Test.YtkgkfdphbkfjnaaGreatV5
namespace Go.Proofs.Tryz
open Go Go.Fw Go.IntWalk Sp
def ajw(q:List bI)(neg:Bool)(i:Nat):Option Sp.Bytes:=bif jO (Sp.nodeAt q i)&&((Sp.negated q).getD i (false,())).1==neg then some (Sp.nodeAt q i).2.2.2.1 else none
def Gl(q:List bI)(neg:Bool)(n:Nat):List Sp.Bytes:=(List.range n).filterMap (ajw q neg)
theorem AX(q:List bI)(neg:Bool):Gl q neg (Sp.negated q).length=fJ q neg:=rfl
theorem ah0{q:List bI}{neg:Bool}{n:Nat}(h1:jO (Sp.nodeAt q n)=true)(h2:((Sp.negated q).getD n (false,())).1=neg):Gl q neg (n+1)=Gl q neg n++[(Sp.nodeAt q n).2.2.2.1]:=by
 unfold Gl;rw[azO,List.filterMap_append];congr 1;show List.filterMap _ [n]=_;rw[azs];have:ajw q neg n=some (Sp.nodeAt q n).2.2.2.1:=by unfold ajw;rw[h1,h2];simp
 rw[this];rfl
theorem Tq{q:List bI}{neg:Bool}{n:Nat}(h:¬(jO (Sp.nodeAt q n)=true/\((Sp.negated q).getD n (false,())).1=neg)):Gl q neg (n+1)=Gl q neg n:=by
 unfold Gl;rw[azO,List.filterMap_append];have:ajw q neg n=none:=by
  unfold ajw;have:(jO (Sp.nodeAt q n)&&((Sp.negated q).getD n (false,())).1==neg)=false:=by rw[axX];intro h';rw[awG,awQ]at h';exact h h'
  rw[this];rfl
 rw[azs,this];simp
theorem AY(q:List bI)(neg:Bool)(n:Nat):(Gl q neg n).length<=n:=by have:=List.length_filterMap_le (ajw q neg) (List.range n);rw[List.length_range]at this;exact this
theorem AZ(q:List bI):(Sp.negated q).length<=q.length:=by
 cases h:aZ q with
 |true=>rw[ant h];exact awY _
 |false=>unfold Sp.negated;rw[h];exact axg _
theorem OH:OK xM.e:=by
 refine XA.ok mixed (ax [(nJ,.eff (oH jL) lJ),zH.e,yu.e] ⟨⟨uh,rW⟩,QJ,XV,trivial⟩) afz (λ⟨q,neg,_⟩ hp=>⟨((((fJ q neg).map λs=>(s,()),()),())),⟨by show((fJ q neg).map _).length<=1000;rw[awV];have:=AY q neg (Sp.negated q).length;have:=AZ q;have hp:q.length<=1000:=hp;rw[AX]at*;omega,λs=>by show(s,())∈(fJ q neg).map _↔_;simp⟩⟩) (by kernel_rfl) (show∀q negated,xM.goal (adk q negated) (q,negated,())from ?_);intro q neg hin hp;dsimp only[xM]at hp ⊢;have hp:q.length<=1000:=hp;have hnl:=AZ q;refine⟨hp,?_⟩;refine bZ (λi(x:Sp.LS)=>(((),i,()),x,())) (λy=>y.1.2.1) (λ_ _=>rfl) (Sp.negated q).length (by omega) (λn l=>l=(Gl q neg n).map λs=>(s,())) rfl (λI μ n l hn hJ next=>?_) λI μ l hJ=>?_
 .subst hJ;have hl:=AY q neg n;dsimp only;refine bU (by omega) ⟨⟨by omega,by omega⟩,⟨by omega,by omega⟩,trivial,af (λh1=>af (λh2=>⟨⟨by omega,by omega⟩,?_,rfl,next _ ?_⟩) λh2=>⟨rfl,next _ ?_⟩) λh1=>⟨rfl,next _ ?_⟩⟩
  .rw[bM];simp only[awL,awP,awV];omega
  .rw[ah0 (show jO (Sp.nodeAt q n)=true from h1) (awQ.1 h2),axq];rfl
  .rw[Tq λh=>by have h2:=awJ.1 h2;exact h2 h.2]
  .rw[Tq λh=>by have h1:jO (Sp.nodeAt q n)=false:=h1;rw[h1]at h;cases h.1]
 .subst hJ;have hl:=AY q neg (Sp.negated q).length;rw[AX]at hl ⊢;dsimp only;refine bV (by omega) ⟨by rw[awV];omega,?_⟩;rintro⟨⟨r,⟨⟩⟩,⟨⟩⟩ ⟨h1,h2⟩;have h1:r.length<=((fJ q neg).map λs=>(s,())).length:=h1;rw[awV]at h1;refine⟨by show r.length<=1000;omega,λs=>?_⟩;have:=h2 (s,());show(s,())∈r↔_;rw[this];simp
theorem WX:OK yw.e:=by refine XA.ok mixed (ax [xM.e] ⟨OH,trivial⟩) H0 (λ⟨q,_⟩ hp=>⟨((((fJ q false).map λs=>(s,()),()),())),⟨by show((fJ q false).map _).length<=1000;rw[awV];have:=AY q false (Sp.negated q).length;have:=AZ q;have hp:q.length<=1000:=hp;rw[AX]at*;omega,λs=>by show(s,())∈(fJ q false).map _↔_;simp⟩⟩) (by kernel_rfl) (show∀q,yw.goal (X0 q) (q,())from ?_);intro q hin hp;dsimp only[yw]at hp ⊢;exact⟨hp,λr hr=>hr⟩
theorem WW:OK yx.e:=by refine XA.ok mixed (ax [xM.e] ⟨OH,trivial⟩) H0 (λ⟨q,_⟩ hp=>⟨((((fJ q true).map λs=>(s,()),()),())),⟨by show((fJ q true).map _).length<=1000;rw[awV];have:=AY q true (Sp.negated q).length;have:=AZ q;have hp:q.length<=1000:=hp;rw[AX]at*;omega,λs=>by show(s,())∈(fJ q true).map _↔_;simp⟩⟩) (by kernel_rfl) (show∀q,yx.goal (X3 q) (q,())from ?_);intro q hin hp;dsimp only[yx]at hp ⊢;exact⟨hp,λr hr=>hr⟩
theorem aoc{l:Sp.LS}{s:Sp.Bytes}{m:Nat}(hm:m<=l.length)(h1:∀i,i<m->Op.bytesLess (l.getD i ([],())).1 s=true)(h2:m<l.length->Op.bytesLess (l.getD m ([],())).1 s=false):
 yU l s=bif decide (m<l.length)&&(l.getD m ([],())).1==s then l else l.take m++[(s,())]++l.drop m:=by
 obtain⟨e1,_⟩:=Qw (d:=(([]:List UInt8),())) l m hm (p:=λx=>Op.bytesLess x.1 s) h1 h2;unfold yU;rw[e1];have:(l.take m).length=m:=by rw[awK];omega
 rw[this]
theorem qN{l:Sp.LS}{s:Sp.Bytes}(x:Sp.Bytes×Unit):x∈yU l s↔x=(s,())\/x∈l:=by
 unfold yU;dsimp only;generalize (l.takeWhile λx=>Op.bytesLess x.1 s).length=n;cases h:decide (n<l.length)&&(l.getD n ([],())).1==s with
 |true=>
  rw[awG,awQ]at h;refine⟨.inr,λhx=>?_⟩;rcases hx with rfl|hx
  .have:=getD_mem (d:=(([]:List UInt8),())) (gI h.1);rw[show l.getD n ([],())=(s,())from ayA h.2 rfl]at this;exact this
  .exact hx
 |false=>
  show x∈l.take n++[(s,())]++l.drop n↔_;rw[aw2,aw2,axy]
  conv=>rhs;rw[← ax8 n l,aw2]
  constructor
  .rintro((h|h)|h)
   .exact .inr (.inl h)
   .exact .inl h
   .exact .inr (.inr h)
  .rintro(h|h|h)
   .exact .inl (.inr h)
   .exact .inl (.inl h)
   .exact .inr h
theorem MO(l:Sp.LS)(s:Sp.Bytes):(yU l s).length<=l.length+1:=by
 unfold yU;dsimp only;generalize (l.takeWhile λx=>Op.bytesLess x.1 s).length=n;cases decide (n<l.length)&&(l.getD n ([],())).1==s with
 |true=>exact Nat.le_succ _
 |false=>show(l.take n++[(s,())]++l.drop n).length<=_;simp;omega
theorem xE:OK oM.e:=by
 refine PA.ok mixed (ax [] trivial) akZ (by kernel_rfl) (show∀list s,oM.goal (ajx list s) (list,s,())from ?_);intro l s hin hp;dsimp only[oM]at hp ⊢;have hp:l.length<=1000:=hp;have fin:∀m:Nat,m<=l.length->yU l s=l.take m++[(s,())]++l.drop m->((0:Int)<=m/\(m:Int)<=l.length)/\0+(List.drop 0 (List.take m l)).length<=big/\(List.drop 0 (List.take m l)).length+[(s,())].length<=big/\((0:Int)<=m/\(m:Int)<=l.length)/\
  (List.drop 0 (List.take m l)++[(s,())]).length+(List.drop m (List.take l.length l)).length<=big/\(List.drop 0 (List.take m l)++[(s,())]++List.drop m (List.take l.length l),())=(yU l s,()):=by
  intro m hm h;refine⟨⟨by omega,by omega⟩,?_,?_,⟨by omega,by omega⟩,?_,?_⟩
  .rw[bM];simp only[axk,awK];omega
  .rw[bM];simp only[axk,awK,awL,awP];omega
  .rw[bM];simp only[awN,axk,awK,awL,awP];omega
  .rw[h,aw0,axU]
 refine jd l.length (by omega) (λn=>∀i,i<n->Op.bytesLess (l.getD i ([],())).1 s=true) (λi hi=>by omega) (λI μ n hn hJ next=>?_) λI μ hJ=>?_
 .dsimp only;refine bU (by omega) ⟨⟨by omega,by omega⟩,af (λh=>⟨rfl,next (eY (f:=λi=>Op.bytesLess (l.getD i ([],())).1 s) hJ h)⟩) λh=>bU (by omega) ⟨⟨by omega,by omega⟩,?_⟩⟩;have e:=aoc (azI hn) hJ λ_=>h;rw[awS hn,ay1]at e;refine af (λh2=>?_) λh2=>fin n (azI hn) ?_
  .rw[show((l.getD n ([],())).1==s)=true from h2]at e;rw[e];rfl
  .rw[show((l.getD n ([],())).1==s)=false from h2]at e;exact e
 .dsimp only;refine bV (by omega) (bV (by omega) (fin l.length (awY _) ?_));have e:=aoc (awY _) hJ λh=>by omega
  rw[awT (by omega)]at e;exact e
theorem aqI(x:bI):jO x=(decide (8<=x.1)&&decide (x.1<=9)):=by unfold jO;rw[aw6];simp;omega
theorem Rh:OK zI.e:=by
 refine XA.ok mixed (ax [oM.e,jb.e,yt.e] ⟨xE,jJ,XY,trivial⟩) ah1 (λ⟨q,neg,_⟩ hp=>⟨((((fJ q neg).map λs=>(s,()),()),())),⟨by show((fJ q neg).map _).length<=1000;rw[awV];have:=AY q neg (Sp.negated q).length;have:=AZ q;have hp:q.length<=1000:=hp;rw[AX]at*;omega,λs=>by show(s,())∈(fJ q neg).map _↔_;simp⟩⟩) (by kernel_rfl) (show∀q under,zI.goal (afA q under) (q,under,())from ?_);intro q neg hin hp;dsimp only[zI]at hp ⊢;have hp:q.length<=1000:=hp;have hnl:=AZ q;refine⟨hp,?_⟩;refine bZ (λi(x:Sp.LS)=>((x,i,()),())) (λy=>y.1.2.1) (λ_ _=>rfl) (Sp.negated q).length (by omega) (λn l=>l.length<=n/\∀s,(s,())∈l↔s∈Gl q neg n) ⟨awY _,λs=>by simp[Gl]⟩ (λI μ n l hn hJ next=>?_) λI μ l hJ=>?_
 .obtain⟨hl,hJ⟩:=hJ;dsimp only;have hnm:=aqI (Sp.nodeAt q n);refine bU (by omega) ⟨⟨by omega,by omega⟩,trivial,af (λh1=>⟨⟨by omega,by omega⟩,af (λh2=>⟨⟨by omega,by omega⟩,by omega,rfl,next _ ?_⟩) λh2=>⟨rfl,next _ ⟨by omega,?_⟩⟩⟩) λh1=>⟨rfl,next _ ⟨by omega,?_⟩⟩⟩
  .have h1:(decide (8<=(Sp.nodeAt q n).1)&&decide ((Sp.nodeAt q n).1<=9))=true:=h1;rw[ah0 (hnm.trans h1) (awQ.1 h2)];refine⟨awR (MO _ _) (by omega),λs=>?_⟩;rw[qN,aw2,axy,hJ,Prod.mk.injEq];constructor
   .rintro(⟨h,_⟩|h)
    .exact .inr h
    .exact .inl h
   .rintro(h|h)
    .exact .inr h
    .exact .inl ⟨h,rfl⟩
  .rw[Tq λh=>by have h2:=awJ.1 h2;exact h2 h.2];exact hJ
  .rw[Tq λh=>by have h1:(decide (8<=(Sp.nodeAt q n).1)&&decide ((Sp.nodeAt q n).1<=9))=false:=h1;rw[hnm,h1]at h;cases h.1];exact hJ
 .obtain⟨hl,hJ⟩:=hJ;rw[AX]at hJ;dsimp only;exact bV (by omega) ⟨by rw[bM];omega,by show l.length<=1000;omega,hJ⟩
theorem X4:OK yA.e:=by refine XA.ok mixed (ax [zI.e] ⟨Rh,trivial⟩) H0 (λ⟨q,_⟩ hp=>⟨((((fJ q false).map λs=>(s,()),()),())),⟨by show((fJ q false).map _).length<=1000;rw[awV];have:=AY q false (Sp.negated q).length;have:=AZ q;have hp:q.length<=1000:=hp;rw[AX]at*;omega,λs=>by show(s,())∈(fJ q false).map _↔_;simp⟩⟩) (by kernel_rfl) (show∀q,yA.goal (X5 q) (q,())from ?_);intro q hin hp;dsimp only[yA]at hp ⊢;exact⟨hp,λr hr=>hr⟩
theorem X6:OK yB.e:=by refine XA.ok mixed (ax [zI.e] ⟨Rh,trivial⟩) H0 (λ⟨q,_⟩ hp=>⟨((((fJ q true).map λs=>(s,()),()),())),⟨by show((fJ q true).map _).length<=1000;rw[awV];have:=AY q true (Sp.negated q).length;have:=AZ q;have hp:q.length<=1000:=hp;rw[AX]at*;omega,λs=>by show(s,())∈(fJ q true).map _↔_;simp⟩⟩) (by kernel_rfl) (show∀q,yB.goal (X7 q) (q,())from ?_);intro q hin hp;dsimp only[yB]at hp ⊢;exact⟨hp,λr hr=>hr⟩
end Go.Proofs.Tryz
namespace Go.Proofs.Tryz
open Go Go.Fw Go.IntWalk Sp
theorem Tt:OK CB.e:=by refine PA.ok mixed (ax [] trivial) H0 (by kernel_rfl) (show∀x0 x1 p10,CB.goal (ah2 x0 x1 p10) ((x0,x1,()),(p10,()),())from ?_);intro x0 x1 p hin hp;dsimp only[CB]at hp ⊢;exact rfl
theorem MJ{d:List aV}{s:Sp.Bytes}{n:Nat}(hn:n<d.length)(h1:(dP d n).1=s)(h2:∀i,i<n->(dP d i).1≠s):aP d s=n:=by
 rcases sS d s with⟨_,h⟩|⟨m,g1,g2,g3,g4⟩
 .exact(h _ (getD_mem (d:=(([]:List UInt8),([]:List bI),())) hn) h1).elim
 .have:m=n:=by
   rcases ayN m n with h|h|h
   .exact(h2 m h g3).elim
   .exact h
   .exact(g4 n h h1).elim
  rw[g2,this]
theorem amF{d:List aV}{s:Sp.Bytes}(h2:∀i,i<d.length->(dP d i).1≠s):aP d s=-1:=by
 rcases sS d s with⟨h,_⟩|⟨m,g1,_,g3,_⟩
 .exact h
 .exact(h2 m g1 g3).elim
theorem Dx:OK iZ.e:=by
 refine PA.ok mixed (ax [CB.e] ⟨Tt,trivial⟩) DC (by kernel_rfl) (show∀s jE,iZ.goal (Dy s jE) (s,((jE,()),()),())from ?_);intro d s hin hp;dsimp only[iZ]at hp ⊢;have hlen:d.length<=maxLen:=hin.1.1;rw[maxLen_eq]at hlen;refine jd d.length hlen (λn=>∀i,i<n->(dP d i).1≠s) (λi hi=>by omega) (λI μ n hn hJ next=>?_) λI μ hJ=>?_
 .dsimp only;refine bU (by omega) ⟨⟨by omega,by omega⟩,trivial,af (λh=>?_) λh=>⟨rfl,next λi hi=>?_⟩⟩
  .rw[MJ hn (awQ.1 h) hJ]
  .rcases awZ i n with h'|h'
   .exact hJ i h'
   .have:i=n:=by omega
    rw[this];exact awJ.1 h
 .dsimp only;refine bV (by omega) ?_;rw[amF hJ]
theorem Yy:OK FV.e:=by refine PA.ok mixed (ax [iZ.e,CB.e] ⟨Dx,Tt,trivial⟩) H0 (by kernel_rfl) (show∀d name,FV.goal (ak0 d name) (d,name,())from ?_);intro d s hin hp;dsimp only[FV]at hp ⊢;exact⟨trivial,rfl⟩
theorem Q5:OK zJ.e:=by
 refine PA.ok mixed (ax [] trivial) ah3 (by kernel_rfl) (show∀d name,zJ.goal (afB d name) (d,name,())from ?_);intro d s hin hp;dsimp only[zJ]at hp ⊢;have hlen:d.length<=maxLen:=hin.1.1;rw[maxLen_eq]at hlen;refine jd d.length hlen (λn=>∀i,i<n->(dP d i).1≠s) (λi hi=>by omega) (λI μ n hn hJ next=>?_) λI μ hJ=>?_
 .dsimp only;refine bU (by omega) ⟨⟨by omega,by omega⟩,af (λh=>?_) λh=>⟨rfl,next λi hi=>?_⟩⟩
  .rw[MJ hn (awQ.1 h) hJ]
  .rcases awZ i n with h'|h'
   .exact hJ i h'
   .have:i=n:=by omega
    rw[this];exact awJ.1 h
 .dsimp only;refine bV (by omega) ?_;rw[amF hJ]
theorem YK:OK zK.e:=by
 refine PA.ok mixed (ax [FV.e] ⟨Yy,trivial⟩) abJ (by kernel_rfl) (show∀d LC names more,zK.goal (Zx d LC names more) (d,LC,names,more,())from ?_);intro d aH names more hin hp;dsimp only[zK]at hp ⊢;obtain⟨h1,h2,h3,h4,h5⟩:d.length<=aH.length/\names.length<=1000/\0<=more/\more<=1/\∀x∈aH,0<=x.1/\x.1<=1000000:=hp;refine bZ (λi(c:Int)=>((c,i,()),())) (λy=>y.1.2.1) (λ_ _=>rfl) names.length (by omega) (λn c=>∀B,c<=B↔0<=B/\∀x∈names.take n,0<=aP d x.1->Sp.lv aH (aP d x.1).toNat+more<=B) (λB=>by simp) (λI μ n c hn hJ next=>?_) λI μ c hJ=>?_
 .dsimp only;rw[awO];have e:=Sp.take_succ' names n ([],()) hn;refine bU (by omega) ⟨⟨by omega,by omega⟩,trivial,af (λh=>?_) λh=>⟨rfl,next _ λB=>?_⟩⟩
  .have h:0<=aP d (names.getD n ([],())).1:=gI h;have hlt:=Ns h;have hb:=h5 _ (aaP (l:=aH) (i:=(aP d (names.getD n ([],())).1).toNat) (by omega));dsimp only at hb;have hw:IntKind.i64.wrap (Sp.lv aH (aP d (names.getD n ([],())).1).toNat+more)=Sp.lv aH (aP d (names.getD n ([],())).1).toNat+more:=fQ _ (by omega);have e2:(aH.getD (aP d (names.getD n ([],())).1).toNat (0,())).1=Sp.lv aH (aP d (names.getD n ([],())).1).toNat:=rfl;refine⟨⟨h,by omega⟩,rfl,next _ λB=>?_⟩;rw[e2,hw,e];simp only[aw2,axy];have:=hJ B;constructor
   .intro hB;have hc:c<=B:=by split at hB<;>omega
    have hv:Sp.lv aH (aP d (names.getD n ([],())).1).toNat+more<=B:=by split at hB<;>omega
    obtain⟨a,b⟩:=this.1 hc;refine⟨a,λx hx hx0=>?_⟩;rcases hx with hx|rfl
    .exact b x hx hx0
    .exact hv
   .rintro⟨a,b⟩;have hc:=this.2 ⟨a,λx hx=>b x (.inl hx)⟩;have hv:=b _ (.inr rfl) h;split<;>omega
  .have h:¬0<=aP d (names.getD n ([],())).1:=gZ h;rw[hJ B,e];simp only[aw2,axy];constructor
   .rintro⟨a,b⟩;refine⟨a,λx hx hx0=>?_⟩;rcases hx with hx|rfl
    .exact b x hx hx0
    .exact(h hx0).elim
   .exactλ⟨a,b⟩=>⟨a,λx hx=>b x (.inl hx)⟩
 .dsimp only;refine bV (by omega) (congrArg (·,()) ?_);rw[aw0]at hJ;have h6:=λB=>(hJ B).trans (JR (d:=d) (aH:=aH) (more:=more) names B).symm;have a:=(h6 c).1 (axm _);have b:=(h6 (zL d aH more names)).2 (axm _);omega
end Go.Proofs.Tryz
namespace Go.Proofs.Tryz
open Go Go.Fw Go.IntWalk Sp
theorem akp{d:List aV}{i:Nat}(hi:i<d.length){neg:Bool}{r:Sp.LS}(hr:dA r (fJ (dP d i).2.1 neg)){p:Nat}(hp:p<r.length)(h0:0<=aP d (r.getD p ([],())).1):
 (i,(aP d (r.getD p ([],())).1).toNat,if neg then 1 else 0)∈dV d:=by
 have hm:=getD_mem (d:=(([]:List UInt8),())) hp;have:=(hr.2 (r.getD p ([],())).1).1 hm;cases neg with
 |false=>exact Gf.2 ⟨hi,_,.inl ⟨rfl,this⟩,h0,rfl⟩
 |true=>exact Gf.2 ⟨hi,_,.inr ⟨rfl,this⟩,h0,rfl⟩
theorem SX{d:List aV}{i j m:Nat}{neg:Bool}{r:Sp.LS}(hr:dA r (fJ (dP d i).2.1 neg))(he:(i,j,m)∈dV d)(hm:m=if neg then 1 else 0):
 ∃p,p<r.length/\0<=aP d (r.getD p ([],())).1/\j=(aP d (r.getD p ([],())).1).toNat:=by
 obtain⟨_,s,h2,h3,h4⟩:=Gf.1 he;have hs:s∈fJ (dP d i).2.1 neg:=by
  cases neg with
  |false=>rcases h2 with⟨_,h⟩|⟨h,_⟩;exact h;simp at hm;omega
  |true=>rcases h2 with⟨h,_⟩|⟨_,h⟩;simp at hm;omega;exact h
 have hm:=(hr.2 s).2 hs;obtain⟨p,hp,e⟩:=axl hm;have e2:r.getD p ([],())=(s,()):=by rw[awI,awM hp,e];rfl
 exact⟨p,hp,by rw[e2];exact h3,by rw[e2];exact h4⟩
theorem aqJ:∀x,(uK.F x).1->∃t,(uK.F x).2 t:=by rintro⟨d,aH,_⟩ hp;obtain⟨_,_,h3,h4⟩:aI d/\d.length<=5/\aH.length=d.length/\∀x∈aH,0<=x.1/\x.1<=1000000:=hp;obtain⟨r,hr⟩:=anu d aH h3 λi hi=>(h4 _ (aaP (by omega))).1;exact⟨((r,()),()),hr⟩
theorem aeO:OK uK.e:=by
 refine XA.ok mixed (ax [yB.e,zJ.e,yA.e] ⟨X6,Q5,X4,trivial⟩) ah4 (aqJ) (by kernel_rfl) (show∀d aH,uK.goal (afC d aH) (d,aH,())from ?_);intro d aH hin hp;dsimp only[uK]at hp ⊢;obtain⟨h1,h2,h3,h4⟩:aI d/\d.length<=5/\aH.length=d.length/\∀x∈aH,0<=x.1/\x.1<=1000000:=hp;have h0:∀i,i<d.length->0<=Sp.lv aH i/\Sp.lv aH i<=1000000:=λi hi=>h4 _ (aaP (by omega));have hB:∀i,i<d.length->Sp.lv aH i<=1000000:=λi hi=>(h0 i hi).2;refine⟨by rw[bM];omega,?_⟩;refine bZ (λi(x:List (Int×Unit))=>((i,()),x,())) (λy=>y.1.1) (λ_ _=>rfl) d.length (by omega) (λi cur=>Me d aH cur (1000*i) λe=>e∈dV d/\e.1<i) ((Me.start h3).weaken (by omega) λe he=>by have:=he.2;omega) (λI μ i cur hi hJ next=>?_) λI μ cur hJ=>?_
 .dsimp only;rw[awO];refine bU (by omega) ⟨⟨by omega,by omega⟩,o6 h1 hi,?_⟩;rintro⟨⟨r,⟨⟩⟩,⟨⟩⟩ hr;have hr:dA r (fJ (dP d i).2.1 false):=hr;have hrl:r.length<=1000:=hr.1;refine bZ (λi(x:List (Int×Unit))=>((i,()),x,())) (λy=>y.1.1) (λ_ _=>rfl) r.length (by omega) (λp cur=>Me d aH cur (1000*i) λe=>e∈dV d/\(e.1<i\/(e.1=i/\e.2.2=0/\∃p',p'<p/\e.2.1=(aP d (r.getD p' ([],())).1).toNat/\0<=aP d (r.getD p' ([],())).1))) (hJ.weaken (axm _) λe he=>⟨he.1,by rcases he.2 with h|⟨_,_,_,h,_⟩;exact h;omega⟩) (λI1 μ1 p cur hp hJ apm=>?_) λI1 μ1 cur hJ=>?_
  .dsimp only;rw[awO];have hl:=hJ.len;have hP:∀e:Nat×Nat×Nat,(e∈dV d/\(e.1<i\/(e.1=i/\e.2.2=0/\∃p',p'<p+1/\e.2.1=(aP d (r.getD p' ([],())).1).toNat/\0<=aP d (r.getD p' ([],())).1)))->
    (e∈dV d/\(e.1<i\/(e.1=i/\e.2.2=0/\∃p',p'<p/\e.2.1=(aP d (r.getD p' ([],())).1).toNat/\0<=aP d (r.getD p' ([],())).1)))\/(e=(i,(aP d (r.getD p ([],())).1).toNat,0)/\0<=aP d (r.getD p ([],())).1):=by
    rintro⟨a,b,c⟩ ⟨he,h|⟨h,h5,p',h6,h7,h8⟩⟩
    .exact .inl ⟨he,.inl h⟩
    .by_cases hpp:p'=p
     .subst hpp;have h:a=i:=h;have h5:c=0:=h5;have h7:b=(aP d (r.getD p' ([],())).1).toNat:=h7;exact .inr ⟨by rw[h,h5,h7],h8⟩
     .exact .inl ⟨he,.inr ⟨h,h5,p',by omega,h7,h8⟩⟩
   refine bU (by omega) ⟨⟨by omega,by omega⟩,trivial,af (λh=>?_) λh=>⟨rfl,apm _ (hJ.weaken (axm _) λe he=>?_)⟩⟩
   .have h:0<=aP d (r.getD p ([],())).1:=gI h;have hlt:=Ns h;have he:=akp hi hr hp h;refine⟨⟨h,by omega⟩,by omega,⟨by omega,by omega⟩,by omega,af (λhc=>⟨⟨h,by omega⟩,by omega,⟨by omega,by omega⟩,by omega,rfl,apm _ ?_⟩) λhc=>⟨rfl,apm _ ?_⟩⟩
    .have hc:Sp.lv cur i<Sp.lv cur (aP d (r.getD p ([],())).1).toNat:=gI hc;have:=hJ.set he (by show _<_+((0:Nat):Int);omega);have e0:Sp.lv cur (aP d (r.getD p ([],())).1).toNat+((if false=true then 1 else 0:Nat):Int)=Sp.lv cur (aP d (r.getD p ([],())).1).toNat:=by show _+((0:Nat):Int)=_;omega
     rw[e0]at this;exact this.weaken (by show 1000*(i:Int)+((0:Nat):Int)<=_;omega) λe he=>(hP e he).imp_right λh=>h.1
    .have hc:¬Sp.lv cur i<Sp.lv cur (aP d (r.getD p ([],())).1).toNat:=gZ hc;have:=hJ.still he (by show _+((0:Nat):Int)<=_;omega);exact this.weaken (axm _) λe he=>(hP e he).imp_right λh=>h.1
   .have h:¬0<=aP d (r.getD p ([],())).1:=gZ h;rcases hP e he with h'|h'
    .exact h'
    .exact(h h'.2).elim
  .dsimp only;have hJ2:Me d aH cur (1000*i) λe=>e∈dV d/\(e.1<i\/(e.1=i/\e.2.2=0)):=hJ.weaken (axm _) λe he=>⟨he.1,he.2.imp_right λh=>⟨h.1,h.2,by obtain⟨a,b,c⟩:=e;obtain⟨he,_⟩:=he;obtain⟨h,h5⟩:=h;have h:a=i:=h;have h5:c=0:=h5;subst h h5;obtain⟨p,q1,q2,q3⟩:=SX hr he rfl;exact⟨p,q1,q3,q2⟩⟩⟩;clear hJ;refine bV (by omega) ⟨⟨by omega,by omega⟩,o6 h1 hi,?_⟩;rintro⟨⟨r2,⟨⟩⟩,⟨⟩⟩ hr2;have hr2:dA r2 (fJ (dP d i).2.1 true):=hr2;have hrl2:r2.length<=1000:=hr2.1;refine bZ (λi(x:List (Int×Unit))=>((i,()),x,())) (λy=>y.1.1) (λ_ _=>rfl) r2.length (by omega) (λp cur=>Me d aH cur (1000*i+p) λe=>e∈dV d/\(e.1<i\/(e.1=i/\e.2.2=0)\/(e.1=i/\e.2.2=1/\∃p',p'<p/\e.2.1=(aP d (r2.getD p' ([],())).1).toNat/\0<=aP d (r2.getD p' ([],())).1))) (hJ2.weaken (by omega) λe he=>⟨he.1,by rcases he.2 with h|h|⟨_,_,_,h,_⟩;exact .inl h;exact .inr h;omega⟩) (λI2 μ2 p cur hp hJ Po=>?_) λI2 μ2 cur hJ=>?_
   .dsimp only;rw[awO];have hl:=hJ.len;have hP:∀e:Nat×Nat×Nat,(e∈dV d/\(e.1<i\/(e.1=i/\e.2.2=0)\/(e.1=i/\e.2.2=1/\∃p',p'<p+1/\e.2.1=(aP d (r2.getD p' ([],())).1).toNat/\0<=aP d (r2.getD p' ([],())).1)))->
     (e∈dV d/\(e.1<i\/(e.1=i/\e.2.2=0)\/(e.1=i/\e.2.2=1/\∃p',p'<p/\e.2.1=(aP d (r2.getD p' ([],())).1).toNat/\0<=aP d (r2.getD p' ([],())).1)))\/(e=(i,(aP d (r2.getD p ([],())).1).toNat,1)/\0<=aP d (r2.getD p ([],())).1):=by
     rintro⟨a,b,c⟩ ⟨he,h|h|⟨h,h5,p',h6,h7,h8⟩⟩
     .exact .inl ⟨he,.inl h⟩
     .exact .inl ⟨he,.inr (.inl h)⟩
     .by_cases hpp:p'=p
      .subst hpp;have h:a=i:=h;have h5:c=1:=h5;have h7:b=(aP d (r2.getD p' ([],())).1).toNat:=h7;exact .inr ⟨by rw[h,h5,h7],h8⟩
      .exact .inl ⟨he,.inr (.inr ⟨h,h5,p',by omega,h7,h8⟩)⟩
    refine bU (by omega) ⟨⟨by omega,by omega⟩,trivial,af (λh=>?_) λh=>⟨rfl,Po _ (hJ.weaken (by omega) λe he=>?_)⟩⟩
    .have h:0<=aP d (r2.getD p ([],())).1:=gI h;have hlt:=Ns h;have he:=akp hi hr2 hp h;have hg:=hJ.grow 1000000 hB (aP d (r2.getD p ([],())).1).toNat (by omega);have hu:=hJ.up (aP d (r2.getD p ([],())).1).toNat (by omega);have hz:=(h0 (aP d (r2.getD p ([],())).1).toNat (by omega)).1;have hw:IntKind.i64.wrap (Sp.lv cur (aP d (r2.getD p ([],())).1).toNat+1)=Sp.lv cur (aP d (r2.getD p ([],())).1).toNat+1:=fQ _ (by omega);have e2:(cur.getD (aP d (r2.getD p ([],())).1).toNat (0,())).1=Sp.lv cur (aP d (r2.getD p ([],())).1).toNat:=rfl;rw[e2,hw];refine⟨⟨h,by omega⟩,by omega,⟨by omega,by omega⟩,by omega,af (λhc=>⟨⟨h,by omega⟩,by omega,⟨by omega,by omega⟩,by omega,rfl,Po _ ?_⟩) λhc=>⟨rfl,Po _ ?_⟩⟩
     .have hc:Sp.lv cur i<Sp.lv cur (aP d (r2.getD p ([],())).1).toNat+1:=gI hc;have:=hJ.set he (by show _<_+((1:Nat):Int);omega);exact this.weaken (by show 1000*(i:Int)+p+((1:Nat):Int)<=_;omega) λe he=>(hP e he).imp_right λh=>h.1
     .have hc:¬Sp.lv cur i<Sp.lv cur (aP d (r2.getD p ([],())).1).toNat+1:=gZ hc;have:=hJ.still he (by show _+((1:Nat):Int)<=_;omega);exact this.weaken (by omega) λe he=>(hP e he).imp_right λh=>h.1
    .have h:¬0<=aP d (r2.getD p ([],())).1:=gZ h;rcases hP e he with h'|h'
     .exact h'
     .exact(h h'.2).elim
   .dsimp only;refine bV (by omega) ⟨rfl,next _ (hJ.weaken (by omega) λe he=>⟨he.1,?_⟩)⟩;obtain⟨a,b,c⟩:=e;obtain⟨he,h⟩:=he;have h:a<i+1:=h;rcases awZ a i with h'|h'
    .exact .inl h'
    .have:a=i:=by omega
     subst this;obtain⟨_,_,hc⟩:=kX d _ he;have hc:c<=1:=hc;rcases ayt c with hc0|hc0
     .exact .inr (.inl ⟨rfl,hc0⟩)
     .have hc1:c=1:=by omega
      subst hc1;obtain⟨p,q1,q2,q3⟩:=SX hr2 he rfl;exact .inr (.inr ⟨rfl,rfl,p,q1,q3,q2⟩)
 .dsimp only;refine bV (by omega) ?_;exact hJ.raised (by omega) (λe he=>⟨he,(kX d e he).1⟩) λi hi=>(h0 i hi).1
end Go.Proofs.Tryz
namespace Go.Proofs.Tryz
open Go Go.Fw Go.IntWalk Sp
theorem aaE{d:List aV}{aH r:List (Int×Unit)}(h:Sp.raised d aH r)(h0:∀i,i<d.length->0<=Sp.lv aH i)(hp:jm (dV d) λi=>(Sp.lv aH i).toNat):∀i,i<d.length->Sp.lv r i=Sp.lv aH i:=by obtain⟨_,h2,_,_,h5⟩:=h;intro i hi;have a:Sp.lv aH i<=Sp.lv r i:=h2 i hi;have b:Sp.lv r i<=((Sp.lv aH i).toNat:Int):=h5 _ hp (λj hj=>by have:=h0 j hj;show Sp.lv aH j<=((Sp.lv aH j).toNat:Int);omega) i hi;have:=h0 i hi;omega
theorem aml{d:List aV}{aH r:List (Int×Unit)}(h:Sp.raised d aH r)(hp:¬jm (dV d) λi=>(Sp.lv aH i).toNat):∃i,i<d.length/\Sp.lv aH i<Sp.lv r i:=by obtain⟨_,h2,_,h4,_⟩:=h;refine axi λhno=>hp (h4 λi hi=>?_);have a:Sp.lv aH i<=Sp.lv r i:=h2 i hi;have b:¬Sp.lv aH i<Sp.lv r i:=λh=>hno ⟨i,hi,h⟩;show Sp.lv r i=Sp.lv aH i;omega
theorem akd{d:List aV}(h1:gm d=true){L:Nat->Nat}(h2:jm (dV d) L):aB d=true:=lF.2 ⟨h1,L,h2⟩
theorem amm{d:List aV}(h:∀M,jm (dV d) M->(∀i,i<d.length->M i<d.length)->False):aB d=false:=by rw[axX];intro h1;obtain⟨_,h2⟩:=lF.1 h1;obtain⟨M,h3,h4⟩:=KT (kX d) h2;exact h M h3 h4
theorem ake{d:List aV}(h:gm d=false):aB d=false:=by rw[axX];intro h1;rw[(lF.1 h1).1]at h;cases h
theorem Vq(n i:Nat):Sp.lv (List.replicate n (0,())) i=0:=by
 unfold Sp.lv;rw[awI];by_cases h:i<n
 .rw[ayC,if_pos h];rfl
 .rw[axv (by simp;omega)];rfl
theorem aeN{d:List aV}(h:aB d=true):∃s,kU d s:=by obtain⟨hok,h2⟩:=lF.1 h;exact agK (KT (kX d) h2)
theorem agL{d:List aV}:∃s:List (Int×Unit),(aB d=true->kU d s)/\(aB d=false->s=[]):=by
 cases h:aB d with
 |true=>obtain⟨s,hs⟩:=aeN h;exact⟨s,λ_=>hs,λh=>by cases h⟩
 |false=>exact⟨[],λh=>(by cases h),λ_=>rfl⟩
theorem He:OK vF.e:=by
 refine XA.ok mixed (ax [sF.e,uK.e,zF.e] ⟨FO,aeO,YJ,trivial⟩) akO (λ⟨d,_⟩ hp=>by obtain⟨s,h1,h2⟩:=agL (d:=d);exact⟨(((s,aB d,()),())),⟨rfl,h1,h2⟩⟩) (by kernel_rfl) (show∀d,vF.goal (aiV d) (d,())from ?_);intro d hin hp;dsimp only[vF]at hp ⊢;have hp:aI d:=hp;refine⟨hp,af (λh=>⟨(ake (dX h)).symm,λh=>(by cases h),λ_=>rfl⟩) λh=>?_⟩;have hok:=dw h;have hlen:=WV hok;refine⟨⟨by omega,by omega,by rw[bM];omega⟩,?_⟩;have hnn:d.length*d.length<=25:=azU hlen hlen;have e1:(d.length:Int)*(d.length:Int)=((d.length*d.length:Nat):Int):=by simp
 have w:IntKind.i64.wrap (IntKind.i64.wrap ((d.length:Int)*(d.length:Int))+1)=((d.length*d.length:Nat):Int)+1:=by rw[e1,fQ ((d.length*d.length:Nat):Int) (by omega)];exact fQ _ (by omega)
 rw[w];have hmem:∀aH:List (Int×Unit),aH.length=d.length->∀k:Nat,k<=27->(∀i,i<d.length->0<=Sp.lv aH i/\Sp.lv aH i<=5000*k)->∀x∈aH,0<=x.1/\x.1<=1000000:=λaH hl k hk h=>
  amn (p:=λz=>0<=z/\z<=1000000) λi hi=>by have:=h i (by omega);omega
 refine bZ (λi(x:List (Int×Unit))=>((x,i,()),())) (λy=>y.1.2.1) (λ_ _=>rfl) (d.length*d.length+2) (by omega)
  (λk aH=>aH.length=d.length/\(∀i,i<d.length->0<=Sp.lv aH i/\Sp.lv aH i<=5000*k)/\(∀M,jm (dV d) M->∀i,i<d.length->Sp.lv aH i<=M i)/\((jm (dV d) λi=>(Sp.lv aH i).toNat)\/(k:Int)<=Aw aH d.length))
  ⟨by simp,λi hi=>by rw[awO,Vq];omega,λM hM i hi=>by rw[awO,Vq];omega,.inr (aaF _ λi hi=>by rw[awO,Vq];omega)⟩ (λI μ k aH hk hJ next=>?_) λI μ aH hJ=>?_
 .obtain⟨g1,g2,g3,g4⟩:=hJ;dsimp only;refine bU (by omega) ⟨⟨hp,hlen,g1,hmem aH g1 k (by omega) g2⟩,?_⟩;rintro⟨⟨r,⟨⟩⟩,⟨⟩⟩ hr;have hr:Sp.raised d aH r:=hr;have hr':=hr;obtain⟨q1,q2,q3,q4,q5⟩:=hr';have hup:∀i,i<d.length->Sp.lv aH i<=Sp.lv r i:=q2;refine⟨rfl,next r ⟨q1,λi hi=>?_,λM hM i hi=>q5 M hM (g3 M hM) i hi,?_⟩⟩
  .have a:=hup i hi;have b:=q3 (5000*k) (λj hj=>(g2 j hj).2) i hi;have b:Sp.lv r i<=5000*k+5000:=b;have c:=g2 i hi;omega
  .by_cases hpf:jm (dV d) λi=>(Sp.lv aH i).toNat
   .left;have hs:=aaE hr (λi hi=>(g2 i hi).1) hpf;intro e he;have:=hpf e he;obtain⟨a,b,_⟩:=kX d e he;dsimp only at this ⊢;rw[hs _ a,hs _ b];exact this
   .right;have hm:=aeP d.length hup (aml hr hpf);rcases g4 with g4|g4
    .exact(hpf g4).elim
    .omega
 .obtain⟨g1,g2,g3,g4⟩:=hJ;dsimp only;refine bV (by omega) ⟨⟨hp,hlen,g1,hmem aH g1 _ (by omega) g2⟩,?_⟩;rintro⟨⟨r,⟨⟩⟩,⟨⟩⟩ hr;have hr:Sp.raised d aH r:=hr;refine⟨trivial,af (λhne=>?_) λhe=>?_⟩
  .have hne:¬r=aH:=gZ (dX hne);refine⟨(amm λM hM hb=>?_).symm,λh=>(by cases h),λ_=>rfl⟩;rcases g4 with g4|g4
   .exact hne (aqn (by rw[hr.1,g1]) λi hi=>aaE hr (λi hi=>(g2 i hi).1) g4 i (by rw[← hr.1];exact hi))
   .have:=TY (a:=aH) (b:=d.length) d.length λi hi=>by have a:=g3 M hM i hi;have b:=hb i hi;omega
    omega
  .have he:r=aH:=gI (dw he);subst he;have hpf:=hr.2.2.2.1 λi hi=>rfl;obtain⟨M,hM,hb⟩:=KT (kX d) ⟨_,hpf⟩;exact⟨(akd hok hpf).symm,λ_=>⟨g1,λi hi=>⟨(g2 i hi).1,by have a:=g3 M hM i hi;have b:=hb i hi;omega⟩,hpf,g3⟩,λh=>by cases h⟩
theorem Vr:OK Ey.e:=by
 refine XA.ok mixed (ax [yx.e,zK.e,yw.e,zG.e] ⟨WW,YK,WX,YL,trivial⟩) akP (λ⟨d,_⟩ hp=>by obtain⟨s,h1,h2⟩:=agL (d:=d);exact⟨(((s,aB d,()),())),⟨rfl,h1⟩⟩) (by kernel_rfl) (show∀d,Ey.goal (aiW d) (d,())from ?_);intro d hin hp;dsimp only[Ey]at hp ⊢;have hp:aI d:=hp;refine⟨hp,af (λh=>⟨(ake (dX h)).symm,λh=>by cases h⟩) λh=>?_⟩;have hok:=dw h;have hlen:=WV hok;refine⟨⟨by omega,by omega,by rw[bM];omega⟩,?_⟩;have hmem:∀aH:List (Int×Unit),aH.length=d.length->(∀i,i<d.length->0<=Sp.lv aH i/\Sp.lv aH i<=d.length)->∀x∈aH,0<=x.1/\x.1<=1000000:=λaH hl h=>
  amn (p:=λz=>0<=z/\z<=1000000) λi hi=>by have:=h i (by omega);omega
 refine⟨λy=>y.2.1.length=d.length/\(∀i,i<d.length->0<=Sp.lv y.2.1 i/\Sp.lv y.2.1 i<=d.length)/\(∀M,jm (dV d) M->∀i,i<d.length->Sp.lv y.2.1 i<=M i)/\(y.1.1=false->jm (dV d) λi=>(Sp.lv y.2.1 i).toNat),
  λy=>(((d.length*d.length:Nat):Int)-Aw y.2.1 d.length).toNat*2+(if y.1.1=true then 1 else 0),⟨by simp,λi hi=>by rw[awO,Vq];omega,λM hM i hi=>by rw[awO,Vq];omega,λh=>by cases h⟩,?_⟩
 rintro⟨⟨ch,⟨⟩⟩,aH,⟨⟩⟩ ⟨g1,g2,g3,g4⟩;dsimp only at g1 g2 g3 g4 ⊢;refine af (λhch=>?_) λhch=>⟨(akd hok (g4 hch)).symm,λ_=>⟨g1,g2,g4 hch,g3⟩⟩;subst hch;refine bZ (λi(x:Bool×List (Int×Unit))=>((x.1,i,()),x.2,())) (λy=>y.1.2.1) (λ_ _=>rfl) d.length (by omega)
  (λi(x:Bool×List (Int×Unit))=>x.2.length=d.length/\(∀i,i<d.length->Sp.lv aH i<=Sp.lv x.2 i/\Sp.lv x.2 i<=d.length)/\(∀M,jm (dV d) M->∀i,i<d.length->Sp.lv x.2 i<=M i)/\
    (x.1=true->Aw aH d.length<Aw x.2 d.length)/\(x.1=false->x.2=aH/\∀e∈dV d,e.1<i->Sp.lv aH e.2.1+e.2.2<=Sp.lv aH e.1))
  (s0:=(false,aH)) ⟨g1,λi hi=>⟨axm _,(g2 i hi).2⟩,g3,λh=>(by cases h),λ_=>⟨rfl,λe _ h=>by omega⟩⟩ (λI μ i x hi hJ next=>?_) λI μ x hJ=>?_
 .obtain⟨c,cur⟩:=x;obtain⟨q1,q2,q3,q4,q5⟩:=hJ;have q1:cur.length=d.length:=q1;have hcur:∀i,i<d.length->0<=Sp.lv cur i/\Sp.lv cur i<=d.length:=λi hi=>⟨Int.le_trans (g2 i hi).1 (q2 i hi).1,(q2 i hi).2⟩;have hm:=hmem cur q1 hcur;dsimp only;rw[awO];refine bU (by omega) ⟨⟨by omega,by omega⟩,o6 hp hi,?_⟩;rintro⟨⟨r4,⟨⟩⟩,⟨⟩⟩ hr4;have hr4:dA r4 (fJ (dP d i).2.1 false):=hr4;refine⟨⟨by omega,hr4.1,by omega,by omega,hm⟩,o6 hp hi,?_⟩;rintro⟨⟨r6,⟨⟩⟩,⟨⟩⟩ SS;have SS:dA r6 (fJ (dP d i).2.1 true):=SS;refine⟨⟨by omega,SS.1,by omega,by omega,hm⟩,?_⟩;dsimp only;have hle:∀M,jm (dV d) M->zL d cur 0 r4<=M i/\zL d cur 1 r6<=M i:=by
   intro M hM;refine⟨(JR r4 _).2 ⟨by omega,λx hx h0=>?_⟩,(JR r6 _).2 ⟨by omega,λx hx h0=>?_⟩⟩
   .have he:=Gf.2 ⟨hi,x.1,.inl ⟨rfl,(hr4.2 x.1).1 hx⟩,h0,rfl⟩;have a:=hM _ he;have a:M (aP d x.1).toNat+0<=M i:=a;have b:=q3 M hM _ (kX d _ he).2.1;have b:Sp.lv cur (aP d x.1).toNat<=M (aP d x.1).toNat:=b;omega
   .have he:=Gf.2 ⟨hi,x.1,.inr ⟨rfl,(SS.2 x.1).1 hx⟩,h0,rfl⟩;have a:=hM _ he;have a:M (aP d x.1).toNat+1<=M i:=a;have b:=q3 M hM _ (kX d _ he).2.1;have b:Sp.lv cur (aP d x.1).toNat<=M (aP d x.1).toNat:=b;omega
  have hge:∀e∈dV d,e.1=i->Sp.lv cur e.2.1+e.2.2<=zL d cur 0 r4\/Sp.lv cur e.2.1+e.2.2<=zL d cur 1 r6:=by
   rintro⟨a,b,m⟩ he ha;have ha:a=i:=ha;subst ha;have hm1:m<=1:=(kX d _ he).2.2;rcases ayt m with h|h
   .subst h;obtain⟨p,p1,p2,p3⟩:=SX hr4 he rfl;left;have:=((JR (d:=d) (aH:=cur) (more:=0) r4 _).1 (axm _)).2 _ (getD_mem (d:=(([]:List UInt8),())) p1) p2;show Sp.lv cur b+((0:Nat):Int)<=_;rw[p3];omega
   .have:m=1:=by omega
    subst this;obtain⟨p,p1,p2,p3⟩:=SX SS he rfl;right;have:=((JR (d:=d) (aH:=cur) (more:=1) r6 _).1 (axm _)).2 _ (getD_mem (d:=(([]:List UInt8),())) p1) p2;show Sp.lv cur b+((1:Nat):Int)<=_;rw[p3];omega
  generalize zL d cur 0 r4=u at hle hge ⊢;generalize zL d cur 1 r6=v at hle hge ⊢;have hv:∃z,(if v>u then v else u)=z/\u<=z/\v<=z/\(z=u\/z=v):=by refine⟨_,rfl,?_,?_,?_⟩<;>split<;>omega
  obtain⟨z,ez,hz1,hz2,hz3⟩:=hv;rw[ez];have e2:(cur.getD i (0,())).1=Sp.lv cur i:=rfl;rw[e2];refine af (λhbig=>?_) λhbig=>⟨⟨by omega,by omega⟩,by omega,af (λhup=>⟨⟨by omega,by omega⟩,by omega,rfl,next (true,cur.set i (z,())) ?_⟩) λhup=>⟨rfl,next (c,cur) ?_⟩⟩
  .have hbig:z>(d.length:Int):=gI hbig;refine⟨(amm λM hM hb=>?_).symm,λh=>by cases h⟩;have a:=hle M hM;have b:=hb i hi;omega
  .have hbig:¬z>(d.length:Int):=gZ hbig;have hup:z>Sp.lv cur i:=gI hup;have hs:=λk=>amo (l:=cur) (i:=i) (by omega) z k;refine⟨by simp;omega,λk hk=>?_,λM hM k hk=>?_,λ_=>?_,λh=>by cases h⟩
   .dsimp only;rw[hs];have:=q2 k hk;dsimp only at this;split
    .next e=>subst e;omega
    .exact this
   .dsimp only;rw[hs];split
    .next e=>subst e;have:=hle M hM;omega
    .exact q3 M hM k hk
   .have a:=aeQ (a:=aH) (b:=cur) d.length λk hk=>(q2 k hk).1;have hsk:∀k,k<d.length->Sp.lv cur k<=Sp.lv (cur.set i (z,())) k:=λk hk=>by
     rw[hs];split
     .next e=>subst e;omega
     .exact axm _
    have b:=aeP (a:=cur) (b:=cur.set i (z,())) d.length hsk ⟨i,hi,by rw[hs,if_pos rfl];omega⟩;show Aw aH d.length<Aw (cur.set i (z,())) d.length;omega
  .have hup:¬z>Sp.lv cur i:=gZ hup;refine⟨q1,q2,q3,q4,λh=>?_⟩;obtain⟨a,b⟩:=q5 h;have a:cur=aH:=a;subst a;refine⟨rfl,λe he hlt=>?_⟩;rcases awZ e.1 i with h'|h'
   .exact b e he h'
   .have U7:e.1=i:=by omega
    have:=hge e he U7;rw[U7];omega
 .obtain⟨c,cur⟩:=x;obtain⟨q1,q2,q3,q4,q5⟩:=hJ;dsimp only at q1 q2 q3 q4 q5 ⊢;have hcur:∀i,i<d.length->0<=Sp.lv cur i/\Sp.lv cur i<=d.length:=λi hi=>⟨Int.le_trans (g2 i hi).1 (q2 i hi).1,(q2 i hi).2⟩;have hsum:=TY (a:=cur) (b:=d.length) d.length λi hi=>(q2 i hi).2;refine bV (by omega) ⟨rfl,⟨q1,hcur,q3,λhc e he=>?_⟩,?_⟩
  .obtain⟨a,b⟩:=q5 hc;subst a;obtain⟨x1,x2,_⟩:=kX d e he;have:=b e he x1;have y1:=(hcur _ x1).1;have y2:=(hcur _ x2).1;dsimp only;omega
  .cases c with
   |true=>
    have:=q4 rfl;simp only[if_true];omega
   |false=>obtain⟨a,_⟩:=q5 rfl;subst a;simp
theorem WY:OK yC.e:=by refine PA.ok mixed (ax [vF.e] ⟨He,trivial⟩) H0 (by kernel_rfl) (show∀d,yC.goal (WZ d) (d,())from ?_);intro d hin hp;dsimp only[yC]at hp ⊢;refine⟨hp,λr hr=>?_⟩;exact ayA hr.1 rfl
end Go.Proofs.Tryz
namespace Go.Proofs.Tryz
open Go Go.Fw Go.IntWalk Sp
theorem agM:aB [([100,97],[(1,0,0,[],0,0,[],())],())]=true:=lF.2 ⟨by kernel_rfl,λ_=>0,λe he=>by rw[show dV [([100,97],[(1,0,0,[],0,0,[],())],())]=[] by kernel_rfl]at he;cases he⟩
theorem SY:OK Cm.e:=by
 refine XA.ok mixed (ax [yC.e,Cj.e] ⟨WY,S9,trivial⟩) aiX (λ_ _=>⟨(([([100,97],[(1,0,0,[],0,0,[],())],())],()),(([],0,0,()),())),⟨by decide,by decide,KU Ej (by simp) (by simp),agM,by decide⟩⟩) (by kernel_rfl) (show∀c0 c1 c2,Cm.goal (agN c0 c1 c2) ((c0,c1,c2,()),())from ?_);intro b i h hin hp;dsimp only[Cm]at hp ⊢;have hp:0<=i:=hp;refine⟨hp,?_⟩;rintro⟨⟨d,_⟩,⟨b1,i1,h1,_⟩,_⟩ ⟨q1,q2,q3,q4⟩;dsimp only at q1 q2 q3 q4 ⊢;have fin:∀l:List aV,l.length<=4->aI l->(0<l.length->aB l=true)->(bif (l.length:Int)==(0:Int)then 0<=i1/\([(([100,97]:List UInt8),[((1:Int),(0:Int),(0:Int),([]:List UInt8),(0:Int),(0:Int),([]:List UInt8),())],())]:List aV).length<=10/\aI [([100,97],[(1,0,0,[],0,0,[],())],())]/\aB [([100,97],[(1,0,0,[],0,0,[],())],())]=true/\0<[(([100,97]:List UInt8),[((1:Int),(0:Int),(0:Int),([]:List UInt8),(0:Int),(0:Int),([]:List UInt8),())],())].length else 0<=i1/\l.length<=10/\aI l/\aB l=true/\0<l.length):=λl hl hs hst=>
  af (λ_=>⟨q1,by simp,KU Ej (by simp) (by simp),agM,by simp⟩) λh0=>have h1:0<l.length:=(by have h0:¬(l.length:Int)=0:=awJ.1 h0;omega);⟨q1,by omega,hs,hst h1,h1⟩
 refine⟨λy=>y.1.1.length<=4/\aI y.1.1,λy=>y.1.1.length,⟨q3,q4⟩,?_⟩;rintro⟨⟨l,⟨⟩⟩,⟨⟩⟩ ⟨g1,g2⟩;dsimp only at g1 g2 ⊢;refine af (λhc=>⟨g2,af (λ_=>?_) λhst=>fin l g1 g2 λ_=>dw hst⟩) λhc=>fin l g1 g2 λh=>(by have:=gZ hc;omega);have hc:0<l.length:=by have:=gI hc;omega
 rw[xA hc (by omega),axU,awO];exact⟨⟨by omega,by omega⟩,rfl,⟨by rw[awK];omega,anm _ g2⟩,by dsimp only;rw[awK];omega⟩
end Go.Proofs.Tryz
namespace Go.Proofs.Tryz
open Go Go.Fw Go.IntWalk Sp
theorem W9:∀{l:List aQ}{n:Nat}{s:Sp.Bytes},n<l.length->(∀i,i<n->(cu l i).1≠s)->(cu l n).1=s->bf l s=(cu l n).2
 |[],n,_,h,_,_=>by simp at h
 |x::r,0,s,_,_,e=>by
  have e:x.1=s:=e;rw[bf,awQ.2 e];rfl
 |x::r,n+1,s,h,hn,e=>by have h0:x.1≠s:=hn 0 (by omega);rw[bf,awJ.2 h0];exact W9 (l:=r) (by simpa using h) (λi hi=>hn (i+1) (by omega)) e
theorem Qz:∀{l:List aQ}{s:Sp.Bytes},(∀i,i<l.length->(cu l i).1≠s)->bf l s=(0,0,[],())
 |[],_,_=>rfl
 |x::r,s,h=>by have h0:x.1≠s:=h 0 (by simp);rw[bf,awJ.2 h0];exact Qz λi hi=>h (i+1) (by simpa using hi)
theorem KW:OK sG.e:=by
 refine PA.ok mixed (ax [] trivial) aiY (by kernel_rfl) (show∀f0 f1 f2 f3 f4 name,sG.goal (agO f0 f1 f2 f3 f4 name) ((f0,f1,f2,f3,f4,()),name,())from ?_);intro f0 f1 f2 f3 l s hin hp;dsimp only[sG]at hp ⊢;have hlen:l.length<=maxLen:=hin.1.2.2.2.2.1.1;rw[maxLen_eq]at hlen;refine jd l.length hlen (λn=>∀i,i<n->(cu l i).1≠s) (λi hi=>by omega) (λI μ n hn hJ next=>?_) λI μ hJ=>?_
 .dsimp only;refine bU (by omega) ⟨⟨by omega,by omega⟩,af (λh=>?_) λh=>⟨rfl,next λi hi=>?_⟩⟩
  .exact congrArg (·,()) (W9 hn hJ (awQ.1 h)).symm
  .rcases awZ i n with h'|h'
   .exact hJ i h'
   .have:i=n:=by omega
    rw[this];exact awJ.1 h
 .dsimp only;exact bV (by omega) (congrArg (·,()) (Qz hJ).symm)
theorem KX:OK sH.e:=by
 refine PA.ok mixed (ax [] trivial) aiZ (by kernel_rfl) (show∀f0 f1 f2 f3 f4 name,sH.goal (agP f0 f1 f2 f3 f4 name) ((f0,f1,f2,f3,f4,()),name,())from ?_);intro f0 f1 f2 f3 l s hin hp;dsimp only[sH]at hp ⊢;have hlen:l.length<=maxLen:=hin.1.2.2.2.2.1.1;rw[maxLen_eq]at hlen;refine jd l.length hlen (λn=>∀i,i<n->(cu l i).1≠s) (λi hi=>by omega) (λI μ n hn hJ next=>?_) λI μ hJ=>?_
 .dsimp only;refine bU (by omega) ⟨⟨by omega,by omega⟩,af (λh=>⟨⟨by omega,by omega⟩,?_⟩) λh=>⟨rfl,next λi hi=>?_⟩⟩
  .exact congrArg (·,()) (W9 hn hJ (awQ.1 h)).symm
  .rcases awZ i n with h'|h'
   .exact hJ i h'
   .have:i=n:=by omega
    rw[this];exact awJ.1 h
 .dsimp only;exact bV (by omega) (congrArg (·,()) (Qz hJ).symm)
theorem agQ:OK CO.e:=by
 refine PA.ok mixed (ax [sG.e] ⟨KW,trivial⟩) H0 (by kernel_rfl) (show∀f0 f1 f2 f3 f4 name,CO.goal (agR f0 f1 f2 f3 f4 name) ((f0,f1,f2,f3,f4,()),name,())from ?_);intro f0 f1 f2 f3 l s hin hp;dsimp only[CO]at hp ⊢;refine⟨trivial,?_⟩;cases h:((bf l s).1==1)with
 |true=>dsimp only[bne];rw[h];rfl
 |false=>dsimp only[bne];rw[h];rfl
theorem akf{α β:Type}[BEq β][LawfulBEq β](g:α->β)(v:β)(s:List α):Sp.findAt (λx=>v==g x) s=Sp.findAt (λx=>g x==v) s:=by
 congr 1
 funext x
 rw[aw6,awQ,awQ];exact eq_comm
theorem YM:OK zN.e:=by refine PA.ok mixed (ax [] trivial) aaG (by kernel_rfl) (show∀s v,zN.goal (YN s v) (s,v,())from ?_);intro s v hin hp;dsimp only[zN]at hp ⊢;exact aqo (K:=λr=>r=(Sp.findAt (λx=>x.1==v) s,())) (λx:Int×Unit=>v==x.1) (0,()) s _ hin.1.1 (by rw[akf])
theorem Ua:OK uM.e:=by refine PA.ok mixed (ax [] trivial) Vs (by kernel_rfl) (show∀s v,uM.goal (Ub s v) (s,v,())from ?_);intro s v hin hp;dsimp only[uM]at hp ⊢;exact aqo (K:=λr=>r=(Sp.findAt (λx=>x.1==v) s,())) (λx:List UInt8×Unit=>v==x.1) ([],()) s _ hin.1.1 (by rw[akf])
theorem IB:OK pz.e:=by refine PA.ok mixed (ax [zN.e] ⟨YM,trivial⟩) H0 (by kernel_rfl) (show∀s v,pz.goal (Uc s v) (s,v,())from ?_);intro s v hin hp;dsimp only[pz]at hp ⊢;exact⟨trivial,congrArg (·,()) (Xa _ s)⟩
theorem qj:OK jw.e:=by refine PA.ok mixed (ax [uM.e] ⟨Ua,trivial⟩) H0 (by kernel_rfl) (show∀s v,jw.goal (Pm s v) (s,v,())from ?_);intro s v hin hp;dsimp only[jw]at hp ⊢;exact⟨trivial,congrArg (·,()) (Xa _ s)⟩
theorem NQ:OK qQ.e:=by refine PA.ok mixed (ax [pz.e] ⟨IB,trivial⟩) H0 (by kernel_rfl) (show∀ids id,qQ.goal (aaH ids id) (ids,id,())from ?_);intro s v hin hp;dsimp only[qQ]at hp ⊢;exact⟨trivial,rfl⟩
theorem Gg:OK nD.e:=by refine PA.ok mixed (ax [] trivial) acG (by kernel_rfl) (show∀ids id,nD.goal (aaI ids id) (ids,id,())from ?_);intro s v hin hp;dsimp only[nD]at hp ⊢;exact arz (K:=λr=>r=(fE s v,())) (λx:Int×Unit=>x.1==v) (0,()) s _ hin.1.1 rfl
theorem LZ:OK tH.e:=by refine PA.ok mixed (ax [] trivial) aaJ (by kernel_rfl) (show∀s,tH.goal (YO s) (s,())from ?_);intro s hin hp;dsimp only[tH]at hp ⊢;have hp:s.length<=1000:=hp;intro g hg;refine af (λh=>?_) λh=>⟨by rw[bM];omega,rfl⟩;exact congrArg (·,()) (axJ.1 (hg h)).symm
abbrev oW:dH:=([],[],())
theorem JS{r:List dH}(h:aU r){n:Nat}(hn:n<r.length):(r.getD n oW).2.1.length<=1000:=h.2 _ (getD_mem (d:=oW) hn)
theorem agS{r:List dH}{n:Nat}{s:Sp.Bytes}(hn:n<r.length)(hJ:∀i,i<n->(tu r i).1≠s)(e:(tu r n).1=s):fF r s=iR r n:=by rw[← e];exact aaK hn λj hj=>by rw[e];exact hJ j hj
theorem BO:OK lZ.e:=by
 refine PA.ok mixed (ax [tH.e] ⟨LZ,trivial⟩) aeR (by kernel_rfl) (show∀Hr name,lZ.goal (acH Hr name) (Hr,name,())from ?_);intro r s hin hp;dsimp only[lZ]at hp ⊢;have hp:aU r:=hp;have hlen:r.length<=1000:=hp.1;refine jd r.length (by omega) (λn=>∀i,i<n->(tu r i).1≠s) (λi hi=>by omega) (λI μ n hn hJ next=>?_) λI μ hJ=>?_
 .dsimp only;refine bU (by omega) ⟨⟨by omega,by omega⟩,af (λh=>⟨JS hp hn,?_⟩) λh=>⟨rfl,next λi hi=>?_⟩⟩
  .exact congrArg (·,()) (agS hn hJ (awQ.1 h)).symm
  .rcases awZ i n with h'|h'
   .exact hJ i h'
   .have:i=n:=by omega
    rw[this];exact awJ.1 h
 .dsimp only;exact bV (by omega) (congrArg (·,()) (Nl hJ).symm)
theorem BP:OK l7.e:=by
 refine PA.ok mixed (ax [] trivial) aeS (by kernel_rfl) (show∀a name,l7.goal (acI a name) (a,name,())from ?_);intro r s hin hp;dsimp only[l7]at hp ⊢;have hp:aU r:=hp;have hlen:r.length<=1000:=hp.1;refine jd r.length (by omega) (λn=>∀i,i<n->(tu r i).1≠s) (λi hi=>by omega) (λI μ n hn hJ next=>?_) λI μ hJ=>?_
 .dsimp only;refine bU (by omega) ⟨⟨by omega,by omega⟩,af (λh=>⟨⟨by omega,by omega⟩,by have:(r.getD n ([],[],())).2.1.length<=1000:=JS hp hn;rw[bM,awO];omega,?_⟩) λh=>⟨rfl,next λi hi=>?_⟩⟩
  .exact congrArg (·,()) (agS hn hJ (awQ.1 h)).symm
  .rcases awZ i n with h'|h'
   .exact hJ i h'
   .have:i=n:=by omega
    rw[this];exact awJ.1 h
 .dsimp only;exact bV (by omega) (congrArg (·,()) (Nl hJ).symm)
theorem aeT{q:List bI}{f:aF}{X:BX}{a:Nat}(h5:(Sp.nodeAt q a).1≠5)(h6:(Sp.nodeAt q a).1≠6)(h7:(Sp.nodeAt q a).1≠7):Sp.val q f X a=iW (Sp.nodeAt q a) f X:=by rw[NR,if_neg h5,if_neg h6,if_neg h7]
theorem an2{q:List bI}{f:aF}{X:BX}{a:Nat}(h5:(Sp.nodeAt q a).1=5)(hl:(Sp.nodeAt q a).2.1.toNat<a):Sp.val q f X a=!Sp.val q f X (Sp.nodeAt q a).2.1.toNat:=by rw[NR q f X a,if_pos h5,dif_pos hl]
theorem an3{q:List bI}{f:aF}{X:BX}{a:Nat}(h6:(Sp.nodeAt q a).1=6)(hl:(Sp.nodeAt q a).2.1.toNat<a/\(Sp.nodeAt q a).2.2.1.toNat<a):Sp.val q f X a=(Sp.val q f X (Sp.nodeAt q a).2.1.toNat&&Sp.val q f X (Sp.nodeAt q a).2.2.1.toNat):=by rw[NR q f X a,if_neg (by omega),if_pos h6,dif_pos hl]
theorem aqp{q:List bI}{f:aF}{X:BX}{a:Nat}(h7:(Sp.nodeAt q a).1=7)(hl:(Sp.nodeAt q a).2.1.toNat<a/\(Sp.nodeAt q a).2.2.1.toNat<a):Sp.val q f X a=(Sp.val q f X (Sp.nodeAt q a).2.1.toNat||Sp.val q f X (Sp.nodeAt q a).2.2.1.toNat):=by rw[NR q f X a,if_neg (by omega),if_neg (by omega),if_pos h7,dif_pos hl]
theorem asa{n:bI}{f:aF}{X:BX}(h:n.1=2):iW n f X=!((bf f.2.2.2.2.1 n.2.2.2.1).1==0):=by unfold iW;rw[h];rfl
theorem asb{n:bI}{f:aF}{X:BX}(h:n.1=3):iW n f X=decide (bf f.2.2.2.2.1 n.2.2.2.1=(n.2.2.2.2.1,n.2.2.2.2.2.1,n.2.2.2.2.2.2.1,())):=by unfold iW;rw[h];rfl
theorem ase{n:bI}{f:aF}{X:BX}(h:n.1=4):iW n f X=((bf f.2.2.2.2.1 n.2.2.2.1).1==1&&decide ((bf f.2.2.2.2.1 n.2.2.2.1).2.1<n.2.2.2.2.2.1)):=by unfold iW;rw[h];rfl
theorem asf{n:bI}{f:aF}{X:BX}(h:n.1=8):iW n f X=X n.2.2.2.1 f.1:=by unfold iW;rw[h];rfl
theorem asg{n:bI}{f:aF}{X:BX}(h:n.1=9):iW n f X=(!(f.2.2.2.1==0)&&X n.2.2.2.1 f.2.2.2.1):=by unfold iW;rw[h];rfl
theorem ash{n:bI}{f:aF}{X:BX}(h2:n.1≠2)(h3:n.1≠3)(h4:n.1≠4)(h8:n.1≠8)(h9:n.1≠9):iW n f X=true:=by unfold iW;rw[awJ.2 h2,awJ.2 h3,awJ.2 h4,awJ.2 h8,awJ.2 h9];rfl
theorem eq3(v w:aaL):(v.1==w.1&&(v.2.1==w.2.1&&(v.2.2.1==w.2.2.1&&true)))=decide (v=w):=by rw[aw6];simp[ayu]
theorem KY{x y z:Int}(h:x=y)(hne:y≠z):x≠z:=by rw[h];exact hne
theorem ao9{n:bI}{a:Int}(h:kQ n a=true):n.1=1\/n.1=2\/n.1=3\/n.1=4\/n.1=5\/n.1=6\/n.1=7\/n.1=8\/n.1=9:=by unfold kQ at h;dsimp only at h;refine axi λhno=>?_;have e:∀k:Int,n.1≠k->(n.1==k)=false:=λk hk=>awJ.2 hk;rw[e 1 (λh=>hno (by simp[h])),e 2 (λh=>hno (by simp[h])),e 3 (λh=>hno (by simp[h])),e 4 (λh=>hno (by simp[h])),e 5 (λh=>hno (by simp[h])),e 6 (λh=>hno (by simp[h])),e 7 (λh=>hno (by simp[h])),e 8 (λh=>hno (by simp[h])),e 9 (λh=>hno (by simp[h]))]at h;cases h
theorem Ru[kz](Ud:rF prog G uU yV):rF prog G IA FX:=by
 refine Rw (ax [qQ.e,lZ.e,(uU,.pure yV),CO.e,sG.e] ⟨NQ,BO,⟨Ud,Ro⟩,agQ,KW,trivial⟩) ?_;intro q a f0 f1 f2 f3 f4 r hin hp;obtain⟨⟨hq,h0,h1,hr⟩,hm⟩:=hp;have ha:a.toNat<q.length:=by omega
 obtain⟨k1,k2⟩:=KZ hq ha;have fin:∀z:Bool,Sp.val q (f0,f1,f2,f3,f4,()) (aO r) a.toNat=z->(z,())=(Sp.val q (f0,f1,f2,f3,f4,()) (aO r) a.toNat,()):=λz h=>by rw[h]
 have leaf:∀k:Int,k≠5->k≠6->k≠7->(Sp.nodeAt q a.toNat).1=k->Sp.val q (f0,f1,f2,f3,f4,()) (aO r) a.toNat=iW (Sp.nodeAt q a.toNat) (f0,f1,f2,f3,f4,()) (aO r):=λk a b c h=>aeT (KY h a) (KY h b) (KY h c);have kid:∀k:Int,0<=k->k.toNat<a.toNat->(aZ q=true/\0<=k/\k<(q.length:Int)/\aU r)/\k.toNat<je:=λk h2 h3=>⟨⟨hq,h2,by omega,hr⟩,by omega⟩;refine⟨⟨h0,h1⟩,af (λh=>⟨trivial,fin _ ((leaf 2 (by decide) (by decide) (by decide) (awQ.1 h)).trans (asa (awQ.1 h)))⟩) λh2=>af (λh=>⟨trivial,fin _ ((leaf 3 (by decide) (by decide) (by decide) (awQ.1 h)).trans ((asb (awQ.1 h)).trans (eq3 _ _).symm))⟩) λh3=>af (λh=>⟨trivial,?_⟩) λh4=>af (λh=>?_) λh5=>af (λh=>?_) λh6=>af (λh=>?_) λh7=>af (λh=>⟨hr,trivial,fin _ ((leaf 8 (by decide) (by decide) (by decide) (awQ.1 h)).trans (asf (awQ.1 h)))⟩) λh8=>af (λh=>?_) λh9=>?_⟩
 .have e:=(leaf 4 (by decide) (by decide) (by decide) (awQ.1 h)).trans (ase (awQ.1 h));dsimp only at e ⊢;refine af (λg=>fin _ (e.trans ?_)) λg=>fin _ (e.trans ?_)
  .unfold Sp.nodeAt;rw[g];rfl
  .unfold Sp.nodeAt;rw[g];rfl
 .have hk:=k1 (.inl (awQ.1 h));exact⟨kid _ hk.1 hk.2,fin _ (an2 (awQ.1 h) hk.2)⟩
 .have ht:gY (Sp.nodeAt q a.toNat)=true:=uj.2 (.inl (awQ.1 h));have hk:=k1 (.inr ht);have hk2:=k2 ht;have e:=an3 (f:=(f0,f1,f2,f3,f4,())) (X:=aO r) (awQ.1 h) ⟨hk.2,hk2.2⟩;refine⟨kid _ hk.1 hk.2,af (λg=>⟨kid _ hk2.1 hk2.2,fin _ (e.trans ?_)⟩) λg=>fin _ (e.trans ?_)⟩
  .have g:Sp.val q (f0,f1,f2,f3,f4,()) (aO r) (Sp.nodeAt q a.toNat).2.1.toNat=true:=g;rw[g];rfl
  .have g:Sp.val q (f0,f1,f2,f3,f4,()) (aO r) (Sp.nodeAt q a.toNat).2.1.toNat=false:=g;rw[g];rfl
 .have ht:gY (Sp.nodeAt q a.toNat)=true:=uj.2 (.inr (awQ.1 h));have hk:=k1 (.inr ht);have hk2:=k2 ht;have e:=aqp (f:=(f0,f1,f2,f3,f4,())) (X:=aO r) (awQ.1 h) ⟨hk.2,hk2.2⟩;refine⟨kid _ hk.1 hk.2,af (λg=>fin _ (e.trans ?_)) λg=>⟨kid _ hk2.1 hk2.2,fin _ (e.trans ?_)⟩⟩
  .have g:Sp.val q (f0,f1,f2,f3,f4,()) (aO r) (Sp.nodeAt q a.toNat).2.1.toNat=true:=g;rw[g];rfl
  .have g:Sp.val q (f0,f1,f2,f3,f4,()) (aO r) (Sp.nodeAt q a.toNat).2.1.toNat=false:=g;rw[g];rfl
 .have e:=(leaf 9 (by decide) (by decide) (by decide) (awQ.1 h)).trans (asg (awQ.1 h));refine af (λg=>⟨hr,trivial,fin _ (e.trans ?_)⟩) λg=>fin _ (e.trans ?_)
  .have g:(!(f3==0))=true:=g;dsimp only;rw[g];rfl
  .have g:(!(f3==0))=false:=g;dsimp only;rw[g];rfl
 .have n2:=awJ.1 h2;have n3:=awJ.1 h3;have n4:=awJ.1 h4;have n8:=awJ.1 h8;have n9:=awJ.1 h9;exact fin _ ((aeT (awJ.1 h5) (awJ.1 h6) (awJ.1 h7)).trans (ash n2 n3 n4 n8 n9))
theorem OD:rF prog G xQ zO:=
 ap0 (λn=>@JA ⟨n⟩) (λn=>@Ih ⟨n⟩) (by rintro⟨q,at',⟨i,o,s,l,a,⟨⟩⟩,r,⟨⟩⟩ h;exact ay8 _ h.2) (by rintro _ ⟨q,at',⟨i,o,s,l,a,⟨⟩⟩,r,⟨⟩⟩;rfl) (by rintro⟨q,at',⟨i,o,s,l,a,⟨⟩⟩,r,⟨⟩⟩ h;exact⟨_,h,ayX _⟩) (by rintro _ ⟨q,at',⟨i,o,s,l,a,⟨⟩⟩,r,⟨⟩⟩;rfl) λn h=>@Ru ⟨n⟩ h
theorem Vt[kz](Xb:rF prog G yO CP):rF prog G KN Ij:=by
 refine Vu (ax [nD.e,l7.e,(yO,.pure CP),sH.e] ⟨Gg,BP,⟨Xb,Va⟩,KX,trivial⟩) ?_;intro q a f0 f1 f2 f3 f4 r hin hp;obtain⟨⟨hq,h0,h1,hr⟩,hm⟩:=hp;have ha:a.toNat<q.length:=by omega
 obtain⟨k1,k2⟩:=KZ hq ha;have fin:∀z:Bool,Sp.val q (f0,f1,f2,f3,f4,()) (aO r) a.toNat=z->(z,())=(Sp.val q (f0,f1,f2,f3,f4,()) (aO r) a.toNat,()):=λz h=>by rw[h]
 have leaf:∀k:Int,k≠5->k≠6->k≠7->(Sp.nodeAt q a.toNat).1=k->Sp.val q (f0,f1,f2,f3,f4,()) (aO r) a.toNat=iW (Sp.nodeAt q a.toNat) (f0,f1,f2,f3,f4,()) (aO r):=λk a b c h=>aeT (KY h a) (KY h b) (KY h c);have kid:∀k:Int,0<=k->k.toNat<a.toNat->(aZ q=true/\0<=k/\k<(q.length:Int)/\aU r)/\k.toNat<je:=λk h2 h3=>⟨⟨hq,h2,by omega,hr⟩,by omega⟩;refine⟨⟨h0,h1⟩,trivial,af (λh=>fin _ ((leaf 1 (by decide) (by decide) (by decide) (awQ.1 h)).trans (ash (KY (awQ.1 h) (by decide)) (KY (awQ.1 h) (by decide)) (KY (awQ.1 h) (by decide)) (KY (awQ.1 h) (by decide)) (KY (awQ.1 h) (by decide))))) λh1=>af (λh=>fin _ ((leaf 2 (by decide) (by decide) (by decide) (awQ.1 h)).trans (asa (awQ.1 h)))) λh2=>af (λh=>fin _ ((leaf 3 (by decide) (by decide) (by decide) (awQ.1 h)).trans ((asb (awQ.1 h)).trans (eq3 _ _).symm))) λh3=>af (λh=>?_) λh4=>af (λh=>?_) λh5=>af (λh=>?_) λh6=>af (λh=>?_) λh7=>af (λh=>⟨hr,trivial,fin _ ((leaf 8 (by decide) (by decide) (by decide) (awQ.1 h)).trans (asf (awQ.1 h)))⟩) λh8=>?_⟩
 .have e:=(leaf 4 (by decide) (by decide) (by decide) (awQ.1 h)).trans (ase (awQ.1 h));dsimp only at e ⊢;refine af (λg=>fin _ (e.trans ?_)) λg=>fin _ (e.trans ?_)
  .unfold Sp.nodeAt;rw[g];rfl
  .unfold Sp.nodeAt;rw[g];rfl
 .have hk:=k1 (.inl (awQ.1 h));exact⟨kid _ hk.1 hk.2,fin _ (an2 (awQ.1 h) hk.2)⟩
 .have ht:gY (Sp.nodeAt q a.toNat)=true:=uj.2 (.inl (awQ.1 h));have hk:=k1 (.inr ht);have hk2:=k2 ht;have e:=an3 (f:=(f0,f1,f2,f3,f4,())) (X:=aO r) (awQ.1 h) ⟨hk.2,hk2.2⟩;refine⟨kid _ hk.1 hk.2,af (λg=>⟨kid _ hk2.1 hk2.2,fin _ (e.trans ?_)⟩) λg=>fin _ (e.trans ?_)⟩
  .have g:Sp.val q (f0,f1,f2,f3,f4,()) (aO r) (Sp.nodeAt q a.toNat).2.1.toNat=true:=g;rw[g];rfl
  .have g:Sp.val q (f0,f1,f2,f3,f4,()) (aO r) (Sp.nodeAt q a.toNat).2.1.toNat=false:=g;rw[g];rfl
 .have ht:gY (Sp.nodeAt q a.toNat)=true:=uj.2 (.inr (awQ.1 h));have hk:=k1 (.inr ht);have hk2:=k2 ht;have e:=aqp (f:=(f0,f1,f2,f3,f4,())) (X:=aO r) (awQ.1 h) ⟨hk.2,hk2.2⟩;refine⟨kid _ hk.1 hk.2,af (λg=>fin _ (e.trans ?_)) λg=>⟨kid _ hk2.1 hk2.2,fin _ (e.trans ?_)⟩⟩
  .have g:Sp.val q (f0,f1,f2,f3,f4,()) (aO r) (Sp.nodeAt q a.toNat).2.1.toNat=true:=g;rw[g];rfl
  .have g:Sp.val q (f0,f1,f2,f3,f4,()) (aO r) (Sp.nodeAt q a.toNat).2.1.toNat=false:=g;rw[g];rfl
 .have n1:=awJ.1 h1;have n2:=awJ.1 h2;have n3:=awJ.1 h3;have n4:=awJ.1 h4;have n5:=awJ.1 h5;have n6:=awJ.1 h6;have n7:=awJ.1 h7;have n8:=awJ.1 h8;have h9:(Sp.nodeAt q a.toNat).1=9:=by
   rcases ao9 (QB hq ha).1 with h|h|h|h|h|h|h|h|h
   .exact(n1 h).elim
   .exact(n2 h).elim
   .exact(n3 h).elim
   .exact(n4 h).elim
   .exact(n5 h).elim
   .exact(n6 h).elim
   .exact(n7 h).elim
   .exact(n8 h).elim
   .exact h
  have e:=(leaf 9 (by decide) (by decide) (by decide) h9).trans (asg h9);refine af (λg=>⟨hr,trivial,fin _ (e.trans ?_)⟩) λg=>fin _ (e.trans ?_)
  .have g:(!(f3==0))=true:=g;dsimp only;rw[g];rfl
  .have g:(!(f3==0))=false:=g;dsimp only;rw[g];rfl
theorem Tc:rF prog G CX DX:=
 ap0 (λn=>@LM ⟨n⟩) (λn=>@J6 ⟨n⟩) (by rintro⟨q,at',⟨i,o,s,l,a,⟨⟩⟩,r,⟨⟩⟩ h;exact ay8 _ h.2) (by rintro _ ⟨q,at',⟨i,o,s,l,a,⟨⟩⟩,r,⟨⟩⟩;rfl) (by rintro⟨q,at',⟨i,o,s,l,a,⟨⟩⟩,r,⟨⟩⟩ h;exact⟨_,h,ayX _⟩) (by rintro _ ⟨q,at',⟨i,o,s,l,a,⟨⟩⟩,r,⟨⟩⟩;rfl) λn h=>@Vt ⟨n⟩ h
theorem agT:OK Gs.e:=by
 refine PA.ok mixed (ax [(xQ,.pure zO),kD.e] ⟨⟨OD,NM⟩,qL,trivial⟩) H0 (by kernel_rfl) (show∀q f0 f1 f2 f3 f4 qY,Gs.goal (agU q f0 f1 f2 f3 f4 qY) (q,(f0,f1,f2,f3,f4,()),qY,())from ?_);intro q f0 f1 f2 f3 f4 r hin hp;dsimp only[Gs]at hp ⊢;obtain⟨h1,h2⟩:=hp;have e:∀z,aZ q=z->iU q (f0,f1,f2,f3,f4,()) (aO r)=(z&&Sp.val q (f0,f1,f2,f3,f4,()) (aO r) (q.length-1)):=λz hz=>by unfold iU;rw[hz]
 refine⟨by omega,af (λh=>?_) λh=>?_⟩
 .have hl:=Sp.wZ h;rw[xA (by omega) (by omega)];refine⟨⟨h,by omega,by omega,h2⟩,?_⟩;rw[e _ h,awO];rfl
 .rw[e _ h];rfl
theorem agV:OK Gt.e:=by
 refine PA.ok mixed (ax [(CX,.pure DX),kC.e] ⟨⟨Tc,Qr⟩,qM,trivial⟩) H0 (by kernel_rfl) (show∀q f0 f1 f2 f3 f4 a,Gt.goal (agW q f0 f1 f2 f3 f4 a) (q,(f0,f1,f2,f3,f4,()),a,())from ?_);intro q f0 f1 f2 f3 f4 r hin hp;dsimp only[Gt]at hp ⊢;obtain⟨h1,h2⟩:=hp;have e:∀z,aZ q=z->iU q (f0,f1,f2,f3,f4,()) (aO r)=(z&&Sp.val q (f0,f1,f2,f3,f4,()) (aO r) (q.length-1)):=λz hz=>by unfold iU;rw[hz]
 refine⟨by omega,af (λh=>?_) λh=>?_⟩
 .have hl:=Sp.wZ h;rw[xA (by omega) (by omega)];refine⟨⟨h,by omega,by omega,h2⟩,?_⟩;rw[e _ h,awO];rfl
 .rw[e _ h];rfl
theorem YP:OK zQ.e:=by refine PA.ok mixed (ax [Gs.e] ⟨agT,trivial⟩) aaM (by kernel_rfl) (show∀s0 s1 s2 q qY,zQ.goal (YQ s0 s1 s2 q qY) ((s0,s1,s2,()),q,qY,())from ?_);intro s0 fs nx q r hin hp;dsimp only[zQ]at hp ⊢;obtain⟨h1,h2,h3⟩:=hp;have hl:fs.length<=1000:=h1.2.1;exact aeU (K:=λz=>z=(Sp.sel fs q (aO r),())) (λf=>iU q f (aO r)) (λf:aF=>(f.1,())) (0,0,false,0,[],()) fs _ (A:=λ_=>q.length<=1000/\aU r) (λ_ _=>⟨h2,h3⟩) (by omega) rfl
theorem L6:OK tN.e:=by refine PA.ok mixed (ax [] trivial) aaN (by kernel_rfl) (show∀s1 s2,tN.goal (YR s1 s2) (s1,s2,())from ?_);intro a b hin hp;dsimp only[tN]at hp ⊢;exact eqL (K:=λr=>r=(decide (a=b),())) (λx y:Int×Unit=>x.1 !=y.1) (λx y=>by simp[ayu]) _ a b _ hin.1.1 rfl
theorem IC:OK pF.e:=by
 refine PA.ok mixed (ax [tN.e] ⟨L6,trivial⟩) H0 (by kernel_rfl) (show∀x0 x1 y0 y1,pF.goal (Ue x0 x1 y0 y1) ((x0,x1,()),(y0,y1,()),())from ?_);intro a0 a1 b0 b1 hin hp;dsimp only[pF]at hp ⊢;refine af (λh0=>⟨trivial,?_⟩) λh0=>?_
 all_goals refine congrArg (·,()) (aw6.2 ?_)
 .simp[awQ.1 h0]
 .simp[show a0≠b0 by simpa using h0]
theorem o7:OK eP.e:=by refine PA.ok mixed (ax [pF.e] ⟨IC,trivial⟩) qc (by kernel_rfl) (show∀s1 s2,eP.goal (o8 s1 s2) (s1,s2,(()),())from ?_);intro a b hin hp;dsimp only[eP]at hp ⊢;exact atu (K:=λr=>r=(decide (a=b),())) (λx y=>!decide (x=y)) (λx y=>by simp) _ a b _ hin.1.1 rfl
theorem Xc:OK yE.e:=by refine PA.ok mixed (ax [pF.e,eP.e] ⟨IC,o7,trivial⟩) H0 (by kernel_rfl) (show∀a b,yE.goal (Xd a b) (a,b,())from ?_);intro a b hin hp;dsimp only[yE]at hp ⊢;exact⟨trivial,rfl⟩
end Go.Proofs.Tryz
namespace Go.Proofs.Tryz
open Go Go.Fw Go.IntWalk Sp
theorem Ba{fs:List aF}{a:List fD}{nx:Int}{d:List aV}(r:List dH)(nm:Sp.Bytes->Bool):∃out,(aB d&&aC (a,fs,nx,()))=true->gq fs d r nm out:=by
 by_cases h:(aB d&&aC (a,fs,nx,()))=true
 .rw[awG]at h;obtain⟨aH,hl⟩:=aeN h.1;obtain⟨out,ho⟩:=Xe r nm (lF.1 h.1).1 hl (xC h.2);exact⟨out,λ_=>ho⟩
 .exact⟨[],λh'=>(h h').elim⟩
abbrev Bj:aV:=([],[],())
theorem amq{a b:Int}(h:(a !=b)=false):a=b:=by simpa using h
theorem aeV{α β:Type}(g:α->β)(d:α)(l:List α){n:Nat}(h:n<l.length):(l.take n).map g++[g (l.getD n d)]=(l.take (n+1)).map g:=by rw[Sp.take_succ' l n d h,axq];rfl
theorem qf{d:List aV}(h:aB d=true):gm d=true/\d.length<=5:=⟨(lF.1 h).1,WV (lF.1 h).1⟩
theorem still_at{d:List aV}{aH:List (Int×Unit)}{nm:Sp.Bytes->Bool}{fs:List aF}{out:List dH}{k:Nat}
 (h:∀j,j<d.length->j<d.length->nm (Sp.nameOf d j)=true->Sp.lv aH j=k->Sp.sel fs (dW d j) (aO out)=iR out j):∀i,i<d.length->nm (Sp.nameOf d i)=true->Sp.lv aH i=k->Sp.sel fs (dW d i) (aO out)=iR out i:=λi hi=>h i hi hi
theorem amr:∀(l:List (Int×Unit)),0<l.length->∃m:Int,(∀x∈l,x.1<=m)/\(m,())∈l
 |[x],_=>⟨x.1,λy hy=>by rw[axy.1 hy];exact axm _,axy.2 rfl⟩
 |x::y::r,_=>by
  obtain⟨m,h1,h2⟩:=amr (y::r) (by simp);by_cases h:x.1<=m
  .exact⟨m,λz hz=>by rcases aw9.1 hz with rfl|hz;exact h;exact h1 z hz,awX _ h2⟩
  .exact⟨x.1,λz hz=>by rcases aw9.1 hz with rfl|hz;exact axm _;have:=h1 z hz;omega,awW⟩
theorem L8:OK tK.e:=by
 refine PA.ok mixed (ax [Gt.e] ⟨agV,trivial⟩) aaO (by kernel_rfl) (show∀s0 s1 s2 q a,tK.goal (YS s0 s1 s2 q a) ((s0,s1,s2,()),q,a,())from ?_);intro s0 fs nx q r hin hp;dsimp only[tK]at hp ⊢;obtain⟨h1,h2,h3⟩:=hp;have hl:fs.length<=1000:=h1.2.1;obtain⟨I,μ,g0,g1⟩:=aeU (K:=λz=>z=(Sp.sel fs q (aO r),())) (λf=>iU q f (aO r)) (λf:aF=>(f.1,())) (0,0,false,0,[],()) fs (q,r,(s0,fs,nx,()),()) (A:=λ_=>q.length<=1000/\aU r) (λ_ _=>⟨h2,h3⟩) (by omega) rfl;refine⟨I,μ,g0,λy hy=>?_⟩;have h:=g1 y hy;dsimp only at h ⊢;revert h;cases decide (y.1.2.1<(fs.length:Int))with
 |false=>exact id
 |true=>
  rintro⟨b,a,h⟩;refine⟨b,a,?_⟩;revert h;cases iU q (fs.getD (Int.toNat y.1.2.1) (0,0,false,0,[],())) (aO r)with
  |true=>exactλh=>⟨b,h.1,rfl,h.2.2⟩
  |false=>exactλh=>⟨rfl,h.2⟩
theorem MK:OK zk.e:=by refine PA.ok mixed (ax [] trivial) akQ (by kernel_rfl) (show∀list s,zk.goal (ai0 list s) (list,s,())from ?_);intro l s hin hp;dsimp only[zk]at hp ⊢;exact arz (K:=λr=>r=(dQ l s,())) (λx:List UInt8×Unit=>x.1==s) ([],()) l _ hin.1.1 rfl
theorem QC:OK zS.e:=by refine PA.ok mixed (ax [] trivial) agX (by kernel_rfl) (show∀d,zS.goal (aeW d) (d,())from ?_);intro d hin hp;dsimp only[zS]at hp ⊢;exact ams (K:=λr=>r=(iV d,())) (λx:aV=>(x.1,())) ([],[],()) d _ (by have hp:d.length<=1000:=hp;omega) rfl
theorem aeX:OK FC.e:=by refine PA.ok mixed (ax [] trivial) agY (by kernel_rfl) (show∀d,FC.goal (aeY d) (d,())from ?_);intro d hin hp;dsimp only[FC]at hp ⊢;exact ams (K:=λr=>r=(iV d,())) (λx:aV=>(x.1,())) ([],[],()) d _ (by have hp:d.length<=1000:=hp;omega) rfl
theorem Xf:OK yF.e:=by
 refine PA.ok mixed (ax [sF.e] ⟨FO,trivial⟩) YT (by kernel_rfl) (show∀a b,yF.goal (Xg a b) (a,b,())from ?_);intro a b hin hp;dsimp only[yF]at hp ⊢;have hlen:a.length<=maxLen:=hin.1.1;rw[maxLen_eq]at hlen;refine af (λh=>?_) λh=>?_
 .have h:(a.length:Int)≠b.length:=by simpa using h
  exact congrArg (·,()) (awT λe=>h (by rw[e])).symm
 .have h:(a.length:Int)=b.length:=by simpa using h
  refine jd a.length hlen (λn=>∀i,i<n->a.getD i oW=b.getD i oW) (λi hi=>by omega) (λI μ n hn hJ next=>?_) λI μ hJ=>(by dsimp only;exact bV (by omega) (by rw[awS (QD (by omega) hJ)]));dsimp only;have no:a.getD n oW≠b.getD n oW->(false,())=(decide (a=b),()):=λhne=>by rw[awT λe=>hne (by rw[e])]
  refine bU (by omega) ⟨⟨by omega,by omega⟩,⟨by omega,by omega⟩,af (λg=>no λe=>?_) λg=>⟨⟨by omega,by omega⟩,⟨by omega,by omega⟩,trivial,af (λg2=>no λe=>?_) λg2=>⟨rfl,next λi hi=>?_⟩⟩⟩
  .have g:¬(a.getD n oW).1=(b.getD n oW).1:=awJ.1 (dX g);exact g (by rw[e])
  .have g2:¬(a.getD n oW).2.1=(b.getD n oW).2.1:=gZ (dX g2);exact g2 (by rw[e])
  .rcases awZ i n with h'|h'
   .exact hJ i h'
   .have:i=n:=by omega
    subst this;have g:(a.getD i oW).1=(b.getD i oW).1:=awQ.1 (dw g);have g2:(a.getD i oW).2.1=(b.getD i oW).2.1:=gI (dw g2);exact ayA g (ayA g2 rfl)
theorem acJ:OK DY.e:=by
 refine XA.ok mixed (ax [] trivial) aeZ (λ⟨l,_⟩ hp=>by obtain⟨m,h⟩:=amr l hp;exact⟨((m,()),()),h⟩) (by kernel_rfl) (show∀JM,DY.goal (acK JM) (JM,())from ?_);intro l hin hp;dsimp only[DY]at hp ⊢;have hp:0<l.length:=hp;have hlen:l.length<=maxLen:=hin.1.1;rw[maxLen_eq]at hlen;refine⟨λ_=>True,af (λh=>by have:=gI h;omega) λh=>⟨rfl,trivial⟩,λ_ _=>⟨⟨by omega,by omega⟩,?_⟩⟩;refine⟨λy=>∃n:Nat,y.1.2.1=n/\1<=n/\n<=l.length/\(∀i,i<n->Sp.lv l i<=y.1.1)/\∃i,i<l.length/\Sp.lv l i=y.1.1,λy=>((l.length:Int)-y.1.2.1).toNat,⟨1,rfl,by omega,by omega,λi hi=>by rw[show i=0 by omega];exact axm _,0,hp,rfl⟩,?_⟩;rintro⟨⟨m,_,⟨⟩⟩,⟨⟩⟩ ⟨n,rfl,n1,n2,h1,h2⟩;dsimp only at h1 h2 ⊢;refine af (λhc=>?_) λhc=>⟨λx hx=>?_,?_⟩
 .have hc:=gI hc;have w:IntKind.i64.wrap ((n:Int)+1)=((n+1:Nat):Int):=fQ _ (by omega);rw[w];have e:(l.getD (Int.toNat (n:Int)) (0,())).1=Sp.lv l n:=rfl;rw[e];refine⟨⟨by omega,by omega⟩,rfl,⟨n+1,rfl,by omega,by omega,λi hi=>?_,?_⟩,by omega⟩
  .by_cases hi':i=n
   .subst hi';split<;>omega
   .have:=h1 i (by omega);split<;>omega
  .split
   .exact⟨n,by omega,rfl⟩
   .exact h2
 .have hc:=gZ hc;exact amn (p:=λz=>z<=m) (λi hi=>h1 i (by omega)) x hx
 .obtain⟨i,hi,e⟩:=h2;have:=aaP hi;rw[e]at this;exact this
theorem aaQ:OK BA.e:=by
 refine XA.ok mixed (ax [DY.e,Ey.e] ⟨acJ,Vr,trivial⟩) H0 (λ⟨d,_⟩ _=>⟨(((1000:Int),()),()),⟨axm _,λaH hs hl i hi=>by have:=(hl.2.1 i hi).2;have:=(qf hs).2;show Sp.lv aH i<=1000;omega⟩⟩) (by kernel_rfl) (show∀d,BA.goal (aaR d) (d,())from ?_);intro d hin hp;dsimp only[BA]at hp ⊢;refine⟨hp,?_⟩;rintro⟨⟨aH,ok,⟨⟩⟩,⟨⟩⟩ ⟨e1,e2⟩;have e1:ok=aB d:=e1;have e2:ok=true->kU d aH:=e2;refine af (λh=>?_) λh=>af (λh2=>?_) λh2=>⟨?_,?_⟩
 .have h:ok=false:=dX h;exact⟨by decide,λl hs=>by rw[← e1,h]at hs;cases hs⟩
 .have h2:(aH.length:Int)=0:=by simpa using h2
  have hl:=e2 (dw h);exact⟨by decide,λl hs hl' i hi=>by have:=hl.1;omega⟩
 .have h2:¬(aH.length:Int)=0:=by simpa using h2
  show 0<aH.length;omega
 .rintro⟨⟨m,⟨⟩⟩,⟨⟩⟩ ⟨g1,g2⟩;have hl:=e2 (dw h);have hlen:=(qf (e1▸dw h)).2;have g2:(m,())∈aH:=g2;refine⟨?_,λl hs hl' i hi=>?_⟩
  .obtain⟨i,hi,e⟩:=axl g2;have hi':i<d.length:=by rw[← hl.1];exact hi
   have:=(hl.2.1 i hi').2;have e3:Sp.lv aH i=m:=by unfold Sp.lv;rw[awI,awM hi,e];rfl
   show m<=1000;omega
  .rw[aaS hl' hl];exact g1 _ (aaP (by rw[hl.1];exact hi))
theorem NS:OK vN.e:=by
 refine XA.ok mixed (ax [vF.e] ⟨He,trivial⟩) acL (λ⟨d,_⟩ _=>⟨(((1000:Int),()),()),⟨axm _,λaH hs hl i hi=>by have:=(hl.2.1 i hi).2;have:=(qf hs).2;show Sp.lv aH i<=1000;omega⟩⟩) (by kernel_rfl) (show∀d,vN.goal (aaT d) (d,())from ?_);intro d hin hp;dsimp only[vN]at hp ⊢;refine⟨hp,?_⟩;rintro⟨⟨aH,ok,⟨⟩⟩,⟨⟩⟩ ⟨e1,e2,e3⟩;have e1:ok=aB d:=e1;have e2:ok=true->kU d aH:=e2;have e3:ok=false->aH=[]:=e3;have hlen:aH.length<=5/\∀i,i<aH.length->Sp.lv aH i<=1000:=by
  cases hk:ok with
  |false=>rw[e3 hk];exact⟨by decide,λi hi=>by simp at hi⟩
  |true=>have hl:=e2 hk;have h5:=(qf (e1▸hk)).2;exact⟨by rw[hl.1];exact h5,λi hi=>by have:=(hl.2.1 i (by rw[← hl.1];exact hi)).2;omega⟩
 refine⟨λy=>∃n:Nat,y.1.2.1=n/\n<=aH.length/\y.1.1<=1000/\∀i,i<n->Sp.lv aH i<=y.1.1,λy=>((aH.length:Int)-y.1.2.1).toNat,⟨0,rfl,by omega,by decide,λi hi=>by omega⟩,?_⟩;rintro⟨⟨m,_,⟨⟩⟩,⟨⟩⟩ ⟨n,rfl,n2,hm,h1⟩;dsimp only at hm h1 ⊢;have e:(aH.getD (Int.toNat (n:Int)) (0,())).1=Sp.lv aH n:=rfl;rw[e];refine af (λhc=>?_) λhc=>?_
 .have hc:=gI hc;have w:IntKind.i64.wrap ((n:Int)+1)=((n+1:Nat):Int):=fQ _ (by omega);rw[w];have auq:=hlen.2 n (by omega);refine⟨⟨by omega,by omega⟩,af (λg=>⟨⟨by omega,by omega⟩,rfl,⟨n+1,rfl,by omega,auq,λi hi=>?_⟩,by dsimp only;omega⟩) λg=>⟨rfl,⟨n+1,rfl,by omega,hm,λi hi=>?_⟩,by dsimp only;omega⟩⟩
  .have g:=gI g;by_cases hi':i=n
   .subst hi';exact axm _
   .have:=h1 i (by omega);dsimp only;omega
  .have g:=gZ g;by_cases hi':i=n
   .subst hi';dsimp only;omega
   .exact h1 i (by omega)
 .have hc:=gZ hc;refine⟨hm,λl hs hl' i hi=>?_⟩;have hl:=e2 (e1.trans hs);rw[aaS hl' hl];exact h1 i (by rw[← hl.1]at hi;omega)
theorem OE:OK xO.e:=by
 refine XA.ok mixed (ax [tN.e,zQ.e,BA.e,lZ.e,jw.e,oh.e,Ey.e] ⟨L6,YP,aaQ,BO,qj,Ei,Vr,trivial⟩) ae0 (λ⟨(a,fs,nx,_),d,r,names,_⟩ _=>by obtain⟨out,h⟩:=Ba (fs:=fs) (a:=a) (nx:=nx) (d:=d) r (dQ names);exact⟨(((out,0,(aB d&&aC (a,fs,nx,())),()),())),⟨rfl,h⟩⟩) (by kernel_rfl) (show∀s0 s1 s2 d qY names,xO.goal (acM s0 s1 s2 d qY names) ((s0,s1,s2,()),d,qY,names,())from ?_);intro a fs nx d r names hin hp;dsimp only[xO]at hp ⊢;obtain⟨hs,hd,hr⟩:bn (a,fs,nx,())/\aI d/\aU r:=hp;refine⟨hd,?_⟩;rintro⟨⟨aH,ok0,⟨⟩⟩,⟨⟩⟩ ⟨e1,e2⟩;have e1:ok0=aB d:=e1;have e2:ok0=true->kU d aH:=e2;refine⟨λ_=>ok0=true/\aC (a,fs,nx,())=true,af (λh=>?_) λh=>⟨trivial,af (λh2=>?_) λh2=>⟨rfl,dw h,dw h2⟩⟩,?_⟩
 .have h:ok0=false:=dX h;have hz:(aB d&&aC (a,fs,nx,()))=false:=by rw[← e1,h];rfl
  exact⟨hz.symm,λh=>by cases h⟩
 .have h2:aC (a,fs,nx,())=false:=dX h2;have hz:(aB d&&aC (a,fs,nx,()))=false:=by rw[h2,axo]
  exact⟨hz.symm,λh=>by cases h⟩
 rintro y3 ⟨hk,hst⟩;have Gh:aB d=true:=e1▸hk;have hz:(aB d&&aC (a,fs,nx,()))=true:=by rw[Gh,hst];rfl
 obtain⟨hok,hlen⟩:=qf Gh;have hl:kU d aH:=e2 hk;have hf:=xC hst;have hf:Sp.distinct fs:=hf;have hfs:fs.length<=1000:=hs.2.1;refine bZ (λi(x:List dH)=>(((),i,()),x,())) (λy=>y.1.2.1) (λ_ _=>rfl) d.length (by omega) (λn l=>l=(d.take n).map (qU r (dQ names))) rfl (λI μ n l hn hJ next=>?_) λI μ l hJ=>?_
 .subst hJ;have hl:((d.take n).map (qU r (dQ names))).length<=n:=by rw[awV,awK];omega
  have step:=aeV (qU r (dQ names)) Bj d hn;dsimp only;refine bU (by omega) ⟨⟨by omega,by omega⟩,trivial,af (λh=>⟨hr,by rw[bM];simp only[awL,awP];omega,rfl,next _ ?_⟩) λh=>⟨by rw[bM];simp only[awL,awP];omega,rfl,next _ ?_⟩⟩
  .rw[← step];have h:dQ names (d.getD n Bj).1=false:=dX h;unfold qU;rw[h];rfl
  .rw[← step];have h:dQ names (d.getD n Bj).1=true:=dw h;unfold qU;rw[h];rfl
 subst hJ;rw[aw0];dsimp only;refine bV (by omega) ⟨λy=>∃k:Nat,y.1.2.1=k/\oq fs d r (dQ names) aH k y.2.1,λy=>(1002-y.1.2.1).toNat,⟨0,rfl,Np hok hl⟩,?_⟩;rintro⟨⟨ps,_,⟨⟩⟩,out,⟨⟩⟩ ⟨k,rfl,A⟩;dsimp only at A ⊢;refine⟨hd,?_⟩;rintro⟨⟨m,⟨⟩⟩,⟨⟩⟩ ⟨m1,m2⟩;have m1:m<=1000:=m1;have m2:∀i,i<d.length->Sp.lv aH i<=m:=m2 aH Gh hl;refine af (λhc=>?_) λhc=>⟨hz.symm,λ_=>Sp.at_end hok hl A λi hi=>by have:=m2 i hi;have hc:¬(k:Int)<=m:=gZ hc;omega⟩;have hc:(k:Int)<=m:=gI hc;refine⟨λy=>oq fs d r (dQ names) aH k y.2.1/\(y.1.2.1=false->∀i,i<d.length->dQ names (Sp.nameOf d i)=true->Sp.lv aH i=k->Sp.sel fs (dW d i) (aO y.2.1)=iR y.2.1 i),λy=>Sp.room fs.length y.2.1*2+(if y.1.2.1=true then 1 else 0),⟨A,λh=>by cases h⟩,?_⟩;rintro⟨⟨ps2,ch,⟨⟩⟩,aaU,⟨⟩⟩ ⟨A2,st2⟩;dsimp only at A2 st2 ⊢;have wk:IntKind.i64.wrap ((k:Int)+1)=((k+1:Nat):Int):=fQ _ (by omega);refine af (λhch=>?_) λhch=>⟨rfl,⟨k+1,wk,Sp.at_next hok A2 (st2 hch)⟩,by rw[wk];dsimp only;omega⟩;subst hch;refine bZ (λi(x:Bool×List dH)=>((x.1,i,()),x.2,())) (λy=>y.1.2.1) (λ_ _=>rfl) d.length (by omega) (λi x=>ML fs d r (dQ names) aH k aaU i x.1 x.2) (s0:=(false,aaU)) ⟨A2,λh=>(by cases h),λ_=>⟨rfl,λj hj=>by omega⟩⟩ (λI μ i x hi hJ next=>?_) λI μ x hJ=>?_
 .obtain⟨c,H7⟩:=x;have A3:=hJ.1;have ol:H7.length=d.length:=A3.order.1;have hsm:=Uf A3 (by omega) hfs hr;dsimp only;rw[awO];refine bU (by omega) ⟨⟨by omega,by omega⟩,⟨by omega,by rw[hl.1];omega⟩,af (λh=>⟨rfl,next (c,H7) (DL hJ λ_ h'=>?_)⟩) λh=>⟨trivial,af (λh2=>⟨rfl,next (c,H7) (DL hJ λh'=>?_)⟩) λh2=>⟨⟨hs,o6 hd hi,hsm⟩,⟨by omega,by omega⟩,by omega,trivial,af (λh3=>⟨⟨by omega,by omega⟩,by omega,rfl,next (true,_) (ae1 hok hl hf hJ hi (dw h2) ?_ ?_)⟩) λh3=>⟨rfl,next (c,H7) (DL hJ λ_ _=>?_)⟩⟩⟩⟩
  .exact(ayI.1 h h').elim
  .have h2:dQ names (Sp.nameOf d i)=false:=dX h2;rw[h2]at h';cases h'
  .exact amq h
  .exact gZ (dX h3)
  .exact gI (dw h3)
 .obtain⟨c,H7⟩:=x;dsimp only;obtain⟨A3,c1,c2⟩:=hJ;refine bV (by omega) ⟨rfl,⟨A3,λhc=>still_at (c2 hc).2⟩,?_⟩;cases c with
  |true=>have:=c1 rfl;dsimp only at this ⊢;simp only[if_true];omega
  |false=>have:=(c2 rfl).1;dsimp only at this ⊢;rw[this];simp
theorem aaV:OK BD.e:=by
 refine XA.ok mixed (ax [sF.e,tK.e,vN.e,zk.e,l7.e,jB.e,vF.e] ⟨FO,L8,NS,MK,BP,ni,He,trivial⟩) acN (λ⟨(a,fs,nx,_),d,r,names,_⟩ _=>by obtain⟨out,h⟩:=Ba (fs:=fs) (a:=a) (nx:=nx) (d:=d) r (dQ names);exact⟨(((out,(aB d&&aC (a,fs,nx,())),()),())),⟨rfl,h⟩⟩) (by kernel_rfl) (show∀s0 s1 s2 d a names,BD.goal (aaW s0 s1 s2 d a names) ((s0,s1,s2,()),d,a,names,())from ?_);intro a fs nx d r names hin hp;dsimp only[BD]at hp ⊢;obtain⟨hs,hd,hr⟩:bn (a,fs,nx,())/\aI d/\aU r:=hp;refine⟨hd,?_⟩;rintro⟨⟨aH,ok0,⟨⟩⟩,⟨⟩⟩ ⟨e1,e2,_⟩;have e1:ok0=aB d:=e1;have e2:ok0=true->kU d aH:=e2;refine⟨λ_=>ok0=true/\aC (a,fs,nx,())=true,af (λh=>?_) λh=>⟨trivial,af (λh2=>?_) λh2=>⟨rfl,dw h,dw h2⟩⟩,?_⟩
 .have h:ok0=false:=dX h;have hz:(aB d&&aC (a,fs,nx,()))=false:=by rw[← e1,h];rfl
  exact⟨hz.symm,λh=>by cases h⟩
 .have h2:aC (a,fs,nx,())=false:=dX h2;have hz:(aB d&&aC (a,fs,nx,()))=false:=by rw[h2,axo]
  exact⟨hz.symm,λh=>by cases h⟩
 rintro y3 ⟨hk,hst⟩;have Gh:aB d=true:=e1▸hk;have hz:(aB d&&aC (a,fs,nx,()))=true:=by rw[Gh,hst];rfl
 obtain⟨hok,hlen⟩:=qf Gh;have hl:kU d aH:=e2 hk;have hf:=xC hst;have hf:Sp.distinct fs:=hf;have hfs:fs.length<=1000:=hs.2.1;refine bZ (λi(x:List dH)=>(((),i,()),x,())) (λy=>y.1.2.1) (λ_ _=>rfl) d.length (by omega) (λn l=>l=(d.take n).map (qU r (dQ names))) rfl (λI μ n l hn hJ next=>?_) λI μ l hJ=>?_
 .subst hJ;have hl:((d.take n).map (qU r (dQ names))).length<=n:=by rw[awV,awK];omega
  have step:=aeV (qU r (dQ names)) Bj d hn;dsimp only;refine bU (by omega) ⟨⟨by omega,by omega⟩,⟨by omega,by omega⟩,hr,trivial,af (λh=>⟨by rw[bM];simp only[awL,awP];omega,rfl,next _ ?_⟩) λh=>⟨by rw[bM];simp only[awL,awP];omega,rfl,next _ ?_⟩⟩
  .rw[← step];have h:dQ names (d.getD n Bj).1=true:=h;unfold qU;rw[h];rfl
  .rw[← step];have h:dQ names (d.getD n Bj).1=false:=h;unfold qU;rw[h];rfl
 subst hJ;rw[aw0];dsimp only;refine bV (by omega) ⟨λy=>∃k:Nat,y.1.1=k/\oq fs d r (dQ names) aH k y.2.1,λy=>(1002-y.1.1).toNat,⟨0,rfl,Np hok hl⟩,?_⟩;rintro⟨⟨_,⟨⟩⟩,out,⟨⟩⟩ ⟨k,rfl,A⟩;dsimp only at A ⊢;refine⟨hd,?_⟩;rintro⟨⟨m,⟨⟩⟩,⟨⟩⟩ ⟨m1,m2⟩;have m1:m<=1000:=m1;have m2:∀i,i<d.length->Sp.lv aH i<=m:=m2 aH Gh hl;refine af (λhc=>?_) λhc=>⟨hz.symm,λ_=>Sp.at_end hok hl A λi hi=>by have:=m2 i hi;have hc:¬(k:Int)<=m:=gZ hc;omega⟩;have hc:(k:Int)<=m:=gI hc;refine⟨λy=>oq fs d r (dQ names) aH k y.2.1/\(y.1.1=false->∀i,i<d.length->dQ names (Sp.nameOf d i)=true->Sp.lv aH i=k->Sp.sel fs (dW d i) (aO y.2.1)=iR y.2.1 i),λy=>Sp.room fs.length y.2.1*2+(if y.1.1=true then 1 else 0),⟨A,λh=>by cases h⟩,?_⟩;rintro⟨⟨ch,⟨⟩⟩,aaU,⟨⟩⟩ ⟨A2,st2⟩;dsimp only at A2 st2 ⊢;have wk:IntKind.i64.wrap ((k:Int)+1)=((k+1:Nat):Int):=fQ _ (by omega);refine af (λhch=>?_) λhch=>⟨rfl,⟨k+1,wk,Sp.at_next hok A2 (st2 hch)⟩,by rw[wk];dsimp only;omega⟩;subst hch;refine bZ (λi(x:Bool×List dH)=>((x.1,i,()),x.2,())) (λy=>y.1.2.1) (λ_ _=>rfl) d.length (by omega) (λi x=>ML fs d r (dQ names) aH k aaU i x.1 x.2) (s0:=(false,aaU)) ⟨A2,λh=>(by cases h),λ_=>⟨rfl,λj hj=>by omega⟩⟩ (λI μ i x hi hJ next=>?_) λI μ x hJ=>?_
 .obtain⟨c,H7⟩:=x;have A3:=hJ.1;have ol:H7.length=d.length:=A3.order.1;have hsm:=Uf A3 (by omega) hfs hr;dsimp only;rw[awO];refine bU (by omega) ⟨⟨by omega,by rw[hl.1];omega⟩,af (λh=>⟨rfl,next (c,H7) (DL hJ λ_ h'=>?_)⟩) λh=>⟨⟨by omega,by omega⟩,trivial,af (λh2=>⟨rfl,next (c,H7) (DL hJ λh'=>?_)⟩) λh2=>⟨⟨by omega,by omega⟩,⟨hs,o6 hd hi,hsm⟩,⟨by omega,by omega⟩,by omega,trivial,af (λh3=>⟨⟨by omega,by omega⟩,by omega,rfl,next (true,_) (ae1 hok hl hf hJ hi (dw h2) ?_ ?_)⟩) λh3=>⟨rfl,next (c,H7) (DL hJ λ_ _=>?_)⟩⟩⟩⟩
  .exact(ayI.1 h h').elim
  .have h2:dQ names (Sp.nameOf d i)=false:=dX h2;rw[h2]at h';cases h'
  .exact amq h
  .exact gZ (dX h3)
  .exact gI (dw h3)
 .obtain⟨c,H7⟩:=x;dsimp only;obtain⟨A3,c1,c2⟩:=hJ;refine bV (by omega) ⟨rfl,⟨A3,λhc=>still_at (c2 hc).2⟩,?_⟩;cases c with
  |true=>have:=c1 rfl;dsimp only at this ⊢;simp only[if_true];omega
  |false=>have:=(c2 rfl).1;dsimp only at this ⊢;rw[this];simp
theorem ai1:OK I5.e:=by
 refine XA.ok mixed (ax [sF.e,tK.e,vN.e,jB.e,vF.e] ⟨FO,L8,NS,ni,He,trivial⟩) akR (λ⟨(a,fs,nx,_),d,_⟩ _=>by obtain⟨out,h⟩:=Ba (fs:=fs) (a:=a) (nx:=nx) (d:=d) [] (λ_=>true);exact⟨(((out,0,(aB d&&aC (a,fs,nx,())),()),())),⟨rfl,h⟩⟩) (by kernel_rfl) (show∀s0 s1 s2 d,I5.goal (ai2 s0 s1 s2 d) ((s0,s1,s2,()),d,())from ?_);intro a fs nx d hin hp;dsimp only[I5]at hp ⊢;obtain⟨hs,hd⟩:bn (a,fs,nx,())/\aI d:=hp;have hr:aU []:=⟨by decide,λx hx=>by cases hx⟩;refine⟨hd,?_⟩;rintro⟨⟨aH,ok0,⟨⟩⟩,⟨⟩⟩ ⟨e1,e2,_⟩;have e1:ok0=aB d:=e1;have e2:ok0=true->kU d aH:=e2;refine⟨λ_=>ok0=true/\aC (a,fs,nx,())=true,af (λh=>?_) λh=>⟨trivial,af (λh2=>?_) λh2=>⟨rfl,dw h,dw h2⟩⟩,?_⟩
 .have h:ok0=false:=dX h;have hz:(aB d&&aC (a,fs,nx,()))=false:=by rw[← e1,h];rfl
  exact⟨hz.symm,λh=>by cases h⟩
 .have h2:aC (a,fs,nx,())=false:=dX h2;have hz:(aB d&&aC (a,fs,nx,()))=false:=by rw[h2,axo]
  exact⟨hz.symm,λh=>by cases h⟩
 rintro y3 ⟨hk,hst⟩;have Gh:aB d=true:=e1▸hk;have hz:(aB d&&aC (a,fs,nx,()))=true:=by rw[Gh,hst];rfl
 obtain⟨hok,hlen⟩:=qf Gh;have hl:kU d aH:=e2 hk;have hf:=xC hst;have hf:Sp.distinct fs:=hf;have hfs:fs.length<=1000:=hs.2.1;refine bZ (λi(x:List dH)=>(((),i,()),x,())) (λy=>y.1.2.1) (λ_ _=>rfl) d.length (by omega) (λn l=>l=(d.take n).map (qU [] (λ_=>true))) rfl (λI μ n l hn hJ next=>?_) λI μ l hJ=>?_
 .subst hJ;have hl:((d.take n).map (qU [] (λ_=>true))).length<=n:=by rw[awV,awK];omega
  have step:=aeV (qU [] (λ_=>true)) Bj d hn;dsimp only;refine bU (by omega) ⟨⟨by omega,by omega⟩,by rw[bM];simp only[awL,awP];omega,rfl,next _ ?_⟩;rw[← step];rfl
 subst hJ;rw[aw0];dsimp only;refine bV (by omega) ⟨λy=>∃k:Nat,y.1.2.1=k/\oq fs d [] (λ_=>true) aH k y.2.1,λy=>(1002-y.1.2.1).toNat,⟨0,rfl,Np hok hl⟩,?_⟩;rintro⟨⟨ps,_,⟨⟩⟩,out,⟨⟩⟩ ⟨k,rfl,A⟩;dsimp only at A ⊢;refine⟨hd,?_⟩;rintro⟨⟨m,⟨⟩⟩,⟨⟩⟩ ⟨m1,m2⟩;have m1:m<=1000:=m1;have m2:∀i,i<d.length->Sp.lv aH i<=m:=m2 aH Gh hl;refine af (λhc=>?_) λhc=>⟨hz.symm,λ_=>Sp.at_end hok hl A λi hi=>by have:=m2 i hi;have hc:¬(k:Int)<=m:=gZ hc;omega⟩;have hc:(k:Int)<=m:=gI hc;refine⟨λy=>oq fs d [] (λ_=>true) aH k y.2.1/\(y.1.2.1=false->∀i,i<d.length->true=true->Sp.lv aH i=k->Sp.sel fs (dW d i) (aO y.2.1)=iR y.2.1 i),λy=>Sp.room fs.length y.2.1*2+(if y.1.2.1=true then 1 else 0),⟨A,λh=>by cases h⟩,?_⟩;rintro⟨⟨ps2,ch,⟨⟩⟩,aaU,⟨⟩⟩ ⟨A2,st2⟩;dsimp only at A2 st2 ⊢;have wk:IntKind.i64.wrap ((k:Int)+1)=((k+1:Nat):Int):=fQ _ (by omega);refine af (λhch=>?_) λhch=>⟨rfl,⟨k+1,wk,Sp.at_next hok A2 (st2 hch)⟩,by rw[wk];dsimp only;omega⟩;subst hch;refine bZ (λi(x:Bool×List dH)=>((x.1,i,()),x.2,())) (λy=>y.1.2.1) (λ_ _=>rfl) d.length (by omega) (λi x=>ML fs d [] (λ_=>true) aH k aaU i x.1 x.2) (s0:=(false,aaU)) ⟨A2,λh=>(by cases h),λ_=>⟨rfl,λj hj=>by omega⟩⟩ (λI μ i x hi hJ next=>?_) λI μ x hJ=>?_
 .obtain⟨c,H7⟩:=x;have A3:=hJ.1;have ol:H7.length=d.length:=A3.order.1;have hsm:=Uf A3 (by omega) hfs hr;dsimp only;rw[awO];refine bU (by omega) ⟨⟨by omega,by rw[hl.1];omega⟩,af (λh=>⟨rfl,next (c,H7) (DL hJ λ_ h'=>?_)⟩) λh=>⟨⟨by omega,by omega⟩,⟨hs,o6 hd hi,hsm⟩,⟨by omega,by omega⟩,by omega,trivial,af (λh3=>⟨⟨by omega,by omega⟩,by omega,rfl,next (true,_) (ae1 hok hl hf hJ hi rfl ?_ ?_)⟩) λh3=>⟨rfl,next (c,H7) (DL hJ λ_ _=>?_)⟩⟩⟩
  .exact(ayI.1 h h').elim
  .exact amq h
  .exact gZ (dX h3)
  .exact gI (dw h3)
 .obtain⟨c,H7⟩:=x;dsimp only;obtain⟨A3,c1,c2⟩:=hJ;refine bV (by omega) ⟨rfl,⟨A3,λhc=>still_at (nm:=λ_=>true) (c2 hc).2⟩,?_⟩;cases c with
  |true=>have:=c1 rfl;dsimp only at this ⊢;simp only[if_true];omega
  |false=>have:=(c2 rfl).1;dsimp only at this ⊢;rw[this];simp
end Go.Proofs.Tryz
namespace Go.Proofs.Tryz
open Go Go.Fw Go.IntWalk Sp
theorem QE:OK zU.e:=by refine PA.ok mixed (ax [] trivial) H0 (by kernel_rfl) (show∀f0 f1 f2 f3 f4 p10,zU.goal (ae2 f0 f1 f2 f3 f4 p10) ((f0,f1,f2,f3,f4,()),(p10,()),())from ?_);intro f0 f1 f2 f3 f4 id hin hp;dsimp only[zU]at hp ⊢;exact rfl
theorem Bc:OK iO.e:=by
 refine PA.ok mixed (ax [zU.e] ⟨QE,trivial⟩) Bl (by kernel_rfl) (show∀s jE,iO.goal (Bd s jE) (s,((jE,()),()),())from ?_);intro s1 id hin hp;dsimp only[iO]at hp ⊢;have hlen:s1.length<=maxLen:=hin.1.1;rw[maxLen_eq]at hlen;refine jd s1.length hlen (λn=>∀i,i<n->(Sp.fileAt s1 i).1≠id) (λi hi=>by omega) (λI μ n hn hJ next=>?_) λI μ hJ=>?_
 .dsimp only;refine bU (by omega) ⟨⟨by omega,by omega⟩,trivial,af (λh=>?_) λh=>⟨rfl,next λi hi=>?_⟩⟩
  .have h:(Sp.fileAt s1 n).1=id:=gI h;exact congrArg (·,()) (Sp.MJ hn hJ h).symm
  .rcases awZ i n with h'|h'
   .exact hJ i h'
   .have:i=n:=by omega
    subst this;have h:¬(Sp.fileAt s1 i).1=id:=gZ h;exact h
 .dsimp only;exact bV (by omega) (congrArg (·,()) (WO hJ).symm)
theorem MN:OK zi.e:=by refine PA.ok mixed (ax [iO.e,zU.e] ⟨Bc,QE,trivial⟩) H0 (by kernel_rfl) (show∀s0 s1 s2 id,zi.goal (ai3 s0 s1 s2 id) ((s0,s1,s2,()),id,())from ?_);intro s0 s1 s2 id hin hp;dsimp only[zi]at hp ⊢;exact⟨trivial,rfl⟩
theorem QF:OK zV.e:=by
 refine PA.ok mixed (ax [nM.e,zi.e] ⟨yc,MN,trivial⟩) H0 (by kernel_rfl) (show∀s0 s1 s2 id,zV.goal (ae3 s0 s1 s2 id) ((s0,s1,s2,()),id,())from ?_);intro s0 s1 s2 id hin hp;dsimp only[zV]at hp ⊢;obtain⟨h0,h1,h2⟩:s0.length<=1000/\s1.length<=1000/\∀f∈s1,bY f:=hp;refine⟨trivial,?_⟩;rcases lG s1 id with⟨h,_⟩|⟨n,hn,h,_,_⟩
 .have e:au (s0,s1,s2,()) id=(Vw,false):=by show(bif decide (Sp.place s1 id<0)then _ else _)=_;rw[h];rfl
  refine bV (by omega) ?_;show _=((au (s0,s1,s2,()) id).1,(au (s0,s1,s2,()) id).2,());rw[e];rfl
 .have e:au (s0,s1,s2,()) id=(Sp.fileAt s1 n,true):=by show(bif decide (Sp.place s1 id<0)then _ else(Sp.fileAt s1 (Sp.place s1 id).toNat,true))=_;rw[h,awT (by omega)];rfl
  refine bU (by omega) ⟨⟨by omega,by omega⟩,?_,?_⟩
  .rw[h,awO];exact h2 _ (getD_mem (d:=((0:Int),(0:Int),false,(0:Int),[],())) hn)
  .show _=((au (s0,s1,s2,()) id).1,(au (s0,s1,s2,()) id).2,());rw[e,h];rfl
theorem Em:OK qC.e:=by
 refine PA.ok mixed (ax [mW.e,qw.e] ⟨ve,Eg,trivial⟩) H0 (by kernel_rfl) (show∀s0 s1 s2 id,qC.goal (ae4 s0 s1 s2 id) ((s0,s1,s2,()),id,())from ?_);intro s0 s1 s2 id hin hp;dsimp only[qC]at hp ⊢;obtain⟨h0,h1,h2⟩:s0.length<=1000/\s1.length<=1000/\∀f∈s1,bY f:=hp;refine⟨trivial,?_⟩;rcases lG s1 id with⟨h,_⟩|⟨n,hn,h,_,_⟩
 .have e:au (s0,s1,s2,()) id=(Vw,false):=by show(bif decide (Sp.place s1 id<0)then _ else _)=_;rw[h];rfl
  refine bU (by omega) ?_;show _=((au (s0,s1,s2,()) id).1,(au (s0,s1,s2,()) id).2,());rw[e];rfl
 .have e:au (s0,s1,s2,()) id=(Sp.fileAt s1 n,true):=by show(bif decide (Sp.place s1 id<0)then _ else(Sp.fileAt s1 (Sp.place s1 id).toNat,true))=_;rw[h,awT (by omega)];rfl
  refine bV (by omega) ⟨⟨by omega,by omega⟩,?_,?_⟩
  .rw[h,awO];exact h2 _ (getD_mem (d:=((0:Int),(0:Int),false,(0:Int),[],())) hn)
  .show _=((au (s0,s1,s2,()) id).1,(au (s0,s1,s2,()) id).2,());rw[e,h];rfl
theorem YU:OK zW.e:=by
 refine XA.ok mixed (ax [nM.e,tC.e,oh.e,zi.e,sD.e] ⟨yc,LY,Ei,MN,H6,trivial⟩) aaX (λ⟨s,f,_⟩ _=>⟨((((aT s f).1.1,(aT s f).1.2.1,(aT s f).1.2.2.1,()),(aT s f).2,()),()),⟨rfl,rfl,rfl,rfl⟩⟩) (by kernel_rfl) (show∀s0 s1 s2 f0 f1 f2 f3 f4,zW.goal (YV s0 s1 s2 f0 f1 f2 f3 f4) ((s0,s1,s2,()),(f0,f1,f2,f3,f4,()),())from ?_);intro s0 s1 s2 f0 f1 f2 f3 f4 hin hp;dsimp only[zW]at hp ⊢;refine⟨hp.1,?_⟩;rintro⟨⟨⟨a,l,nx,⟨⟩⟩,⟨⟩⟩,⟨⟩⟩ e;obtain⟨rfl,rfl,rfl⟩:a=s0/\l=s1/\nx=s2:=by simpa using e
 have hs:l.length<=1000:=hp.1.2.1;have no:¬(aC (a,l,nx,())=true/\0<=Sp.place l f0/\bT a (f0,f1,f2,f3,f4,())=true)->aT (a,l,nx,()) (f0,f1,f2,f3,f4,())=((a,l,nx,()),false):=λh=>by
  rcases iI (a,l,nx,()) (f0,f1,f2,f3,f4,())with⟨e,_⟩|⟨n,hn,h1,h2,h3,_⟩
  .exact e
  .exact(h ⟨h2,by have h1:Sp.place l f0=n:=h1;omega,h3⟩).elim
 refine⟨trivial,trivial,af (λh1=>?_) λh1=>af (λh2=>?_) λh2=>⟨trivial,af (λh3=>?_) λh3=>?_⟩⟩
 .have:=no λh=>by have h1:=dX h1;have:=h.1;rw[show aC (a,l,nx,())=false from h1]at this;cases this
  dsimp only;rw[this];exact⟨rfl,rfl,rfl,rfl⟩
 .have:=no λh=>by have h2:Sp.place l f0<0:=gI h2;omega
  dsimp only;rw[this];exact⟨rfl,rfl,rfl,rfl⟩
 .have:=no λh=>by have h3:=dX h3;have:=h.2.2;rw[show bT a (f0,f1,f2,f3,f4,())=false from h3]at this;cases this
  dsimp only;rw[this];exact⟨rfl,rfl,rfl,rfl⟩
 .have g1:aC (a,l,nx,())=true:=dw h1;have g2:0<=Sp.place l f0:=by have h2:¬Sp.place l f0<0:=gZ h2;omega
  have g3:bT a (f0,f1,f2,f3,f4,())=true:=dw h3;rcases iI (a,l,nx,()) (f0,f1,f2,f3,f4,())with⟨_,e⟩|⟨n,hn,hpl,_,_,e⟩
  .exact(e ⟨g1,g2,g3⟩).elim
  .have hn:n<l.length:=hn;have hpl:Sp.place l f0=n:=hpl;dsimp only;rw[hpl,e];exact⟨hp.2,⟨by omega,by omega⟩,hn,rfl,rfl,rfl,rfl⟩
theorem L9:OK tV.e:=by
 refine XA.ok mixed (ax [mW.e,o9.e,jB.e,qw.e,pq.e] ⟨ve,Fh,ni,Eg,Au,trivial⟩) aaY (λ⟨s,f,_⟩ _=>⟨((((aT s f).1.1,(aT s f).1.2.1,(aT s f).1.2.2.1,()),(aT s f).2,()),()),⟨rfl,rfl,rfl,rfl⟩⟩) (by kernel_rfl) (show∀s0 s1 s2 f0 f1 f2 f3 f4,tV.goal (YW s0 s1 s2 f0 f1 f2 f3 f4) ((s0,s1,s2,()),(f0,f1,f2,f3,f4,()),())from ?_);intro s0 s1 s2 f0 f1 f2 f3 f4 hin hp;dsimp only[tV]at hp ⊢;refine⟨hp.1,?_⟩;rintro⟨⟨⟨a,l,nx,⟨⟩⟩,⟨⟩⟩,⟨⟩⟩ e;obtain⟨rfl,rfl,rfl⟩:a=s0/\l=s1/\nx=s2:=by simpa using e
 have hs:l.length<=1000:=hp.1.2.1;have no:¬(aC (a,l,nx,())=true/\0<=Sp.place l f0/\bT a (f0,f1,f2,f3,f4,())=true)->aT (a,l,nx,()) (f0,f1,f2,f3,f4,())=((a,l,nx,()),false):=λh=>by
  rcases iI (a,l,nx,()) (f0,f1,f2,f3,f4,())with⟨e,_⟩|⟨n,hn,h1,h2,h3,_⟩
  .exact e
  .exact(h ⟨h2,by have h1:Sp.place l f0=n:=h1;omega,h3⟩).elim
 refine⟨trivial,trivial,af (λh1=>?_) λh1=>af (λh2=>?_) λh2=>⟨trivial,af (λh3=>?_) λh3=>?_⟩⟩
 .have:=no λh=>by have h1:=dX h1;have:=h.1;rw[show aC (a,l,nx,())=false from h1]at this;cases this
  dsimp only;rw[this];exact⟨rfl,rfl,rfl,rfl⟩
 .have:=no λh=>by have h2:Sp.place l f0<0:=gI h2;omega
  dsimp only;rw[this];exact⟨rfl,rfl,rfl,rfl⟩
 .have:=no λh=>by have h3:=dX h3;have:=h.2.2;rw[show bT a (f0,f1,f2,f3,f4,())=false from h3]at this;cases this
  dsimp only;rw[this];exact⟨rfl,rfl,rfl,rfl⟩
 .have g1:aC (a,l,nx,())=true:=dw h1;have g2:0<=Sp.place l f0:=by have h2:¬Sp.place l f0<0:=gZ h2;omega
  have g3:bT a (f0,f1,f2,f3,f4,())=true:=dw h3;rcases iI (a,l,nx,()) (f0,f1,f2,f3,f4,())with⟨_,e⟩|⟨n,hn,hpl,_,_,e⟩
  .exact(e ⟨g1,g2,g3⟩).elim
  .have hn:n<l.length:=hn;have hpl:Sp.place l f0=n:=hpl;dsimp only;rw[hpl,e];exact⟨hp.2,⟨by omega,by omega⟩,hn,rfl,rfl,rfl,rfl⟩
theorem Xh{d:List aV}{i:Nat}(hi:i<d.length):dQ (iV d) (Sp.nameOf d i)=true:=by rw[iw];unfold iV;rw[axO];exact⟨dP d i,getD_mem hi,rfl⟩
theorem La:aU []:=⟨by decide,λx hx=>by cases hx⟩
theorem aqs{fs:List aF}{d:List aV}{out:List dH}(h:gq fs d [] (dQ (iV d)) out):gq fs d [] (λ_=>true) out:=
 Ug h (λi hi=>Xh hi) λi hi hn=>absurd ((Xh hi).symm.trans hn) (by decide)
theorem QG:OK zT.e:=by refine XA.ok mixed (ax [xO.e,zS.e] ⟨OE,QC,trivial⟩) H0 (λ⟨(a,fs,nx,_),d,_⟩ _=>by obtain⟨out,h⟩:=Ba (fs:=fs) (a:=a) (nx:=nx) (d:=d) [] (λ_=>true);exact⟨(((out,(aB d&&aC (a,fs,nx,())),()),())),⟨rfl,h⟩⟩) (by kernel_rfl) (show∀s0 s1 s2 d,zT.goal (ae5 s0 s1 s2 d) ((s0,s1,s2,()),d,())from ?_);intro a fs nx d hin hp;dsimp only[zT]at hp ⊢;refine⟨hp.2.1,⟨hp.1,hp.2,La⟩,λr hr=>⟨hr.1,λh=>aqs (hr.2 h)⟩⟩
theorem aaZ:OK BB.e:=by refine XA.ok mixed (ax [xO.e] ⟨OE,trivial⟩) H0 (λ⟨(a,fs,nx,_),d,r,names,_⟩ _=>by obtain⟨out,h⟩:=Ba (fs:=fs) (a:=a) (nx:=nx) (d:=d) r (dQ names);exact⟨(((out,(aB d&&aC (a,fs,nx,())),()),())),⟨rfl,h⟩⟩) (by kernel_rfl) (show∀s0 s1 s2 d qY names,BB.goal (aa0 s0 s1 s2 d qY names) ((s0,s1,s2,()),d,qY,names,())from ?_);intro a fs nx d r names hin hp;dsimp only[BB]at hp ⊢;exact⟨hp,λr hr=>hr⟩
theorem Jt:OK uN.e:=by refine XA.ok mixed (ax [I5.e] ⟨ai1,trivial⟩) agZ (λ⟨(a,fs,nx,_),d,_⟩ _=>by obtain⟨out,h⟩:=Ba (fs:=fs) (a:=a) (nx:=nx) (d:=d) [] (λ_=>true);exact⟨(((out,(aB d&&aC (a,fs,nx,())),()),())),⟨rfl,h⟩⟩) (by kernel_rfl) (show∀s0 s1 s2 d,uN.goal (ae6 s0 s1 s2 d) ((s0,s1,s2,()),d,())from ?_);intro a fs nx d hin hp;dsimp only[uN]at hp ⊢;exact⟨hp,λr hr=>hr⟩
theorem apa(a:List fD)(fs:List aF)(nx:Int)(d:List aV):∃t:((List fD×List aF×Int×List aV×List dH×Unit)×Bool×Unit)×Unit,
 t.1.2.1=(aB d&&aC (a,fs,nx,()))/\(t.1.2.1=true->(t.1.1.1,t.1.1.2.1,t.1.1.2.2.1,())=(a,fs,nx,())/\t.1.1.2.2.2.1=d/\gq fs d [] (λ_=>true) t.1.1.2.2.2.2.1)/\(t.1.2.1=false->(t.1.1.1,t.1.1.2.1,t.1.1.2.2.1,t.1.1.2.2.2.1,t.1.1.2.2.2.2.1,())=([],[],0,[],[],())):=by
 obtain⟨out,h⟩:=Ba (fs:=fs) (a:=a) (nx:=nx) (d:=d) [] (λ_=>true);cases hk:(aB d&&aC (a,fs,nx,()))with
 |true=>exact⟨(((a,fs,nx,d,out,()),true,()),()),⟨rfl,λ_=>⟨rfl,rfl,h hk⟩,λh=>(by cases h)⟩⟩
 |false=>exact⟨((([],[],0,[],[],()),false,()),()),⟨rfl,λh=>(by cases h),λ_=>rfl⟩⟩
theorem NT:OK vO.e:=by
 refine XA.ok mixed (ax [CJ.e,pq.e,uN.e] ⟨Td,Au,Jt,trivial⟩) acO (λ⟨(a,fs,nx,_),d,_⟩ _=>apa a fs nx d) (by kernel_rfl) (show∀s0 s1 s2 d,vO.goal (aa1 s0 s1 s2 d) ((s0,s1,s2,()),d,())from ?_);intro a fs nx d hin hp;dsimp only[vO]at hp ⊢;refine⟨hp,λr0 hr0=>af (λh=>?_) λh=>⟨hp.1,λr1 hr1=>⟨hp.2,?_⟩⟩⟩
 .have h:r0.1.2.1=false:=dX h;have e:(aB d&&aC (a,fs,nx,()))=false:=hr0.1.symm.trans h;exact⟨e.symm,λh=>(by cases h),λ_=>rfl⟩
 .have h:r0.1.2.1=true:=dw h;have e:(aB d&&aC (a,fs,nx,()))=true:=hr0.1.symm.trans h;exact⟨e.symm,λ_=>⟨hr1,rfl,hr0.2 h⟩,λh=>by cases h⟩
theorem ag0{a:List fD}{fs:List aF}{nx:Int}{d:List aV}{r out:List dH}(h:(aB d&&aC (a,fs,nx,()))=true)(ho:gq fs d [] (λ_=>true) out):dZ (a,fs,nx,d,r,())=decide (out=r):=by have e:dZ (a,fs,nx,d,r,())=((aB d&&aC (a,fs,nx,()))&&@decide (gq fs d [] (λ_=>true) r) (Classical.propDecidable _)):=rfl;rw[e,h,ay1,aw6,axa (p:=out=r)];rw[awG]at h;exact(@ayi _ (Classical.propDecidable _)).trans ⟨λhr=>QI (lF.1 h.1).1 ho hr,λe=>e▸ho⟩
theorem aqt{a:List fD}{fs:List aF}{nx:Int}{d:List aV}{r:List dH}(h:(aB d&&aC (a,fs,nx,()))=false):dZ (a,fs,nx,d,r,())=false:=by have e:dZ (a,fs,nx,d,r,())=((aB d&&aC (a,fs,nx,()))&&@decide (gq fs d [] (λ_=>true) r) (Classical.propDecidable _)):=rfl;rw[e,h,ayc]
theorem H8:OK sJ.e:=by
 refine PA.ok mixed (ax [yE.e,zT.e] ⟨Xc,QG,trivial⟩) H0 (by kernel_rfl) (show∀c0 c1 c2 c3 c4,sJ.goal (acP c0 c1 c2 c3 c4) ((c0,c1,c2,c3,c4,()),())from ?_);intro a fs nx d r hin hp;dsimp only[sJ]at hp ⊢;obtain⟨h1,h2,h3⟩:bn (a,fs,nx,())/\aI d/\aU r:=hp;refine⟨⟨h1,h2⟩,λr0 hr0=>af (λh=>⟨trivial,?_⟩) λh=>?_⟩
 .rw[ag0 (hr0.1.symm.trans h) (hr0.2 h)]
 .rw[aqt (hr0.1.symm.trans h)]
theorem H9:OK sK.e:=by
 refine PA.ok mixed (ax [yF.e,uN.e] ⟨Xf,Jt,trivial⟩) H0 (by kernel_rfl) (show∀l0 l1 l2 l3 l4,sK.goal (acQ l0 l1 l2 l3 l4) ((l0,l1,l2,l3,l4,()),())from ?_);intro a fs nx d r hin hp;dsimp only[sK]at hp ⊢;obtain⟨h1,h2,h3⟩:bn (a,fs,nx,())/\aI d/\aU r:=hp;refine⟨⟨h1,h2⟩,λr0 hr0=>af (λh=>⟨trivial,?_⟩) λh=>?_⟩
 .rw[ag0 (hr0.1.symm.trans h) (hr0.2 h)]
 .rw[aqt (hr0.1.symm.trans h)]
theorem aqY:OK Jl.e:=by refine PA.ok mixed (ax [] trivial) ae7 (by kernel_rfl) (show∀f0 f1 f2 f3 f4,Jl.goal (acR f0 f1 f2 f3 f4) ((f0,f1,f2,f3,f4,()),())from ?_);intro f0 f1 f2 f3 a hin hp;dsimp only[Jl]at hp ⊢;exact ams (K:=λr=>r=(dO a,())) (λx:aQ=>(x.1,())) ([],0,0,[],()) a _ (by have hp:a.length<=1000:=hp;omega) rfl
theorem Uh:OK uO.e:=by refine XA.ok mixed (ax [] trivial) Vx (λ⟨(_,_,_,_,a,_),_⟩ _=>⟨((dO a,()),()),rfl⟩) (by kernel_rfl) (show∀f0 f1 f2 f3 f4,uO.goal (Ui f0 f1 f2 f3 f4) ((f0,f1,f2,f3,f4,()),())from ?_);intro f0 f1 f2 f3 a hin hp;dsimp only[uO]at hp ⊢;exact ams (K:=λr=>r.1=dO a) (λx:aQ=>(x.1,())) ([],0,0,[],()) a _ (by have hp:a.length<=1000:=hp;omega) rfl
theorem IE:OK pJ.e:=by refine XA.ok mixed (ax [] trivial) Vy (λ⟨(_,_,_,_,a,_),_⟩ _=>⟨((dO a,()),()),rfl⟩) (by kernel_rfl) (show∀f0 f1 f2 f3 f4,pJ.goal (Uj f0 f1 f2 f3 f4) ((f0,f1,f2,f3,f4,()),())from ?_);intro f0 f1 f2 f3 a hin hp;dsimp only[pJ]at hp ⊢;exact ams (K:=λr=>r.1=dO a) (λx:aQ=>(x.1,())) ([],0,0,[],()) a _ (by have hp:a.length<=1000:=hp;omega) rfl
theorem aa2{α:Type}(g:α->Sp.Bytes)(l:List α)(s:Sp.Bytes):(s,())∈l.map (λx=>(g x,()))↔s∈l.map g:=by simp
theorem FP{α β:Type}(p:α->Bool)(g:α->β)(d:α)(l:List α){n:Nat}(h:n<l.length)(s:β):s∈((l.take (n+1)).filter p).map g↔s∈((l.take n).filter p).map g\/(p (l.getD n d)=true/\s=g (l.getD n d)):=by rw[jF p d l h,axq,aw2];cases hp:p (l.getD n d)<;>simp
theorem Dp{α β:Type}(p:α->Bool)(g:α->β)(l:List α)(n:Nat):(((l.take n).filter p).map g).length<=n:=by have:=aw8 p (l.take n);rw[awK]at this;rw[awV];omega
def jV(n:bI):Bool:=n.1==2||(n.1==3||n.1==4)
theorem zo(l:List Sp.Bytes)(h:l.length<=1000):dA (l.map λs=>(s,())) l:=⟨by rw[awV];exact h,λs=>by simp⟩
theorem adL(q:List bI):(lq q).length<=q.length:=by unfold lq;rw[awV];exact aw8 _ _
theorem ag1(q:List bI):(pG q).length<=q.length:=by unfold pG;rw[awV];exact aw8 _ _
abbrev EJ:bI:=(0,0,0,[],0,0,[],())
theorem aa3:OK BF.e:=by
 refine XA.ok mixed (ax [(nJ,.eff (oH jL) lJ)] ⟨⟨uh,rW⟩,trivial⟩) acS (λ⟨q,_⟩ hp=>⟨((_,()),()),zo (lq q) (awR (adL q) hp)⟩) (by kernel_rfl) (show∀q,BF.goal (aa4 q) (q,())from ?_);intro q hin hp;dsimp only[BF]at hp ⊢;have hp:q.length<=1000:=hp;refine bZ (λi(x:Sp.LS)=>(((),i,()),x,())) (λy=>y.1.2.1) (λ_ _=>rfl) q.length (by omega) (λn l=>l=((q.take n).filter jV).map λn=>(n.2.2.2.1,())) rfl (λI μ n l hn hJ next=>?_) λI μ l hJ=>?_
 .subst hJ;have hl:=Dp jV (λn=>(n.2.2.2.1,())) q n;have small:(((q.take n).filter jV).map λn=>(n.2.2.2.1,())).length+1<=big:=by rw[bM];omega
  have yes:jV (q.getD n EJ)=true->((q.take n).filter jV).map (λn=>(n.2.2.2.1,()))++[((q.getD n EJ).2.2.2.1,())]=((q.take (n+1)).filter jV).map λn=>(n.2.2.2.1,()):=λh=>by rw[jF jV EJ q hn,h,axq];rfl
  dsimp only;refine bU (by omega) ⟨⟨by omega,by omega⟩,af (λh=>⟨small,rfl,next _ (yes ?_)⟩) λh2=>af (λh=>⟨small,rfl,next _ (yes ?_)⟩) λh3=>af (λh=>⟨small,rfl,next _ (yes ?_)⟩) λh4=>⟨rfl,next _ ?_⟩⟩
  .have h:((q.getD n EJ).1==2)=true:=h;unfold jV;rw[h];rfl
  .have h:((q.getD n EJ).1==3)=true:=h;unfold jV;rw[h];simp
  .have h:((q.getD n EJ).1==4)=true:=h;unfold jV;rw[h];simp
  .have h2:((q.getD n EJ).1==2)=false:=h2;have h3:((q.getD n EJ).1==3)=false:=h3;have h4:((q.getD n EJ).1==4)=false:=h4;have:jV (q.getD n EJ)=false:=by unfold jV;rw[h2,h3,h4];rfl
   rw[jF jV EJ q hn,this,axq];simp
 .subst hJ;rw[aw0];have hl:((q.filter jV).map λn=>(n.2.2.2.1,())).length<=q.length:=by rw[awV];exact aw8 _ _
  dsimp only;refine bV (by omega) ⟨by omega,λr hr=>⟨by have:=hr.1;omega,λs=>(hr.2 (s,())).trans ?_⟩⟩;exact aa2 (λn:bI=>n.2.2.2.1) _ s
theorem acT:OK DZ.e:=by
 refine XA.ok mixed (ax [(nJ,.eff (oH jL) lJ),zH.e] ⟨⟨uh,rW⟩,QJ,trivial⟩) ae8 (λ⟨q,_⟩ hp=>⟨((_,()),()),zo (pG q) (awR (ag1 q) hp)⟩) (by kernel_rfl) (show∀q,DZ.goal (acU q) (q,())from ?_);intro q hin hp;dsimp only[DZ]at hp ⊢;have hp:q.length<=1000:=hp;refine bZ (λi(x:Sp.LS)=>(((),i,()),x,())) (λy=>y.1.2.1) (λ_ _=>rfl) q.length (by omega) (λn l=>l=((q.take n).filter jO).map λn=>(n.2.2.2.1,())) rfl (λI μ n l hn hJ next=>?_) λI μ l hJ=>?_
 .subst hJ;have hl:=Dp jO (λn=>(n.2.2.2.1,())) q n;dsimp only;refine bU (by omega) ⟨⟨by omega,by omega⟩,trivial,af (λh=>⟨by rw[bM];simp only[awL,awP];omega,rfl,next _ ?_⟩) λh=>⟨rfl,next _ ?_⟩⟩
  .have h:jO (q.getD n EJ)=true:=h;rw[jF jO EJ q hn,h,axq];rfl
  .have h:jO (q.getD n EJ)=false:=h;rw[jF jO EJ q hn,h,axq];simp
 .subst hJ;rw[aw0];have hl:((q.filter jO).map λn=>(n.2.2.2.1,())).length<=q.length:=by rw[awV];exact aw8 _ _
  dsimp only;refine bV (by omega) ⟨by omega,λr hr=>⟨by have:=hr.1;omega,λs=>(hr.2 (s,())).trans ?_⟩⟩;exact aa2 (λn:bI=>n.2.2.2.1) _ s
theorem asN(n:bI):(decide (2<=n.1)&&decide (n.1<=4))=jV n:=by rw[aw6];unfold jV;simp only[awG,axG,axa,awQ];omega
theorem atv(n:bI):(decide (8<=n.1)&&decide (n.1<=9))=jO n:=by rw[aw6];unfold jO;simp only[awG,axG,axa,awQ];omega
theorem aa5:OK BG.e:=by
 refine XA.ok mixed (ax [oM.e,jb.e] ⟨xE,jJ,trivial⟩) acV (λ⟨q,_⟩ hp=>⟨((_,()),()),zo (lq q) (awR (adL q) hp)⟩) (by kernel_rfl) (show∀q,BG.goal (aa6 q) (q,())from ?_);intro q hin hp;dsimp only[BG]at hp ⊢;have hp:q.length<=1000:=hp;refine bZ (λi(x:Sp.LS)=>((x,i,()),())) (λy=>y.1.2.1) (λ_ _=>rfl) q.length (by omega) (λn l=>l.length<=n/\∀s,(s,())∈l↔s∈((q.take n).filter jV).map λn=>n.2.2.2.1) ⟨awY _,λs=>by simp⟩ (λI μ n l hn hJ next=>?_) λI μ l hJ=>?_
 .obtain⟨hl,hJ⟩:=hJ;dsimp only;rw[awO,asN];refine bU (by omega) ⟨⟨by omega,by omega⟩,trivial,af (λh=>⟨⟨by omega,by omega⟩,by omega,rfl,next _ ⟨awR (MO _ _) (by omega),λs=>?_⟩⟩) λh=>⟨rfl,next _ ⟨by omega,λs=>?_⟩⟩⟩
  .have h:jV (q.getD n EJ)=true:=h;rw[qN,hJ,FP jV _ EJ q hn,Prod.mk.injEq];exact⟨λg=>g.elim (λg=>.inr ⟨h,g.1⟩) .inl,λg=>g.elim .inr λg=>.inl ⟨g.2,rfl⟩⟩
  .have h:jV (q.getD n EJ)=false:=h;rw[hJ,FP jV _ EJ q hn,h];simp
 .obtain⟨hl,hJ⟩:=hJ;rw[aw0]at hJ;dsimp only;exact bV (by omega) ⟨by rw[bM];omega,by show l.length<=1000;omega,hJ⟩
theorem acW:OK D5.e:=by
 refine XA.ok mixed (ax [oM.e,jb.e] ⟨xE,jJ,trivial⟩) ae9 (λ⟨q,_⟩ hp=>⟨((_,()),()),zo (pG q) (awR (ag1 q) hp)⟩) (by kernel_rfl) (show∀q,D5.goal (acX q) (q,())from ?_);intro q hin hp;dsimp only[D5]at hp ⊢;have hp:q.length<=1000:=hp;refine bZ (λi(x:Sp.LS)=>((x,i,()),())) (λy=>y.1.2.1) (λ_ _=>rfl) q.length (by omega) (λn l=>l.length<=n/\∀s,(s,())∈l↔s∈((q.take n).filter jO).map λn=>n.2.2.2.1) ⟨awY _,λs=>by simp⟩ (λI μ n l hn hJ next=>?_) λI μ l hJ=>?_
 .obtain⟨hl,hJ⟩:=hJ;dsimp only;rw[awO,atv];refine bU (by omega) ⟨⟨by omega,by omega⟩,trivial,af (λh=>⟨⟨by omega,by omega⟩,by omega,rfl,next _ ⟨awR (MO _ _) (by omega),λs=>?_⟩⟩) λh=>⟨rfl,next _ ⟨by omega,λs=>?_⟩⟩⟩
  .have h:jO (q.getD n EJ)=true:=h;rw[qN,hJ,FP jO _ EJ q hn,Prod.mk.injEq];exact⟨λg=>g.elim (λg=>.inr ⟨h,g.1⟩) .inl,λg=>g.elim .inr λg=>.inl ⟨g.2,rfl⟩⟩
  .have h:jO (q.getD n EJ)=false:=h;rw[hJ,FP jO _ EJ q hn,h];simp
 .obtain⟨hl,hJ⟩:=hJ;rw[aw0]at hJ;dsimp only;exact bV (by omega) ⟨by rw[bM];omega,by show l.length<=1000;omega,hJ⟩
def nK(a b:List aQ)(x:Sp.Bytes×Unit):Bool:=!decide (bf a x.1=bf b x.1)
theorem Uk(f0 f1:Int)(f2:Bool)(f3:Int)(a:List aQ)(g0 g1:Int)(g2:Bool)(g3:Int)(b:List aQ)(s:Sp.Bytes):
 (s,())∈(dO a++dO b).filter (nK a b)↔s∈gX (f0,f1,f2,f3,a,()) (g0,g1,g2,g3,b,()):=by
 unfold gX dO;rw[axw,axw,← axq,aa2];exact Iff.rfl
theorem QK(f g:aF):(gX f g).length<=f.2.2.2.2.1.length+g.2.2.2.2.1.length:=by unfold gX;refine awR (aw8 _ _) ?_;rw[awV,awN];exact awY _
theorem Xi:OK yG.e:=by
 refine XA.ok mixed (ax [(nJ,.eff (oH jL) lJ),sG.e,uO.e] ⟨⟨uh,rW⟩,KW,Uh,trivial⟩) YX (λ⟨f,g,_⟩ hp=>⟨((_,()),()),zo (gX f g) (awR (QK f g) hp.2.2)⟩) (by kernel_rfl) (show∀a0 a1 a2 a3 a4 b0 b1 b2 b3 b4,yG.goal (Xj a0 a1 a2 a3 a4 b0 b1 b2 b3 b4) ((a0,a1,a2,a3,a4,()),(b0,b1,b2,b3,b4,()),())from ?_);intro a0 a1 a2 a3 a b0 b1 b2 b3 b hin hp;dsimp only[yG]at hp ⊢;obtain⟨ha,hb,hab⟩:a.length<=1000/\b.length<=1000/\a.length+b.length<=1000:=hp;refine⟨ha,?_⟩;rintro⟨⟨r0,⟨⟩⟩,⟨⟩⟩ e0;have e0:r0=dO a:=e0;refine⟨hb,?_⟩;rintro⟨⟨r1,⟨⟩⟩,⟨⟩⟩ e1;have e1:r1=dO b:=e1;subst e0 e1;have hL:(dO a++dO b).length=a.length+b.length:=by rw[awN];unfold dO;rw[awV,awV]
 refine⟨by rw[bM];rw[awN]at hL;dsimp only;omega,?_⟩;dsimp only;generalize hLL:dO a++dO b=L at hL;refine bZ (λi(x:Sp.LS)=>(((),i,()),x,())) (λy=>y.1.2.1) (λ_ _=>rfl) L.length (by omega) (λn l=>l=(L.take n).filter (nK a b)) rfl (λI μ n l hn hJ next=>?_) λI μ l hJ=>?_
 .subst hJ;have hl:((L.take n).filter (nK a b)).length<=n:=by have:=aw8 (nK a b) (L.take n);rw[awK]at this;omega
  have step:=jF (nK a b) ([],()) L hn;dsimp only;rw[eq3,awO];refine bU (by omega) ⟨⟨by omega,by omega⟩,by omega,trivial,trivial,af (λh=>⟨by rw[bM];simp only[awL,awP];omega,rfl,next _ ?_⟩) λh=>⟨rfl,next _ ?_⟩⟩
  .have h:nK a b (L.getD n ([],()))=true:=h;rw[step,h];rfl
  .have h:nK a b (L.getD n ([],()))=false:=h;rw[step,h];simp
 .subst hJ;rw[aw0];have hl:=aw8 (nK a b) L;dsimp only;refine bV (by omega) ⟨by omega,λr hr=>⟨by have:=hr.1;omega,λs=>(hr.2 (s,())).trans ?_⟩⟩;rw[← hLL];exact Uk _ _ _ _ a _ _ _ _ b s
theorem Xk:OK yH.e:=by
 refine XA.ok mixed (ax [oM.e,sH.e,pJ.e] ⟨xE,KX,IE,trivial⟩) YZ (λ⟨f,g,_⟩ hp=>⟨((_,()),()),zo (gX f g) (awR (QK f g) hp.2.2)⟩) (by kernel_rfl) (show∀a0 a1 a2 a3 a4 b0 b1 b2 b3 b4,yH.goal (Xl a0 a1 a2 a3 a4 b0 b1 b2 b3 b4) ((a0,a1,a2,a3,a4,()),(b0,b1,b2,b3,b4,()),())from ?_);intro a0 a1 a2 a3 a b0 b1 b2 b3 b hin hp;dsimp only[yH]at hp ⊢;obtain⟨ha,hb,hab⟩:a.length<=1000/\b.length<=1000/\a.length+b.length<=1000:=hp;refine⟨ha,?_⟩;rintro⟨⟨r0,⟨⟩⟩,⟨⟩⟩ e0;have e0:r0=dO a:=e0;refine⟨hb,?_⟩;rintro⟨⟨r1,⟨⟩⟩,⟨⟩⟩ e1;have e1:r1=dO b:=e1;subst e0 e1;have hL:(dO a++dO b).length=a.length+b.length:=by rw[awN];unfold dO;rw[awV,awV]
 refine⟨by rw[bM];rw[awN]at hL;dsimp only;omega,?_⟩;dsimp only;generalize hLL:dO a++dO b=L at hL;refine bZ (λi(x:Sp.LS)=>((x,i,()),())) (λy=>y.1.2.1) (λ_ _=>rfl) L.length (by omega) (λn l=>l.length<=n/\∀s,(s,())∈l↔(s,())∈(L.take n).filter (nK a b)) ⟨awY _,λs=>by simp⟩ (λI μ n l hn hJ next=>?_) λI μ l hJ=>?_
 .obtain⟨hl,hJ⟩:=hJ;have step:=jF (nK a b) ([],()) L hn;dsimp only;rw[eq3,awO];refine bU (by omega) ⟨⟨by omega,by omega⟩,by omega,trivial,⟨by omega,by omega⟩,by omega,trivial,af (λh=>⟨⟨by omega,by omega⟩,by omega,by omega,rfl,next _ ⟨awR (MO _ _) (by omega),λs=>?_⟩⟩) λh=>⟨rfl,next _ ⟨by omega,λs=>?_⟩⟩⟩
  .have h:nK a b (L.getD n ([],()))=true:=h;rw[qN,step,h,aw2,hJ];show _↔_\/(s,())∈[L.getD n ([],())];rw[axy];exact Or.comm
  .have h:nK a b (L.getD n ([],()))=false:=h;rw[step,h,hJ];simp
 .obtain⟨hl,hJ⟩:=hJ;rw[aw0]at hJ;dsimp only;refine bV (by omega) ⟨by rw[bM];omega,by show l.length<=1000;omega,λs=>(hJ s).trans ?_⟩;rw[← hLL];exact Uk _ _ _ _ a _ _ _ _ b s
end Go.Proofs.Tryz
