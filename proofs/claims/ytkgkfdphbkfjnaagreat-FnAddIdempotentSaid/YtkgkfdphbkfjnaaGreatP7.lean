import Derived.Test.YtkgkfdphbkfjnaaGreatP1
import Derived.Test.YtkgkfdphbkfjnaaGreatL1
import Derived.Test.YtkgkfdphbkfjnaaGreatSp
import Derived.Test.YtkgkfdphbkfjnaaGreatV3
import Derived.Test.YtkgkfdphbkfjnaaGreatV4
import Derived.Test.YtkgkfdphbkfjnaaGreatV6
import Derived.Test.YtkgkfdphbkfjnaaGreatV7
import Derived.Test.YtkgkfdphbkfjnaaGreatV5
namespace Go.Proofs.Tryz
open Go Go.Fw Go.IntWalk Sp
def ajE(q:List bI)(neg:Bool)(i:Nat):Option Sp.Bytes:=bif jP (Sp.nodeAt q i)&&((Sp.negated q).getD i (false,())).1==neg then some (Sp.nodeAt q i).2.2.2.1 else none
def Gp(q:List bI)(neg:Bool)(n:Nat):List Sp.Bytes:=(List.range n).filterMap (ajE q neg)
theorem A8(q:List bI)(neg:Bool):Gp q neg (Sp.negated q).length=fJ q neg:=rfl
theorem ah7{q:List bI}{neg:Bool}{n:Nat}(h1:jP (Sp.nodeAt q n)=true)(h2:((Sp.negated q).getD n (false,())).1=neg):Gp q neg (n+1)=Gp q neg n++[(Sp.nodeAt q n).2.2.2.1]:=by
 unfold Gp;rw[azX,List.filterMap_append];congr 1;show List.filterMap _ [n]=_;rw[azB];have:ajE q neg n=some (Sp.nodeAt q n).2.2.2.1:=by unfold ajE;rw[h1,h2];simp
 rw[this];rfl
theorem TP{q:List bI}{neg:Bool}{n:Nat}(h:¬(jP (Sp.nodeAt q n)=true/\((Sp.negated q).getD n (false,())).1=neg)):Gp q neg (n+1)=Gp q neg n:=by
 unfold Gp;rw[azX,List.filterMap_append];have:ajE q neg n=none:=by
  unfold ajE;have:(jP (Sp.nodeAt q n)&&((Sp.negated q).getD n (false,())).1==neg)=false:=by rw[ax6];intro h';rw[awP,awZ]at h';exact h h'
  rw[this];rfl
 rw[azB,this];simp
theorem Ba(q:List bI)(neg:Bool)(n:Nat):(Gp q neg n).length<=n:=by have:=List.length_filterMap_le (ajE q neg) (List.range n);rw[List.length_range]at this;exact this
theorem Bc(q:List bI):(Sp.negated q).length<=q.length:=by
 cases h:aZ q with
 |true=>rw[anA h];exact aw7 _
 |false=>unfold Sp.negated;rw[h];exact axp _
theorem OV:OK xU.e:=by
 refine XA.ok mixed (ax [(nJ,.eff (oH jM) lM),zK.e,yC.e] ⟨⟨uw,rX⟩,QV,Ya,trivial⟩) afF (λ⟨q,neg,_⟩ hp=>⟨((((fJ q neg).map λs=>(s,()),()),())),⟨by show((fJ q neg).map _).length<=1000;rw[aw4];have:=Ba q neg (Sp.negated q).length;have:=Bc q;have hp:q.length<=1000:=hp;rw[A8]at*;omega,λs=>by show(s,())∈(fJ q neg).map _↔_;simp⟩⟩) (by kernel_rfl) (show∀q negated,xU.goal (adv q negated) (q,negated,())from ?_);intro q neg hin hp;dsimp only[xU]at hp ⊢;have hp:q.length<=1000:=hp;have hnl:=Bc q;refine⟨hp,?_⟩;refine bZ (λi(x:Sp.LS)=>(((),i,()),x,())) (λy=>y.1.2.1) (λ_ _=>rfl) (Sp.negated q).length (by omega) (λn l=>l=(Gp q neg n).map λs=>(s,())) rfl (λI μ n l hn hJ next=>?_) λI μ l hJ=>?_
 .subst hJ;have hl:=Ba q neg n;dsimp only;refine bU (by omega) ⟨⟨by omega,by omega⟩,⟨by omega,by omega⟩,trivial,af (λh1=>af (λh2=>⟨⟨by omega,by omega⟩,?_,rfl,next _ ?_⟩) λh2=>⟨rfl,next _ ?_⟩) λh1=>⟨rfl,next _ ?_⟩⟩
  .rw[bM];simp only[awU,awY,aw4];omega
  .rw[ah7 (show jP (Sp.nodeAt q n)=true from h1) (awZ.1 h2),axz];rfl
  .rw[TP λh=>by have h2:=awS.1 h2;exact h2 h.2]
  .rw[TP λh=>by have h1:jP (Sp.nodeAt q n)=false:=h1;rw[h1]at h;cases h.1]
 .subst hJ;have hl:=Ba q neg (Sp.negated q).length;rw[A8]at hl ⊢;dsimp only;refine bV (by omega) ⟨by rw[aw4];omega,?_⟩;rintro⟨⟨r,⟨⟩⟩,⟨⟩⟩ ⟨h1,h2⟩;have h1:r.length<=((fJ q neg).map λs=>(s,())).length:=h1;rw[aw4]at h1;refine⟨by show r.length<=1000;omega,λs=>?_⟩;have:=h2 (s,());show(s,())∈r↔_;rw[this];simp
theorem Xl:OK yD.e:=by refine XA.ok mixed (ax [xU.e] ⟨OV,trivial⟩) H0 (λ⟨q,_⟩ hp=>⟨((((fJ q false).map λs=>(s,()),()),())),⟨by show((fJ q false).map _).length<=1000;rw[aw4];have:=Ba q false (Sp.negated q).length;have:=Bc q;have hp:q.length<=1000:=hp;rw[A8]at*;omega,λs=>by show(s,())∈(fJ q false).map _↔_;simp⟩⟩) (by kernel_rfl) (show∀q,yD.goal (Ye q) (q,())from ?_);intro q hin hp;dsimp only[yD]at hp ⊢;exact⟨hp,λr hr=>hr⟩
theorem Xk:OK yE.e:=by refine XA.ok mixed (ax [xU.e] ⟨OV,trivial⟩) H0 (λ⟨q,_⟩ hp=>⟨((((fJ q true).map λs=>(s,()),()),())),⟨by show((fJ q true).map _).length<=1000;rw[aw4];have:=Ba q true (Sp.negated q).length;have:=Bc q;have hp:q.length<=1000:=hp;rw[A8]at*;omega,λs=>by show(s,())∈(fJ q true).map _↔_;simp⟩⟩) (by kernel_rfl) (show∀q,yE.goal (Yf q) (q,())from ?_);intro q hin hp;dsimp only[yE]at hp ⊢;exact⟨hp,λr hr=>hr⟩
theorem aoi{l:Sp.LS}{s:Sp.Bytes}{m:Nat}(hm:m<=l.length)(h1:∀i,i<m->Op.bytesLess (l.getD i ([],())).1 s=true)(h2:m<l.length->Op.bytesLess (l.getD m ([],())).1 s=false):
 yZ l s=bif decide (m<l.length)&&(l.getD m ([],())).1==s then l else l.take m++[(s,())]++l.drop m:=by
 obtain⟨e1,_⟩:=QI (d:=(([]:List UInt8),())) l m hm (p:=λx=>Op.bytesLess x.1 s) h1 h2;unfold yZ;rw[e1];have:(l.take m).length=m:=by rw[awT];omega
 rw[this]
theorem qO{l:Sp.LS}{s:Sp.Bytes}(x:Sp.Bytes×Unit):x∈yZ l s↔x=(s,())\/x∈l:=by
 unfold yZ;dsimp only;generalize (l.takeWhile λx=>Op.bytesLess x.1 s).length=n;cases h:decide (n<l.length)&&(l.getD n ([],())).1==s with
 |true=>
  rw[awP,awZ]at h;refine⟨.inr,λhx=>?_⟩;rcases hx with rfl|hx
  .have:=getD_mem (d:=(([]:List UInt8),())) (gI h.1);rw[show l.getD n ([],())=(s,())from ayK h.2 rfl]at this;exact this
  .exact hx
 |false=>
  show x∈l.take n++[(s,())]++l.drop n↔_;rw[axb,axb,axH]
  conv=>rhs;rw[← ayh n l,axb]
  constructor
  .rintro((h|h)|h)
   .exact .inr (.inl h)
   .exact .inl h
   .exact .inr (.inr h)
  .rintro(h|h|h)
   .exact .inl (.inr h)
   .exact .inl (.inl h)
   .exact .inr h
theorem Na(l:Sp.LS)(s:Sp.Bytes):(yZ l s).length<=l.length+1:=by
 unfold yZ;dsimp only;generalize (l.takeWhile λx=>Op.bytesLess x.1 s).length=n;cases decide (n<l.length)&&(l.getD n ([],())).1==s with
 |true=>exact Nat.le_succ _
 |false=>show(l.take n++[(s,())]++l.drop n).length<=_;simp;omega
theorem xJ:OK oM.e:=by
 refine PA.ok mixed (ax [] trivial) ak7 (by kernel_rfl) (show∀list s,oM.goal (ajF list s) (list,s,())from ?_);intro l s hin hp;dsimp only[oM]at hp ⊢;have hp:l.length<=1000:=hp;have fin:∀m:Nat,m<=l.length->yZ l s=l.take m++[(s,())]++l.drop m->((0:Int)<=m/\(m:Int)<=l.length)/\0+(List.drop 0 (List.take m l)).length<=big/\(List.drop 0 (List.take m l)).length+[(s,())].length<=big/\((0:Int)<=m/\(m:Int)<=l.length)/\
  (List.drop 0 (List.take m l)++[(s,())]).length+(List.drop m (List.take l.length l)).length<=big/\(List.drop 0 (List.take m l)++[(s,())]++List.drop m (List.take l.length l),())=(yZ l s,()):=by
  intro m hm h;refine⟨⟨by omega,by omega⟩,?_,?_,⟨by omega,by omega⟩,?_,?_⟩
  .rw[bM];simp only[axt,awT];omega
  .rw[bM];simp only[axt,awT,awU,awY];omega
  .rw[bM];simp only[awW,axt,awT,awU,awY];omega
  .rw[h,aw9,ax3]
 refine je l.length (by omega) (λn=>∀i,i<n->Op.bytesLess (l.getD i ([],())).1 s=true) (λi hi=>by omega) (λI μ n hn hJ next=>?_) λI μ hJ=>?_
 .dsimp only;refine bU (by omega) ⟨⟨by omega,by omega⟩,af (λh=>⟨rfl,next (eY (f:=λi=>Op.bytesLess (l.getD i ([],())).1 s) hJ h)⟩) λh=>bU (by omega) ⟨⟨by omega,by omega⟩,?_⟩⟩;have e:=aoi (azR hn) hJ λ_=>h;rw[aw0 hn,aza]at e;refine af (λh2=>?_) λh2=>fin n (azR hn) ?_
  .rw[show((l.getD n ([],())).1==s)=true from h2]at e;rw[e];rfl
  .rw[show((l.getD n ([],())).1==s)=false from h2]at e;exact e
 .dsimp only;refine bV (by omega) (bV (by omega) (fin l.length (aw7 _) ?_));have e:=aoi (aw7 _) hJ λh=>by omega
  rw[aw1 (by omega)]at e;exact e
theorem aqQ(x:bI):jP x=(decide (8<=x.1)&&decide (x.1<=9)):=by unfold jP;rw[axf];simp;omega
theorem Ry:OK zL.e:=by
 refine XA.ok mixed (ax [oM.e,jc.e,yB.e] ⟨xJ,jJ,Yc,trivial⟩) ah8 (λ⟨q,neg,_⟩ hp=>⟨((((fJ q neg).map λs=>(s,()),()),())),⟨by show((fJ q neg).map _).length<=1000;rw[aw4];have:=Ba q neg (Sp.negated q).length;have:=Bc q;have hp:q.length<=1000:=hp;rw[A8]at*;omega,λs=>by show(s,())∈(fJ q neg).map _↔_;simp⟩⟩) (by kernel_rfl) (show∀q under,zL.goal (afG q under) (q,under,())from ?_);intro q neg hin hp;dsimp only[zL]at hp ⊢;have hp:q.length<=1000:=hp;have hnl:=Bc q;refine⟨hp,?_⟩;refine bZ (λi(x:Sp.LS)=>((x,i,()),())) (λy=>y.1.2.1) (λ_ _=>rfl) (Sp.negated q).length (by omega) (λn l=>l.length<=n/\∀s,(s,())∈l↔s∈Gp q neg n) ⟨aw7 _,λs=>by simp[Gp]⟩ (λI μ n l hn hJ next=>?_) λI μ l hJ=>?_
 .obtain⟨hl,hJ⟩:=hJ;dsimp only;have hnm:=aqQ (Sp.nodeAt q n);refine bU (by omega) ⟨⟨by omega,by omega⟩,trivial,af (λh1=>⟨⟨by omega,by omega⟩,af (λh2=>⟨⟨by omega,by omega⟩,by omega,rfl,next _ ?_⟩) λh2=>⟨rfl,next _ ⟨by omega,?_⟩⟩⟩) λh1=>⟨rfl,next _ ⟨by omega,?_⟩⟩⟩
  .have h1:(decide (8<=(Sp.nodeAt q n).1)&&decide ((Sp.nodeAt q n).1<=9))=true:=h1;rw[ah7 (hnm.trans h1) (awZ.1 h2)];refine⟨aw2 (Na _ _) (by omega),λs=>?_⟩;rw[qO,axb,axH,hJ,Prod.mk.injEq];constructor
   .rintro(⟨h,_⟩|h)
    .exact .inr h
    .exact .inl h
   .rintro(h|h)
    .exact .inr h
    .exact .inl ⟨h,rfl⟩
  .rw[TP λh=>by have h2:=awS.1 h2;exact h2 h.2];exact hJ
  .rw[TP λh=>by have h1:(decide (8<=(Sp.nodeAt q n).1)&&decide ((Sp.nodeAt q n).1<=9))=false:=h1;rw[hnm,h1]at h;cases h.1];exact hJ
 .obtain⟨hl,hJ⟩:=hJ;rw[A8]at hJ;dsimp only;exact bV (by omega) ⟨by rw[bM];omega,by show l.length<=1000;omega,hJ⟩
theorem Yg:OK yF.e:=by refine XA.ok mixed (ax [zL.e] ⟨Ry,trivial⟩) H0 (λ⟨q,_⟩ hp=>⟨((((fJ q false).map λs=>(s,()),()),())),⟨by show((fJ q false).map _).length<=1000;rw[aw4];have:=Ba q false (Sp.negated q).length;have:=Bc q;have hp:q.length<=1000:=hp;rw[A8]at*;omega,λs=>by show(s,())∈(fJ q false).map _↔_;simp⟩⟩) (by kernel_rfl) (show∀q,yF.goal (Yh q) (q,())from ?_);intro q hin hp;dsimp only[yF]at hp ⊢;exact⟨hp,λr hr=>hr⟩
theorem Yi:OK yG.e:=by refine XA.ok mixed (ax [zL.e] ⟨Ry,trivial⟩) H0 (λ⟨q,_⟩ hp=>⟨((((fJ q true).map λs=>(s,()),()),())),⟨by show((fJ q true).map _).length<=1000;rw[aw4];have:=Ba q true (Sp.negated q).length;have:=Bc q;have hp:q.length<=1000:=hp;rw[A8]at*;omega,λs=>by show(s,())∈(fJ q true).map _↔_;simp⟩⟩) (by kernel_rfl) (show∀q,yG.goal (Yj q) (q,())from ?_);intro q hin hp;dsimp only[yG]at hp ⊢;exact⟨hp,λr hr=>hr⟩
end Go.Proofs.Tryz
namespace Go.Proofs.Tryz
open Go Go.Fw Go.IntWalk Sp
theorem TQ:OK CP.e:=by refine PA.ok mixed (ax [] trivial) H0 (by kernel_rfl) (show∀x0 x1 p10,CP.goal (ah9 x0 x1 p10) ((x0,x1,()),(p10,()),())from ?_);intro x0 x1 p hin hp;dsimp only[CP]at hp ⊢;exact rfl
theorem MV{d:List aV}{s:Sp.Bytes}{n:Nat}(hn:n<d.length)(h1:(dN d n).1=s)(h2:∀i,i<n->(dN d i).1≠s):aP d s=n:=by
 rcases sU d s with⟨_,h⟩|⟨m,g1,g2,g3,g4⟩
 .exact(h _ (getD_mem (d:=(([]:List UInt8),([]:List bI),())) hn) h1).elim
 .have:m=n:=by
   rcases ayW m n with h|h|h
   .exact(h2 m h g3).elim
   .exact h
   .exact(g4 n h h1).elim
  rw[g2,this]
theorem amM{d:List aV}{s:Sp.Bytes}(h2:∀i,i<d.length->(dN d i).1≠s):aP d s=-1:=by
 rcases sU d s with⟨h,_⟩|⟨m,g1,_,g3,_⟩
 .exact h
 .exact(h2 m g1 g3).elim
theorem DI:OK ja.e:=by
 refine PA.ok mixed (ax [CP.e] ⟨TQ,trivial⟩) DL (by kernel_rfl) (show∀s jE,ja.goal (DJ s jE) (s,((jE,()),()),())from ?_);intro d s hin hp;dsimp only[ja]at hp ⊢;have hlen:d.length<=maxLen:=hin.1.1;rw[maxLen_eq]at hlen;refine je d.length hlen (λn=>∀i,i<n->(dN d i).1≠s) (λi hi=>by omega) (λI μ n hn hJ next=>?_) λI μ hJ=>?_
 .dsimp only;refine bU (by omega) ⟨⟨by omega,by omega⟩,trivial,af (λh=>?_) λh=>⟨rfl,next λi hi=>?_⟩⟩
  .rw[MV hn (awZ.1 h) hJ]
  .rcases aw8 i n with h'|h'
   .exact hJ i h'
   .have:i=n:=by omega
    rw[this];exact awS.1 h
 .dsimp only;refine bV (by omega) ?_;rw[amM hJ]
theorem YJ:OK FY.e:=by refine PA.ok mixed (ax [ja.e,CP.e] ⟨DI,TQ,trivial⟩) H0 (by kernel_rfl) (show∀d name,FY.goal (ak8 d name) (d,name,())from ?_);intro d s hin hp;dsimp only[FY]at hp ⊢;exact⟨trivial,rfl⟩
theorem Rl:OK zM.e:=by
 refine PA.ok mixed (ax [] trivial) aia (by kernel_rfl) (show∀d name,zM.goal (afH d name) (d,name,())from ?_);intro d s hin hp;dsimp only[zM]at hp ⊢;have hlen:d.length<=maxLen:=hin.1.1;rw[maxLen_eq]at hlen;refine je d.length hlen (λn=>∀i,i<n->(dN d i).1≠s) (λi hi=>by omega) (λI μ n hn hJ next=>?_) λI μ hJ=>?_
 .dsimp only;refine bU (by omega) ⟨⟨by omega,by omega⟩,af (λh=>?_) λh=>⟨rfl,next λi hi=>?_⟩⟩
  .rw[MV hn (awZ.1 h) hJ]
  .rcases aw8 i n with h'|h'
   .exact hJ i h'
   .have:i=n:=by omega
    rw[this];exact awS.1 h
 .dsimp only;refine bV (by omega) ?_;rw[amM hJ]
theorem YV:OK zN.e:=by
 refine PA.ok mixed (ax [FY.e] ⟨YJ,trivial⟩) abR (by kernel_rfl) (show∀d LQ names more,zN.goal (ZI d LQ names more) (d,LQ,names,more,())from ?_);intro d aH names more hin hp;dsimp only[zN]at hp ⊢;obtain⟨h1,h2,h3,h4,h5⟩:d.length<=aH.length/\names.length<=1000/\0<=more/\more<=1/\∀x∈aH,0<=x.1/\x.1<=1000000:=hp;refine bZ (λi(c:Int)=>((c,i,()),())) (λy=>y.1.2.1) (λ_ _=>rfl) names.length (by omega) (λn c=>∀B,c<=B↔0<=B/\∀x∈names.take n,0<=aP d x.1->Sp.lv aH (aP d x.1).toNat+more<=B) (λB=>by simp) (λI μ n c hn hJ next=>?_) λI μ c hJ=>?_
 .dsimp only;rw[awX];have e:=Sp.take_succ' names n ([],()) hn;refine bU (by omega) ⟨⟨by omega,by omega⟩,trivial,af (λh=>?_) λh=>⟨rfl,next _ λB=>?_⟩⟩
  .have h:0<=aP d (names.getD n ([],())).1:=gI h;have hlt:=NH h;have hb:=h5 _ (aaZ (l:=aH) (i:=(aP d (names.getD n ([],())).1).toNat) (by omega));dsimp only at hb;have hw:IntKind.i64.wrap (Sp.lv aH (aP d (names.getD n ([],())).1).toNat+more)=Sp.lv aH (aP d (names.getD n ([],())).1).toNat+more:=fQ _ (by omega);have e2:(aH.getD (aP d (names.getD n ([],())).1).toNat (0,())).1=Sp.lv aH (aP d (names.getD n ([],())).1).toNat:=rfl;refine⟨⟨h,by omega⟩,rfl,next _ λB=>?_⟩;rw[e2,hw,e];simp only[axb,axH];have:=hJ B;constructor
   .intro hB;have hc:c<=B:=by split at hB<;>omega
    have hv:Sp.lv aH (aP d (names.getD n ([],())).1).toNat+more<=B:=by split at hB<;>omega
    obtain⟨a,b⟩:=this.1 hc;refine⟨a,λx hx hx0=>?_⟩;rcases hx with hx|rfl
    .exact b x hx hx0
    .exact hv
   .rintro⟨a,b⟩;have hc:=this.2 ⟨a,λx hx=>b x (.inl hx)⟩;have hv:=b _ (.inr rfl) h;split<;>omega
  .have h:¬0<=aP d (names.getD n ([],())).1:=gY h;rw[hJ B,e];simp only[axb,axH];constructor
   .rintro⟨a,b⟩;refine⟨a,λx hx hx0=>?_⟩;rcases hx with hx|rfl
    .exact b x hx hx0
    .exact(h hx0).elim
   .exactλ⟨a,b⟩=>⟨a,λx hx=>b x (.inl hx)⟩
 .dsimp only;refine bV (by omega) (congrArg (·,()) ?_);rw[aw9]at hJ;have h6:=λB=>(hJ B).trans (JX (d:=d) (aH:=aH) (more:=more) names B).symm;have a:=(h6 c).1 (axv _);have b:=(h6 (zO d aH more names)).2 (axv _);omega
end Go.Proofs.Tryz
namespace Go.Proofs.Tryz
open Go Go.Fw Go.IntWalk Sp
theorem akw{d:List aV}{i:Nat}(hi:i<d.length){neg:Bool}{r:Sp.LS}(hr:dA r (fJ (dN d i).2.1 neg)){p:Nat}(hp:p<r.length)(h0:0<=aP d (r.getD p ([],())).1):
 (i,(aP d (r.getD p ([],())).1).toNat,if neg then 1 else 0)∈dV d:=by
 have hm:=getD_mem (d:=(([]:List UInt8),())) hp;have:=(hr.2 (r.getD p ([],())).1).1 hm;cases neg with
 |false=>exact Gi.2 ⟨hi,_,.inl ⟨rfl,this⟩,h0,rfl⟩
 |true=>exact Gi.2 ⟨hi,_,.inr ⟨rfl,this⟩,h0,rfl⟩
theorem Tz{d:List aV}{i j m:Nat}{neg:Bool}{r:Sp.LS}(hr:dA r (fJ (dN d i).2.1 neg))(he:(i,j,m)∈dV d)(hm:m=if neg then 1 else 0):
 ∃p,p<r.length/\0<=aP d (r.getD p ([],())).1/\j=(aP d (r.getD p ([],())).1).toNat:=by
 obtain⟨_,s,h2,h3,h4⟩:=Gi.1 he;have hs:s∈fJ (dN d i).2.1 neg:=by
  cases neg with
  |false=>rcases h2 with⟨_,h⟩|⟨h,_⟩;exact h;simp at hm;omega
  |true=>rcases h2 with⟨h,_⟩|⟨_,h⟩;simp at hm;omega;exact h
 have hm:=(hr.2 s).2 hs;obtain⟨p,hp,e⟩:=axu hm;have e2:r.getD p ([],())=(s,()):=by rw[awR,awV hp,e];rfl
 exact⟨p,hp,by rw[e2];exact h3,by rw[e2];exact h4⟩
theorem aqR:∀x,(uS.F x).1->∃t,(uS.F x).2 t:=by rintro⟨d,aH,_⟩ hp;obtain⟨_,_,h3,h4⟩:aI d/\d.length<=5/\aH.length=d.length/\∀x∈aH,0<=x.1/\x.1<=1000000:=hp;obtain⟨r,hr⟩:=anB d aH h3 λi hi=>(h4 _ (aaZ (by omega))).1;exact⟨((r,()),()),hr⟩
theorem aeW:OK uS.e:=by
 refine XA.ok mixed (ax [yG.e,zM.e,yF.e] ⟨Yi,Rl,Yg,trivial⟩) aib (aqR) (by kernel_rfl) (show∀d aH,uS.goal (afI d aH) (d,aH,())from ?_);intro d aH hin hp;dsimp only[uS]at hp ⊢;obtain⟨h1,h2,h3,h4⟩:aI d/\d.length<=5/\aH.length=d.length/\∀x∈aH,0<=x.1/\x.1<=1000000:=hp;have h0:∀i,i<d.length->0<=Sp.lv aH i/\Sp.lv aH i<=1000000:=λi hi=>h4 _ (aaZ (by omega));have hB:∀i,i<d.length->Sp.lv aH i<=1000000:=λi hi=>(h0 i hi).2;refine⟨by rw[bM];omega,?_⟩;refine bZ (λi(x:List (Int×Unit))=>((i,()),x,())) (λy=>y.1.1) (λ_ _=>rfl) d.length (by omega) (λi cur=>ML d aH cur (1000*i) λe=>e∈dV d/\e.1<i) ((ML.start h3).weaken (by omega) λe he=>by have:=he.2;omega) (λI μ i cur hi hJ next=>?_) λI μ cur hJ=>?_
 .dsimp only;rw[awX];refine bU (by omega) ⟨⟨by omega,by omega⟩,o6 h1 hi,?_⟩;rintro⟨⟨r,⟨⟩⟩,⟨⟩⟩ hr;have hr:dA r (fJ (dN d i).2.1 false):=hr;have hrl:r.length<=1000:=hr.1;refine bZ (λi(x:List (Int×Unit))=>((i,()),x,())) (λy=>y.1.1) (λ_ _=>rfl) r.length (by omega) (λp cur=>ML d aH cur (1000*i) λe=>e∈dV d/\(e.1<i\/(e.1=i/\e.2.2=0/\∃p',p'<p/\e.2.1=(aP d (r.getD p' ([],())).1).toNat/\0<=aP d (r.getD p' ([],())).1))) (hJ.weaken (axv _) λe he=>⟨he.1,by rcases he.2 with h|⟨_,_,_,h,_⟩;exact h;omega⟩) (λI1 μ1 p cur hp hJ apt=>?_) λI1 μ1 cur hJ=>?_
  .dsimp only;rw[awX];have hl:=hJ.len;have hP:∀e:Nat×Nat×Nat,(e∈dV d/\(e.1<i\/(e.1=i/\e.2.2=0/\∃p',p'<p+1/\e.2.1=(aP d (r.getD p' ([],())).1).toNat/\0<=aP d (r.getD p' ([],())).1)))->
    (e∈dV d/\(e.1<i\/(e.1=i/\e.2.2=0/\∃p',p'<p/\e.2.1=(aP d (r.getD p' ([],())).1).toNat/\0<=aP d (r.getD p' ([],())).1)))\/(e=(i,(aP d (r.getD p ([],())).1).toNat,0)/\0<=aP d (r.getD p ([],())).1):=by
    rintro⟨a,b,c⟩ ⟨he,h|⟨h,h5,p',h6,h7,h8⟩⟩
    .exact .inl ⟨he,.inl h⟩
    .by_cases hpp:p'=p
     .subst hpp;have h:a=i:=h;have h5:c=0:=h5;have h7:b=(aP d (r.getD p' ([],())).1).toNat:=h7;exact .inr ⟨by rw[h,h5,h7],h8⟩
     .exact .inl ⟨he,.inr ⟨h,h5,p',by omega,h7,h8⟩⟩
   refine bU (by omega) ⟨⟨by omega,by omega⟩,trivial,af (λh=>?_) λh=>⟨rfl,apt _ (hJ.weaken (axv _) λe he=>?_)⟩⟩
   .have h:0<=aP d (r.getD p ([],())).1:=gI h;have hlt:=NH h;have he:=akw hi hr hp h;refine⟨⟨h,by omega⟩,by omega,⟨by omega,by omega⟩,by omega,af (λhc=>⟨⟨h,by omega⟩,by omega,⟨by omega,by omega⟩,by omega,rfl,apt _ ?_⟩) λhc=>⟨rfl,apt _ ?_⟩⟩
    .have hc:Sp.lv cur i<Sp.lv cur (aP d (r.getD p ([],())).1).toNat:=gI hc;have:=hJ.set he (by show _<_+((0:Nat):Int);omega);have e0:Sp.lv cur (aP d (r.getD p ([],())).1).toNat+((if false=true then 1 else 0:Nat):Int)=Sp.lv cur (aP d (r.getD p ([],())).1).toNat:=by show _+((0:Nat):Int)=_;omega
     rw[e0]at this;exact this.weaken (by show 1000*(i:Int)+((0:Nat):Int)<=_;omega) λe he=>(hP e he).imp_right λh=>h.1
    .have hc:¬Sp.lv cur i<Sp.lv cur (aP d (r.getD p ([],())).1).toNat:=gY hc;have:=hJ.still he (by show _+((0:Nat):Int)<=_;omega);exact this.weaken (axv _) λe he=>(hP e he).imp_right λh=>h.1
   .have h:¬0<=aP d (r.getD p ([],())).1:=gY h;rcases hP e he with h'|h'
    .exact h'
    .exact(h h'.2).elim
  .dsimp only;have hJ2:ML d aH cur (1000*i) λe=>e∈dV d/\(e.1<i\/(e.1=i/\e.2.2=0)):=hJ.weaken (axv _) λe he=>⟨he.1,he.2.imp_right λh=>⟨h.1,h.2,by obtain⟨a,b,c⟩:=e;obtain⟨he,_⟩:=he;obtain⟨h,h5⟩:=h;have h:a=i:=h;have h5:c=0:=h5;subst h h5;obtain⟨p,q1,q2,q3⟩:=Tz hr he rfl;exact⟨p,q1,q3,q2⟩⟩⟩;clear hJ;refine bV (by omega) ⟨⟨by omega,by omega⟩,o6 h1 hi,?_⟩;rintro⟨⟨r2,⟨⟩⟩,⟨⟩⟩ hr2;have hr2:dA r2 (fJ (dN d i).2.1 true):=hr2;have hrl2:r2.length<=1000:=hr2.1;refine bZ (λi(x:List (Int×Unit))=>((i,()),x,())) (λy=>y.1.1) (λ_ _=>rfl) r2.length (by omega) (λp cur=>ML d aH cur (1000*i+p) λe=>e∈dV d/\(e.1<i\/(e.1=i/\e.2.2=0)\/(e.1=i/\e.2.2=1/\∃p',p'<p/\e.2.1=(aP d (r2.getD p' ([],())).1).toNat/\0<=aP d (r2.getD p' ([],())).1))) (hJ2.weaken (by omega) λe he=>⟨he.1,by rcases he.2 with h|h|⟨_,_,_,h,_⟩;exact .inl h;exact .inr h;omega⟩) (λI2 μ2 p cur hp hJ PG=>?_) λI2 μ2 cur hJ=>?_
   .dsimp only;rw[awX];have hl:=hJ.len;have hP:∀e:Nat×Nat×Nat,(e∈dV d/\(e.1<i\/(e.1=i/\e.2.2=0)\/(e.1=i/\e.2.2=1/\∃p',p'<p+1/\e.2.1=(aP d (r2.getD p' ([],())).1).toNat/\0<=aP d (r2.getD p' ([],())).1)))->
     (e∈dV d/\(e.1<i\/(e.1=i/\e.2.2=0)\/(e.1=i/\e.2.2=1/\∃p',p'<p/\e.2.1=(aP d (r2.getD p' ([],())).1).toNat/\0<=aP d (r2.getD p' ([],())).1)))\/(e=(i,(aP d (r2.getD p ([],())).1).toNat,1)/\0<=aP d (r2.getD p ([],())).1):=by
     rintro⟨a,b,c⟩ ⟨he,h|h|⟨h,h5,p',h6,h7,h8⟩⟩
     .exact .inl ⟨he,.inl h⟩
     .exact .inl ⟨he,.inr (.inl h)⟩
     .by_cases hpp:p'=p
      .subst hpp;have h:a=i:=h;have h5:c=1:=h5;have h7:b=(aP d (r2.getD p' ([],())).1).toNat:=h7;exact .inr ⟨by rw[h,h5,h7],h8⟩
      .exact .inl ⟨he,.inr (.inr ⟨h,h5,p',by omega,h7,h8⟩)⟩
    refine bU (by omega) ⟨⟨by omega,by omega⟩,trivial,af (λh=>?_) λh=>⟨rfl,PG _ (hJ.weaken (by omega) λe he=>?_)⟩⟩
    .have h:0<=aP d (r2.getD p ([],())).1:=gI h;have hlt:=NH h;have he:=akw hi hr2 hp h;have hg:=hJ.grow 1000000 hB (aP d (r2.getD p ([],())).1).toNat (by omega);have hu:=hJ.up (aP d (r2.getD p ([],())).1).toNat (by omega);have hz:=(h0 (aP d (r2.getD p ([],())).1).toNat (by omega)).1;have hw:IntKind.i64.wrap (Sp.lv cur (aP d (r2.getD p ([],())).1).toNat+1)=Sp.lv cur (aP d (r2.getD p ([],())).1).toNat+1:=fQ _ (by omega);have e2:(cur.getD (aP d (r2.getD p ([],())).1).toNat (0,())).1=Sp.lv cur (aP d (r2.getD p ([],())).1).toNat:=rfl;rw[e2,hw];refine⟨⟨h,by omega⟩,by omega,⟨by omega,by omega⟩,by omega,af (λhc=>⟨⟨h,by omega⟩,by omega,⟨by omega,by omega⟩,by omega,rfl,PG _ ?_⟩) λhc=>⟨rfl,PG _ ?_⟩⟩
     .have hc:Sp.lv cur i<Sp.lv cur (aP d (r2.getD p ([],())).1).toNat+1:=gI hc;have:=hJ.set he (by show _<_+((1:Nat):Int);omega);exact this.weaken (by show 1000*(i:Int)+p+((1:Nat):Int)<=_;omega) λe he=>(hP e he).imp_right λh=>h.1
     .have hc:¬Sp.lv cur i<Sp.lv cur (aP d (r2.getD p ([],())).1).toNat+1:=gY hc;have:=hJ.still he (by show _+((1:Nat):Int)<=_;omega);exact this.weaken (by omega) λe he=>(hP e he).imp_right λh=>h.1
    .have h:¬0<=aP d (r2.getD p ([],())).1:=gY h;rcases hP e he with h'|h'
     .exact h'
     .exact(h h'.2).elim
   .dsimp only;refine bV (by omega) ⟨rfl,next _ (hJ.weaken (by omega) λe he=>⟨he.1,?_⟩)⟩;obtain⟨a,b,c⟩:=e;obtain⟨he,h⟩:=he;have h:a<i+1:=h;rcases aw8 a i with h'|h'
    .exact .inl h'
    .have:a=i:=by omega
     subst this;obtain⟨_,_,hc⟩:=lg d _ he;have hc:c<=1:=hc;rcases ayD c with hc0|hc0
     .exact .inr (.inl ⟨rfl,hc0⟩)
     .have hc1:c=1:=by omega
      subst hc1;obtain⟨p,q1,q2,q3⟩:=Tz hr2 he rfl;exact .inr (.inr ⟨rfl,rfl,p,q1,q3,q2⟩)
 .dsimp only;refine bV (by omega) ?_;exact hJ.raised (by omega) (λe he=>⟨he,(lg d e he).1⟩) λi hi=>(h0 i hi).1
end Go.Proofs.Tryz
namespace Go.Proofs.Tryz
open Go Go.Fw Go.IntWalk Sp
theorem aaO{d:List aV}{aH r:List (Int×Unit)}(h:Sp.raised d aH r)(h0:∀i,i<d.length->0<=Sp.lv aH i)(hp:jo (dV d) λi=>(Sp.lv aH i).toNat):∀i,i<d.length->Sp.lv r i=Sp.lv aH i:=by obtain⟨_,h2,_,_,h5⟩:=h;intro i hi;have a:Sp.lv aH i<=Sp.lv r i:=h2 i hi;have b:Sp.lv r i<=((Sp.lv aH i).toNat:Int):=h5 _ hp (λj hj=>by have:=h0 j hj;show Sp.lv aH j<=((Sp.lv aH j).toNat:Int);omega) i hi;have:=h0 i hi;omega
theorem amv{d:List aV}{aH r:List (Int×Unit)}(h:Sp.raised d aH r)(hp:¬jo (dV d) λi=>(Sp.lv aH i).toNat):∃i,i<d.length/\Sp.lv aH i<Sp.lv r i:=by obtain⟨_,h2,_,h4,_⟩:=h;refine axr λhno=>hp (h4 λi hi=>?_);have a:Sp.lv aH i<=Sp.lv r i:=h2 i hi;have b:¬Sp.lv aH i<Sp.lv r i:=λh=>hno ⟨i,hi,h⟩;show Sp.lv r i=Sp.lv aH i;omega
theorem akk{d:List aV}(h1:gm d=true){L:Nat->Nat}(h2:jo (dV d) L):aB d=true:=lH.2 ⟨h1,L,h2⟩
theorem amw{d:List aV}(h:∀M,jo (dV d) M->(∀i,i<d.length->M i<d.length)->False):aB d=false:=by rw[ax6];intro h1;obtain⟨_,h2⟩:=lH.1 h1;obtain⟨M,h3,h4⟩:=KZ (lg d) h2;exact h M h3 h4
theorem akl{d:List aV}(h:gm d=false):aB d=false:=by rw[ax6];intro h1;rw[(lH.1 h1).1]at h;cases h
theorem VH(n i:Nat):Sp.lv (List.replicate n (0,())) i=0:=by
 unfold Sp.lv;rw[awR];by_cases h:i<n
 .rw[ayL,if_pos h];rfl
 .rw[axE (by simp;omega)];rfl
theorem aeV{d:List aV}(h:aB d=true):∃s,kX d s:=by obtain⟨hok,h2⟩:=lH.1 h;exact agQ (KZ (lg d) h2)
theorem agR{d:List aV}:∃s:List (Int×Unit),(aB d=true->kX d s)/\(aB d=false->s=[]):=by
 cases h:aB d with
 |true=>obtain⟨s,hs⟩:=aeV h;exact⟨s,λ_=>hs,λh=>by cases h⟩
 |false=>exact⟨[],λh=>(by cases h),λ_=>rfl⟩
theorem Ho:OK vM.e:=by
 refine XA.ok mixed (ax [sG.e,uS.e,zI.e] ⟨FT,aeW,YU,trivial⟩) akV (λ⟨d,_⟩ hp=>by obtain⟨s,h1,h2⟩:=agR (d:=d);exact⟨(((s,aB d,()),())),⟨rfl,h1,h2⟩⟩) (by kernel_rfl) (show∀d,vM.goal (ai3 d) (d,())from ?_);intro d hin hp;dsimp only[vM]at hp ⊢;have hp:aI d:=hp;refine⟨hp,af (λh=>⟨(akl (dY h)).symm,λh=>(by cases h),λ_=>rfl⟩) λh=>?_⟩;have hok:=dw h;have hlen:=Xj hok;refine⟨⟨by omega,by omega,by rw[bM];omega⟩,?_⟩;have hnn:d.length*d.length<=25:=az3 hlen hlen;have e1:(d.length:Int)*(d.length:Int)=((d.length*d.length:Nat):Int):=by simp
 have w:IntKind.i64.wrap (IntKind.i64.wrap ((d.length:Int)*(d.length:Int))+1)=((d.length*d.length:Nat):Int)+1:=by rw[e1,fQ ((d.length*d.length:Nat):Int) (by omega)];exact fQ _ (by omega)
 rw[w];have hmem:∀aH:List (Int×Unit),aH.length=d.length->∀k:Nat,k<=27->(∀i,i<d.length->0<=Sp.lv aH i/\Sp.lv aH i<=5000*k)->∀x∈aH,0<=x.1/\x.1<=1000000:=λaH hl k hk h=>
  amx (p:=λz=>0<=z/\z<=1000000) λi hi=>by have:=h i (by omega);omega
 refine bZ (λi(x:List (Int×Unit))=>((x,i,()),())) (λy=>y.1.2.1) (λ_ _=>rfl) (d.length*d.length+2) (by omega)
  (λk aH=>aH.length=d.length/\(∀i,i<d.length->0<=Sp.lv aH i/\Sp.lv aH i<=5000*k)/\(∀M,jo (dV d) M->∀i,i<d.length->Sp.lv aH i<=M i)/\((jo (dV d) λi=>(Sp.lv aH i).toNat)\/(k:Int)<=AL aH d.length))
  ⟨by simp,λi hi=>by rw[awX,VH];omega,λM hM i hi=>by rw[awX,VH];omega,.inr (aaP _ λi hi=>by rw[awX,VH];omega)⟩ (λI μ k aH hk hJ next=>?_) λI μ aH hJ=>?_
 .obtain⟨g1,g2,g3,g4⟩:=hJ;dsimp only;refine bU (by omega) ⟨⟨hp,hlen,g1,hmem aH g1 k (by omega) g2⟩,?_⟩;rintro⟨⟨r,⟨⟩⟩,⟨⟩⟩ hr;have hr:Sp.raised d aH r:=hr;have hr':=hr;obtain⟨q1,q2,q3,q4,q5⟩:=hr';have hup:∀i,i<d.length->Sp.lv aH i<=Sp.lv r i:=q2;refine⟨rfl,next r ⟨q1,λi hi=>?_,λM hM i hi=>q5 M hM (g3 M hM) i hi,?_⟩⟩
  .have a:=hup i hi;have b:=q3 (5000*k) (λj hj=>(g2 j hj).2) i hi;have b:Sp.lv r i<=5000*k+5000:=b;have c:=g2 i hi;omega
  .by_cases hpf:jo (dV d) λi=>(Sp.lv aH i).toNat
   .left;have hs:=aaO hr (λi hi=>(g2 i hi).1) hpf;intro e he;have:=hpf e he;obtain⟨a,b,_⟩:=lg d e he;dsimp only at this ⊢;rw[hs _ a,hs _ b];exact this
   .right;have hm:=aeX d.length hup (amv hr hpf);rcases g4 with g4|g4
    .exact(hpf g4).elim
    .omega
 .obtain⟨g1,g2,g3,g4⟩:=hJ;dsimp only;refine bV (by omega) ⟨⟨hp,hlen,g1,hmem aH g1 _ (by omega) g2⟩,?_⟩;rintro⟨⟨r,⟨⟩⟩,⟨⟩⟩ hr;have hr:Sp.raised d aH r:=hr;refine⟨trivial,af (λhne=>?_) λhe=>?_⟩
  .have hne:¬r=aH:=gY (dY hne);refine⟨(amw λM hM hb=>?_).symm,λh=>(by cases h),λ_=>rfl⟩;rcases g4 with g4|g4
   .exact hne (aqw (by rw[hr.1,g1]) λi hi=>aaO hr (λi hi=>(g2 i hi).1) g4 i (by rw[← hr.1];exact hi))
   .have:=Um (a:=aH) (b:=d.length) d.length λi hi=>by have a:=g3 M hM i hi;have b:=hb i hi;omega
    omega
  .have he:r=aH:=gI (dw he);subst he;have hpf:=hr.2.2.2.1 λi hi=>rfl;obtain⟨M,hM,hb⟩:=KZ (lg d) ⟨_,hpf⟩;exact⟨(akk hok hpf).symm,λ_=>⟨g1,λi hi=>⟨(g2 i hi).1,by have a:=g3 M hM i hi;have b:=hb i hi;omega⟩,hpf,g3⟩,λh=>by cases h⟩
theorem VI:OK EF.e:=by
 refine XA.ok mixed (ax [yE.e,zN.e,yD.e,zJ.e] ⟨Xk,YV,Xl,YW,trivial⟩) akW (λ⟨d,_⟩ hp=>by obtain⟨s,h1,h2⟩:=agR (d:=d);exact⟨(((s,aB d,()),())),⟨rfl,h1⟩⟩) (by kernel_rfl) (show∀d,EF.goal (ai4 d) (d,())from ?_);intro d hin hp;dsimp only[EF]at hp ⊢;have hp:aI d:=hp;refine⟨hp,af (λh=>⟨(akl (dY h)).symm,λh=>by cases h⟩) λh=>?_⟩;have hok:=dw h;have hlen:=Xj hok;refine⟨⟨by omega,by omega,by rw[bM];omega⟩,?_⟩;have hmem:∀aH:List (Int×Unit),aH.length=d.length->(∀i,i<d.length->0<=Sp.lv aH i/\Sp.lv aH i<=d.length)->∀x∈aH,0<=x.1/\x.1<=1000000:=λaH hl h=>
  amx (p:=λz=>0<=z/\z<=1000000) λi hi=>by have:=h i (by omega);omega
 refine⟨λy=>y.2.1.length=d.length/\(∀i,i<d.length->0<=Sp.lv y.2.1 i/\Sp.lv y.2.1 i<=d.length)/\(∀M,jo (dV d) M->∀i,i<d.length->Sp.lv y.2.1 i<=M i)/\(y.1.1=false->jo (dV d) λi=>(Sp.lv y.2.1 i).toNat),
  λy=>(((d.length*d.length:Nat):Int)-AL y.2.1 d.length).toNat*2+(if y.1.1=true then 1 else 0),⟨by simp,λi hi=>by rw[awX,VH];omega,λM hM i hi=>by rw[awX,VH];omega,λh=>by cases h⟩,?_⟩
 rintro⟨⟨ch,⟨⟩⟩,aH,⟨⟩⟩ ⟨g1,g2,g3,g4⟩;dsimp only at g1 g2 g3 g4 ⊢;refine af (λhch=>?_) λhch=>⟨(akk hok (g4 hch)).symm,λ_=>⟨g1,g2,g4 hch,g3⟩⟩;subst hch;refine bZ (λi(x:Bool×List (Int×Unit))=>((x.1,i,()),x.2,())) (λy=>y.1.2.1) (λ_ _=>rfl) d.length (by omega)
  (λi(x:Bool×List (Int×Unit))=>x.2.length=d.length/\(∀i,i<d.length->Sp.lv aH i<=Sp.lv x.2 i/\Sp.lv x.2 i<=d.length)/\(∀M,jo (dV d) M->∀i,i<d.length->Sp.lv x.2 i<=M i)/\
    (x.1=true->AL aH d.length<AL x.2 d.length)/\(x.1=false->x.2=aH/\∀e∈dV d,e.1<i->Sp.lv aH e.2.1+e.2.2<=Sp.lv aH e.1))
  (s0:=(false,aH)) ⟨g1,λi hi=>⟨axv _,(g2 i hi).2⟩,g3,λh=>(by cases h),λ_=>⟨rfl,λe _ h=>by omega⟩⟩ (λI μ i x hi hJ next=>?_) λI μ x hJ=>?_
 .obtain⟨c,cur⟩:=x;obtain⟨q1,q2,q3,q4,q5⟩:=hJ;have q1:cur.length=d.length:=q1;have hcur:∀i,i<d.length->0<=Sp.lv cur i/\Sp.lv cur i<=d.length:=λi hi=>⟨Int.le_trans (g2 i hi).1 (q2 i hi).1,(q2 i hi).2⟩;have hm:=hmem cur q1 hcur;dsimp only;rw[awX];refine bU (by omega) ⟨⟨by omega,by omega⟩,o6 hp hi,?_⟩;rintro⟨⟨r4,⟨⟩⟩,⟨⟩⟩ hr4;have hr4:dA r4 (fJ (dN d i).2.1 false):=hr4;refine⟨⟨by omega,hr4.1,by omega,by omega,hm⟩,o6 hp hi,?_⟩;rintro⟨⟨r6,⟨⟩⟩,⟨⟩⟩ Tv;have Tv:dA r6 (fJ (dN d i).2.1 true):=Tv;refine⟨⟨by omega,Tv.1,by omega,by omega,hm⟩,?_⟩;dsimp only;have hle:∀M,jo (dV d) M->zO d cur 0 r4<=M i/\zO d cur 1 r6<=M i:=by
   intro M hM;refine⟨(JX r4 _).2 ⟨by omega,λx hx h0=>?_⟩,(JX r6 _).2 ⟨by omega,λx hx h0=>?_⟩⟩
   .have he:=Gi.2 ⟨hi,x.1,.inl ⟨rfl,(hr4.2 x.1).1 hx⟩,h0,rfl⟩;have a:=hM _ he;have a:M (aP d x.1).toNat+0<=M i:=a;have b:=q3 M hM _ (lg d _ he).2.1;have b:Sp.lv cur (aP d x.1).toNat<=M (aP d x.1).toNat:=b;omega
   .have he:=Gi.2 ⟨hi,x.1,.inr ⟨rfl,(Tv.2 x.1).1 hx⟩,h0,rfl⟩;have a:=hM _ he;have a:M (aP d x.1).toNat+1<=M i:=a;have b:=q3 M hM _ (lg d _ he).2.1;have b:Sp.lv cur (aP d x.1).toNat<=M (aP d x.1).toNat:=b;omega
  have hge:∀e∈dV d,e.1=i->Sp.lv cur e.2.1+e.2.2<=zO d cur 0 r4\/Sp.lv cur e.2.1+e.2.2<=zO d cur 1 r6:=by
   rintro⟨a,b,m⟩ he ha;have ha:a=i:=ha;subst ha;have hm1:m<=1:=(lg d _ he).2.2;rcases ayD m with h|h
   .subst h;obtain⟨p,p1,p2,p3⟩:=Tz hr4 he rfl;left;have:=((JX (d:=d) (aH:=cur) (more:=0) r4 _).1 (axv _)).2 _ (getD_mem (d:=(([]:List UInt8),())) p1) p2;show Sp.lv cur b+((0:Nat):Int)<=_;rw[p3];omega
   .have:m=1:=by omega
    subst this;obtain⟨p,p1,p2,p3⟩:=Tz Tv he rfl;right;have:=((JX (d:=d) (aH:=cur) (more:=1) r6 _).1 (axv _)).2 _ (getD_mem (d:=(([]:List UInt8),())) p1) p2;show Sp.lv cur b+((1:Nat):Int)<=_;rw[p3];omega
  generalize zO d cur 0 r4=u at hle hge ⊢;generalize zO d cur 1 r6=v at hle hge ⊢;have hv:∃z,(if v>u then v else u)=z/\u<=z/\v<=z/\(z=u\/z=v):=by refine⟨_,rfl,?_,?_,?_⟩<;>split<;>omega
  obtain⟨z,ez,hz1,hz2,hz3⟩:=hv;rw[ez];have e2:(cur.getD i (0,())).1=Sp.lv cur i:=rfl;rw[e2];refine af (λhbig=>?_) λhbig=>⟨⟨by omega,by omega⟩,by omega,af (λhup=>⟨⟨by omega,by omega⟩,by omega,rfl,next (true,cur.set i (z,())) ?_⟩) λhup=>⟨rfl,next (c,cur) ?_⟩⟩
  .have hbig:z>(d.length:Int):=gI hbig;refine⟨(amw λM hM hb=>?_).symm,λh=>by cases h⟩;have a:=hle M hM;have b:=hb i hi;omega
  .have hbig:¬z>(d.length:Int):=gY hbig;have hup:z>Sp.lv cur i:=gI hup;have hs:=λk=>amy (l:=cur) (i:=i) (by omega) z k;refine⟨by simp;omega,λk hk=>?_,λM hM k hk=>?_,λ_=>?_,λh=>by cases h⟩
   .dsimp only;rw[hs];have:=q2 k hk;dsimp only at this;split
    .next e=>subst e;omega
    .exact this
   .dsimp only;rw[hs];split
    .next e=>subst e;have:=hle M hM;omega
    .exact q3 M hM k hk
   .have a:=aeY (a:=aH) (b:=cur) d.length λk hk=>(q2 k hk).1;have hsk:∀k,k<d.length->Sp.lv cur k<=Sp.lv (cur.set i (z,())) k:=λk hk=>by
     rw[hs];split
     .next e=>subst e;omega
     .exact axv _
    have b:=aeX (a:=cur) (b:=cur.set i (z,())) d.length hsk ⟨i,hi,by rw[hs,if_pos rfl];omega⟩;show AL aH d.length<AL (cur.set i (z,())) d.length;omega
  .have hup:¬z>Sp.lv cur i:=gY hup;refine⟨q1,q2,q3,q4,λh=>?_⟩;obtain⟨a,b⟩:=q5 h;have a:cur=aH:=a;subst a;refine⟨rfl,λe he hlt=>?_⟩;rcases aw8 e.1 i with h'|h'
   .exact b e he h'
   .have Vp:e.1=i:=by omega
    have:=hge e he Vp;rw[Vp];omega
 .obtain⟨c,cur⟩:=x;obtain⟨q1,q2,q3,q4,q5⟩:=hJ;dsimp only at q1 q2 q3 q4 q5 ⊢;have hcur:∀i,i<d.length->0<=Sp.lv cur i/\Sp.lv cur i<=d.length:=λi hi=>⟨Int.le_trans (g2 i hi).1 (q2 i hi).1,(q2 i hi).2⟩;have hsum:=Um (a:=cur) (b:=d.length) d.length λi hi=>(q2 i hi).2;refine bV (by omega) ⟨rfl,⟨q1,hcur,q3,λhc e he=>?_⟩,?_⟩
  .obtain⟨a,b⟩:=q5 hc;subst a;obtain⟨x1,x2,_⟩:=lg d e he;have:=b e he x1;have y1:=(hcur _ x1).1;have y2:=(hcur _ x2).1;dsimp only;omega
  .cases c with
   |true=>
    have:=q4 rfl;simp only[if_true];omega
   |false=>obtain⟨a,_⟩:=q5 rfl;subst a;simp
theorem Xm:OK yH.e:=by refine PA.ok mixed (ax [vM.e] ⟨Ho,trivial⟩) H0 (by kernel_rfl) (show∀d,yH.goal (Xn d) (d,())from ?_);intro d hin hp;dsimp only[yH]at hp ⊢;refine⟨hp,λr hr=>?_⟩;exact ayK hr.1 rfl
end Go.Proofs.Tryz
namespace Go.Proofs.Tryz
open Go Go.Fw Go.IntWalk Sp
theorem agS:aB [([100,97],[(1,0,0,[],0,0,[],())],())]=true:=lH.2 ⟨by kernel_rfl,λ_=>0,λe he=>by rw[show dV [([100,97],[(1,0,0,[],0,0,[],())],())]=[] by kernel_rfl]at he;cases he⟩
theorem TA:OK CO.e:=by
 refine XA.ok mixed (ax [yH.e,CJ.e] ⟨Xm,TB,trivial⟩) ai5 (λ_ _=>⟨(([([100,97],[(1,0,0,[],0,0,[],())],())],()),(([],0,0,()),())),⟨by decide,by decide,La Es (by simp) (by simp),agS,by decide⟩⟩) (by kernel_rfl) (show∀c0 c1 c2,CO.goal (agT c0 c1 c2) ((c0,c1,c2,()),())from ?_);intro b i h hin hp;dsimp only[CO]at hp ⊢;have hp:0<=i:=hp;refine⟨hp,?_⟩;rintro⟨⟨d,_⟩,⟨b1,i1,h1,_⟩,_⟩ ⟨q1,q2,q3,q4⟩;dsimp only at q1 q2 q3 q4 ⊢;have fin:∀l:List aV,l.length<=4->aI l->(0<l.length->aB l=true)->(bif (l.length:Int)==(0:Int)then 0<=i1/\([(([100,97]:List UInt8),[((1:Int),(0:Int),(0:Int),([]:List UInt8),(0:Int),(0:Int),([]:List UInt8),())],())]:List aV).length<=10/\aI [([100,97],[(1,0,0,[],0,0,[],())],())]/\aB [([100,97],[(1,0,0,[],0,0,[],())],())]=true/\0<[(([100,97]:List UInt8),[((1:Int),(0:Int),(0:Int),([]:List UInt8),(0:Int),(0:Int),([]:List UInt8),())],())].length else 0<=i1/\l.length<=10/\aI l/\aB l=true/\0<l.length):=λl hl hs hst=>
  af (λ_=>⟨q1,by simp,La Es (by simp) (by simp),agS,by simp⟩) λh0=>have h1:0<l.length:=(by have h0:¬(l.length:Int)=0:=awS.1 h0;omega);⟨q1,by omega,hs,hst h1,h1⟩
 refine⟨λy=>y.1.1.length<=4/\aI y.1.1,λy=>y.1.1.length,⟨q3,q4⟩,?_⟩;rintro⟨⟨l,⟨⟩⟩,⟨⟩⟩ ⟨g1,g2⟩;dsimp only at g1 g2 ⊢;refine af (λhc=>⟨g2,af (λ_=>?_) λhst=>fin l g1 g2 λ_=>dw hst⟩) λhc=>fin l g1 g2 λh=>(by have:=gY hc;omega);have hc:0<l.length:=by have:=gI hc;omega
 rw[xG hc (by omega),ax3,awX];exact⟨⟨by omega,by omega⟩,rfl,⟨by rw[awT];omega,ant _ g2⟩,by dsimp only;rw[awT];omega⟩
end Go.Proofs.Tryz
namespace Go.Proofs.Tryz
open Go Go.Fw Go.IntWalk Sp
theorem Xo:∀{l:List aS}{n:Nat}{s:Sp.Bytes},n<l.length->(∀i,i<n->(cu l i).1≠s)->(cu l n).1=s->bf l s=(cu l n).2
 |[],n,_,h,_,_=>by simp at h
 |x::r,0,s,_,_,e=>by
  have e:x.1=s:=e;rw[bf,awZ.2 e];rfl
 |x::r,n+1,s,h,hn,e=>by have h0:x.1≠s:=hn 0 (by omega);rw[bf,awS.2 h0];exact Xo (l:=r) (by simpa using h) (λi hi=>hn (i+1) (by omega)) e
theorem QL:∀{l:List aS}{s:Sp.Bytes},(∀i,i<l.length->(cu l i).1≠s)->bf l s=(0,0,[],())
 |[],_,_=>rfl
 |x::r,s,h=>by have h0:x.1≠s:=h 0 (by simp);rw[bf,awS.2 h0];exact QL λi hi=>h (i+1) (by simpa using hi)
theorem Lc:OK sH.e:=by
 refine PA.ok mixed (ax [] trivial) ai6 (by kernel_rfl) (show∀f0 f1 f2 f3 f4 name,sH.goal (agU f0 f1 f2 f3 f4 name) ((f0,f1,f2,f3,f4,()),name,())from ?_);intro f0 f1 f2 f3 l s hin hp;dsimp only[sH]at hp ⊢;have hlen:l.length<=maxLen:=hin.1.2.2.2.2.1.1;rw[maxLen_eq]at hlen;refine je l.length hlen (λn=>∀i,i<n->(cu l i).1≠s) (λi hi=>by omega) (λI μ n hn hJ next=>?_) λI μ hJ=>?_
 .dsimp only;refine bU (by omega) ⟨⟨by omega,by omega⟩,af (λh=>?_) λh=>⟨rfl,next λi hi=>?_⟩⟩
  .exact congrArg (·,()) (Xo hn hJ (awZ.1 h)).symm
  .rcases aw8 i n with h'|h'
   .exact hJ i h'
   .have:i=n:=by omega
    rw[this];exact awS.1 h
 .dsimp only;exact bV (by omega) (congrArg (·,()) (QL hJ).symm)
theorem Ld:OK sJ.e:=by
 refine PA.ok mixed (ax [] trivial) ai7 (by kernel_rfl) (show∀f0 f1 f2 f3 f4 name,sJ.goal (agV f0 f1 f2 f3 f4 name) ((f0,f1,f2,f3,f4,()),name,())from ?_);intro f0 f1 f2 f3 l s hin hp;dsimp only[sJ]at hp ⊢;have hlen:l.length<=maxLen:=hin.1.2.2.2.2.1.1;rw[maxLen_eq]at hlen;refine je l.length hlen (λn=>∀i,i<n->(cu l i).1≠s) (λi hi=>by omega) (λI μ n hn hJ next=>?_) λI μ hJ=>?_
 .dsimp only;refine bU (by omega) ⟨⟨by omega,by omega⟩,af (λh=>⟨⟨by omega,by omega⟩,?_⟩) λh=>⟨rfl,next λi hi=>?_⟩⟩
  .exact congrArg (·,()) (Xo hn hJ (awZ.1 h)).symm
  .rcases aw8 i n with h'|h'
   .exact hJ i h'
   .have:i=n:=by omega
    rw[this];exact awS.1 h
 .dsimp only;exact bV (by omega) (congrArg (·,()) (QL hJ).symm)
theorem agW:OK CU.e:=by
 refine PA.ok mixed (ax [sH.e] ⟨Lc,trivial⟩) H0 (by kernel_rfl) (show∀f0 f1 f2 f3 f4 name,CU.goal (agX f0 f1 f2 f3 f4 name) ((f0,f1,f2,f3,f4,()),name,())from ?_);intro f0 f1 f2 f3 l s hin hp;dsimp only[CU]at hp ⊢;refine⟨trivial,?_⟩;cases h:((bf l s).1==1)with
 |true=>dsimp only[bne];rw[h];rfl
 |false=>dsimp only[bne];rw[h];rfl
theorem akm{α β:Type}[BEq β][LawfulBEq β](g:α->β)(v:β)(s:List α):Sp.findAt (λx=>v==g x) s=Sp.findAt (λx=>g x==v) s:=by
 congr 1
 funext x
 rw[axf,awZ,awZ];exact eq_comm
theorem YX:OK zS.e:=by refine PA.ok mixed (ax [] trivial) aaQ (by kernel_rfl) (show∀s v,zS.goal (YZ s v) (s,v,())from ?_);intro s v hin hp;dsimp only[zS]at hp ⊢;exact aqx (K:=λr=>r=(Sp.findAt (λx=>x.1==v) s,())) (λx:Int×Unit=>v==x.1) (0,()) s _ hin.1.1 (by rw[akm])
theorem Un:OK uT.e:=by refine PA.ok mixed (ax [] trivial) VJ (by kernel_rfl) (show∀s v,uT.goal (Uo s v) (s,v,())from ?_);intro s v hin hp;dsimp only[uT]at hp ⊢;exact aqx (K:=λr=>r=(Sp.findAt (λx=>x.1==v) s,())) (λx:List UInt8×Unit=>v==x.1) ([],()) s _ hin.1.1 (by rw[akm])
theorem IJ:OK pz.e:=by refine PA.ok mixed (ax [zS.e] ⟨YX,trivial⟩) H0 (by kernel_rfl) (show∀s v,pz.goal (Ur s v) (s,v,())from ?_);intro s v hin hp;dsimp only[pz]at hp ⊢;exact⟨trivial,congrArg (·,()) (Xp _ s)⟩
theorem qj:OK jw.e:=by refine PA.ok mixed (ax [uT.e] ⟨Un,trivial⟩) H0 (by kernel_rfl) (show∀s v,jw.goal (PD s v) (s,v,())from ?_);intro s v hin hp;dsimp only[jw]at hp ⊢;exact⟨trivial,congrArg (·,()) (Xp _ s)⟩
theorem N7:OK qR.e:=by refine PA.ok mixed (ax [pz.e] ⟨IJ,trivial⟩) H0 (by kernel_rfl) (show∀ids id,qR.goal (aaR ids id) (ids,id,())from ?_);intro s v hin hp;dsimp only[qR]at hp ⊢;exact⟨trivial,rfl⟩
theorem Gj:OK nD.e:=by refine PA.ok mixed (ax [] trivial) acQ (by kernel_rfl) (show∀ids id,nD.goal (aaS ids id) (ids,id,())from ?_);intro s v hin hp;dsimp only[nD]at hp ⊢;exact arH (K:=λr=>r=(fE s v,())) (λx:Int×Unit=>x.1==v) (0,()) s _ hin.1.1 rfl
theorem MC:OK tN.e:=by refine PA.ok mixed (ax [] trivial) aaT (by kernel_rfl) (show∀s,tN.goal (Y0 s) (s,())from ?_);intro s hin hp;dsimp only[tN]at hp ⊢;have hp:s.length<=1000:=hp;intro g hg;refine af (λh=>?_) λh=>⟨by rw[bM];omega,rfl⟩;exact congrArg (·,()) (axS.1 (hg h)).symm
abbrev oW:dI:=([],[],())
theorem JY{r:List dI}(h:aU r){n:Nat}(hn:n<r.length):(r.getD n oW).2.1.length<=1000:=h.2 _ (getD_mem (d:=oW) hn)
theorem agY{r:List dI}{n:Nat}{s:Sp.Bytes}(hn:n<r.length)(hJ:∀i,i<n->(tJ r i).1≠s)(e:(tJ r n).1=s):fF r s=iU r n:=by rw[← e];exact aaU hn λj hj=>by rw[e];exact hJ j hj
theorem BV:OK lZ.e:=by
 refine PA.ok mixed (ax [tN.e] ⟨MC,trivial⟩) aeZ (by kernel_rfl) (show∀Hz name,lZ.goal (acR Hz name) (Hz,name,())from ?_);intro r s hin hp;dsimp only[lZ]at hp ⊢;have hp:aU r:=hp;have hlen:r.length<=1000:=hp.1;refine je r.length (by omega) (λn=>∀i,i<n->(tJ r i).1≠s) (λi hi=>by omega) (λI μ n hn hJ next=>?_) λI μ hJ=>?_
 .dsimp only;refine bU (by omega) ⟨⟨by omega,by omega⟩,af (λh=>⟨JY hp hn,?_⟩) λh=>⟨rfl,next λi hi=>?_⟩⟩
  .exact congrArg (·,()) (agY hn hJ (awZ.1 h)).symm
  .rcases aw8 i n with h'|h'
   .exact hJ i h'
   .have:i=n:=by omega
    rw[this];exact awS.1 h
 .dsimp only;exact bV (by omega) (congrArg (·,()) (Nz hJ).symm)
theorem BZ:OK l7.e:=by
 refine PA.ok mixed (ax [] trivial) ae0 (by kernel_rfl) (show∀a name,l7.goal (acS a name) (a,name,())from ?_);intro r s hin hp;dsimp only[l7]at hp ⊢;have hp:aU r:=hp;have hlen:r.length<=1000:=hp.1;refine je r.length (by omega) (λn=>∀i,i<n->(tJ r i).1≠s) (λi hi=>by omega) (λI μ n hn hJ next=>?_) λI μ hJ=>?_
 .dsimp only;refine bU (by omega) ⟨⟨by omega,by omega⟩,af (λh=>⟨⟨by omega,by omega⟩,by have:(r.getD n ([],[],())).2.1.length<=1000:=JY hp hn;rw[bM,awX];omega,?_⟩) λh=>⟨rfl,next λi hi=>?_⟩⟩
  .exact congrArg (·,()) (agY hn hJ (awZ.1 h)).symm
  .rcases aw8 i n with h'|h'
   .exact hJ i h'
   .have:i=n:=by omega
    rw[this];exact awS.1 h
 .dsimp only;exact bV (by omega) (congrArg (·,()) (Nz hJ).symm)
theorem ae1{q:List bI}{f:aF}{X:BX}{a:Nat}(h5:(Sp.nodeAt q a).1≠5)(h6:(Sp.nodeAt q a).1≠6)(h7:(Sp.nodeAt q a).1≠7):Sp.val q f X a=iY (Sp.nodeAt q a) f X:=by rw[N8,if_neg h5,if_neg h6,if_neg h7]
theorem an8{q:List bI}{f:aF}{X:BX}{a:Nat}(h5:(Sp.nodeAt q a).1=5)(hl:(Sp.nodeAt q a).2.1.toNat<a):Sp.val q f X a=!Sp.val q f X (Sp.nodeAt q a).2.1.toNat:=by rw[N8 q f X a,if_pos h5,dif_pos hl]
theorem an9{q:List bI}{f:aF}{X:BX}{a:Nat}(h6:(Sp.nodeAt q a).1=6)(hl:(Sp.nodeAt q a).2.1.toNat<a/\(Sp.nodeAt q a).2.2.1.toNat<a):Sp.val q f X a=(Sp.val q f X (Sp.nodeAt q a).2.1.toNat&&Sp.val q f X (Sp.nodeAt q a).2.2.1.toNat):=by rw[N8 q f X a,if_neg (by omega),if_pos h6,dif_pos hl]
theorem aqy{q:List bI}{f:aF}{X:BX}{a:Nat}(h7:(Sp.nodeAt q a).1=7)(hl:(Sp.nodeAt q a).2.1.toNat<a/\(Sp.nodeAt q a).2.2.1.toNat<a):Sp.val q f X a=(Sp.val q f X (Sp.nodeAt q a).2.1.toNat||Sp.val q f X (Sp.nodeAt q a).2.2.1.toNat):=by rw[N8 q f X a,if_neg (by omega),if_neg (by omega),if_pos h7,dif_pos hl]
theorem asl{n:bI}{f:aF}{X:BX}(h:n.1=2):iY n f X=!((bf f.2.2.2.2.1 n.2.2.2.1).1==0):=by unfold iY;rw[h];rfl
theorem asn{n:bI}{f:aF}{X:BX}(h:n.1=3):iY n f X=decide (bf f.2.2.2.2.1 n.2.2.2.1=(n.2.2.2.2.1,n.2.2.2.2.2.1,n.2.2.2.2.2.2.1,())):=by unfold iY;rw[h];rfl
theorem aso{n:bI}{f:aF}{X:BX}(h:n.1=4):iY n f X=((bf f.2.2.2.2.1 n.2.2.2.1).1==1&&decide ((bf f.2.2.2.2.1 n.2.2.2.1).2.1<n.2.2.2.2.2.1)):=by unfold iY;rw[h];rfl
theorem asq{n:bI}{f:aF}{X:BX}(h:n.1=8):iY n f X=X n.2.2.2.1 f.1:=by unfold iY;rw[h];rfl
theorem asr{n:bI}{f:aF}{X:BX}(h:n.1=9):iY n f X=(!(f.2.2.2.1==0)&&X n.2.2.2.1 f.2.2.2.1):=by unfold iY;rw[h];rfl
theorem ast{n:bI}{f:aF}{X:BX}(h2:n.1≠2)(h3:n.1≠3)(h4:n.1≠4)(h8:n.1≠8)(h9:n.1≠9):iY n f X=true:=by unfold iY;rw[awS.2 h2,awS.2 h3,awS.2 h4,awS.2 h8,awS.2 h9];rfl
theorem eq3(v w:aaV):(v.1==w.1&&(v.2.1==w.2.1&&(v.2.2.1==w.2.2.1&&true)))=decide (v=w):=by rw[axf];simp[ayE]
theorem Le{x y z:Int}(h:x=y)(hne:y≠z):x≠z:=by rw[h];exact hne
theorem apf{n:bI}{a:Int}(h:kT n a=true):n.1=1\/n.1=2\/n.1=3\/n.1=4\/n.1=5\/n.1=6\/n.1=7\/n.1=8\/n.1=9:=by unfold kT at h;dsimp only at h;refine axr λhno=>?_;have e:∀k:Int,n.1≠k->(n.1==k)=false:=λk hk=>awS.2 hk;rw[e 1 (λh=>hno (by simp[h])),e 2 (λh=>hno (by simp[h])),e 3 (λh=>hno (by simp[h])),e 4 (λh=>hno (by simp[h])),e 5 (λh=>hno (by simp[h])),e 6 (λh=>hno (by simp[h])),e 7 (λh=>hno (by simp[h])),e 8 (λh=>hno (by simp[h])),e 9 (λh=>hno (by simp[h]))]at h;cases h
theorem RP[kz](Us:rG prog G ve zf):rG prog G II F5:=by
 refine RQ (ax [qR.e,lZ.e,(ve,.pure zf),CU.e,sH.e] ⟨N7,BV,⟨Us,RI⟩,agW,Lc,trivial⟩) ?_;intro q a f0 f1 f2 f3 f4 r hin hp;obtain⟨⟨hq,h0,h1,hr⟩,hm⟩:=hp;have ha:a.toNat<q.length:=by omega
 obtain⟨k1,k2⟩:=Lh hq ha;have fin:∀z:Bool,Sp.val q (f0,f1,f2,f3,f4,()) (aO r) a.toNat=z->(z,())=(Sp.val q (f0,f1,f2,f3,f4,()) (aO r) a.toNat,()):=λz h=>by rw[h]
 have leaf:∀k:Int,k≠5->k≠6->k≠7->(Sp.nodeAt q a.toNat).1=k->Sp.val q (f0,f1,f2,f3,f4,()) (aO r) a.toNat=iY (Sp.nodeAt q a.toNat) (f0,f1,f2,f3,f4,()) (aO r):=λk a b c h=>ae1 (Le h a) (Le h b) (Le h c);have kid:∀k:Int,0<=k->k.toNat<a.toNat->(aZ q=true/\0<=k/\k<(q.length:Int)/\aU r)/\k.toNat<jf:=λk h2 h3=>⟨⟨hq,h2,by omega,hr⟩,by omega⟩;refine⟨⟨h0,h1⟩,af (λh=>⟨trivial,fin _ ((leaf 2 (by decide) (by decide) (by decide) (awZ.1 h)).trans (asl (awZ.1 h)))⟩) λh2=>af (λh=>⟨trivial,fin _ ((leaf 3 (by decide) (by decide) (by decide) (awZ.1 h)).trans ((asn (awZ.1 h)).trans (eq3 _ _).symm))⟩) λh3=>af (λh=>⟨trivial,?_⟩) λh4=>af (λh=>?_) λh5=>af (λh=>?_) λh6=>af (λh=>?_) λh7=>af (λh=>⟨hr,trivial,fin _ ((leaf 8 (by decide) (by decide) (by decide) (awZ.1 h)).trans (asq (awZ.1 h)))⟩) λh8=>af (λh=>?_) λh9=>?_⟩
 .have e:=(leaf 4 (by decide) (by decide) (by decide) (awZ.1 h)).trans (aso (awZ.1 h));dsimp only at e ⊢;refine af (λg=>fin _ (e.trans ?_)) λg=>fin _ (e.trans ?_)
  .unfold Sp.nodeAt;rw[g];rfl
  .unfold Sp.nodeAt;rw[g];rfl
 .have hk:=k1 (.inl (awZ.1 h));exact⟨kid _ hk.1 hk.2,fin _ (an8 (awZ.1 h) hk.2)⟩
 .have ht:gZ (Sp.nodeAt q a.toNat)=true:=uy.2 (.inl (awZ.1 h));have hk:=k1 (.inr ht);have hk2:=k2 ht;have e:=an9 (f:=(f0,f1,f2,f3,f4,())) (X:=aO r) (awZ.1 h) ⟨hk.2,hk2.2⟩;refine⟨kid _ hk.1 hk.2,af (λg=>⟨kid _ hk2.1 hk2.2,fin _ (e.trans ?_)⟩) λg=>fin _ (e.trans ?_)⟩
  .have g:Sp.val q (f0,f1,f2,f3,f4,()) (aO r) (Sp.nodeAt q a.toNat).2.1.toNat=true:=g;rw[g];rfl
  .have g:Sp.val q (f0,f1,f2,f3,f4,()) (aO r) (Sp.nodeAt q a.toNat).2.1.toNat=false:=g;rw[g];rfl
 .have ht:gZ (Sp.nodeAt q a.toNat)=true:=uy.2 (.inr (awZ.1 h));have hk:=k1 (.inr ht);have hk2:=k2 ht;have e:=aqy (f:=(f0,f1,f2,f3,f4,())) (X:=aO r) (awZ.1 h) ⟨hk.2,hk2.2⟩;refine⟨kid _ hk.1 hk.2,af (λg=>fin _ (e.trans ?_)) λg=>⟨kid _ hk2.1 hk2.2,fin _ (e.trans ?_)⟩⟩
  .have g:Sp.val q (f0,f1,f2,f3,f4,()) (aO r) (Sp.nodeAt q a.toNat).2.1.toNat=true:=g;rw[g];rfl
  .have g:Sp.val q (f0,f1,f2,f3,f4,()) (aO r) (Sp.nodeAt q a.toNat).2.1.toNat=false:=g;rw[g];rfl
 .have e:=(leaf 9 (by decide) (by decide) (by decide) (awZ.1 h)).trans (asr (awZ.1 h));refine af (λg=>⟨hr,trivial,fin _ (e.trans ?_)⟩) λg=>fin _ (e.trans ?_)
  .have g:(!(f3==0))=true:=g;dsimp only;rw[g];rfl
  .have g:(!(f3==0))=false:=g;dsimp only;rw[g];rfl
 .have n2:=awS.1 h2;have n3:=awS.1 h3;have n4:=awS.1 h4;have n8:=awS.1 h8;have n9:=awS.1 h9;exact fin _ ((ae1 (awS.1 h5) (awS.1 h6) (awS.1 h7)).trans (ast n2 n3 n4 n8 n9))
theorem OQ:rG prog G xY zT:=
 ap8 (λn=>@JF ⟨n⟩) (λn=>@Io ⟨n⟩) (by rintro⟨q,at',⟨i,o,s,l,a,⟨⟩⟩,r,⟨⟩⟩ h;exact azh _ h.2) (by rintro _ ⟨q,at',⟨i,o,s,l,a,⟨⟩⟩,r,⟨⟩⟩;rfl) (by rintro⟨q,at',⟨i,o,s,l,a,⟨⟩⟩,r,⟨⟩⟩ h;exact⟨_,h,ay6 _⟩) (by rintro _ ⟨q,at',⟨i,o,s,l,a,⟨⟩⟩,r,⟨⟩⟩;rfl) λn h=>@RP ⟨n⟩ h
theorem VK[kz](Xq:rG prog G yS CV):rG prog G KT Iq:=by
 refine VL (ax [nD.e,l7.e,(yS,.pure CV),sJ.e] ⟨Gj,BZ,⟨Xq,Vs⟩,Ld,trivial⟩) ?_;intro q a f0 f1 f2 f3 f4 r hin hp;obtain⟨⟨hq,h0,h1,hr⟩,hm⟩:=hp;have ha:a.toNat<q.length:=by omega
 obtain⟨k1,k2⟩:=Lh hq ha;have fin:∀z:Bool,Sp.val q (f0,f1,f2,f3,f4,()) (aO r) a.toNat=z->(z,())=(Sp.val q (f0,f1,f2,f3,f4,()) (aO r) a.toNat,()):=λz h=>by rw[h]
 have leaf:∀k:Int,k≠5->k≠6->k≠7->(Sp.nodeAt q a.toNat).1=k->Sp.val q (f0,f1,f2,f3,f4,()) (aO r) a.toNat=iY (Sp.nodeAt q a.toNat) (f0,f1,f2,f3,f4,()) (aO r):=λk a b c h=>ae1 (Le h a) (Le h b) (Le h c);have kid:∀k:Int,0<=k->k.toNat<a.toNat->(aZ q=true/\0<=k/\k<(q.length:Int)/\aU r)/\k.toNat<jf:=λk h2 h3=>⟨⟨hq,h2,by omega,hr⟩,by omega⟩;refine⟨⟨h0,h1⟩,trivial,af (λh=>fin _ ((leaf 1 (by decide) (by decide) (by decide) (awZ.1 h)).trans (ast (Le (awZ.1 h) (by decide)) (Le (awZ.1 h) (by decide)) (Le (awZ.1 h) (by decide)) (Le (awZ.1 h) (by decide)) (Le (awZ.1 h) (by decide))))) λh1=>af (λh=>fin _ ((leaf 2 (by decide) (by decide) (by decide) (awZ.1 h)).trans (asl (awZ.1 h)))) λh2=>af (λh=>fin _ ((leaf 3 (by decide) (by decide) (by decide) (awZ.1 h)).trans ((asn (awZ.1 h)).trans (eq3 _ _).symm))) λh3=>af (λh=>?_) λh4=>af (λh=>?_) λh5=>af (λh=>?_) λh6=>af (λh=>?_) λh7=>af (λh=>⟨hr,trivial,fin _ ((leaf 8 (by decide) (by decide) (by decide) (awZ.1 h)).trans (asq (awZ.1 h)))⟩) λh8=>?_⟩
 .have e:=(leaf 4 (by decide) (by decide) (by decide) (awZ.1 h)).trans (aso (awZ.1 h));dsimp only at e ⊢;refine af (λg=>fin _ (e.trans ?_)) λg=>fin _ (e.trans ?_)
  .unfold Sp.nodeAt;rw[g];rfl
  .unfold Sp.nodeAt;rw[g];rfl
 .have hk:=k1 (.inl (awZ.1 h));exact⟨kid _ hk.1 hk.2,fin _ (an8 (awZ.1 h) hk.2)⟩
 .have ht:gZ (Sp.nodeAt q a.toNat)=true:=uy.2 (.inl (awZ.1 h));have hk:=k1 (.inr ht);have hk2:=k2 ht;have e:=an9 (f:=(f0,f1,f2,f3,f4,())) (X:=aO r) (awZ.1 h) ⟨hk.2,hk2.2⟩;refine⟨kid _ hk.1 hk.2,af (λg=>⟨kid _ hk2.1 hk2.2,fin _ (e.trans ?_)⟩) λg=>fin _ (e.trans ?_)⟩
  .have g:Sp.val q (f0,f1,f2,f3,f4,()) (aO r) (Sp.nodeAt q a.toNat).2.1.toNat=true:=g;rw[g];rfl
  .have g:Sp.val q (f0,f1,f2,f3,f4,()) (aO r) (Sp.nodeAt q a.toNat).2.1.toNat=false:=g;rw[g];rfl
 .have ht:gZ (Sp.nodeAt q a.toNat)=true:=uy.2 (.inr (awZ.1 h));have hk:=k1 (.inr ht);have hk2:=k2 ht;have e:=aqy (f:=(f0,f1,f2,f3,f4,())) (X:=aO r) (awZ.1 h) ⟨hk.2,hk2.2⟩;refine⟨kid _ hk.1 hk.2,af (λg=>fin _ (e.trans ?_)) λg=>⟨kid _ hk2.1 hk2.2,fin _ (e.trans ?_)⟩⟩
  .have g:Sp.val q (f0,f1,f2,f3,f4,()) (aO r) (Sp.nodeAt q a.toNat).2.1.toNat=true:=g;rw[g];rfl
  .have g:Sp.val q (f0,f1,f2,f3,f4,()) (aO r) (Sp.nodeAt q a.toNat).2.1.toNat=false:=g;rw[g];rfl
 .have n1:=awS.1 h1;have n2:=awS.1 h2;have n3:=awS.1 h3;have n4:=awS.1 h4;have n5:=awS.1 h5;have n6:=awS.1 h6;have n7:=awS.1 h7;have n8:=awS.1 h8;have h9:(Sp.nodeAt q a.toNat).1=9:=by
   rcases apf (QM hq ha).1 with h|h|h|h|h|h|h|h|h
   .exact(n1 h).elim
   .exact(n2 h).elim
   .exact(n3 h).elim
   .exact(n4 h).elim
   .exact(n5 h).elim
   .exact(n6 h).elim
   .exact(n7 h).elim
   .exact(n8 h).elim
   .exact h
  have e:=(leaf 9 (by decide) (by decide) (by decide) h9).trans (asr h9);refine af (λg=>⟨hr,trivial,fin _ (e.trans ?_)⟩) λg=>fin _ (e.trans ?_)
  .have g:(!(f3==0))=true:=g;dsimp only;rw[g];rfl
  .have g:(!(f3==0))=false:=g;dsimp only;rw[g];rfl
theorem TD:rG prog G Dc D7:=
 ap8 (λn=>@L6 ⟨n⟩) (λn=>@Kq ⟨n⟩) (by rintro⟨q,at',⟨i,o,s,l,a,⟨⟩⟩,r,⟨⟩⟩ h;exact azh _ h.2) (by rintro _ ⟨q,at',⟨i,o,s,l,a,⟨⟩⟩,r,⟨⟩⟩;rfl) (by rintro⟨q,at',⟨i,o,s,l,a,⟨⟩⟩,r,⟨⟩⟩ h;exact⟨_,h,ay6 _⟩) (by rintro _ ⟨q,at',⟨i,o,s,l,a,⟨⟩⟩,r,⟨⟩⟩;rfl) λn h=>@VK ⟨n⟩ h
theorem agZ:OK Gw.e:=by
 refine PA.ok mixed (ax [(xY,.pure zT),kD.e] ⟨⟨OQ,NY⟩,qM,trivial⟩) H0 (by kernel_rfl) (show∀q f0 f1 f2 f3 f4 qZ,Gw.goal (ag0 q f0 f1 f2 f3 f4 qZ) (q,(f0,f1,f2,f3,f4,()),qZ,())from ?_);intro q f0 f1 f2 f3 f4 r hin hp;dsimp only[Gw]at hp ⊢;obtain⟨h1,h2⟩:=hp;have e:∀z,aZ q=z->iH q (f0,f1,f2,f3,f4,()) (aO r)=(z&&Sp.val q (f0,f1,f2,f3,f4,()) (aO r) (q.length-1)):=λz hz=>by unfold iH;rw[hz]
 refine⟨by omega,af (λh=>?_) λh=>?_⟩
 .have hl:=Sp.xu h;rw[xG (by omega) (by omega)];refine⟨⟨h,by omega,by omega,h2⟩,?_⟩;rw[e _ h,awX];rfl
 .rw[e _ h];rfl
theorem ag1:OK Gx.e:=by
 refine PA.ok mixed (ax [(Dc,.pure D7),kC.e] ⟨⟨TD,QD⟩,qN,trivial⟩) H0 (by kernel_rfl) (show∀q f0 f1 f2 f3 f4 a,Gx.goal (ag2 q f0 f1 f2 f3 f4 a) (q,(f0,f1,f2,f3,f4,()),a,())from ?_);intro q f0 f1 f2 f3 f4 r hin hp;dsimp only[Gx]at hp ⊢;obtain⟨h1,h2⟩:=hp;have e:∀z,aZ q=z->iH q (f0,f1,f2,f3,f4,()) (aO r)=(z&&Sp.val q (f0,f1,f2,f3,f4,()) (aO r) (q.length-1)):=λz hz=>by unfold iH;rw[hz]
 refine⟨by omega,af (λh=>?_) λh=>?_⟩
 .have hl:=Sp.xu h;rw[xG (by omega) (by omega)];refine⟨⟨h,by omega,by omega,h2⟩,?_⟩;rw[e _ h,awX];rfl
 .rw[e _ h];rfl
theorem Y3:OK zU.e:=by refine PA.ok mixed (ax [Gw.e] ⟨agZ,trivial⟩) aaW (by kernel_rfl) (show∀s0 s1 s2 q qZ,zU.goal (Y4 s0 s1 s2 q qZ) ((s0,s1,s2,()),q,qZ,())from ?_);intro s0 fs nx q r hin hp;dsimp only[zU]at hp ⊢;obtain⟨h1,h2,h3⟩:=hp;have hl:fs.length<=1000:=h1.2.1;exact ae2 (K:=λz=>z=(Sp.sel fs q (aO r),())) (λf=>iH q f (aO r)) (λf:aF=>(f.1,())) (0,0,false,0,[],()) fs _ (A:=λ_=>q.length<=1000/\aU r) (λ_ _=>⟨h2,h3⟩) (by omega) rfl
theorem MF:OK tY.e:=by refine PA.ok mixed (ax [] trivial) aaX (by kernel_rfl) (show∀s1 s2,tY.goal (Y5 s1 s2) (s1,s2,())from ?_);intro a b hin hp;dsimp only[tY]at hp ⊢;exact eqL (K:=λr=>r=(decide (a=b),())) (λx y:Int×Unit=>x.1 !=y.1) (λx y=>by simp[ayE]) _ a b _ hin.1.1 rfl
theorem IK:OK pF.e:=by
 refine PA.ok mixed (ax [tY.e] ⟨MF,trivial⟩) H0 (by kernel_rfl) (show∀x0 x1 y0 y1,pF.goal (Ut x0 x1 y0 y1) ((x0,x1,()),(y0,y1,()),())from ?_);intro a0 a1 b0 b1 hin hp;dsimp only[pF]at hp ⊢;refine af (λh0=>⟨trivial,?_⟩) λh0=>?_
 all_goals refine congrArg (·,()) (axf.2 ?_)
 .simp[awZ.1 h0]
 .simp[show a0≠b0 by simpa using h0]
theorem o7:OK eP.e:=by refine PA.ok mixed (ax [pF.e] ⟨IK,trivial⟩) qc (by kernel_rfl) (show∀s1 s2,eP.goal (o8 s1 s2) (s1,s2,(()),())from ?_);intro a b hin hp;dsimp only[eP]at hp ⊢;exact atE (K:=λr=>r=(decide (a=b),())) (λx y=>!decide (x=y)) (λx y=>by simp) _ a b _ hin.1.1 rfl
theorem Xr:OK yJ.e:=by refine PA.ok mixed (ax [pF.e,eP.e] ⟨IK,o7,trivial⟩) H0 (by kernel_rfl) (show∀a b,yJ.goal (Xt a b) (a,b,())from ?_);intro a b hin hp;dsimp only[yJ]at hp ⊢;exact⟨trivial,rfl⟩
end Go.Proofs.Tryz
namespace Go.Proofs.Tryz
open Go Go.Fw Go.IntWalk Sp
theorem Bh{fs:List aF}{a:List fD}{nx:Int}{d:List aV}(r:List dI)(nm:Sp.Bytes->Bool):∃out,(aB d&&aC (a,fs,nx,()))=true->gq fs d r nm out:=by
 by_cases h:(aB d&&aC (a,fs,nx,()))=true
 .rw[awP]at h;obtain⟨aH,hl⟩:=aeV h.1;obtain⟨out,ho⟩:=Xu r nm (lH.1 h.1).1 hl (xI h.2);exact⟨out,λ_=>ho⟩
 .exact⟨[],λh'=>(h h').elim⟩
abbrev BA:aV:=([],[],())
theorem amz{a b:Int}(h:(a !=b)=false):a=b:=by simpa using h
theorem ae3{α β:Type}(g:α->β)(d:α)(l:List α){n:Nat}(h:n<l.length):(l.take n).map g++[g (l.getD n d)]=(l.take (n+1)).map g:=by rw[Sp.take_succ' l n d h,axz];rfl
theorem qf{d:List aV}(h:aB d=true):gm d=true/\d.length<=5:=⟨(lH.1 h).1,Xj (lH.1 h).1⟩
theorem still_at{d:List aV}{aH:List (Int×Unit)}{nm:Sp.Bytes->Bool}{fs:List aF}{out:List dI}{k:Nat}
 (h:∀j,j<d.length->j<d.length->nm (Sp.nameOf d j)=true->Sp.lv aH j=k->Sp.sel fs (dW d j) (aO out)=iU out j):∀i,i<d.length->nm (Sp.nameOf d i)=true->Sp.lv aH i=k->Sp.sel fs (dW d i) (aO out)=iU out i:=λi hi=>h i hi hi
theorem amA:∀(l:List (Int×Unit)),0<l.length->∃m:Int,(∀x∈l,x.1<=m)/\(m,())∈l
 |[x],_=>⟨x.1,λy hy=>by rw[axH.1 hy];exact axv _,axH.2 rfl⟩
 |x::y::r,_=>by
  obtain⟨m,h1,h2⟩:=amA (y::r) (by simp);by_cases h:x.1<=m
  .exact⟨m,λz hz=>by rcases axi.1 hz with rfl|hz;exact h;exact h1 z hz,aw6 _ h2⟩
  .exact⟨x.1,λz hz=>by rcases axi.1 hz with rfl|hz;exact axv _;have:=h1 z hz;omega,aw5⟩
theorem MG:OK tX.e:=by
 refine PA.ok mixed (ax [Gx.e] ⟨ag1,trivial⟩) aaY (by kernel_rfl) (show∀s0 s1 s2 q a,tX.goal (Y6 s0 s1 s2 q a) ((s0,s1,s2,()),q,a,())from ?_);intro s0 fs nx q r hin hp;dsimp only[tX]at hp ⊢;obtain⟨h1,h2,h3⟩:=hp;have hl:fs.length<=1000:=h1.2.1;obtain⟨I,μ,g0,g1⟩:=ae2 (K:=λz=>z=(Sp.sel fs q (aO r),())) (λf=>iH q f (aO r)) (λf:aF=>(f.1,())) (0,0,false,0,[],()) fs (q,r,(s0,fs,nx,()),()) (A:=λ_=>q.length<=1000/\aU r) (λ_ _=>⟨h2,h3⟩) (by omega) rfl;refine⟨I,μ,g0,λy hy=>?_⟩;have h:=g1 y hy;dsimp only at h ⊢;revert h;cases decide (y.1.2.1<(fs.length:Int))with
 |false=>exact id
 |true=>
  rintro⟨b,a,h⟩;refine⟨b,a,?_⟩;revert h;cases iH q (fs.getD (Int.toNat y.1.2.1) (0,0,false,0,[],())) (aO r)with
  |true=>exactλh=>⟨b,h.1,rfl,h.2.2⟩
  |false=>exactλh=>⟨rfl,h.2⟩
theorem MW:OK zo.e:=by refine PA.ok mixed (ax [] trivial) akX (by kernel_rfl) (show∀list s,zo.goal (ai8 list s) (list,s,())from ?_);intro l s hin hp;dsimp only[zo]at hp ⊢;exact arH (K:=λr=>r=(dQ l s,())) (λx:List UInt8×Unit=>x.1==s) ([],()) l _ hin.1.1 rfl
theorem QN:OK zV.e:=by refine PA.ok mixed (ax [] trivial) ag3 (by kernel_rfl) (show∀d,zV.goal (ae4 d) (d,())from ?_);intro d hin hp;dsimp only[zV]at hp ⊢;exact amB (K:=λr=>r=(iW d,())) (λx:aV=>(x.1,())) ([],[],()) d _ (by have hp:d.length<=1000:=hp;omega) rfl
theorem ae5:OK FM.e:=by refine PA.ok mixed (ax [] trivial) ag4 (by kernel_rfl) (show∀d,FM.goal (ae6 d) (d,())from ?_);intro d hin hp;dsimp only[FM]at hp ⊢;exact amB (K:=λr=>r=(iW d,())) (λx:aV=>(x.1,())) ([],[],()) d _ (by have hp:d.length<=1000:=hp;omega) rfl
theorem Xv:OK yK.e:=by
 refine PA.ok mixed (ax [sG.e] ⟨FT,trivial⟩) Y7 (by kernel_rfl) (show∀a b,yK.goal (Xw a b) (a,b,())from ?_);intro a b hin hp;dsimp only[yK]at hp ⊢;have hlen:a.length<=maxLen:=hin.1.1;rw[maxLen_eq]at hlen;refine af (λh=>?_) λh=>?_
 .have h:(a.length:Int)≠b.length:=by simpa using h
  exact congrArg (·,()) (aw1 λe=>h (by rw[e])).symm
 .have h:(a.length:Int)=b.length:=by simpa using h
  refine je a.length hlen (λn=>∀i,i<n->a.getD i oW=b.getD i oW) (λi hi=>by omega) (λI μ n hn hJ next=>?_) λI μ hJ=>(by dsimp only;exact bV (by omega) (by rw[aw0 (QO (by omega) hJ)]));dsimp only;have no:a.getD n oW≠b.getD n oW->(false,())=(decide (a=b),()):=λhne=>by rw[aw1 λe=>hne (by rw[e])]
  refine bU (by omega) ⟨⟨by omega,by omega⟩,⟨by omega,by omega⟩,af (λg=>no λe=>?_) λg=>⟨⟨by omega,by omega⟩,⟨by omega,by omega⟩,trivial,af (λg2=>no λe=>?_) λg2=>⟨rfl,next λi hi=>?_⟩⟩⟩
  .have g:¬(a.getD n oW).1=(b.getD n oW).1:=awS.1 (dY g);exact g (by rw[e])
  .have g2:¬(a.getD n oW).2.1=(b.getD n oW).2.1:=gY (dY g2);exact g2 (by rw[e])
  .rcases aw8 i n with h'|h'
   .exact hJ i h'
   .have:i=n:=by omega
    subst this;have g:(a.getD i oW).1=(b.getD i oW).1:=awZ.1 (dw g);have g2:(a.getD i oW).2.1=(b.getD i oW).2.1:=gI (dw g2);exact ayK g (ayK g2 rfl)
theorem acT:OK D8.e:=by
 refine XA.ok mixed (ax [] trivial) ae7 (λ⟨l,_⟩ hp=>by obtain⟨m,h⟩:=amA l hp;exact⟨((m,()),()),h⟩) (by kernel_rfl) (show∀JU,D8.goal (acU JU) (JU,())from ?_);intro l hin hp;dsimp only[D8]at hp ⊢;have hp:0<l.length:=hp;have hlen:l.length<=maxLen:=hin.1.1;rw[maxLen_eq]at hlen;refine⟨λ_=>True,af (λh=>by have:=gI h;omega) λh=>⟨rfl,trivial⟩,λ_ _=>⟨⟨by omega,by omega⟩,?_⟩⟩;refine⟨λy=>∃n:Nat,y.1.2.1=n/\1<=n/\n<=l.length/\(∀i,i<n->Sp.lv l i<=y.1.1)/\∃i,i<l.length/\Sp.lv l i=y.1.1,λy=>((l.length:Int)-y.1.2.1).toNat,⟨1,rfl,by omega,by omega,λi hi=>by rw[show i=0 by omega];exact axv _,0,hp,rfl⟩,?_⟩;rintro⟨⟨m,_,⟨⟩⟩,⟨⟩⟩ ⟨n,rfl,n1,n2,h1,h2⟩;dsimp only at h1 h2 ⊢;refine af (λhc=>?_) λhc=>⟨λx hx=>?_,?_⟩
 .have hc:=gI hc;have w:IntKind.i64.wrap ((n:Int)+1)=((n+1:Nat):Int):=fQ _ (by omega);rw[w];have e:(l.getD (Int.toNat (n:Int)) (0,())).1=Sp.lv l n:=rfl;rw[e];refine⟨⟨by omega,by omega⟩,rfl,⟨n+1,rfl,by omega,by omega,λi hi=>?_,?_⟩,by omega⟩
  .by_cases hi':i=n
   .subst hi';split<;>omega
   .have:=h1 i (by omega);split<;>omega
  .split
   .exact⟨n,by omega,rfl⟩
   .exact h2
 .have hc:=gY hc;exact amx (p:=λz=>z<=m) (λi hi=>h1 i (by omega)) x hx
 .obtain⟨i,hi,e⟩:=h2;have:=aaZ hi;rw[e]at this;exact this
theorem aa0:OK BH.e:=by
 refine XA.ok mixed (ax [D8.e,EF.e] ⟨acT,VI,trivial⟩) H0 (λ⟨d,_⟩ _=>⟨(((1000:Int),()),()),⟨axv _,λaH hs hl i hi=>by have:=(hl.2.1 i hi).2;have:=(qf hs).2;show Sp.lv aH i<=1000;omega⟩⟩) (by kernel_rfl) (show∀d,BH.goal (aa1 d) (d,())from ?_);intro d hin hp;dsimp only[BH]at hp ⊢;refine⟨hp,?_⟩;rintro⟨⟨aH,ok,⟨⟩⟩,⟨⟩⟩ ⟨e1,e2⟩;have e1:ok=aB d:=e1;have e2:ok=true->kX d aH:=e2;refine af (λh=>?_) λh=>af (λh2=>?_) λh2=>⟨?_,?_⟩
 .have h:ok=false:=dY h;exact⟨by decide,λl hs=>by rw[← e1,h]at hs;cases hs⟩
 .have h2:(aH.length:Int)=0:=by simpa using h2
  have hl:=e2 (dw h);exact⟨by decide,λl hs hl' i hi=>by have:=hl.1;omega⟩
 .have h2:¬(aH.length:Int)=0:=by simpa using h2
  show 0<aH.length;omega
 .rintro⟨⟨m,⟨⟩⟩,⟨⟩⟩ ⟨g1,g2⟩;have hl:=e2 (dw h);have hlen:=(qf (e1▸dw h)).2;have g2:(m,())∈aH:=g2;refine⟨?_,λl hs hl' i hi=>?_⟩
  .obtain⟨i,hi,e⟩:=axu g2;have hi':i<d.length:=by rw[← hl.1];exact hi
   have:=(hl.2.1 i hi').2;have e3:Sp.lv aH i=m:=by unfold Sp.lv;rw[awR,awV hi,e];rfl
   show m<=1000;omega
  .rw[aa2 hl' hl];exact g1 _ (aaZ (by rw[hl.1];exact hi))
theorem N9:OK vU.e:=by
 refine XA.ok mixed (ax [vM.e] ⟨Ho,trivial⟩) acV (λ⟨d,_⟩ _=>⟨(((1000:Int),()),()),⟨axv _,λaH hs hl i hi=>by have:=(hl.2.1 i hi).2;have:=(qf hs).2;show Sp.lv aH i<=1000;omega⟩⟩) (by kernel_rfl) (show∀d,vU.goal (aa3 d) (d,())from ?_);intro d hin hp;dsimp only[vU]at hp ⊢;refine⟨hp,?_⟩;rintro⟨⟨aH,ok,⟨⟩⟩,⟨⟩⟩ ⟨e1,e2,e3⟩;have e1:ok=aB d:=e1;have e2:ok=true->kX d aH:=e2;have e3:ok=false->aH=[]:=e3;have hlen:aH.length<=5/\∀i,i<aH.length->Sp.lv aH i<=1000:=by
  cases hk:ok with
  |false=>rw[e3 hk];exact⟨by decide,λi hi=>by simp at hi⟩
  |true=>have hl:=e2 hk;have h5:=(qf (e1▸hk)).2;exact⟨by rw[hl.1];exact h5,λi hi=>by have:=(hl.2.1 i (by rw[← hl.1];exact hi)).2;omega⟩
 refine⟨λy=>∃n:Nat,y.1.2.1=n/\n<=aH.length/\y.1.1<=1000/\∀i,i<n->Sp.lv aH i<=y.1.1,λy=>((aH.length:Int)-y.1.2.1).toNat,⟨0,rfl,by omega,by decide,λi hi=>by omega⟩,?_⟩;rintro⟨⟨m,_,⟨⟩⟩,⟨⟩⟩ ⟨n,rfl,n2,hm,h1⟩;dsimp only at hm h1 ⊢;have e:(aH.getD (Int.toNat (n:Int)) (0,())).1=Sp.lv aH n:=rfl;rw[e];refine af (λhc=>?_) λhc=>?_
 .have hc:=gI hc;have w:IntKind.i64.wrap ((n:Int)+1)=((n+1:Nat):Int):=fQ _ (by omega);rw[w];have auA:=hlen.2 n (by omega);refine⟨⟨by omega,by omega⟩,af (λg=>⟨⟨by omega,by omega⟩,rfl,⟨n+1,rfl,by omega,auA,λi hi=>?_⟩,by dsimp only;omega⟩) λg=>⟨rfl,⟨n+1,rfl,by omega,hm,λi hi=>?_⟩,by dsimp only;omega⟩⟩
  .have g:=gI g;by_cases hi':i=n
   .subst hi';exact axv _
   .have:=h1 i (by omega);dsimp only;omega
  .have g:=gY g;by_cases hi':i=n
   .subst hi';dsimp only;omega
   .exact h1 i (by omega)
 .have hc:=gY hc;refine⟨hm,λl hs hl' i hi=>?_⟩;have hl:=e2 (e1.trans hs);rw[aa2 hl' hl];exact h1 i (by rw[← hl.1]at hi;omega)
theorem OT:OK xW.e:=by
 refine XA.ok mixed (ax [tY.e,zU.e,BH.e,lZ.e,jw.e,oh.e,EF.e] ⟨MF,Y3,aa0,BV,qj,Ep,VI,trivial⟩) ae8 (λ⟨(a,fs,nx,_),d,r,names,_⟩ _=>by obtain⟨out,h⟩:=Bh (fs:=fs) (a:=a) (nx:=nx) (d:=d) r (dQ names);exact⟨(((out,0,(aB d&&aC (a,fs,nx,())),()),())),⟨rfl,h⟩⟩) (by kernel_rfl) (show∀s0 s1 s2 d qZ names,xW.goal (acW s0 s1 s2 d qZ names) ((s0,s1,s2,()),d,qZ,names,())from ?_);intro a fs nx d r names hin hp;dsimp only[xW]at hp ⊢;obtain⟨hs,hd,hr⟩:bn (a,fs,nx,())/\aI d/\aU r:=hp;refine⟨hd,?_⟩;rintro⟨⟨aH,ok0,⟨⟩⟩,⟨⟩⟩ ⟨e1,e2⟩;have e1:ok0=aB d:=e1;have e2:ok0=true->kX d aH:=e2;refine⟨λ_=>ok0=true/\aC (a,fs,nx,())=true,af (λh=>?_) λh=>⟨trivial,af (λh2=>?_) λh2=>⟨rfl,dw h,dw h2⟩⟩,?_⟩
 .have h:ok0=false:=dY h;have hz:(aB d&&aC (a,fs,nx,()))=false:=by rw[← e1,h];rfl
  exact⟨hz.symm,λh=>by cases h⟩
 .have h2:aC (a,fs,nx,())=false:=dY h2;have hz:(aB d&&aC (a,fs,nx,()))=false:=by rw[h2,axx]
  exact⟨hz.symm,λh=>by cases h⟩
 rintro y3 ⟨hk,hst⟩;have Gl:aB d=true:=e1▸hk;have hz:(aB d&&aC (a,fs,nx,()))=true:=by rw[Gl,hst];rfl
 obtain⟨hok,hlen⟩:=qf Gl;have hl:kX d aH:=e2 hk;have hf:=xI hst;have hf:Sp.distinct fs:=hf;have hfs:fs.length<=1000:=hs.2.1;refine bZ (λi(x:List dI)=>(((),i,()),x,())) (λy=>y.1.2.1) (λ_ _=>rfl) d.length (by omega) (λn l=>l=(d.take n).map (qV r (dQ names))) rfl (λI μ n l hn hJ next=>?_) λI μ l hJ=>?_
 .subst hJ;have hl:((d.take n).map (qV r (dQ names))).length<=n:=by rw[aw4,awT];omega
  have step:=ae3 (qV r (dQ names)) BA d hn;dsimp only;refine bU (by omega) ⟨⟨by omega,by omega⟩,trivial,af (λh=>⟨hr,by rw[bM];simp only[awU,awY];omega,rfl,next _ ?_⟩) λh=>⟨by rw[bM];simp only[awU,awY];omega,rfl,next _ ?_⟩⟩
  .rw[← step];have h:dQ names (d.getD n BA).1=false:=dY h;unfold qV;rw[h];rfl
  .rw[← step];have h:dQ names (d.getD n BA).1=true:=dw h;unfold qV;rw[h];rfl
 subst hJ;rw[aw9];dsimp only;refine bV (by omega) ⟨λy=>∃k:Nat,y.1.2.1=k/\oq fs d r (dQ names) aH k y.2.1,λy=>(1002-y.1.2.1).toNat,⟨0,rfl,NC hok hl⟩,?_⟩;rintro⟨⟨ps,_,⟨⟩⟩,out,⟨⟩⟩ ⟨k,rfl,A⟩;dsimp only at A ⊢;refine⟨hd,?_⟩;rintro⟨⟨m,⟨⟩⟩,⟨⟩⟩ ⟨m1,m2⟩;have m1:m<=1000:=m1;have m2:∀i,i<d.length->Sp.lv aH i<=m:=m2 aH Gl hl;refine af (λhc=>?_) λhc=>⟨hz.symm,λ_=>Sp.at_end hok hl A λi hi=>by have:=m2 i hi;have hc:¬(k:Int)<=m:=gY hc;omega⟩;have hc:(k:Int)<=m:=gI hc;refine⟨λy=>oq fs d r (dQ names) aH k y.2.1/\(y.1.2.1=false->∀i,i<d.length->dQ names (Sp.nameOf d i)=true->Sp.lv aH i=k->Sp.sel fs (dW d i) (aO y.2.1)=iU y.2.1 i),λy=>Sp.room fs.length y.2.1*2+(if y.1.2.1=true then 1 else 0),⟨A,λh=>by cases h⟩,?_⟩;rintro⟨⟨ps2,ch,⟨⟩⟩,aa4,⟨⟩⟩ ⟨A2,st2⟩;dsimp only at A2 st2 ⊢;have wk:IntKind.i64.wrap ((k:Int)+1)=((k+1:Nat):Int):=fQ _ (by omega);refine af (λhch=>?_) λhch=>⟨rfl,⟨k+1,wk,Sp.at_next hok A2 (st2 hch)⟩,by rw[wk];dsimp only;omega⟩;subst hch;refine bZ (λi(x:Bool×List dI)=>((x.1,i,()),x.2,())) (λy=>y.1.2.1) (λ_ _=>rfl) d.length (by omega) (λi x=>MX fs d r (dQ names) aH k aa4 i x.1 x.2) (s0:=(false,aa4)) ⟨A2,λh=>(by cases h),λ_=>⟨rfl,λj hj=>by omega⟩⟩ (λI μ i x hi hJ next=>?_) λI μ x hJ=>?_
 .obtain⟨c,Ic⟩:=x;have A3:=hJ.1;have ol:Ic.length=d.length:=A3.order.1;have hsm:=Uu A3 (by omega) hfs hr;dsimp only;rw[awX];refine bU (by omega) ⟨⟨by omega,by omega⟩,⟨by omega,by rw[hl.1];omega⟩,af (λh=>⟨rfl,next (c,Ic) (DV hJ λ_ h'=>?_)⟩) λh=>⟨trivial,af (λh2=>⟨rfl,next (c,Ic) (DV hJ λh'=>?_)⟩) λh2=>⟨⟨hs,o6 hd hi,hsm⟩,⟨by omega,by omega⟩,by omega,trivial,af (λh3=>⟨⟨by omega,by omega⟩,by omega,rfl,next (true,_) (ae9 hok hl hf hJ hi (dw h2) ?_ ?_)⟩) λh3=>⟨rfl,next (c,Ic) (DV hJ λ_ _=>?_)⟩⟩⟩⟩
  .exact(ayR.1 h h').elim
  .have h2:dQ names (Sp.nameOf d i)=false:=dY h2;rw[h2]at h';cases h'
  .exact amz h
  .exact gY (dY h3)
  .exact gI (dw h3)
 .obtain⟨c,Ic⟩:=x;dsimp only;obtain⟨A3,c1,c2⟩:=hJ;refine bV (by omega) ⟨rfl,⟨A3,λhc=>still_at (c2 hc).2⟩,?_⟩;cases c with
  |true=>have:=c1 rfl;dsimp only at this ⊢;simp only[if_true];omega
  |false=>have:=(c2 rfl).1;dsimp only at this ⊢;rw[this];simp
theorem aa5:OK BJ.e:=by
 refine XA.ok mixed (ax [sG.e,tX.e,vU.e,zo.e,l7.e,jB.e,vM.e] ⟨FT,MG,N9,MW,BZ,ni,Ho,trivial⟩) acX (λ⟨(a,fs,nx,_),d,r,names,_⟩ _=>by obtain⟨out,h⟩:=Bh (fs:=fs) (a:=a) (nx:=nx) (d:=d) r (dQ names);exact⟨(((out,(aB d&&aC (a,fs,nx,())),()),())),⟨rfl,h⟩⟩) (by kernel_rfl) (show∀s0 s1 s2 d a names,BJ.goal (aa6 s0 s1 s2 d a names) ((s0,s1,s2,()),d,a,names,())from ?_);intro a fs nx d r names hin hp;dsimp only[BJ]at hp ⊢;obtain⟨hs,hd,hr⟩:bn (a,fs,nx,())/\aI d/\aU r:=hp;refine⟨hd,?_⟩;rintro⟨⟨aH,ok0,⟨⟩⟩,⟨⟩⟩ ⟨e1,e2,_⟩;have e1:ok0=aB d:=e1;have e2:ok0=true->kX d aH:=e2;refine⟨λ_=>ok0=true/\aC (a,fs,nx,())=true,af (λh=>?_) λh=>⟨trivial,af (λh2=>?_) λh2=>⟨rfl,dw h,dw h2⟩⟩,?_⟩
 .have h:ok0=false:=dY h;have hz:(aB d&&aC (a,fs,nx,()))=false:=by rw[← e1,h];rfl
  exact⟨hz.symm,λh=>by cases h⟩
 .have h2:aC (a,fs,nx,())=false:=dY h2;have hz:(aB d&&aC (a,fs,nx,()))=false:=by rw[h2,axx]
  exact⟨hz.symm,λh=>by cases h⟩
 rintro y3 ⟨hk,hst⟩;have Gl:aB d=true:=e1▸hk;have hz:(aB d&&aC (a,fs,nx,()))=true:=by rw[Gl,hst];rfl
 obtain⟨hok,hlen⟩:=qf Gl;have hl:kX d aH:=e2 hk;have hf:=xI hst;have hf:Sp.distinct fs:=hf;have hfs:fs.length<=1000:=hs.2.1;refine bZ (λi(x:List dI)=>(((),i,()),x,())) (λy=>y.1.2.1) (λ_ _=>rfl) d.length (by omega) (λn l=>l=(d.take n).map (qV r (dQ names))) rfl (λI μ n l hn hJ next=>?_) λI μ l hJ=>?_
 .subst hJ;have hl:((d.take n).map (qV r (dQ names))).length<=n:=by rw[aw4,awT];omega
  have step:=ae3 (qV r (dQ names)) BA d hn;dsimp only;refine bU (by omega) ⟨⟨by omega,by omega⟩,⟨by omega,by omega⟩,hr,trivial,af (λh=>⟨by rw[bM];simp only[awU,awY];omega,rfl,next _ ?_⟩) λh=>⟨by rw[bM];simp only[awU,awY];omega,rfl,next _ ?_⟩⟩
  .rw[← step];have h:dQ names (d.getD n BA).1=true:=h;unfold qV;rw[h];rfl
  .rw[← step];have h:dQ names (d.getD n BA).1=false:=h;unfold qV;rw[h];rfl
 subst hJ;rw[aw9];dsimp only;refine bV (by omega) ⟨λy=>∃k:Nat,y.1.1=k/\oq fs d r (dQ names) aH k y.2.1,λy=>(1002-y.1.1).toNat,⟨0,rfl,NC hok hl⟩,?_⟩;rintro⟨⟨_,⟨⟩⟩,out,⟨⟩⟩ ⟨k,rfl,A⟩;dsimp only at A ⊢;refine⟨hd,?_⟩;rintro⟨⟨m,⟨⟩⟩,⟨⟩⟩ ⟨m1,m2⟩;have m1:m<=1000:=m1;have m2:∀i,i<d.length->Sp.lv aH i<=m:=m2 aH Gl hl;refine af (λhc=>?_) λhc=>⟨hz.symm,λ_=>Sp.at_end hok hl A λi hi=>by have:=m2 i hi;have hc:¬(k:Int)<=m:=gY hc;omega⟩;have hc:(k:Int)<=m:=gI hc;refine⟨λy=>oq fs d r (dQ names) aH k y.2.1/\(y.1.1=false->∀i,i<d.length->dQ names (Sp.nameOf d i)=true->Sp.lv aH i=k->Sp.sel fs (dW d i) (aO y.2.1)=iU y.2.1 i),λy=>Sp.room fs.length y.2.1*2+(if y.1.1=true then 1 else 0),⟨A,λh=>by cases h⟩,?_⟩;rintro⟨⟨ch,⟨⟩⟩,aa4,⟨⟩⟩ ⟨A2,st2⟩;dsimp only at A2 st2 ⊢;have wk:IntKind.i64.wrap ((k:Int)+1)=((k+1:Nat):Int):=fQ _ (by omega);refine af (λhch=>?_) λhch=>⟨rfl,⟨k+1,wk,Sp.at_next hok A2 (st2 hch)⟩,by rw[wk];dsimp only;omega⟩;subst hch;refine bZ (λi(x:Bool×List dI)=>((x.1,i,()),x.2,())) (λy=>y.1.2.1) (λ_ _=>rfl) d.length (by omega) (λi x=>MX fs d r (dQ names) aH k aa4 i x.1 x.2) (s0:=(false,aa4)) ⟨A2,λh=>(by cases h),λ_=>⟨rfl,λj hj=>by omega⟩⟩ (λI μ i x hi hJ next=>?_) λI μ x hJ=>?_
 .obtain⟨c,Ic⟩:=x;have A3:=hJ.1;have ol:Ic.length=d.length:=A3.order.1;have hsm:=Uu A3 (by omega) hfs hr;dsimp only;rw[awX];refine bU (by omega) ⟨⟨by omega,by rw[hl.1];omega⟩,af (λh=>⟨rfl,next (c,Ic) (DV hJ λ_ h'=>?_)⟩) λh=>⟨⟨by omega,by omega⟩,trivial,af (λh2=>⟨rfl,next (c,Ic) (DV hJ λh'=>?_)⟩) λh2=>⟨⟨by omega,by omega⟩,⟨hs,o6 hd hi,hsm⟩,⟨by omega,by omega⟩,by omega,trivial,af (λh3=>⟨⟨by omega,by omega⟩,by omega,rfl,next (true,_) (ae9 hok hl hf hJ hi (dw h2) ?_ ?_)⟩) λh3=>⟨rfl,next (c,Ic) (DV hJ λ_ _=>?_)⟩⟩⟩⟩
  .exact(ayR.1 h h').elim
  .have h2:dQ names (Sp.nameOf d i)=false:=dY h2;rw[h2]at h';cases h'
  .exact amz h
  .exact gY (dY h3)
  .exact gI (dw h3)
 .obtain⟨c,Ic⟩:=x;dsimp only;obtain⟨A3,c1,c2⟩:=hJ;refine bV (by omega) ⟨rfl,⟨A3,λhc=>still_at (c2 hc).2⟩,?_⟩;cases c with
  |true=>have:=c1 rfl;dsimp only at this ⊢;simp only[if_true];omega
  |false=>have:=(c2 rfl).1;dsimp only at this ⊢;rw[this];simp
theorem ai9:OK Ja.e:=by
 refine XA.ok mixed (ax [sG.e,tX.e,vU.e,jB.e,vM.e] ⟨FT,MG,N9,ni,Ho,trivial⟩) akY (λ⟨(a,fs,nx,_),d,_⟩ _=>by obtain⟨out,h⟩:=Bh (fs:=fs) (a:=a) (nx:=nx) (d:=d) [] (λ_=>true);exact⟨(((out,0,(aB d&&aC (a,fs,nx,())),()),())),⟨rfl,h⟩⟩) (by kernel_rfl) (show∀s0 s1 s2 d,Ja.goal (aja s0 s1 s2 d) ((s0,s1,s2,()),d,())from ?_);intro a fs nx d hin hp;dsimp only[Ja]at hp ⊢;obtain⟨hs,hd⟩:bn (a,fs,nx,())/\aI d:=hp;have hr:aU []:=⟨by decide,λx hx=>by cases hx⟩;refine⟨hd,?_⟩;rintro⟨⟨aH,ok0,⟨⟩⟩,⟨⟩⟩ ⟨e1,e2,_⟩;have e1:ok0=aB d:=e1;have e2:ok0=true->kX d aH:=e2;refine⟨λ_=>ok0=true/\aC (a,fs,nx,())=true,af (λh=>?_) λh=>⟨trivial,af (λh2=>?_) λh2=>⟨rfl,dw h,dw h2⟩⟩,?_⟩
 .have h:ok0=false:=dY h;have hz:(aB d&&aC (a,fs,nx,()))=false:=by rw[← e1,h];rfl
  exact⟨hz.symm,λh=>by cases h⟩
 .have h2:aC (a,fs,nx,())=false:=dY h2;have hz:(aB d&&aC (a,fs,nx,()))=false:=by rw[h2,axx]
  exact⟨hz.symm,λh=>by cases h⟩
 rintro y3 ⟨hk,hst⟩;have Gl:aB d=true:=e1▸hk;have hz:(aB d&&aC (a,fs,nx,()))=true:=by rw[Gl,hst];rfl
 obtain⟨hok,hlen⟩:=qf Gl;have hl:kX d aH:=e2 hk;have hf:=xI hst;have hf:Sp.distinct fs:=hf;have hfs:fs.length<=1000:=hs.2.1;refine bZ (λi(x:List dI)=>(((),i,()),x,())) (λy=>y.1.2.1) (λ_ _=>rfl) d.length (by omega) (λn l=>l=(d.take n).map (qV [] (λ_=>true))) rfl (λI μ n l hn hJ next=>?_) λI μ l hJ=>?_
 .subst hJ;have hl:((d.take n).map (qV [] (λ_=>true))).length<=n:=by rw[aw4,awT];omega
  have step:=ae3 (qV [] (λ_=>true)) BA d hn;dsimp only;refine bU (by omega) ⟨⟨by omega,by omega⟩,by rw[bM];simp only[awU,awY];omega,rfl,next _ ?_⟩;rw[← step];rfl
 subst hJ;rw[aw9];dsimp only;refine bV (by omega) ⟨λy=>∃k:Nat,y.1.2.1=k/\oq fs d [] (λ_=>true) aH k y.2.1,λy=>(1002-y.1.2.1).toNat,⟨0,rfl,NC hok hl⟩,?_⟩;rintro⟨⟨ps,_,⟨⟩⟩,out,⟨⟩⟩ ⟨k,rfl,A⟩;dsimp only at A ⊢;refine⟨hd,?_⟩;rintro⟨⟨m,⟨⟩⟩,⟨⟩⟩ ⟨m1,m2⟩;have m1:m<=1000:=m1;have m2:∀i,i<d.length->Sp.lv aH i<=m:=m2 aH Gl hl;refine af (λhc=>?_) λhc=>⟨hz.symm,λ_=>Sp.at_end hok hl A λi hi=>by have:=m2 i hi;have hc:¬(k:Int)<=m:=gY hc;omega⟩;have hc:(k:Int)<=m:=gI hc;refine⟨λy=>oq fs d [] (λ_=>true) aH k y.2.1/\(y.1.2.1=false->∀i,i<d.length->true=true->Sp.lv aH i=k->Sp.sel fs (dW d i) (aO y.2.1)=iU y.2.1 i),λy=>Sp.room fs.length y.2.1*2+(if y.1.2.1=true then 1 else 0),⟨A,λh=>by cases h⟩,?_⟩;rintro⟨⟨ps2,ch,⟨⟩⟩,aa4,⟨⟩⟩ ⟨A2,st2⟩;dsimp only at A2 st2 ⊢;have wk:IntKind.i64.wrap ((k:Int)+1)=((k+1:Nat):Int):=fQ _ (by omega);refine af (λhch=>?_) λhch=>⟨rfl,⟨k+1,wk,Sp.at_next hok A2 (st2 hch)⟩,by rw[wk];dsimp only;omega⟩;subst hch;refine bZ (λi(x:Bool×List dI)=>((x.1,i,()),x.2,())) (λy=>y.1.2.1) (λ_ _=>rfl) d.length (by omega) (λi x=>MX fs d [] (λ_=>true) aH k aa4 i x.1 x.2) (s0:=(false,aa4)) ⟨A2,λh=>(by cases h),λ_=>⟨rfl,λj hj=>by omega⟩⟩ (λI μ i x hi hJ next=>?_) λI μ x hJ=>?_
 .obtain⟨c,Ic⟩:=x;have A3:=hJ.1;have ol:Ic.length=d.length:=A3.order.1;have hsm:=Uu A3 (by omega) hfs hr;dsimp only;rw[awX];refine bU (by omega) ⟨⟨by omega,by rw[hl.1];omega⟩,af (λh=>⟨rfl,next (c,Ic) (DV hJ λ_ h'=>?_)⟩) λh=>⟨⟨by omega,by omega⟩,⟨hs,o6 hd hi,hsm⟩,⟨by omega,by omega⟩,by omega,trivial,af (λh3=>⟨⟨by omega,by omega⟩,by omega,rfl,next (true,_) (ae9 hok hl hf hJ hi rfl ?_ ?_)⟩) λh3=>⟨rfl,next (c,Ic) (DV hJ λ_ _=>?_)⟩⟩⟩
  .exact(ayR.1 h h').elim
  .exact amz h
  .exact gY (dY h3)
  .exact gI (dw h3)
 .obtain⟨c,Ic⟩:=x;dsimp only;obtain⟨A3,c1,c2⟩:=hJ;refine bV (by omega) ⟨rfl,⟨A3,λhc=>still_at (nm:=λ_=>true) (c2 hc).2⟩,?_⟩;cases c with
  |true=>have:=c1 rfl;dsimp only at this ⊢;simp only[if_true];omega
  |false=>have:=(c2 rfl).1;dsimp only at this ⊢;rw[this];simp
end Go.Proofs.Tryz
namespace Go.Proofs.Tryz
open Go Go.Fw Go.IntWalk Sp
theorem QS:OK zX.e:=by refine PA.ok mixed (ax [] trivial) H0 (by kernel_rfl) (show∀f0 f1 f2 f3 f4 p10,zX.goal (afa f0 f1 f2 f3 f4 p10) ((f0,f1,f2,f3,f4,()),(p10,()),())from ?_);intro f0 f1 f2 f3 f4 id hin hp;dsimp only[zX]at hp ⊢;exact rfl
theorem Bj:OK iQ.e:=by
 refine PA.ok mixed (ax [zX.e] ⟨QS,trivial⟩) BB (by kernel_rfl) (show∀s jE,iQ.goal (Bl s jE) (s,((jE,()),()),())from ?_);intro s1 id hin hp;dsimp only[iQ]at hp ⊢;have hlen:s1.length<=maxLen:=hin.1.1;rw[maxLen_eq]at hlen;refine je s1.length hlen (λn=>∀i,i<n->(Sp.fileAt s1 i).1≠id) (λi hi=>by omega) (λI μ n hn hJ next=>?_) λI μ hJ=>?_
 .dsimp only;refine bU (by omega) ⟨⟨by omega,by omega⟩,trivial,af (λh=>?_) λh=>⟨rfl,next λi hi=>?_⟩⟩
  .have h:(Sp.fileAt s1 n).1=id:=gI h;exact congrArg (·,()) (Sp.MV hn hJ h).symm
  .rcases aw8 i n with h'|h'
   .exact hJ i h'
   .have:i=n:=by omega
    subst this;have h:¬(Sp.fileAt s1 i).1=id:=gY h;exact h
 .dsimp only;exact bV (by omega) (congrArg (·,()) (Xd hJ).symm)
theorem MZ:OK zn.e:=by refine PA.ok mixed (ax [iQ.e,zX.e] ⟨Bj,QS,trivial⟩) H0 (by kernel_rfl) (show∀s0 s1 s2 id,zn.goal (ajb s0 s1 s2 id) ((s0,s1,s2,()),id,())from ?_);intro s0 s1 s2 id hin hp;dsimp only[zn]at hp ⊢;exact⟨trivial,rfl⟩
theorem QT:OK zY.e:=by
 refine PA.ok mixed (ax [nM.e,zn.e] ⟨yu,MZ,trivial⟩) H0 (by kernel_rfl) (show∀s0 s1 s2 id,zY.goal (afb s0 s1 s2 id) ((s0,s1,s2,()),id,())from ?_);intro s0 s1 s2 id hin hp;dsimp only[zY]at hp ⊢;obtain⟨h0,h1,h2⟩:s0.length<=1000/\s1.length<=1000/\∀f∈s1,bY f:=hp;refine⟨trivial,?_⟩;rcases lI s1 id with⟨h,_⟩|⟨n,hn,h,_,_⟩
 .have e:aj (s0,s1,s2,()) id=(VN,false):=by show(bif decide (Sp.place s1 id<0)then _ else _)=_;rw[h];rfl
  refine bV (by omega) ?_;show _=((aj (s0,s1,s2,()) id).1,(aj (s0,s1,s2,()) id).2,());rw[e];rfl
 .have e:aj (s0,s1,s2,()) id=(Sp.fileAt s1 n,true):=by show(bif decide (Sp.place s1 id<0)then _ else(Sp.fileAt s1 (Sp.place s1 id).toNat,true))=_;rw[h,aw1 (by omega)];rfl
  refine bU (by omega) ⟨⟨by omega,by omega⟩,?_,?_⟩
  .rw[h,awX];exact h2 _ (getD_mem (d:=((0:Int),(0:Int),false,(0:Int),[],())) hn)
  .show _=((aj (s0,s1,s2,()) id).1,(aj (s0,s1,s2,()) id).2,());rw[e,h];rfl
theorem Et:OK qE.e:=by
 refine PA.ok mixed (ax [mW.e,qx.e] ⟨vG,En,trivial⟩) H0 (by kernel_rfl) (show∀s0 s1 s2 id,qE.goal (afc s0 s1 s2 id) ((s0,s1,s2,()),id,())from ?_);intro s0 s1 s2 id hin hp;dsimp only[qE]at hp ⊢;obtain⟨h0,h1,h2⟩:s0.length<=1000/\s1.length<=1000/\∀f∈s1,bY f:=hp;refine⟨trivial,?_⟩;rcases lI s1 id with⟨h,_⟩|⟨n,hn,h,_,_⟩
 .have e:aj (s0,s1,s2,()) id=(VN,false):=by show(bif decide (Sp.place s1 id<0)then _ else _)=_;rw[h];rfl
  refine bU (by omega) ?_;show _=((aj (s0,s1,s2,()) id).1,(aj (s0,s1,s2,()) id).2,());rw[e];rfl
 .have e:aj (s0,s1,s2,()) id=(Sp.fileAt s1 n,true):=by show(bif decide (Sp.place s1 id<0)then _ else(Sp.fileAt s1 (Sp.place s1 id).toNat,true))=_;rw[h,aw1 (by omega)];rfl
  refine bV (by omega) ⟨⟨by omega,by omega⟩,?_,?_⟩
  .rw[h,awX];exact h2 _ (getD_mem (d:=((0:Int),(0:Int),false,(0:Int),[],())) hn)
  .show _=((aj (s0,s1,s2,()) id).1,(aj (s0,s1,s2,()) id).2,());rw[e,h];rfl
theorem Y8:OK zZ.e:=by
 refine XA.ok mixed (ax [nM.e,tK.e,oh.e,zn.e,sF.e] ⟨yu,MB,Ep,MZ,Ib,trivial⟩) aa7 (λ⟨s,f,_⟩ _=>⟨((((aQ s f).1.1,(aQ s f).1.2.1,(aQ s f).1.2.2.1,()),(aQ s f).2,()),()),⟨rfl,rfl,rfl,rfl⟩⟩) (by kernel_rfl) (show∀s0 s1 s2 f0 f1 f2 f3 f4,zZ.goal (Y9 s0 s1 s2 f0 f1 f2 f3 f4) ((s0,s1,s2,()),(f0,f1,f2,f3,f4,()),())from ?_);intro s0 s1 s2 f0 f1 f2 f3 f4 hin hp;dsimp only[zZ]at hp ⊢;refine⟨hp.1,?_⟩;rintro⟨⟨⟨a,l,nx,⟨⟩⟩,⟨⟩⟩,⟨⟩⟩ e;obtain⟨rfl,rfl,rfl⟩:a=s0/\l=s1/\nx=s2:=by simpa using e
 have hs:l.length<=1000:=hp.1.2.1;have no:¬(aC (a,l,nx,())=true/\0<=Sp.place l f0/\bT a (f0,f1,f2,f3,f4,())=true)->aQ (a,l,nx,()) (f0,f1,f2,f3,f4,())=((a,l,nx,()),false):=λh=>by
  rcases iC (a,l,nx,()) (f0,f1,f2,f3,f4,())with⟨e,_⟩|⟨n,hn,h1,h2,h3,_⟩
  .exact e
  .exact(h ⟨h2,by have h1:Sp.place l f0=n:=h1;omega,h3⟩).elim
 refine⟨trivial,trivial,af (λh1=>?_) λh1=>af (λh2=>?_) λh2=>⟨trivial,af (λh3=>?_) λh3=>?_⟩⟩
 .have:=no λh=>by have h1:=dY h1;have:=h.1;rw[show aC (a,l,nx,())=false from h1]at this;cases this
  dsimp only;rw[this];exact⟨rfl,rfl,rfl,rfl⟩
 .have:=no λh=>by have h2:Sp.place l f0<0:=gI h2;omega
  dsimp only;rw[this];exact⟨rfl,rfl,rfl,rfl⟩
 .have:=no λh=>by have h3:=dY h3;have:=h.2.2;rw[show bT a (f0,f1,f2,f3,f4,())=false from h3]at this;cases this
  dsimp only;rw[this];exact⟨rfl,rfl,rfl,rfl⟩
 .have g1:aC (a,l,nx,())=true:=dw h1;have g2:0<=Sp.place l f0:=by have h2:¬Sp.place l f0<0:=gY h2;omega
  have g3:bT a (f0,f1,f2,f3,f4,())=true:=dw h3;rcases iC (a,l,nx,()) (f0,f1,f2,f3,f4,())with⟨_,e⟩|⟨n,hn,hpl,_,_,e⟩
  .exact(e ⟨g1,g2,g3⟩).elim
  .have hn:n<l.length:=hn;have hpl:Sp.place l f0=n:=hpl;dsimp only;rw[hpl,e];exact⟨hp.2,⟨by omega,by omega⟩,hn,rfl,rfl,rfl,rfl⟩
theorem MH:OK tZ.e:=by
 refine XA.ok mixed (ax [mW.e,o9.e,jB.e,qx.e,pq.e] ⟨vG,Fz,ni,En,AB,trivial⟩) aa8 (λ⟨s,f,_⟩ _=>⟨((((aQ s f).1.1,(aQ s f).1.2.1,(aQ s f).1.2.2.1,()),(aQ s f).2,()),()),⟨rfl,rfl,rfl,rfl⟩⟩) (by kernel_rfl) (show∀s0 s1 s2 f0 f1 f2 f3 f4,tZ.goal (Za s0 s1 s2 f0 f1 f2 f3 f4) ((s0,s1,s2,()),(f0,f1,f2,f3,f4,()),())from ?_);intro s0 s1 s2 f0 f1 f2 f3 f4 hin hp;dsimp only[tZ]at hp ⊢;refine⟨hp.1,?_⟩;rintro⟨⟨⟨a,l,nx,⟨⟩⟩,⟨⟩⟩,⟨⟩⟩ e;obtain⟨rfl,rfl,rfl⟩:a=s0/\l=s1/\nx=s2:=by simpa using e
 have hs:l.length<=1000:=hp.1.2.1;have no:¬(aC (a,l,nx,())=true/\0<=Sp.place l f0/\bT a (f0,f1,f2,f3,f4,())=true)->aQ (a,l,nx,()) (f0,f1,f2,f3,f4,())=((a,l,nx,()),false):=λh=>by
  rcases iC (a,l,nx,()) (f0,f1,f2,f3,f4,())with⟨e,_⟩|⟨n,hn,h1,h2,h3,_⟩
  .exact e
  .exact(h ⟨h2,by have h1:Sp.place l f0=n:=h1;omega,h3⟩).elim
 refine⟨trivial,trivial,af (λh1=>?_) λh1=>af (λh2=>?_) λh2=>⟨trivial,af (λh3=>?_) λh3=>?_⟩⟩
 .have:=no λh=>by have h1:=dY h1;have:=h.1;rw[show aC (a,l,nx,())=false from h1]at this;cases this
  dsimp only;rw[this];exact⟨rfl,rfl,rfl,rfl⟩
 .have:=no λh=>by have h2:Sp.place l f0<0:=gI h2;omega
  dsimp only;rw[this];exact⟨rfl,rfl,rfl,rfl⟩
 .have:=no λh=>by have h3:=dY h3;have:=h.2.2;rw[show bT a (f0,f1,f2,f3,f4,())=false from h3]at this;cases this
  dsimp only;rw[this];exact⟨rfl,rfl,rfl,rfl⟩
 .have g1:aC (a,l,nx,())=true:=dw h1;have g2:0<=Sp.place l f0:=by have h2:¬Sp.place l f0<0:=gY h2;omega
  have g3:bT a (f0,f1,f2,f3,f4,())=true:=dw h3;rcases iC (a,l,nx,()) (f0,f1,f2,f3,f4,())with⟨_,e⟩|⟨n,hn,hpl,_,_,e⟩
  .exact(e ⟨g1,g2,g3⟩).elim
  .have hn:n<l.length:=hn;have hpl:Sp.place l f0=n:=hpl;dsimp only;rw[hpl,e];exact⟨hp.2,⟨by omega,by omega⟩,hn,rfl,rfl,rfl,rfl⟩
theorem Xx{d:List aV}{i:Nat}(hi:i<d.length):dQ (iW d) (Sp.nameOf d i)=true:=by rw[iw];unfold iW;rw[axX];exact⟨dN d i,getD_mem hi,rfl⟩
theorem Lj:aU []:=⟨by decide,λx hx=>by cases hx⟩
theorem aqA{fs:List aF}{d:List aV}{out:List dI}(h:gq fs d [] (dQ (iW d)) out):gq fs d [] (λ_=>true) out:=
 Uw h (λi hi=>Xx hi) λi hi hn=>absurd ((Xx hi).symm.trans hn) (by decide)
theorem QU:OK zW.e:=by refine XA.ok mixed (ax [xW.e,zV.e] ⟨OT,QN,trivial⟩) H0 (λ⟨(a,fs,nx,_),d,_⟩ _=>by obtain⟨out,h⟩:=Bh (fs:=fs) (a:=a) (nx:=nx) (d:=d) [] (λ_=>true);exact⟨(((out,(aB d&&aC (a,fs,nx,())),()),())),⟨rfl,h⟩⟩) (by kernel_rfl) (show∀s0 s1 s2 d,zW.goal (afd s0 s1 s2 d) ((s0,s1,s2,()),d,())from ?_);intro a fs nx d hin hp;dsimp only[zW]at hp ⊢;refine⟨hp.2.1,⟨hp.1,hp.2,Lj⟩,λr hr=>⟨hr.1,λh=>aqA (hr.2 h)⟩⟩
theorem aa9:OK BI.e:=by refine XA.ok mixed (ax [xW.e] ⟨OT,trivial⟩) H0 (λ⟨(a,fs,nx,_),d,r,names,_⟩ _=>by obtain⟨out,h⟩:=Bh (fs:=fs) (a:=a) (nx:=nx) (d:=d) r (dQ names);exact⟨(((out,(aB d&&aC (a,fs,nx,())),()),())),⟨rfl,h⟩⟩) (by kernel_rfl) (show∀s0 s1 s2 d qZ names,BI.goal (abb s0 s1 s2 d qZ names) ((s0,s1,s2,()),d,qZ,names,())from ?_);intro a fs nx d r names hin hp;dsimp only[BI]at hp ⊢;exact⟨hp,λr hr=>hr⟩
theorem Jz:OK uU.e:=by refine XA.ok mixed (ax [Ja.e] ⟨ai9,trivial⟩) ag5 (λ⟨(a,fs,nx,_),d,_⟩ _=>by obtain⟨out,h⟩:=Bh (fs:=fs) (a:=a) (nx:=nx) (d:=d) [] (λ_=>true);exact⟨(((out,(aB d&&aC (a,fs,nx,())),()),())),⟨rfl,h⟩⟩) (by kernel_rfl) (show∀s0 s1 s2 d,uU.goal (afe s0 s1 s2 d) ((s0,s1,s2,()),d,())from ?_);intro a fs nx d hin hp;dsimp only[uU]at hp ⊢;exact⟨hp,λr hr=>hr⟩
theorem apg(a:List fD)(fs:List aF)(nx:Int)(d:List aV):∃t:((List fD×List aF×Int×List aV×List dI×Unit)×Bool×Unit)×Unit,
 t.1.2.1=(aB d&&aC (a,fs,nx,()))/\(t.1.2.1=true->(t.1.1.1,t.1.1.2.1,t.1.1.2.2.1,())=(a,fs,nx,())/\t.1.1.2.2.2.1=d/\gq fs d [] (λ_=>true) t.1.1.2.2.2.2.1)/\(t.1.2.1=false->(t.1.1.1,t.1.1.2.1,t.1.1.2.2.1,t.1.1.2.2.2.1,t.1.1.2.2.2.2.1,())=([],[],0,[],[],())):=by
 obtain⟨out,h⟩:=Bh (fs:=fs) (a:=a) (nx:=nx) (d:=d) [] (λ_=>true);cases hk:(aB d&&aC (a,fs,nx,()))with
 |true=>exact⟨(((a,fs,nx,d,out,()),true,()),()),⟨rfl,λ_=>⟨rfl,rfl,h hk⟩,λh=>(by cases h)⟩⟩
 |false=>exact⟨((([],[],0,[],[],()),false,()),()),⟨rfl,λh=>(by cases h),λ_=>rfl⟩⟩
theorem Oa:OK vV.e:=by
 refine XA.ok mixed (ax [CS.e,pq.e,uU.e] ⟨TF,AB,Jz,trivial⟩) acY (λ⟨(a,fs,nx,_),d,_⟩ _=>apg a fs nx d) (by kernel_rfl) (show∀s0 s1 s2 d,vV.goal (abd s0 s1 s2 d) ((s0,s1,s2,()),d,())from ?_);intro a fs nx d hin hp;dsimp only[vV]at hp ⊢;refine⟨hp,λr0 hr0=>af (λh=>?_) λh=>⟨hp.1,λr1 hr1=>⟨hp.2,?_⟩⟩⟩
 .have h:r0.1.2.1=false:=dY h;have e:(aB d&&aC (a,fs,nx,()))=false:=hr0.1.symm.trans h;exact⟨e.symm,λh=>(by cases h),λ_=>rfl⟩
 .have h:r0.1.2.1=true:=dw h;have e:(aB d&&aC (a,fs,nx,()))=true:=hr0.1.symm.trans h;exact⟨e.symm,λ_=>⟨hr1,rfl,hr0.2 h⟩,λh=>by cases h⟩
theorem ag6{a:List fD}{fs:List aF}{nx:Int}{d:List aV}{r out:List dI}(h:(aB d&&aC (a,fs,nx,()))=true)(ho:gq fs d [] (λ_=>true) out):dX (a,fs,nx,d,r,())=decide (out=r):=by have e:dX (a,fs,nx,d,r,())=((aB d&&aC (a,fs,nx,()))&&@decide (gq fs d [] (λ_=>true) r) (Classical.propDecidable _)):=rfl;rw[e,h,aza,axf,axj (p:=out=r)];rw[awP]at h;exact(@ayr _ (Classical.propDecidable _)).trans ⟨λhr=>Ll (lH.1 h.1).1 ho hr,λe=>e▸ho⟩
theorem aqB{a:List fD}{fs:List aF}{nx:Int}{d:List aV}{r:List dI}(h:(aB d&&aC (a,fs,nx,()))=false):dX (a,fs,nx,d,r,())=false:=by have e:dX (a,fs,nx,d,r,())=((aB d&&aC (a,fs,nx,()))&&@decide (gq fs d [] (λ_=>true) r) (Classical.propDecidable _)):=rfl;rw[e,h,ayl]
theorem Ie:OK sK.e:=by
 refine PA.ok mixed (ax [yJ.e,zW.e] ⟨Xr,QU,trivial⟩) H0 (by kernel_rfl) (show∀c0 c1 c2 c3 c4,sK.goal (acZ c0 c1 c2 c3 c4) ((c0,c1,c2,c3,c4,()),())from ?_);intro a fs nx d r hin hp;dsimp only[sK]at hp ⊢;obtain⟨h1,h2,h3⟩:bn (a,fs,nx,())/\aI d/\aU r:=hp;refine⟨⟨h1,h2⟩,λr0 hr0=>af (λh=>⟨trivial,?_⟩) λh=>?_⟩
 .rw[ag6 (hr0.1.symm.trans h) (hr0.2 h)]
 .rw[aqB (hr0.1.symm.trans h)]
theorem Ig:OK sN.e:=by
 refine PA.ok mixed (ax [yK.e,uU.e] ⟨Xv,Jz,trivial⟩) H0 (by kernel_rfl) (show∀l0 l1 l2 l3 l4,sN.goal (ac0 l0 l1 l2 l3 l4) ((l0,l1,l2,l3,l4,()),())from ?_);intro a fs nx d r hin hp;dsimp only[sN]at hp ⊢;obtain⟨h1,h2,h3⟩:bn (a,fs,nx,())/\aI d/\aU r:=hp;refine⟨⟨h1,h2⟩,λr0 hr0=>af (λh=>⟨trivial,?_⟩) λh=>?_⟩
 .rw[ag6 (hr0.1.symm.trans h) (hr0.2 h)]
 .rw[aqB (hr0.1.symm.trans h)]
theorem aq6:OK Jr.e:=by refine PA.ok mixed (ax [] trivial) aff (by kernel_rfl) (show∀f0 f1 f2 f3 f4,Jr.goal (ac1 f0 f1 f2 f3 f4) ((f0,f1,f2,f3,f4,()),())from ?_);intro f0 f1 f2 f3 a hin hp;dsimp only[Jr]at hp ⊢;exact amB (K:=λr=>r=(dP a,())) (λx:aS=>(x.1,())) ([],0,0,[],()) a _ (by have hp:a.length<=1000:=hp;omega) rfl
theorem Ux:OK uV.e:=by refine XA.ok mixed (ax [] trivial) VO (λ⟨(_,_,_,_,a,_),_⟩ _=>⟨((dP a,()),()),rfl⟩) (by kernel_rfl) (show∀f0 f1 f2 f3 f4,uV.goal (Uy f0 f1 f2 f3 f4) ((f0,f1,f2,f3,f4,()),())from ?_);intro f0 f1 f2 f3 a hin hp;dsimp only[uV]at hp ⊢;exact amB (K:=λr=>r.1=dP a) (λx:aS=>(x.1,())) ([],0,0,[],()) a _ (by have hp:a.length<=1000:=hp;omega) rfl
theorem IL:OK pJ.e:=by refine XA.ok mixed (ax [] trivial) VP (λ⟨(_,_,_,_,a,_),_⟩ _=>⟨((dP a,()),()),rfl⟩) (by kernel_rfl) (show∀f0 f1 f2 f3 f4,pJ.goal (Uz f0 f1 f2 f3 f4) ((f0,f1,f2,f3,f4,()),())from ?_);intro f0 f1 f2 f3 a hin hp;dsimp only[pJ]at hp ⊢;exact amB (K:=λr=>r.1=dP a) (λx:aS=>(x.1,())) ([],0,0,[],()) a _ (by have hp:a.length<=1000:=hp;omega) rfl
theorem abe{α:Type}(g:α->Sp.Bytes)(l:List α)(s:Sp.Bytes):(s,())∈l.map (λx=>(g x,()))↔s∈l.map g:=by simp
theorem FU{α β:Type}(p:α->Bool)(g:α->β)(d:α)(l:List α){n:Nat}(h:n<l.length)(s:β):s∈((l.take (n+1)).filter p).map g↔s∈((l.take n).filter p).map g\/(p (l.getD n d)=true/\s=g (l.getD n d)):=by rw[jF p d l h,axz,axb];cases hp:p (l.getD n d)<;>simp
theorem Dv{α β:Type}(p:α->Bool)(g:α->β)(l:List α)(n:Nat):(((l.take n).filter p).map g).length<=n:=by have:=axh p (l.take n);rw[awT]at this;rw[aw4];omega
def jV(n:bI):Bool:=n.1==2||(n.1==3||n.1==4)
theorem zx(l:List Sp.Bytes)(h:l.length<=1000):dA (l.map λs=>(s,())) l:=⟨by rw[aw4];exact h,λs=>by simp⟩
theorem adU(q:List bI):(lD q).length<=q.length:=by unfold lD;rw[aw4];exact axh _ _
theorem ag7(q:List bI):(pG q).length<=q.length:=by unfold pG;rw[aw4];exact axh _ _
abbrev EN:bI:=(0,0,0,[],0,0,[],())
theorem abf:OK BK.e:=by
 refine XA.ok mixed (ax [(nJ,.eff (oH jM) lM)] ⟨⟨uw,rX⟩,trivial⟩) ac2 (λ⟨q,_⟩ hp=>⟨((_,()),()),zx (lD q) (aw2 (adU q) hp)⟩) (by kernel_rfl) (show∀q,BK.goal (abg q) (q,())from ?_);intro q hin hp;dsimp only[BK]at hp ⊢;have hp:q.length<=1000:=hp;refine bZ (λi(x:Sp.LS)=>(((),i,()),x,())) (λy=>y.1.2.1) (λ_ _=>rfl) q.length (by omega) (λn l=>l=((q.take n).filter jV).map λn=>(n.2.2.2.1,())) rfl (λI μ n l hn hJ next=>?_) λI μ l hJ=>?_
 .subst hJ;have hl:=Dv jV (λn=>(n.2.2.2.1,())) q n;have small:(((q.take n).filter jV).map λn=>(n.2.2.2.1,())).length+1<=big:=by rw[bM];omega
  have yes:jV (q.getD n EN)=true->((q.take n).filter jV).map (λn=>(n.2.2.2.1,()))++[((q.getD n EN).2.2.2.1,())]=((q.take (n+1)).filter jV).map λn=>(n.2.2.2.1,()):=λh=>by rw[jF jV EN q hn,h,axz];rfl
  dsimp only;refine bU (by omega) ⟨⟨by omega,by omega⟩,af (λh=>⟨small,rfl,next _ (yes ?_)⟩) λh2=>af (λh=>⟨small,rfl,next _ (yes ?_)⟩) λh3=>af (λh=>⟨small,rfl,next _ (yes ?_)⟩) λh4=>⟨rfl,next _ ?_⟩⟩
  .have h:((q.getD n EN).1==2)=true:=h;unfold jV;rw[h];rfl
  .have h:((q.getD n EN).1==3)=true:=h;unfold jV;rw[h];simp
  .have h:((q.getD n EN).1==4)=true:=h;unfold jV;rw[h];simp
  .have h2:((q.getD n EN).1==2)=false:=h2;have h3:((q.getD n EN).1==3)=false:=h3;have h4:((q.getD n EN).1==4)=false:=h4;have:jV (q.getD n EN)=false:=by unfold jV;rw[h2,h3,h4];rfl
   rw[jF jV EN q hn,this,axz];simp
 .subst hJ;rw[aw9];have hl:((q.filter jV).map λn=>(n.2.2.2.1,())).length<=q.length:=by rw[aw4];exact axh _ _
  dsimp only;refine bV (by omega) ⟨by omega,λr hr=>⟨by have:=hr.1;omega,λs=>(hr.2 (s,())).trans ?_⟩⟩;exact abe (λn:bI=>n.2.2.2.1) _ s
theorem ac3:OK D9.e:=by
 refine XA.ok mixed (ax [(nJ,.eff (oH jM) lM),zK.e] ⟨⟨uw,rX⟩,QV,trivial⟩) afg (λ⟨q,_⟩ hp=>⟨((_,()),()),zx (pG q) (aw2 (ag7 q) hp)⟩) (by kernel_rfl) (show∀q,D9.goal (ac4 q) (q,())from ?_);intro q hin hp;dsimp only[D9]at hp ⊢;have hp:q.length<=1000:=hp;refine bZ (λi(x:Sp.LS)=>(((),i,()),x,())) (λy=>y.1.2.1) (λ_ _=>rfl) q.length (by omega) (λn l=>l=((q.take n).filter jP).map λn=>(n.2.2.2.1,())) rfl (λI μ n l hn hJ next=>?_) λI μ l hJ=>?_
 .subst hJ;have hl:=Dv jP (λn=>(n.2.2.2.1,())) q n;dsimp only;refine bU (by omega) ⟨⟨by omega,by omega⟩,trivial,af (λh=>⟨by rw[bM];simp only[awU,awY];omega,rfl,next _ ?_⟩) λh=>⟨rfl,next _ ?_⟩⟩
  .have h:jP (q.getD n EN)=true:=h;rw[jF jP EN q hn,h,axz];rfl
  .have h:jP (q.getD n EN)=false:=h;rw[jF jP EN q hn,h,axz];simp
 .subst hJ;rw[aw9];have hl:((q.filter jP).map λn=>(n.2.2.2.1,())).length<=q.length:=by rw[aw4];exact axh _ _
  dsimp only;refine bV (by omega) ⟨by omega,λr hr=>⟨by have:=hr.1;omega,λs=>(hr.2 (s,())).trans ?_⟩⟩;exact abe (λn:bI=>n.2.2.2.1) _ s
theorem asW(n:bI):(decide (2<=n.1)&&decide (n.1<=4))=jV n:=by rw[axf];unfold jV;simp only[awP,axP,axj,awZ];omega
theorem atF(n:bI):(decide (8<=n.1)&&decide (n.1<=9))=jP n:=by rw[axf];unfold jP;simp only[awP,axP,axj,awZ];omega
theorem abh:OK BL.e:=by
 refine XA.ok mixed (ax [oM.e,jc.e] ⟨xJ,jJ,trivial⟩) ac5 (λ⟨q,_⟩ hp=>⟨((_,()),()),zx (lD q) (aw2 (adU q) hp)⟩) (by kernel_rfl) (show∀q,BL.goal (abj q) (q,())from ?_);intro q hin hp;dsimp only[BL]at hp ⊢;have hp:q.length<=1000:=hp;refine bZ (λi(x:Sp.LS)=>((x,i,()),())) (λy=>y.1.2.1) (λ_ _=>rfl) q.length (by omega) (λn l=>l.length<=n/\∀s,(s,())∈l↔s∈((q.take n).filter jV).map λn=>n.2.2.2.1) ⟨aw7 _,λs=>by simp⟩ (λI μ n l hn hJ next=>?_) λI μ l hJ=>?_
 .obtain⟨hl,hJ⟩:=hJ;dsimp only;rw[awX,asW];refine bU (by omega) ⟨⟨by omega,by omega⟩,trivial,af (λh=>⟨⟨by omega,by omega⟩,by omega,rfl,next _ ⟨aw2 (Na _ _) (by omega),λs=>?_⟩⟩) λh=>⟨rfl,next _ ⟨by omega,λs=>?_⟩⟩⟩
  .have h:jV (q.getD n EN)=true:=h;rw[qO,hJ,FU jV _ EN q hn,Prod.mk.injEq];exact⟨λg=>g.elim (λg=>.inr ⟨h,g.1⟩) .inl,λg=>g.elim .inr λg=>.inl ⟨g.2,rfl⟩⟩
  .have h:jV (q.getD n EN)=false:=h;rw[hJ,FU jV _ EN q hn,h];simp
 .obtain⟨hl,hJ⟩:=hJ;rw[aw9]at hJ;dsimp only;exact bV (by omega) ⟨by rw[bM];omega,by show l.length<=1000;omega,hJ⟩
theorem ac6:OK Ea.e:=by
 refine XA.ok mixed (ax [oM.e,jc.e] ⟨xJ,jJ,trivial⟩) afh (λ⟨q,_⟩ hp=>⟨((_,()),()),zx (pG q) (aw2 (ag7 q) hp)⟩) (by kernel_rfl) (show∀q,Ea.goal (ac7 q) (q,())from ?_);intro q hin hp;dsimp only[Ea]at hp ⊢;have hp:q.length<=1000:=hp;refine bZ (λi(x:Sp.LS)=>((x,i,()),())) (λy=>y.1.2.1) (λ_ _=>rfl) q.length (by omega) (λn l=>l.length<=n/\∀s,(s,())∈l↔s∈((q.take n).filter jP).map λn=>n.2.2.2.1) ⟨aw7 _,λs=>by simp⟩ (λI μ n l hn hJ next=>?_) λI μ l hJ=>?_
 .obtain⟨hl,hJ⟩:=hJ;dsimp only;rw[awX,atF];refine bU (by omega) ⟨⟨by omega,by omega⟩,trivial,af (λh=>⟨⟨by omega,by omega⟩,by omega,rfl,next _ ⟨aw2 (Na _ _) (by omega),λs=>?_⟩⟩) λh=>⟨rfl,next _ ⟨by omega,λs=>?_⟩⟩⟩
  .have h:jP (q.getD n EN)=true:=h;rw[qO,hJ,FU jP _ EN q hn,Prod.mk.injEq];exact⟨λg=>g.elim (λg=>.inr ⟨h,g.1⟩) .inl,λg=>g.elim .inr λg=>.inl ⟨g.2,rfl⟩⟩
  .have h:jP (q.getD n EN)=false:=h;rw[hJ,FU jP _ EN q hn,h];simp
 .obtain⟨hl,hJ⟩:=hJ;rw[aw9]at hJ;dsimp only;exact bV (by omega) ⟨by rw[bM];omega,by show l.length<=1000;omega,hJ⟩
def nK(a b:List aS)(x:Sp.Bytes×Unit):Bool:=!decide (bf a x.1=bf b x.1)
theorem UA(f0 f1:Int)(f2:Bool)(f3:Int)(a:List aS)(g0 g1:Int)(g2:Bool)(g3:Int)(b:List aS)(s:Sp.Bytes):
 (s,())∈(dP a++dP b).filter (nK a b)↔s∈gX (f0,f1,f2,f3,a,()) (g0,g1,g2,g3,b,()):=by
 unfold gX dP;rw[axF,axF,← axz,abe];exact Iff.rfl
theorem QW(f g:aF):(gX f g).length<=f.2.2.2.2.1.length+g.2.2.2.2.1.length:=by unfold gX;refine aw2 (axh _ _) ?_;rw[aw4,awW];exact aw7 _
theorem Xy:OK yL.e:=by
 refine XA.ok mixed (ax [(nJ,.eff (oH jM) lM),sH.e,uV.e] ⟨⟨uw,rX⟩,Lc,Ux,trivial⟩) Zb (λ⟨f,g,_⟩ hp=>⟨((_,()),()),zx (gX f g) (aw2 (QW f g) hp.2.2)⟩) (by kernel_rfl) (show∀a0 a1 a2 a3 a4 b0 b1 b2 b3 b4,yL.goal (Xz a0 a1 a2 a3 a4 b0 b1 b2 b3 b4) ((a0,a1,a2,a3,a4,()),(b0,b1,b2,b3,b4,()),())from ?_);intro a0 a1 a2 a3 a b0 b1 b2 b3 b hin hp;dsimp only[yL]at hp ⊢;obtain⟨ha,hb,hab⟩:a.length<=1000/\b.length<=1000/\a.length+b.length<=1000:=hp;refine⟨ha,?_⟩;rintro⟨⟨r0,⟨⟩⟩,⟨⟩⟩ e0;have e0:r0=dP a:=e0;refine⟨hb,?_⟩;rintro⟨⟨r1,⟨⟩⟩,⟨⟩⟩ e1;have e1:r1=dP b:=e1;subst e0 e1;have hL:(dP a++dP b).length=a.length+b.length:=by rw[awW];unfold dP;rw[aw4,aw4]
 refine⟨by rw[bM];rw[awW]at hL;dsimp only;omega,?_⟩;dsimp only;generalize hLL:dP a++dP b=L at hL;refine bZ (λi(x:Sp.LS)=>(((),i,()),x,())) (λy=>y.1.2.1) (λ_ _=>rfl) L.length (by omega) (λn l=>l=(L.take n).filter (nK a b)) rfl (λI μ n l hn hJ next=>?_) λI μ l hJ=>?_
 .subst hJ;have hl:((L.take n).filter (nK a b)).length<=n:=by have:=axh (nK a b) (L.take n);rw[awT]at this;omega
  have step:=jF (nK a b) ([],()) L hn;dsimp only;rw[eq3,awX];refine bU (by omega) ⟨⟨by omega,by omega⟩,by omega,trivial,trivial,af (λh=>⟨by rw[bM];simp only[awU,awY];omega,rfl,next _ ?_⟩) λh=>⟨rfl,next _ ?_⟩⟩
  .have h:nK a b (L.getD n ([],()))=true:=h;rw[step,h];rfl
  .have h:nK a b (L.getD n ([],()))=false:=h;rw[step,h];simp
 .subst hJ;rw[aw9];have hl:=axh (nK a b) L;dsimp only;refine bV (by omega) ⟨by omega,λr hr=>⟨by have:=hr.1;omega,λs=>(hr.2 (s,())).trans ?_⟩⟩;rw[← hLL];exact UA _ _ _ _ a _ _ _ _ b s
theorem XB:OK yM.e:=by
 refine XA.ok mixed (ax [oM.e,sJ.e,pJ.e] ⟨xJ,Ld,IL,trivial⟩) Zc (λ⟨f,g,_⟩ hp=>⟨((_,()),()),zx (gX f g) (aw2 (QW f g) hp.2.2)⟩) (by kernel_rfl) (show∀a0 a1 a2 a3 a4 b0 b1 b2 b3 b4,yM.goal (XC a0 a1 a2 a3 a4 b0 b1 b2 b3 b4) ((a0,a1,a2,a3,a4,()),(b0,b1,b2,b3,b4,()),())from ?_);intro a0 a1 a2 a3 a b0 b1 b2 b3 b hin hp;dsimp only[yM]at hp ⊢;obtain⟨ha,hb,hab⟩:a.length<=1000/\b.length<=1000/\a.length+b.length<=1000:=hp;refine⟨ha,?_⟩;rintro⟨⟨r0,⟨⟩⟩,⟨⟩⟩ e0;have e0:r0=dP a:=e0;refine⟨hb,?_⟩;rintro⟨⟨r1,⟨⟩⟩,⟨⟩⟩ e1;have e1:r1=dP b:=e1;subst e0 e1;have hL:(dP a++dP b).length=a.length+b.length:=by rw[awW];unfold dP;rw[aw4,aw4]
 refine⟨by rw[bM];rw[awW]at hL;dsimp only;omega,?_⟩;dsimp only;generalize hLL:dP a++dP b=L at hL;refine bZ (λi(x:Sp.LS)=>((x,i,()),())) (λy=>y.1.2.1) (λ_ _=>rfl) L.length (by omega) (λn l=>l.length<=n/\∀s,(s,())∈l↔(s,())∈(L.take n).filter (nK a b)) ⟨aw7 _,λs=>by simp⟩ (λI μ n l hn hJ next=>?_) λI μ l hJ=>?_
 .obtain⟨hl,hJ⟩:=hJ;have step:=jF (nK a b) ([],()) L hn;dsimp only;rw[eq3,awX];refine bU (by omega) ⟨⟨by omega,by omega⟩,by omega,trivial,⟨by omega,by omega⟩,by omega,trivial,af (λh=>⟨⟨by omega,by omega⟩,by omega,by omega,rfl,next _ ⟨aw2 (Na _ _) (by omega),λs=>?_⟩⟩) λh=>⟨rfl,next _ ⟨by omega,λs=>?_⟩⟩⟩
  .have h:nK a b (L.getD n ([],()))=true:=h;rw[qO,step,h,axb,hJ];show _↔_\/(s,())∈[L.getD n ([],())];rw[axH];exact Or.comm
  .have h:nK a b (L.getD n ([],()))=false:=h;rw[step,h,hJ];simp
 .obtain⟨hl,hJ⟩:=hJ;rw[aw9]at hJ;dsimp only;refine bV (by omega) ⟨by rw[bM];omega,by show l.length<=1000;omega,λs=>(hJ s).trans ?_⟩;rw[← hLL];exact UA _ _ _ _ a _ _ _ _ b s
end Go.Proofs.Tryz
