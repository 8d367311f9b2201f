import Derived.Test.YthkihdfanbmegaaGreatDoorP8
import Derived.Test.YthkihdfanbmegaaGreatDoorV10
import Derived.Test.YthkihdfanbmegaaGreatDoorL3
import Derived.Test.YthkihdfanbmegaaGreatDoorL4
import Derived.Test.YthkihdfanbmegaaGreatDoorV11
import Derived.Test.YthkihdfanbmegaaGreatDoorSp
import Derived.Test.YthkihdfanbmegaaGreatDoorV14
import Derived.Test.YthkihdfanbmegaaGreatDoorV15
namespace Go.Proofs.Tryz
open Go Go.Fw Go.IntWalk Sp
theorem UA:OK wQ.e:=by refine PA.ok mixed (aA [] trivial) H0 (by kernel_rfl) (show∀s,wQ.goal (UB s) (s,())from ?_);intro w hin hp;dsimp only[wQ]at hp ⊢;exact rfl
theorem GI:OK kD.e:=by refine XA.ok mixed (aA [] trivial) G9 (λ⟨s,_⟩ _=>⟨((s,()),()),rfl⟩) (by kernel_rfl) (show∀s,kD.goal (GK s) (s,())from ?_);intro s hin hp;dsimp only[kD]at hp ⊢;have hp:s.length<=1000:=hp;intro g hg;refine af (λh=>?_) λh=>⟨by rw[bW];omega,rfl⟩;exact(asr.1 (hg h)).symm
theorem Qs:OK sH.e:=by refine XA.ok mixed (aA [kD.e] ⟨GI,trivial⟩) Sm (λ⟨(i,o,s,l,a,_),_⟩ _=>⟨(((i,o,s,l,a,()),()),()),⟨rfl,rfl,rfl,rfl,rfl⟩⟩) (by kernel_rfl) (show∀f0 f1 f2 f3 f4,sH.goal (Qu f0 f1 f2 f3 f4) ((f0,f1,f2,f3,f4,()),())from ?_);intro f0 f1 f2 f3 f4 hin hp;dsimp only[sH]at hp ⊢;exact⟨hp,λr0 hr0=>⟨rfl,rfl,rfl,rfl,hr0⟩⟩
theorem DX:OK qo.e:=by refine PA.ok mixed (aA [] trivial) H0 (by kernel_rfl) (show∀a0 a1 a2 a3 p10,qo.goal (Yq a0 a1 a2 a3 p10) ((a0,a1,a2,a3,()),(p10,()),())from ?_);intro a0 a1 a2 a3 p hin hp;dsimp only[qo]at hp ⊢;exact rfl
theorem JR:OK uD.e:=by refine PA.ok mixed (aA [] trivial) H0 (by kernel_rfl) (show∀a0 a1 a2 a3 p10,uD.goal (Yr a0 a1 a2 a3 p10) ((a0,a1,a2,a3,()),(p10,()),())from ?_);intro a0 a1 a2 a3 p hin hp;dsimp only[uD]at hp ⊢;exact congrArg (·,()) (aaw a0 p)
theorem xq:OK gQ.e:=by refine PA.ok mixed (aA [qo.e] ⟨DX,trivial⟩) xO (by kernel_rfl) (show∀s lF,gQ.goal (xu s lF) (s,((lF,()),()),())from ?_);intro l nm hin hp;dsimp only[gQ]at hp ⊢;exact WE (K:=λr=>r=(Sp.findAt (λx:aW=>x.1==nm) l,())) (λx:aW=>x.1==nm) ([],0,0,[],()) l _ hin.1.1 rfl
theorem xw:OK gU.e:=by refine PA.ok mixed (aA [uD.e] ⟨JR,trivial⟩) xP (by kernel_rfl) (show∀s lF,gU.goal (xA s lF) (s,((lF,()),()),())from ?_);intro l nm hin hp;dsimp only[gU]at hp ⊢;exact WE (K:=λr=>r=(Sp.findAt (λx:aW=>Op.bytesLess nm x.1) l,())) (λx:aW=>Op.bytesLess nm x.1) ([],0,0,[],()) l _ hin.1.1 rfl
theorem vK:OK gG.e:=by refine XA.ok mixed (aA [gQ.e,qo.e] ⟨xq,DX,trivial⟩) xB (λ⟨s,((nm,_),_),_⟩ _=>⟨((s.filter (λx=>!(x.1==nm)),()),()),rfl⟩) (by kernel_rfl) (show∀s yX,gG.goal (vM s yX) (s,((yX,()),()),())from ?_);intro s nm hin hp;dsimp only[gG]at hp ⊢;exact⟨trivial,ajf (K:=λr=>r.1.1=s.filter λx=>!(x.1==nm)) (λx:aW=>x.1==nm) ([],0,0,[],()) s _ (by have hp:s.length<=1000:=hp;omega) rfl⟩
theorem alL{r:List aW}{x:aW}{k:Nat}(hk:k<=r.length)(h1:∀i,i<k->Op.bytesLess x.1 (r.getD i ([],0,0,[],())).1=false)(h2:k<r.length->Op.bytesLess x.1 (r.getD k ([],0,0,[],())).1=true):r.take k++([x]++r.drop k)=yU r x:=by
 have e:∀y:aW,iC x.1 y=!Op.bytesLess x.1 y.1:=λy=>by rw[← aaw y.1 x.1,Bool.not_not];rfl
 have hl:=afv (iC x.1) ([],0,0,[],()) r k hk (λi hi=>by rw[e,h1 i hi];rfl) λh=>by rw[e,h2 h];rfl
 unfold yU;rw[ane (iC x.1) r,anf,hl];rfl
theorem acM:OK Dk.e:=by
 refine XA.ok mixed (aA [(sW,.eff (IZ mZ) zl),gU.e,uD.e,gG.e,qo.e,sH.e] ⟨⟨Jt,Jf⟩,xw,JR,vK,DX,Qs,trivial⟩) aeA (λ⟨(i,o,s,l,a,_),nm,(k,n,w,_),_⟩ _=>⟨(((i,o,s,l,dO a nm k n w,()),()),()),⟨rfl,rfl,rfl,rfl,rfl⟩⟩) (by kernel_rfl) (show∀f0 f1 f2 f3 f4 name v0 v1 v2,Dk.goal (acN f0 f1 f2 f3 f4 name v0 v1 v2) ((f0,f1,f2,f3,f4,()),name,(v0,v1,v2,()),())from ?_);intro f0 f1 f2 f3 f4 name v0 v1 v2 hin hp;dsimp only[Dk]at hp ⊢;have hp:f4.length<=900:=hp;refine⟨by omega,?_⟩;rintro⟨⟨⟨i,o,s,l,a,⟨⟩⟩,⟨⟩⟩,⟨⟩⟩ ⟨e0,e1,e2,e3,e4⟩;obtain rfl:i=f0:=e0;obtain rfl:o=f1:=e1;obtain rfl:s=f2:=e2;obtain rfl:l=f3:=e3;obtain rfl:a=f4:=e4;refine⟨(show a.length<=1000 by omega),?_⟩;rintro⟨⟨r,⟨⟩⟩,⟨⟩⟩ er;have er:r=a.filter (fQ name):=er;have hl:r.length<=900:=by rw[er];exact arM (asn _ _) hp
 refine af (λh=>⟨rfl,rfl,rfl,rfl,?_⟩) λh=>⟨trivial,?_⟩
 .show r=dO a name v0 v1 v2;unfold dO;rw[aru (arA.1 h)];exact er
 .have ap6:dO a name v0 v1 v2=yU r (name,v0,v1,v2,()):=by unfold dO;rw[arx (arn.1 h),← er];rfl
  dsimp only;rw[ap6];rcases GL (λx:aW=>Op.bytesLess name x.1) ([],0,0,[],()) r with⟨g,hg⟩|⟨k,hk,g,gk,hlt⟩
  .rw[g];refine dG (by decide) ⟨⟨by omega,by omega,by omega,rfl⟩,λr3 hr3=>⟨rfl,rfl,rfl,rfl,?_⟩⟩;rw[arI]at hr3;exact hr3.trans (alL (x:=(name,v0,v1,v2,())) (arF _) hg λh=>(by omega))
  .rw[g];refine dH (by omega) ⟨⟨by omega,by omega,by omega,rfl⟩,λr4 hr4=>⟨rfl,rfl,rfl,rfl,?_⟩⟩;rw[arI]at hr4;exact hr4.trans (alL (x:=(name,v0,v1,v2,())) (by omega) hlt λ_=>gk)
theorem aeB:OK EJ.e:=by refine PA.ok mixed (aA [BF.e] ⟨aal,trivial⟩) H0 (by kernel_rfl) (show∀s0 s1 s2 id,EJ.goal (aeC s0 s1 s2 id) ((s0,s1,s2,()),id,())from ?_);intro s0 s1 s2 id hin hp;dsimp only[EJ]at hp ⊢;exact⟨hp,rfl⟩
end Go.Proofs.Tryz
namespace Go.Proofs.Tryz
open Go Go.Fw Go.IntWalk
theorem akt{T:Prop}{b:Bool}(h:b=true)(ht:T):bif b then T else((false,()):Bool×Unit)=(true,()):=by rw[h];exact ht
end Go.Proofs.Tryz
namespace Go.Proofs.Tryz
open Go Go.Fw Go.IntWalk Sp
theorem aaC:OK BH.e:=by refine PA.ok mixed (aA [] trivial) H0 (by kernel_rfl) (show∀n,BH.goal (aaD n) (n,())from ?_);intro n hin hp;dsimp only[BH]at hp ⊢;exact rfl
theorem acW{v:qR}{to:Int}:bQ v to=bif dA v.1 v.2.1 v.2.2.1&&(!(v.1==0)&&(to==1||to==2))then
 (bif v.1==to then(v,true)else bif to==2 then((2,0,fJ v.2.1,()),true)else bif (dR v.2.2.1).2 then((1,(dR v.2.2.1).1,[],()),true)else((0,0,[],()),false))else((0,0,[],()),false):=rfl
theorem ahM{v:qR}{to:Int}(h:(dA v.1 v.2.1 v.2.2.1&&(!(v.1==0)&&(to==1||to==2)))=false):bQ v to=((0,0,[],()),false):=by rw[acW,h];rfl
theorem ajj{v:qR}{to:Int}(h:(dA v.1 v.2.1 v.2.2.1&&(!(v.1==0)&&(to==1||to==2)))=true):bQ v to=bif v.1==to then(v,true)else bif to==2 then((2,0,fJ v.2.1,()),true)else bif (dR v.2.2.1).2 then((1,(dR v.2.2.1).1,[],()),true)else((0,0,[],()),false):=by rw[acW,h];rfl
theorem GN:OK pX.e:=by
 refine PA.ok mixed (aA [BH.e,(rW,.pure qp),wQ.e,(uN,.pure rP),mr.e] ⟨aaC,⟨Je,Ij⟩,UA,⟨Kw,Ju⟩,zV,trivial⟩) UE (by kernel_rfl) (show∀v0 v1 v2 kind,pX.goal (Sr v0 v1 v2 kind) ((v0,v1,v2,()),kind,())from ?_);intro v0 v1 v2 kind hin hp;dsimp only[pX]at hp ⊢;have hp:v2.length<=1000:=hp;have out:(dA v0 v1 v2&&(!(v0==0)&&(kind==1||kind==2)))=false->(((0,0,[],()),false,()):qR×Bool×Unit)=((bQ (v0,v1,v2,()) kind).1,(bQ (v0,v1,v2,()) kind).2,()):=λh=>by rw[ahM h]
 refine⟨λ_=>(dA v0 v1 v2&&(!(v0==0)&&(kind==1||kind==2)))=true,⟨trivial,af (λh=>out (by rw[fK h];rfl)) λh1=>af (λh=>out (by rw[h,auh,as6,ar9])) λh2=>af (λh=>af (λh4=>out ?_) λh4=>⟨rfl,?_⟩) λh=>⟨rfl,?_⟩⟩,λ_ hJ=>?_⟩
 .have h:(kind==1)=false:=by simpa using h
  have h4:(kind==2)=false:=by simpa using h4
  rw[h,h4,auE,ar9,ar9]
 .have h4:(kind==2)=true:=by simpa using h4
  rw[cZ h1,show(v0==0)=false from h2,h4,Bool.or_true];rfl
 .have h:(kind==1)=true:=by simpa using h
  rw[cZ h1,show(v0==0)=false from h2,h,Bool.true_or];rfl
 .have e:=ajj (v:=(v0,v1,v2,())) (to:=kind) hJ;refine af (λh=>?_) λh=>af (λh2=>⟨trivial,trivial,?_⟩) λh2=>⟨hp,af (λh3=>?_) λh3=>⟨trivial,?_⟩⟩
  .rw[show(v0==kind)=true from h]at e;rw[e];rfl
  .rw[show(v0==kind)=false from h,h2]at e;rw[e];rfl
  .rw[show(v0==kind)=false from h,h2,show(dR v2).2=false from fK h3]at e;rw[e];rfl
  .rw[show(v0==kind)=false from h,h2,show(dR v2).2=true from cZ h3]at e;rw[e];rfl
theorem CO:OK o9.e:=by refine PA.ok mixed (aA [] trivial) H0 (by kernel_rfl) (show∀f0 f1 p10,o9.goal (WW f0 f1 p10) ((f0,f1,()),(p10,()),())from ?_);intro f0 f1 p hin hp;dsimp only[o9]at hp ⊢;exact rfl
theorem vF:OK gq.e:=by refine PA.ok mixed (aA [o9.e] ⟨CO,trivial⟩) vN (by kernel_rfl) (show∀s lF,gq.goal (vG s lF) (s,((lF,()),()),())from ?_);intro l nm hin hp;dsimp only[gq]at hp ⊢;exact WE (K:=λr=>r=(Sp.fieldPlace l nm,())) (λx:dD=>x.1==nm) ([],0,()) l _ hin.1.1 rfl
theorem sZ:OK fM.e:=by
 refine PA.ok mixed (aA [gq.e,o9.e] ⟨vF,CO,trivial⟩) H0 (by kernel_rfl) (show∀s lF,fM.goal (tq s lF) (s,((lF,()),()),())from ?_);intro l nm hin hp;dsimp only[fM]at hp ⊢;refine⟨trivial,congrArg (·,()) ?_⟩;by_cases h:0<=Sp.fieldPlace l nm
 .rw[aru (show Sp.fieldPlace l nm>=0 from h),arx (show ¬Sp.fieldPlace l nm<0 by omega)];rfl
 .rw[arx (show ¬Sp.fieldPlace l nm>=0 from h),aru (show Sp.fieldPlace l nm<0 by omega)];rfl
theorem aaE:OK BI.e:=by refine PA.ok mixed (aA [fM.e,o9.e] ⟨sZ,CO,trivial⟩) H0 (by kernel_rfl) (show∀s name,BI.goal (aaF s name) (s,name,())from ?_);intro l nm hin hp;dsimp only[BI]at hp ⊢;exact⟨trivial,rfl⟩
theorem FK:OK ku.e:=by refine XA.ok mixed (aA [] trivial) GR (λ⟨s,_⟩ _=>⟨((s,()),()),rfl⟩) (by kernel_rfl) (show∀s,ku.goal (FM s) (s,())from ?_);intro s hin hp;dsimp only[ku]at hp ⊢;have hp:s.length<=1000:=hp;intro g hg;refine af (λh=>?_) λh=>⟨by rw[bW];omega,rfl⟩;exact(asr.1 (hg h)).symm
theorem OW:OK rC.e:=by refine XA.ok mixed (aA [uo.e,ku.e] ⟨JL,FK,trivial⟩) Qv (λ⟨(a,l,nx,_),_⟩ _=>⟨(((a,l,nx,()),()),()),rfl⟩) (by kernel_rfl) (show∀s0 s1 s2,rC.goal (OX s0 s1 s2) ((s0,s1,s2,()),())from ?_);intro s0 s1 s2 hin hp;dsimp only[rC]at hp ⊢;obtain⟨h0,h1,h2⟩:s0.length<=1000/\s1.length<=1000/\∀f∈s1,jl f:=hp;refine⟨h0,λr0 e0=>⟨⟨h1,h2⟩,λr1 e1=>?_⟩⟩;show(r0.1.1,r1.1.1,s2,())=_;rw[e0,e1]
def mapped{α:Type}(f:α->α)(l:List α)(k:Nat):List α:=(l.take k).map f++l.drop k
theorem KN{α:Type}(f:α->α)(l:List α)(k:Nat):(mapped f l k).length=l.length:=by unfold mapped;rw[arv,arB,aro,arY];omega
theorem N9{α:Type}(f:α->α)(l:List α)(d:α){k:Nat}(h:k<l.length):(mapped f l k).getD k d=l.getD k d:=by unfold mapped;rw[arp,arO (by rw[arB,aro];omega),arB,aro,asT (by omega),atf,arV,asN,← arp]
theorem IK{α:Type}(f:α->α)(l:List α)(d:α){k:Nat}(h:k<l.length):mapped f l (k+1)=(mapped f l k).set k (f (l.getD k d)):=by unfold mapped;rw[Sp.take_succ' l k d h,asJ,drop_cons l k d h,auk _ _ (by rw[arB,aro];omega),arB,aro,asT (by omega),atf,auy,ar6];rfl
theorem IL{α:Type}(f:α->α)(l:List α)(d:α){k:Nat}(h:k<l.length)(hf:f (l.getD k d)=l.getD k d):mapped f l (k+1)=mapped f l k:=by unfold mapped;rw[Sp.take_succ' l k d h,asJ,drop_cons l k d h,ar6];show _++([f (l.getD k d)]++_)=_;rw[hf];rfl
theorem KO{α:Type}(f:α->α)(l:List α):mapped f l l.length=l.map f:=by unfold mapped;rw[arZ,List.drop_length,ash]
theorem aga(a:List aW)(name:Sp.Bytes):aF a name=(0,0,[],())\/∃x∈a,aF a name=x.2:=by
 induction a with
 |nil=>exact .inl rfl
 |cons x r ih=>
  rw[aF];cases x.1==name with
  |true=>exact .inr ⟨x,arC,rfl⟩
  |false=>exact ih.imp_right λ⟨y,hy,e⟩=>⟨y,arE _ hy,e⟩
theorem alM{k n:Int}{s:Sp.Bytes}(h:dA k n s=true):s.length<=6:=by
 rcases Sv h with e|e|e
 .subst e;unfold dA at h;simp at h;rw[h.2];decide
 .subst e;rw[(aku h).2.2];decide
 .subst e;have:=(aoj h).1;unfold fO at this;simp only[ark,arD]at this;omega
theorem WX{s:bf}(h:ak s=true){f:aI}(hf:f∈s.2.1)(name:Sp.Bytes):(aF f.2.2.2.2.1 name).2.2.1.length<=6/\f.2.2.2.2.1.length<=5:=by
 obtain⟨g1,_,g3,_⟩:=yY.1 h;have ha:=WY (g1 f hf).1;refine⟨?_,?_⟩
 .rcases aga f.2.2.2.2.1 name with e|⟨x,hx,e⟩
  .rw[e];decide
  .rw[e];have:=(A7.1 ha).1 x hx;unfold fZ at this;rw[ark,ark]at this;exact alM this.1.1
 .have h1:=ahK ha;unfold dF at g3;rw[ark,arD]at g3;omega
theorem acX{s:bf}{name:Sp.Bytes}{kind:Int}(h:(ak s&&(!decide (Sp.fieldPlace s.1 name<0)&&(kind==1||kind==2)))=true):
 aP s name kind=((s.1.map (fE name kind),s.2.1.map (dB name kind),s.2.2.1,()),(s.2.1.filter (Sp.dL name kind)).map (λf=>(f.1,())),true):=by
 unfold aP;rw[h];rfl
theorem acY{s:bf}{name:Sp.Bytes}{kind:Int}(h:(ak s&&(!decide (Sp.fieldPlace s.1 name<0)&&(kind==1||kind==2)))=false):aP s name kind=(s,[],false):=by unfold aP;rw[h];rfl
def GU(name:Sp.Bytes)(kind:Int)(l:List aI):List (Int×Unit):=(l.filter (Sp.dL name kind)).map λf=>(f.1,())
theorem afw{name:Sp.Bytes}{kind:Int}{l:List aI}{n:Nat}(hn:n<l.length):GU name kind (l.take (n+1))=GU name kind (l.take n)++bif Sp.dL name kind (Sp.fileAt l n)then[((Sp.fileAt l n).1,())]else[]:=by unfold GU;rw[OV (Sp.dL name kind) (0,0,false,0,[],()) l hn,asJ];congr 1;show List.map _ (bif Sp.dL name kind (Sp.fileAt l n)then[Sp.fileAt l n]else[])=_;cases Sp.dL name kind (Sp.fileAt l n)<;>rfl
theorem aaG{name:Sp.Bytes}{kind:Int}(l:List aI):(GU name kind l).length<=l.length:=by unfold GU;rw[arB];exact asn _ _
theorem acZ{name:Sp.Bytes}{kind:Int}{f:aI}(h:¬(aF f.2.2.2.2.1 name).1=0):dB name kind f=(f.1,f.2.1,f.2.2.1,f.2.2.2.1,dO f.2.2.2.2.1 name (bQ (aF f.2.2.2.2.1 name) kind).1.1 (bQ (aF f.2.2.2.2.1 name) kind).1.2.1 (bQ (aF f.2.2.2.2.1 name) kind).1.2.2.1,()):=by unfold dB;rw[arn.2 h];rfl
theorem DL:OK mP.e:=by
 refine XA.ok mixed (aA [Dk.e,pX.e,qj.e,BI.e,pV.e,rC.e] ⟨acM,GN,Gx,aaE,Gv,OW,trivial⟩) OY (λ⟨s,name,kind,_⟩ _=>⟨((((aP s name kind).1.1,(aP s name kind).1.2.1,(aP s name kind).1.2.2.1,()),(aP s name kind).2.1,(aP s name kind).2.2,()),()),⟨rfl,rfl,rfl⟩⟩) (by kernel_rfl) (show∀s0 s1 s2 name kind,mP.goal (Nj s0 s1 s2 name kind) ((s0,s1,s2,()),name,kind,())from ?_);intro s0 s1 s2 name kind hin hp;dsimp only[mP]at hp ⊢;have hp:aU (s0,s1,s2,()):=hp;obtain⟨h0,h1,h2⟩:=hp;have h0:s0.length<=1000:=h0;have h1:s1.length<=1000:=h1;refine⟨⟨h0,h1,h2⟩,?_⟩;rintro⟨⟨⟨a,l,nx,⟨⟩⟩,⟨⟩⟩,⟨⟩⟩ e;have e:(a,l,nx,())=(s0,s1,s2,()):=e;cases e;have out:(ak (s0,s1,s2,())&&(!decide (Sp.fieldPlace s0 name<0)&&(kind==1||kind==2)))=false->(s0,s1,s2,())=(aP (s0,s1,s2,()) name kind).1/\([]:List (Int×Unit))=(aP (s0,s1,s2,()) name kind).2.1/\false=(aP (s0,s1,s2,()) name kind).2.2:=λh=>by rw[acY h];exact⟨rfl,rfl,rfl⟩
 refine⟨λ_=>(ak (s0,s1,s2,())&&(!decide (Sp.fieldPlace s0 name<0)&&(kind==1||kind==2)))=true,⟨trivial,af (λh=>out (by rw[fK h];rfl)) λg1=>⟨trivial,af (λh=>out (by rw[fK h,as6,ar9])) λg2=>af (λh=>af (λh4=>out ?_) λh4=>⟨rfl,?_⟩) λh=>⟨rfl,?_⟩⟩⟩,λ_ hJ=>?_⟩
 .have h:(kind==1)=false:=by simpa using h
  have h4:(kind==2)=false:=by simpa using h4
  rw[h,h4,auE,ar9,ar9]
 .have h4:(kind==2)=true:=by simpa using h4
  rw[show ak (s0,s1,s2,())=true from cZ g1,show(!decide (Sp.fieldPlace s0 name<0))=true from cZ g2,h4,Bool.or_true];rfl
 .have h:(kind==1)=true:=by simpa using h
  rw[show ak (s0,s1,s2,())=true from cZ g1,show(!decide (Sp.fieldPlace s0 name<0))=true from cZ g2,h,Bool.true_or];rfl
 .have ret:=acX (s:=(s0,s1,s2,())) hJ;have hok:ak (s0,s1,s2,())=true:=by rw[ark]at hJ;exact hJ.1
  refine eP (λi(x:List dD)=>((i,()),x,())) (λy=>y.1.1) (λ_ _=>rfl) s0.length (by omega) (λn x=>x=mapped (fE name kind) s0 n) (by simp[mapped]) (λI μ n x hn hx next=>?_) λI μ x hx=>?_
  .subst hx;have hl:=KN (fE name kind) s0 n;have hat:=N9 (fE name kind) s0 ([],0,()) hn;dsimp only;rw[arI,hl,hat];refine dG (by omega) ⟨⟨by omega,by omega⟩,hn,af (λh=>⟨⟨by omega,by omega⟩,hn,rfl,next _ ?_⟩) λh=>⟨rfl,next _ ?_⟩⟩
   .rw[IK (fE name kind) s0 ([],0,()) hn];refine congrArg (List.set _ n) ?_;unfold fE;rw[h];rfl
   .refine(IL (fE name kind) s0 ([],0,()) hn ?_).symm;unfold fE;rw[h];rfl
  .subst hx;rw[KO];dsimp only;refine dH (by omega) ?_;refine eP (s0:=(([]:List (Int×Unit)),s1)) (λi(x:List (Int×Unit)×List aI)=>(((),i,()),x.1,x.2,())) (λy=>y.1.2.1) (λ_ _=>rfl) s1.length (by omega) (λn x=>x.1=GU name kind (s1.take n)/\x.2=mapped (dB name kind) s1 n) ⟨rfl,by simp[mapped]⟩ (λI μ n x hn hx next=>?_) λI μ x hx=>?_
   .obtain⟨lost,files⟩:=x;obtain⟨rfl,rfl⟩:lost=GU name kind (s1.take n)/\files=mapped (dB name kind) s1 n:=hx;have hl:=KN (dB name kind) s1 n;have hat:(mapped (dB name kind) s1 n).getD n (0,0,false,0,[],())=Sp.fileAt s1 n:=N9 (dB name kind) s1 (0,0,false,0,[],()) hn;have abw:=aaG (name:=name) (kind:=kind) (s1.take n);rw[aro]at abw;have hft:=WX hok (Dx (s:=s1) hn) name;have ln:=afw (name:=name) (kind:=kind) hn;have mn:mapped (dB name kind) s1 (n+1)=(mapped (dB name kind) s1 n).set n (dB name kind (Sp.fileAt s1 n)):=IK (dB name kind) s1 (0,0,false,0,[],()) hn;have ms:dB name kind (Sp.fileAt s1 n)=Sp.fileAt s1 n->mapped (dB name kind) s1 (n+1)=mapped (dB name kind) s1 n:=λh=>IL (dB name kind) s1 (0,0,false,0,[],()) hn h;dsimp only;rw[arI,hl,hat];generalize Sp.fileAt s1 n=f at hft ln mn ms ⊢;have fin:∀g:aI,¬(aF f.2.2.2.2.1 name).1=0->g.1=f.1/\g.2.1=f.2.1/\g.2.2.1=f.2.2.1/\g.2.2.2.1=f.2.2.2.1/\g.2.2.2.2.1=dO f.2.2.2.2.1 name (bQ (aF f.2.2.2.2.1 name) kind).1.1 (bQ (aF f.2.2.2.2.1 name) kind).1.2.1 (bQ (aF f.2.2.2.2.1 name) kind).1.2.2.1->g=dB name kind f:=by rintro⟨a,b,c,d,e,⟨⟩⟩ h0 ⟨q1,q2,q3,q4,q5⟩;rw[acZ h0];dsimp only at q1 q2 q3 q4 q5;rw[q1,q2,q3,q4,q5]
    refine dG (by omega) ⟨⟨by omega,by omega⟩,hn,trivial,af (λh=>⟨rfl,next (_,_) ⟨?_,?_⟩⟩) λh=>⟨by omega,af (λh3=>⟨?_,by omega,λr hr=>⟨⟨by omega,by omega⟩,hn,rfl,next (_,_) ⟨?_,?_⟩⟩⟩) λh3=>⟨by omega,λr hr=>⟨⟨by omega,by omega⟩,hn,rfl,next (_,_) ⟨?_,?_⟩⟩⟩⟩⟩
    .rw[ln];have:Sp.dL name kind f=false:=by unfold Sp.dL;rw[show((aF f.2.2.2.2.1 name).1==0)=true from h];rfl
     rw[this];exact(ash _).symm
    .refine(ms ?_).symm;unfold dB;rw[show((aF f.2.2.2.2.1 name).1==0)=true from h];rfl
    .rw[bW];simp only[arq,arw];omega
    .rw[ln];have:Sp.dL name kind f=true:=by unfold Sp.dL;rw[show((aF f.2.2.2.2.1 name).1==0)=false from h,show(bQ (aF f.2.2.2.2.1 name) kind).2=false from fK h3];rfl
     rw[this];rfl
    .rw[mn,fin r.1.1 (arn.1 h) hr]
    .rw[ln];have:Sp.dL name kind f=false:=by unfold Sp.dL;rw[show(bQ (aF f.2.2.2.2.1 name) kind).2=true from cZ h3,auh,ar9]
     rw[this];exact(ash _).symm
    .rw[mn,fin r.1.1 (arn.1 h) hr]
   .obtain⟨lost,files⟩:=x;obtain⟨rfl,rfl⟩:lost=GU name kind (s1.take s1.length)/\files=mapped (dB name kind) s1 s1.length:=hx;rw[arZ,KO];dsimp only;refine dH (by omega) ?_;rw[ret];exact⟨rfl,rfl,rfl⟩
end Go.Proofs.Tryz
namespace Go.Proofs.Tryz
open Go Go.Fw Go.IntWalk Sp
theorem aaH{s:bf}(h:ak s=true):aU s:=by
 obtain⟨g1,_,g3,g4,_⟩:=yY.1 h;have h5:s.1.length<=5:=by unfold dF at g3;rw[ark,arD]at g3;omega
 refine⟨by omega,by omega,λf hf=>?_⟩;have:=(WX h hf []).2;show f.2.2.2.2.1.length<=1000;omega
theorem ahN{c:jG}{name:Sp.Bytes}{kind:Int}(h:(iM c&&(aP (dX c) name kind).2.2)=true):(au (je c)&&ak (aP (dX c) name kind).1)=true:=by rw[ark]at h;rw[(WL h.1).1,(FH h.2).1];rfl
theorem ac0{c z:jG}{s:bf}{df:List II}{ok:Bool}(h:Sp.turned c s (je c) (gm (iw (je c))) z df ok)(hz:(au (je c)&&ak s)=true):Sp.became c s (je c) true z df ok:=by
 have hd:au (je c)=true:=by rw[ark]at hz;exact hz.1
 exact akq h hz λR E hR hE=>MH (akv hd) (amD hR) hE
theorem ajk(c:jG)(name:Sp.Bytes)(kind:Int):∃c' df,Sp.became c (aP (dX c) name kind).1 (je c) (iM c&&(aP (dX c) name kind).2.2) c' df (iM c&&(aP (dX c) name kind).2.2):=aks c _ _ _ ahN
theorem GV:OK kE.e:=by
 refine XA.ok mixed (aA [zI.e,wI.e,qL.e,uz.e,mP.e] ⟨Ym,MC,Hz,JQ,DL,trivial⟩) H0 (λ⟨c,name,kind,_⟩ _=>by obtain⟨c',df,h⟩:=ajk c name kind;exact⟨((((c'.1,c'.2.1,c'.2.2.1,c'.2.2.2.1,c'.2.2.2.2.1,()),df,(bif (iM c&&(aP (dX c) name kind).2.2)then(aP (dX c) name kind).2.1 else[]),(iM c&&(aP (dX c) name kind).2.2),()),())),h,rfl⟩) (by kernel_rfl) (show∀c0 c1 c2 c3 c4 name kind,kE.goal (GX c0 c1 c2 c3 c4 name kind) ((c0,c1,c2,c3,c4,()),name,kind,())from ?_);intro a l nx d r name kind hin hp;dsimp only[kE]at hp ⊢;have hc:kJ (a,l,nx,d,r,()):=hp;have hl:d.length<=1000:=hc.2.1.1;refine⟨hc.1,?_⟩;rintro⟨⟨⟨sa,sl,sn,⟨⟩⟩,lost,ok,⟨⟩⟩,⟨⟩⟩ ⟨e1,e2,e3⟩;have e1:((sa,sl,sn,()):bf)=(aP (a,l,nx,()) name kind).1:=e1;have e2:lost=(aP (a,l,nx,()) name kind).2.1:=e2;have e3:ok=(aP (a,l,nx,()) name kind).2.2:=e3;refine af (λh=>⟨hc,λr1 hr1=>⟨stays ?_ hr1,rfl⟩⟩) λh=>⟨hc,af (λh2=>⟨hc,λr3 hr3=>⟨stays ?_ hr3,rfl⟩⟩) λh2=>⟨hl,⟨hc,?_,hc.2.1⟩,λr4 hr4=>?_⟩⟩
 .show(_&&(aP (a,l,nx,()) name kind).2.2)=false;rw[← e3,show ok=false from fK h,ar9]
 .rw[show iM (a,l,nx,d,r,())=false from fK h2];rfl
 .show aU (sa,sl,sn,());rw[e1];exact aaH (FH (e3.symm.trans (cZ h))).1
 .have hr4:Sp.turned (a,l,nx,d,r,()) (sa,sl,sn,()) d (gm (iw d)) r4.1.1 r4.1.2.1 r4.1.2.2.1:=hr4;have hb:(iM (a,l,nx,d,r,())&&(aP (dX (a,l,nx,d,r,())) name kind).2.2)=true:=by rw[show iM (a,l,nx,d,r,())=true from cZ h2];exact e3.symm.trans (cZ h)
  rw[e1]at hr4;have hbe:=ac0 (c:=(a,l,nx,d,r,())) hr4 (ahN hb);have hk:r4.1.2.2.1=true:=hbe.1;refine⟨?_,?_⟩
  .rw[hb];exact hbe
  .show lost=bif r4.1.2.2.1 then _ else _
   rw[hk];exact e2
end Go.Proofs.Tryz
namespace Go.Proofs.Tryz
open Go Go.Fw Go.IntWalk Sp
theorem Yv:OK zK.e:=by
 refine PA.ok mixed (aA [] trivial) H0 (by kernel_rfl) (show∀yS,zK.goal (Yw yS) (yS,())from ?_);intro x hin hp;dsimp only[zK]at hp ⊢;obtain⟨h0,h1⟩:=hp;refine af (λh=>?_) λh=>?_<;>simp only[arD,ar1]at h
 .rw[i64_in (48+x) (by omega),u8_in (48+x) (by omega)]
 .omega
theorem aeG{c:Int}(h:¬c.tmod 10<0):c.tmod 10=((c.natAbs%10:Nat):Int):=by have:(c.tmod 10).natAbs=c.natAbs%10:=auS c 10;omega
theorem aiD{c:Int}(h:c.tmod 10<0):0-c.tmod 10=((c.natAbs%10:Nat):Int):=by have:(c.tmod 10).natAbs=c.natAbs%10:=auS c 10;omega
theorem WZ(k:Nat):byteRow [((48:Int)+(k:Int),())]=[UInt8.ofNat (48+k)]:=by
 have:((48:Int)+(k:Int)).toNat=48+k:=by omega
 simp[byteRow,Zd,this]
theorem akw{n c:Nat}{s:List UInt8}(hc:c≠0)(hJ:Lib.decDigits n=(if c=0 then[]else Lib.decDigits c)++s):
 Lib.decDigits n=(if c / 10=0 then[]else Lib.decDigits (c / 10))++(UInt8.ofNat (48+c%10)::s):=by
 rw[hJ,if_neg hc,aeH c];simp
theorem Yx:OK ES.e:=by
 refine PA.ok mixed (aA [zK.e] ⟨Yv,trivial⟩) aaI (by kernel_rfl) (show∀n,ES.goal (Yy n) (n,())from ?_);intro n hin hp;dsimp only[ES]at hp ⊢;have h0:(-9223372036854775808:Int)<=n/\n<=9223372036854775807:=hin.1;have hL:=Lib.itoa_length_le n h0.1 h0.2;have hD:(Lib.decDigits n.natAbs).length<=21:=by
  unfold Lib.itoa at hL;split at hL
  .simp at hL;omega
  .rw[show n.natAbs=n.toNat by omega];exact hL
 refine af (λh=>?_) λh=>?_
 .have:n=0:=by simpa using h
  subst this;simp[Lib.itoa,Lib.decDigits]
 .have hn0:n≠0:=by simpa using h
  refine⟨λy=>-9223372036854775808<=y.1.1/\y.1.1<=9223372036854775807/\Lib.decDigits n.natAbs=(if y.1.1.natAbs=0 then[]else Lib.decDigits y.1.1.natAbs)++y.1.2.1,λy=>y.1.1.natAbs,⟨h0.1,h0.2,?_⟩,?_⟩
  .show _=(if n.natAbs=0 then _ else _)++_;rw[if_neg (by omega)];simp
  rintro⟨⟨c,s,⟨⟩⟩,⟨⟩⟩ ⟨hc1,hc2,hJ⟩;dsimp only at hc1 hc2 hJ ⊢;have hs:s.length<=21:=by rw[hJ,arv]at hD;omega
  have hq:(c.tdiv 10).natAbs=c.natAbs / 10:=Int.natAbs_tdiv c 10;have hrow:∀k:Nat,(byteRow [((48:Int)+(k:Int),())]).length=1:=λk=>by rw[WZ];rfl
  refine af (λh=>?_) λh=>?_
  .have hc:c.natAbs≠0:=by simp at h;omega
   have hstep:=akw hc hJ;have hm:c.natAbs%10<10:=aub _ (by decide);have hlt:c.natAbs / 10<c.natAbs:=Nat.div_lt_self (by omega) (by decide);have hw:IntKind.i64.wrap (c.tdiv 10)=c.tdiv 10:=fD _ (by omega);refine⟨by decide,af (λhd=>?_) λhd=>?_⟩<;>simp only[arD,ar1]at hd
   .have e:=aiD hd;rw[fD (0-c.tmod 10) (by omega),e,hw,WZ];refine⟨⟨by omega,by omega⟩,by simp only[arq,arw];rw[maxLen_eq];omega,by decide,rfl,⟨by dsimp only;omega,by dsimp only;omega,?_⟩,?_⟩
    .show _=(if(c.tdiv 10).natAbs=0 then[]else Lib.decDigits (c.tdiv 10).natAbs)++_;rw[hq];exact hstep
    .show(c.tdiv 10).natAbs<c.natAbs;rw[hq];exact hlt
   .have e:=aeG hd;rw[e,hw,WZ];refine⟨⟨by omega,by omega⟩,by simp only[arq,arw];rw[maxLen_eq];omega,by decide,rfl,⟨by dsimp only;omega,by dsimp only;omega,?_⟩,?_⟩
    .show _=(if(c.tdiv 10).natAbs=0 then[]else Lib.decDigits (c.tdiv 10).natAbs)++_;rw[hq];exact hstep
    .show(c.tdiv 10).natAbs<c.natAbs;rw[hq];exact hlt
  .have hc:c=0:=by simpa using h
   subst hc;have hJ:Lib.decDigits n.natAbs=s:=by simpa using hJ
   subst hJ;refine af (λhd=>?_) λhd=>?_<;>simp only[arD,ar1]at hd
   .refine⟨by simp only[arq,arw];rw[maxLen_eq];omega,?_⟩;rw[Lib.itoa,if_pos hd];rfl
   .rw[Lib.itoa,if_neg hd,show n.toNat=n.natAbs by omega]
end Go.Proofs.Tryz
namespace Go.Proofs.Tryz
open Go Go.Fw Go.RowKit Sp
theorem ac1(n a b:Int)(w:World):Calls prog 56 #[.int .i64 n,.int .i64 a,.int .i64 b] w λe w'=>e=.returned (.bool (decide (a<=n)&&decide (n<=b)))/\w'=w:=by
 have mixed:=Tryz.mixed;by_cases h:a<=n
 · go_enter Tryz.func56,Tryz.ntmps56
   go_wp2
   go_ret
   simp[h]
 · go_enter Tryz.func56,Tryz.ntmps56
   go_wp2
   go_ret
   have h1:decide (a<=n)=false:=arx (by omega);rw[h1];exact⟨rfl,rfl⟩
theorem ac2(n:Int)(h:-9223372036854775808<=n/\n<=9223372036854775807)(w:World)(hG:G.ok w):Calls prog 120 #[.int .i64 n] w λe w'=>e=.returned (.string ⟨(Lib.itoa n).toArray⟩)/\Below w.heap.size w w':=by refine(Yx.1 [.sv (.one (.int .i64 n))] True ⟨[(false,[.plain (.str (Lib.itoa n))])],none⟩ 0 (λ_=>True) #[.int .i64 n] w rfl trivial hG ⟨⟨rfl,h⟩,trivial⟩).mono ?_;rintro e w' ⟨v,vals,rfl,h1,h2,h3,h4,h5,h6,_⟩;have h6:v=.string ⟨(Lib.itoa n).toArray⟩:=h6.1;rw[h6];exact⟨rfl,h1,h2,h3,h4,h5⟩
set_option maxHeartbeats 4000000 in
set_option maxRecDepth 100000 in
theorem ac3(n:Int)(hn:-9223372036854775808<=n/\n<=9223372036854775807)(w:World)(hG:G.ok w):
 Calls prog 70 #[.int .i64 n] w λe w'=>e=.returned (.string ⟨(fJ n).toArray⟩)/\Below w.heap.size w w':=by
 have mixed:=Tryz.mixed;by_cases h:0<=n/\n<=999
 .have hw:(decide ((0:Int)<=n)&&decide (n<=999))=true:=by rw[aru h.1,aru h.2];rfl
  have he:fJ n=(Lib.itoa n).map EW:=by unfold fJ;rw[hw];rfl
  rw[he];obtain⟨_,_,hd,_,amr⟩:=zq (Du.2 ⟨h.1,by omega⟩);have kF:∀W:World,G.ok W->Calls prog 120 #[.int .i64 n] W λe w'=>e=.returned (.string ⟨(Lib.itoa n).toArray⟩)/\Below W.heap.size W w':=λW hW=>ac2 n hn W hW;obtain⟨l,hl⟩:∃l,l=Lib.itoa n:=⟨_,rfl⟩;rw[← hl]at kF hd amr ⊢;clear hl he;have hs:(⟨l.toArray⟩:ByteArray).size=l.length:=by simp[ByteArray.size]
  have kc:=λW:World=>atV (P:=prog) W 9 22 5 ⟨l.toArray⟩ Tryz.underlying9 Tryz.underlying22 Tryz.underlying5;rw[hs]at kc;simp only[OG,OE]at kc
  go_enter Tryz.func70,Tryz.ntmps70
  go_wp2_with (first
   |(go_at_call 56;refine(ac1 _ _ _ _).mono ?_;rintro e w' ⟨rfl,rfl⟩;rw[hw])
   |(go_at_call 120;refine(kF _ hG).mono ?_;rintro e w1 ⟨rfl,hb1⟩))
  obtain⟨z,hz⟩:∃z,z=grownCap w1 l.length 0 5-l.length:=⟨_,rfl⟩;rw[← hz];clear kc kF hz;generalize grownCap w1 l.length 0 5=cap
  go_loopw [4] (λi wr=>∃k:Nat,k<=l.length/\i=.int .i64 k/\wr.heap[w1.heap.size]? =some (.cells (cellsB (yt EW l k) z) 5 (l.length+z,l.length+z+1))/\Below w1.heap.size w1 wr)
   (λi _=>l.length-(intOf i).toNat)
  case atStart=>refine⟨0,ar0 _,rfl,?_,(Below.alloc (Below.refl _ _) (arF _) _).drew⟩;show(w1.heap.push _)[w1.heap.size]? =_;simp[yt]
  case round=>
   obtain⟨k,hk,rfl,hrow,hnx⟩:=hrel;rcases arH k l.length with hlt|hge
   .have hlt':(k:Int)<(l.length:Int):=by omega
    have hc:=PX hrow k;obtain⟨_,hat⟩:=at7 (ZA EW l hlt);rw[Fq _ _ _ (by rw[wX];exact hlt),hat]at hc;have hx:=hd l[k] (asF hlt);have hnext:=adU hrow k (.int .u8 ((EW l[k]).toNat:Int));rw[Rk _ _ (by rw[wX];exact hlt),← Rj EW l hlt]at hnext;have hv:((l[k].toNat:Int)-48+97)=((EW l[k]).toNat:Int):=by have:=ahw hx.2;omega
    rw[← hv]at hnext;have hf:=ahv hrow (k:=k) (by omega);clear hat hrow hd hv;generalize l[k]=x at hc hx hnext
    go_wp2
    exact⟨⟨k+1,hlt,rfl,hnext,hnx.setCell (arF _) _⟩,by simp only[intOf];omega⟩
   .have hkl:k=l.length:=by omega
    subst hkl;have hge':¬(l.length:Int)<(l.length:Int):=by omega
    have kb:=auf (P:=prog) wr 22 9 5 ⟨w1.heap.size,0,none⟩ cap (l.map EW) Tryz.underlying22 Tryz.underlying5 Tryz.underlying9 (λj hj=>by rw[auO,arQ,PX hrow,Fq _ _ _ (by rw[wX];simpa using hj)];simp[yt]);rw[arB]at kb
    go_wp2
    go_ret
    exact⟨rfl,hb1.trans (hnx.mono hb1.size)⟩
 .have hw:(decide ((0:Int)<=n)&&decide (n<=999))=false:=by rw[aun,ar1,ar1];omega
  have he:fJ n=[]:=by unfold fJ;rw[hw];rfl
  rw[he]
  go_enter Tryz.func70,Tryz.ntmps70
  go_wp2_with (go_at_call 56;refine(ac1 _ _ _ _).mono ?_;rintro e w' ⟨rfl,rfl⟩;rw[hw])
  go_ret
  exact⟨rfl,Below.refl _ _⟩
theorem BN:nG prog G o6 ng:=by
 intro args p out k S vs w hcon hp hG hrep;unfold ng vH EK at hcon;split at hcon
 .next x hx=>
  obtain⟨n,⟨⟩⟩:=x;have hv:=Vp sK args _ vs.toList hx hrep
  match hvs:vs.toList,hv with
  |[v],hv=>
   have e1:v=.int .i64 n:=hv.1.1;have e2:vs=#[.int .i64 n]:=by obtain⟨l⟩:=vs;simp at hvs;rw[hvs,e1]
   subst e2;have hF:=Option.some.inj hcon;have hout:out=⟨[(false,[.plain (.str (fJ n))])],none⟩:=(congrArg Prod.snd hF).symm;subst hout;refine(ac3 n hv.1.2 w hG).mono ?_;rintro e w' ⟨rfl,hb⟩;have hl:=XJ n;exact⟨_,λ_=>undef,rfl,hb.os,hb.tape,hb.output,hb.size,hb.block,⟨rfl,(by unfold maxLen;omega)⟩,(λo x hx=>by cases hx),(λo x q y b hx=>by cases hx)⟩
 .cases hcon
end Go.Proofs.Tryz
namespace Go.Proofs.Tryz
open Go Go.Fw Go.IntWalk Sp
theorem UF:OK wR.e:=by
 refine XA.ok mixed (aA [o7.e,qh.e,Af.e,Ag.e,iW.e,bY.e,qW.e] ⟨Cm,BL,P6,Qc,kM,dJ,EY,trivial⟩) W9 (λ_ _=>⟨((([],[],0,()),()),(([],0,0,()),())),⟨by decide,⟨by decide,by decide,λf hf=>by cases hf⟩,λf hf=>by cases hf⟩⟩) (by kernel_rfl) (show∀c0 c1 c2,wR.goal (UG c0 c1 c2) ((c0,c1,c2,()),())from ?_);intro b i h hin hp;dsimp only[wR]at hp ⊢;have hp:0<=i:=hp;refine⟨hp,?_⟩;rintro⟨⟨⟨a,l,nx,⟨⟩⟩,⟨⟩⟩,⟨b0,i0,g0,⟨⟩⟩,⟨⟩⟩ ⟨p0,d1,d2,d3,d4,_⟩;have D:nJ 2 (a,l,nx,()):=⟨d1,d2,d3,d4⟩;obtain⟨z0,z1,z2⟩:a.length<=1000/\l.length<=1000/\∀f∈l,jl f:=d4;have z3:l.length<=12:=(jE.1 D.ok).2.2.1;have hh:=KH D.ok;refine⟨p0,?_⟩;rintro⟨⟨x1,⟨⟩⟩,⟨b1,i1,g1,⟨⟩⟩,⟨⟩⟩ ⟨p1,_⟩;refine af (λ_=>⟨⟨p1,by simp⟩,?_⟩) λ_=>af (λ_=>⟨p1,?_⟩) λ_=>af (λ_=>⟨p1,?_⟩) λ_=>af (λ_=>?_) λ_=>⟨p1,D.small,hh⟩
 .rintro⟨⟨x3,⟨⟩⟩,⟨b3,i3,g3,⟨⟩⟩,⟨⟩⟩ ⟨p3,_⟩;exact⟨p3,⟨z0,z1,z2⟩,hh⟩
 .rintro⟨⟨⟨d,o,s,lk,al,⟨⟩⟩,⟨⟩⟩,⟨b2,i2,g2,⟨⟩⟩,⟨⟩⟩ ⟨p2,ha⟩;have hf:jl (d,o,s,lk,al,()):=(show al.length<=1000 from arM ha (by decide));refine⟨(show l.length+1<=big by rw[bW];omega),p2,⟨z0,?_,λf hf'=>?_⟩,λf hf'=>?_⟩
  .show(l++[_]).length<=1000;rw[arv,arq,arw];omega
  .rcases arW.1 hf' with h'|h'
   .exact z2 f h'
   .have:f=(d,o,s,lk,al,()):=by simpa using h'
    rw[this];exact hf
  .rcases arW.1 hf' with h'|h'
   .exact hh f h'
   .have:f=(d,o,s,lk,al,()):=by simpa using h'
    rw[this];exact arM ha (by decide)
 .rintro⟨⟨x3,⟨⟩⟩,⟨b3,i3,g3,⟨⟩⟩,⟨⟩⟩ ⟨p3,hx⟩;exact⟨p3,⟨arM (show x3.length<=6 from hx) (by decide),z1,z2⟩,hh⟩
 .refine⟨λy=>0<=y.2.1.2.1/\nJ 2 (y.2.2.2.1,y.2.2.2.2.1,y.2.2.1.2.2.1,()),λy=>12-y.2.2.2.2.1.length,⟨p1,D⟩,?_⟩;rintro⟨⟨⟩,⟨b2,i2,g2,⟨⟩⟩,⟨⟨⟩,⟨⟩,nx,⟨⟩⟩,a,l,⟨⟩⟩ ⟨p2,D⟩;have D:nJ 2 (a,l,nx,()):=D;refine af (λhc=>⟨p2,?_⟩) λ_=>⟨p2,D.small,KH D.ok⟩;have hc:(l.length:Int)<12:=fP hc;rintro⟨⟨⟨d,o,s,lk,al,⟨⟩⟩,⟨⟩⟩,⟨b3,i3,g3,⟨⟩⟩,⟨⟩⟩ ⟨p3,_,ho1,ho2,hl1,hl2,hok,ha⟩;have hf:jl (d,o,s,lk,al,()):=(show al.length<=1000 from arM ha (by decide));refine⟨⟨D.small,hf⟩,?_⟩;rintro⟨⟨⟨a3,l3,VU,⟨⟩⟩,id3,ok3,⟨⟩⟩,⟨⟩⟩ ⟨e1,e2,e3,_⟩;have e:((a3,l3,VU,()):bf)=(bJ (a,l,nx,()) (d,o,s,lk,al,())).1:=Rt e1 e2 e3;have hg:=D.grows (f:=(d,o,s,lk,al,())) (show l.length<12 by omega) ⟨ho1,ho2⟩ ⟨hl1,hl2⟩ hok;have e2:l3=(bJ (a,l,nx,()) (d,o,s,lk,al,())).1.2.1:=e2;refine⟨rfl,⟨p3,?_⟩,?_⟩
  .show nJ 2 (a3,l3,VU,());rw[e];exact D.create hf
  .show 12-l3.length<12-l.length;have hg:(bJ (a,l,nx,()) (d,o,s,lk,al,())).1.2.1.length=l.length+1:=hg;rw[e2,hg];omega
theorem Ji:OK ni.e:=by
 refine PA.ok mixed (aA [(o6,.pure ng)] ⟨⟨BN,Au⟩,trivial⟩) Jz (by kernel_rfl) (show∀w,ni.goal (Jj w) (w,())from ?_);intro w hin hp;dsimp only[ni]at hp ⊢;have long:¬((w.length:Int)<=3)->dR w=(0,false):=λh=>alN λn h0 h1 e=>h (by have:=XJ n;rw[e]at this;omega);refine eP (s0:=()) (λi(_:Unit)=>((i,()),())) (λy=>y.1.1) (λ_ _=>rfl) 1000 (by decide) (λn _=>∀m:Nat,m<n->fJ (m:Int)≠w) (λm hm=>(by omega)) (λI μ n _ hn hJ next=>?_) λI μ _ hJ=>?_
 .dsimp only;refine dG (by omega) (af (λh=>⟨trivial,af (λh2=>?_) λh2=>⟨rfl,next () λm hm=>?_⟩⟩) λh=>?_)
  .have h2:fJ (n:Int)=w:=arA.1 h2;have e:dR w=((n:Int),true):=by rw[← h2];exact(aeI (by omega) (by omega)).1
   rw[e]
  .rcases arH m n with h1|h1
   .exact hJ m h1
   .rw[show m=n by omega];exact arn.1 h2
  .rw[long (gV h)]
 .dsimp only;refine dH (by decide) ?_;have e:dR w=(0,false):=alN λn h0 h1 e=>hJ n.toNat (by omega) (by rw[Int.toNat_of_nonneg h0];exact e);rw[e]
theorem Sz(kind:Int):(decide (1<=kind)&&decide (kind<=2))=(kind==1||kind==2):=by rw[arR,ark,asv,arD,arD,arA,arA];omega
theorem GY:OK pY.e:=by
 refine PA.ok mixed (aA [oJ.e,ni.e,iD.e,(o6,.pure ng),jv.e,mg.e] ⟨zS,Ji,jW,⟨BN,Au⟩,kT,zT,trivial⟩) UH (by kernel_rfl) (show∀v0 v1 v2 kind,pY.goal (SA v0 v1 v2 kind) ((v0,v1,v2,()),kind,())from ?_);intro v0 v1 v2 kind hin hp;dsimp only[pY]at hp ⊢;have hp:v2.length<=1000:=hp;have out:(dA v0 v1 v2&&(!(v0==0)&&(kind==1||kind==2)))=false->(((0,0,[],()),false,()):qR×Bool×Unit)=((bQ (v0,v1,v2,()) kind).1,(bQ (v0,v1,v2,()) kind).2,()):=λh=>by rw[ahM h]
 refine⟨λ_=>(dA v0 v1 v2&&(!(v0==0)&&(kind==1||kind==2)))=true,⟨trivial,af (λh=>out (by rw[fK h];rfl)) λh1=>af (λh=>out (by rw[h,auh,as6,ar9])) λh2=>⟨trivial,af (λh=>out ?_) λh=>⟨rfl,?_⟩⟩⟩,λ_ hJ=>?_⟩
 .rw[← Sz,fK h,ar9,ar9]
 .rw[← Sz,cZ h1,show(v0==0)=false from h2,cZ h];rfl
 .have e:=ajj (v:=(v0,v1,v2,())) (to:=kind) hJ;refine af (λh=>?_) λh=>af (λh2=>⟨trivial,trivial,?_⟩) λh2=>⟨trivial,af (λh3=>?_) λh3=>⟨trivial,?_⟩⟩
  .rw[show(v0==kind)=true from h]at e;rw[e];rfl
  .rw[show(v0==kind)=false from h,h2]at e;rw[e];rfl
  .rw[show(v0==kind)=false from h,h2,show(dR v2).2=false from fK h3]at e;rw[e];rfl
  .rw[show(v0==kind)=false from h,h2,show(dR v2).2=true from cZ h3]at e;rw[e];rfl
theorem ac4{s:bf}{name:Sp.Bytes}(h:ak s=true):decide (Sp.fieldPlace s.1 name<0)=(Sp.kindOf s.1 name==0):=by rw[← ahO (yY.1 h).2.2.1,arR,arD,arA]
theorem DN:OK mQ.e:=by
 refine XA.ok mixed (aA [tN.e,pY.e,ql.e,jv.e,uh.e,iT.e,nU.e] ⟨Gu,GY,Gy,kT,JI,lC,wY,trivial⟩) OZ (λ⟨s,name,kind,_⟩ _=>⟨((((aP s name kind).1.1,(aP s name kind).1.2.1,(aP s name kind).1.2.2.1,()),(aP s name kind).2.1,(aP s name kind).2.2,()),()),⟨rfl,rfl,rfl⟩⟩) (by kernel_rfl) (show∀s0 s1 s2 name kind,mQ.goal (Nk s0 s1 s2 name kind) ((s0,s1,s2,()),name,kind,())from ?_);intro s0 s1 s2 name kind hin hp;dsimp only[mQ]at hp ⊢;have hp:aU (s0,s1,s2,()):=hp;obtain⟨h0,h1,h2⟩:=hp;have h0:s0.length<=1000:=h0;have h1:s1.length<=1000:=h1;refine⟨⟨h0,h1,h2⟩,?_⟩;rintro⟨⟨⟨a,l,nx,⟨⟩⟩,⟨⟩⟩,⟨⟩⟩ e;have e:(a,l,nx,())=(s0,s1,s2,()):=e;cases e;have out:(ak (s0,s1,s2,())&&(!decide (Sp.fieldPlace s0 name<0)&&(kind==1||kind==2)))=false->(s0,s1,s2,())=(aP (s0,s1,s2,()) name kind).1/\([]:List (Int×Unit))=(aP (s0,s1,s2,()) name kind).2.1/\false=(aP (s0,s1,s2,()) name kind).2.2:=λh=>by rw[acY h];exact⟨rfl,rfl,rfl⟩
 refine⟨λ_=>(ak (s0,s1,s2,())&&(!decide (Sp.fieldPlace s0 name<0)&&(kind==1||kind==2)))=true,⟨trivial,af (λh=>out (by rw[show ak (s0,s1,s2,())=false from fK h];rfl)) λg1=>⟨trivial,af (λh=>out ?_) λg2=>⟨trivial,af (λh=>out ?_) λh=>⟨rfl,?_⟩⟩⟩⟩,λ_ hJ=>?_⟩
 .rw[ac4 (s:=(s0,s1,s2,())) (cZ g1),show(Sp.kindOf s0 name==0)=true from h,auh,as6,ar9]
 .rw[← Sz,fK h,ar9,ar9]
 .rw[ac4 (s:=(s0,s1,s2,())) (cZ g1),show(Sp.kindOf s0 name==0)=false from g2,show ak (s0,s1,s2,())=true from cZ g1,← Sz,cZ h];rfl
 .have ret:=acX (s:=(s0,s1,s2,())) hJ;have hok:ak (s0,s1,s2,())=true:=by rw[ark]at hJ;exact hJ.1
  refine eP (λi(x:List dD)=>((i,()),x,())) (λy=>y.1.1) (λ_ _=>rfl) s0.length (by omega) (λn x=>x=mapped (fE name kind) s0 n) (by simp[mapped]) (λI μ n x hn hx next=>?_) λI μ x hx=>?_
  .subst hx;have hl:=KN (fE name kind) s0 n;have hat:=N9 (fE name kind) s0 ([],0,()) hn;dsimp only;rw[arI,hl,hat];refine dG (by omega) ⟨⟨by omega,by omega⟩,hn,af (λh=>⟨⟨by omega,by omega⟩,hn,rfl,next _ ?_⟩) λh=>⟨rfl,next _ ?_⟩⟩
   .rw[IK (fE name kind) s0 ([],0,()) hn];refine congrArg (List.set _ n) ?_;unfold fE;rw[h];rfl
   .refine(IL (fE name kind) s0 ([],0,()) hn ?_).symm;unfold fE;rw[h];rfl
  .subst hx;rw[KO];dsimp only;refine dH (by rw[arB];omega) ?_;refine eP (s0:=(([]:List (Int×Unit)),s1)) (λi(x:List (Int×Unit)×List aI)=>(((),i,()),x.1,x.2,())) (λy=>y.1.2.1) (λ_ _=>rfl) s1.length (by omega) (λn x=>x.1=GU name kind (s1.take n)/\x.2=mapped (dB name kind) s1 n) ⟨rfl,by simp[mapped]⟩ (λI μ n x hn hx next=>?_) λI μ x hx=>?_
   .obtain⟨lost,files⟩:=x;obtain⟨rfl,rfl⟩:lost=GU name kind (s1.take n)/\files=mapped (dB name kind) s1 n:=hx;have hl:=KN (dB name kind) s1 n;have hat:(mapped (dB name kind) s1 n).getD n (0,0,false,0,[],())=Sp.fileAt s1 n:=N9 (dB name kind) s1 (0,0,false,0,[],()) hn;have abw:=aaG (name:=name) (kind:=kind) (s1.take n);rw[aro]at abw;have hft:=WX hok (Dx (s:=s1) hn) name;have ln:=afw (name:=name) (kind:=kind) hn;have mn:mapped (dB name kind) s1 (n+1)=(mapped (dB name kind) s1 n).set n (dB name kind (Sp.fileAt s1 n)):=IK (dB name kind) s1 (0,0,false,0,[],()) hn;have ms:dB name kind (Sp.fileAt s1 n)=Sp.fileAt s1 n->mapped (dB name kind) s1 (n+1)=mapped (dB name kind) s1 n:=λh=>IL (dB name kind) s1 (0,0,false,0,[],()) hn h;dsimp only;rw[arI,hl,hat];generalize Sp.fileAt s1 n=f at hft ln mn ms ⊢;have fin:∀g:aI,¬(aF f.2.2.2.2.1 name).1=0->g.1=f.1/\g.2.1=f.2.1/\g.2.2.1=f.2.2.1/\g.2.2.2.1=f.2.2.2.1/\g.2.2.2.2.1=dO f.2.2.2.2.1 name (bQ (aF f.2.2.2.2.1 name) kind).1.1 (bQ (aF f.2.2.2.2.1 name) kind).1.2.1 (bQ (aF f.2.2.2.2.1 name) kind).1.2.2.1->g=dB name kind f:=by rintro⟨a,b,c,d,e,⟨⟩⟩ h0 ⟨q1,q2,q3,q4,q5⟩;rw[acZ h0];dsimp only at q1 q2 q3 q4 q5;rw[q1,q2,q3,q4,q5]
    refine dG (by omega) ⟨⟨by omega,by omega⟩,hn,trivial,af (λh=>⟨rfl,next (_,_) ⟨?_,?_⟩⟩) λh=>⟨by omega,af (λh3=>⟨⟨by omega,by omega⟩,hn,?_,⟨by omega,by omega⟩,hn,by omega,λr hr=>⟨⟨by omega,by omega⟩,hn,rfl,next (_,_) ⟨?_,?_⟩⟩⟩) λh3=>⟨⟨by omega,by omega⟩,hn,by omega,λr hr=>⟨⟨by omega,by omega⟩,hn,rfl,next (_,_) ⟨?_,?_⟩⟩⟩⟩⟩
    .rw[ln];have:Sp.dL name kind f=false:=by unfold Sp.dL;rw[show((aF f.2.2.2.2.1 name).1==0)=true from h];rfl
     rw[this];exact(ash _).symm
    .refine(ms ?_).symm;unfold dB;rw[show((aF f.2.2.2.2.1 name).1==0)=true from h];rfl
    .rw[bW];simp only[arq,arw];omega
    .rw[ln];have:Sp.dL name kind f=true:=by unfold Sp.dL;rw[show((aF f.2.2.2.2.1 name).1==0)=false from h,show(bQ (aF f.2.2.2.2.1 name) kind).2=false from fK h3];rfl
     rw[this];rfl
    .rw[mn,fin r.1.1 (arn.1 h) hr]
    .rw[ln];have:Sp.dL name kind f=false:=by unfold Sp.dL;rw[show(bQ (aF f.2.2.2.2.1 name) kind).2=true from cZ h3,auh,ar9]
     rw[this];exact(ash _).symm
    .rw[mn,fin r.1.1 (arn.1 h) hr]
   .obtain⟨lost,files⟩:=x;obtain⟨rfl,rfl⟩:lost=GU name kind (s1.take s1.length)/\files=mapped (dB name kind) s1 s1.length:=hx;rw[arZ,KO];dsimp only;refine dH (by rw[arB];omega) ?_;rw[ret];exact⟨rfl,rfl,rfl⟩
theorem GZ:OK kG.e:=by
 refine XA.ok mixed (aA [Di.e,BB.e,zH.e,mQ.e,Dh.e] ⟨acK,aag,Yi,DN,acw,trivial⟩) He (λ⟨c,name,kind,_⟩ _=>by obtain⟨c',df,h⟩:=ajk c name kind;exact⟨((((c'.1,c'.2.1,c'.2.2.1,c'.2.2.2.1,c'.2.2.2.2.1,()),df,(bif (iM c&&(aP (dX c) name kind).2.2)then(aP (dX c) name kind).2.1 else[]),(iM c&&(aP (dX c) name kind).2.2),()),())),h,rfl⟩) (by kernel_rfl) (show∀l0 l1 l2 l3 l4 name kind,kG.goal (G5 l0 l1 l2 l3 l4 name kind) ((l0,l1,l2,l3,l4,()),name,kind,())from ?_);intro a l nx d r name kind hin hp;dsimp only[kG]at hp ⊢;have hp:Ot (a,l,nx,d,r,()):=hp;have hc:=hp.1;have hl:d.length<=1000:=hc.2.1.1;refine⟨hc,?_⟩;rintro⟨⟨c0,⟨⟩⟩,⟨⟩⟩ ec;have ec:c0=(a,l,nx,d,r,()):=ec;subst ec;refine⟨hc.1,?_⟩;rintro⟨⟨⟨sa,sl,sn,⟨⟩⟩,lost,ok,⟨⟩⟩,⟨⟩⟩ ⟨e1,e2,e3⟩;have e1:((sa,sl,sn,()):bf)=(aP (a,l,nx,()) name kind).1:=e1;have e2:lost=(aP (a,l,nx,()) name kind).2.1:=e2;have e3:ok=(aP (a,l,nx,()) name kind).2.2:=e3;refine⟨hc,af (λh=>⟨stays ?_ rfl,rfl⟩) λh2=>af (λh=>⟨stays ?_ rfl,rfl⟩) λh=>?_⟩
 .rw[show iM (a,l,nx,d,r,())=false from fK h];rfl
 .show(_&&(aP (a,l,nx,()) name kind).2.2)=false;rw[← e3,show ok=false from fK h,ar9]
 .have hb:(iM (a,l,nx,d,r,())&&(aP (dX (a,l,nx,d,r,())) name kind).2.2)=true:=by rw[show iM (a,l,nx,d,r,())=true from cZ h2];exact e3.symm.trans (cZ h)
  have hz:=ahN hb;refine⟨hl,⟨hc,?_,hc.2.1,?_⟩,λr4 hr4=>⟨?_,?_⟩⟩
  .show aU (sa,sl,sn,());rw[e1];exact aaH (FH (e3.symm.trans (cZ h))).1
  .show(au d&&ak (sa,sl,sn,()))=true;rw[e1];exact hz
  .have hr4:Sp.turned (a,l,nx,d,r,()) (sa,sl,sn,()) d (gm (iw d)) r4.1.1 r4.1.2.1 true:=hr4;rw[e1]at hr4;rw[hb];exact ac0 (c:=(a,l,nx,d,r,())) hr4 hz
  .exact e2
end Go.Proofs.Tryz
namespace Go.Proofs.Tryz
open Go Go.Fw Go.IntWalk Sp
theorem DY:OK jC.e:=by refine XA.ok mixed (aA [iW.e,qg.e,EI.e,vO.e] ⟨kM,BK,aey,Ik,trivial⟩) H0 (λ_ _=>by obtain⟨c,h⟩:=any_some;exact⟨((((c.1,c.2.1,c.2.2.1,c.2.2.2.1,c.2.2.2.2.1,()),[],0,()),())),h⟩) (by kernel_rfl) (show∀code,jC.goal (DZ code) (code,())from ?_);intro code hin hp;dsimp only[jC]at hp ⊢;exact⟨hp,λr0 hr0=>⟨by rw[hr0];exact ar4 _,λr1 hr1=>⟨hr1.1,λr2 hr2=>⟨⟨hr2.1,by simp⟩,λr3 hr3=>hr1.2⟩⟩⟩⟩
theorem MO:OK pU.e:=by refine XA.ok mixed (aA [bY.e,iD.e,iI.e,jQ.e,vP.e,vO.e] ⟨dJ,jW,jD,rJ,Il,Ik,trivial⟩) Nl (λ_ _=>⟨(((0,0,[],()),0,()),()),ar0 _⟩) (by kernel_rfl) (show∀code,pU.goal (MP code) (code,())from ?_);intro code hin hp;dsimp only[pU]at hp ⊢;refine⟨hp,λr0 hr0=>⟨by rw[hr0];exact ar4 _,λr1 hr1=>⟨hr1.1,λr2 hr2=>?_⟩⟩⟩;have q2:0<=r2.2.1.2.1:=hr2;refine af (λ_=>⟨⟨q2,by simp⟩,λr3 hr3=>⟨trivial,hr3.1,λr5 hr5=>?_⟩⟩) λ_=>⟨q2,λr6 hr6=>hr1.2⟩;have h2:=hr3.2;show r3.1.1.length<=10;simp only[arU,auQ,or_false]at h2;rcases h2 with h2|h2|h2|h2<;>rw[h2]<;>decide
theorem Jk:OK ny.e:=by
 refine XA.ok mixed (aA [iW.e,qg.e,ru.e,iD.e,jQ.e,wR.e,vO.e] ⟨kM,BK,OT,jW,rJ,UF,Ik,trivial⟩) JA (λ_ _=>⟨((([],[],0,()),[],0,()),()),⟨by decide,by decide,λf hf=>by cases hf⟩⟩) (by kernel_rfl) (show∀code,ny.goal (Jl code) (code,())from ?_);intro code hin hp;dsimp only[ny]at hp ⊢;refine⟨hp,λr0 hr0=>⟨by rw[hr0];exact ar4 _,?_⟩⟩;rintro⟨⟨s,⟨⟩⟩,cu,⟨⟩⟩ ⟨p1,hs,hh⟩;have hs:aU s:=hs;have hh:∀f∈s.2.1,f.2.2.2.2.1.length<=400:=hh;refine af (λh=>⟨p1,λr2 hr2=>?_⟩) λh=>⟨p1,λr9 hr9=>⟨⟨hr9.1,by simp⟩,λr10 aq5=>hs⟩⟩;have h:(0:Int)<(s.2.1.length:Int):=fP h;have q2:0<=r2.2.1.2.1:=hr2;have h0:0<s.2.1.length:=by omega
 have hf:=hh (s.2.1.getD 0 (0,0,false,0,[],())) (getD_mem h0);refine af (λ_=>⟨⟨ar4 _,h⟩,h0,trivial,?_⟩) λ_=>⟨q2,λr7 hr7=>⟨⟨hr7.1,by simp⟩,λr8 hr8=>hs⟩⟩;refine⟨arM hf (by decide),λr4 hr4=>⟨⟨ar4 _,h⟩,h0,q2,λr5 hr5=>⟨⟨hr5.1,by simp⟩,λr6 hr6=>?_⟩⟩⟩;show aU (s.1,s.2.1.set 0 r4.1.1,s.2.2);refine⟨hs.1,by show(s.2.1.set 0 r4.1.1).length<=1000;rw[arP];exact hs.2.1,λf hf'=>?_⟩;rcases atY hf' with h'|h'
 .exact hs.2.2 f h'
 .rw[h'];show r4.1.1.2.2.2.2.1.length<=1000;rw[hr4.2.2.2.2];refine arM (YW _ _ _ _ _) (arM (Nat.succ_le_succ hf) (by decide))
theorem JB{T:Prop}{b:Bool}(h:b=true)(ht:T):bif !b then((false,()):Bool×Unit)=(true,())else T:=by rw[h];exact ht
theorem same3(a b:Int)(s:Sp.Bytes):(a==a&&(b==b&&(s==s&&true)))=true:=by rw[as2,as2,as2];rfl
theorem amE{v:qR}{to:Int}(hv:v.2.2.1.length<=10):(bQ v to).1.2.2.1.length<=1000:=by
 cases h:(bQ v to).2 with
 |false=>rw[Xa h];exact ar0 _
 |true=>
  obtain⟨_,_,_,h|h|h⟩:=aeJ h
  .rw[h.2];omega
  .rw[h.2.2];have:=XJ v.2.1;show(fJ v.2.1).length<=1000;omega
  .rw[h.2.2.2];exact ar0 _
theorem ahP{s:bf}{name:Sp.Bytes}{kind:Int}(hs:aU s):(aP s name kind).2.1.length<=1000:=by
 cases h:(aP s name kind).2.2 with
 |false=>rw[Oa h];exact ar0 _
 |true=>obtain⟨_,_,_,e⟩:=afx h;rw[e];exact arM (aaG (name:=name) (kind:=kind) s.2.1) hs.2.1
theorem alO{s:bf}{name:Sp.Bytes}{kind:Int}(hs:aU s):aU (aP s name kind).1:=by
 cases h:(aP s name kind).2.2 with
 |false=>rw[Oa h];exact hs
 |true=>exact aaH (FH h).1
theorem amF{s:bf}{name:Sp.Bytes}{kind:Int}{x:Int×Unit}(hx:x∈(aP s name kind).2.1):aF (fC (aP s name kind).1 x.1).1.2.2.2.2.1 name=(0,0,[],()):=by
 cases h:(aP s name kind).2.2 with
 |false=>rw[Oa h]at hx;cases hx
 |true=>exact(FH h).2.2 x hx
theorem aaJ:OK FX.e:=by
 refine PA.ok mixed (aA [uz.e,iT.e,uj.e,ql.e,EJ.e,zJ.e,wP.e,rq.e,um.e,pY.e,pX.e,pU.e,kG.e,kE.e,jC.e,mQ.e,mP.e,ny.e,JU.e] ⟨JQ,lC,JK,Gy,aeB,Yo,Ut,EZ,JJ,GY,GN,MO,GZ,GV,DY,DN,DL,Jk,aiz,trivial⟩) ac5 (by kernel_rfl) (show∀code,FX.goal (aaK code) (code,())from ?_);intro code hin hp;dsimp only[FX]at hp ⊢;refine⟨trivial,af (λ_=>rfl) λhb=>?_⟩;have hc:code.length<=1048576:=by have:=gV hb;omega
 refine⟨hc,?_⟩;rintro⟨⟨s,name,kind,⟨⟩⟩,⟨⟩⟩ hs;have hs:aU s:=hs;refine⟨hs,?_⟩;rintro⟨⟨t,lost,ok,⟨⟩⟩,⟨⟩⟩ ⟨e1,e2,e3⟩;have e1:t=(aP s name kind).1:=e1;have e2:lost=(aP s name kind).2.1:=e2;have e3:ok=(aP s name kind).2.2:=e3;refine⟨hs,?_⟩;rintro⟨⟨t2,ao2,ok2,⟨⟩⟩,⟨⟩⟩ ⟨f1,f2,f3⟩;obtain rfl:t=t2:=e1.trans f1.symm;obtain rfl:lost=ao2:=e2.trans f2.symm;obtain rfl:ok=ok2:=e3.trans f3.symm;refine⟨hc,?_⟩;rintro⟨⟨c,cn,ck,⟨⟩⟩,⟨⟩⟩ hany;have hany:Ot c:=hany;refine⟨hany.1,?_⟩;rintro⟨⟨x,df,xl,xok,⟨⟩⟩,⟨⟩⟩ ⟨hx,hxl⟩;have hx:Sp.became c (aP (dX c) cn ck).1 (je c) (iM c&&(aP (dX c) cn ck).2.2) x df xok:=hx;have hxl:xl=bif xok then(aP (dX c) cn ck).2.1 else[]:=hxl
 refine⟨hany,?_⟩;rintro⟨⟨y,df2,yl,yok,⟨⟩⟩,⟨⟩⟩ ⟨hy,hyl⟩;have hyl:yl=bif yok then(aP (dX c) cn ck).2.1 else[]:=hyl
 obtain⟨g1,g2,g3⟩:=akr hx hy;obtain rfl:x=y:=g1;obtain rfl:df=df2:=g2;obtain rfl:xok=yok:=g3;obtain rfl:xl=yl:=hxl.trans hyl.symm;refine⟨hc,?_⟩;rintro⟨⟨v,to,⟨⟩⟩,⟨⟩⟩ hv;have hv:v.2.2.1.length<=10:=hv;have hl:=ahP (name:=name) (kind:=kind) hs;rw[← e2]at hl;have ht:aU t:=by rw[e1];exact alO hs
 have hz:∀z∈lost,aF (fC t z.1).1.2.2.2.2.1 name=(0,0,[],()):=λz hz=>by rw[e2]at hz;rw[e1];exact amF hz
 refine⟨arM hv (by decide),arM hv (by decide),?_⟩;refine⟨λ_=>True,?_,λ_ _=>⟨amE hv,λ_=>True,?_,λ_ _=>?_⟩⟩
 .dsimp only;exact JB (as2 _) ⟨trivial,JB (aru rfl) ⟨trivial,JB (aru rfl) (JB (as2 _) ⟨trivial,JB (aru rfl) ⟨trivial,JB (aru rfl) ⟨trivial,JB (aru rfl) (JB (as2 _) (JB (same3 _ _ _) ⟨rfl,trivial⟩))⟩⟩⟩)⟩⟩
 .refine af (λh=>?_) λ_=>⟨rfl,trivial⟩;have h:(bQ v to).2=true:=h;have e:bQ ((bQ v to).1.1,(bQ v to).1.2.1,(bQ v to).1.2.2.1,()) v.1=(v,true):=alP h;dsimp only;rw[e];exact JB rfl (JB (same3 _ _ _) ⟨rfl,trivial⟩)
 .refine eP (s0:=()) (λi(_:Unit)=>((i,()),())) (λy=>y.1.1) (λ_ _=>rfl) lost.length (by omega) (λ_ _=>True) trivial (λI μ n _ hn hJ next=>?_) λI μ _ hJ=>?_
  .dsimp only;rw[arI,hz _ (getD_mem hn)];exact dG (by omega) ⟨⟨by omega,by omega⟩,ht,trivial,JB rfl ⟨rfl,next () trivial⟩⟩
  .dsimp only;refine dH (by omega) ?_;have sx:xok=true->kJ x/\iM x=true:=λh=>by obtain⟨_,k2,k3,_⟩:=hx.2.1 h;exact⟨alI k3 (by rw[k2];exact hany.1.2.1),k3⟩
   cases ok with
   |false=>
    have:t=s:=by have q:=Oa (s:=s) (name:=name) (kind:=kind) e3.symm;rw[q]at e1;exact e1
    subst this;cases xok with
    |false=>exact⟨trivial,by rw[aru rfl]⟩
    |true=>exact⟨(sx rfl).1,akt (sx rfl).2 ⟨trivial,by rw[aru rfl]⟩⟩
   |true=>
    obtain⟨k1,k2,_⟩:=FH e3.symm;rw[← e1]at k1 k2;refine⟨trivial,akt (arA.2 k2) ⟨trivial,akt k1 ?_⟩⟩;cases xok with
    |false=>exact rfl
    |true=>exact⟨(sx rfl).1,akt (sx rfl).2 rfl⟩
end Go.Proofs.Tryz
