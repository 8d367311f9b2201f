import Derived.Test.YtkgkfdphbkfjnaaGreatP7
import Derived.Test.YtkgkfdphbkfjnaaGreatV8
import Derived.Test.YtkgkfdphbkfjnaaGreatSp
import Derived.Test.YtkgkfdphbkfjnaaGreatV9
import Derived.Test.YtkgkfdphbkfjnaaGreatL2
import Derived.Test.YtkgkfdphbkfjnaaGreatV10
import Derived.Test.YtkgkfdphbkfjnaaGreatL3
import Derived.Test.YtkgkfdphbkfjnaaGreatV12
import Derived.Test.YtkgkfdphbkfjnaaGreatV13
namespace Go.Proofs.Tryz
open Go Go.Fw Go.IntWalk Sp
theorem aqD{r:Sp.LS}{l:List Sp.Bytes}(h:dA r l)(s:Sp.Bytes):dQ r s=l.contains s:=by rw[axf,iw,h.2,ayi]
def asks(name:Sp.Bytes)(x:aV):Bool:=(pG x.2.1).contains name
theorem abk:OK BM.e:=by
 refine XA.ok mixed (ax [jw.e,D9.e] ⟨qj,ac3,trivial⟩) ac8 (λ⟨d,s,_⟩ hp=>⟨((Sp.asking d s,()),()),rfl⟩) (by kernel_rfl) (show∀d name,BM.goal (abl d name) (d,name,())from ?_);intro d s hin hp;dsimp only[BM]at hp ⊢;have hp:aI d:=hp;have hl:=hp.1;refine bZ (λi(x:Sp.LS)=>(((),i,()),x,())) (λy=>y.1.2.1) (λ_ _=>rfl) d.length (by omega) (λn l=>l=((d.take n).filter (asks s)).map λx=>(x.1,())) rfl (λI μ n l hn hJ next=>?_) λI μ l hJ=>?_
 .subst hJ;have hl:=Dv (asks s) (λx:aV=>(x.1,())) d n;dsimp only;refine bU (by omega) ⟨⟨by omega,by omega⟩,o6 hp hn,λr2 hr2=>⟨trivial,?_⟩⟩;rw[aqD hr2];refine af (λh=>⟨by rw[bM];simp only[awU,awY];omega,rfl,next _ ?_⟩) λh=>⟨rfl,next _ ?_⟩
  .have h:asks s (d.getD n BA)=true:=h;rw[jF (asks s) BA d hn,h,axz];rfl
  .have h:asks s (d.getD n BA)=false:=h;rw[jF (asks s) BA d hn,h,axz];simp
 .subst hJ;rw[aw9];dsimp only;exact bV (by omega) rfl
theorem vP:OK jW.e:=by refine PA.ok mixed (ax [] trivial) H0 (by kernel_rfl) (show∀n0 n1 n2 n3 n4 n5 n6,jW.goal (Oy n0 n1 n2 n3 n4 n5 n6) ((n0,n1,n2,n3,n4,n5,n6,()),())from ?_);intro x0 x1 x2 x3 x4 x5 x6 hin hp;dsimp only[jW]at hp ⊢;exact rfl
theorem uz:OK gy.e:=by refine PA.ok mixed (ax [jW.e] ⟨vP,trivial⟩) uN (by kernel_rfl) (show∀s,gy.goal (uD s) (s,(()),())from ?_);intro q hin hp;dsimp only[gy]at hp ⊢;exact QX (K:=λr=>r=(Sp.findAt (λn:bI=>n.1==9) q,())) (λn:bI=>n.1==9) EN q _ hin.1.1 rfl
theorem rY:OK fU.e:=by refine PA.ok mixed (ax [gy.e,jW.e] ⟨uz,vP,trivial⟩) H0 (by kernel_rfl) (show∀s,fU.goal (rZ s) (s,(()),())from ?_);intro q hin hp;dsimp only[fU]at hp ⊢;exact⟨trivial,congrArg (·,()) (Xp _ q)⟩
theorem ac9:OK Eb.e:=by refine PA.ok mixed (ax [] trivial) afi (by kernel_rfl) (show∀q,Eb.goal (ada q) (q,())from ?_);intro q hin hp;dsimp only[Eb]at hp ⊢;exact arH (K:=λr=>r=(Sp.linked q,())) (λn:bI=>n.1==9) EN q _ hin.1.1 rfl
theorem vS:OK jX.e:=by refine PA.ok mixed (ax [jw.e] ⟨qj,trivial⟩) H0 (by kernel_rfl) (show∀name p10,jX.goal (Oz name p10) (name,(p10,()),())from ?_);intro nm attrs hin hp;dsimp only[jX]at hp ⊢;exact⟨trivial,rfl⟩
theorem wo:OK gV.e:=by refine PA.ok mixed (ax [jX.e] ⟨vS,trivial⟩) wV (by kernel_rfl) (show∀s jE,gV.goal (wu s jE) (s,((jE,()),()),())from ?_);intro l attrs hin hp;dsimp only[gV]at hp ⊢;exact QX (K:=λr=>r=(Sp.findAt (λx:Sp.Bytes×Unit=>dQ attrs x.1) l,())) (λx:Sp.Bytes×Unit=>dQ attrs x.1) ([],()) l _ hin.1.1 rfl
theorem uF:OK gB.e:=by refine PA.ok mixed (ax [gV.e,jX.e] ⟨wo,vS,trivial⟩) H0 (by kernel_rfl) (show∀s jE,gB.goal (uG s jE) (s,((jE,()),()),())from ?_);intro l attrs hin hp;dsimp only[gB]at hp ⊢;exact⟨trivial,congrArg (·,()) (Xp _ l)⟩
theorem Ob:OK oN.e:=by refine XA.ok mixed (ax [] trivial) OA (λ⟨s,_⟩ _=>⟨((s,()),()),rfl⟩) (by kernel_rfl) (show∀s,oN.goal (Oc s) (s,())from ?_);intro s hin hp;dsimp only[oN]at hp ⊢;have hp:s.length<=1000:=hp;intro g hg;refine af (λh=>?_) λh=>⟨by rw[bM];omega,rfl⟩;exact(axS.1 (hg h)).symm
theorem QY:OK rF.e:=by refine XA.ok mixed (ax [] trivial) RS (λ⟨s,_⟩ _=>⟨((s,()),()),rfl⟩) (by kernel_rfl) (show∀s,rF.goal (QZ s) (s,())from ?_);intro s hin hp;dsimp only[rF]at hp ⊢;have hp:s.length<=1000:=hp;intro g hg;refine af (λh=>?_) λh=>⟨by rw[bM];omega,rfl⟩;exact(axS.1 (hg h)).symm
def mD(f g:aF)(x:aV):Bool:=(lD x.2.1).any (λt=>(gX f g).contains t)||(Sp.linked x.2.1&&f.2.2.2.1 !=g.2.2.2.1)
theorem UB{d:List aV}{p:aV->Bool}{s:Sp.Bytes}:dQ ((d.filter p).map λx=>(x.1,())) s=true↔∃i,i<d.length/\Sp.nameOf d i=s/\p (dN d i)=true:=by
 have at_:∀i(hi:i<d.length),dN d i=d[i]:=λi hi=>by unfold dN;rw[awR,awV hi];rfl
 rw[iw,axX];constructor
 .rintro⟨x,hx,e⟩;obtain⟨h1,h2⟩:=axF.1 hx;obtain⟨i,hi,rfl⟩:=axu h1;exact⟨i,hi,by unfold Sp.nameOf;rw[at_ i hi];exact congrArg Prod.fst e,by rw[at_ i hi];exact h2⟩
 .rintro⟨i,hi,e,hp⟩;exact⟨d[i],axF.2 ⟨ayb hi,by rw[← at_ i hi];exact hp⟩,by rw[← e];unfold Sp.nameOf;rw[at_ i hi]⟩
theorem Q5{d:List aV}{f g:aF}(h:f.1=g.1):Sp.touched d f g ((d.filter (mD f g)).map λx=>(x.1,())):=by
 refine⟨by rw[aw4];exact axh _ _,λs=>UB.trans ?_⟩;unfold Nb mD;constructor
 .rintro⟨i,hi,e,hp⟩;refine⟨i,hi,e,.inr ?_⟩;rw[axP,axQ,awP]at hp;rcases hp with⟨t,h1,h2⟩|⟨h1,h2⟩
  .exact .inl ⟨t,h1,ayi.1 h2⟩
  .exact .inr ⟨h1,ayR.1 h2⟩
 .rintro⟨i,hi,e,hp⟩;refine⟨i,hi,e,?_⟩;rw[axP,axQ,awP];rcases hp with hp|⟨t,h1,h2⟩|⟨h1,h2⟩
  .exact(hp h).elim
  .exact .inl ⟨t,h1,ayi.2 h2⟩
  .exact .inr ⟨h1,ayR.2 h2⟩
theorem UC{d:List aV}{f g:aF}(h:f.1≠g.1):Sp.touched d f g (iW d):=by
 refine⟨by unfold iW;rw[aw4];exact aw7 _,λs=>?_⟩;have:iW d=(d.filter λ_=>true).map λx=>(x.1,()):=by rw[aze.2 λ_ _=>rfl];rfl
 rw[this,UB];exact⟨λ⟨i,hi,e,_⟩=>⟨i,hi,e,.inl h⟩,λ⟨i,hi,e,_⟩=>⟨i,hi,e,rfl⟩⟩
theorem UD(d:List aV)(f g:aF):∃r,Sp.touched d f g r:=by
 by_cases h:f.1=g.1
 .exact⟨_,Q5 h⟩
 .exact⟨_,UC h⟩
theorem aqE{r0 r3:Sp.LS}{f g:aF}{q:List bI}(h0:dA r0 (gX f g))(h3:dA r3 (lD q)):(r0.any λx=>dQ r3 x.1)=(lD q).any λt=>(gX f g).contains t:=by
 rw[axf,axQ,axQ];constructor
 .rintro⟨x,hx,h⟩;exact⟨x.1,(h3.2 _).1 (iw.1 h),ayi.2 ((h0.2 x.1).1 hx)⟩
 .rintro⟨t,ht,h⟩;exact⟨(t,()),(h0.2 t).2 (ayi.1 h),iw.2 ((h3.2 t).2 ht)⟩
theorem Q7:OK rD.e:=by
 refine XA.ok mixed (ax [jW.e,fU.e,gB.e,jX.e,BK.e,yL.e,zV.e] ⟨vP,rY,uF,vS,abf,Xy,QN,trivial⟩) RU (λ⟨d,f,g,_⟩ hp=>by obtain⟨r,h⟩:=UD d f g;exact⟨((r,()),()),h⟩) (by kernel_rfl) (show∀d xK zy zA xM vH Dw EO EP Dx AO,rD.goal (Q8 d xK zy zA xM vH Dw EO EP Dx AO) (d,(xK,zy,zA,xM,vH,()),(Dw,EO,EP,Dx,AO,()),())from ?_);intro d a0 a1 a2 a3 a b0 b1 b2 b3 b hin hp;dsimp only[rD]at hp ⊢;obtain⟨hd,hf,hg,hab⟩:aI d/\bY (a0,a1,a2,a3,a,())/\bY (b0,b1,b2,b3,b,())/\a.length+b.length<=1000:=hp;have hl:=hd.1;refine af (λh=>⟨hl,UC (ayR.1 h)⟩) λh=>⟨⟨hf,hg,hab⟩,?_⟩;have hid:a0=b0:=amz h;rintro⟨⟨r0,⟨⟩⟩,⟨⟩⟩ hr0;have hr0:dA r0 (gX (a0,a1,a2,a3,a,()) (b0,b1,b2,b3,b,())):=hr0;dsimp only;generalize hF:((a0,a1,a2,a3,a,()):aF)=F at*;generalize hG:((b0,b1,b2,b3,b,()):aF)=G at*;have aph:(a3 !=b3)=(F.2.2.2.1 !=G.2.2.2.1):=by rw[← hF,← hG]
 refine bZ (λi(x:Sp.LS)=>(((),i,()),x,())) (λy=>y.1.2.1) (λ_ _=>rfl) d.length (by omega) (λn l=>l=((d.take n).filter (mD F G)).map λx=>(x.1,())) rfl (λI μ n l hn hJ next=>?_) λI μ l hJ=>?_
 .subst hJ;have hl:=Dv (mD F G) (λx:aV=>(x.1,())) d n;have small:(((d.take n).filter (mD F G)).map λx:aV=>(x.1,())).length+1<=big:=by rw[bM];omega
  have yes:mD F G (d.getD n BA)=true->((d.take n).filter (mD F G)).map (λx:aV=>(x.1,()))++[((d.getD n BA).1,())]=((d.take (n+1)).filter (mD F G)).map λx=>(x.1,()):=λh=>by rw[jF (mD F G) BA d hn,h,axz];rfl
  have no:mD F G (d.getD n BA)=false->((d.take n).filter (mD F G)).map (λx:aV=>(x.1,()))=((d.take (n+1)).filter (mD F G)).map λx=>(x.1,()):=λh=>by rw[jF (mD F G) BA d hn,h,axz];simp
  dsimp only;refine bU (by omega) ⟨⟨by omega,by omega⟩,o6 hd hn,λr3 hr3=>⟨trivial,trivial,?_⟩⟩;have hhit:=aqE hr0 hr3;rw[hhit,aph];refine af (λh=>⟨small,rfl,next _ (yes ?_)⟩) λh=>af (λh2=>af (λh3=>⟨small,rfl,next _ (yes ?_)⟩) λh3=>⟨rfl,next _ (no ?_)⟩) λh2=>⟨rfl,next _ (no ?_)⟩
  .have h:(lD (d.getD n BA).2.1).any (λt=>(gX F G).contains t)=true:=h;unfold mD;rw[h];rfl
  .have h2:Sp.linked (d.getD n BA).2.1=true:=h2;unfold mD;rw[h2,h3];simp
  .have h:(lD (d.getD n BA).2.1).any (λt=>(gX F G).contains t)=false:=h;have h2:Sp.linked (d.getD n BA).2.1=true:=h2;unfold mD;rw[h,h2,h3];rfl
  .have h:(lD (d.getD n BA).2.1).any (λt=>(gX F G).contains t)=false:=h;have h2:Sp.linked (d.getD n BA).2.1=false:=h2;unfold mD;rw[h,h2];rfl
 .subst hJ;rw[aw9];dsimp only;exact bV (by omega) (Q5 (by rw[← hF,← hG];exact hid))
theorem abm{α:Type}[BEq α][LawfulBEq α]:∀(a b:List α),a.Nodup->(∀x∈a,x∈b)->a.length<=b.length
 |[],_,_,_=>axp _
 |x::r,b,hn,h=>by
  rw[azY]at hn;have hx:=h x aw5;have ih:=abm r (b.erase x) hn.2 λy hy=>by
   have hne:y≠x:=λe=>by subst e;exact hn.1 hy
   rw[List.mem_erase_of_ne hne];exact h y (aw6 _ hy)
  rw[List.length_erase_of_mem hx]at ih;have:0<b.length:=List.length_pos_of_mem hx;rw[awU];omega
def Grown(d:List aV)(names out:Sp.LS):Prop:=∃ex,out=names++ex/\ex.Nodup/\(∀x∈ex,x∈iW d)/\∀x∈out,Sp.Reach d (λs=>dQ names s=true) x.1
theorem Grown.len{d:List aV}{names out:Sp.LS}(h:Grown d names out):out.length<=names.length+d.length:=by obtain⟨ex,rfl,h1,h2,_⟩:=h;have:=abm ex (iW d) h1 h2;unfold iW at this;rw[aw4]at this;rw[awW];omega
theorem Grown.add{d:List aV}{names out:Sp.LS}(h:Grown d names out){x:Sp.Bytes×Unit}(h1:x∈iW d)(h2:x ∉ out)(h3:Sp.Reach d (λs=>dQ names s=true) x.1):Grown d names (out++[x]):=by
 obtain⟨ex,rfl,g1,g2,g3⟩:=h;refine⟨ex++[x],by rw[axA],?_,λy hy=>?_,λy hy=>?_⟩
 .rw[List.nodup_append];refine⟨g1,azY.2 ⟨by simp,List.nodup_nil⟩,λa ha b hb e=>h2 ?_⟩;rw[axH.1 hb]at e;exact axb.2 (.inr (e▸ha))
 .rcases axb.1 hy with hy|hy
  .exact g2 y hy
  .rw[axH.1 hy];exact h1
 .rcases axb.1 hy with hy|hy
  .exact g3 y hy
  .rw[axH.1 hy];exact h3
theorem ag8{d:List aV}{s:Sp.Bytes}{x:Sp.Bytes×Unit}:x∈Sp.asking d s↔∃i,i<d.length/\Sp.nameOf d i=x.1/\s∈pG (dW d i):=by have h:(x.1,())∈Sp.asking d s↔_:=(iw (l:=Sp.asking d s) (s:=x.1)).symm.trans UB;refine h.trans ⟨λ⟨i,a,b,c⟩=>⟨i,a,b,ayi.1 c⟩,λ⟨i,a,b,c⟩=>⟨i,a,b,ayi.2 c⟩⟩
theorem Q9{d:List aV}{i:Nat}(hi:i<d.length):(Sp.nameOf d i,())∈iW d:=iw.1 (Xx hi)
theorem UE(d:List aV)(hd:d.length<=5)(names:Sp.LS)(hn:names.length<=900):∃r,Sp.reached d names r:=by
 refine⟨names++(iW d).filter (λx=>@decide (Sp.Reach d (λs=>dQ names s=true) x.1) (Classical.propDecidable _)),?_,λs=>?_⟩
 .have:=axh (λx:Sp.Bytes×Unit=>@decide (Sp.Reach d (λs=>dQ names s=true) x.1) (Classical.propDecidable _)) (iW d);have e:(iW d).length=d.length:=by unfold iW;rw[aw4]
  rw[awW];omega
 .rw[iw,axb,axF];constructor
  .rintro(h|⟨_,h⟩)
   .exact .base (iw.2 h)
   .exact(@ayr _ (Classical.propDecidable _)).1 h
  .intro h;have h':=h;cases h with
   |base hb=>exact .inl (iw.1 hb)
   |step _ hi _=>exact .inr ⟨Q9 hi,(@ayr _ (Classical.propDecidable _)).2 h'⟩
theorem Nc:OK nP.e:=by
 refine XA.ok mixed (ax [(nJ,.eff (oH jM) lM),jw.e,BM.e,oN.e] ⟨⟨uw,rX⟩,qj,abk,Ob,trivial⟩) Oe (λ⟨d,names,_⟩ hp=>by obtain⟨r,h⟩:=UE d hp.2.1 names hp.2.2;exact⟨((r,()),()),h⟩) (by kernel_rfl) (show∀d names,nP.goal (Nh d names) (d,names,())from ?_);intro d names hin hp;dsimp only[nP]at hp ⊢;obtain⟨hd,hd5,hnl⟩:aI d/\d.length<=5/\names.length<=900:=hp;refine⟨by omega,?_⟩;rintro⟨⟨r0,⟨⟩⟩,⟨⟩⟩ e0;have e0:r0=names:=e0;subst e0;refine⟨λy=>∃i:Nat,y.1.2.1=i/\i<=y.2.1.length/\Grown d r0 y.2.1/\∀j,j<i->∀x∈Sp.asking d (y.2.1.getD j ([],())).1,x∈y.2.1,λy=>((r0.length+d.length:Nat)-y.1.2.1).toNat,⟨0,rfl,axp _,⟨[],by simp,List.nodup_nil,λx hx=>(by cases hx),λx hx=>.base (iw.2 hx)⟩,λj hj=>by omega⟩,?_⟩;rintro⟨⟨_,_,⟨⟩⟩,out,⟨⟩⟩ ⟨i,rfl,hi,hG,hcl⟩;have hlen:out.length<=r0.length+d.length:=hG.len;dsimp only at hi hG hcl ⊢;refine af (λhc=>?_) λhc=>?_
 .have hc:=gI hc;have w:IntKind.i64.wrap ((i:Int)+1)=((i+1:Nat):Int):=fQ _ (by omega);rw[w,awX];refine⟨⟨by omega,by omega⟩,by omega,hd,?_⟩;rintro⟨⟨r3,⟨⟩⟩,⟨⟩⟩ e3;have e3:r3=Sp.asking d (out.getD i ([],())).1:=e3;dsimp only;have hr3:r3.length<=d.length:=by rw[e3];unfold Sp.asking;rw[aw4];exact axh _ _
  refine bZ (λk(x:Sp.LS)=>(((),k,()),x,())) (λy=>y.1.2.1) (λ_ _=>rfl) r3.length (by omega) (λn l=>(∃more,l=out++more)/\Grown d r0 l/\∀k,k<n->r3.getD k ([],())∈l) ⟨⟨[],by simp⟩,hG,λk hk=>by omega⟩ (λI μ n l hn hJ next=>?_) λI μ l hJ=>?_
  .obtain⟨⟨more,hm⟩,g1,g2⟩:=hJ;have gl:=g1.len;have hmem:r3.getD n ([],())∈r3:=getD_mem (d:=(([]:Sp.Bytes),())) hn;dsimp only;rw[awX];refine bU (by omega) ⟨⟨by omega,by omega⟩,trivial,af (λh=>⟨by rw[bM];simp only[awU,awY];omega,rfl,next _ ⟨⟨more++[r3.getD n ([],())],by rw[hm,axA]⟩,?_,λk hk=>?_⟩⟩) λh=>⟨rfl,next _ ⟨⟨more,hm⟩,g1,λk hk=>?_⟩⟩⟩
   .have h:dQ l (r3.getD n ([],())).1=false:=dY h;rw[e3]at hmem;obtain⟨j,hj,e,ha⟩:=ag8.1 hmem;rw[← e3]at e;refine g1.add ?_ (λhx=>?_) ?_
    .have:=Q9 hj;rw[e]at this;exact this
    .have h':dQ l (r3.getD n ([],())).1=true:=iw.2 hx;rw[h]at h';cases h'
    .rw[← e];obtain⟨ex,_,_,_,hr⟩:=hG;exact .step (hr _ (getD_mem (d:=(([]:Sp.Bytes),())) (by omega))) hj ha
   .rcases aw8 k n with h'|h'
    .exact axb.2 (.inl (g2 k h'))
    .have:k=n:=by omega
     subst this;exact axb.2 (.inr (axH.2 rfl))
   .have h:dQ l (r3.getD n ([],())).1=true:=dw h;rcases aw8 k n with h'|h'
    .exact g2 k h'
    .have:k=n:=by omega
     subst this;exact iw.1 h
  .obtain⟨⟨more,hm⟩,g1,g2⟩:=hJ;dsimp only;have hol:out.length<=l.length:=by rw[hm,awW];omega
   refine bV (by omega) ⟨rfl,⟨i+1,rfl,by dsimp only;omega,g1,λj hj x hx=>?_⟩,by dsimp only;omega⟩;have hat:l.getD j ([],())=out.getD j ([],()):=by rw[hm,awR,awR,axq (by omega)]
   rw[hat]at hx;rcases aw8 j i with h'|h'
   .rw[hm];exact axb.2 (.inl (hcl j h' x hx))
   .have:j=i:=by omega
    subst this;rw[← e3]at hx;obtain⟨k,hk,rfl⟩:=axu hx;have:=g2 k hk;rw[awR,awV hk]at this;exact this
 .have hc:=gY hc;have hie:i=out.length:=by omega
  refine⟨by omega,λr hr=>⟨by have:=hr.1;omega,λs=>?_⟩⟩;rw[iw];refine(hr.2 (s,())).trans ⟨λh=>?_,λh=>?_⟩
  .obtain⟨ex,_,_,_,hr⟩:=hG;exact hr _ h
  .induction h with
   |base hb=>
    obtain⟨ex,he,_⟩:=hG;show(_,())∈out;rw[he];exact axb.2 (.inl (iw.1 hb))
   |step _ hj ha ih=>
    obtain⟨k,hk,e⟩:=axu ih;have hx:=hcl k (by omega);have hat:out.getD k ([],())=out[k]:=by rw[awR,awV hk];rfl
    rw[hat,e]at hx;exact hx (_,()) (ag8.2 ⟨_,hj,rfl,ha⟩)
theorem aoa(d:List aV)(hd:d.length<=5)(f g:aF):∃r,Sp.isSet r (Yv d f g):=by obtain⟨t,ht⟩:=UD d f g;obtain⟨r,hr⟩:=UE d hd t (by have:=ht.1;omega);refine⟨r,hr.1,λs=>(hr.2 s).trans ?_⟩;have:(λs=>dQ t s=true)=Nb d f g:=funext λs=>propext (ht.2 s);rw[this];rfl
theorem aqF{d:List aV}{f g:aF}{t r:Sp.LS}(ht:Sp.touched d f g t)(hr:Sp.reached d t r):Sp.isSet r (Yv d f g):=by refine⟨hr.1,λs=>(hr.2 s).trans ?_⟩;have:(λs=>dQ t s=true)=Nb d f g:=funext λs=>propext (ht.2 s);rw[this];rfl
theorem XD:OK yN.e:=by refine XA.ok mixed (ax [nP.e,rD.e] ⟨Nc,Q7,trivial⟩) H0 (λ⟨d,f,g,_⟩ hp=>by obtain⟨r,h⟩:=aoa d hp.2.1 f g;exact⟨((r,()),()),h⟩) (by kernel_rfl) (show∀d xK zy zA xM vH Dw EO EP Dx AO,yN.goal (XF d xK zy zA xM vH Dw EO EP Dx AO) (d,(xK,zy,zA,xM,vH,()),(Dw,EO,EP,Dx,AO,()),())from ?_);intro d a0 a1 a2 a3 a b0 b1 b2 b3 b hin hp;dsimp only[yN]at hp ⊢;obtain⟨h1,h2,h3,h4,h5⟩:=hp;exact⟨⟨h1,h3,h4,h5⟩,λr0 hr0=>⟨⟨h1,h2,by have:=hr0.1;omega⟩,λr1 hr1=>aqF hr0 hr1⟩⟩
end Go.Proofs.Tryz
namespace Go.Proofs.Tryz
open Go Go.Fw Go.IntWalk Sp
theorem Ih:OK sO.e:=by refine PA.ok mixed (ax [pz.e] ⟨IJ,trivial⟩) H0 (by kernel_rfl) (show∀id p10,sO.goal (adb id p10) (id,(p10,()),())from ?_);intro x b hin hp;dsimp only[sO]at hp ⊢;exact⟨trivial,rfl⟩
theorem ER:OK jC.e:=by refine PA.ok mixed (ax [sO.e] ⟨Ih,trivial⟩) FB (by kernel_rfl) (show∀s jE,jC.goal (ES s jE) (s,((jE,()),()),())from ?_);intro l b hin hp;dsimp only[jC]at hp ⊢;exact QX (K:=λr=>r=(Sp.findAt (λx:Int×Unit=>fE b x.1) l,())) (λx:Int×Unit=>fE b x.1) (0,()) l _ hin.1.1 rfl
theorem Eu:OK jv.e:=by refine XA.ok mixed (ax [jC.e,sO.e] ⟨ER,Ih,trivial⟩) ET (λ⟨s,((b,_),_),_⟩ _=>⟨((s.filter (λx=>!fE b x.1),()),()),rfl⟩) (by kernel_rfl) (show∀s Dy,jv.goal (Ew s Dy) (s,((Dy,()),()),())from ?_);intro s b hin hp;dsimp only[jv]at hp ⊢;exact⟨trivial,aob (K:=λr=>r.1.1=s.filter λx=>!fE b x.1) (λx:Int×Unit=>fE b x.1) (0,()) s _ (by have hp:s.length<=1000:=hp;omega) rfl⟩
theorem ag9:OK Gy.e:=by refine XA.ok mixed (ax [jv.e,sO.e,rF.e] ⟨Eu,Ih,QY,trivial⟩) ajc (λ⟨a,b,_⟩ _=>⟨((Sp.without a b,()),()),rfl⟩) (by kernel_rfl) (show∀a b,Gy.goal (aha a b) (a,b,())from ?_);intro a b hin hp;dsimp only[Gy]at hp ⊢;have hp:a.length<=1000:=hp;refine⟨hp,?_⟩;rintro⟨⟨r0,⟨⟩⟩,⟨⟩⟩ e;have e:r0=a:=e;subst e;exact⟨hp,λr h=>h⟩
theorem ahb:OK Gz.e:=by refine XA.ok mixed (ax [Gy.e] ⟨ag9,trivial⟩) H0 (λ⟨a,b,_⟩ _=>⟨((Sp.without b a,Sp.without a b,()),()),⟨rfl,rfl⟩⟩) (by kernel_rfl) (show∀a b,Gz.goal (ahc a b) (a,b,())from ?_);intro a b hin hp;dsimp only[Gz]at hp ⊢;exact⟨hp.2,λr0 h0=>⟨hp.1,λr1 h1=>⟨h0,h1⟩⟩⟩
theorem adV(a b:List (Int×Unit)):(Sp.without a b).length<=a.length:=axh _ _
theorem XG{r:List dI}(h:aU r)(s:Sp.Bytes):(fF r s).length<=1000:=by
 have:∀l:List dI,(∀x∈l,x.2.1.length<=1000)->(fF l s).length<=1000:=by
  intro l
  induction l with
  |nil=>exactλ_=>axp _
  |cons x t ih=>
   intro hl;rw[fF];cases x.1==s with
   |true=>exact hl x aw5
   |false=>exact ih λy hy=>hl y (aw6 _ hy)
 exact this r h.2
theorem ahd(a b:List dI){n:Nat}(h:n<b.length):((b.take (n+1)).map (uH a)).filter AP=((b.take n).map (uH a)).filter AP++(bif AP (uH a (b.getD n oW))then[uH a (b.getD n oW)]else[]):=by rw[Sp.take_succ' b n oW h,axz,aya,List.map_singleton,ay7];cases AP (uH a (b.getD n oW))<;>rfl
theorem Zd:OK Aa.e:=by
 refine XA.ok mixed (ax [Gz.e,lZ.e] ⟨ahb,BV,trivial⟩) abn (λ⟨a,b,_⟩ _=>⟨((Jc a b,()),()),rfl⟩) (by kernel_rfl) (show∀a b,Aa.goal (Ze a b) (a,b,())from ?_);intro a b hin hp;dsimp only[Aa]at hp ⊢;obtain⟨ha,hb⟩:aU a/\aU b:=hp;have hbl:=hb.1;refine bZ (λi(x:List Hq)=>(((),i,()),x,())) (λy=>y.1.2.1) (λ_ _=>rfl) b.length (by omega) (λn l=>l=((b.take n).map (uH a)).filter AP) rfl (λI μ n l hn hJ next=>?_) λI μ l hJ=>?_
 .subst hJ;have hl:(((b.take n).map (uH a)).filter AP).length<=n:=by have:=axh AP ((b.take n).map (uH a));rw[aw4,awT]at this;omega
  have step:=ahd a b hn;have l1:=XG ha (b.getD n oW).1;have l2:(b.getD n oW).2.1.length<=1000:=JY hb hn;dsimp only;refine bU (by omega) ⟨⟨by omega,by omega⟩,ha,⟨l1,l2⟩,?_⟩;rintro⟨⟨x,y,⟨⟩⟩,⟨⟩⟩ ⟨e1,e2⟩;have e1:x=Sp.without (b.getD n oW).2.1 (fF a (b.getD n oW).1):=e1;have e2:y=Sp.without (fF a (b.getD n oW).1) (b.getD n oW).2.1:=e2;have k1:=adV (b.getD n oW).2.1 (fF a (b.getD n oW).1);have k2:=adV (fF a (b.getD n oW).1) (b.getD n oW).2.1;rw[← e1]at k1;rw[← e2]at k2;have w:IntKind.i64.wrap ((x.length:Int)+(y.length:Int))=((x.length+y.length:Nat):Int):=by rw[fQ _ (by omega)];omega
  have hd:uH a (b.getD n oW)=((b.getD n oW).1,x,y,()):=by rw[e1,e2];rfl
  have hz:AP (uH a (b.getD n oW))=decide (0<x.length+y.length):=by rw[hd];rfl
  dsimp only;rw[w];refine af (λh=>⟨by rw[bM];simp only[awU,awY];omega,rfl,next _ ?_⟩) λh=>⟨rfl,next _ ?_⟩
  .have h:=gI h;rw[step,hz,aw0 (by omega),hd];rfl
  .have h:=gY h;rw[step,hz,aw1 (by omega)];simp
 .subst hJ;rw[aw9];dsimp only;exact bV (by omega) rfl
theorem Zf:OK Ad.e:=by
 refine XA.ok mixed (ax [tN.e] ⟨MC,trivial⟩) abo (λ⟨r,_⟩ _=>⟨((r,()),()),rfl⟩) (by kernel_rfl) (show∀Hz,Ad.goal (Zg Hz) (Hz,())from ?_);intro r hin hp;dsimp only[Ad]at hp ⊢;have hp:aU r:=hp;have hl:=hp.1;refine bZ (λi(x:List dI)=>(((),i,()),x,())) (λy=>y.1.2.1) (λ_ _=>rfl) r.length (by omega) (λn l=>l=r.take n) (by simp) (λI μ n l hn hJ next=>?_) λI μ l hJ=>?_
 .subst hJ;have hl:(r.take n).length<=n:=by rw[awT];omega
  dsimp only;refine bU (by omega) ⟨⟨by omega,by omega⟩,JY hp hn,by rw[bM];simp only[awU,awY];omega,rfl,next _ ?_⟩;rw[Sp.take_succ' r n oW hn];rfl
 .subst hJ;rw[aw9];dsimp only;exact bV (by omega) rfl
theorem abp:OK BN.e:=by
 refine XA.ok mixed (ax [] trivial) ade (λ⟨r,_⟩ _=>⟨((r,()),()),rfl⟩) (by kernel_rfl) (show∀a,BN.goal (abq a) (a,())from ?_);intro r hin hp;dsimp only[BN]at hp ⊢;have hp:aU r:=hp;have hl:=hp.1;refine bZ (λi(x:List dI)=>(((),i,()),x,())) (λy=>y.1.2.1) (λ_ _=>rfl) r.length (by omega) (λn l=>l=r.take n) (by simp) (λI μ n l hn hJ next=>?_) λI μ l hJ=>?_
 .subst hJ;have hl:(r.take n).length<=n:=by rw[awT];omega
  have h2:(r.getD n ([],[],())).2.1.length<=1000:=JY hp hn;dsimp only;rw[awX];refine bU (by omega) ⟨⟨by omega,by omega⟩,⟨by omega,by omega⟩,by rw[bM];omega,by rw[bM];simp only[awU,awY];omega,rfl,next _ ?_⟩;rw[Sp.take_succ' r n oW hn]
 .subst hJ;rw[aw9];dsimp only;exact bV (by omega) rfl
theorem FC:OK pI.e:=by refine XA.ok mixed (ax [Ad.e,zQ.e,sF.e] ⟨Zf,Rf,Ib,trivial⟩) H0 (λ⟨(a,l,nx,d,r,_),_⟩ _=>⟨(((a,l,nx,d,r,()),()),()),rfl⟩) (by kernel_rfl) (show∀c0 c1 c2 c3 c4,pI.goal (Zh c0 c1 c2 c3 c4) ((c0,c1,c2,c3,c4,()),())from ?_);intro a l nx d r hin hp;dsimp only[pI]at hp ⊢;obtain⟨h1,h2,h3⟩:bn (a,l,nx,())/\aI d/\aU r:=hp;refine⟨h1,?_⟩;rintro⟨⟨⟨a',l',nx',⟨⟩⟩,⟨⟩⟩,⟨⟩⟩ e;have e:((a',l',nx',()):bP)=(a,l,nx,()):=e;refine⟨h2,h3,?_⟩;rintro⟨⟨r',⟨⟩⟩,⟨⟩⟩ e2;have e2:r'=r:=e2;simp only[Prod.mk.injEq]at e;obtain⟨rfl,rfl,rfl,_⟩:=e;subst e2;rfl
theorem TG:OK CX.e:=by refine XA.ok mixed (ax [BN.e,CS.e,pq.e] ⟨abp,TF,AB,trivial⟩) H0 (λ⟨(a,l,nx,d,r,_),_⟩ _=>⟨(((a,l,nx,d,r,()),()),()),rfl⟩) (by kernel_rfl) (show∀l0 l1 l2 l3 l4,CX.goal (ahe l0 l1 l2 l3 l4) ((l0,l1,l2,l3,l4,()),())from ?_);intro a l nx d r hin hp;dsimp only[CX]at hp ⊢;obtain⟨h1,h2,h3⟩:bn (a,l,nx,())/\aI d/\aU r:=hp;refine⟨h1,?_⟩;rintro⟨⟨⟨a',l',nx',⟨⟩⟩,⟨⟩⟩,⟨⟩⟩ e;have e:((a',l',nx',()):bP)=(a,l,nx,()):=e;refine⟨h2,h3,?_⟩;rintro⟨⟨r',⟨⟩⟩,⟨⟩⟩ e2;have e2:r'=r:=e2;simp only[Prod.mk.injEq]at e;obtain⟨rfl,rfl,rfl,_⟩:=e;subst e2;rfl
theorem IQ{fs:List aF}{d:List aV}{r out:List dI}{nm:Sp.Bytes->Bool}(h:gq fs d r nm out)(hd:d.length<=1000)(hf:fs.length<=1000)(hr:aU r):aU out:=by
 refine⟨by rw[h.order.1];exact hd,λx hx=>?_⟩;obtain⟨i,hi,rfl⟩:=axu hx;have hi':i<d.length:=by rw[← h.order.1];exact hi
 have e:(out[i]).2.1=iU out i:=by unfold iU tJ;rw[awR,awV hi];rfl
 rw[e];cases hn:nm (Sp.nameOf d i)with
 |true=>
  rw[h.fix i hi' hn];unfold Sp.sel;rw[aw4];exact aw2 (axh _ _) hf
 |false=>rw[h.kept i hi' hn];exact XG hr _
theorem ahf(c:dR)(s:bP)(d:List aV)(nm:Sp.Bytes->Bool):∃c' df,Sp.turned c s d nm c' df (aB d&&aC s):=by
 obtain⟨a,fs,nx,_⟩:=s;obtain⟨out,h⟩:=Bh (fs:=fs) (a:=a) (nx:=nx) (d:=d) (wW c) nm;cases hk:(aB d&&aC (a,fs,nx,()))with
 |true=>exact⟨(a,fs,nx,d,out,()),Jc (wW c) out,hk.symm,λ_=>⟨rfl,rfl,h hk,rfl⟩,λh=>(by cases h)⟩
 |false=>exact⟨c,[],hk.symm,λh=>(by cases h),λ_=>⟨rfl,rfl⟩⟩
theorem adf:OK Ec.e:=by
 refine XA.ok mixed (ax [Aa.e,zQ.e,sF.e,pI.e,BI.e] ⟨Zd,Rf,Ib,FC,aa9,trivial⟩) H0 (λ⟨c,s,d,names,_⟩ _=>by obtain⟨c',df,h⟩:=ahf c s d (dQ names);exact⟨((((c'.1,c'.2.1,c'.2.2.1,c'.2.2.2.1,c'.2.2.2.2.1,()),df,(aB d&&aC s),()),())),h⟩) (by kernel_rfl) (show∀c0 c1 c2 c3 c4 s0 s1 s2 d names,Ec.goal (adg c0 c1 c2 c3 c4 s0 s1 s2 d names) ((c0,c1,c2,c3,c4,()),(s0,s1,s2,()),d,names,())from ?_);intro a l nx d0 r0 sa sl sn d names hin hp;dsimp only[Ec]at hp ⊢;obtain⟨hc,hs,hd⟩:=hp;have hr:aU r0:=hc.2.2;refine⟨⟨hs,hd,hr⟩,?_⟩;rintro⟨⟨out,ok,⟨⟩⟩,⟨⟩⟩ ⟨e1,e2⟩;have e1:ok=(aB d&&aC (sa,sl,sn,())):=e1;have e2:ok=true->gq sl d r0 (dQ names) out:=e2;dsimp only;refine af (λh=>⟨hc,λr1 hr1=>?_⟩) λh=>⟨hs,?_⟩
 .have h:ok=false:=dY h;exact⟨e1▸h.symm,λh=>(by cases h),λ_=>⟨hr1,rfl⟩⟩
 .have h:ok=true:=dw h;rintro⟨⟨s',⟨⟩⟩,⟨⟩⟩ es;have es:s'=(sa,sl,sn,()):=es;subst es;refine⟨hd,⟨hr,IQ (e2 h) hd.1 hs.2.1 hr⟩,λr3 hr3=>⟨e1▸h.symm,λ_=>⟨rfl,rfl,e2 h,hr3⟩,λh=>(by cases h)⟩⟩
theorem Lm{c:dR}(h:dX c=true):aB (cZ c)=true/\aC (aW c)=true/\gq c.2.1 (cZ c) [] (λ_=>true) (wW c):=by have e:dX c=((aB (cZ c)&&aC (aW c))&&@decide (gq c.2.1 (cZ c) [] (λ_=>true) (wW c)) (Classical.propDecidable _)):=rfl;rw[e,awP,awP]at h;exact⟨h.1.1,h.1.2,(@ayr _ (Classical.propDecidable _)).1 h.2⟩
theorem arI{d:List aV}{f g:aF}{s:Sp.Bytes}:ajd d f g s=true↔Yv d f g s:=@ayr _ (Classical.propDecidable _)
theorem aoc{d:List aV}{f g:aF}{r:Sp.LS}(h:Sp.isSet r (Yv d f g))(s:Sp.Bytes):dQ r s=ajd d f g s:=by rw[axf,arI];exact h.2 s
theorem XH{s:bP}{f:aF}(h:(aQ s f).2=true):aC (aQ s f).1=true:=by
 rcases iC s f with⟨e,_⟩|⟨n,hn,h1,h2,h3,e⟩
 .rw[e]at h;cases h
 .exact Lp f h2
theorem UF(c:dR)(f:aF):∃c' df,Sp.updated c f c' df (dX c&&(aQ (aW c) f).2):=by
 cases hk:(dX c&&(aQ (aW c) f).2)with
 |false=>exact⟨c,[],hk.symm,λh=>(by cases h),λ_=>⟨rfl,rfl⟩⟩
 |true=>have hk':=hk;rw[awP]at hk';obtain⟨h1,h2,h3⟩:=Lm hk'.1;have hst:=XH hk'.2;rcases hs:(aQ (aW c) f).1 with⟨a,fs,nx,u⟩;rw[hs]at hst;obtain⟨out,h⟩:=Bh (fs:=fs) (a:=a) (nx:=nx) (d:=cZ c) (wW c) (ajd (cZ c) (aj (aW c) f.1).1 f);refine⟨(a,fs,nx,cZ c,out,()),Jc (wW c) out,hk.symm,λ_=>⟨hs.symm,rfl,?_,rfl⟩,λh=>(by cases h)⟩;rw[hs];exact h (by rw[h1];exact hst)
theorem abr:OK BO.e:=by
 refine XA.ok mixed (ax [Ec.e,yN.e,zY.e,pI.e,sK.e,zZ.e] ⟨adf,XD,QT,FC,Ie,Y8,trivial⟩) H0 (λ⟨c,f,_⟩ _=>by obtain⟨c',df,h⟩:=UF c f;exact⟨((((c'.1,c'.2.1,c'.2.2.1,c'.2.2.2.1,c'.2.2.2.2.1,()),df,(dX c&&(aQ (aW c) f).2),()),())),h⟩) (by kernel_rfl) (show∀c0 c1 c2 c3 c4 f0 f1 f2 f3 f4,BO.goal (abt c0 c1 c2 c3 c4 f0 f1 f2 f3 f4) ((c0,c1,c2,c3,c4,()),(f0,f1,f2,f3,f4,()),())from ?_);intro a l nx d r f0 f1 f2 f3 f4 hin hp;dsimp only[BO]at hp ⊢;obtain⟨hc,hf,hhc,hhf⟩:=hp;refine⟨⟨hc.1,hf⟩,?_⟩;rintro⟨⟨⟨sa,sl,sn,⟨⟩⟩,ok,⟨⟩⟩,⟨⟩⟩ ⟨e1,e2,e3,e4⟩;have es:((sa,sl,sn,()):bP)=(aQ (a,l,nx,()) (f0,f1,f2,f3,f4,())).1:=QJ e1 e2 e3;have e4:ok=(aQ (a,l,nx,()) (f0,f1,f2,f3,f4,())).2:=e4;have bad:∀z:dR,(dX (a,l,nx,d,r,())&&(aQ (a,l,nx,()) (f0,f1,f2,f3,f4,())).2)=false->z=(a,l,nx,d,r,())->Sp.updated (a,l,nx,d,r,()) (f0,f1,f2,f3,f4,()) z [] false:=λz hz e=>⟨hz.symm,λh=>(by cases h),λ_=>⟨e,rfl⟩⟩;dsimp only;refine af (λh=>⟨hc,λr1 hr1=>bad _ ?_ hr1⟩) λh=>⟨hc,af (λh2=>⟨hc,λr1 hr1=>bad _ ?_ hr1⟩) λh2=>⟨hc.1,?_⟩⟩
 .have h:ok=false:=dY h;rw[← e4,h,axx]
 .rw[dY h2];rfl
 have h:ok=true:=dw h;have h2:=dw h2;obtain⟨hst,hok,hev⟩:=Lm h2;have hst:aB d=true:=hst;have hlen:=(qf hst).2;have hfind:bY (aj (a,l,nx,()) f0).1/\OY (aj (a,l,nx,()) f0).1:=by
  rcases lI l f0 with⟨h,_⟩|⟨n,hn,h,_,_⟩
  .have e:aj (a,l,nx,()) f0=(VN,false):=by show(bif decide (Sp.place l f0<0)then _ else _)=_;rw[h];rfl
   rw[e];exact⟨axp _,axp _⟩
  .have e:aj (a,l,nx,()) f0=(Sp.fileAt l n,true):=by show(bif decide (Sp.place l f0<0)then _ else(Sp.fileAt l (Sp.place l f0).toNat,true))=_;rw[h,aw1 (by omega)];rfl
   rw[e];have hm:Sp.fileAt l n∈l:=getD_mem hn;exact⟨hc.1.2.2 _ hm,hhc _ hm⟩
 have hh:(aj (a,l,nx,()) f0).1.2.2.2.2.1.length<=500:=hfind.2;have hh2:f4.length<=500:=hhf;refine⟨⟨hc.2.1,hlen,hfind.1,hf,by omega⟩,λr10 afj=>⟨⟨hc,?_,hc.2.1⟩,λr11 afk=>?_⟩⟩
 .rw[es];exact Nj hc.1 hf
 .rw[es]at afk;obtain⟨g1,g2,g3⟩:=afk;have hrep:(aQ (a,l,nx,()) (f0,f1,f2,f3,f4,())).2=true:=e4▸h;have hz:(aB d&&aC (aQ (a,l,nx,()) (f0,f1,f2,f3,f4,())).1)=true:=by rw[hst,XH hrep];rfl
  have apj:r11.1.2.2.1=true:=g1.trans hz;have hz2:(dX (a,l,nx,d,r,())&&(aQ (a,l,nx,()) (f0,f1,f2,f3,f4,())).2)=true:=by rw[h2,hrep];rfl
  obtain⟨k1,k2,k3,k4⟩:=g2 apj;refine⟨apj.trans hz2.symm,λ_=>⟨k1,k2,?_,k4⟩,λhno=>by rw[apj]at hno;cases hno⟩;refine Uw k3 (λi hi=>aoc afj _) λ_ _ _=>rfl
theorem afl:OK FN.e:=by refine PA.ok mixed (ax [] trivial) ahg (by kernel_rfl) (show∀a b,FN.goal (afm a b) (a,b,())from ?_);intro a b hin hp;dsimp only[FN]at hp ⊢;exact eqL (K:=λr=>r=(decide (a=b),())) (λx y:Int×Unit=>x.1 !=y.1) (λx y=>by simp[ayE]) _ a b _ hin.1.1 rfl
theorem abu:OK BQ.e:=by
 refine PA.ok mixed (ax [FN.e] ⟨afl,trivial⟩) H0 (by kernel_rfl) (show∀a0 a1 b0 b1,BQ.goal (abv a0 a1 b0 b1) ((a0,a1,()),(b0,b1,()),())from ?_);intro a0 a1 b0 b1 hin hp;dsimp only[BQ]at hp ⊢;refine af (λh0=>⟨trivial,?_⟩) λh0=>?_
 all_goals refine congrArg (·,()) (axf.2 ?_)
 .simp[awZ.1 h0]
 .simp[show a0≠b0 by simpa using h0]
theorem Zi:OK Ae.e:=by refine PA.ok mixed (ax [BQ.e] ⟨abu,trivial⟩) abw (by kernel_rfl) (show∀a b,Ae.goal (Zj a b) (a,b,())from ?_);intro a b hin hp;dsimp only[Ae]at hp ⊢;exact atE (K:=λr=>r=(decide (a=b),())) (λx y=>!decide (x=y)) (λx y=>by simp) _ a b _ hin.1.1 rfl
theorem MI:OK uf.e:=by
 refine PA.ok mixed (ax [Ae.e,FK.e,DZ.e] ⟨Zi,afn,acH,trivial⟩) H0 (by kernel_rfl) (show∀a0 a1 a2 a3 a4 b0 b1 b2 b3 b4,uf.goal (Zk a0 a1 a2 a3 a4 b0 b1 b2 b3 b4) ((a0,a1,a2,a3,a4,()),(b0,b1,b2,b3,b4,()),())from ?_);intro a0 a1 a2 a3 a4 b0 b1 b2 b3 b4 hin hp;dsimp only[uf]at hp ⊢;refine⟨trivial,af (λh0=>⟨trivial,af (λh1=>⟨trivial,?_⟩) λh1=>?_⟩) λh0=>?_⟩
 all_goals refine congrArg (·,()) (axf.2 ?_)
 .have h0:=gI h0;have h1:=gI h1;simp only[Prod.mk.injEq]at h0;obtain⟨rfl,rfl,rfl,_⟩:=h0;subst h1;simp
 .have h1:=gY h1;simp[h1]
 .have h0:=gY h0;simp only[axj,ayq,false_iff,Prod.mk.injEq,azE]at h0 ⊢;exactλh=>h0 ⟨h.1,h.2.1,h.2.2.1⟩
theorem aje{a:List fD}{fs:List aF}{nx:Int}{d:List aV}{r:List dI}(h1:a=Sp.usual)(h2:aC (a,fs,nx,())=true)(h3:bn (a,fs,nx,()))(h4:0<fs.length)(h5:aI d)(h6:aB d=true)(h7:gq fs d [] (λ_=>true) r):OZ (a,fs,nx,d,r,()):=by refine⟨⟨h3,h5,IQ h7 h5.1 h3.2.1 Lj⟩,h1,h4,?_⟩;rw[ag6 (by rw[h6,h2];rfl) h7,aw0 rfl]
theorem akn:∃c,OZ c/\0<c.2.2.2.1.length:=by obtain⟨out,h⟩:=Bh (fs:=[(1,0,false,0,[],())]) (a:=Sp.usual) (nx:=2) (d:=[([100,97],[(1,0,0,[],0,0,[],())],())]) [] (λ_=>true);exact⟨_,aje rfl QK.1 QK.2 (by decide) (La Es (by simp) (by simp)) agS (h (by rw[agS,QK.1];rfl)),Nat.zero_lt_one⟩
theorem ahh:OK GK.e:=by
 refine XA.ok mixed (ax [vV.e,CO.e,uP.e] ⟨Oa,TA,Jy,trivial⟩) ajf (λ_ _=>by obtain⟨c,h⟩:=akn;exact⟨(((c.1,c.2.1,c.2.2.1,c.2.2.2.1,c.2.2.2.2.1,()),()),(([],0,0,()),())),⟨axv 0,h⟩⟩) (by kernel_rfl) (show∀c0 c1 c2,GK.goal (ahi c0 c1 c2) ((c0,c1,c2,()),())from ?_);intro b i h hin hp;dsimp only[GK]at hp ⊢;refine⟨hp,λr0 hr0=>⟨hr0.1,λr1 hr1=>⟨⟨hr0.2.2.2.2.1,hr1.2.2.1⟩,?_⟩⟩⟩;rintro⟨⟨⟨a,fs,nx,d,r,⟨⟩⟩,ok,⟨⟩⟩,⟨⟩⟩ ⟨e1,e2,_⟩;have hz:(aB r1.1.1&&aC r0.1.1)=true:=by rw[hr1.2.2.2.1,hr0.2.2.1];rfl
 obtain⟨k1,k2,k3⟩:=e2 (e1.trans hz);have k1:((a,fs,nx,()):bP)=r0.1.1:=k1;have k2:d=r1.1.1:=k2;refine⟨hr1.1,?_⟩;subst k2;rw[← k1]at hr0 k3;exact⟨aje hr0.2.1 hr0.2.2.1 hr0.2.2.2.2.1 hr0.2.2.2.2.2 hr1.2.2.1 hr1.2.2.2.1 k3,hr1.2.2.2.2⟩
end Go.Proofs.Tryz
namespace Go.Proofs.Tryz
open Go Go.Fw Go.IntWalk Sp
theorem UG:OK uX.e:=by
 refine XA.ok mixed (ax [] trivial) VS (λ⟨(i,o,s,l,a,_),name,(k,n,w,_),_⟩ _=>⟨(((i,o,s,l,dU a name k n w,()),()),()),⟨rfl,rfl,rfl,rfl,rfl⟩⟩) (by kernel_rfl) (show∀f0 f1 f2 f3 f4 name v0 v1 v2,uX.goal (UH f0 f1 f2 f3 f4 name v0 v1 v2) ((f0,f1,f2,f3,f4,()),name,(v0,v1,v2,()),())from ?_);intro f0 f1 f2 f3 f4 name k n s hin hp;dsimp only[uX]at hp ⊢;have hp:f4.length<=1000:=hp;refine bZ (λi(x:List aS)=>(((),i,()),x,())) (λy=>y.1.2.1) (λ_ _=>rfl) f4.length (by omega) (λm l=>l=(f4.take m).filter (fV name)) (by simp) (λI μ m l hm hJ next=>?_) λI μ l hJ=>?_
 .subst hJ;have hl:=Tm f4 (fV name) m;dsimp only;refine bU (by omega) ⟨⟨by omega,by omega⟩,af (λh=>⟨⟨by omega,by omega⟩,by rw[bM];simp only[awU,awY];omega,rfl,next _ ?_⟩) λh=>⟨rfl,next _ ?_⟩⟩
  .rw[Eo _ hm,if_pos (show fV name (cu f4 m)=true from h)];rfl
  .rw[Eo _ hm,if_neg (show ¬fV name (cu f4 m)=true fromλh'=>by have h:fV name (cu f4 m)=false:=h;rw[h]at h';cases h'),axK]
 .rw[aw9]at hJ;have hl:l.length<=1000:=by rw[hJ];have:=axh (fV name) f4;omega
  dsimp only;refine bV (by omega) (af (λh=>?_) λh=>?_)
  .have hk:k≠0:=by simpa using h
   have fin:∀m:Nat,m<=l.length->(∀i,i<m->gJ name (cu l i)=true)->(m<l.length->gJ name (cu l m)=false)->
    ((0:Int)<=m/\(m:Int)<=l.length)/\0+(List.drop 0 (List.take m l)).length<=big/\(List.drop 0 (List.take m l)).length+[(name,k,n,s,())].length<=big/\((0:Int)<=m/\(m:Int)<=l.length)/\
    (List.drop 0 (List.take m l)++[(name,k,n,s,())]).length+(List.drop m (List.take l.length l)).length<=big/\
    (f0=f0/\f1=f1/\f2=f2/\f3=f3/\List.drop 0 (List.take m l)++[(name,k,n,s,())]++List.drop m (List.take l.length l)=dU f4 name k n s):=by
    intro m hm h1 h2;refine⟨⟨by omega,by omega⟩,?_,?_,⟨by omega,by omega⟩,?_,rfl,rfl,rfl,rfl,agG hk hJ hm h1 h2⟩
    all_goals
     rw[bM];simp only[awW,axt,awT,awU,awY];omega
   refine je l.length (by omega) (λm=>∀i,i<m->gJ name (cu l i)=true) (λi hi=>by omega) (λI μ m hm hJ2 next=>?_) λI μ hJ2=>?_
   .dsimp only;refine bU (by omega) ⟨⟨by omega,by omega⟩,hm,af (λh2=>⟨rfl,next (eY (f:=λi=>gJ name (cu l i)) hJ2 h2)⟩) λh2=>?_⟩;exact fin m (by omega) hJ2 λ_=>h2
   .dsimp only;exact bV (by omega) (fin l.length (aw7 _) hJ2 λh'=>by omega)
  .have hk:k=0:=by simpa using h
   subst hk;exact⟨rfl,rfl,rfl,rfl,by rw[aaH];exact hJ⟩
theorem ajl{s:bP}(h:aC s=true){i j:Nat}(hi:i<s.2.1.length)(hj:j<s.2.1.length)(e:(Sp.fileAt s.2.1 i).1=(Sp.fileAt s.2.1 j).1):i=j:=by
 rcases ayW i j with h1|h1|h1
 .have:=XJ h j i h1 hj;omega
 .exact h1
 .have:=XJ h i j h1 hi;omega
theorem arJ{c c1:dR}{g:aF}{df:List Hq}{ok:Bool}{m:Nat}(hcur:dX c=true)(hm:m<c.2.1.length)(hid:(Sp.fileAt c.2.1 m).1=g.1)(hg:bT c.1 g=true)(h:Sp.updated c g c1 df ok):
 ok=true/\df=Jc (wW c) (wW c1)/\aW c1=(c.1,c.2.1.set m g,c.2.2.1,())/\cZ c1=cZ c/\dX c1=true:=by
 obtain⟨hst,hok,hev⟩:=Lm hcur;have hrep:∃n,n<c.2.1.length/\Sp.place c.2.1 g.1=n/\aQ (aW c) g=((c.1,c.2.1.set n g,c.2.2.1,()),true):=by
  rcases iC (aW c) g with⟨_,e⟩|⟨n,hn,h1,h2,h3,e⟩
  .refine(e ⟨hok,?_,hg⟩).elim;rcases lI c.2.1 g.1 with⟨_,h2⟩|⟨k,_,h2,_⟩
   .exact(h2 m hm hid).elim
   .show 0<=Sp.place c.2.1 g.1;omega
  .exact⟨n,hn,h1,e⟩
 obtain⟨n,hn,hpl,hr⟩:=hrep;have hnm:n=m:=by
  rcases lI c.2.1 g.1 with⟨_,h2⟩|⟨k,hk,h2,h3,_⟩
  .exact(h2 m hm hid).elim
  .have:k=n:=by omega
   subst this;exact ajl hok hk hm (h3.trans hid.symm)
 subst hnm;have hfind:(aj (aW c) g.1).1=Sp.fileAt c.2.1 n:=by show(bif decide (Sp.place c.2.1 g.1<0)then _ else(Sp.fileAt c.2.1 (Sp.place c.2.1 g.1).toNat,true)).1=_;rw[hpl,aw1 (by omega)];rfl
 obtain⟨u1,u2,_⟩:=h;have hz:(dX c&&(aQ (aW c) g).2)=true:=by rw[hcur,hr];rfl
 have hok1:ok=true:=u1.trans hz;obtain⟨k1,k2,k3,k4⟩:=u2 hok1;have hst2:=Lp g hok;rw[hr]at k1 k3 hst2;rw[hfind]at k3;have hd:=(qf hst).1;obtain⟨aH,hl⟩:=aeV hst;obtain⟨E,hE⟩:=Xu [] (λ_=>true) hd hl (xI hst2);have e:=arK hd hn hid hev k3 hE;refine⟨hok1,k4,k1,k2,?_⟩;obtain⟨a,l,nx,d,r,_⟩:=c1;have k1':((a,l,nx,()):bP)=(c.1,c.2.1.set n g,c.2.2.1,()):=k1;have k2:d=cZ c:=k2;have e:r=E:=e;subst k2 e;have hl2:l=c.2.1.set n g:=congrArg (λs:bP=>s.2.1) k1';rw[ag6 (out:=r) (by rw[hst,k1',hst2];rfl) (by rw[hl2];exact hE),aw0 rfl]
theorem aod{c:dR}(hok:aC (aW c)=true){m:Nat}(hm:m<c.2.1.length):bT c.1 (Sp.fileAt c.2.1 m)=true:=(kN.1 ((jU.1 hok).1 m hm)).1
theorem ahn{a:List fD}{f:aF}(h:bT a f=true):iy a f.2.2.2.2.1=true/\f.2.2.2.2.1.length<=5:=by unfold bT at h;simp only[awP]at h;have h1:=h.1.1.1.1;have h2:=h.1.1.1.2;refine⟨h1,aw2 (amC h1) ?_⟩;unfold fO at h2;rw[awP,axj]at h2;omega
theorem asX{c:dR}(hok:aC (aW c)=true):SA c:=λf hf=>by
 obtain⟨i,hi,rfl⟩:=axu hf;have at_:Sp.fileAt c.2.1 i=c.2.1[i]:=by unfold Sp.fileAt;rw[awR,awV hi];rfl
 have:=(ahn (aod hok hi)).2;rw[at_]at this;exact aw2 this (by decide)
theorem ako{c:dR}(h:dX c=true)(hs:aI (cZ c)):iq c:=by
 obtain⟨hst,hok,hev⟩:=Lm h;have hf:c.2.1.length<=12:=(jU.1 hok).2.2.1;have apk:=(jU.1 hok).2.1;have h5:c.1.length<=5:=by have apk:fO c.1=true:=apk;unfold fO at apk;rw[awP,axj]at apk;omega
 refine⟨⟨by show c.1.length<=1000;omega,by show c.2.1.length<=1000;omega,λf hf=>aw2 (asX hok f hf) (by decide)⟩,hs,IQ hev hs.1 (by omega) Lj⟩
end Go.Proofs.Tryz
namespace Go.Proofs.Tryz
open Go Go.Fw Go.IntWalk Sp
theorem without_take(a b:List (Int×Unit)){n:Nat}(h:n<a.length):(a.take (n+1)).filter (λx=>!fE b x.1)=(a.take n).filter (λx=>!fE b x.1)++(bif !fE b (a.getD n (0,())).1 then[a.getD n (0,())]else[]):=jF (λx:Int×Unit=>!fE b x.1) (0,()) a h
theorem aho:OK GH.e:=by
 refine XA.ok mixed (ax [nD.e] ⟨Gj,trivial⟩) ajm (λ⟨a,b,_⟩ _=>⟨((Sp.without b a,Sp.without a b,()),()),⟨rfl,rfl⟩⟩) (by kernel_rfl) (show∀a b,GH.goal (ahp a b) (a,b,())from ?_);intro a b hin hp;dsimp only[GH]at hp ⊢;obtain⟨ha,hb⟩:a.length<=1000/\b.length<=1000:=hp;have fl:∀(p:Int×Unit->Bool)(l:List (Int×Unit)) n,((l.take n).filter p).length<=n:=λp l n=>by have:=axh p (l.take n);rw[awT]at this;omega
 refine bZ (λi(x:List (Int×Unit))=>(((),i,()),x,())) (λy=>y.1.2.1) (λ_ _=>rfl) b.length (by omega) (λn l=>l=(b.take n).filter λx=>!fE a x.1) rfl (λI μ n l hn hJ next=>?_) λI μ l hJ=>?_
 .subst hJ;have hl:=fl (λx=>!fE a x.1) b n;have step:=without_take b a hn;dsimp only;refine bU (by omega) ⟨⟨by omega,by omega⟩,trivial,af (λh=>⟨⟨by omega,by omega⟩,by rw[bM];simp only[awU,awY];exact aw2 (Nat.add_le_add_right hl _) (by omega),rfl,next _ ?_⟩) λh=>⟨rfl,next _ ?_⟩⟩
  .have h:(!fE a (b.getD n (0,())).1)=true:=h;rw[step,h];rfl
  .have h:(!fE a (b.getD n (0,())).1)=false:=h;rw[step,h];simp
 .subst hJ;rw[aw9];dsimp only;refine bV (by omega) (bZ (λi(x:List (Int×Unit))=>(((),i,()),x,())) (λy=>y.1.2.1) (λ_ _=>rfl) a.length (by omega) (λn l=>l=(a.take n).filter λx=>!fE b x.1) rfl (λI μ n l hn hJ next=>?_) λI μ l hJ=>?_)
  .subst hJ;have hl:=fl (λx=>!fE b x.1) a n;have step:=without_take a b hn;dsimp only;refine bU (by omega) ⟨⟨by omega,by omega⟩,trivial,af (λh=>⟨⟨by omega,by omega⟩,by rw[bM];simp only[awU,awY];exact aw2 (Nat.add_le_add_right hl _) (by omega),rfl,next _ ?_⟩) λh=>⟨rfl,next _ ?_⟩⟩
   .have h:(!fE b (a.getD n (0,())).1)=true:=h;rw[step,h];rfl
   .have h:(!fE b (a.getD n (0,())).1)=false:=h;rw[step,h];simp
  .subst hJ;rw[aw9];dsimp only;exact bV (by omega) ⟨rfl,rfl⟩
theorem Zn:OK Ac.e:=by
 refine XA.ok mixed (ax [GH.e,l7.e] ⟨aho,BZ,trivial⟩) abA (λ⟨a,b,_⟩ _=>⟨((Jc a b,()),()),rfl⟩) (by kernel_rfl) (show∀a b,Ac.goal (Zo a b) (a,b,())from ?_);intro a b hin hp;dsimp only[Ac]at hp ⊢;obtain⟨ha,hb⟩:aU a/\aU b:=hp;have hbl:=hb.1;refine bZ (λi(x:List Hq)=>(((),i,()),x,())) (λy=>y.1.2.1) (λ_ _=>rfl) b.length (by omega) (λn l=>l=((b.take n).map (uH a)).filter AP) rfl (λI μ n l hn hJ next=>?_) λI μ l hJ=>?_
 .subst hJ;have hl:(((b.take n).map (uH a)).filter AP).length<=n:=by have:=axh AP ((b.take n).map (uH a));rw[aw4,awT]at this;omega
  have step:=ahd a b hn;have l1:=XG ha (b.getD n oW).1;have l2:(b.getD n oW).2.1.length<=1000:=JY hb hn;dsimp only;refine bU (by omega) ⟨⟨by omega,by omega⟩,ha,⟨by omega,by omega⟩,⟨l1,l2⟩,?_⟩;rintro⟨⟨x,y,⟨⟩⟩,⟨⟩⟩ ⟨e1,e2⟩;have e1:x=Sp.without (b.getD n oW).2.1 (fF a (b.getD n oW).1):=e1;have e2:y=Sp.without (fF a (b.getD n oW).1) (b.getD n oW).2.1:=e2;have hd:uH a (b.getD n oW)=((b.getD n oW).1,x,y,()):=by rw[e1,e2];rfl
  have hz:AP (uH a (b.getD n oW))=decide (0<x.length+y.length):=by rw[hd];rfl
  have small:(((b.take n).map (uH a)).filter AP).length+1<=big:=by rw[bM];omega
  dsimp only;refine af (λh=>⟨⟨by omega,by omega⟩,small,rfl,next _ ?_⟩) λh=>af (λh2=>⟨⟨by omega,by omega⟩,small,rfl,next _ ?_⟩) λh2=>⟨rfl,next _ ?_⟩
  .have h:(x.length:Int)>0:=gI h;rw[step,hz,aw0 (by omega),hd];rfl
  .have h2:(y.length:Int)>0:=gI h2;rw[step,hz,aw0 (by omega),hd];rfl
  .have h:¬(x.length:Int)>0:=gY h;have h2:¬(y.length:Int)>0:=gY h2;rw[step,hz,aw1 (by omega)];simp
 .subst hJ;rw[aw9];dsimp only;exact bV (by omega) rfl
theorem afo{α:Type}(p:α->Bool)(d:α)(l:List α){n:Nat}(h:n<l.length):(l.take (n+1)).any p=((l.take n).any p||p (l.getD n d)):=by rw[Sp.take_succ' l n d h,List.any_append];simp
theorem asY{r0 r3:Sp.LS}{f g:aF}{q:List bI}(h0:dA r0 (gX f g))(h3:dA r3 (lD q)):(r3.any λx=>dQ r0 x.1)=(lD q).any λt=>(gX f g).contains t:=by rw[← aqE h0 h3,axf,axQ,axQ];exact⟨λ⟨x,hx,h⟩=>⟨x,iw.1 h,iw.2 hx⟩,λ⟨x,hx,h⟩=>⟨x,iw.1 h,iw.2 hx⟩⟩
theorem Rh:OK rE.e:=by
 refine XA.ok mixed (ax [zo.e,BL.e,Eb.e,yM.e,FM.e] ⟨MW,abh,ac9,XB,ae5,trivial⟩) RV (λ⟨d,f,g,_⟩ hp=>by obtain⟨r,h⟩:=UD d f g;exact⟨((r,()),()),h⟩) (by kernel_rfl) (show∀d a0 a1 a2 a3 a4 b0 b1 b2 b3 b4,rE.goal (Ri d a0 a1 a2 a3 a4 b0 b1 b2 b3 b4) (d,(a0,a1,a2,a3,a4,()),(b0,b1,b2,b3,b4,()),())from ?_);intro d a0 a1 a2 a3 a b0 b1 b2 b3 b hin hp;dsimp only[rE]at hp ⊢;obtain⟨hd,hf,hg,hab⟩:aI d/\bY (a0,a1,a2,a3,a,())/\bY (b0,b1,b2,b3,b,())/\a.length+b.length<=1000:=hp;have hl:=hd.1;refine af (λh=>⟨hl,UC (ayR.1 h)⟩) λh=>⟨⟨hf,hg,hab⟩,?_⟩;have hid:a0=b0:=amz h;rintro⟨⟨r0,⟨⟩⟩,⟨⟩⟩ hr0;have hr0:dA r0 (gX (a0,a1,a2,a3,a,()) (b0,b1,b2,b3,b,())):=hr0;dsimp only;generalize hF:((a0,a1,a2,a3,a,()):aF)=F at*;generalize hG:((b0,b1,b2,b3,b,()):aF)=G at*;have aph:(a3 !=b3)=(F.2.2.2.1 !=G.2.2.2.1):=by rw[← hF,← hG]
 refine bZ (λi(x:Sp.LS)=>(((),i,()),x,())) (λy=>y.1.2.1) (λ_ _=>rfl) d.length (by omega) (λn l=>l=((d.take n).filter (mD F G)).map λx=>(x.1,())) rfl (λI μ n l hn hJ next=>?_) λI μ l hJ=>?_
 .subst hJ;have hl:=Dv (mD F G) (λx:aV=>(x.1,())) d n;dsimp only;rw[aph];refine bU (by omega) ⟨λy=>y.1.1=(Sp.linked (d.getD n BA).2.1&&F.2.2.2.1 !=G.2.2.2.1),af (λh=>⟨⟨by omega,by omega⟩,trivial,rfl,?_⟩) λh=>⟨rfl,?_⟩,?_⟩
  .rw[h,ayN];rfl
  .rw[h,axx]
  rintro⟨⟨hit,⟨⟩⟩,⟨⟩⟩ hhit;have hhit:hit=(Sp.linked (d.getD n BA).2.1&&F.2.2.2.1 !=G.2.2.2.1):=hhit;refine⟨⟨by omega,by omega⟩,o6 hd hn,?_⟩;rintro⟨⟨r6,⟨⟩⟩,⟨⟩⟩ Tv;have Tv:dA r6 (lD (d.getD n BA).2.1):=Tv;have h6:=Tv.1;dsimp only;refine bZ (λi(x:Bool)=>((x,i,()),())) (λy=>y.1.2.1) (λ_ _=>rfl) r6.length (by omega) (λk x=>x=(hit||(r6.take k).any λt=>dQ r0 t.1)) (by simp) (λI μ k x hk hJ PG=>?_) λI μ x hJ=>?_
  .have step:=afo (λt:Sp.Bytes×Unit=>dQ r0 t.1) ([],()) r6 hk;dsimp only;refine bU (by omega) (af (λh=>⟨rfl,PG _ ?_⟩) λh=>⟨⟨by omega,by omega⟩,trivial,rfl,PG _ ?_⟩)
   .have h:x=true:=h;rw[h]at hJ;rw[step,← Bool.or_assoc,← hJ];rfl
   .have h:x=false:=h;rw[h]at hJ;rw[step,← Bool.or_assoc,← hJ,ayp,awX]
  .rw[aw9,asY hr0 Tv]at hJ;have ht:x=mD F G (d.getD n BA):=by rw[hJ,hhit];unfold mD;rw[Bool.or_comm]
   dsimp only;refine bV (by omega) (af (λh=>⟨⟨by omega,by omega⟩,by rw[bM];simp only[awU,awY];omega,rfl,next _ ?_⟩) λh=>⟨rfl,next _ ?_⟩)
   .have h:x=true:=h;rw[jF (mD F G) BA d hn,← ht,h,axz];rfl
   .have h:x=false:=h;rw[jF (mD F G) BA d hn,← ht,h,axz];simp
 .subst hJ;rw[aw9];dsimp only;exact bV (by omega) (Q5 (by rw[← hF,← hG];exact hid))
def XK(l:Sp.LS):Prop:=l.Pairwise λx y=>Op.bytesLess x.1 y.1=true
theorem aqH{x:Sp.Bytes×Unit}{r:Sp.LS}{s:Sp.Bytes}:yZ (x::r) s=if Op.bytesLess x.1 s=true then x::yZ r s else if x.1=s then x::r else(s,())::x::r:=by
 unfold yZ;by_cases h:Op.bytesLess x.1 s=true
 .rw[if_pos h,List.takeWhile_cons_of_pos (p:=λx:Sp.Bytes×Unit=>Op.bytesLess x.1 s) h];dsimp only;rw[awU];cases hc:(decide ((r.takeWhile λx=>Op.bytesLess x.1 s).length<r.length)&&(r.getD (r.takeWhile λx=>Op.bytesLess x.1 s).length ([],())).1==s)with
  |true=>
   have:(decide ((r.takeWhile λx=>Op.bytesLess x.1 s).length+1<(x::r).length)&&((x::r).getD ((r.takeWhile λx=>Op.bytesLess x.1 s).length+1) ([],())).1==s)=true:=by rw[← hc,awU];simp[List.getD_cons_succ]
   rw[this];rfl
  |false=>
   have:(decide ((r.takeWhile λx=>Op.bytesLess x.1 s).length+1<(x::r).length)&&((x::r).getD ((r.takeWhile λx=>Op.bytesLess x.1 s).length+1) ([],())).1==s)=false:=by rw[← hc,awU];simp[List.getD_cons_succ]
   rw[this];rfl
 .rw[if_neg h,List.takeWhile_cons_of_neg (p:=λx:Sp.Bytes×Unit=>Op.bytesLess x.1 s) h];by_cases e:x.1=s
  .rw[if_pos e];simp[e]
  .rw[if_neg e];simp[awS.2 e]
theorem Rj{s:Sp.Bytes}:∀{l:Sp.LS},XK l->XK (yZ l s)
 |[],_=>ayM _ _
 |y::r,h=>by
  obtain⟨h1,h2⟩:=axJ.1 h;have i1:=Rj (s:=s) h2;rw[aqH];by_cases c1:Op.bytesLess y.1 s=true
  .rw[if_pos c1];refine axJ.2 ⟨λz hz=>?_,i1⟩;rcases(qO z).1 hz with rfl|hz
   .exact c1
   .exact h1 z hz
  .rw[if_neg c1];by_cases c2:y.1=s
   .rw[if_pos c2];exact h
   .rw[if_neg c2];have c3:Op.bytesLess s y.1=true:=XL y.1 s (by simpa using c1) c2;refine axJ.2 ⟨λz hz=>?_,h⟩;rcases axi.1 hz with rfl|hz
    .exact c3
    .exact AQ _ _ _ c3 (h1 z hz)
theorem aoe{l b:Sp.LS}(h:XK l)(hs:∀x∈l,x∈b):l.length<=b.length:=by
 have hn:l.Nodup:=by unfold List.Nodup;exact List.Pairwise.imp (λ{a b} hab e=>Dz hab (congrArg Prod.fst e)) h
 exact abm l b hn hs
structure Rd(d:List aV)(names out:Sp.LS):Prop where
 asc:XK out
 base:∀x∈names,x∈out
 reach:∀x∈out,Sp.Reach d (λs=>dQ names s=true) x.1
 sub:∀x∈out,x∈names++iW d
theorem Rd.len{d:List aV}{names out:Sp.LS}(h:Rd d names out):out.length<=names.length+d.length:=by
 have:=aoe h.asc h.sub;rw[awW]at this;have e:(iW d).length=d.length:=by unfold iW;rw[aw4]
 omega
theorem Rd.put{d:List aV}{names out:Sp.LS}(h:Rd d names out){i:Nat}(hi:i<d.length){s:Sp.Bytes}(hs:(s,())∈out)(ha:s∈pG (dW d i)):Rd d names (yZ out (Sp.nameOf d i)) where
 asc:=Rj h.asc
 base:=λx hx=>(qO x).2 (.inr (h.base x hx))
 reach:=λx hx=>by
  rcases(qO x).1 hx with rfl|hx
  .exact .step (h.reach _ hs) hi ha
  .exact h.reach x hx
 sub:=λx hx=>by
  rcases(qO x).1 hx with rfl|hx
  .exact axb.2 (.inr (Q9 hi))
  .exact h.sub x hx
def shut(d:List aV)(out:Sp.LS):Prop:=∀i,i<d.length->∀s∈pG (dW d i),(s,())∈out->(Sp.nameOf d i,())∈out
def amD(d:List aV)(out:Sp.LS):Nat:=((List.range d.length).filter λi=>dQ out (Sp.nameOf d i)).length
theorem asZ(d:List aV)(out:Sp.LS):amD d out<=d.length:=by have:=axh (λi=>dQ out (Sp.nameOf d i)) (List.range d.length);rw[List.length_range]at this;exact this
theorem as1{d:List aV}{a b:Sp.LS}(h:∀x∈a,x∈b){i:Nat}(hi:i<d.length)(h1:(Sp.nameOf d i,()) ∉ a)(h2:(Sp.nameOf d i,())∈b):amD d a<amD d b:=
 Sp.filter_lt (λj hj=>iw.2 (h _ (iw.1 hj))) ⟨i,axN.2 hi,iw.2 h2,by rw[ax6];exactλh'=>h1 (iw.1 h')⟩
theorem Nk:OK nR.e:=by
 refine XA.ok mixed (ax [zo.e,Ea.e,oM.e] ⟨MW,ac6,xJ,trivial⟩) Og (λ⟨d,names,_⟩ hp=>by obtain⟨r,h⟩:=UE d hp.2.1 names hp.2.2;exact⟨((r,()),()),h⟩) (by kernel_rfl) (show∀d names,nR.goal (Nl d names) (d,names,())from ?_);intro d names hin hp;dsimp only[nR]at hp ⊢;obtain⟨hd,hd5,hnl⟩:aI d/\d.length<=5/\names.length<=900:=hp;refine bZ (λi(x:Sp.LS)=>((x,i,()),())) (λy=>y.1.2.1) (λ_ _=>rfl) names.length (by omega) (λn l=>XK l/\∀x,x∈l↔x∈names.take n) ⟨List.Pairwise.nil,λx=>by simp⟩ (λI μ n l hn hJ next=>?_) λI μ l hJ=>?_
 .obtain⟨h1,h2⟩:=hJ;have hl:=aoe h1 λx hx=>(h2 x).1 hx;rw[awT]at hl;dsimp only;refine bU (by omega) ⟨⟨by omega,by omega⟩,by omega,rfl,next _ ⟨Rj h1,λx=>?_⟩⟩;rw[qO,h2,Sp.take_succ' names n ([],()) hn,axb,axH,awX];exact Or.comm
 obtain⟨h1,h2⟩:=hJ;rw[aw9]at h2;dsimp only;refine bV (by omega) ⟨λy=>∃r:Nat,y.1.2.1=r/\r<=d.length+1/\Rd d names y.1.1/\(shut d y.1.1\/r<=amD d y.1.1),λy=>((d.length:Int)+1-y.1.2.1).toNat,⟨0,rfl,by omega,⟨h1,λx hx=>(h2 x).2 hx,λx hx=>.base (iw.2 ((h2 x).1 hx)),λx hx=>axb.2 (.inl ((h2 x).1 hx))⟩,.inr (axp _)⟩,?_⟩;rintro⟨⟨out,_,⟨⟩⟩,⟨⟩⟩ ⟨rd,rfl,hrd,R,hcl⟩;dsimp only at R hcl ⊢;refine af (λhc=>?_) λhc=>?_
 .have hc:(rd:Int)<=d.length:=gI hc;have w:IntKind.i64.wrap ((rd:Int)+1)=((rd+1:Nat):Int):=fQ _ (by omega);rw[w];refine bZ (λi(x:Sp.LS)=>((x,i,()),())) (λy=>y.1.2.1) (λ_ _=>rfl) d.length (by omega) (λi o=>Rd d names o/\(∀x∈out,x∈o)/\(∀j,j<i->∀s∈pG (dW d j),(s,())∈out->(Sp.nameOf d j,())∈o)/\(shut d out->∀x∈o,x∈out)) ⟨R,λx hx=>hx,λj hj=>by omega,λ_ x hx=>hx⟩ (λI μ i o hi hJ next=>?_) λI μ o hJ=>?_
  .obtain⟨R2,g1,g2,g3⟩:=hJ;dsimp only;rw[awX];refine bU (by omega) ⟨⟨by omega,by omega⟩,o6 hd hi,?_⟩;rintro⟨⟨r7,⟨⟩⟩,⟨⟩⟩ hr7;have hr7:dA r7 (pG (dW d i)):=hr7;have h7:=hr7.1;dsimp only;refine bZ (λk(x:Sp.LS)=>((x,k,()),())) (λy=>y.1.2.1) (λ_ _=>rfl) r7.length (by omega) (λk o3=>Rd d names o3/\(∀x∈o,x∈o3)/\(∀t,t<k->r7.getD t ([],())∈out->(Sp.nameOf d i,())∈o3)/\(shut d out->∀x∈o3,x∈out)) ⟨R2,λx hx=>hx,λt ht=>by omega,g3⟩ (λI μ k o3 hk hJ PG=>?_) λI μ o3 hJ=>?_
   .obtain⟨R3,k1,k2,k3⟩:=hJ;have hl3:=R3.len;have hmem:r7.getD k ([],())∈r7:=getD_mem (d:=(([]:Sp.Bytes),())) hk;have hask:(r7.getD k ([],())).1∈pG (dW d i):=(hr7.2 _).1 hmem;dsimp only;rw[awX];refine bU (by omega) ⟨⟨by omega,by omega⟩,trivial,af (λh=>⟨⟨by omega,by omega⟩,by omega,rfl,PG _ ⟨R3.put hi (iw.1 h) hask,λx hx=>(qO x).2 (.inr (k1 x hx)),λt _ _=>(qO _).2 (.inl rfl),λhs x hx=>?_⟩⟩) λh=>⟨rfl,PG _ ⟨R3,k1,λt ht hto=>?_,k3⟩⟩⟩
    .rcases(qO x).1 hx with rfl|hx
     .exact hs i hi _ hask (k3 hs _ (iw.1 h))
     .exact k3 hs x hx
    .rcases aw8 t k with h'|h'
     .exact k2 t h' hto
     .have:t=k:=by omega
      subst this;have h':dQ o3 (r7.getD t ([],())).1=true:=iw.2 (k1 _ (g1 _ hto));have h:dQ o3 (r7.getD t ([],())).1=false:=h;rw[h]at h';cases h'
   .obtain⟨R3,k1,k2,k3⟩:=hJ;dsimp only;refine bV (by omega) ⟨rfl,next _ ⟨R3,λx hx=>k1 x (g1 x hx),λj hj s hs hso=>?_,k3⟩⟩;rcases aw8 j i with h'|h'
    .exact k1 _ (g2 j h' s hs hso)
    .have:j=i:=by omega
     subst this;obtain⟨t,ht,e⟩:=axu ((hr7.2 s).2 hs);have hat:r7.getD t ([],())=(s,()):=by rw[awR,awV ht,e];rfl
     exact k2 t ht (by rw[hat];exact hso)
  .obtain⟨R2,g1,g2,g3⟩:=hJ;dsimp only;refine bV (by omega) ⟨rfl,⟨rd+1,rfl,by omega,R2,?_⟩,by dsimp only;omega⟩;by_cases hs:shut d out
   .left;intro i hi s hs' hso;exact g1 _ (hs i hi s hs' (g3 hs _ hso))
   .right;rcases hcl with hcl|hcl
    .exact(hs hcl).elim
    .obtain⟨i,hi⟩:=ay8.1 hs;have hi1:i<d.length:=axr λh=>hi λh'=>(h h').elim;obtain⟨s,hs2⟩:=ay8.1 λh=>hi λ_=>h;have hs3:s∈pG (dW d i):=axr λh=>hs2 λh'=>(h h').elim;have hs4:(s,())∈out:=axr λh=>hs2 λ_ h'=>(h h').elim;have hs5:(Sp.nameOf d i,()) ∉ out:=λh=>hs2 λ_ _=>h;have:=as1 g1 hi1 hs5 (g2 i hi1 s hs3 hs4);show rd+1<=amD d o;omega
 .have hc:¬(rd:Int)<=d.length:=gY hc;have hl:=R.len;have hs:shut d out:=by
   rcases hcl with hcl|hcl
   .exact hcl
   .have:=asZ d out;omega
  refine⟨by rw[bM];omega,by show out.length<=1000;omega,λs=>?_⟩;rw[iw];refine⟨λh=>R.reach _ h,λh=>?_⟩;show(s,())∈out
  induction h with
  |base hb=>exact R.base _ (iw.1 hb)
  |step _ hj ha ih=>exact hs _ hj _ ha ih
theorem XM:OK yO.e:=by refine XA.ok mixed (ax [nR.e,rE.e] ⟨Nk,Rh,trivial⟩) H0 (λ⟨d,f,g,_⟩ hp=>by obtain⟨r,h⟩:=aoa d hp.2.1 f g;exact⟨((r,()),()),h⟩) (by kernel_rfl) (show∀d a0 a1 a2 a3 a4 b0 b1 b2 b3 b4,yO.goal (XO d a0 a1 a2 a3 a4 b0 b1 b2 b3 b4) (d,(a0,a1,a2,a3,a4,()),(b0,b1,b2,b3,b4,()),())from ?_);intro d a0 a1 a2 a3 a b0 b1 b2 b3 b hin hp;dsimp only[yO]at hp ⊢;obtain⟨h1,h2,h3,h4,h5⟩:=hp;exact⟨⟨h1,h3,h4,h5⟩,λr0 hr0=>⟨⟨h1,h2,by have:=hr0.1;omega⟩,λr1 hr1=>aqF hr0 hr1⟩⟩
theorem anu{c:dR}{s:bP}{d:List aV}(nm:Sp.Bytes->Bool)(h:(aB d&&aC s)=true):∃c' df,Sp.turned c s d nm c' df true:=by obtain⟨c',df,g⟩:=ahf c s d nm;rw[h]at g;exact⟨c',df,g⟩
theorem ahq:OK GI.e:=by refine XA.ok mixed (ax [Ac.e,BJ.e] ⟨Zn,aa5,trivial⟩) H0 (λ⟨c,s,d,names,_⟩ hp=>by obtain⟨c',df,h⟩:=anu (c:=c) (dQ names) hp.2.2.2;exact⟨((((c'.1,c'.2.1,c'.2.2.1,c'.2.2.2.1,c'.2.2.2.2.1,()),df,()),())),h⟩) (by kernel_rfl) (show∀l0 l1 l2 l3 l4 s0 s1 s2 d names,GI.goal (ahr l0 l1 l2 l3 l4 s0 s1 s2 d names) ((l0,l1,l2,l3,l4,()),(s0,s1,s2,()),d,names,())from ?_);intro a l nx d0 r0 sa sl sn d names hin hp;dsimp only[GI]at hp ⊢;obtain⟨hc,hs,hd,hz⟩:=hp;have hr:aU r0:=hc.2.2;refine⟨⟨hs,hd,hr⟩,?_⟩;rintro⟨⟨out,ok,⟨⟩⟩,⟨⟩⟩ ⟨e1,e2⟩;have e1:ok=(aB d&&aC (sa,sl,sn,())):=e1;have e2:ok=true->gq sl d r0 (dQ names) out:=e2;have hev:=e2 (e1.trans hz);exact⟨⟨hr,IQ hev hd.1 hs.2.1 hr⟩,λr3 hr3=>⟨hz.symm,λ_=>⟨rfl,rfl,hev,hr3⟩,λh=>by cases h⟩⟩
end Go.Proofs.Tryz
namespace Go.Proofs.Tryz
open Go Go.Fw Go.IntWalk Sp
theorem abB:OK BP.e:=by
 refine XA.ok mixed (ax [GI.e,yO.e,sN.e,tZ.e,qE.e,CX.e] ⟨ahq,XM,Ig,MH,Et,TG,trivial⟩) adh (λ⟨c,f,_⟩ _=>by obtain⟨c',df,h⟩:=UF c f;exact⟨((((c'.1,c'.2.1,c'.2.2.1,c'.2.2.2.1,c'.2.2.2.2.1,()),df,(dX c&&(aQ (aW c) f).2),()),())),h⟩) (by kernel_rfl) (show∀l0 l1 l2 l3 l4 f0 f1 f2 f3 f4,BP.goal (abC l0 l1 l2 l3 l4 f0 f1 f2 f3 f4) ((l0,l1,l2,l3,l4,()),(f0,f1,f2,f3,f4,()),())from ?_);intro a l nx d r f0 f1 f2 f3 f4 hin hp;dsimp only[BP]at hp ⊢;obtain⟨hc,hf,hhc,hhf⟩:=hp;refine⟨hc,?_⟩;rintro⟨⟨c',⟨⟩⟩,⟨⟩⟩ ec;have ec:c'=(a,l,nx,d,r,()):=ec;subst ec;refine⟨hc.1,⟨hc.1,hf⟩,?_⟩;rintro⟨⟨⟨sa,sl,sn,⟨⟩⟩,ok,⟨⟩⟩,⟨⟩⟩ ⟨e1,e2,e3,e4⟩;have es:((sa,sl,sn,()):bP)=(aQ (a,l,nx,()) (f0,f1,f2,f3,f4,())).1:=QJ e1 e2 e3;have e4:ok=(aQ (a,l,nx,()) (f0,f1,f2,f3,f4,())).2:=e4;have bad:(dX (a,l,nx,d,r,())&&(aQ (a,l,nx,()) (f0,f1,f2,f3,f4,())).2)=false->Sp.updated (a,l,nx,d,r,()) (f0,f1,f2,f3,f4,()) (a,l,nx,d,r,()) [] false:=λhz=>⟨hz.symm,λh=>(by cases h),λ_=>⟨rfl,rfl⟩⟩;dsimp only;refine⟨hc,af (λh2=>bad ?_) λh2=>af (λh=>bad ?_) λh=>?_⟩
 .rw[dY h2];rfl
 .have h:ok=false:=dY h;rw[← e4,h,axx]
 have h:ok=true:=dw h;have h2:=dw h2;obtain⟨hst,hok,hev⟩:=Lm h2;have hst:aB d=true:=hst;have hlen:=(qf hst).2;have hfind:bY (aj (a,l,nx,()) f0).1/\OY (aj (a,l,nx,()) f0).1:=by
  rcases lI l f0 with⟨h,_⟩|⟨n,hn,h,_,_⟩
  .have e:aj (a,l,nx,()) f0=(VN,false):=by show(bif decide (Sp.place l f0<0)then _ else _)=_;rw[h];rfl
   rw[e];exact⟨axp _,axp _⟩
  .have e:aj (a,l,nx,()) f0=(Sp.fileAt l n,true):=by show(bif decide (Sp.place l f0<0)then _ else(Sp.fileAt l (Sp.place l f0).toNat,true))=_;rw[h,aw1 (by omega)];rfl
   rw[e];have hm:Sp.fileAt l n∈l:=getD_mem hn;exact⟨hc.1.2.2 _ hm,hhc _ hm⟩
 have hh:(aj (a,l,nx,()) f0).1.2.2.2.2.1.length<=500:=hfind.2;have hh2:f4.length<=500:=hhf;have hrep:(aQ (a,l,nx,()) (f0,f1,f2,f3,f4,())).2=true:=e4▸h;have hz:(aB d&&aC (aQ (a,l,nx,()) (f0,f1,f2,f3,f4,())).1)=true:=by rw[hst,XH hrep];rfl
 have hz2:(dX (a,l,nx,d,r,())&&(aQ (a,l,nx,()) (f0,f1,f2,f3,f4,())).2)=true:=by rw[h2,hrep];rfl
 refine⟨⟨hc.2.1,hlen,hfind.1,hf,by omega⟩,λr10 afj=>⟨⟨hc,?_,hc.2.1,?_⟩,λr11 afk=>?_⟩⟩
 .rw[es];exact Nj hc.1 hf
 .rw[es];exact hz
 .rw[es]at afk;obtain⟨g1,g2,g3⟩:=afk;obtain⟨k1,k2,k3,k4⟩:=g2 rfl;exact⟨hz2.symm,λ_=>⟨k1,k2,Uw k3 (λi hi=>aoc afj _) λ_ _ _=>rfl,k4⟩,λhno=>by cases hno⟩
theorem as2{a b:dR}(h1:aW a=aW b)(h2:cZ a=cZ b)(h3:wW a=wW b):a=b:=by obtain⟨x1,x2,x3,x4,x5,_⟩:=a;obtain⟨y1,y2,y3,y4,y5,_⟩:=b;have t1:x1=y1:=congrArg (λs:bP=>s.1) h1;have t2:x2=y2:=congrArg (λs:bP=>s.2.1) h1;have t3:x3=y3:=congrArg (λs:bP=>s.2.2.1) h1;have t4:x4=y4:=h2;have t5:x5=y5:=h3;rw[t1,t2,t3,t4,t5]
theorem arL{a b:dR}(ha:dX a=true)(hb:dX b=true)(h1:aW a=aW b)(h2:cZ a=cZ b):a=b:=by obtain⟨hst,_,e1⟩:=Lm ha;obtain⟨_,_,e2⟩:=Lm hb;have hf:a.2.1=b.2.1:=congrArg (λs:bP=>s.2.1) h1;rw[← hf,← h2]at e2;exact as2 h1 h2 (Ll (qf hst).1 e1 e2)
end Go.Proofs.Tryz
namespace Go.Proofs.Tryz
open Go Go.Fw Go.IntWalk Sp
theorem amE{c:dR}(hok:aC (aW c)=true):apl c:=λf hf=>by
 obtain⟨i,hi,rfl⟩:=axu hf;have at_:Sp.fileAt c.2.1 i=c.2.1[i]:=by unfold Sp.fileAt;rw[awR,awV hi];rfl
 have:=(ahn (aod hok hi)).2;rw[at_]at this;exact aw2 this (by decide)
theorem ahs{a:List fD}{l:List aF}{nx:Int}(h:aC (a,l,nx,())=true):∀f∈l,f.2.2.2.2.1.length<=400:=amE (c:=(a,l,nx,[],[],())) h
theorem apm{c c':dR}{f:aF}{df:List Hq}{ok:Bool}(h:Sp.updated c f c' df ok):Sp.became c (aQ (aW c) f).1 (cZ c) (dX c&&(aQ (aW c) f).2) c' df ok:=by
 have u:=h;obtain⟨u1,u2,u3⟩:=h;refine⟨u1,λhok=>?_,u3⟩;have hz:=u1.symm.trans hok;rw[awP]at hz;obtain⟨k1,k2,_,k4⟩:=u2 hok;rcases iC (aW c) f with⟨e,_⟩|⟨n,hn,h1,h2,h3,e⟩
 .rw[e]at hz;cases hz.2
 .have hid:(Sp.fileAt c.2.1 n).1=f.1:=by
   rcases lI c.2.1 f.1 with⟨g,_⟩|⟨k,hk,g1,g2,_⟩
   .have h1:Sp.place c.2.1 f.1=n:=h1;omega
   .have h1:Sp.place c.2.1 f.1=n:=h1;have:k=n:=by omega
    subst this;exact g2
  exact⟨k1,k2,(arJ hz.1 hn hid h3 u).2.2.2.2,k4⟩
theorem ajn:OK I7.e:=by
 refine XA.ok mixed (ax [vT.e,xw.e,I4.e,I5.e,kE.e,dL.e,uP.e] ⟨NZ,KX,aiP,aiZ,pY,eH,Jy,trivial⟩) ak1 (λ_ _=>⟨((([],[],0,()),()),(([],0,0,()),())),⟨by decide,⟨by decide,by decide,λf hf=>by cases hf⟩,λf hf=>by cases hf⟩⟩) (by kernel_rfl) (show∀c0 c1 c2,I7.goal (ajo c0 c1 c2) ((c0,c1,c2,()),())from ?_);intro b i h hin hp;dsimp only[I7]at hp ⊢;have hp:0<=i:=hp;refine⟨hp,?_⟩;rintro⟨⟨⟨a,l,nx,⟨⟩⟩,⟨⟩⟩,⟨b0,i0,g0,⟨⟩⟩,⟨⟩⟩ ⟨p0,d1,d2,d3,d4,_⟩;have D:tH 2 (a,l,nx,()):=⟨d1,d2,d3,d4⟩;obtain⟨z0,z1,z2⟩:a.length<=1000/\l.length<=1000/\∀f∈l,bY f:=d4;have z3:l.length<=12:=(jU.1 D.ok).2.2.1;have hh:=ahs D.ok;refine⟨p0,?_⟩;rintro⟨⟨x1,⟨⟩⟩,⟨b1,i1,g1,⟨⟩⟩,⟨⟩⟩ ⟨p1,_⟩;refine af (λ_=>⟨⟨p1,by simp⟩,?_⟩) λ_=>af (λ_=>⟨p1,?_⟩) λ_=>af (λ_=>⟨p1,?_⟩) λ_=>af (λ_=>?_) λ_=>⟨p1,D.small,hh⟩
 .rintro⟨⟨x3,⟨⟩⟩,⟨b3,i3,g3,⟨⟩⟩,⟨⟩⟩ ⟨p3,_⟩;exact⟨p3,⟨z0,z1,z2⟩,hh⟩
 .rintro⟨⟨⟨d,o,s,lk,al,⟨⟩⟩,⟨⟩⟩,⟨b2,i2,g2,⟨⟩⟩,⟨⟩⟩ ⟨p2,ha⟩;have hf:bY (d,o,s,lk,al,()):=(show al.length<=1000 from aw2 ha (by decide));refine⟨(show l.length+1<=big by rw[bM];omega),p2,⟨z0,?_,λf hf'=>?_⟩,λf hf'=>?_⟩
  .show(l++[_]).length<=1000;rw[awW,awU,awY];omega
  .rcases axb.1 hf' with h'|h'
   .exact z2 f h'
   .have:f=(d,o,s,lk,al,()):=by simpa using h'
    rw[this];exact hf
  .rcases axb.1 hf' with h'|h'
   .exact hh f h'
   .have:f=(d,o,s,lk,al,()):=by simpa using h'
    rw[this];exact aw2 ha (by decide)
 .rintro⟨⟨x3,⟨⟩⟩,⟨b3,i3,g3,⟨⟩⟩,⟨⟩⟩ ⟨p3,hx⟩;exact⟨p3,⟨aw2 (show x3.length<=6 from hx) (by decide),z1,z2⟩,hh⟩
 .refine⟨λy=>0<=y.2.1.2.1/\tH 2 y.2.2.1,λy=>12-y.2.2.1.2.1.length,⟨p1,D⟩,?_⟩;rintro⟨⟨⟩,⟨b2,i2,g2,⟨⟩⟩,⟨a,l,nx,⟨⟩⟩,⟨⟩⟩ ⟨p2,D⟩;have D:tH 2 (a,l,nx,()):=D;refine af (λhc=>⟨p2,?_⟩) λ_=>⟨p2,D.small,ahs D.ok⟩;have hc:(l.length:Int)<12:=gI hc;rintro⟨⟨⟨d,o,s,lk,al,⟨⟩⟩,⟨⟩⟩,⟨b3,i3,g3,⟨⟩⟩,⟨⟩⟩ ⟨p3,_,ho1,ho2,hl1,hl2,hok,ha⟩;have hf:bY (d,o,s,lk,al,()):=(show al.length<=1000 from aw2 ha (by decide));refine⟨⟨D.small,hf⟩,?_⟩;rintro⟨⟨⟨a3,l3,nx3,⟨⟩⟩,id3,ok3,⟨⟩⟩,⟨⟩⟩ ⟨e1,e2,e3,_⟩;have e:((a3,l3,nx3,()):bP)=(dD (a,l,nx,()) (d,o,s,lk,al,())).1:=QJ e1 e2 e3;have hg:=D.grows (f:=(d,o,s,lk,al,())) (show l.length<12 by omega) ⟨ho1,ho2⟩ ⟨hl1,hl2⟩ hok;have e2:l3=(dD (a,l,nx,()) (d,o,s,lk,al,())).1.2.1:=e2;refine⟨rfl,⟨p3,?_⟩,?_⟩
  .show tH 2 (a3,l3,nx3,());rw[e];exact D.create hf
  .show 12-l3.length<12-l.length;have hg:(dD (a,l,nx,()) (d,o,s,lk,al,())).1.2.1.length=l.length+1:=hg;rw[e2,hg];omega
theorem aht:OK GL.e:=by refine XA.ok mixed (ax [jq.e] ⟨kQ,trivial⟩) H0 (λ_ _=>⟨(([],()),(([],0,0,()),())),⟨by decide,by decide⟩⟩) (by kernel_rfl) (show∀c0 c1 c2,GL.goal (ahu c0 c1 c2) ((c0,c1,c2,()),())from ?_);intro b i h hin hp;dsimp only[GL]at hp ⊢;exact⟨⟨hp,by simp⟩,λr0 hr0=>⟨hr0.1,(show∀y∈_,List.length y.1<=10 from by decide) _ hr0.2⟩⟩
theorem ak2:OK Kr.e:=by refine XA.ok mixed (ax [kE.e] ⟨pY,trivial⟩) H0 (λ_ _=>⟨((0,()),(([],0,0,()),())),axv 0⟩) (by kernel_rfl) (show∀c0 c1 c2,Kr.goal (ak3 c0 c1 c2) ((c0,c1,c2,()),())from ?_);intro b i h hin hp;dsimp only[Kr]at hp ⊢;exact⟨⟨hp,by simp⟩,λr0 hr0=>hr0.1⟩
theorem ajp:OK Jd.e:=by refine XA.ok mixed (ax [mP.e] ⟨AA,trivial⟩) ak4 (λ_ _=>⟨(([],()),(([],0,0,()),())),⟨by decide,by decide⟩⟩) (by kernel_rfl) (show∀c0 c1 c2,Jd.goal (ajq c0 c1 c2) ((c0,c1,c2,()),())from ?_);intro b i h hin hp;dsimp only[Jd]at hp ⊢;refine⟨λy=>∃n:Nat,y.1.2.1=n/\1<=n/\n<=8/\0<=y.2.1.2.1/\y.2.2.1.length+1<=n,λy=>(8-y.1.2.1).toNat,⟨1,rfl,aw7 1,by decide,hp,aw7 1⟩,?_⟩;rintro⟨⟨_,_,⟨⟩⟩,⟨b,i,h,⟨⟩⟩,l,⟨⟩⟩ ⟨n,rfl,h1,h8,hi,hl⟩;dsimp only at hi hl ⊢;have w:IntKind.i64.wrap ((n:Int)+1)=((n+1:Nat):Int):=fQ _ (by omega);rw[w];refine af (λhc=>⟨hi,?_⟩) λhc=>⟨hi,by show l.length<=7;omega⟩;have hc:=gI hc;rintro⟨⟨x,⟨⟩⟩,⟨b1,i1,g1,⟨⟩⟩,⟨⟩⟩ q1;have q1:0<=i1:=q1;dsimp only;refine af (λ_=>⟨by rw[bM];simp only[awU,awY];omega,rfl,⟨n+1,rfl,by omega,by omega,q1,by simp;omega⟩,by dsimp only;omega⟩) λ_=>⟨rfl,⟨n+1,rfl,by omega,by omega,q1,by dsimp only;omega⟩,by dsimp only;omega⟩
theorem any_some:∃c,kJ c:=⟨([],[],0,[],[],()),⟨⟨by decide,by decide,λf hf=>by cases hf⟩,Es,Lj⟩,λf hf=>(by cases hf),by decide⟩
theorem amF{c:dR}(h:OZ c):kJ c/\(wW c).length=(cZ c).length:=by obtain⟨h1,h2,h3,h4⟩:=h;obtain⟨k1,k2,k3⟩:=Lm h4;exact⟨⟨h1,amE k2,aw2 (qf k1).2 (by decide)⟩,k3.order.1⟩
theorem ajr:OK Je.e:=by
 refine XA.ok mixed (ax [I7.e,I9.e,Jd.e,dL.e,GK.e] ⟨ajn,ajj,ajp,eH,ahh,trivial⟩) ak5 (λ_ _=>by obtain⟨c,h⟩:=any_some;exact⟨(((c.1,c.2.1,c.2.2.1,c.2.2.2.1,c.2.2.2.2.1,()),()),(([],0,0,()),())),⟨axv 0,h⟩⟩) (by kernel_rfl) (show∀c0 c1 c2,Je.goal (ajs c0 c1 c2) ((c0,c1,c2,()),())from ?_);intro b i h hin hp;dsimp only[Je]at hp ⊢;refine⟨hp,?_⟩;rintro⟨⟨⟨a,l,nx,d,r,⟨⟩⟩,⟨⟩⟩,⟨b0,i0,g0,⟨⟩⟩,⟨⟩⟩ ⟨p0,hl,hd⟩;have hl:OZ (a,l,nx,d,r,()):=hl;have hd:0<d.length:=hd;obtain⟨⟨⟨s1,s2,s3⟩,s4,s5⟩,er⟩:=amF hl;have s3:aU r:=s3;have er:r.length=d.length:=er;refine⟨p0,λr1 hr1=>af (λ_=>⟨hr1.1,λr2 hr2=>⟨⟨axv _,by show(0:Int)<(r.length:Int);omega⟩,(show 0<r.length by omega),hr2.1,?_⟩⟩) λ_=>af (λ_=>⟨hr1.1,λr3 hr3=>?_⟩) λ_=>af (λ_=>⟨hr1.1,λr4 hr4=>?_⟩) λ_=>⟨hr1.1,⟨s1,s2,s3⟩,s4,s5⟩⟩
 .refine⟨⟨s1,s2,by show(r.set 0 _).length<=1000;rw[axe];exact s3.1,λx hx=>?_⟩,s4,s5⟩;rcases azi hx with hx|rfl
  .exact s3.2 x hx
  .exact aw2 hr2.2 (by decide)
 .exact⟨hr3.1,⟨s1,hr3.2.2,s3⟩,s4,hr3.2.1⟩
 .exact⟨hr4.1,⟨hr4.2.1,s2,s3⟩,hr4.2.2,s5⟩
end Go.Proofs.Tryz
namespace Go.Proofs.Tryz
open Go Go.Fw Go.IntWalk Sp
theorem stays{c:dR}{s:bP}{d:List aV}{b:Bool}(hb:b=false){z:dR}(e:z=c):Sp.became c s d b z [] false:=⟨hb.symm,λh=>(by cases h),λ_=>⟨e,rfl⟩⟩
end Go.Proofs.Tryz
namespace Go.Proofs.Tryz
open Go Go.Fw Go.IntWalk Sp
theorem ahv:OK GN.e:=by
 refine PA.ok mixed (ax [jc.e] ⟨jJ,trivial⟩) H0 (by kernel_rfl) (show∀f0 f1 f2 f3 f4 u,GN.goal (ahw f0 f1 f2 f3 f4 u) ((f0,f1,f2,f3,f4,()),u,())from ?_);intro f0 f1 f2 f3 f4 u hin hp;dsimp only[GN]at hp ⊢;refine⟨trivial,af (λh=>af (λh2=>?_) λh2=>?_) λh=>?_⟩
 all_goals refine congrArg (·,()) ?_
 .show _=((decide (0<=u)&&decide (u<=2))&&(decide (f1=u)||f2));rw[h,show decide (f1=u)=true from h2];rfl
 .show _=((decide (0<=u)&&decide (u<=2))&&(decide (f1=u)||f2));rw[h,show decide (f1=u)=false from h2];rfl
 .show _=((decide (0<=u)&&decide (u<=2))&&(decide (f1=u)||f2));rw[h];rfl
theorem ahx:OK GR.e:=by
 refine PA.ok mixed (ax [vK.e] ⟨Hl,trivial⟩) H0 (by kernel_rfl) (show∀f0 f1 f2 f3 f4 user,GR.goal (ahy f0 f1 f2 f3 f4 user) ((f0,f1,f2,f3,f4,()),user,())from ?_);intro f0 f1 f2 f3 f4 u hin hp;dsimp only[GR]at hp ⊢;refine⟨trivial,af (λh=>af (λh2=>?_) λh2=>?_) λh=>?_⟩
 all_goals refine congrArg (·,()) ?_
 .show _=((decide (0<=u)&&decide (u<=2))&&(decide (f1=u)||f2));rw[h,show decide (f1=u)=true from h2];rfl
 .show _=((decide (0<=u)&&decide (u<=2))&&(decide (f1=u)||f2));rw[h,show decide (f1=u)=false from h2];rfl
 .show _=((decide (0<=u)&&decide (u<=2))&&(decide (f1=u)||f2));rw[h];rfl
theorem Rk:OK Af.e:=by
 refine PA.ok mixed (ax [jc.e] ⟨jJ,trivial⟩) H0 (by kernel_rfl) (show∀f0 f1 f2 f3 f4 u,Af.goal (afp f0 f1 f2 f3 f4 u) ((f0,f1,f2,f3,f4,()),u,())from ?_);intro f0 f1 f2 f3 f4 u hin hp;dsimp only[Af]at hp ⊢;refine⟨trivial,af (λh=>?_) λh=>?_⟩
 all_goals refine congrArg (·,()) ?_
 .show _=((decide (0<=u)&&decide (u<=2))&&decide (f1=u));rw[h];rfl
 .show _=((decide (0<=u)&&decide (u<=2))&&decide (f1=u));rw[h];rfl
theorem afq:OK FO.e:=by
 refine PA.ok mixed (ax [vK.e] ⟨Hl,trivial⟩) H0 (by kernel_rfl) (show∀f0 f1 f2 f3 f4 user,FO.goal (afr f0 f1 f2 f3 f4 user) ((f0,f1,f2,f3,f4,()),user,())from ?_);intro f0 f1 f2 f3 f4 u hin hp;dsimp only[FO]at hp ⊢;refine⟨trivial,af (λh=>?_) λh=>?_⟩
 all_goals refine congrArg (·,()) ?_
 .show _=((decide (0<=u)&&decide (u<=2))&&decide (f1=u));rw[h];rfl
 .show _=((decide (0<=u)&&decide (u<=2))&&decide (f1=u));rw[h];rfl
theorem qP:OK jd.e:=by refine XA.ok mixed (ax [] trivial) LX (λ⟨s,_⟩ _=>⟨((s,()),()),rfl⟩) (by kernel_rfl) (show∀s,jd.goal (Ls s) (s,())from ?_);intro s hin hp;dsimp only[jd]at hp ⊢;have hp:s.length<=1000:=hp;intro g hg;refine af (λh=>?_) λh=>⟨by rw[bM];omega,rfl⟩;exact(axS.1 (hg h)).symm
theorem VT:OK wG.e:=by refine XA.ok mixed (ax [jd.e] ⟨qP,trivial⟩) XP (λ⟨(i,o,s,l,a,_),_⟩ _=>⟨(((i,o,s,l,a,()),()),()),⟨rfl,rfl,rfl,rfl,rfl⟩⟩) (by kernel_rfl) (show∀f0 f1 f2 f3 f4,wG.goal (VU f0 f1 f2 f3 f4) ((f0,f1,f2,f3,f4,()),())from ?_);intro f0 f1 f2 f3 f4 hin hp;dsimp only[wG]at hp ⊢;exact⟨hp,λr0 hr0=>⟨rfl,rfl,rfl,rfl,hr0⟩⟩
theorem Ii:OK sQ.e:=by refine PA.ok mixed (ax [] trivial) H0 (by kernel_rfl) (show∀a0 a1 a2 a3 p10,sQ.goal (adi a0 a1 a2 a3 p10) ((a0,a1,a2,a3,()),(p10,()),())from ?_);intro a0 a1 a2 a3 p hin hp;dsimp only[sQ]at hp ⊢;exact rfl
theorem OU:OK xX.e:=by refine PA.ok mixed (ax [] trivial) H0 (by kernel_rfl) (show∀a0 a1 a2 a3 p10,xX.goal (adk a0 a1 a2 a3 p10) ((a0,a1,a2,a3,()),(p10,()),())from ?_);intro a0 a1 a2 a3 p hin hp;dsimp only[xX]at hp ⊢;exact congrArg (·,()) (XQ a0 p)
theorem AU:OK iL.e:=by refine PA.ok mixed (ax [sQ.e] ⟨Ii,trivial⟩) Bo (by kernel_rfl) (show∀s jE,iL.goal (AX s jE) (s,((jE,()),()),())from ?_);intro l nm hin hp;dsimp only[iL]at hp ⊢;exact QX (K:=λr=>r=(Sp.findAt (λx:aS=>x.1==nm) l,())) (λx:aS=>x.1==nm) ([],0,0,[],()) l _ hin.1.1 rfl
theorem AY:OK iM.e:=by refine PA.ok mixed (ax [xX.e] ⟨OU,trivial⟩) Bq (by kernel_rfl) (show∀s jE,iM.goal (AZ s jE) (s,((jE,()),()),())from ?_);intro l nm hin hp;dsimp only[iM]at hp ⊢;exact QX (K:=λr=>r=(Sp.findAt (λx:aS=>Op.bytesLess nm x.1) l,())) (λx:aS=>Op.bytesLess nm x.1) ([],0,0,[],()) l _ hin.1.1 rfl
theorem zi:OK iF.e:=by refine XA.ok mixed (ax [iL.e,sQ.e] ⟨AU,Ii,trivial⟩) A7 (λ⟨s,((nm,_),_),_⟩ _=>⟨((s.filter (λx=>!(x.1==nm)),()),()),rfl⟩) (by kernel_rfl) (show∀s Dy,iF.goal (zk s Dy) (s,((Dy,()),()),())from ?_);intro s nm hin hp;dsimp only[iF]at hp ⊢;exact⟨trivial,aob (K:=λr=>r.1.1=s.filter λx=>!(x.1==nm)) (λx:aS=>x.1==nm) ([],0,0,[],()) s _ (by have hp:s.length<=1000:=hp;omega) rfl⟩
theorem aqJ{r:List aS}{x:aS}{k:Nat}(hk:k<=r.length)(h1:∀i,i<k->Op.bytesLess x.1 (r.getD i ([],0,0,[],())).1=false)(h2:k<r.length->Op.bytesLess x.1 (r.getD k ([],0,0,[],())).1=true):r.take k++([x]++r.drop k)=xH r x:=by
 have e:∀y:aS,gJ x.1 y=!Op.bytesLess x.1 y.1:=λy=>by rw[← XQ y.1 x.1,Bool.not_not];rfl
 have hl:=abD (gJ x.1) ([],0,0,[],()) r k hk (λi hi=>by rw[e,h1 i hi];rfl) λh=>by rw[e,h2 h];rfl
 unfold xH;rw[apn (gJ x.1) r,apo,hl];rfl
theorem ahz:OK GU.e:=by
 refine XA.ok mixed (ax [(qi,.eff (oH lq) ug),iM.e,xX.e,iF.e,sQ.e,wG.e] ⟨⟨EL,DU⟩,AY,OU,zi,Ii,VT,trivial⟩) ajt (λ⟨(i,o,s,l,a,_),nm,(k,n,w,_),_⟩ _=>⟨(((i,o,s,l,dU a nm k n w,()),()),()),⟨rfl,rfl,rfl,rfl,rfl⟩⟩) (by kernel_rfl) (show∀f0 f1 f2 f3 f4 name v0 v1 v2,GU.goal (ahA f0 f1 f2 f3 f4 name v0 v1 v2) ((f0,f1,f2,f3,f4,()),name,(v0,v1,v2,()),())from ?_);intro f0 f1 f2 f3 f4 name v0 v1 v2 hin hp;dsimp only[GU]at hp ⊢;have hp:f4.length<=900:=hp;refine⟨by omega,?_⟩;rintro⟨⟨⟨i,o,s,l,a,⟨⟩⟩,⟨⟩⟩,⟨⟩⟩ ⟨e0,e1,e2,e3,e4⟩;obtain rfl:i=f0:=e0;obtain rfl:o=f1:=e1;obtain rfl:s=f2:=e2;obtain rfl:l=f3:=e3;obtain rfl:a=f4:=e4;refine⟨(show a.length<=1000 by omega),?_⟩;rintro⟨⟨r,⟨⟩⟩,⟨⟩⟩ er;have er:r=a.filter (fV name):=er;have hl:r.length<=900:=by rw[er];exact aw2 (axh _ _) hp
 refine af (λh=>⟨rfl,rfl,rfl,rfl,?_⟩) λh=>⟨trivial,?_⟩
 .show r=dU a name v0 v1 v2;unfold dU;rw[aw0 (awZ.1 h)];exact er
 .have avE:dU a name v0 v1 v2=xH r (name,v0,v1,v2,()):=by unfold dU;rw[aw1 (awS.1 h),← er];rfl
  dsimp only;rw[avE];rcases Lu (λx:aS=>Op.bytesLess name x.1) ([],0,0,[],()) r with⟨g,hg⟩|⟨k,hk,g,gk,hlt⟩
  .rw[g];refine bU (by decide) ⟨⟨by omega,by omega,by omega,rfl⟩,λr3 hr3=>⟨rfl,rfl,rfl,rfl,?_⟩⟩;rw[awX]at hr3;exact hr3.trans (aqJ (x:=(name,v0,v1,v2,())) (aw7 _) hg λh=>(by omega))
  .rw[g];refine bV (by omega) ⟨⟨by omega,by omega,by omega,rfl⟩,λr4 hr4=>⟨rfl,rfl,rfl,rfl,?_⟩⟩;rw[awX]at hr4;exact hr4.trans (aqJ (x:=(name,v0,v1,v2,())) (by omega) hlt λ_=>gk)
theorem XR:OK yP.e:=by
 refine PA.ok mixed (ax [] trivial) Zp (by kernel_rfl) (show∀s0 s1 s2 u,yP.goal (XT s0 s1 s2 u) ((s0,s1,s2,()),u,())from ?_);intro s0 s1 s2 u hin hp;dsimp only[yP]at hp ⊢;have hp:s1.length<=1000:=hp;refine bZ (λi(x:List (Int×Unit))=>(((),i,()),x,())) (λy=>y.1.2.1) (λ_ _=>rfl) s1.length (by omega) (λn l=>l=JH (s1.take n) u) rfl (λI μ n l hn hJ next=>?_) λI μ l hJ=>?_
 .subst hJ;have hl:=aqr (s1.take n) u;rw[awT]at hl;dsimp only;refine bU (by omega) ⟨⟨by omega,by omega⟩,af (λh=>⟨⟨by omega,by omega⟩,by rw[bM];simp only[awU,awY];omega,rfl,next _ ?_⟩) λh=>⟨rfl,next _ ?_⟩⟩
  .rw[agF hn,if_pos (show(Sp.fileAt s1 n).2.1=u from gI h)];rfl
  .rw[agF hn,if_neg (show ¬(Sp.fileAt s1 n).2.1=u from gY h),axK]
 .subst hJ;dsimp only;refine bV (by omega) ?_;rw[aw9]
theorem aju:OK Jf.e:=by refine PA.ok mixed (ax [qE.e] ⟨Et,trivial⟩) H0 (by kernel_rfl) (show∀s0 s1 s2 id,Jf.goal (ajv s0 s1 s2 id) ((s0,s1,s2,()),id,())from ?_);intro s0 s1 s2 id hin hp;dsimp only[Jf]at hp ⊢;exact⟨hp,rfl⟩
theorem ahB:OK GV.e:=by refine XA.ok mixed (ax [kE.e] ⟨pY,trivial⟩) H0 (λ_ _=>⟨((0,()),(([],0,0,()),())),axv 0⟩) (by kernel_rfl) (show∀c0 c1 c2,GV.goal (ahC c0 c1 c2) ((c0,c1,c2,()),())from ?_);intro b i h hin hp;dsimp only[GV]at hp ⊢;exact⟨⟨hp,by simp⟩,λr0 hr0=>hr0.1⟩
theorem UI:OK uY.e:=by
 refine XA.ok mixed (ax [vV.e,CO.e,uP.e] ⟨Oa,TA,Jy,trivial⟩) H0 (λ_ _=>by obtain⟨c,h⟩:=akn;exact⟨(((c.1,c.2.1,c.2.2.1,c.2.2.2.1,c.2.2.2.2.1,()),()),(([],0,0,()),())),⟨axv 0,h⟩⟩) (by kernel_rfl) (show∀c0 c1 c2,uY.goal (UJ c0 c1 c2) ((c0,c1,c2,()),())from ?_);intro b i h hin hp;dsimp only[uY]at hp ⊢;refine⟨hp,λr0 hr0=>⟨hr0.1,λr1 hr1=>⟨⟨hr0.2.2.2.2.1,hr1.2.2.1⟩,?_⟩⟩⟩;rintro⟨⟨⟨a,fs,nx,d,r,⟨⟩⟩,ok,⟨⟩⟩,⟨⟩⟩ ⟨e1,e2,_⟩;have hz:(aB r1.1.1&&aC r0.1.1)=true:=by rw[hr1.2.2.2.1,hr0.2.2.1];rfl
 obtain⟨k1,k2,k3⟩:=e2 (e1.trans hz);have k1:((a,fs,nx,()):bP)=r0.1.1:=k1;have k2:d=r1.1.1:=k2;refine⟨hr1.1,?_⟩;subst k2;rw[← k1]at hr0 k3;exact⟨aje hr0.2.1 hr0.2.2.1 hr0.2.2.2.2.1 hr0.2.2.2.2.2 hr1.2.2.1 hr1.2.2.2.1 k3,hr1.2.2.2.2⟩
theorem TL:OK CY.e:=by
 refine XA.ok mixed (ax [Je.e,GL.e,dL.e,mP.e,yP.e,Kr.e,GV.e,uY.e] ⟨ajr,aht,eH,AA,XR,ak2,ahB,UI,trivial⟩) ajw (λ_ _=>by obtain⟨c,h⟩:=any_some;exact⟨(((c.1,c.2.1,c.2.2.1,c.2.2.2.1,c.2.2.2.2.1,()),0,[],0,()),(([],0,0,()),())),⟨axv 0,h⟩⟩) (by kernel_rfl) (show∀c0 c1 c2,CY.goal (ahD c0 c1 c2) ((c0,c1,c2,()),())from ?_);intro b i h hin hp;dsimp only[CY]at hp ⊢;refine⟨hp,?_⟩;rintro⟨⟨c,⟨⟩⟩,⟨b0,i0,g0,⟨⟩⟩,⟨⟩⟩ ⟨p0,hl,hd⟩;have hl:OZ c:=hl;have hd:0<(cZ c).length:=hd;have hany:=(amF hl).1;refine⟨p0,λr1 hr1=>⟨hr1,λr2 hr2=>⟨hany.1.1.2.1,?_⟩⟩⟩;refine⟨λy=>0<=y.2.1.2.1,af (λhc=>⟨hr2,λr5 hr5=>af (λ_=>⟨hr5,λr6 Tv=>⟨⟨Tv.2.1,Tv.2.2.1 (by have:=gI hc;omega)⟩,rfl,Tv.1⟩⟩) λ_=>⟨rfl,hr5⟩⟩) λ_=>⟨rfl,hr2⟩,λy7 hJ=>⟨hJ,λr8 hr8=>⟨hr8.1,λr9 hr9=>?_⟩⟩⟩;have q9:0<=r9.2.1.2.1:=hr9;refine af (λ_=>⟨q9,λr10 afj=>⟨⟨afj.2.1,afj.2.2.1 (by show(0:Int)<((cZ c).length:Int);omega)⟩,afj.1,λr11 afk=>?_⟩⟩) λ_=>⟨q9,λr13 avF=>?_⟩
 .have q11:0<=r11.2.1.2.1:=afk;exact af (λ_=>⟨q11,λr12 avG=>avG⟩) λ_=>⟨q11,hany⟩
 .have q13:0<=r13.2.1.2.1:=avF;exact af (λ_=>⟨q13,λuI avH=>avH⟩) λ_=>⟨q13,hany⟩
theorem ahE:OK GX.e:=by
 refine PA.ok mixed (ax [sN.e,Af.e,qE.e] ⟨Ig,Rk,Et,trivial⟩) ajx (by kernel_rfl) (show∀l0 l1 l2 l3 l4 u id,GX.goal (ahF l0 l1 l2 l3 l4 u id) ((l0,l1,l2,l3,l4,()),u,id,())from ?_);intro a l nx d r u id hin hp;dsimp only[GX]at hp ⊢;refine⟨hp.1,af (λh1=>⟨trivial,af (λh2=>⟨hp,?_⟩) λh2=>?_⟩) λh1=>?_⟩
 all_goals refine congrArg (λb:Bool=>((aj (a,l,nx,()) id).1,b,())) ?_
 all_goals show _=(((aj (a,l,nx,()) id).2&&nG (aj (a,l,nx,()) id).1 u)&&dX (a,l,nx,d,r,()))
 .rw[h1,show nG (aj (a,l,nx,()) id).1 u=true from h2];rfl
 .rw[h1,show nG (aj (a,l,nx,()) id).1 u=false from h2];rfl
 .rw[h1];rfl
end Go.Proofs.Tryz
namespace Go.Proofs.Tryz
open Go Go.Fw Go.IntWalk Sp
theorem arM{c:dR}(h:apl c)(id:Int):(aj (aW c) id).1.2.2.2.2.1.length<=400:=by
 rcases lI c.2.1 id with⟨e,_⟩|⟨n,hn,e,_,_⟩
 .have e':aj (aW c) id=(VN,false):=by show(bif decide (Sp.place c.2.1 id<0)then _ else _)=_;rw[e];rfl
  rw[e'];exact axp _
 .have e':aj (aW c) id=(Sp.fileAt c.2.1 n,true):=by show(bif decide (Sp.place c.2.1 id<0)then _ else(Sp.fileAt c.2.1 (Sp.place c.2.1 id).toNat,true))=_;rw[e,aw1 (by omega)];rfl
  rw[e'];exact h _ (getD_mem hn)
theorem ND{c c':dR}{g:aF}{df:List Hq}{b ok:Bool}(hb:b=true)(h:Sp.updated c g c' df ok):Sp.changed c g b c' ok:=by obtain⟨h1,h2,h3⟩:=apm h;exact⟨by rw[hb];exact h1,λhok=>⟨(h2 hok).1,(h2 hok).2.1,(h2 hok).2.2.1⟩,λhok=>(h3 hok).1⟩
theorem anv{c z:dR}{g:aF}{b:Bool}(hb:(b&&(dX c&&(aQ (aW c) g).2))=false)(e:z=c):Sp.changed c g b z false:=⟨hb.symm,λh=>(by cases h),λ_=>e⟩
theorem anw(c:dR)(g:aF)(b:Bool):∃c',Sp.changed c g b c' (b&&(dX c&&(aQ (aW c) g).2)):=by
 obtain⟨c',df,h⟩:=UF c g;cases b with
 |true=>exact⟨c',ND rfl h⟩
 |false=>exact⟨c,anv rfl rfl⟩
theorem amG{T:Prop}{b:Bool}(h:b=true)(ht:T):bif b then T else((false,()):Bool×Unit)=(true,()):=by rw[h];exact ht
end Go.Proofs.Tryz
namespace Go.Proofs.Tryz
open Go Go.Fw Go.IntWalk Sp
theorem made{c z:dR}{u:Int}{x:zB}{s:bP}{d:List aV}{b ok:Bool}{df:List Hq}(hu:Oh u=true)(hc:dX c=true)(h1:aof c x=s)(h2:aqK c x=d)(h3:asw c u x=b)(h:Sp.became c s d b z df ok):Sp.applied c u x z df ok:=by unfold Sp.applied atJ;rw[h1,h2,h3,hu,hc];exact h
theorem as3{c:dR}(h:dX c=true)(hd:aI (cZ c)):kJ c:=by obtain⟨k1,k2,_⟩:=Lm h;exact⟨ako h hd,amE k2,aw2 (qf k1).2 (by decide)⟩
end Go.Proofs.Tryz
namespace Go.Proofs.Tryz
open Go Go.Fw Go.IntWalk Sp
theorem LC:OK rM.e:=by
 refine PA.ok mixed (ax [qx.e,mW.e,GN.e] ⟨En,vG,ahv,trivial⟩) Zt (by kernel_rfl) (show∀s0 s1 s2 u,rM.goal (XU s0 s1 s2 u) ((s0,s1,s2,()),u,())from ?_);intro s0 s1 s2 u hin hp;dsimp only[rM]at hp ⊢;obtain⟨h0,h1,h2⟩:s0.length<=1000/\s1.length<=1000/\∀f∈s1,bY f:=hp;refine⟨by rw[bM];omega,?_⟩;refine bZ (λi(x:List aF)=>((i,()),((),(),s2,()),x,())) (λy=>y.1.1) (λ_ _=>rfl) s1.length (by omega) (λn l=>l=(s1.take n).filter (iR · u)) (by simp) (λI μ n l hn hJ next=>?_) λI μ l hJ=>?_
 .subst hJ;have hl:=Tj s1 (iR · u) n;dsimp only;refine bU (by omega) ⟨⟨by omega,by omega⟩,trivial,af (λh=>⟨⟨by omega,by omega⟩,h2 _ (getD_mem (d:=((0:Int),(0:Int),false,(0:Int),[],())) hn),by rw[bM];simp only[awU,awY];omega,rfl,next _ ?_⟩) λh=>⟨rfl,next _ ?_⟩⟩
  .rw[Ny _ hn,if_pos (show iR (Sp.fileAt s1 n) u=true from h)];rfl
  .rw[Ny _ hn,if_neg (show ¬iR (Sp.fileAt s1 n) u=true fromλh'=>by have h:iR (Sp.fileAt s1 n) u=false:=h;rw[h]at h';cases h'),axK]
 .rw[aw9]at hJ;subst hJ;dsimp only;have hl:=axh (iR · u) s1;refine bV (by omega) ?_;generalize hfs:List.filter (λx=>iR x u) s1=fs at hl ⊢;refine bZ (λi(x:List aF)=>((i,()),x,())) (λy=>y.1.1) (λ_ _=>rfl) fs.length (by omega) (λn l=>l=jH fs n) (by simp[jH]) (λI μ n l hn hJ next=>?_) λI μ l hJ=>?_
  .subst hJ;have hu:=Gh fs (show n<=fs.length by omega);have ha:=Ul fs hn;dsimp only;simp only[awX,ha,hu];refine bU (by omega) ⟨⟨by omega,by omega⟩,hn,trivial,af (λh=>⟨⟨by omega,by omega⟩,hn,trivial,next _ ?_⟩) λh=>⟨rfl,next _ ?_⟩⟩
   .exact((Jk fs hn).1 (gI h)).symm
   .exact((Jk fs hn).2 (gY h)).symm
  .subst hJ;have hu:=Gh fs (aw7 fs.length);dsimp only;refine bV (by omega) ?_;show _=(Sp.visible (s0,s1,s2,()) u,());unfold Sp.visible;rw[aaG,← hfs]
theorem LD:OK rO.e:=by
 refine PA.ok mixed (ax [zn.e,nM.e,GR.e,lS.e] ⟨MZ,yu,ahx,EM,trivial⟩) Zu (by kernel_rfl) (show∀s0 s1 s2 user,rO.goal (XV s0 s1 s2 user) ((s0,s1,s2,()),user,())from ?_);intro s0 s1 s2 u hin hp;dsimp only[rO]at hp ⊢;obtain⟨h0,h1,h2⟩:s0.length<=1000/\s1.length<=1000/\∀f∈s1,bY f:=hp;refine⟨h0,?_⟩;refine bZ (λi(x:List aF)=>((i,()),(s0,(),s2,()),x,())) (λy=>y.1.1) (λ_ _=>rfl) s1.length (by omega) (λn l=>l=(s1.take n).filter (iR · u)) (by simp) (λI μ n l hn hJ next=>?_) λI μ l hJ=>?_
 .subst hJ;have hl:=Tj s1 (iR · u) n;dsimp only;refine bU (by omega) ⟨⟨by omega,by omega⟩,trivial,af (λh=>⟨h2 _ (getD_mem (d:=((0:Int),(0:Int),false,(0:Int),[],())) hn),by rw[bM];simp only[awU,awY];omega,rfl,next _ ?_⟩) λh=>⟨rfl,next _ ?_⟩⟩
  .rw[Ny _ hn,if_pos (show iR (Sp.fileAt s1 n) u=true from h)];rfl
  .rw[Ny _ hn,if_neg (show ¬iR (Sp.fileAt s1 n) u=true fromλh'=>by have h:iR (Sp.fileAt s1 n) u=false:=h;rw[h]at h';cases h'),axK]
 .rw[aw9]at hJ;subst hJ;dsimp only;have hl:=axh (iR · u) s1;refine bV (by omega) ?_;generalize hfs:List.filter (λx=>iR x u) s1=fs at hl ⊢;refine bZ (λi(x:List aF)=>((i,()),x,())) (λy=>y.1.1) (λ_ _=>rfl) fs.length (by omega) (λn l=>l=jH fs n) (by simp[jH]) (λI μ n l hn hJ next=>?_) λI μ l hJ=>?_
  .subst hJ;have hu:=Gh fs (show n<=fs.length by omega);have ha:=Ul fs hn;dsimp only;simp only[awX,ha,hu];refine bU (by omega) ⟨⟨by omega,by omega⟩,hn,trivial,af (λh=>⟨⟨by omega,by omega⟩,hn,trivial,next _ ?_⟩) λh=>⟨rfl,next _ ?_⟩⟩
   .exact((Jk fs hn).1 (gI h)).symm
   .exact((Jk fs hn).2 (gY h)).symm
  .subst hJ;have hu:=Gh fs (aw7 fs.length);dsimp only;refine bV (by omega) ?_;show _=(Sp.visible (s0,s1,s2,()) u,());unfold Sp.visible;rw[aaG,← hfs]
theorem OC:OK qg.e:=by
 refine XA.ok mixed (ax [] trivial) PK (λ⟨s,i,j,_⟩ _=>⟨((s.take i.toNat++s.drop j.toNat,()),()),rfl⟩) (by kernel_rfl) (show∀s i j,qg.goal (OD s i j) (s,i,j,())from ?_);intro s i j hin hp;dsimp only[qg]at hp ⊢;obtain⟨h0,h1,h2⟩:0<=i/\i<=j/\j<=(s.length:Int):=hp;obtain⟨a,rfl⟩:∃a:Nat,i=a:=⟨i.toNat,by omega⟩;obtain⟨b,rfl⟩:∃b:Nat,j=b:=⟨j.toNat,by omega⟩;refine⟨⟨h0,h1,h2,axv _⟩,af (λh=>?_) λh=>?_⟩
 .have h:(a:Int)=b:=by simpa using h
  have:a=b:=by omega
  subst this;show s=s.take a++s.drop a;rw[ayh]
 .have h:¬(a:Int)=b:=by simpa using h
  have hb:b<=s.length:=by omega
  have hab:a<b:=by omega
  simp only[awX,Nat.sub_zero,axn];have hn:(List.take (s.length-b) (List.drop b s)).length=s.length-b:=by rw[awT,axt];omega
  have hd:List.take (s.length-b) (List.drop b s)=List.drop b s:=axZ (by rw[axt];omega);have l1:(dF s a (List.take (s.length-b) (List.drop b s))).length=s.length:=Xi (by rw[hn];omega);have l2:(dF (dF s a (List.take (s.length-b) (List.drop b s))) (a+(s.length-b)) (List.replicate (s.length-(a+(s.length-b))) (([]:List UInt8),(0:Int),(0:Int),([]:List UInt8),()))).length=s.length:=by rw[Xi (by rw[l1,ayZ];omega),l1]
  rw[l1,l2];refine⟨by omega,⟨by omega,by omega⟩,⟨by omega,by omega⟩,⟨by omega,by omega⟩,⟨by omega,by omega,by omega⟩,by omega,⟨by omega,by omega⟩,?_⟩;show List.take (a+(s.length-b)) (dF _ _ _)=s.take a++s.drop b;rw[aaN (aw7 _) (by rw[l1];omega),arG (by rw[hn]) (by omega),hd]
theorem ahG:OK GY.e:=by
 refine PA.ok mixed (ax [CQ.e,FY.e] ⟨TM,YJ,trivial⟩) H0 (by kernel_rfl) (show∀d name,GY.goal (ahH d name) (d,name,())from ?_);intro d name hin hp;dsimp only[GY]at hp ⊢;have hp:aI d:=hp;refine⟨trivial,?_⟩;have e:iI d name=bif decide (aP d name<0)then(([],[],()),false)else(dN d (aP d name).toNat,true):=rfl
 rw[e];rcases sU d name with⟨h,_⟩|⟨n,hn,h,_,_⟩
 .rw[h];exact bV (by decide) rfl
 .rw[h];refine bU (by omega) ⟨⟨by omega,by omega⟩,hp.2 _ (getD_mem hn),?_⟩;rw[aw1 (by omega)];rfl
theorem ahI:OK GZ.e:=by
 refine PA.ok mixed (ax [zM.e] ⟨Rl,trivial⟩) ajy (by kernel_rfl) (show∀d name,GZ.goal (ahJ d name) (d,name,())from ?_);intro d name hin hp;dsimp only[GZ]at hp ⊢;have hp:aI d:=hp;refine⟨trivial,?_⟩;have e:iI d name=bif decide (aP d name<0)then(([],[],()),false)else(dN d (aP d name).toNat,true):=rfl
 rw[e];rcases sU d name with⟨h,_⟩|⟨n,hn,h,_,_⟩
 .rw[h];exact bU (by decide) rfl
 .rw[h];have h1:=hp.2 _ (getD_mem (d:=([],[],())) hn);refine bV (by omega) ⟨⟨by omega,by omega⟩,⟨by omega,by omega⟩,?_,?_⟩
  .rw[bM,awX,axn];omega
  .rw[aw1 (by omega)];rfl
theorem HY:OK oD.e:=by
 refine XA.ok mixed (ax [zW.e,rO.e,vK.e,oh.e] ⟨QU,LD,Hl,Ep,trivial⟩) H0 (λ⟨s,d,u,_⟩ _=>⟨((uh (Sp.visible s u).2.1 d,true,()),()),λ_=>⟨rfl,rfl⟩⟩) (by kernel_rfl) (show∀s0 s1 s2 d user,oD.goal (RX s0 s1 s2 d user) ((s0,s1,s2,()),d,user,())from ?_);intro s0 s1 s2 d u hin hp;dsimp only[oD]at hp ⊢;obtain⟨hs,hd⟩:bn (s0,s1,s2,())/\aI d:=hp;refine⟨trivial,af (λh=>λhf=>?_) λh=>⟨trivial,af (λh2=>λhf=>?_) λh2=>⟨hs,⟨EW u hs,hd⟩,λr hr hf=>?_⟩⟩⟩
 .have h:=dY h;rw[show aC (s0,s1,s2,())=true from hf.1]at h;cases h
 .have h2:Oh u=false:=dY h2;rw[hf.2.2]at h2;cases h2
 .have hk:r.1.2.1=true:=by rw[hr.1];show(aB d&&aC (Sp.visible (s0,s1,s2,()) u))=true;rw[hf.2.1,PL u hf.1];rfl
  exact⟨(akp (Hr hf.2.1) (hr.2 hk)).symm,hk⟩
theorem H6:OK oG.e:=by
 refine XA.ok mixed (ax [uU.e,rM.e,jB.e,jc.e] ⟨Jz,LC,ni,jJ,trivial⟩) H0 (λ⟨s,d,u,_⟩ _=>⟨((uh (Sp.visible s u).2.1 d,true,()),()),λ_=>⟨rfl,rfl⟩⟩) (by kernel_rfl) (show∀s0 s1 s2 d u,oG.goal (RY s0 s1 s2 d u) ((s0,s1,s2,()),d,u,())from ?_);intro s0 s1 s2 d u hin hp;dsimp only[oG]at hp ⊢;obtain⟨hs,hd⟩:bn (s0,s1,s2,())/\aI d:=hp;refine⟨trivial,af (λh=>λhf=>?_) λh=>⟨trivial,af (λh2=>λhf=>?_) λh2=>⟨hs,⟨EW u hs,hd⟩,λr hr hf=>?_⟩⟩⟩
 .have h:Oh u=false:=dY h;rw[hf.2.2]at h;cases h
 .have h2:=dY h2;rw[show aC (s0,s1,s2,())=true from hf.1]at h2;cases h2
 .have hk:r.1.2.1=true:=by rw[hr.1];show(aB d&&aC (Sp.visible (s0,s1,s2,()) u))=true;rw[hf.2.1,PL u hf.1];rfl
  exact⟨(akp (Hr hf.2.1) (hr.2 hk)).symm,hk⟩
theorem PN{s:bP}{d:List aV}{u:Int}(hs:bn s)(hd:aI d)(hf:jI s d u):aU (uh (Sp.visible s u).2.1 d):=
 IQ (akq (PL u hf.1) hf.2.1) hd.1 (EW u hs).2.1 Lj
theorem ahK:OK G5.e:=by refine PA.ok mixed (ax [lZ.e,oD.e] ⟨BV,HY,trivial⟩) H0 (by kernel_rfl) (show∀s0 s1 s2 d user name,G5.goal (ahL s0 s1 s2 d user name) ((s0,s1,s2,()),d,user,name,())from ?_);intro s0 s1 s2 d u name hin hp;dsimp only[G5]at hp ⊢;obtain⟨hs,hd,hf⟩:bn (s0,s1,s2,())/\aI d/\jI (s0,s1,s2,()) d u:=hp;refine⟨⟨hs,hd⟩,λr hr=>?_⟩;dsimp only;rw[(hr hf).1];exact⟨PN hs hd hf,rfl⟩
theorem ahM:OK G6.e:=by refine PA.ok mixed (ax [l7.e,oG.e] ⟨BZ,H6,trivial⟩) H0 (by kernel_rfl) (show∀s0 s1 s2 d u name,G6.goal (ahN s0 s1 s2 d u name) ((s0,s1,s2,()),d,u,name,())from ?_);intro s0 s1 s2 d u name hin hp;dsimp only[G6]at hp ⊢;obtain⟨hs,hd,hf⟩:bn (s0,s1,s2,())/\aI d/\jI (s0,s1,s2,()) d u:=hp;refine⟨⟨hs,hd⟩,λr hr=>?_⟩;dsimp only;rw[(hr hf).1];exact⟨PN hs hd hf,rfl⟩
theorem afs:OK FP.e:=by refine PA.ok mixed (ax [qR.e,G5.e] ⟨N7,ahK,trivial⟩) H0 (by kernel_rfl) (show∀s0 s1 s2 d user name id,FP.goal (aft s0 s1 s2 d user name id) ((s0,s1,s2,()),d,user,name,id,())from ?_);intro s0 s1 s2 d u name id hin hp;dsimp only[FP]at hp ⊢;exact⟨hp,trivial,rfl⟩
theorem Rn:OK Ag.e:=by refine PA.ok mixed (ax [nD.e,G6.e] ⟨Gj,ahM,trivial⟩) H0 (by kernel_rfl) (show∀s0 s1 s2 d u name id,Ag.goal (afu s0 s1 s2 d u name id) ((s0,s1,s2,()),d,u,name,id,())from ?_);intro s0 s1 s2 d u name id hin hp;dsimp only[Ag]at hp ⊢;exact⟨hp,trivial,rfl⟩
theorem LG:OK rP.e:=by refine PA.ok mixed (ax [] trivial) H0 (by kernel_rfl) (show∀y0 y1 y2 y3 p10 p11 p12 p13,rP.goal (XW y0 y1 y2 y3 p10 p11 p12 p13) ((y0,y1,y2,y3,()),(p10,p11,p12,p13,()),())from ?_);intro y0 y1 y2 y3 x0 x1 x2 x3 hin hp;dsimp only[rP]at hp ⊢;exact congrArg (·,()) rfl
theorem yx:OK iD.e:=by refine PA.ok mixed (ax [rP.e] ⟨LG,trivial⟩) yX (by kernel_rfl) (show∀s jE apq apr aps,iD.goal (yA s jE apq apr aps) (s,((jE,apq,apr,aps,()),()),())from ?_);intro l n0 n1 n2 n3 hin hp;dsimp only[iD]at hp ⊢;exact QX (K:=λr=>r=(Sp.findAt (λx:aS=>!Op.bytesLess x.1 n0) l,())) (λx:aS=>!Op.bytesLess x.1 n0) ([],0,0,[],()) l _ hin.1.1 rfl
theorem amH{l:List aS}{x:aS}{k:Nat}(hk:k<=l.length)(h1:∀i,i<k->Op.bytesLess (l.getD i ([],0,0,[],())).1 x.1=true)(h2:k<l.length->Op.bytesLess (l.getD k ([],0,0,[],())).1 x.1=false):l.take k++x::l.drop k=JA l x:=by have hl:=abD (wz x.1) ([],0,0,[],()) l k hk (λi hi=>h1 i hi) λh=>h2 h;unfold JA;rw[apn (wz x.1) l,apo,hl]
theorem ahO{a l r:List aS}{x:aS}(h:DC a x=true):jZ a l (x::r)=none:=by rw[jZ,h];rfl
theorem ahP{a l r:List aS}{x:aS}(h:DC a x=false)(hk:uJ a x=true):jZ a l (x::r)=jZ a l r:=by rw[jZ,h,hk];rfl
theorem akr{a l r:List aS}{x:aS}(h:DC a x=false)(hk:uJ a x=false):jZ a l (x::r)=jZ a (JA l x) r:=by rw[jZ,h,hk];rfl
theorem atK{α:Type}(p:α->Bool)(d:α){l:List α}{n:Nat}(h:n<l.length)(hp:p (l.getD n d)=true):l.any p=true:=axQ.2 ⟨_,getD_mem h,hp⟩
theorem aog(x y:aS):(x.2.1==y.2.1&&(x.2.2.1==y.2.2.1&&(x.2.2.2.1==y.2.2.2.1&&true)))=decide (x.2=y.2):=by obtain⟨a,b,c,d,⟨⟩⟩:=x;obtain⟨a',b',c',d',⟨⟩⟩:=y;rw[axf];simp
abbrev ahQ(x y:aS):Bool:=y.1==x.1&&!decide (y.2=x.2)
end Go.Proofs.Tryz
namespace Go.Proofs.Tryz
open Go Go.Fw Go.IntWalk Sp
theorem ahR{Y:Type}(mk:Int->Bool->Y)(idx:Y->Int)(hidx:∀i s,idx (mk i s)=i){B:(Y->Prop)->(Y->Nat)->Y->Prop}(a:List aS)(x:aS)(hlen:a.length<=1000)
 (hstep:∀I μ(n:Nat),n<a.length->DC (a.take n) x=false->
   (ahQ x (a.getD n ([],0,0,[],()))=false->I (mk (IntKind.i64.wrap ((n:Int)+1)) (uJ (a.take n) x||((a.getD n ([],0,0,[],())).1==x.1)))/\μ (mk (IntKind.i64.wrap ((n:Int)+1)) (uJ (a.take n) x||((a.getD n ([],0,0,[],())).1==x.1)))<μ (mk n (uJ (a.take n) x)))->B I μ (mk n (uJ (a.take n) x)))
 (hend:DC a x=false->∀I μ,B I μ (mk a.length (uJ a x))):∃I,∃μ,I (mk 0 false)/\∀y,I y->B I μ y:=by
 refine bZ mk idx hidx a.length (by omega) (λn k=>k=uJ (a.take n) x/\DC (a.take n) x=false) ⟨rfl,rfl⟩ (λI μ n k hn hJ next=>?_) λI μ k hJ=>?_
 .obtain⟨rfl,hc⟩:=hJ;refine hstep I μ n hn hc λh=>next _ ⟨?_,?_⟩
  .unfold uJ;rw[afo _ ([],0,0,[],()) a hn]
  .unfold DC at hc ⊢;rw[afo _ ([],0,0,[],()) a hn,hc,ayp];exact h
 .obtain⟨rfl,hc⟩:=hJ;rw[aw9]at hc ⊢;exact hend hc I μ
theorem amI{a:List aS}{x:aS}{n:Nat}(hn:n<a.length)(h:ahQ x (a.getD n ([],0,0,[],()))=true):DC a x=true:=atK _ _ hn h
theorem adW{a b:wX}(ha:a.1=true)(hb:b.1=true):pK a b=acr (jZ a.2.1 a.2.1 b.2.1):=by unfold pK;rw[ha,hb];rfl
theorem abH:OK vW.e:=by
 refine XA.ok mixed (ax [(qi,.eff (oH lq) ug),iD.e,rP.e,jd.e] ⟨⟨EL,DU⟩,yx,LG,qP,trivial⟩) adl (λ⟨a,b,_⟩ _=>⟨((((pK a b).1,(pK a b).2.1,()),()),()),rfl⟩) (by kernel_rfl) (show∀a0 a1 b0 b1,vW.goal (abI a0 a1 b0 b1) ((a0,a1,()),(b0,b1,()),())from ?_);intro a0 a1 b0 b1 hin hp;dsimp only[vW]at hp ⊢;have hp:a1.length+b1.length<=900:=hp;refine⟨λ_=>a0=true/\b0=true,af (λh=>?_) λh=>af (λh2=>?_) λh2=>⟨rfl,dw h,dw h2⟩,?_⟩
 .have h:=dY h;subst h;rfl
 .have h2:=dY h2;have h:=dw h;subst h2 h;rfl
 .rintro _ ⟨rfl,rfl⟩;refine⟨by omega,?_⟩;rintro⟨⟨r2,⟨⟩⟩,⟨⟩⟩ e;have e:r2=a1:=e;subst e;have eE:pK (true,r2,()) (true,b1,())=acr (jZ r2 r2 b1):=adW rfl rfl;dsimp only;refine bZ (λi(l:List aS)=>((i,()),(true,(),()),l,())) (λy=>y.1.1) (λ_ _=>rfl) b1.length (by omega) (λn l=>jZ r2 r2 b1=jZ r2 l (b1.drop n)/\l.length<=r2.length+n) ⟨by rw[ax3],by omega⟩ (λI μ n l hn hJ next=>?_) λI μ l hJ=>?_
  .obtain⟨hm,hl⟩:=hJ;have hd:=drop_cons b1 n ([],0,0,[],()) hn;dsimp only;rw[awX];generalize hx:b1.getD n ([],0,0,[],())=x at hd ⊢;rw[hd]at hm;refine bU (by omega) ⟨⟨by omega,by omega⟩,?_⟩;refine ahR (λi k=>((k,i,()),())) (λy=>y.1.2.1) (λ_ _=>rfl) r2 x (by omega) (λI1 μ1 m hmn hc nx=>?_) λhc I1 μ1=>?_
   .dsimp only;rw[awX];refine bU (by omega) ⟨⟨by omega,by omega⟩,?_⟩;rw[aog];generalize hy:r2.getD m ([],0,0,[],())=y at nx ⊢;refine af (λhs=>af (λh=>?_) λh=>?_) λhs=>?_
    .have h:ahQ x y=true:=by show(y.1==x.1&&_)=true;rw[hs];exact h
     have hcl:DC r2 x=true:=amI hmn (by rw[hy];exact h);show(false,[],())=_;rw[eE,hm,ahO hcl];rfl
    .have nx:=nx (by show(y.1==x.1&&_)=false;rw[hs];exact h);refine af (λhk=>?_) λhk=>?_
     .rw[hk,azU]at nx;rw[hk];exact⟨rfl,nx⟩
     .rw[hk,ayp]at nx;rw[hk];exact⟨rfl,nx⟩
    .have nx:=nx (by show(y.1==x.1&&_)=false;rw[hs];rfl);refine af (λhk=>?_) λhk=>?_
     .rw[hk,azU]at nx;rw[hk];exact⟨rfl,nx⟩
     .rw[hk,ayp]at nx;rw[hk];exact⟨rfl,nx⟩
   .dsimp only;refine bV (by omega) (af (λhk=>⟨rfl,next _ ⟨?_,?_⟩⟩) λhk=>⟨trivial,?_⟩)
    .rw[hm,ahP hc hk]
    .omega
    .rw[akr hc hk]at hm;have fin:∀l',l'=JA l x->jZ r2 r2 b1=jZ r2 l' (b1.drop (n+1))/\l'.length<=r2.length+(n+1):=λl' e=>by rw[e,afv];exact⟨hm,by omega⟩
     rcases Lu (λy:aS=>!Op.bytesLess y.1 x.1) ([],0,0,[],()) l with⟨g,hg⟩|⟨k,hk2,g,gk,hlt⟩
     .rw[g];refine bU (by decide) ⟨⟨by omega,by omega,by omega,rfl⟩,λr8 hr8=>⟨rfl,next _ (fin _ ?_)⟩⟩;rw[awX]at hr8;exact hr8.trans (amH (aw7 _) (λi hi=>by have:=hg i hi;simpa using this) λh=>(by omega))
     .rw[g];refine bV (by omega) ⟨⟨by omega,by omega,by omega,rfl⟩,λr9 hr9=>⟨rfl,next _ (fin _ ?_)⟩⟩;rw[awX]at hr9;exact hr9.trans (amH (by omega) (λi hi=>by have:=hlt i hi;simpa using this) λ_=>by simpa using gk)
  .obtain⟨hm,hl⟩:=hJ;dsimp only;refine bV (by omega) ?_;show(true,l,())=_;rw[eE,hm,azT];rfl
end Go.Proofs.Tryz
namespace Go.Proofs.Tryz
open Go Go.Fw Go.IntWalk Sp
theorem abJ:OK vX.e:=by
 refine PA.ok mixed (ax [] trivial) adn (by kernel_rfl) (show∀a0 a1 b0 b1,vX.goal (abK a0 a1 b0 b1) ((a0,a1,()),(b0,b1,()),())from ?_);intro a0 a1 b0 b1 hin hp;dsimp only[vX]at hp ⊢;have hp:a1.length+b1.length<=900:=hp;refine⟨λ_=>a0=true/\b0=true,af (λh=>?_) λh=>af (λh2=>?_) λh2=>⟨rfl,dw h,dw h2⟩,?_⟩
 .have h:=dY h;subst h;rfl
 .have h2:=dY h2;have h:=dw h;subst h2 h;rfl
 .rintro _ ⟨rfl,rfl⟩;refine⟨by rw[bM];omega,by rw[bM];omega,?_⟩;have eE:pK (true,a1,()) (true,b1,())=acr (jZ a1 a1 b1):=adW rfl rfl;dsimp only;refine bZ (λi(l:List aS)=>(((),i,()),l,())) (λy=>y.1.2.1) (λ_ _=>rfl) b1.length (by omega) (λn l=>jZ a1 a1 b1=jZ a1 l (b1.drop n)/\l.length<=a1.length+n) ⟨by rw[ax3],by omega⟩ (λI μ n l hn hJ next=>?_) λI μ l hJ=>?_
  .obtain⟨hm,hl⟩:=hJ;have hd:=drop_cons b1 n ([],0,0,[],()) hn;dsimp only;rw[awX];generalize hx:b1.getD n ([],0,0,[],())=x at hd ⊢;rw[hd]at hm;refine bU (by omega) ⟨⟨by omega,by omega⟩,?_⟩;refine ahR (λi k=>((k,i,()),())) (λy=>y.1.2.1) (λ_ _=>rfl) a1 x (by omega) (λI1 μ1 m hmn hc nx=>?_) λhc I1 μ1=>?_
   .dsimp only;rw[awX];refine bU (by omega) ⟨⟨by omega,by omega⟩,hmn,?_⟩;rw[aog];generalize hy:a1.getD m ([],0,0,[],())=y at nx ⊢;refine af (λhs=>⟨⟨by omega,by omega⟩,hmn,af (λh=>?_) λh=>?_⟩) λhs=>?_
    .have h:ahQ x y=true:=by show(y.1==x.1&&_)=true;rw[hs];exact h
     have hcl:DC a1 x=true:=amI hmn (by rw[hy];exact h);refine congrArg (·,()) (show(false,[],())=pK (true,a1,()) (true,b1,())from ?_);rw[eE,hm,ahO hcl];rfl
    .have nx:=nx (by show(y.1==x.1&&_)=false;rw[hs];exact h);refine af (λhk=>?_) λhk=>?_
     .rw[hk,azU]at nx;rw[hk];exact⟨rfl,nx⟩
     .rw[hk,ayp]at nx;rw[hk];exact⟨⟨by omega,by omega⟩,hmn,rfl,nx⟩
    .have nx:=nx (by show(y.1==x.1&&_)=false;rw[hs];rfl);refine af (λhk=>?_) λhk=>?_
     .rw[hk,azU]at nx;rw[hk];exact⟨rfl,nx⟩
     .rw[hk,ayp]at nx;rw[hk];exact⟨⟨by omega,by omega⟩,hmn,rfl,nx⟩
   .dsimp only;refine bV (by omega) (af (λhk=>⟨rfl,next _ ⟨?_,?_⟩⟩) λhk=>?_)
    .rw[hm,ahP hc hk]
    .omega
    .rw[akr hc hk]at hm;have fin:∀l',l'=JA l x->jZ a1 a1 b1=jZ a1 l' (b1.drop (n+1))/\l'.length<=a1.length+(n+1):=λl' e=>by rw[e,afv];exact⟨hm,by omega⟩
     have fin2:∀k:Nat,k<=l.length->(∀i,i<k->Op.bytesLess (l.getD i ([],0,0,[],())).1 x.1=true)->(k<l.length->Op.bytesLess (l.getD k ([],0,0,[],())).1 x.1=false)->
      List.drop 0 (List.take k l)++[x]++List.drop k (List.take l.length l)=JA l x:=λk hk h1 h2=>by
      rw[ax3,aw9,axA];exact amH hk h1 h2
     have atL:∀k:Nat,k<=l.length->(0+(List.drop 0 (List.take k l)).length<=big)/\((List.drop 0 (List.take k l)).length+[x].length<=big)/\((List.drop 0 (List.take k l)++[x]).length+(List.drop k (List.take l.length l)).length<=big):=λk hk=>by rw[bM,ax3,aw9,awW,awT,axt];simp only[awU,awY];omega
     refine bZ (s0:=()) (λi(_:Unit)=>((i,()),())) (λy=>y.1.1) (λ_ _=>rfl) l.length (by omega) (λk _=>∀i,i<k->Op.bytesLess (l.getD i ([],0,0,[],())).1 x.1=true) (λi hi=>(by omega)) (λI2 μ2 k _ hkn hJ nx=>?_) λI2 μ2 _ hJ=>?_
     .dsimp only;rw[awX];obtain⟨f1,f2,f3⟩:=atL k (by omega);refine bU (by omega) ⟨⟨by omega,by omega⟩,hkn,af (λh=>⟨rfl,nx () λi hi=>?_⟩) λh=>⟨⟨by omega,by omega⟩,f1,f2,⟨by omega,by omega⟩,f3,rfl,next _ (fin _ (fin2 k (by omega) hJ λ_=>h))⟩⟩;rcases aw8 i k with h1|h1
      .exact hJ i h1
      .rw[show i=k by omega];exact h
     .dsimp only;rw[awX];obtain⟨f1,f2,f3⟩:=atL l.length (aw7 _);exact bV (by omega) ⟨⟨by omega,by omega⟩,f1,f2,⟨by omega,by omega⟩,f3,rfl,next _ (fin _ (fin2 l.length (aw7 _) hJ λh=>(by omega)))⟩
  .obtain⟨hm,hl⟩:=hJ;dsimp only;refine bV (by omega) ?_;refine congrArg (·,()) (show(true,l,())=pK (true,a1,()) (true,b1,())from ?_);rw[eE,hm,azT];rfl
theorem ajz:OK EG.e:=by
 refine PA.ok mixed (ax [] trivial) H0 (by kernel_rfl) (show∀a0 a1 b0 b1,EG.goal (ajA a0 a1 b0 b1) ((a0,a1,()),(b0,b1,()),())from ?_);intro a0 a1 b0 b1 hin hp;dsimp only[EG]at hp ⊢;have e:Js (a0,a1,()) (b0,b1,())=bif a0==b0 then IU else bif a0 then(a0,a1,())else(b0,b1,()):=rfl
 rw[e];refine af (λh=>?_) λh=>af (λh2=>?_) λh2=>?_
 .rw[h];rfl
 .rw[h,h2];rfl
 .rw[h,h2];rfl
theorem aks{q:List bI}{f:aF}{X:BX}{a:Nat}{m:Bool}(h:Sp.val q f X a=m):dH q f X a m=(true,[],()):=by rw[dH,if_pos h]
theorem amJ{q:List bI}{f:aF}{X:BX}{a:Nat}{m:Bool}(h:Sp.val q f X a≠m)(h5:(Sp.nodeAt q a).1=5)(hl:(Sp.nodeAt q a).2.1.toNat<a):dH q f X a m=dH q f X (Sp.nodeAt q a).2.1.toNat (!m):=by rw[dH,if_neg h,if_pos h5,dif_pos hl]
theorem amK{q:List bI}{f:aF}{X:BX}{a:Nat}{m:Bool}(h:Sp.val q f X a≠m)(h5:(Sp.nodeAt q a).1≠5)(h2:gZ (Sp.nodeAt q a)=true)(hl:(Sp.nodeAt q a).2.1.toNat<a)(hr:(Sp.nodeAt q a).2.2.1.toNat<a):
 dH q f X a m=bif ((Sp.nodeAt q a).1==6)==m then pK (dH q f X (Sp.nodeAt q a).2.1.toNat m) (dH q f X (Sp.nodeAt q a).2.2.1.toNat m)else Js (dH q f X (Sp.nodeAt q a).2.1.toNat m) (dH q f X (Sp.nodeAt q a).2.2.1.toNat m):=by
 rw[dH,if_neg h,if_neg h5,if_pos h2,dif_pos ⟨hl,hr⟩]
theorem JZ{q:List bI}{f:aF}{X:BX}{a:Nat}{m:Bool}(h:Sp.val q f X a≠m)(h5:(Sp.nodeAt q a).1≠5)(h2:gZ (Sp.nodeAt q a)=false):
 dH q f X a m=if(Sp.nodeAt q a).1=3/\m=true then(true,[((Sp.nodeAt q a).2.2.2.1,(Sp.nodeAt q a).2.2.2.2.1,(Sp.nodeAt q a).2.2.2.2.2.1,(Sp.nodeAt q a).2.2.2.2.2.2.1,())],())
  else if(Sp.nodeAt q a).1=2/\m=false then(true,[((Sp.nodeAt q a).2.2.2.1,0,0,[],())],())else IU:=by
 rw[dH,if_neg h,if_neg h5,if_neg (by rw[h2];decide)]
theorem PO{q:List bI}{f:aF}{X:BX}{a l:Nat}{m:Bool}(hq:aZ q=true)(ha:a<q.length)(hl:l<a):(dH q f X l m).2.1.length<=400:=by have h1:=(Sp.xu hq).2;have h2:=ahS q f X l m;have h3:=ayv (n:=2) (by decide) (show l<=7 by omega);omega
end Go.Proofs.Tryz
namespace Go.Proofs.Tryz
open Go Go.Fw Go.IntWalk Sp
theorem abL{n:bI}(h6:n.1≠6)(h7:n.1≠7):gZ n=false:=by unfold gZ;rw[awS.2 h6,awS.2 h7];rfl
theorem ne_of{x k j:Int}(h:x=k)(hk:k≠j):x≠j:=by rw[h];exact hk
theorem XY[kz](Zv:iP prog G Aq Ed):iP prog G Me JJ:=by
 refine XZ (ax [vW.e,(Aq,.eff (oH rQ) Ed),(xY,.pure zT)] ⟨abH,⟨Zv,W9⟩,⟨OQ,NY⟩,trivial⟩) (λ⟨q,a,f,r,m,_⟩ _=>⟨((((dH q f (aO r) a.toNat m).1,(dH q f (aO r) a.toNat m).2.1,()),()),()),rfl⟩) ?_;intro q a f0 f1 f2 f3 f4 r m hin hp;obtain⟨⟨hq,h0,h1,hr⟩,hm⟩:=hp;have ha:a.toNat<q.length:=by omega
 obtain⟨k1,k2⟩:=Lh hq ha;have kid:∀k:Int,0<=k->k.toNat<a.toNat->(aZ q=true/\0<=k/\k<(q.length:Int)/\aU r)/\k.toNat<jf:=λk h2 h3=>⟨⟨hq,h2,by omega,hr⟩,by omega⟩;refine⟨⟨h0,h1⟩,⟨hq,h0,h1,hr⟩,af (λh=>(aks (eq_of_beq h)).symm) λh=>?_⟩;have hv:Sp.val q (f0,f1,f2,f3,f4,()) (aO r) a.toNat≠m:=awS.1 h;refine af (λg=>?_) λg3=>af (λg=>?_) λg2=>af (λg=>?_) λg5=>?_
 .have g:(Sp.nodeAt q a.toNat).1=3:=awZ.1 g;have e:=JZ hv (ne_of g (by decide)) (abL (ne_of g (by decide)) (ne_of g (by decide)));refine af (λhm=>?_) λhm=>?_
  .exact(e.trans (if_pos ⟨g,hm⟩)).symm
  .exact(e.trans ((if_neg λx=>by rw[hm]at x;cases x.2).trans (if_neg λx=>ne_of g (by decide) x.1))).symm
 .have g:(Sp.nodeAt q a.toNat).1=2:=awZ.1 g;have e:=(JZ hv (ne_of g (by decide)) (abL (ne_of g (by decide)) (ne_of g (by decide)))).trans (if_neg λx=>ne_of g (by decide) x.1);refine af (λhm=>?_) λhm=>?_
  .exact(e.trans (if_pos ⟨g,dY hm⟩)).symm
  .exact(e.trans (if_neg λx=>by rw[dw hm]at x;cases x.2)).symm
 .have g:(Sp.nodeAt q a.toNat).1=5:=awZ.1 g;have hk:=k1 (.inl g);exact⟨kid _ hk.1 hk.2,λr1 e1=>e1.trans (amJ hv g hk.2).symm⟩
 .have g5:(Sp.nodeAt q a.toNat).1≠5:=awS.1 g5;refine⟨λy=>y.1.1=gZ (Sp.nodeAt q a.toNat),af (λg=>⟨rfl,?_⟩) λg=>⟨rfl,?_⟩,λy hy=>af (λhy2=>?_) λhy2=>?_⟩
  .show _=((Sp.nodeAt q a.toNat).1==6||(Sp.nodeAt q a.toNat).1==7);rw[show((Sp.nodeAt q a.toNat).1==6)=true from g];exact g
  .show _=((Sp.nodeAt q a.toNat).1==6||(Sp.nodeAt q a.toNat).1==7);rw[show((Sp.nodeAt q a.toNat).1==6)=false from g];rfl
  .have ht:gZ (Sp.nodeAt q a.toNat)=true:=hy.symm.trans hy2;have hk:=k1 (.inr ht);have hk2:=k2 ht;have e:=amK hv g5 ht hk.2 hk2.2;refine⟨kid _ hk.1 hk.2,λr4 e4=>⟨kid _ hk2.1 hk2.2,λr5 e5=>?_⟩⟩;have s4:r4.1.1.2.1.length<=400:=by rw[e4];exact PO hq ha hk.2
   have s5:r5.1.1.2.1.length<=400:=by rw[e5];exact PO hq ha hk2.2
   have e4:r4.1.1=dH q (f0,f1,f2,f3,f4,()) (aO r) (Sp.nodeAt q a.toNat).2.1.toNat m:=e4;have e5:r5.1.1=dH q (f0,f1,f2,f3,f4,()) (aO r) (Sp.nodeAt q a.toNat).2.2.1.toNat m:=e5;rw[← e4,← e5]at e;refine af (λhm6=>⟨by omega,λr6 e6=>?_⟩) λhm6=>?_
   .rw[show(((Sp.nodeAt q a.toNat).1==6)==m)=true from hm6]at e;exact e6.trans e.symm
   .rw[show(((Sp.nodeAt q a.toNat).1==6)==m)=false from hm6]at e;obtain⟨⟨⟨x1,x2,⟨⟩⟩,⟨⟩⟩,⟨⟩⟩:=r4;obtain⟨⟨⟨y1,y2,⟨⟩⟩,⟨⟩⟩,⟨⟩⟩:=r5;cases x1<;>cases y1<;>exact e.symm
  .have ht:gZ (Sp.nodeAt q a.toNat)=false:=hy.symm.trans hy2;exact((JZ hv g5 ht).trans ((if_neg λx=>awS.1 g3 x.1).trans (if_neg λx=>awS.1 g2 x.1))).symm
theorem VW:iP prog G Jj Kt:=
 aiD (λn=>@NK ⟨n⟩) (λn=>@yQ ⟨n⟩) (by rintro⟨q,at',⟨i,o,s,l,a,⟨⟩⟩,r,m,⟨⟩⟩ h;exact azh _ h.2) (by rintro _ ⟨q,at',⟨i,o,s,l,a,⟨⟩⟩,r,m,⟨⟩⟩;rfl) (by rintro⟨q,at',⟨i,o,s,l,a,⟨⟩⟩,r,m,⟨⟩⟩ h;exact⟨_,h,ay6 _⟩) (by rintro _ ⟨q,at',⟨i,o,s,l,a,⟨⟩⟩,r,m,⟨⟩⟩;rfl) λn h=>@XY ⟨n⟩ h
theorem VX[kz](X0:iP prog G yT C9):iP prog G KU Iu:=by
 refine VY (ax [EG.e,vX.e,(yT,.eff (oH qF) C9),(Dc,.pure D7)] ⟨ajz,abJ,⟨X0,Vt⟩,⟨TD,QD⟩,trivial⟩) (λ⟨q,a,f,r,m,_⟩ _=>⟨((((dH q f (aO r) a.toNat m).1,(dH q f (aO r) a.toNat m).2.1,()),()),()),rfl⟩) ?_;intro q a f0 f1 f2 f3 f4 r m hin hp;obtain⟨⟨hq,h0,h1,hr⟩,hm⟩:=hp;have ha:a.toNat<q.length:=by omega
 obtain⟨k1,k2⟩:=Lh hq ha;have kid:∀k:Int,0<=k->k.toNat<a.toNat->(aZ q=true/\0<=k/\k<(q.length:Int)/\aU r)/\k.toNat<jf:=λk h2 h3=>⟨⟨hq,h2,by omega,hr⟩,by omega⟩;refine⟨⟨h0,h1⟩,⟨hq,h0,h1,hr⟩,af (λh=>(aks (eq_of_beq h)).symm) λh=>?_⟩;have hv:Sp.val q (f0,f1,f2,f3,f4,()) (aO r) a.toNat≠m:=awS.1 h;refine af (λg=>?_) λg5=>?_
 .have g:(Sp.nodeAt q a.toNat).1=5:=awZ.1 g;have hk:=k1 (.inl g);exact⟨kid _ hk.1 hk.2,λr1 e1=>e1.trans (amJ hv g hk.2).symm⟩
 .have g5:(Sp.nodeAt q a.toNat).1≠5:=awS.1 g5;have two:∀(b:Bool),gZ (Sp.nodeAt q a.toNat)=true->(((Sp.nodeAt q a.toNat).1==6)==m)=b->((aZ q=true/\0<=(Sp.nodeAt q a.toNat).2.1/\(Sp.nodeAt q a.toNat).2.1<(q.length:Int)/\aU r)/\(Sp.nodeAt q a.toNat).2.1.toNat<jf)/\
   ((aZ q=true/\0<=(Sp.nodeAt q a.toNat).2.2.1/\(Sp.nodeAt q a.toNat).2.2.1<(q.length:Int)/\aU r)/\(Sp.nodeAt q a.toNat).2.2.1.toNat<jf)/\
   ∀x y,x=dH q (f0,f1,f2,f3,f4,()) (aO r) (Sp.nodeAt q a.toNat).2.1.toNat m->y=dH q (f0,f1,f2,f3,f4,()) (aO r) (Sp.nodeAt q a.toNat).2.2.1.toNat m->
    x.2.1.length+y.2.1.length<=900/\(bif b then pK x y else Js x y)=dH q (f0,f1,f2,f3,f4,()) (aO r) a.toNat m:=λb ht hb=>by
   have hk:=k1 (.inr ht);have hk2:=k2 ht;have e:=amK hv g5 ht hk.2 hk2.2;refine⟨kid _ hk.1 hk.2,kid _ hk2.1 hk2.2,λx y ex ey=>⟨?_,?_⟩⟩
   .have s4:=PO (f:=(f0,f1,f2,f3,f4,())) (X:=aO r) (m:=m) hq ha hk.2;have s5:=PO (f:=(f0,f1,f2,f3,f4,())) (X:=aO r) (m:=m) hq ha hk2.2;rw[ex,ey];omega
   .rw[e,hb,ex,ey]
  refine⟨λy=>y.1.1=((Sp.nodeAt q a.toNat).1==3&&m),af (λg=>⟨rfl,?_⟩) λg=>⟨rfl,?_⟩,λy hy=>af (λhy2=>?_) λhy2=>?_⟩
  .show m=_;rw[show((Sp.nodeAt q a.toNat).1==3)=true from g];rfl
  .show false=_;rw[show((Sp.nodeAt q a.toNat).1==3)=false from g];rfl
  .have hh:=hy.symm.trans hy2;rw[awP]at hh;have g:=awZ.1 hh.1;exact((JZ hv g5 (abL (ne_of g (by decide)) (ne_of g (by decide)))).trans (if_pos ⟨g,hh.2⟩)).symm
  .have n3:¬((Sp.nodeAt q a.toNat).1=3/\m=true):=λx=>by have hh:=hy.symm.trans hy2;rw[awZ.2 x.1,x.2]at hh;cases hh
   refine⟨λy=>y.1.1=((Sp.nodeAt q a.toNat).1==2&&!m),af (λg=>⟨rfl,?_⟩) λg=>⟨rfl,?_⟩,λz hz=>af (λhz2=>?_) λhz2=>?_⟩
   .show(!m)=_;rw[show((Sp.nodeAt q a.toNat).1==2)=true from g];rfl
   .show false=_;rw[show((Sp.nodeAt q a.toNat).1==2)=false from g];rfl
   .have hh:=hz.symm.trans hz2;rw[awP]at hh;have g:=awZ.1 hh.1;exact((JZ hv g5 (abL (ne_of g (by decide)) (ne_of g (by decide)))).trans ((if_neg n3).trans (if_pos ⟨g,dY hh.2⟩))).symm
   .have n2:¬((Sp.nodeAt q a.toNat).1=2/\m=false):=λx=>by have hh:=hz.symm.trans hz2;rw[awZ.2 x.1,x.2]at hh;cases hh
    refine⟨λy=>y.1.1=(gZ (Sp.nodeAt q a.toNat)&&(((Sp.nodeAt q a.toNat).1==6)==m)),?_,λw hw=>af (λhw2=>?_) λhw2=>?_⟩
    .have ei:gZ (Sp.nodeAt q a.toNat)=((Sp.nodeAt q a.toNat).1==6||(Sp.nodeAt q a.toNat).1==7):=rfl;refine af (λg=>af (λhm=>⟨rfl,?_⟩) λhm=>af (λg7=>?_) λg7=>⟨rfl,?_⟩) λg=>af (λg7=>⟨rfl,?_⟩) λg7=>⟨rfl,?_⟩
     .show true=_;rw[ei,show((Sp.nodeAt q a.toNat).1==6)=true from g,hm];rfl
     .have a6:(Sp.nodeAt q a.toNat).1=6:=awZ.1 g;have a7:(Sp.nodeAt q a.toNat).1=7:=awZ.1 g7;rw[a6]at a7;cases a7
     .show false=_;rw[ei,show((Sp.nodeAt q a.toNat).1==6)=true from g,hm];rfl
     .show(!m)=_;rw[ei,show((Sp.nodeAt q a.toNat).1==6)=false from g,show((Sp.nodeAt q a.toNat).1==7)=true from g7];cases m<;>rfl
     .show false=_;rw[ei,show((Sp.nodeAt q a.toNat).1==6)=false from g,show((Sp.nodeAt q a.toNat).1==7)=false from g7];rfl
    .have hh:=hw.symm.trans hw2;rw[awP]at hh;obtain⟨p1,p2,p3⟩:=two true hh.1 hh.2;refine⟨p1,λr8 e8=>⟨p2,λr9 e9=>?_⟩⟩;obtain⟨p4,p5⟩:=p3 _ _ e8 e9;exact⟨p4,p5⟩
    .have hh:=hw.symm.trans hw2;have nb:gZ (Sp.nodeAt q a.toNat)=true->(((Sp.nodeAt q a.toNat).1==6)==m)=false:=λht=>by rw[ht,aza]at hh;exact hh
     refine af (λg=>?_) λg6=>af (λg=>?_) λg7=>?_
     .have ht:gZ (Sp.nodeAt q a.toNat)=true:=uy.2 (.inl (awZ.1 g));obtain⟨p1,p2,p3⟩:=two false ht (nb ht);refine⟨p1,λr8 e8=>⟨p2,λr9 e9=>⟨trivial,?_⟩⟩⟩;exact(p3 _ _ e8 e9).2
     .have ht:gZ (Sp.nodeAt q a.toNat)=true:=uy.2 (.inr (awZ.1 g));obtain⟨p1,p2,p3⟩:=two false ht (nb ht);refine⟨p1,λr8 e8=>⟨p2,λr9 e9=>⟨trivial,?_⟩⟩⟩;exact(p3 _ _ e8 e9).2
     .exact((JZ hv g5 (abL (awS.1 g6) (awS.1 g7))).trans ((if_neg n3).trans (if_neg n2))).symm
theorem TN:iP prog G Hg Jt:=
 aiD (λn=>@L8 ⟨n⟩) (λn=>@wI ⟨n⟩) (by rintro⟨q,at',⟨i,o,s,l,a,⟨⟩⟩,r,m,⟨⟩⟩ h;exact azh _ h.2) (by rintro _ ⟨q,at',⟨i,o,s,l,a,⟨⟩⟩,r,m,⟨⟩⟩;rfl) (by rintro⟨q,at',⟨i,o,s,l,a,⟨⟩⟩,r,m,⟨⟩⟩ h;exact⟨_,h,ay6 _⟩) (by rintro _ ⟨q,at',⟨i,o,s,l,a,⟨⟩⟩,r,m,⟨⟩⟩;rfl) λn h=>@VX ⟨n⟩ h
end Go.Proofs.Tryz
