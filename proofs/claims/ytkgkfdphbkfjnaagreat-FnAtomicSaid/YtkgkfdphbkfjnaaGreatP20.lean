import Derived.Test.YtkgkfdphbkfjnaaGreatP19
import Derived.Test.YtkgkfdphbkfjnaaGreatSp
namespace Go.Proofs.Tryz
open Go Go.Fw Go.IntWalk Sp
theorem al5{s:bU}(h:aB s=true){i j:Nat}(hi:i<s.2.1.length)(hj:j<s.2.1.length)(e:(Sp.fileAt s.2.1 i).1=(Sp.fileAt s.2.1 j).1):i=j:=by
 rcases awo i j with h1|h1|h1
 .have:=U8 h j i h1 hj;omega
 .exact h1
 .have:=U8 h i j h1 hi;omega
theorem apn{c c1:eF}{g:aK}{df:List lJ}{ok:Bool}{m:Nat}(hcur:cO c=true)(hm:m<c.2.1.length)(hid:(Sp.fileAt c.2.1 m).1=g.1)(hg:dD c.1 g=true)(h:Sp.updated c g c1 df ok):
 ok=true/\df=xW (oQ c) (oQ c1)/\aX c1=(c.1,c.2.1.set m g,c.2.2.1,())/\bG c1=bG c/\cO c1=true:=by
 obtain⟨hst,hok,hev⟩:=kU hcur;have hrep:∃n,n<c.2.1.length/\Sp.place c.2.1 g.1=n/\aT (aX c) g=((c.1,c.2.1.set n g,c.2.2.1,()),true):=by
  rcases jU (aX c) g with⟨_,e⟩|⟨n,hn,h1,h2,h3,e⟩
  .refine(e ⟨hok,?_,hg⟩).elim;rcases qj c.2.1 g.1 with⟨_,h2⟩|⟨k,_,h2,_⟩
   .exact(h2 m hm hid).elim
   .show 0<=Sp.place c.2.1 g.1;omega
  .exact⟨n,hn,h1,e⟩
 obtain⟨n,hn,hpl,hr⟩:=hrep;have hnm:n=m:=by
  rcases qj c.2.1 g.1 with⟨_,h2⟩|⟨k,hk,h2,h3,_⟩
  .exact(h2 m hm hid).elim
  .have:k=n:=by omega
   subst this;exact al5 hok hk hm (h3.trans hid.symm)
 subst hnm;have hfind:(bf (aX c) g.1).1=Sp.fileAt c.2.1 n:=by show(bif decide (Sp.place c.2.1 g.1<0)then _ else(Sp.fileAt c.2.1 (Sp.place c.2.1 g.1).toNat,true)).1=_;rw[hpl,auD (by omega)];rfl
 obtain⟨u1,u2,_⟩:=h;have hz:(cO c&&(aT (aX c) g).2)=true:=by rw[hcur,hr];rfl
 have hok1:ok=true:=u1.trans hz;obtain⟨k1,k2,k3,k4⟩:=u2 hok1;have hst2:=Jz g hok;rw[hr]at k1 k3 hst2;rw[hfind]at k3;have hd:=(jw hst).1;obtain⟨aH,hl⟩:=OM hst;obtain⟨E,hE⟩:=ND [] (λ_=>true) hd hl (sJ hst2);have e:=apo hd hn hid hev k3 hE;refine⟨hok1,k4,k1,k2,?_⟩;obtain⟨a,l,nx,d,r,_⟩:=c1;have k1':((a,l,nx,()):bU)=(c.1,c.2.1.set n g,c.2.2.1,()):=k1;have k2:d=bG c:=k2;have e:r=E:=e;subst k2 e;have hl2:l=c.2.1.set n g:=congrArg (λs:bU=>s.2.1) k1';rw[Tj (out:=r) (by rw[hst,k1',hst2];rfl) (by rw[hl2];exact hE),auB rfl]
theorem al6{c:eF}(hok:aB (aX c)=true){m:Nat}(hm:m<c.2.1.length):dD c.1 (Sp.fileAt c.2.1 m)=true:=(l7.1 ((kH.1 hok).1 m hm)).1
theorem afq{a:List ig}{f:aK}(h:dD a f=true):jY a f.2.2.2.2.1=true/\f.2.2.2.2.1.length<=5:=by unfold dD at h;simp only[auq]at h;have h1:=h.1.1.1.1;have h2:=h.1.1.1.2;refine⟨h1,auM (apq h1) ?_⟩;unfold gy at h2;rw[auq,auK]at h2;omega
theorem aqx{c:eF}(hok:aB (aX c)=true):ZE c:=λf hf=>by
 obtain⟨i,hi,rfl⟩:=au6 hf;have at_:Sp.fileAt c.2.1 i=c.2.1[i]:=by unfold Sp.fileAt;rw[aur,auw hi];rfl
 have:=(afq (al6 hok hi)).2;rw[at_]at this;exact auM this (by decide)
theorem aoq{c:eF}(h:cO c=true)(hs:aC (bG c)):dF c:=by
 obtain⟨hst,hok,hev⟩:=kU h;have hf:c.2.1.length<=12:=(kH.1 hok).2.2.1;have anb:=(kH.1 hok).2.1;have h5:c.1.length<=5:=by have anb:gy c.1=true:=anb;unfold gy at anb;rw[auq,auK]at anb;omega
 refine⟨⟨by show c.1.length<=1000;omega,by show c.2.1.length<=1000;omega,λf hf=>auM (aqx hok f hf) (by decide)⟩,hs,KU hev hs.1 (by omega) NG⟩
end Go.Proofs.Tryz
