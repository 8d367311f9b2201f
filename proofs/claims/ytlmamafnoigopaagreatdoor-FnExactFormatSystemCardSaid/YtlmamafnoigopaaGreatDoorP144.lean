import Derived.Test.YtlmamafnoigopaaGreatDoorP150
import Derived.Deep.RegionHeld3
namespace Go.Proofs.Tryz
open Go Go.Fw Go.RowKit Sp
set_option maxRecDepth 100000
def ku:bK->Nat
 |(_,x1,_)=>1+cnt mW x1
set_option maxHeartbeats 16000000 in
theorem YT(W:World)(hG:G.ok W)(P:Nat->Prop)(hP:∀b,P b->G.n<=b)(v:Value)(l:List bK)(k:Int)(h:iI W.heap P (.sl aU gB) v l)(hk:0<=k/\k+cnt ku l<=100000000):
 Calls prog 66 #[v,.int .i64 k] W λe w'=>e=.returned (.int .i64 (k+cnt ku l))/\aF P W w':=by
 have mixed:=Tryz.mixed;have hlen:l.length<=100000000:=by have:=vY (f:=ku) (l:=l) λ⟨x0,x1,⟨⟩⟩=>as3 (show 1<=1 by decide) (show 1<=1+cnt mW x1 by omega);omega
 have h0:=h;rcases h with⟨rfl,a,c,rfl⟩|⟨b,off,cap,cs,t,fz,rfl,h2,h3,h4,h5,h6⟩
 .clear h0
  go_enter Tryz.func66,Tryz.ntmps66
  go_wp2
  go_loopw [1,5] (λkk i wr=>kk=.int .i64 k/\i=.int .i64 0/\wr=W) (λ_ _ _=>0)
  case atStart=>exact⟨rfl,rfl,rfl⟩
  case round=>
   obtain⟨rfl,rfl,rfl⟩:=hrel
   go_wp2
   all_goals go_ret
   all_goals exact⟨by simp[cnt],aF.refl _ _⟩
 .clear h4 h5 h6
  go_enter Tryz.func66,Tryz.ntmps66
  go_wp2
  go_loopw [1,5] (λkk i wr=>∃(m c:Nat),m<=l.length/\c=cnt ku (l.take m)/\kk=.int .i64 (k+c)/\i=.int .i64 m/\aF P W wr)
   (λ_ i _=>l.length-(intOf i).toNat)
  case atStart=>exact⟨0,0,atl _,rfl,by simp,rfl,aF.refl _ _⟩
  case round=>
   obtain⟨m,c,hm,hc,rfl,rfl,hst⟩:=hrel;rcases atm m l.length with hlt|hge
   .have hlt':((m:Nat):Int)<l.length:=by omega
    obtain⟨⟨x0,x1,⟨⟩⟩,hx⟩:∃x,l[m]? =some x:=⟨_,as5 hlt⟩;rcases h0.keep hst with⟨rfl,_⟩|⟨b',off',cap',cs',t',fz',e,_,_,k4,k5,k6⟩
    .cases hx
    cases e;obtain⟨s1,s2⟩:=uI ku hx;rw[← hc]at s1 s2;clear hc;obtain⟨c',hc'⟩:∃c',c'=cnt ku (l.take (m+1)):=⟨_,rfl⟩;rw[← hc']at s1;have s1:c'=c+(1+cnt mW x1):=s1;have s2:c+(1+cnt mW x1)<=cnt ku l:=s2;have wF:=hst.jf hG hP;obtain⟨n1,hn1⟩:∃n,n=cnt mW x1:=⟨_,rfl⟩;rw[← hn1]at s1 s2;obtain⟨u0,_,q,f0,u1,_,rfl,f1,rfl⟩:=k6 m _ hx;obtain⟨a1,p1,rfl⟩:=f1.form;have c0:cs'[off+m*2]? =some (u0):=dG q (k:=0) rfl;have d0:wr.cell? ⟨b,off+m*2,none⟩=some (u0):=(bJ k4 _).trans c0;have z0:=iQ k4 (k5 _ (as2.1 c0).1);have c1:cs'[off+m*2+1]? =some (.slice a1 x1.length p1):=dG q (k:=1) rfl;have d1:wr.cell? ⟨b,off+m*2+1,none⟩=some (.slice a1 x1.length p1):=(bJ k4 _).trans c1;have C1:∀(w:World)(E:Int),G.ok w->iI w.heap P (.sl bg dN) (.slice a1 x1.length p1) x1->0<=E/\E+n1<=100000000->Calls prog 37 #[.slice a1 x1.length p1,.int .i64 E] w λe w'=>e=.returned (.int .i64 (E+n1))/\aF P w w':=by intro w E g s h;rw[hn1]at h ⊢;exact yt w g P hP _ _ E s h
    clear hn1;have Ai:=aF.refl P wr;have ou:=Tok.mk 0;clear q k4 k5 k6 c0 c1 hx h0
    go_wp2_with (first
     |(go_at_call 38;have _:=ou;refine atr (BH (k+c) (by omega) (Ai.jf wF hP)) ?_;rintro e w1 ⟨rfl,hb1⟩;have nD:=Ai.trans (aF.of (P:=P) hb1);clear ou;have tk1:=Tok.mk 1;obtain⟨y0,D0,g0⟩:=nD.jr d0 f0;have Z0:=nD.fz d0 z0;have mX:aF P wr (w1.setCell ⟨b,off+m*2,none⟩ (.string ⟨(Sp.markT (k+c)).toArray⟩)):=nD.trans (aF.set _ D0 g0 h3 trivial);have D1:=mX.slice d1)
     |(go_at_call 37;have _:=tk1;refine atr (C1 (w1.setCell ⟨b,off+m*2,none⟩ (.string ⟨(Sp.markT (k+c)).toArray⟩)) (k+c+1) (mX.jf wF hP) (f1.keep mX) (by omega)) ?_;rintro e w2 ⟨rfl,s2'⟩;have wG:=mX.trans s2';clear tk1;have tk2:=Tok.mk 2))
    refine⟨⟨m+1,c',hlt,hc',congrArg _ (by omega),rfl,hst.trans wG⟩,?_⟩;simp only[intOf];omega
   .have hge':¬((m:Nat):Int)<l.length:=by omega
    obtain rfl:m=l.length:=by omega
    rw[atg]at hc;subst hc
    go_wp2
    all_goals go_ret
    all_goals exact⟨rfl,hst⟩
def pR:jA->Nat
 |(_,x1,x2,_,x4,_,_)=>3+cnt fD x1+cnt fJ x2+cnt iC x4
set_option maxHeartbeats 16000000 in
theorem Wn(W:World)(hG:G.ok W)(P:Nat->Prop)(hP:∀b,P b->G.n<=b)(v:Value)(l:List jA)(k:Int)(h:iI W.heap P (.sl fU o8) v l)(hk:0<=k/\k+cnt pR l<=100000000):
 Calls prog 35 #[v,.int .i64 k] W λe w'=>e=.returned (.int .i64 (k+cnt pR l))/\aF P W w':=by
 have mixed:=Tryz.mixed;have hlen:l.length<=100000000:=by have:=vY (f:=pR) (l:=l) λ⟨x0,x1,x2,x3,x4,x5,⟨⟩⟩=>as3 (show 1<=3 by decide) (show 3<=3+cnt fD x1+cnt fJ x2+cnt iC x4 by omega);omega
 have h0:=h;rcases h with⟨rfl,a,c,rfl⟩|⟨b,off,cap,cs,t,fz,rfl,h2,h3,h4,h5,h6⟩
 .clear h0
  go_enter Tryz.func35,Tryz.ntmps35
  go_wp2
  go_loopw [1,5] (λkk i wr=>kk=.int .i64 k/\i=.int .i64 0/\wr=W) (λ_ _ _=>0)
  case atStart=>exact⟨rfl,rfl,rfl⟩
  case round=>
   obtain⟨rfl,rfl,rfl⟩:=hrel
   go_wp2
   all_goals go_ret
   all_goals exact⟨by simp[cnt],aF.refl _ _⟩
 .clear h4 h5 h6
  go_enter Tryz.func35,Tryz.ntmps35
  go_wp2
  go_loopw [1,5] (λkk i wr=>∃(m c:Nat),m<=l.length/\c=cnt pR (l.take m)/\kk=.int .i64 (k+c)/\i=.int .i64 m/\aF P W wr)
   (λ_ i _=>l.length-(intOf i).toNat)
  case atStart=>exact⟨0,0,atl _,rfl,by simp,rfl,aF.refl _ _⟩
  case round=>
   obtain⟨m,c,hm,hc,rfl,rfl,hst⟩:=hrel;rcases atm m l.length with hlt|hge
   .have hlt':((m:Nat):Int)<l.length:=by omega
    obtain⟨⟨x0,x1,x2,x3,x4,x5,⟨⟩⟩,hx⟩:∃x,l[m]? =some x:=⟨_,as5 hlt⟩;rcases h0.keep hst with⟨rfl,_⟩|⟨b',off',cap',cs',t',fz',e,_,_,k4,k5,k6⟩
    .cases hx
    cases e;obtain⟨s1,s2⟩:=uI pR hx;rw[← hc]at s1 s2;clear hc;obtain⟨c',hc'⟩:∃c',c'=cnt pR (l.take (m+1)):=⟨_,rfl⟩;rw[← hc']at s1;have s1:c'=c+(3+cnt fD x1+cnt fJ x2+cnt iC x4):=s1;have s2:c+(3+cnt fD x1+cnt fJ x2+cnt iC x4)<=cnt pR l:=s2;have wF:=hst.jf hG hP;obtain⟨n1,hn1⟩:∃n,n=cnt fD x1:=⟨_,rfl⟩;obtain⟨n2,hn2⟩:∃n,n=cnt fJ x2:=⟨_,rfl⟩;obtain⟨n4,hn4⟩:∃n,n=cnt iC x4:=⟨_,rfl⟩;rw[← hn1,← hn2,← hn4]at s1 s2;obtain⟨u0,_,q,f0,u1,_,rfl,f1,u2,_,rfl,f2,u3,_,rfl,f3,u4,_,rfl,f4,u5,_,rfl,f5,rfl⟩:=k6 m _ hx;obtain⟨a1,p1,rfl⟩:=f1.form;obtain⟨a2,p2,rfl⟩:=f2.form;obtain⟨a4,p4,rfl⟩:=f4.form;have c0:cs'[off+m*6]? =some (u0):=dG q (k:=0) rfl;have d0:wr.cell? ⟨b,off+m*6,none⟩=some (u0):=(bJ k4 _).trans c0;have z0:=iQ k4 (k5 _ (as2.1 c0).1);have c1:cs'[off+m*6+1]? =some (.slice a1 x1.length p1):=dG q (k:=1) rfl;have d1:wr.cell? ⟨b,off+m*6+1,none⟩=some (.slice a1 x1.length p1):=(bJ k4 _).trans c1;have c2:cs'[off+m*6+2]? =some (.slice a2 x2.length p2):=dG q (k:=2) rfl;have d2:wr.cell? ⟨b,off+m*6+2,none⟩=some (.slice a2 x2.length p2):=(bJ k4 _).trans c2;have c3:cs'[off+m*6+3]? =some (u3):=dG q (k:=3) rfl;have d3:wr.cell? ⟨b,off+m*6+3,none⟩=some (u3):=(bJ k4 _).trans c3;have z3:=iQ k4 (k5 _ (as2.1 c3).1);have c4:cs'[off+m*6+4]? =some (.slice a4 x4.length p4):=dG q (k:=4) rfl;have d4:wr.cell? ⟨b,off+m*6+4,none⟩=some (.slice a4 x4.length p4):=(bJ k4 _).trans c4;have c5:cs'[off+m*6+5]? =some (u5):=dG q (k:=5) rfl;have d5:wr.cell? ⟨b,off+m*6+5,none⟩=some (u5):=(bJ k4 _).trans c5;have z5:=iQ k4 (k5 _ (as2.1 c5).1);have C1:∀(w:World)(E:Int),G.ok w->iI w.heap P (.sl ax bM) (.slice a1 x1.length p1) x1->0<=E/\E+n1<=100000000->Calls prog 67 #[.slice a1 x1.length p1,.int .i64 E] w λe w'=>e=.returned (.int .i64 (E+n1))/\aF P w w':=by intro w E g s h;rw[hn1]at h ⊢;exact LC w g P hP _ _ E s h
    have C2:∀(w:World)(E:Int),G.ok w->iI w.heap P (.sl aC aX) (.slice a2 x2.length p2) x2->0<=E/\E+n2<=100000000->Calls prog 68 #[.slice a2 x2.length p2,.int .i64 E] w λe w'=>e=.returned (.int .i64 (E+n2))/\aF P w w':=by intro w E g s h;rw[hn2]at h ⊢;exact Oe w g P hP _ _ E s h
    have C4:∀(w:World)(E:Int),G.ok w->iI w.heap P (.sl aN bC) (.slice a4 x4.length p4) x4->0<=E/\E+n4<=100000000->Calls prog 65 #[.slice a4 x4.length p4,.int .i64 E] w λe w'=>e=.returned (.int .i64 (E+n4))/\aF P w w':=by intro w E g s h;rw[hn4]at h ⊢;exact Qy w g P hP _ _ E s h
    clear hn1 hn2 hn4;have Ai:=aF.refl P wr;have ou:=Tok.mk 0;clear q k4 k5 k6 c0 c1 c2 c3 c4 c5 hx h0;have nD:aF P wr (wr.setCell ⟨b,off+m*6,none⟩ (.int .i64 (k+c))):=Ai.trans (aF.set _ d0 f0 h3 trivial);have D1:=nD.slice d1
    go_wp2_with (first
     |(go_at_call 67;have _:=ou;refine atr (C1 (wr.setCell ⟨b,off+m*6,none⟩ (.int .i64 (k+c))) (k+c+1) (nD.jf wF hP) (f1.keep nD) (by omega)) ?_;rintro e w1 ⟨rfl,s1'⟩;have mX:=nD.trans s1';clear ou;have tk1:=Tok.mk 1;have D2:=mX.slice d2)
     |(go_at_call 68;have _:=tk1;refine atr (C2 w1 (k+c+1+n1) (mX.jf wF hP) (f2.keep mX) (by omega)) ?_;rintro e w2 ⟨rfl,s2'⟩;have wG:=mX.trans s2';clear tk1;have tk2:=Tok.mk 2;obtain⟨y3,D3,g3⟩:=wG.jr d3 f3;have Z3:=wG.fz d3 z3;have CX:aF P wr (w2.setCell ⟨b,off+m*6+3,none⟩ (.int .i64 (k+c+1+n1+n2))):=wG.trans (aF.set _ D3 g3 h3 trivial);have D4:=CX.slice d4)
     |(go_at_call 65;have _:=tk2;refine atr (C4 (w2.setCell ⟨b,off+m*6+3,none⟩ (.int .i64 (k+c+1+n1+n2))) (k+c+1+n1+n2+1) (CX.jf wF hP) (f4.keep CX) (by omega)) ?_;rintro e w3 ⟨rfl,s3'⟩;have JJ:=CX.trans s3';clear tk2;have tk3:=Tok.mk 3;obtain⟨y5,D5,g5⟩:=JJ.jr d5 f5;have Z5:=JJ.fz d5 z5;have sx6:aF P wr (w3.setCell ⟨b,off+m*6+5,none⟩ (.int .i64 (k+c+1+n1+n2+1+n4))):=JJ.trans (aF.set _ D5 g5 h3 trivial)))
    refine⟨⟨m+1,c',hlt,hc',congrArg _ (by omega),rfl,hst.trans sx6⟩,?_⟩;simp only[intOf];omega
   .have hge':¬((m:Nat):Int)<l.length:=by omega
    obtain rfl:m=l.length:=by omega
    rw[atg]at hc;subst hc
    go_wp2
    all_goals go_ret
    all_goals exact⟨rfl,hst⟩
def Fj:yu->Nat
 |(_,x1,x2,_)=>1+cnt mW x1+cnt mW x2
set_option maxHeartbeats 16000000 in
theorem abB(W:World)(hG:G.ok W)(P:Nat->Prop)(hP:∀b,P b->G.n<=b)(v:Value)(l:List yu)(k:Int)(h:iI W.heap P (.sl iG yY) v l)(hk:0<=k/\k+cnt Fj l<=100000000):
 Calls prog 69 #[v,.int .i64 k] W λe w'=>e=.returned (.int .i64 (k+cnt Fj l))/\aF P W w':=by
 have mixed:=Tryz.mixed;have hlen:l.length<=100000000:=by have:=vY (f:=Fj) (l:=l) λ⟨x0,x1,x2,⟨⟩⟩=>as3 (show 1<=1 by decide) (show 1<=1+cnt mW x1+cnt mW x2 by omega);omega
 have h0:=h;rcases h with⟨rfl,a,c,rfl⟩|⟨b,off,cap,cs,t,fz,rfl,h2,h3,h4,h5,h6⟩
 .clear h0
  go_enter Tryz.func69,Tryz.ntmps69
  go_wp2
  go_loopw [1,5] (λkk i wr=>kk=.int .i64 k/\i=.int .i64 0/\wr=W) (λ_ _ _=>0)
  case atStart=>exact⟨rfl,rfl,rfl⟩
  case round=>
   obtain⟨rfl,rfl,rfl⟩:=hrel
   go_wp2
   all_goals go_ret
   all_goals exact⟨by simp[cnt],aF.refl _ _⟩
 .clear h4 h5 h6
  go_enter Tryz.func69,Tryz.ntmps69
  go_wp2
  go_loopw [1,5] (λkk i wr=>∃(m c:Nat),m<=l.length/\c=cnt Fj (l.take m)/\kk=.int .i64 (k+c)/\i=.int .i64 m/\aF P W wr)
   (λ_ i _=>l.length-(intOf i).toNat)
  case atStart=>exact⟨0,0,atl _,rfl,by simp,rfl,aF.refl _ _⟩
  case round=>
   obtain⟨m,c,hm,hc,rfl,rfl,hst⟩:=hrel;rcases atm m l.length with hlt|hge
   .have hlt':((m:Nat):Int)<l.length:=by omega
    obtain⟨⟨x0,x1,x2,⟨⟩⟩,hx⟩:∃x,l[m]? =some x:=⟨_,as5 hlt⟩;rcases h0.keep hst with⟨rfl,_⟩|⟨b',off',cap',cs',t',fz',e,_,_,k4,k5,k6⟩
    .cases hx
    cases e;obtain⟨s1,s2⟩:=uI Fj hx;rw[← hc]at s1 s2;clear hc;obtain⟨c',hc'⟩:∃c',c'=cnt Fj (l.take (m+1)):=⟨_,rfl⟩;rw[← hc']at s1;have s1:c'=c+(1+cnt mW x1+cnt mW x2):=s1;have s2:c+(1+cnt mW x1+cnt mW x2)<=cnt Fj l:=s2;have wF:=hst.jf hG hP;obtain⟨n1,hn1⟩:∃n,n=cnt mW x1:=⟨_,rfl⟩;obtain⟨n2,hn2⟩:∃n,n=cnt mW x2:=⟨_,rfl⟩;rw[← hn1,← hn2]at s1 s2;obtain⟨u0,_,q,f0,u1,_,rfl,f1,u2,_,rfl,f2,rfl⟩:=k6 m _ hx;obtain⟨a1,p1,rfl⟩:=f1.form;obtain⟨a2,p2,rfl⟩:=f2.form;have c0:cs'[off+m*3]? =some (u0):=dG q (k:=0) rfl;have d0:wr.cell? ⟨b,off+m*3,none⟩=some (u0):=(bJ k4 _).trans c0;have z0:=iQ k4 (k5 _ (as2.1 c0).1);have c1:cs'[off+m*3+1]? =some (.slice a1 x1.length p1):=dG q (k:=1) rfl;have d1:wr.cell? ⟨b,off+m*3+1,none⟩=some (.slice a1 x1.length p1):=(bJ k4 _).trans c1;have c2:cs'[off+m*3+2]? =some (.slice a2 x2.length p2):=dG q (k:=2) rfl;have d2:wr.cell? ⟨b,off+m*3+2,none⟩=some (.slice a2 x2.length p2):=(bJ k4 _).trans c2;have C1:∀(w:World)(E:Int),G.ok w->iI w.heap P (.sl bg dN) (.slice a1 x1.length p1) x1->0<=E/\E+n1<=100000000->Calls prog 37 #[.slice a1 x1.length p1,.int .i64 E] w λe w'=>e=.returned (.int .i64 (E+n1))/\aF P w w':=by intro w E g s h;rw[hn1]at h ⊢;exact yt w g P hP _ _ E s h
    have C2:∀(w:World)(E:Int),G.ok w->iI w.heap P (.sl bg dN) (.slice a2 x2.length p2) x2->0<=E/\E+n2<=100000000->Calls prog 37 #[.slice a2 x2.length p2,.int .i64 E] w λe w'=>e=.returned (.int .i64 (E+n2))/\aF P w w':=by intro w E g s h;rw[hn2]at h ⊢;exact yt w g P hP _ _ E s h
    clear hn1 hn2;have Ai:=aF.refl P wr;have ou:=Tok.mk 0;clear q k4 k5 k6 c0 c1 c2 hx h0;have nD:aF P wr (wr.setCell ⟨b,off+m*3,none⟩ (.int .i64 (k+c))):=Ai.trans (aF.set _ d0 f0 h3 trivial);have D1:=nD.slice d1
    go_wp2_with (first
     |(go_at_call 37;have _:=ou;refine atr (C1 (wr.setCell ⟨b,off+m*3,none⟩ (.int .i64 (k+c))) (k+c+1) (nD.jf wF hP) (f1.keep nD) (by omega)) ?_;rintro e w1 ⟨rfl,s1'⟩;have mX:=nD.trans s1';clear ou;have tk1:=Tok.mk 1;have D2:=mX.slice d2)
     |(go_at_call 37;have _:=tk1;refine atr (C2 w1 (k+c+1+n1) (mX.jf wF hP) (f2.keep mX) (by omega)) ?_;rintro e w2 ⟨rfl,s2'⟩;have wG:=mX.trans s2';clear tk1;have tk2:=Tok.mk 2))
    refine⟨⟨m+1,c',hlt,hc',congrArg _ (by omega),rfl,hst.trans wG⟩,?_⟩;simp only[intOf];omega
   .have hge':¬((m:Nat):Int)<l.length:=by omega
    obtain rfl:m=l.length:=by omega
    rw[atg]at hc;subst hc
    go_wp2
    all_goals go_ret
    all_goals exact⟨rfl,hst⟩
def ug:iw->Nat
 |(_,_,x2,x3,_)=>2+cnt mW x2+cnt Fj x3
set_option maxHeartbeats 16000000 in
theorem abC(W:World)(hG:G.ok W)(P:Nat->Prop)(hP:∀b,P b->G.n<=b)(v:Value)(l:List iw)(k:Int)(h:iI W.heap P (.sl iH uF) v l)(hk:0<=k/\k+cnt ug l<=100000000):
 Calls prog 36 #[v,.int .i64 k] W λe w'=>e=.returned (.int .i64 (k+cnt ug l))/\aF P W w':=by
 have mixed:=Tryz.mixed;have hlen:l.length<=100000000:=by have:=vY (f:=ug) (l:=l) λ⟨x0,x1,x2,x3,⟨⟩⟩=>as3 (show 1<=2 by decide) (show 2<=2+cnt mW x2+cnt Fj x3 by omega);omega
 have h0:=h;rcases h with⟨rfl,a,c,rfl⟩|⟨b,off,cap,cs,t,fz,rfl,h2,h3,h4,h5,h6⟩
 .clear h0
  go_enter Tryz.func36,Tryz.ntmps36
  go_wp2
  go_loopw [1,5] (λkk i wr=>kk=.int .i64 k/\i=.int .i64 0/\wr=W) (λ_ _ _=>0)
  case atStart=>exact⟨rfl,rfl,rfl⟩
  case round=>
   obtain⟨rfl,rfl,rfl⟩:=hrel
   go_wp2
   all_goals go_ret
   all_goals exact⟨by simp[cnt],aF.refl _ _⟩
 .clear h4 h5 h6
  go_enter Tryz.func36,Tryz.ntmps36
  go_wp2
  go_loopw [1,5] (λkk i wr=>∃(m c:Nat),m<=l.length/\c=cnt ug (l.take m)/\kk=.int .i64 (k+c)/\i=.int .i64 m/\aF P W wr)
   (λ_ i _=>l.length-(intOf i).toNat)
  case atStart=>exact⟨0,0,atl _,rfl,by simp,rfl,aF.refl _ _⟩
  case round=>
   obtain⟨m,c,hm,hc,rfl,rfl,hst⟩:=hrel;rcases atm m l.length with hlt|hge
   .have hlt':((m:Nat):Int)<l.length:=by omega
    obtain⟨⟨x0,x1,x2,x3,⟨⟩⟩,hx⟩:∃x,l[m]? =some x:=⟨_,as5 hlt⟩;rcases h0.keep hst with⟨rfl,_⟩|⟨b',off',cap',cs',t',fz',e,_,_,k4,k5,k6⟩
    .cases hx
    cases e;obtain⟨s1,s2⟩:=uI ug hx;rw[← hc]at s1 s2;clear hc;obtain⟨c',hc'⟩:∃c',c'=cnt ug (l.take (m+1)):=⟨_,rfl⟩;rw[← hc']at s1;have s1:c'=c+(2+cnt mW x2+cnt Fj x3):=s1;have s2:c+(2+cnt mW x2+cnt Fj x3)<=cnt ug l:=s2;have wF:=hst.jf hG hP;obtain⟨n2,hn2⟩:∃n,n=cnt mW x2:=⟨_,rfl⟩;obtain⟨n3,hn3⟩:∃n,n=cnt Fj x3:=⟨_,rfl⟩;rw[← hn2,← hn3]at s1 s2;obtain⟨u0,_,q,f0,u1,_,rfl,f1,u2,_,rfl,f2,u3,_,rfl,f3,rfl⟩:=k6 m _ hx;obtain⟨a2,p2,rfl⟩:=f2.form;obtain⟨a3,p3,rfl⟩:=f3.form;have c0:cs'[off+m*4]? =some (u0):=dG q (k:=0) rfl;have d0:wr.cell? ⟨b,off+m*4,none⟩=some (u0):=(bJ k4 _).trans c0;have z0:=iQ k4 (k5 _ (as2.1 c0).1);have c1:cs'[off+m*4+1]? =some (u1):=dG q (k:=1) rfl;have d1:wr.cell? ⟨b,off+m*4+1,none⟩=some (u1):=(bJ k4 _).trans c1;have z1:=iQ k4 (k5 _ (as2.1 c1).1);have c2:cs'[off+m*4+2]? =some (.slice a2 x2.length p2):=dG q (k:=2) rfl;have d2:wr.cell? ⟨b,off+m*4+2,none⟩=some (.slice a2 x2.length p2):=(bJ k4 _).trans c2;have c3:cs'[off+m*4+3]? =some (.slice a3 x3.length p3):=dG q (k:=3) rfl;have d3:wr.cell? ⟨b,off+m*4+3,none⟩=some (.slice a3 x3.length p3):=(bJ k4 _).trans c3;have C2:∀(w:World)(E:Int),G.ok w->iI w.heap P (.sl bg dN) (.slice a2 x2.length p2) x2->0<=E/\E+n2<=100000000->Calls prog 37 #[.slice a2 x2.length p2,.int .i64 E] w λe w'=>e=.returned (.int .i64 (E+n2))/\aF P w w':=by intro w E g s h;rw[hn2]at h ⊢;exact yt w g P hP _ _ E s h
    have C3:∀(w:World)(E:Int),G.ok w->iI w.heap P (.sl iG yY) (.slice a3 x3.length p3) x3->0<=E/\E+n3<=100000000->Calls prog 69 #[.slice a3 x3.length p3,.int .i64 E] w λe w'=>e=.returned (.int .i64 (E+n3))/\aF P w w':=by intro w E g s h;rw[hn3]at h ⊢;exact abB w g P hP _ _ E s h
    clear hn2 hn3;have Ai:=aF.refl P wr;have ou:=Tok.mk 0;clear q k4 k5 k6 c0 c1 c2 c3 hx h0;have nD:aF P wr (wr.setCell ⟨b,off+m*4,none⟩ (.int .i64 (k+c))):=Ai.trans (aF.set _ d0 f0 h3 trivial)
    go_wp2_with (first
     |(go_at_call 38;have _:=ou;refine atr (BH (k+c+1) (by omega) (nD.jf wF hP)) ?_;rintro e w1 ⟨rfl,hb1⟩;have mX:=nD.trans (aF.of (P:=P) hb1);clear ou;have tk1:=Tok.mk 1;obtain⟨y1,D1,g1⟩:=mX.jr d1 f1;have Z1:=mX.fz d1 z1;have wG:aF P wr (w1.setCell ⟨b,off+m*4+1,none⟩ (.string ⟨(Sp.markT (k+c+1)).toArray⟩)):=mX.trans (aF.set _ D1 g1 h3 trivial);have D2:=wG.slice d2)
     |(go_at_call 37;have _:=tk1;refine atr (C2 (w1.setCell ⟨b,off+m*4+1,none⟩ (.string ⟨(Sp.markT (k+c+1)).toArray⟩)) (k+c+1+1) (wG.jf wF hP) (f2.keep wG) (by omega)) ?_;rintro e w2 ⟨rfl,s2'⟩;have CX:=wG.trans s2';clear tk1;have tk2:=Tok.mk 2;have D3:=CX.slice d3)
     |(go_at_call 69;have _:=tk2;refine atr (C3 w2 (k+c+1+1+n2) (CX.jf wF hP) (f3.keep CX) (by omega)) ?_;rintro e w3 ⟨rfl,s3'⟩;have JJ:=CX.trans s3';clear tk2;have tk3:=Tok.mk 3))
    refine⟨⟨m+1,c',hlt,hc',congrArg _ (by omega),rfl,hst.trans JJ⟩,?_⟩;simp only[intOf];omega
   .have hge':¬((m:Nat):Int)<l.length:=by omega
    obtain rfl:m=l.length:=by omega
    rw[atg]at hc;subst hc
    go_wp2
    all_goals go_ret
    all_goals exact⟨rfl,hst⟩
set_option maxHeartbeats 16000000 in
theorem ad6{W:World}(hG:G.ok W){P:Nat->Prop}(hP:∀b,P b->G.n<=b/\b<W.heap.size){v0:Value}{x0:List dI}{v1:Value}{x1:List aA}(v2:Int)(k:Int)(f0:iI W.heap P (.sl ax bM) v0 x0)(f1:iI W.heap P (.sl aC aX) v1 x1)(hk:0<=k/\k+(cnt fD x0+cnt fJ x1)<=100000000):
 Calls prog 64 #[.agg #[v0,v1,.int .i64 v2],.int .i64 k] W λe w'=>e=.returned (.int .i64 (k+cnt fD x0+cnt fJ x1))/\aF P W w':=by
 have mixed:=Tryz.mixed;have H0:∀o:Obj,Calls prog 67 #[v0,.int .i64 (k)] (W.alloc o) λe w'=>e=.returned (.int .i64 (k+cnt fD x0))/\aF P (W.alloc o) w':=λo=>(LC (W.alloc o) ((dQ P W o).jf hG λb hb=>(hP b hb).1) P (λb hb=>(hP b hb).1) v0 x0 (k) (f0.keep (dQ P W o)) (by omega)).mono λe w'⟨e1,e2⟩=>⟨e1,e2⟩;have H1:∀(o:Obj)(w:World),aF P (W.alloc o) w->Calls prog 68 #[v1,.int .i64 (k+cnt fD x0)] w λe w'=>e=.returned (.int .i64 (k+cnt fD x0+cnt fJ x1))/\aF P (W.alloc o) w':=λo w s=>(Oe w (((dQ P W o).trans s).jf hG λb hb=>(hP b hb).1) P (λb hb=>(hP b hb).1) v1 x1 (k+cnt fD x0) (f1.keep ((dQ P W o).trans s)) (by omega)).mono λe w'⟨e1,e2⟩=>⟨e1,s.trans e2⟩;obtain⟨a0,p0,rfl⟩:=f0.form;obtain⟨a1,p1,rfl⟩:=f1.form;have hNa:¬P W.heap.size:=λe=>by have:=(hP _ e).2;omega
 clear f0 f1 hP;have ou:=Tok.mk 0;obtain⟨n0,hn0⟩:∃n,n=cnt fD x0:=⟨_,rfl⟩;obtain⟨n1,hn1⟩:∃n,n=cnt fJ x1:=⟨_,rfl⟩;simp only[← hn0,← hn1]at hk H0 H1 ⊢;clear hn0 hn1
 go_enter Tryz.func64,Tryz.ntmps64
 go_wp2_with (first
  |(go_at_call 67;have _:=ou;refine atr (H0 _) ?_;rintro e w1 ⟨rfl,s1⟩;have hN:=(s1.block W.heap.size (by simp) hNa).trans (auc W _);have d1:w1.cell? ⟨W.heap.size,1,none⟩=some (.slice a1 x1.length p1):=bJ hN 1;clear hN;clear ou;have tk1:=Tok.mk 1)
  |(go_at_call 68;have _:=tk1;refine atr (H1 _ w1 s1) ?_;rintro e w2 ⟨rfl,s2⟩;clear tk1;have tk2:=Tok.mk 2))
 all_goals go_ret
 all_goals exact⟨rfl,(dQ P W _).trans s2⟩
set_option maxHeartbeats 16000000 in
theorem YU{W:World}(hG:G.ok W){P:Nat->Prop}(hP:∀b,P b->G.n<=b/\b<W.heap.size){v0:Value}{x0:List dI}{v1:Value}{x1:List aA}(v2:Int){v3:Value}{x3:List ay}{v4:Value}{x4:List bK}(k:Int)(f0:iI W.heap P (.sl ax bM) v0 x0)(f1:iI W.heap P (.sl aC aX) v1 x1)(f3:iI W.heap P (.sl aN bC) v3 x3)(f4:iI W.heap P (.sl aU gB) v4 x4)(hk:0<=k/\k+(cnt fD x0+cnt fJ x1+cnt iC x3+cnt ku x4)<=100000000):
 Calls prog 34 #[.agg #[v0,v1,.int .i64 v2,v3,v4],.int .i64 k] W λe w'=>e=.returned (.int .i64 (k+cnt fD x0+cnt fJ x1+cnt iC x3+cnt ku x4))/\aF P W w':=by
 have mixed:=Tryz.mixed;have H0:∀o:Obj,Calls prog 64 #[.agg #[v0,v1,.int .i64 v2],.int .i64 (k)] (W.alloc o) λe w'=>e=.returned (.int .i64 (k+cnt fD x0+cnt fJ x1))/\aF P (W.alloc o) w':=λo=>(ad6 ((dQ P W o).jf hG λb hb=>(hP b hb).1) (λb hb=>⟨(hP b hb).1,ati (hP b hb).2 (dQ P W o).size⟩) v2 (k) (f0.keep (dQ P W o)) (f1.keep (dQ P W o)) (by omega)).mono λe w'⟨e1,e2⟩=>⟨e1,e2⟩;have H1:∀(o:Obj)(w:World),aF P (W.alloc o) w->Calls prog 65 #[v3,.int .i64 (k+cnt fD x0+cnt fJ x1)] w λe w'=>e=.returned (.int .i64 (k+cnt fD x0+cnt fJ x1+cnt iC x3))/\aF P (W.alloc o) w':=λo w s=>(Qy w (((dQ P W o).trans s).jf hG λb hb=>(hP b hb).1) P (λb hb=>(hP b hb).1) v3 x3 (k+cnt fD x0+cnt fJ x1) (f3.keep ((dQ P W o).trans s)) (by omega)).mono λe w'⟨e1,e2⟩=>⟨e1,s.trans e2⟩;have H2:∀(o:Obj)(w:World),aF P (W.alloc o) w->Calls prog 66 #[v4,.int .i64 (k+cnt fD x0+cnt fJ x1+cnt iC x3)] w λe w'=>e=.returned (.int .i64 (k+cnt fD x0+cnt fJ x1+cnt iC x3+cnt ku x4))/\aF P (W.alloc o) w':=λo w s=>(YT w (((dQ P W o).trans s).jf hG λb hb=>(hP b hb).1) P (λb hb=>(hP b hb).1) v4 x4 (k+cnt fD x0+cnt fJ x1+cnt iC x3) (f4.keep ((dQ P W o).trans s)) (by omega)).mono λe w'⟨e1,e2⟩=>⟨e1,s.trans e2⟩;obtain⟨a0,p0,rfl⟩:=f0.form;obtain⟨a1,p1,rfl⟩:=f1.form;obtain⟨a3,p3,rfl⟩:=f3.form;obtain⟨a4,p4,rfl⟩:=f4.form;have hNa:¬P W.heap.size:=λe=>by have:=(hP _ e).2;omega
 clear f0 f1 f3 f4 hP;have ou:=Tok.mk 0;obtain⟨n0,hn0⟩:∃n,n=cnt fD x0:=⟨_,rfl⟩;obtain⟨n1,hn1⟩:∃n,n=cnt fJ x1:=⟨_,rfl⟩;obtain⟨n2,hn2⟩:∃n,n=cnt iC x3:=⟨_,rfl⟩;obtain⟨n3,hn3⟩:∃n,n=cnt ku x4:=⟨_,rfl⟩;simp only[← hn0,← hn1,← hn2,← hn3]at hk H0 H1 H2 ⊢;clear hn0 hn1 hn2 hn3
 go_enter Tryz.func34,Tryz.ntmps34
 go_wp2_with (first
  |(go_at_call 64;have _:=ou;refine atr (H0 _) ?_;rintro e w1 ⟨rfl,s1⟩;have hN:=(s1.block W.heap.size (by simp) hNa).trans (auc W _);have d3:w1.cell? ⟨W.heap.size,3,none⟩=some (.slice a3 x3.length p3):=bJ hN 3;clear hN;clear ou;have tk1:=Tok.mk 1)
  |(go_at_call 65;have _:=tk1;refine atr (H1 _ w1 s1) ?_;rintro e w2 ⟨rfl,s2⟩;have hN:=(s2.block W.heap.size (by simp) hNa).trans (auc W _);have d4:w2.cell? ⟨W.heap.size,4,none⟩=some (.slice a4 x4.length p4):=bJ hN 4;clear hN;clear tk1;have tk2:=Tok.mk 2)
  |(go_at_call 66;have _:=tk2;refine atr (H2 _ w2 s2) ?_;rintro e w3 ⟨rfl,s3⟩;clear tk2;have tk3:=Tok.mk 3))
 all_goals go_ret
 all_goals exact⟨rfl,(dQ P W _).trans s3⟩
set_option maxHeartbeats 16000000 in
theorem abD{W:World}(hG:G.ok W){P:Nat->Prop}(hP:∀b,P b->G.n<=b/\b<W.heap.size){v0:Value}{x0:List dI}{v1:Value}{x1:List aA}(v2:Int){v3:Value}{x3:List ay}{v4:Value}{x4:List bK}(v5:ByteArray)(v6:ByteArray)(v7:Int){v8:Value}{x8:List jA}{v9:Value}{x9:List iw}{v10:Value}{x10:List (Int×Unit)}(k:Int)(f0:iI W.heap P (.sl ax bM) v0 x0)(f1:iI W.heap P (.sl aC aX) v1 x1)(f3:iI W.heap P (.sl aN bC) v3 x3)(f4:iI W.heap P (.sl aU gB) v4 x4)(f8:iI W.heap P (.sl fU o8) v8 x8)(f9:iI W.heap P (.sl iH uF) v9 x9)(f10:iI W.heap P (.sl bg dN) v10 x10)(hk:0<=k/\k+(cnt fD x0+cnt fJ x1+cnt iC x3+cnt ku x4+cnt pR x8+cnt ug x9+cnt mW x10)<=100000000):
 Calls prog 10 #[.agg #[v0,v1,.int .i64 v2,v3,v4,.string v5,.string v6,.int .i64 v7,v8,v9,v10],.int .i64 k] W λe w'=>e=.returned (.int .i64 (k+cnt fD x0+cnt fJ x1+cnt iC x3+cnt ku x4+cnt pR x8+cnt ug x9+cnt mW x10))/\aF P W w':=by
 have mixed:=Tryz.mixed;have H0:∀o:Obj,Calls prog 34 #[.agg #[v0,v1,.int .i64 v2,v3,v4],.int .i64 (k)] (W.alloc o) λe w'=>e=.returned (.int .i64 (k+cnt fD x0+cnt fJ x1+cnt iC x3+cnt ku x4))/\aF P (W.alloc o) w':=λo=>(YU ((dQ P W o).jf hG λb hb=>(hP b hb).1) (λb hb=>⟨(hP b hb).1,ati (hP b hb).2 (dQ P W o).size⟩) v2 (k) (f0.keep (dQ P W o)) (f1.keep (dQ P W o)) (f3.keep (dQ P W o)) (f4.keep (dQ P W o)) (by omega)).mono λe w'⟨e1,e2⟩=>⟨e1,e2⟩;have H1:∀(o:Obj)(w:World),aF P (W.alloc o) w->Calls prog 35 #[v8,.int .i64 (k+cnt fD x0+cnt fJ x1+cnt iC x3+cnt ku x4)] w λe w'=>e=.returned (.int .i64 (k+cnt fD x0+cnt fJ x1+cnt iC x3+cnt ku x4+cnt pR x8))/\aF P (W.alloc o) w':=λo w s=>(Wn w (((dQ P W o).trans s).jf hG λb hb=>(hP b hb).1) P (λb hb=>(hP b hb).1) v8 x8 (k+cnt fD x0+cnt fJ x1+cnt iC x3+cnt ku x4) (f8.keep ((dQ P W o).trans s)) (by omega)).mono λe w'⟨e1,e2⟩=>⟨e1,s.trans e2⟩;have H2:∀(o:Obj)(w:World),aF P (W.alloc o) w->Calls prog 36 #[v9,.int .i64 (k+cnt fD x0+cnt fJ x1+cnt iC x3+cnt ku x4+cnt pR x8)] w λe w'=>e=.returned (.int .i64 (k+cnt fD x0+cnt fJ x1+cnt iC x3+cnt ku x4+cnt pR x8+cnt ug x9))/\aF P (W.alloc o) w':=λo w s=>(abC w (((dQ P W o).trans s).jf hG λb hb=>(hP b hb).1) P (λb hb=>(hP b hb).1) v9 x9 (k+cnt fD x0+cnt fJ x1+cnt iC x3+cnt ku x4+cnt pR x8) (f9.keep ((dQ P W o).trans s)) (by omega)).mono λe w'⟨e1,e2⟩=>⟨e1,s.trans e2⟩;have H3:∀(o:Obj)(w:World),aF P (W.alloc o) w->Calls prog 37 #[v10,.int .i64 (k+cnt fD x0+cnt fJ x1+cnt iC x3+cnt ku x4+cnt pR x8+cnt ug x9)] w λe w'=>e=.returned (.int .i64 (k+cnt fD x0+cnt fJ x1+cnt iC x3+cnt ku x4+cnt pR x8+cnt ug x9+cnt mW x10))/\aF P (W.alloc o) w':=λo w s=>(yt w (((dQ P W o).trans s).jf hG λb hb=>(hP b hb).1) P (λb hb=>(hP b hb).1) v10 x10 (k+cnt fD x0+cnt fJ x1+cnt iC x3+cnt ku x4+cnt pR x8+cnt ug x9) (f10.keep ((dQ P W o).trans s)) (by omega)).mono λe w'⟨e1,e2⟩=>⟨e1,s.trans e2⟩;obtain⟨a0,p0,rfl⟩:=f0.form;obtain⟨a1,p1,rfl⟩:=f1.form;obtain⟨a3,p3,rfl⟩:=f3.form;obtain⟨a4,p4,rfl⟩:=f4.form;obtain⟨a8,p8,rfl⟩:=f8.form;obtain⟨a9,p9,rfl⟩:=f9.form;obtain⟨a10,p10,rfl⟩:=f10.form;have hNa:¬P W.heap.size:=λe=>by have:=(hP _ e).2;omega
 clear f0 f1 f3 f4 f8 f9 f10 hP;have ou:=Tok.mk 0;obtain⟨n0,hn0⟩:∃n,n=cnt fD x0:=⟨_,rfl⟩;obtain⟨n1,hn1⟩:∃n,n=cnt fJ x1:=⟨_,rfl⟩;obtain⟨n2,hn2⟩:∃n,n=cnt iC x3:=⟨_,rfl⟩;obtain⟨n3,hn3⟩:∃n,n=cnt ku x4:=⟨_,rfl⟩;obtain⟨n4,hn4⟩:∃n,n=cnt pR x8:=⟨_,rfl⟩;obtain⟨n5,hn5⟩:∃n,n=cnt ug x9:=⟨_,rfl⟩;obtain⟨n6,hn6⟩:∃n,n=cnt mW x10:=⟨_,rfl⟩;simp only[← hn0,← hn1,← hn2,← hn3,← hn4,← hn5,← hn6]at hk H0 H1 H2 H3 ⊢;clear hn0 hn1 hn2 hn3 hn4 hn5 hn6
 go_enter Tryz.func10,Tryz.ntmps10
 go_wp2_with (first
  |(go_at_call 34;have _:=ou;refine atr (H0 _) ?_;rintro e w1 ⟨rfl,s1⟩;have hN:=(s1.block W.heap.size (by simp) hNa).trans (auc W _);have d8:w1.cell? ⟨W.heap.size,8,none⟩=some (.slice a8 x8.length p8):=bJ hN 8;clear hN;clear ou;have tk1:=Tok.mk 1)
  |(go_at_call 35;have _:=tk1;refine atr (H1 _ w1 s1) ?_;rintro e w2 ⟨rfl,s2⟩;have hN:=(s2.block W.heap.size (by simp) hNa).trans (auc W _);have d9:w2.cell? ⟨W.heap.size,9,none⟩=some (.slice a9 x9.length p9):=bJ hN 9;clear hN;clear tk1;have tk2:=Tok.mk 2)
  |(go_at_call 36;have _:=tk2;refine atr (H2 _ w2 s2) ?_;rintro e w3 ⟨rfl,s3⟩;have hN:=(s3.block W.heap.size (by simp) hNa).trans (auc W _);have d10:w3.cell? ⟨W.heap.size,10,none⟩=some (.slice a10 x10.length p10):=bJ hN 10;clear hN;clear tk2;have tk3:=Tok.mk 3)
  |(go_at_call 37;have _:=tk3;refine atr (H3 _ w3 s3) ?_;rintro e w4 ⟨rfl,s4⟩;clear tk3;have tk4:=Tok.mk 4))
 all_goals go_ret
 all_goals exact⟨rfl,(dQ P W _).trans s4⟩
end Go.Proofs.Tryz
namespace Go.Proofs.Tryz
open Go Go.Fw Go.RowKit Sp
set_option maxRecDepth 100000
abbrev lw(w:World)(b:Nat):Prop:=b<w.heap.size
theorem Ja{w:World}{r:ak}{vs:List Value}{x:r.den}(h:aZ w.heap (lw w) r vs x):mM (VW w) (.sv (.agg (ak.row false r x))) (.agg vs.toArray):=
 ⟨vs.toArray,rfl,Nk (VW w) false r vs x (aZ.mono (λb hb=>⟨⟨⟨hb,λ_=>trivial,λo x hx=>by cases hx⟩,λe=>by cases e⟩,rfl⟩) r vs x h)⟩
theorem anQ{W w:World}{r:ak}{vs:List Value}{x:r.den}(h:aZ W.heap (lw W) r vs x)(k:Below W.heap.size W w):aZ w.heap (lw w) r vs x:=
 aZ.mono (λb hb=>⟨ati hb k.size,k.block b hb⟩) r vs x h
theorem amd{h:Array Obj}{S:Nat->Prop}{vs:List Value}{a l n d r da db m v ws q}(H:aZ h S O3 vs (a,l,n,d,r,da,db,m,v,ws,q,())):
 ∃a0 c0 a1 c1 a3 c3 a4 c4 a8 c8 a9 c9 a10 c10,vs=[.slice a0 (List.length a) c0,.slice a1 (List.length l) c1,.int .i64 n,.slice a3 (List.length d) c3,.slice a4 (List.length r) c4,.string ⟨List.toArray da⟩,.string ⟨List.toArray db⟩,.int .i64 m,.slice a8 (List.length v) c8,.slice a9 (List.length ws) c9,.slice a10 (List.length q) c10]:=by
 obtain⟨v0,_,rfl,h0,v1,_,rfl,h1,v2,_,rfl,h2,v3,_,rfl,h3,v4,_,rfl,h4,v5,_,rfl,h5,v6,_,rfl,h6,v7,_,rfl,h7,v8,_,rfl,h8,v9,_,rfl,h9,v10,_,rfl,h10,rfl⟩:=H;obtain⟨a0,c0,rfl⟩:=mZ h0;obtain⟨a1,c1,rfl⟩:=mZ h1;obtain⟨a3,c3,rfl⟩:=mZ h3;obtain⟨a4,c4,rfl⟩:=mZ h4;obtain⟨a8,c8,rfl⟩:=mZ h8;obtain⟨a9,c9,rfl⟩:=mZ h9;obtain⟨a10,c10,rfl⟩:=mZ h10;rw[h2.1,h5.1,h6.1,h7.1];exact⟨a0,c0,a1,c1,a3,c3,a4,c4,a8,c8,a9,c9,a10,c10,rfl⟩
theorem alf{h:Array Obj}{S:Nat->Prop}{vs:List Value}{a l n d r da db m v ws q}(H:aZ h S adl vs (a,l,n,d,r,da,db,m,v,ws,q,())):
 ∃a0 c0 a1 c1 a3 c3 a4 c4 a8 c8 a9 c9 a10 c10,vs=[.slice a0 (List.length a) c0,.slice a1 (List.length l) c1,.int .i64 n,.slice a3 (List.length d) c3,.slice a4 (List.length r) c4,.string ⟨List.toArray da⟩,.string ⟨List.toArray db⟩,.int .i64 m,.slice a8 (List.length v) c8,.slice a9 (List.length ws) c9,.slice a10 (List.length q) c10]:=by
 obtain⟨v0,_,rfl,h0,v1,_,rfl,h1,v2,_,rfl,h2,v3,_,rfl,h3,v4,_,rfl,h4,v5,_,rfl,h5,v6,_,rfl,h6,v7,_,rfl,h7,v8,_,rfl,h8,v9,_,rfl,h9,v10,_,rfl,h10,rfl⟩:=H;obtain⟨a0,c0,rfl⟩:=mZ h0;obtain⟨a1,c1,rfl⟩:=mZ h1;obtain⟨a3,c3,rfl⟩:=mZ h3;obtain⟨a4,c4,rfl⟩:=mZ h4;obtain⟨a8,c8,rfl⟩:=mZ h8;obtain⟨a9,c9,rfl⟩:=mZ h9;obtain⟨a10,c10,rfl⟩:=mZ h10;rw[h2.1,h5.1,h6.1,h7.1];exact⟨a0,c0,a1,c1,a3,c3,a4,c4,a8,c8,a9,c9,a10,c10,rfl⟩
abbrev RXI(w:World)(S:Nat->Prop)(vs:List Value)(x:iE):Prop:=aZ w.heap S O3 vs x
abbrev RXL(w:World)(S:Nat->Prop)(vs:List Value)(x:iE):Prop:=aZ w.heap S adl vs x
theorem ame{w:World}(hG:G.ok w){vs:List Value}{x:iE}(h:RXL w (lw w) vs x):
 Calls prog 4 #[.agg vs.toArray,.int .i64 1048576] w λo w'=>o=.returned (.int .i64 (aH (zU x) 1048576))/\Below w.heap.size w w':=by
 obtain⟨a,l,n,d,r,da,db,m,v,ws,q,⟨⟩⟩:=x;have hcon:iM prog G 4 (lZ pz.sh pz.dh pz.F):=Yx.1;refine(hcon [.sv (.agg (ak.row false adl (a,l,n,d,r,da,db,m,v,ws,q,()))),.sv (.one (.int .i64 1048576))] ((0:Int)<=1048576/\(1048576:Int)<=1048576) ⟨[(false,[.plain (.int .i64 (aH (zU (a,l,n,d,r,da,db,m,v,ws,q,())) 1048576))])],none⟩ 0 (λ_=>True) #[.agg vs.toArray,.int .i64 1048576] w rfl ⟨by decide,by decide⟩ hG ⟨Ja h,⟨rfl,abA (by decide)⟩,trivial⟩).mono ?_;rintro e w' ⟨v,vals,rfl,h1,h2,h3,h4,h5,h6,_,_⟩;have h6:v=.int .i64 _/\_:=h6;exact⟨by rw[h6.1],h1,h2,h3,h4,h5⟩
theorem toX_runs{w:World}(hG:G.ok w){vs:List Value}{x:iE}(h:RXL w (lw w) vs x)(hw:zU x<=big):
 Calls prog 6 #[.agg vs.toArray] w λo w'=>∃us:List Value,o=.returned (.agg us.toArray)/\Below w.heap.size w w'/\RXI w' (New w w') us x:=by
 obtain⟨a,l,n,d,r,da,db,m,v,ws,q,⟨⟩⟩:=x;have hcon:iM prog G 6 (lZ pF.sh pF.dh pF.F):=YI.1;refine(hcon [.sv (.agg (ak.row false adl (a,l,n,d,r,da,db,m,v,ws,q,())))] (zU (a,l,n,d,r,da,db,m,v,ws,q,())<=big) _ 0 (λ_=>True) #[.agg vs.toArray] w rfl hw hG ⟨Ja h,trivial⟩).mono ?_;rintro e w' ⟨v',vals,rfl,h1,h2,h3,h4,h5,h6,_,_⟩;obtain⟨us,rfl,h7⟩:=h6;exact⟨us.toList,rfl,⟨h1,h2,h3,h4,h5⟩,aZ.mono (λb hb=>⟨⟨(hb.2 rfl).1,hb.1.1,(hb.2 rfl).2⟩,rfl⟩) _ _ _ (Ef _ true O3 us.toList (a,l,n,d,r,da,db,m,v,ws,q,()) h7)⟩
theorem amf{w:World}(hG:G.ok w){vs us:List Value}{x:iE}(h:RXI w (lw w) vs x)(k:RXI w (lw w) us x):
 Calls prog 9 #[.agg vs.toArray,.agg us.toArray] w λo w'=>o=.returned (.bool true)/\Below w.heap.size w w':=by
 obtain⟨a,l,n,d,r,da,db,m,v,ws,q,⟨⟩⟩:=x;have hcon:iM prog G 9 (lZ pG.sh pG.dh pG.F):=YS.1;refine(hcon [.sv (.agg (ak.row false O3 (a,l,n,d,r,da,db,m,v,ws,q,()))),.sv (.agg (ak.row false O3 (a,l,n,d,r,da,db,m,v,ws,q,())))] (((a,l,n,d,r,da,db,m,v,ws,q,()):iE)=(a,l,n,d,r,da,db,m,v,ws,q,())) _ 0 (λ_=>True) #[.agg vs.toArray,.agg us.toArray] w rfl rfl hG ⟨Ja h,Ja k,trivial⟩).mono ?_;rintro e w' ⟨v,vals,rfl,h1,h2,h3,h4,h5,h6,_,_⟩;have h6:v=.bool true:=h6;exact⟨by rw[h6],h1,h2,h3,h4,h5⟩
abbrev RS(w:World)(S:Nat->Prop)(v:Value)(l:List (List UInt8×Unit)):Prop:=dW w.heap S (.sl dF fO) v l
theorem YV{w:World}(hG:G.ok w){a b:Value}{l:List (List UInt8×Unit)}(ha:RS w (lw w) a l)(hb:RS w (lw w) b l):
 Calls prog 8 #[a,b] w λo w'=>o=.returned (.bool true)/\Below w.heap.size w w':=by
 have hcon:iM prog G 8 (lZ nV.sh nV.dh nV.F):=Wp.1;refine(hcon [.sv (.one (.sl dF fO l false)),.sv (.one (.sl dF fO l false))] (l=l) _ 0 (λ_=>True) #[a,b] w rfl rfl hG ⟨ad3 ha,ad3 hb,trivial⟩).mono ?_;rintro e w' ⟨v,vals,rfl,h1,h2,h3,h4,h5,h6,_,_⟩;have h6:v=.bool true:=h6;exact⟨by rw[h6],h1,h2,h3,h4,h5⟩
theorem alg{w:World}(hG:G.ok w){a:Value}{l:List (List UInt8×Unit)}(ha:RS w (lw w) a l)(hl:l.length<=4000000):
 Calls prog 12 #[a,.int .i64 1] w λo w'=>o=.returned (.int .i64 (Ip l 1))/\Below w.heap.size w w':=by
 have hcon:iM prog G 12 (lZ lK.sh lK.dh lK.F):=QU.1;refine(hcon [.sv (.one (.sl dF fO l false)),.sv (.one (.int .i64 1))] ((0:Int)<=1/\(1:Int)<=10000000/\l.length<=4000000) ⟨[(false,[.plain (.int .i64 (Ip l 1))])],none⟩ 0 (λ_=>True) #[a,.int .i64 1] w rfl ⟨by decide,by decide,hl⟩ hG ⟨ad3 ha,⟨rfl,abA (by decide)⟩,trivial⟩).mono ?_;rintro e w' ⟨v,vals,rfl,h1,h2,h3,h4,h5,h6,_,_⟩;have h6:v=.int .i64 _/\_:=h6;exact⟨by rw[h6.1],h1,h2,h3,h4,h5⟩
theorem ajR{w:World}(hG:G.ok w){vs:List Value}{x:iE}(h:RXI w (lw w) vs x)(hx:zU x<=1048576):
 Calls prog 5 #[.agg vs.toArray] w λo w'=>∃v,o=.returned v/\Below w.heap.size w w'/\RS w' (New w w') v (F5 x):=by
 obtain⟨a,l,nx,d,r,da,db,m,v,ws,q,⟨⟩⟩:=x;have hcon:iM prog G 5 (lZ kS.sh kS.dh kS.F):=Pv.1;refine(hcon [.sv (.agg (ak.row false O3 (a,l,nx,d,r,da,db,m,v,ws,q,())))] (zU (a,l,nx,d,r,da,db,m,v,ws,q,())<=1048576) _ 0 (λ_=>True) #[.agg vs.toArray] w rfl hx hG ⟨Ja h,trivial⟩).mono ?_;rintro e w' ⟨v',vals,rfl,h1,h2,h3,h4,h5,h6,_,_⟩;exact⟨v',rfl,⟨h1,h2,h3,h4,h5⟩,dW.mono (λb hb=>⟨⟨(hb.2 rfl).1,hb.1.1,(hb.2 rfl).2⟩,rfl⟩) _ _ _ h6⟩
theorem ajS{w:World}(hG:G.ok w){vs:List Value}{x:iE}(h:RXI w (lw w) vs x)(hx:zU x<=1048576):
 Calls prog 7 #[.agg vs.toArray] w λo w'=>∃v,o=.returned v/\Below w.heap.size w w'/\RS w' (New w w') v (F5 x):=by
 obtain⟨a,l,nx,d,r,da,db,m,v,ws,q,⟨⟩⟩:=x;have hcon:iM prog G 7 (lZ kR.sh kR.dh kR.F):=Px.1;refine(hcon [.sv (.agg (ak.row false O3 (a,l,nx,d,r,da,db,m,v,ws,q,())))] (zU (a,l,nx,d,r,da,db,m,v,ws,q,())<=1048576) _ 0 (λ_=>True) #[.agg vs.toArray] w rfl hx hG ⟨Ja h,trivial⟩).mono ?_;rintro e w' ⟨v',vals,rfl,h1,h2,h3,h4,h5,h6,_,_⟩;exact⟨v',rfl,⟨h1,h2,h3,h4,h5⟩,dW.mono (λb hb=>⟨⟨(hb.2 rfl).1,hb.1.1,(hb.2 rfl).2⟩,rfl⟩) _ _ _ h6⟩
end Go.Proofs.Tryz
namespace Go.Proofs.Tryz
open Go Go.Fw Go.RowKit Sp
set_option maxRecDepth 100000
def yI:Nat->Int->List (List UInt8×Unit)
 |0,_=>[]
 |n+1,k=>(Sp.markT k,())::yI n (k+1)
theorem yJ:∀(n:Nat)(k:Int),(yI n k).length=n
 |0,_=>rfl
 |n+1,k=>congrArg (· +1) (yJ n (k+1))
theorem abG:∀(n:Nat)(k:Int)(i:Nat),i<n->(yI n k)[i]? =some (Sp.markT (k+i),())
 |n+1,k,0,_=>by rw[yI,List.getElem?_cons_zero,show k+((0:Nat):Int)=k by omega]
 |n+1,k,i+1,h=>by rw[yI,List.getElem?_cons_succ,abG n (k+1) i (by omega),show k+1+(i:Int)=k+((i+1:Nat):Int) by omega]
theorem Ui:∀(n:Nat)(k:Int),Ip (yI n k) k=k+n
 |0,k=>by show k=k+((0:Nat):Int);omega
 |n+1,k=>by rw[yI,Ip,if_pos rfl,Ui n (k+1)];omega
theorem amg{w:World}{b i:Nat}{u:Value}(v:Value)(h:w.cell? ⟨b,i,none⟩=some u):(w.setCell ⟨b,i,none⟩ v).cell? ⟨b,i,none⟩=some v:=by
 rcases hW:w.heap[b]? with _|o
 .simp[World.cell?,hW]at h
 .cases o with
  |cells cs t fz=>
   rw[bJ hW]at h;rw[bJ (ade hW i v),auK,if_pos (as2.1 h).1]
  |_=>simp[World.cell?,hW]at h
theorem anR{w:World}{b i j:Nat}{u:Value}(v:Value)(hij:i≠j)(h:w.cell? ⟨b,j,none⟩=some u):(w.setCell ⟨b,i,none⟩ v).cell? ⟨b,j,none⟩=some u:=by
 rcases hW:w.heap[b]? with _|o
 .simp[World.cell?,hW]at h
 .cases o with
  |cells cs t fz=>
   rw[bJ hW]at h;rw[bJ (ade hW i v),auR hij,h]
  |_=>simp[World.cell?,hW]at h
theorem cell_below{w w':World}(h:Below w.heap.size w w'){b i:Nat}{u:Value}(hc:w.cell? ⟨b,i,none⟩=some u):w'.cell? ⟨b,i,none⟩=some u:=by
 rcases hW:w.heap[b]? with _|o
 .simp[World.cell?,hW]at hc
 .have:=(h.block b (as2.1 hW).1).trans hW;simp only[World.cell?,hW]at hc;simp only[World.cell?,this,hc]
set_option maxHeartbeats 16000000 in
theorem ajT(W:World)(hG:G.ok W)(P:Nat->Prop)(hP:∀b,P b->G.n<=b)(v:Value)(l:List (List UInt8×Unit))(k:Int)(h:iI W.heap P (.sl dF fO) v l)(hk:0<=k/\k<=10000000)(hl:l.length<=2000000):
 Calls prog 11 #[v,.int .i64 k] W λe w'=>e=.returned (.int .i64 (k+l.length))/\aF P W w'/\RS w' P v (yI l.length k):=by
 have mixed:=Tryz.mixed;have h0:=h;rcases h with⟨rfl,a,c,rfl⟩|⟨b,off,cap,cs,t,fz,rfl,h2,h3,h4,h5,h6⟩
 .clear h0
  go_enter Tryz.func11,Tryz.ntmps11
  go_wp2
  go_loopw [1,5] (λkk i wr=>kk=.int .i64 k/\i=.int .i64 0/\wr=W) (λ_ _ _=>0)
  case atStart=>exact⟨rfl,rfl,rfl⟩
  case round=>
   obtain⟨rfl,rfl,rfl⟩:=hrel
   go_wp2
   all_goals go_ret
   all_goals exact⟨by simp,aF.refl _ _,atl _,.inl ⟨rfl,a,c,rfl⟩⟩
 .clear h4 h5 h6
  go_enter Tryz.func11,Tryz.ntmps11
  go_wp2
  go_loopw [1,5] (λkk i wr=>∃(m:Nat),m<=l.length/\kk=.int .i64 (k+m)/\i=.int .i64 m/\aF P W wr/\∀j:Nat,j<m->wr.cell? ⟨b,off+j,none⟩=some (.string ⟨(Sp.markT (k+j)).toArray⟩))
   (λ_ i _=>l.length-(intOf i).toNat)
  case atStart=>exact⟨0,atl _,by simp,rfl,aF.refl _ _,λj hj=>absurd hj (auS _)⟩
  case round=>
   obtain⟨m,hm,rfl,rfl,hst,ZU⟩:=hrel;rcases atm m l.length with hlt|hge
   .have hlt':((m:Nat):Int)<l.length:=by omega
    obtain⟨x,hx⟩:∃x,l[m]? =some x:=⟨_,as5 hlt⟩;have call:=BH (k+m) (by omega) (hst.jf hG hP)
    go_wp2_with (first
     |(go_at_call 38;refine atr call ?_;clear call;rintro o w2 ⟨rfl,hb2⟩;have st2:=hst.trans (aF.of (P:=P) hb2);rcases h0.keep st2 with⟨rfl,_⟩|⟨b',off',cap',cs',t',fz',e,_,_,k4,k5,k6⟩;cases hx;cases e;obtain⟨u0,_,q,s0,_⟩:=k6 m x hx;have c0:cs'[off+m]? =some u0:=(congrArg (cs'[·]?) (show off+m=off+m*1+0 by omega)).trans (dG q rfl);have z0:=iQ k4 (k5 _ (as2.1 c0).1);have d0:w2.cell? ⟨b,off+m,none⟩=some u0:=(bJ k4 _).trans c0;have st3:=st2.trans (aF.set (.string ⟨(Sp.markT (k+m)).toArray⟩) d0 s0 h3 trivial);have hf3:∀j:Nat,j<m+1->(w2.setCell ⟨b,off+m,none⟩ (.string ⟨(Sp.markT (k+m)).toArray⟩)).cell? ⟨b,off+j,none⟩=some (.string ⟨(Sp.markT (k+j)).toArray⟩):=(λj hj=>by
        rcases atm j m with hjm|hjm
        .exact anR _ (by omega) (cell_below hb2 (ZU j hjm))
        .obtain rfl:j=m:=by omega
         exact amg _ d0);clear q k4 k5 k6 c0 h0 ZU))
    refine⟨⟨m+1,hlt,congrArg _ (by omega),rfl,st3,hf3⟩,?_⟩;simp only[intOf];omega
   .have hge':¬((m:Nat):Int)<l.length:=by omega
    obtain rfl:m=l.length:=by omega
    have hrs:RS wr P (.slice (some ⟨b,off,none⟩) l.length cap) (yI l.length k):=by
     rcases h0.keep hst with⟨rfl,_⟩|⟨b',off',cap',cs',t',fz',e,_,_,k4,_,_⟩
     .exact⟨atl _,.inl ⟨rfl,_,_,rfl⟩⟩
     cases e;refine⟨by rw[yJ,maxLen_eq];omega,.inr ⟨b,off,cap,cs',t',fz',by rw[yJ],by rw[yJ];exact h2,h3,k4,λi x hx=>?_⟩⟩;have hi:i<l.length:=by have:=(ath.1 hx).1;rw[yJ]at this;exact this
     rw[abG _ _ i hi]at hx;cases hx;have hc:=ZU i hi;rw[bJ k4]at hc;obtain⟨hl1,e1⟩:=as2.1 hc;refine⟨_,[],?_,⟨rfl,ale _ (by omega)⟩,rfl⟩;rw[show off+i*fO.len=off+i from by show off+i*1=_;omega,ava (by simpa using hl1),Array.getElem_toList,e1];rfl
    clear h0 ZU
    go_wp2
    all_goals go_ret
    all_goals exact⟨rfl,hst,hrs⟩
theorem eleven{w:World}{g:Nat}{x0 x1 x2 x3 x4 x5 x6 x7 x8 x9 x10:Value}{t:TypeId}{fz:Nat×Nat}(h:w.heap[g]? =some (.cells #[x0,x1,x2,x3,x4,x5,x6,x7,x8,x9,x10] t fz)):
 w.cell? ⟨g,0,none⟩=some x0/\w.cell? ⟨g,1,none⟩=some x1/\w.cell? ⟨g,2,none⟩=some x2/\w.cell? ⟨g,3,none⟩=some x3/\w.cell? ⟨g,4,none⟩=some x4/\w.cell? ⟨g,5,none⟩=some x5/\w.cell? ⟨g,6,none⟩=some x6/\w.cell? ⟨g,7,none⟩=some x7/\w.cell? ⟨g,8,none⟩=some x8/\w.cell? ⟨g,9,none⟩=some x9/\w.cell? ⟨g,10,none⟩=some x10:=
 ⟨bJ h 0,bJ h 1,bJ h 2,bJ h 3,bJ h 4,bJ h 5,bJ h 6,bJ h 7,bJ h 8,bJ h 9,bJ h 10⟩
theorem anS{n:Nat}(h:0<=aH n 1048576):n<=1048576:=by unfold aH at h;split at h<;>omega
end Go.Proofs.Tryz
namespace Go.Proofs.Tryz
open Go Go.Fw Go.RowKit Sp
set_option maxRecDepth 100000
theorem alh(s:aT)(d:List ay)(u:Int):(Sp.aj s d u).length<=5:=by
 cases hk:(dR s d u).2 with
 |true=>
  rw[IW hk,atb];unfold dR at hk;cases h1:aI d with
  |true=>exact(Py.1 (Fp h1)).2.2
  |false=>rw[h1,auH,aub]at hk;cases hk
 |false=>rw[LD hk];exact atl _
theorem abH(s:aT)(d:List ay):∀n,(oh s d n).length<=n*6
 |0=>atl _
 |n+1=>by have h1:=abH s d n;have h2:=alh s d (n:Int);show(oh s d n++_::Sp.aj s d n).length<=_;rw[as4,asY,at1];omega
theorem ali{x:iE}(h:zU x<=1048576):(F5 x).length<=2000000:=by obtain⟨a,l,n,d,r,da,db,m,v,ws,q,⟨⟩⟩:=x;have h1:=abH (a,l,n,()) d 3;have h2:=DK ws;have h3:=(YW h).2;show(_::(oh (a,l,n,()) d 3++jo ws)).length<=_;rw[asY,as4];omega
theorem Gz{α:Type}{f g:α->Nat}(h:∀x,f x<=10*(1+g x)):∀l:List α,cnt f l<=10*fB g l
 |[]=>as7 _
 |x::l=>by have h1:=Gz h l;have h2:=h x;show f x+cnt f l<=10*(1+g x+fB g l);omega
theorem ane(l:List dI):cnt fD l<=10*o9 l:=Gz (λ⟨_,_,_⟩=>by show 2<=_;omega) l
theorem w_at(l:List dK):cnt Fh l<=10*zV l:=Gz (λ⟨_,_,_,_,_⟩=>by show 4<=_;omega) l
theorem apX(l:List aS):cnt zI l<=10*Cj l:=Gz (λ⟨_,_,_,_,_,_,_,_⟩=>by show 7<=_;omega) l
theorem VB:∀l:List (Int×Unit),cnt mW l=l.length
 |[]=>rfl
 |_::l=>by show 1+cnt mW l=l.length+1;rw[VB l];omega
theorem anf(l:List aA):cnt fJ l<=10*Cm l:=Gz (λ⟨_,_,_,_,at',_⟩=>by have h:=w_at at';show 4+cnt Fh at'<=10*(1+zV at');omega) l
theorem ang(l:List ay):cnt iC l<=10*qA l:=Gz (λ⟨nm,q,_⟩=>by have h:=apX q;show 1+cnt zI q<=10*(1+(nm.length+Cj q));omega) l
theorem apY(l:List bK):cnt ku l<=10*Ez l:=Gz (λ⟨nm,q,_⟩=>by have h:=VB q;show 1+cnt mW q<=10*(1+(nm.length+q.length));omega) l
theorem apZ(l:List jA):cnt pR l<=10*uY l:=Gz (λ⟨_,a,f,_,d,_,_⟩=>by have h1:=ane a;have h2:=anf f;have h3:=ang d;show 3+cnt fD a+cnt fJ f+cnt iC d<=10*(1+((o9 a+Cm f)+qA d));omega) l
theorem arA(l:List yu):cnt Fj l<=10*DZ l:=Gz (λ⟨_,a,b,_⟩=>by have h1:=VB a;have h2:=VB b;show 1+cnt mW a+cnt mW b<=10*(1+(a.length+b.length));omega) l
theorem ap0(l:List iw):cnt ug l<=10*pq l:=Gz (λ⟨_,nm,q,e,_⟩=>by have h1:=VB q;have h2:=arA e;show 2+cnt mW q+cnt Fj e<=10*(1+(nm.length+(q.length+DZ e)));omega) l
theorem alj{a:List dI}{l:List aA}{n:Int}{d:List ay}{r:List bK}{da db:List UInt8}{m:Int}{v:List jA}{ws:List iw}{q:List (Int×Unit)}(h:zU (a,l,n,d,r,da,db,m,v,ws,q,())<=1048576):
 cnt fD a+cnt fJ l+cnt iC d+cnt ku r+cnt pR v+cnt ug ws+cnt mW q<=90000000:=by
 have h:((o9 a+Cm l)+(qA d+Ez r))+((da.length+db.length)+(uY v+(pq ws+q.length)))<=1048576:=h;have h1:=ane a;have h2:=anf l;have h3:=ang d;have h4:=apY r;have h5:=apZ v;have h6:=ap0 ws;have h7:=VB q;omega
set_option maxHeartbeats 32000000 in
theorem amh(W:World)(hG:G.ok W){a:List dI}{l:List aA}{n:Int}{d:List ay}{r:List bK}{da db:List UInt8}{m:Int}{v:List jA}{ws:List iw}{q:List (Int×Unit)}{vs:List Value}(hx:RXL W (lw W) vs (a,l,n,d,r,da,db,m,v,ws,q,())):
 Calls prog 3 #[.agg vs.toArray] W λe w'=>e=.returned (.bool true)/\Below W.heap.size W w':=by
 have mixed:=Tryz.mixed;have hx':∀{w},Below W.heap.size W w->RXL w (lw w) vs _:=λk=>anQ hx k;obtain⟨a0,c0,a1,c1,a3,c3,a4,c4,a8,c8,a9,c9,a10,c10,rfl⟩:=alf hx;have g0:∀{w},Below W.heap.size W w->G.ok w:=λk=>anO hG k;have ad7:∀o,Below W.heap.size W (W.alloc o):=λo=>(Below.refl _ _).alloc (as7 _) o;have sz:=λo=>ame (g0 (ad7 o)) (hx' (ad7 o));have hSz:∃S,S=aH (zU (a,l,n,d,r,da,db,m,v,ws,q,())) 1048576:=⟨_,rfl⟩;obtain⟨S,hSz⟩:=hSz;rw[← hSz]at sz;rcases Int.lt_or_le S 0 with hneg|hpos
 .clear hSz hx hx'
  go_enter Tryz.func3,Tryz.ntmps3
  go_wp2_with (first
   |(go_at_call 4;refine atr (sz _) ?_;rintro e w1 ⟨rfl,hb1⟩;have aho:=(ad7 _).trans (hb1.mono (ad7 _).size)))
  all_goals go_ret
  all_goals exact⟨rfl,aho⟩
 .rw[hSz]at hpos;have hW:=anS hpos;rw[← hSz]at hpos;clear hSz;have hpos:¬S<0:=by omega
  have hM:=alj hW;have toX:=λ{w:World}(k:Below W.heap.size W w)=>toX_runs (g0 k) (hx' k) (by rw[dm];omega);have eqX:=λ{w:World}{vs us:List Value}(k:Below W.heap.size W w)(i:RXI w (lw w) vs (a,l,n,d,r,da,db,m,v,ws,q,()))(j:RXI w (lw w) us (a,l,n,d,r,da,db,m,v,ws,q,()))=>amf (g0 k) i j;have ajU:=λ{w:World}{vs:List Value}(k:Below W.heap.size W w)(i:RXI w (lw w) vs (a,l,n,d,r,da,db,m,v,ws,q,()))=>ajR (g0 k) i hW;have ajV:=λ{w:World}{vs:List Value}(k:Below W.heap.size W w)(i:RXI w (lw w) vs (a,l,n,d,r,da,db,m,v,ws,q,()))=>ajS (g0 k) i hW;have hl:=ali hW;obtain⟨tx,htx⟩:∃tx,tx=F5 (a,l,n,d,r,da,db,m,v,ws,q,()):=⟨_,rfl⟩;rw[← htx]at ajU ajV hl;clear htx hW;obtain⟨M,hMe⟩:∃M,M=cnt fD a+cnt fJ l+cnt iC d+cnt ku r+cnt pR v+cnt ug ws+cnt mW q:=⟨_,rfl⟩;have marks:∀{w:World}{P:Nat->Prop}{b0 e0 b1 e1 b3 e3 b4 e4 b8 e8 b9 e9 b10 e10},Below W.heap.size W w->(∀b,P b->W.heap.size<=b/\b<w.heap.size)->ShR w.heap P O3 [.slice b0 a.length e0,.slice b1 l.length e1,.int .i64 n,.slice b3 d.length e3,.slice b4 r.length e4,.string ⟨da.toArray⟩,.string ⟨db.toArray⟩,.int .i64 m,.slice b8 v.length e8,.slice b9 ws.length e9,.slice b10 q.length e10] ((a,l,n,d,r,da,db,m,v,ws,q,()):iE)->Calls prog 10 #[.agg #[.slice b0 a.length e0,.slice b1 l.length e1,.int .i64 n,.slice b3 d.length e3,.slice b4 r.length e4,.string ⟨da.toArray⟩,.string ⟨db.toArray⟩,.int .i64 m,.slice b8 v.length e8,.slice b9 ws.length e9,.slice b10 q.length e10],.int .i64 1] w λe w'=>e=.returned (.int .i64 (1+M))/\aF P w w':=by intro w P b0 e0 b1 e1 b3 e3 b4 e4 b8 e8 b9 e9 b10 e10 k hP hs;obtain⟨v0,_,q0,f0,v1,_,rfl,f1,v2,_,rfl,f2,v3,_,rfl,f3,v4,_,rfl,f4,v5,_,rfl,f5,v6,_,rfl,f6,v7,_,rfl,f7,v8,_,rfl,f8,v9,_,rfl,f9,v10,_,rfl,f10,rfl⟩:=hs;cases q0;refine(abD (g0 k) (P:=P) (λb hb=>⟨as3 (G.low W hG) (hP b hb).1,(hP b hb).2⟩) n _ _ m 1 f0 f1 f3 f4 f8 f9 f10 ⟨by decide,by omega⟩).mono ?_;rintro e w' ⟨rfl,e2⟩;exact⟨congrArg (λz:Int=>Ending.returned (.int .i64 z)) (by omega),e2⟩
  have hM:M<=90000000:=by omega
  clear hMe;have hk0:¬1+(M:Int)<0:=by omega
  have anh:=λ{w:World}{v:Value}(k:G.ok w)(r:RS w (lw w) v (yI tx.length 1))=>(Ui tx.length 1)▸alg k r (by rw[yJ];omega);have tk1:=Tok.mk 1
  go_enter Tryz.func3,Tryz.ntmps3
  go_wp2_with (first
   |(go_at_call 4;have _:=tk1;refine atr (sz _) ?_;rintro e w1 ⟨rfl,hb1⟩;have aho:=(ad7 _).trans (hb1.mono (ad7 _).size);have bx1:=(hb1.block _ (by simp)).trans (auc W _);obtain⟨d0,d1,d2,d3,d4,d5,d6,d7,d8,d9,d10⟩:=eleven bx1;clear tk1 sz;have tk2:=Tok.mk 2)
   |(go_at_call 6;have _:=tk2;refine atr (toX aho) ?_;rintro e w2 ⟨us,rfl,hb2,ri⟩;have m2:Mem w2 [.box W.heap.size _]:=Mem.below hb2 ⟨bx1,trivial⟩;have ami:=aho.trans (hb2.mono aho.size);clear bx1 d0 d1 d2 d3 d4 d5 d6 d7 d8 d9 d10;clear tk2;have tk3:=Tok.mk 3)
   |(go_at_call 5;have _:=tk3;refine atr (ajU ami (kM.ltR (kM.newR ri))) ?_;rintro e w3 ⟨v0,rfl,hb3,rs⟩;have m3:Mem w3 [.box W.heap.size _]:=m2.below hb3;have YX:=ami.trans (hb3.mono ami.size);obtain⟨d0,d1,d2,d3,d4,d5,d6,d7,d8,d9,d10⟩:=eleven m3.1;obtain⟨aw,cw,rfl⟩:=mZ rs;have m3:Mem w3 [.box W.heap.size _,.tree _ _ _ _ _]:=⟨m3.1,kM.new rs,trivial⟩;have h03:=(as2.1 m3.1).1;clear tk3 ri m2 rs ajU;have tk4:=Tok.mk 4)
   |(go_at_call 6;have _:=tk4;refine atr (toX YX) ?_;rintro e w4 ⟨us,rfl,hb4,ri⟩;have low4:=λo=>(YX.trans (hb4.mono YX.size)).alloc (YX.trans (hb4.mono YX.size)).size o;obtain⟨b0,e0,b1,e1,b3,e3,b4,e4,b8,e8,b9,e9,b10,e10,rfl⟩:=amd ri;have m4:∀o,Mem (w4.alloc o) [.box W.heap.size _,.tree _ _ _ _ _,.row _ _ _ _ _]:=λo=>Mem.below ((Below.refl _ _).alloc (as7 _) o) (have q:=m3.below hb4;⟨q.1,q.2.1,kM.newR ri,trivial⟩);have h34:=hb4.size;have h45:∀o:Obj,w4.heap.size<=(w4.alloc o).heap.size:=(λo=>by simp);clear tk4 m3 ri d0 d1 d2 d3 d4 d5 d6 d7 d8 d9 d10;have tk5:=Tok.mk 5)
   |(go_at_call 7;have _:=tk5;refine atr (ajV (low4 _) (kM.ltR (m4 _).2.2.1)) ?_;rintro e w5 ⟨g,rfl,hb5,rg⟩;have amj:=(low4 _).trans (hb5.mono (low4 _).size);have bx5:=(hb5.block _ (by simp)).trans (auc w4 _);obtain⟨ag,cg,rfl⟩:=mZ rg;have m5:Mem w5 [.box W.heap.size _,.tree _ _ _ _ _,.row _ _ _ _ _,.box w4.heap.size _,.tree _ _ _ _ _]:=(have q:=(m4 _).below hb5;⟨q.1,q.2.1,q.2.2.1,bx5,kM.new rg,trivial⟩);clear tk5 m4 rg bx5;have tk6:=Tok.mk 6)
   |(go_at_call 8;have _:=tk6;refine atr (YV (g0 amj) (kM.lt m5.2.2.2.2.1) (kM.lt m5.2.1)) ?_;rintro e w6 ⟨rfl,hb6⟩;have amk:=amj.trans (hb6.mono amj.size);have m6:=m5.below hb6;obtain⟨d0,d1,d2,d3,d4,d5,d6,d7,d8,d9,d10⟩:=eleven m6.1;obtain⟨y0,y1,y2,y3,y4,y5,y6,y7,y8,y9,Xr⟩:=eleven m6.2.2.2.1;clear tk6 m5;have tk7:=Tok.mk 7))
  go_region_held3 (λw'=>(w'.cell? ⟨W.heap.size,0,none⟩=some (.slice a0 a.length c0)/\w'.cell? ⟨W.heap.size,1,none⟩=some (.slice a1 l.length c1)/\w'.cell? ⟨W.heap.size,2,none⟩=some (.int .i64 n)/\w'.cell? ⟨W.heap.size,3,none⟩=some (.slice a3 d.length c3)/\w'.cell? ⟨W.heap.size,4,none⟩=some (.slice a4 r.length c4)/\w'.cell? ⟨W.heap.size,5,none⟩=some (.string ⟨da.toArray⟩)/\w'.cell? ⟨W.heap.size,6,none⟩=some (.string ⟨db.toArray⟩)/\w'.cell? ⟨W.heap.size,7,none⟩=some (.int .i64 m)/\w'.cell? ⟨W.heap.size,8,none⟩=some (.slice a8 v.length c8)/\w'.cell? ⟨W.heap.size,9,none⟩=some (.slice a9 ws.length c9)/\w'.cell? ⟨W.heap.size,10,none⟩=some (.slice a10 q.length c10))/\
   w'.cell? ⟨w4.heap.size,0,none⟩=some (.slice b0 a.length e0)/\w'.cell? ⟨w4.heap.size,1,none⟩=some (.slice b1 l.length e1)/\w'.cell? ⟨w4.heap.size,2,none⟩=some (.int .i64 n)/\w'.cell? ⟨w4.heap.size,3,none⟩=some (.slice b3 d.length e3)/\w'.cell? ⟨w4.heap.size,4,none⟩=some (.slice b4 r.length e4)/\w'.cell? ⟨w4.heap.size,5,none⟩=some (.string ⟨da.toArray⟩)/\w'.cell? ⟨w4.heap.size,6,none⟩=some (.string ⟨db.toArray⟩)/\w'.cell? ⟨w4.heap.size,7,none⟩=some (.int .i64 m)/\w'.cell? ⟨w4.heap.size,8,none⟩=some (.slice b8 v.length e8)/\w'.cell? ⟨w4.heap.size,9,none⟩=some (.slice b9 ws.length e9)/\w'.cell? ⟨w4.heap.size,10,none⟩=some (.slice b10 q.length e10))
   (first|exact⟨eleven m8.1,eleven m8.2.2.2.1⟩|exact⟨eleven m7.1,eleven m7.2.2.2.1⟩|exact⟨eleven m6.1,eleven m6.2.2.2.1⟩)
   (first
     |(go_at_call 6;refine atr (toX amk.drew) ?_;rintro e w7 ⟨us,rfl,hb7,ri⟩;have ad8:=amk.drew.trans (hb7.mono amk.size);have m7:=(Mem.below ((Below.refl _ w6).drew) m6).below hb7)
     |(go_at_call 9;refine atr (eqX ad8 (kM.ltR m7.2.2.1) (kM.ltR (kM.newR ri))) ?_;rintro e w8 ⟨rfl,hb8⟩;have ajW:=ad8.trans (hb8.mono ad8.size);have m8:=m7.below hb8)
     |(go_at_call 9;refine atr (eqX ad8.drew (kM.ltR m7.2.2.1) (kM.ltR (kM.newR ri))) ?_;rintro e w8 ⟨rfl,hb8⟩;have ajW:=ad8.drew.trans (hb8.mono ad8.size);have m8:=(Mem.below ((Below.refl _ w7).drew) m7).below hb8))
  clear eqX;obtain⟨y0,y1,y2,y3,y4,y5,y6,y7,y8,y9,Xr⟩:=eleven m8.2.2.2.1;have tk9:=Tok.mk 9
  go_wp2_with (first
   |(go_at_call 10;have _:=tk9;refine atr (marks (P:=Rg w8 w3.heap.size w4.heap.size) ajW (λb hb=>⟨as3 YX.size hb.1,ati hb.2.1 m8.2.2.1.1⟩) (kM.aok m8.2.2.1)) ?_;rintro e w9 ⟨rfl,s9⟩;have aml:=ag2 ajW s9 ajW.size (λb hb=>as3 YX.size hb.1);have m9:Mem w9 [.box W.heap.size _,.tree _ _ _ _ _,.tree _ _ _ _ _]:=Mem.soft s9 ⟨m8.1,m8.2.1,m8.2.2.2.2.1,trivial⟩ ⟨λhb=>au9.2 hb.1 h03,λb hb=>by have:=hb.1;omega,λb hb hc=>au9.2 (as3 (h45 _) hc.1) hb.2.1,trivial⟩;clear tk9 m8 marks y0 y1 y2 y3 y4 y5 y6 y7 y8 y9 Xr;have aoC:=Tok.mk 10)
   |(go_at_call 8;have _:=aoC;refine atr (YV (g0 aml) (kM.lt m9.2.2.1) (kM.lt m9.2.1)) ?_;rintro e w10 ⟨rfl,aoD⟩;have ajX:=aml.trans (aoD.mono aml.size);have m10:=m9.below aoD;clear aoC m9;have aoE:=Tok.mk 11)
   |(go_at_call 11;have _:=aoE;refine atr (ajT w10 (g0 ajX) _ (λb hb=>as3 (as3 (G.low W hG) (low4 _).size) hb.1) _ _ 1 (kM.shape m10.2.2.1) (by omega) hl) ?_;rintro e w11 ⟨rfl,s11,rg⟩;have ajY:=ag2 ajX s11 ajX.size (λb hb=>as3 (low4 _).size hb.1);have m11:Mem w11 [.box W.heap.size _,.tree _ _ _ _ _]:=Mem.soft s11 ⟨m10.1,m10.2.1,trivial⟩ ⟨λhb=>au9.2 (as3 h34 (as3 (h45 _) hb.1)) h03,λb hb hc=>au9.2 (as3 h34 (as3 (h45 _) hb.1)) hc.2,trivial⟩;have rg:RS w11 (lw w11) _ _:=dW.mono (λb hb=>⟨ati hb.2.1 (as3 m10.2.2.1.1 s11.size),rfl⟩) _ _ _ rg;clear aoE m10;have aoG:=Tok.mk 12)
   |(go_at_call 12;have _:=aoG;refine atr (anh (g0 ajY) rg) ?_;rintro e w12 ⟨rfl,ajZ⟩;have aj0:=ajY.trans (ajZ.mono ajY.size);have m12:=m11.below ajZ;have rg2:RS w12 (lw w12) _ _:=dW.mono (λb hb=>⟨ati hb ajZ.size,ajZ.block b hb⟩) _ _ _ rg;obtain⟨d0,d1,d2,d3,d4,d5,d6,d7,d8,d9,d10⟩:=eleven m12.1;clear aoG m11 rg;have aoH:=Tok.mk 13)
   |(go_at_call 6;have _:=aoH;refine atr (toX aj0) ?_;rintro e w13 ⟨us,rfl,aj1,ri⟩;have aj2:=aj0.trans (aj1.mono aj0.size);have m13:=m12.below aj1;have rg3:RS w13 (lw w13) _ _:=dW.mono (λb hb=>⟨ati hb aj1.size,aj1.block b hb⟩) _ _ _ rg2;clear aoH m12 d0 d1 d2 d3 d4 d5 d6 d7 d8 d9 d10 rg2;have aoI:=Tok.mk 14)
   |(go_at_call 7;have _:=aoI;refine atr (ajV aj2 (kM.ltR (kM.newR ri))) ?_;rintro e w14 ⟨h0,rfl,aj3,rh⟩;have aj6:=aj2.trans (aj3.mono aj2.size);have m14:=m13.below aj3;have rg4:RS w14 (lw w14) _ _:=dW.mono (λb hb=>⟨ati hb aj3.size,aj3.block b hb⟩) _ _ _ rg3;clear aoI m13 rg3 ri;have aoJ:=Tok.mk 15)
   |(go_at_call 8;have _:=aoJ;refine atr (YV (g0 aj6) (kM.lt (kM.new rh)) (kM.lt m14.2.1)) ?_;rintro e w15 ⟨rfl,amm⟩;have aj7:=aj6.trans (amm.mono aj6.size);have rg5:RS w15 (lw w15) _ _:=dW.mono (λb hb=>⟨ati hb amm.size,amm.block b hb⟩) _ _ _ rg4;clear aoJ m14 rh rg4;have aoK:=Tok.mk 16)
   |(go_at_call 12;have _:=aoK;refine atr (anh (g0 aj7) rg5) ?_;rintro e w16 ⟨rfl,hb16⟩;have ap1:=aj7.trans (hb16.mono aj7.size);clear aoK;have asI:=Tok.mk 17))
  all_goals go_ret
  all_goals exact⟨rfl,ap1⟩
theorem Hu:iM prog G 3 (lZ [.v (.agg [.l cZ cu,.l dJ jE,.i,.l fE lW,.l gJ iy,.s,.s,.i,.l ji HY,.l kY H6,.l bg dN])] [.one .bool] λ_=>(True,true,()))/\True:=by
 refine⟨?_,trivial⟩;intro args p out k S vs w hcon hp hG hrep;unfold lZ Dz at hcon;split at hcon
 .next x hx=>
  revert x;show∀x:iE×Unit,_;rintro⟨⟨a,l,n,d,r,da,db,m,v,ws,q,⟨⟩⟩,⟨⟩⟩ hx hcon;have hv:=Td [.v (.agg [.l cZ cu,.l dJ jE,.i,.l fE lW,.l gJ iy,.s,.s,.i,.l ji HY,.l kY H6,.l bg dN])] args _ vs.toList hx hrep
  match hvs:vs.toList,hv with
  |[v1],hv=>
   obtain⟨⟨us,e1,hu⟩,_⟩:=hv;have hrow:=aZ.mono (S':=lw w) (λb hb=>⟨hb.1.1,rfl⟩) _ _ _ (Ef _ false adl us.toList (a,l,n,d,r,da,db,m,v,ws,q,()) hu);have e2:vs=#[.agg us.toList.toArray]:=by obtain⟨l⟩:=vs;simp at hvs;rw[hvs,e1]
   subst e2;have hF:=Option.some.inj hcon;have hout:out=⟨[(false,[.plain (.bool true)])],none⟩:=(congrArg Prod.snd hF).symm;subst hout;refine(amh w hG hrow).mono ?_;rintro e w' ⟨rfl,hb⟩;exact⟨_,λ_=>undef,rfl,hb.os,hb.tape,hb.output,hb.size,hb.block,rfl,(λo x hx=>by cases hx),(λo x q y b hx=>by cases hx)⟩
 .cases hcon
end Go.Proofs.Tryz
