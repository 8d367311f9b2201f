import Derived.Test.YtjomchafleahdaaGreatP140
import Derived.Deep.RegionHeld3
namespace Go.Proofs.Tryz
open Go Go.Fw Go.RowKit Sp
set_option maxRecDepth 100000
abbrev lw(w:World)(b:Nat):Prop:=b<w.heap.size
theorem H7{w:World}{r:ak}{vs:List Value}{x:r.den}(h:aX w.heap (lw w) r vs x):lY (VW w) (.sv (.agg (ak.row false r x))) (.agg vs.toArray):=
 ⟨vs.toArray,rfl,Ls (VW w) false r vs x (aX.mono (λb hb=>⟨⟨⟨hb,λ_=>trivial,λo x hx=>by cases hx⟩,λe=>by cases e⟩,rfl⟩) r vs x h)⟩
theorem al9{W w:World}{r:ak}{vs:List Value}{x:r.den}(h:aX W.heap (lw W) r vs x)(k:Below W.heap.size W w):aX w.heap (lw w) r vs x:=
 aX.mono (λb hb=>⟨ari hb k.size,k.block b hb⟩) r vs x h
theorem akz{h:Array Obj}{S:Nat->Prop}{vs:List Value}{a l n d r da db m v ws q}(H:aX h S NV vs (a,l,n,d,r,da,db,m,v,ws,q,())):
 ∃a0 c0 a1 c1 a3 c3 a4 c4 a8 c8 a9 c9 a10 c10,vs=[.slice a0 (List.length a) c0,.slice a1 (List.length l) c1,.int .i64 n,.slice a3 (List.length d) c3,.slice a4 (List.length r) c4,.string ⟨List.toArray da⟩,.string ⟨List.toArray db⟩,.int .i64 m,.slice a8 (List.length v) c8,.slice a9 (List.length ws) c9,.slice a10 (List.length q) c10]:=by
 obtain⟨v0,_,rfl,h0,v1,_,rfl,h1,v2,_,rfl,h2,v3,_,rfl,h3,v4,_,rfl,h4,v5,_,rfl,h5,v6,_,rfl,h6,v7,_,rfl,h7,v8,_,rfl,h8,v9,_,rfl,h9,v10,_,rfl,h10,rfl⟩:=H;obtain⟨a0,c0,rfl⟩:=mF h0;obtain⟨a1,c1,rfl⟩:=mF h1;obtain⟨a3,c3,rfl⟩:=mF h3;obtain⟨a4,c4,rfl⟩:=mF h4;obtain⟨a8,c8,rfl⟩:=mF h8;obtain⟨a9,c9,rfl⟩:=mF h9;obtain⟨a10,c10,rfl⟩:=mF h10;rw[h2.1,h5.1,h6.1,h7.1];exact⟨a0,c0,a1,c1,a3,c3,a4,c4,a8,c8,a9,c9,a10,c10,rfl⟩
theorem ajJ{h:Array Obj}{S:Nat->Prop}{vs:List Value}{a l n d r da db m v ws q}(H:aX h S abM vs (a,l,n,d,r,da,db,m,v,ws,q,())):
 ∃a0 c0 a1 c1 a3 c3 a4 c4 a8 c8 a9 c9 a10 c10,vs=[.slice a0 (List.length a) c0,.slice a1 (List.length l) c1,.int .i64 n,.slice a3 (List.length d) c3,.slice a4 (List.length r) c4,.string ⟨List.toArray da⟩,.string ⟨List.toArray db⟩,.int .i64 m,.slice a8 (List.length v) c8,.slice a9 (List.length ws) c9,.slice a10 (List.length q) c10]:=by
 obtain⟨v0,_,rfl,h0,v1,_,rfl,h1,v2,_,rfl,h2,v3,_,rfl,h3,v4,_,rfl,h4,v5,_,rfl,h5,v6,_,rfl,h6,v7,_,rfl,h7,v8,_,rfl,h8,v9,_,rfl,h9,v10,_,rfl,h10,rfl⟩:=H;obtain⟨a0,c0,rfl⟩:=mF h0;obtain⟨a1,c1,rfl⟩:=mF h1;obtain⟨a3,c3,rfl⟩:=mF h3;obtain⟨a4,c4,rfl⟩:=mF h4;obtain⟨a8,c8,rfl⟩:=mF h8;obtain⟨a9,c9,rfl⟩:=mF h9;obtain⟨a10,c10,rfl⟩:=mF h10;rw[h2.1,h5.1,h6.1,h7.1];exact⟨a0,c0,a1,c1,a3,c3,a4,c4,a8,c8,a9,c9,a10,c10,rfl⟩
abbrev RXI(w:World)(S:Nat->Prop)(vs:List Value)(x:iD):Prop:=aX w.heap S NV vs x
abbrev RXL(w:World)(S:Nat->Prop)(vs:List Value)(x:iD):Prop:=aX w.heap S abM vs x
theorem akA{w:World}(hG:G.ok w){vs:List Value}{x:iD}(h:RXL w (lw w) vs x):
 Calls prog 4 #[.agg vs.toArray,.int .i64 1048576] w λo w'=>o=.returned (.int .i64 (aH (Ns x) 1048576))/\Below w.heap.size w w':=by
 obtain⟨a,l,n,d,r,da,db,m,v,ws,q,⟨⟩⟩:=x;have hcon:ja prog G 4 (nV oJ.sh oJ.bZ oJ.F):=WZ.1;refine(hcon [.sv (.agg (ak.row false abM (a,l,n,d,r,da,db,m,v,ws,q,()))),.sv (.one (.int .i64 1048576))] ((0:Int)<=1048576/\(1048576:Int)<=1048576) ⟨[(false,[.plain (.int .i64 (aH (Ns (a,l,n,d,r,da,db,m,v,ws,q,())) 1048576))])],none⟩ 0 (λ_=>True) #[.agg vs.toArray,.int .i64 1048576] w rfl ⟨by decide,by decide⟩ hG ⟨H7 h,⟨rfl,Sl (by decide)⟩,trivial⟩).mono ?_;rintro e w' ⟨v,vals,rfl,h1,h2,h3,h4,h5,h6,_,_⟩;have h6:v=.int .i64 _/\_:=h6;exact⟨by rw[h6.1],h1,h2,h3,h4,h5⟩
theorem toX_runs{w:World}(hG:G.ok w){vs:List Value}{x:iD}(h:RXL w (lw w) vs x)(hw:Ns x<=big):
 Calls prog 6 #[.agg vs.toArray] w λo w'=>∃us:List Value,o=.returned (.agg us.toArray)/\Below w.heap.size w w'/\RXI w' (New w w') us x:=by
 obtain⟨a,l,n,d,r,da,db,m,v,ws,q,⟨⟩⟩:=x;have hcon:ja prog G 6 (nV oK.sh oK.bZ oK.F):=Xj.1;refine(hcon [.sv (.agg (ak.row false abM (a,l,n,d,r,da,db,m,v,ws,q,())))] (Ns (a,l,n,d,r,da,db,m,v,ws,q,())<=big) _ 0 (λ_=>True) #[.agg vs.toArray] w rfl hw hG ⟨H7 h,trivial⟩).mono ?_;rintro e w' ⟨v',vals,rfl,h1,h2,h3,h4,h5,h6,_,_⟩;obtain⟨us,rfl,h7⟩:=h6;exact⟨us.toList,rfl,⟨h1,h2,h3,h4,h5⟩,aX.mono (λb hb=>⟨⟨(hb.2 rfl).1,hb.1.1,(hb.2 rfl).2⟩,rfl⟩) _ _ _ (Dv _ true NV us.toList (a,l,n,d,r,da,db,m,v,ws,q,()) h7)⟩
theorem akB{w:World}(hG:G.ok w){vs us:List Value}{x:iD}(h:RXI w (lw w) vs x)(k:RXI w (lw w) us x):
 Calls prog 9 #[.agg vs.toArray,.agg us.toArray] w λo w'=>o=.returned (.bool true)/\Below w.heap.size w w':=by
 obtain⟨a,l,n,d,r,da,db,m,v,ws,q,⟨⟩⟩:=x;have hcon:ja prog G 9 (nV oL.sh oL.bZ oL.F):=Xu.1;refine(hcon [.sv (.agg (ak.row false NV (a,l,n,d,r,da,db,m,v,ws,q,()))),.sv (.agg (ak.row false NV (a,l,n,d,r,da,db,m,v,ws,q,())))] (((a,l,n,d,r,da,db,m,v,ws,q,()):iD)=(a,l,n,d,r,da,db,m,v,ws,q,())) _ 0 (λ_=>True) #[.agg vs.toArray,.agg us.toArray] w rfl rfl hG ⟨H7 h,H7 k,trivial⟩).mono ?_;rintro e w' ⟨v,vals,rfl,h1,h2,h3,h4,h5,h6,_,_⟩;have h6:v=.bool true:=h6;exact⟨by rw[h6],h1,h2,h3,h4,h5⟩
theorem XL{w:World}(hG:G.ok w){a b:Value}{l:List (Int×Unit)}(ha:cZ w.heap (lw w) (.sl aV dn) a l)(hb:cZ w.heap (lw w) (.sl aV dn) b l):
 Calls prog 8 #[a,b] w λo w'=>o=.returned (.bool true)/\Below w.heap.size w w':=by
 have hcon:ja prog G 8 (nV jL.sh jL.bZ jL.F):=vM.1;refine(hcon [.sv (.one (.sl aV dn l false)),.sv (.one (.sl aV dn l false))] (l=l) _ 0 (λ_=>True) #[a,b] w rfl rfl hG ⟨acH ha,acH hb,trivial⟩).mono ?_;rintro e w' ⟨v,vals,rfl,h1,h2,h3,h4,h5,h6,_,_⟩;have h6:v=.bool true:=h6;exact⟨by rw[h6],h1,h2,h3,h4,h5⟩
theorem aiq{w:World}(hG:G.ok w){a:Value}{l:List (Int×Unit)}(ha:cZ w.heap (lw w) (.sl aV dn) a l)(hl:l.length<=4000000):
 Calls prog 12 #[a,.int .i64 1] w λo w'=>o=.returned (.int .i64 (GK l 1))/\Below w.heap.size w w':=by
 have hcon:ja prog G 12 (nV oI.sh oI.bZ oI.F):=XH.1;refine(hcon [.sv (.one (.sl aV dn l false)),.sv (.one (.int .i64 1))] ((0:Int)<=1/\(1:Int)<=10000000/\l.length<=4000000) ⟨[(false,[.plain (.int .i64 (GK l 1))])],none⟩ 0 (λ_=>True) #[a,.int .i64 1] w rfl ⟨by decide,by decide,hl⟩ hG ⟨acH ha,⟨rfl,Sl (by decide)⟩,trivial⟩).mono ?_;rintro e w' ⟨v,vals,rfl,h1,h2,h3,h4,h5,h6,_,_⟩;have h6:v=.int .i64 _/\_:=h6;exact⟨by rw[h6.1],h1,h2,h3,h4,h5⟩
theorem air{w:World}(hG:G.ok w){vs:List Value}{x:iD}(h:RXI w (lw w) vs x)(hx:yx x.2.2.2.2.2.2.2.2.1){n u:Int}{nm:List UInt8}(hn:Oo n)(hu:Oo u)(hm:nm.length<=maxLen):
 Calls prog 5 #[.agg vs.toArray,.int .i64 n,.int .i64 u,.string ⟨nm.toArray⟩] w λo w'=>∃v,o=.returned (.tuple #[v,.bool (dI x.2.2.2.2.2.2.2.2.1 n).2])/\Below w.heap.size w w'/\cZ w'.heap (New w w') (.sl aV dn) v (zo x.2.2.2.2.2.2.2.2.1 n u nm):=by
 obtain⟨a,l,nx,d,r,da,db,m,v,ws,q,⟨⟩⟩:=x;have hcon:ja prog G 5 (nV iW.sh iW.bZ iW.F):=IV.1;refine(hcon [.sv (.agg (ak.row false NV (a,l,nx,d,r,da,db,m,v,ws,q,()))),.sv (.one (.int .i64 n)),.sv (.one (.int .i64 u)),.sv (.one (.str nm))] (yx v) _ 0 (λ_=>True) #[.agg vs.toArray,.int .i64 n,.int .i64 u,.string ⟨nm.toArray⟩] w rfl hx hG ⟨H7 h,⟨rfl,hn⟩,⟨rfl,hu⟩,⟨rfl,hm⟩,trivial⟩).mono ?_;rintro e w' ⟨v',vals,rfl,h1,h2,h3,h4,h5,h6,_,_⟩;obtain⟨us,rfl,h7⟩:=h6;obtain⟨ul⟩:=us
 match ul,h7 with
 |[y,z],h7=>obtain⟨hy,hz,_⟩:=h7;have hz:z=.bool _:=hz;rw[hz];exact⟨y,rfl,⟨h1,h2,h3,h4,h5⟩,cZ.mono (λb hb=>⟨⟨(hb.2 rfl).1,hb.1.1,(hb.2 rfl).2⟩,rfl⟩) _ _ _ hy⟩
theorem ais{w:World}(hG:G.ok w){vs:List Value}{x:iD}(h:RXI w (lw w) vs x)(hx:yx x.2.2.2.2.2.2.2.2.1){n u:Int}{nm:List UInt8}(hn:Oo n)(hu:Oo u)(hm:nm.length<=maxLen):
 Calls prog 7 #[.agg vs.toArray,.int .i64 n,.int .i64 u,.string ⟨nm.toArray⟩] w λo w'=>∃v,o=.returned (.tuple #[v,.bool (dI x.2.2.2.2.2.2.2.2.1 n).2])/\Below w.heap.size w w'/\cZ w'.heap (New w w') (.sl aV dn) v (zo x.2.2.2.2.2.2.2.2.1 n u nm):=by
 obtain⟨a,l,nx,d,r,da,db,m,v,ws,q,⟨⟩⟩:=x;have hcon:ja prog G 7 (nV iV.sh iV.bZ iV.F):=IQ.1;refine(hcon [.sv (.agg (ak.row false NV (a,l,nx,d,r,da,db,m,v,ws,q,()))),.sv (.one (.int .i64 n)),.sv (.one (.int .i64 u)),.sv (.one (.str nm))] (yx v) _ 0 (λ_=>True) #[.agg vs.toArray,.int .i64 n,.int .i64 u,.string ⟨nm.toArray⟩] w rfl hx hG ⟨H7 h,⟨rfl,hn⟩,⟨rfl,hu⟩,⟨rfl,hm⟩,trivial⟩).mono ?_;rintro e w' ⟨v',vals,rfl,h1,h2,h3,h4,h5,h6,_,_⟩;obtain⟨us,rfl,h7⟩:=h6;obtain⟨ul⟩:=us
 match ul,h7 with
 |[y,z],h7=>obtain⟨hy,hz,_⟩:=h7;have hz:z=.bool _:=hz;rw[hz];exact⟨y,rfl,⟨h1,h2,h3,h4,h5⟩,cZ.mono (λb hb=>⟨⟨(hb.2 rfl).1,hb.1.1,(hb.2 rfl).2⟩,rfl⟩) _ _ _ hy⟩
end Go.Proofs.Tryz
namespace Go.Proofs.Tryz
open Go Go.Fw Go.RowKit Sp
set_option maxRecDepth 100000
def xZ:Nat->Int->List (Int×Unit)
 |0,_=>[]
 |n+1,k=>(k,())::xZ n (k+1)
theorem yc:∀(n:Nat)(k:Int),(xZ n k).length=n
 |0,_=>rfl
 |n+1,k=>congrArg (· +1) (yc n (k+1))
theorem aaq:∀(n:Nat)(k:Int)(i:Nat),i<n->(xZ n k)[i]? =some (k+i,())
 |n+1,k,0,_=>by rw[xZ,List.getElem?_cons_zero,show k+((0:Nat):Int)=k by omega]
 |n+1,k,i+1,h=>by rw[xZ,List.getElem?_cons_succ,aaq n (k+1) i (by omega),show k+1+(i:Int)=k+((i+1:Nat):Int) by omega]
theorem Sm:∀(n:Nat)(k:Int),GK (xZ n k) k=k+n
 |0,k=>by show k=k+((0:Nat):Int);omega
 |n+1,k=>by rw[xZ,GK,if_pos rfl,Sm n (k+1)];omega
theorem akC{w:World}{b i:Nat}{u:Value}(v:Value)(h:w.cell? ⟨b,i,none⟩=some u):(w.setCell ⟨b,i,none⟩ v).cell? ⟨b,i,none⟩=some v:=by
 rcases hW:w.heap[b]? with _|o
 .simp[World.cell?,hW]at h
 .cases o with
  |cells cs t fz=>
   rw[bH hW]at h;rw[bH (abG hW i v),asN,if_pos (aq6.1 h).1]
  |_=>simp[World.cell?,hW]at h
theorem ama{w:World}{b i j:Nat}{u:Value}(v:Value)(hij:i≠j)(h:w.cell? ⟨b,j,none⟩=some u):(w.setCell ⟨b,i,none⟩ v).cell? ⟨b,j,none⟩=some u:=by
 rcases hW:w.heap[b]? with _|o
 .simp[World.cell?,hW]at h
 .cases o with
  |cells cs t fz=>
   rw[bH hW]at h;rw[bH (abG hW i v),asU hij,h]
  |_=>simp[World.cell?,hW]at h
set_option maxHeartbeats 16000000 in
theorem ait(W:World)(P:Nat->Prop)(v:Value)(l:List (Int×Unit))(k:Int)(h:iC W.heap P (.sl aV dn) v l)(hk:0<=k/\k<=10000000)(hl:l.length<=3000000):
 Calls prog 11 #[v,.int .i64 k] W λe w'=>e=.returned (.int .i64 (k+l.length))/\aF P W w'/\cZ w'.heap P (.sl aV dn) v (xZ l.length k):=by
 have mixed:=Tryz.mixed;have h0:=h;rcases h with⟨rfl,a,c,rfl⟩|⟨b,off,cap,cs,t,fz,rfl,h2,h3,h4,h5,h6⟩
 .clear h0
  go_enter Tryz.func11,Tryz.ntmps11
  go_wp2
  go_loopw [1,5] (λkk i wr=>kk=.int .i64 k/\i=.int .i64 0/\wr=W) (λ_ _ _=>0)
  case atStart=>exact⟨rfl,rfl,rfl⟩
  case round=>
   obtain⟨rfl,rfl,rfl⟩:=hrel
   go_wp2
   all_goals go_ret
   all_goals exact⟨by simp,aF.refl _ _,arw _,.inl ⟨rfl,a,c,rfl⟩⟩
 .clear h4 h5 h6
  go_enter Tryz.func11,Tryz.ntmps11
  go_wp2
  go_loopw [1,5] (λkk i wr=>∃(m:Nat),m<=l.length/\kk=.int .i64 (k+m)/\i=.int .i64 m/\aF P W wr/\∀j:Nat,j<m->wr.cell? ⟨b,off+j,none⟩=some (.int .i64 (k+j)))
   (λ_ i _=>l.length-(intOf i).toNat)
  case atStart=>exact⟨0,arw _,by simp,rfl,aF.refl _ _,λj hj=>absurd hj (asV _)⟩
  case round=>
   obtain⟨m,hm,rfl,rfl,hst,Yt⟩:=hrel;rcases ark m l.length with hlt|hge
   .have hlt':((m:Nat):Int)<l.length:=by omega
    obtain⟨x,hx⟩:∃x,l[m]? =some x:=⟨_,aq8 hlt⟩;rcases h0.keep hst with⟨rfl,_⟩|⟨b',off',cap',cs',t',fz',e,_,_,k4,k5,k6⟩
    .cases hx
    cases e;obtain⟨u0,_,q,s0,_⟩:=k6 m x hx;have c0:cs'[off+m]? =some u0:=(congrArg (cs'[·]?) (show off+m=off+m*1+0 by omega)).trans (dD q rfl);have z0:=iM k4 (k5 _ (aq6.1 c0).1);have d0:wr.cell? ⟨b,off+m,none⟩=some u0:=(bH k4 _).trans c0;have st3:=hst.trans (aF.set (.int .i64 (k+m)) d0 s0 h3 trivial);have hf3:∀j:Nat,j<m+1->(wr.setCell ⟨b,off+m,none⟩ (.int .i64 (k+m))).cell? ⟨b,off+j,none⟩=some (.int .i64 (k+j)):=λj hj=>by
     rcases ark j m with hjm|hjm
     .exact ama _ (by omega) (Yt j hjm)
     .obtain rfl:j=m:=by omega
      exact akC _ d0
    clear q k4 k5 k6 c0 h0 Yt hx
    go_wp2
    refine⟨⟨m+1,hlt,congrArg _ (by omega),rfl,st3,hf3⟩,?_⟩;simp only[intOf];omega
   .have hge':¬((m:Nat):Int)<l.length:=by omega
    obtain rfl:m=l.length:=by omega
    have hrs:cZ wr.heap P (.sl aV dn) (.slice (some ⟨b,off,none⟩) l.length cap) (xZ l.length k):=by
     rcases h0.keep hst with⟨rfl,_⟩|⟨b',off',cap',cs',t',fz',e,_,_,k4,_,_⟩
     .exact⟨arw _,.inl ⟨rfl,_,_,rfl⟩⟩
     cases e;refine⟨by rw[yc,maxLen_eq];omega,.inr ⟨b,off,cap,cs',t',fz',by rw[yc],by rw[yc];exact h2,h3,k4,λi x hx=>?_⟩⟩;have hi:i<l.length:=by have:=(arf.1 hx).1;rw[yc]at this;exact this
     rw[aaq _ _ i hi]at hx;cases hx;have hc:=Yt i hi;rw[bH k4]at hc;obtain⟨hl1,e1⟩:=aq6.1 hc;refine⟨_,[],?_,⟨rfl,Sl (by omega)⟩,rfl⟩;rw[show off+i*dn.len=off+i from by show off+i*1=_;omega,atf (by simpa using hl1),Array.getElem_toList,e1];rfl
    clear h0 Yt
    go_wp2
    all_goals go_ret
    all_goals exact⟨rfl,hst,hrs⟩
theorem eleven{w:World}{g:Nat}{x0 x1 x2 x3 x4 x5 x6 x7 x8 x9 x10:Value}{t:TypeId}{fz:Nat×Nat}(h:w.heap[g]? =some (.cells #[x0,x1,x2,x3,x4,x5,x6,x7,x8,x9,x10] t fz)):
 w.cell? ⟨g,0,none⟩=some x0/\w.cell? ⟨g,1,none⟩=some x1/\w.cell? ⟨g,2,none⟩=some x2/\w.cell? ⟨g,3,none⟩=some x3/\w.cell? ⟨g,4,none⟩=some x4/\w.cell? ⟨g,5,none⟩=some x5/\w.cell? ⟨g,6,none⟩=some x6/\w.cell? ⟨g,7,none⟩=some x7/\w.cell? ⟨g,8,none⟩=some x8/\w.cell? ⟨g,9,none⟩=some x9/\w.cell? ⟨g,10,none⟩=some x10:=
 ⟨bH h 0,bH h 1,bH h 2,bH h 3,bH h 4,bH h 5,bH h 6,bH h 7,bH h 8,bH h 9,bH h 10⟩
theorem amb{n:Nat}(h:0<=aH n 1048576):n<=1048576:=by unfold aH at h;split at h<;>omega
theorem amU{v:List fH}(h:sQ v<=1048576):yx v:=by
 have h0:iw Ky v<=1048576:=h;have hl:=jd Ky v;refine⟨by omega,λx hx=>?_⟩;have h1:=qj Ky v x hx;obtain⟨m,a,l,n,d,p,⟨⟩⟩:=x;have h1:(iw Ic a+iw Fq l)+iw Kw d<=iw Ky v:=h1;have ha:=jd Ic a;have hb:=jd Fq l;have hd:=jd Kw d;refine⟨⟨show a.length<=2000000 by omega,show l.length<=2000000 by omega,λf hf=>?_⟩,show d.length<=2000000 by omega,λe he=>?_⟩
 .have h3:=qj Fq l f hf;obtain⟨i,o,s,k,at',⟨⟩⟩:=f;have h3:iw Nq at'<=iw Fq l:=h3;have h5:=jd Nq at';show at'.length<=2000000;omega
 .have h3:=qj Kw d e he;obtain⟨nm,q,⟨⟩⟩:=e;have h3:nm.length+iw Nr q<=iw Kw d:=h3;have h5:=jd Nr q;show q.length<=2000000;omega
end Go.Proofs.Tryz
namespace Go.Proofs.Tryz
open Go Go.Fw Go.RowKit Sp
set_option maxRecDepth 100000
theorem aiu(v:List fH)(n u:Int)(nm:List UInt8):(zo v n u nm).length<=1000:=by
 unfold zo;cases (dI v n).2 with
 |false=>exact arw _
 |true=>exact aar KQ nm
theorem FO{α:Type}{f g:α->Nat}(h:∀x,f x<=10*(1+g x)):∀l:List α,cnt f l<=10*iw g l
 |[]=>ara _
 |x::l=>by have h1:=FO h l;have h2:=h x;show f x+cnt f l<=10*(1+g x+iw g l);omega
theorem aly(l:List dH):cnt eY l<=10*qp l:=FO (λ⟨_,_,_⟩=>by show 2<=_;omega) l
theorem w_at(l:List dK):cnt EC l<=10*zq l:=FO (λ⟨_,_,_,_,_⟩=>by show 4<=_;omega) l
theorem aoi(l:List aT):cnt zf l<=10*Bz l:=FO (λ⟨_,_,_,_,_,_,_,_⟩=>by show 7<=_;omega) l
theorem Ui:∀l:List (Int×Unit),cnt mg l=l.length
 |[]=>rfl
 |_::l=>by show 1+cnt mg l=l.length+1;rw[Ui l];omega
theorem alz(l:List ay):cnt fE l<=10*BA l:=FO (λ⟨_,_,_,_,at',_⟩=>by have h:=w_at at';show 4+cnt EC at'<=10*(1+zq at');omega) l
theorem alA(l:List aC):cnt gY l<=10*pK l:=FO (λ⟨nm,q,_⟩=>by have h:=aoi q;show 1+cnt zf q<=10*(1+(nm.length+Bz q));omega) l
theorem aoj(l:List bM):cnt jW l<=10*Fv l:=FO (λ⟨nm,q,_⟩=>by have h:=Ui q;show 1+cnt mg q<=10*(1+(nm.length+q.length));omega) l
theorem aok(l:List fH):cnt oU l<=10*sQ l:=FO (λ⟨_,a,f,_,d,_,_⟩=>by have h1:=aly a;have h2:=alz f;have h3:=alA d;show 3+cnt eY a+cnt fE f+cnt gY d<=10*(1+((qp a+BA f)+pK d));omega) l
theorem apO(l:List zK):cnt ED l<=10*EY l:=FO (λ⟨_,a,b,_⟩=>by have h1:=Ui a;have h2:=Ui b;show 1+cnt mg a+cnt mg b<=10*(1+(a.length+b.length));omega) l
theorem aol(l:List jZ):cnt tq l<=10*Ci l:=FO (λ⟨_,nm,q,e,_⟩=>by have h1:=Ui q;have h2:=apO e;show 2+cnt mg q+cnt ED e<=10*(1+(nm.length+(q.length+EY e)));omega) l
theorem ajK{a:List dH}{l:List ay}{n:Int}{d:List aC}{r:List bM}{da db:List UInt8}{m:Int}{v:List fH}{ws:List jZ}{q:List (Int×Unit)}(h:Ns (a,l,n,d,r,da,db,m,v,ws,q,())<=1048576):
 cnt eY a+cnt fE l+cnt gY d+cnt jW r+cnt oU v+cnt tq ws+cnt mg q<=90000000:=by
 have h:((qp a+BA l)+(pK d+Fv r))+((da.length+db.length)+(sQ v+(Ci ws+q.length)))<=1048576:=h;have h1:=aly a;have h2:=alz l;have h3:=alA d;have h4:=aoj r;have h5:=aok v;have h6:=aol ws;have h7:=Ui q;omega
set_option maxHeartbeats 32000000 in
theorem akD(W:World)(hG:G.ok W){a:List dH}{l:List ay}{n:Int}{d:List aC}{r:List bM}{da db:List UInt8}{m:Int}{v:List fH}{ws:List jZ}{q:List (Int×Unit)}{vs:List Value}(hx:RXL W (lw W) vs (a,l,n,d,r,da,db,m,v,ws,q,()))
 {ver u:Int} {nm:List UInt8} (amV:Oo ver) (hu:Oo u) (hnm:nm.length<=maxLen):
 Calls prog 3 #[.agg vs.toArray,.int .i64 ver,.int .i64 u,.string ⟨nm.toArray⟩] W λe w'=>e=.returned (.bool true)/\Below W.heap.size W w':=by
 have mixed:=Tryz.mixed;have hx':∀{w},Below W.heap.size W w->RXL w (lw w) vs _:=λk=>al9 hx k;obtain⟨a0,c0,a1,c1,a3,c3,a4,c4,a8,c8,a9,c9,a10,c10,rfl⟩:=ajJ hx;have g0:∀{w},Below W.heap.size W w->G.ok w:=λk=>al7 hG k;have XM:∀o,Below W.heap.size W (W.alloc o):=λo=>(Below.refl _ _).alloc (ara _) o;rcases ark 1048576 nm.length with hnl|hnl
 .have hl:(1048576:Int)<nm.length:=by omega
  clear hx hx'
  go_enter Tryz.func3,Tryz.ntmps3
  go_wp2
  all_goals go_ret
  all_goals exact⟨rfl,XM _⟩
 have hnl:¬(1048576:Int)<nm.length:=by omega
 have sz:=λo=>akA (g0 (XM o)) (hx' (XM o));have hSz:∃S,S=aH (Ns (a,l,n,d,r,da,db,m,v,ws,q,())) 1048576:=⟨_,rfl⟩;obtain⟨S,hSz⟩:=hSz;rw[← hSz]at sz;rcases Int.lt_or_le S 0 with hneg|hpos
 .clear hSz hx hx'
  go_enter Tryz.func3,Tryz.ntmps3
  go_wp2_with (first
   |(go_at_call 4;refine aru (sz _) ?_;rintro e w1 ⟨rfl,hb1⟩;have afV:=(XM _).trans (hb1.mono (XM _).size)))
  all_goals go_ret
  all_goals exact⟨rfl,afV⟩
 .rw[hSz]at hpos;have hW:=amb hpos;rw[← hSz]at hpos;clear hSz;have hpos:¬S<0:=by omega
  have hV:yx v:=by have hW:_+(_+(sQ v+_))<=1048576:=hW;exact amU (by omega)
  have hM:=ajK hW;have toX:=λ{w:World}(k:Below W.heap.size W w)=>toX_runs (g0 k) (hx' k) (by rw[dw];omega);have eqX:=λ{w:World}{vs us:List Value}(k:Below W.heap.size W w)(i:RXI w (lw w) vs (a,l,n,d,r,da,db,m,v,ws,q,()))(j:RXI w (lw w) us (a,l,n,d,r,da,db,m,v,ws,q,()))=>akB (g0 k) i j;have aeF:=λ{w:World}{vs:List Value}(k:Below W.heap.size W w)(i:RXI w (lw w) vs (a,l,n,d,r,da,db,m,v,ws,q,()))=>air (g0 k) i hV amV hu hnm;have aeG:=λ{w:World}{vs:List Value}(k:Below W.heap.size W w)(i:RXI w (lw w) vs (a,l,n,d,r,da,db,m,v,ws,q,()))=>ais (g0 k) i hV amV hu hnm;have hl:=aiu v ver u nm;obtain⟨tx,htx⟩:∃tx,tx=zo v ver u nm:=⟨_,rfl⟩;obtain⟨ok,hok⟩:∃ok,ok=(dI v ver).2:=⟨_,rfl⟩;dsimp only at aeF aeG;rw[← htx,← hok]at aeF aeG;rw[← htx]at hl;clear htx hok hW hV;obtain⟨M,hMe⟩:∃M,M=cnt eY a+cnt fE l+cnt gY d+cnt jW r+cnt oU v+cnt tq ws+cnt mg q:=⟨_,rfl⟩;have marks:∀{w:World}{P:Nat->Prop}{b0 e0 b1 e1 b3 e3 b4 e4 b8 e8 b9 e9 b10 e10},Below W.heap.size W w->(∀b,P b->W.heap.size<=b/\b<w.heap.size)->ShR w.heap P NV [.slice b0 a.length e0,.slice b1 l.length e1,.int .i64 n,.slice b3 d.length e3,.slice b4 r.length e4,.string ⟨da.toArray⟩,.string ⟨db.toArray⟩,.int .i64 m,.slice b8 v.length e8,.slice b9 ws.length e9,.slice b10 q.length e10] ((a,l,n,d,r,da,db,m,v,ws,q,()):iD)->Calls prog 10 #[.agg #[.slice b0 a.length e0,.slice b1 l.length e1,.int .i64 n,.slice b3 d.length e3,.slice b4 r.length e4,.string ⟨da.toArray⟩,.string ⟨db.toArray⟩,.int .i64 m,.slice b8 v.length e8,.slice b9 ws.length e9,.slice b10 q.length e10],.int .i64 1] w λe w'=>e=.returned (.int .i64 (1+M))/\aF P w w':=by intro w P b0 e0 b1 e1 b3 e3 b4 e4 b8 e8 b9 e9 b10 e10 k hP hs;obtain⟨v0,_,q0,f0,v1,_,rfl,f1,v2,_,rfl,f2,v3,_,rfl,f3,v4,_,rfl,f4,v5,_,rfl,f5,v6,_,rfl,f6,v7,_,rfl,f7,v8,_,rfl,f8,v9,_,rfl,f9,v10,_,rfl,f10,rfl⟩:=hs;cases q0;refine(aao (g0 k) (P:=P) (λb hb=>⟨aq7 (G.low W hG) (hP b hb).1,(hP b hb).2⟩) n _ _ m 1 f0 f1 f3 f4 f8 f9 f10 ⟨by decide,by omega⟩).mono ?_;rintro e w' ⟨rfl,e2⟩;exact⟨congrArg (λz:Int=>Ending.returned (.int .i64 z)) (by omega),e2⟩
  have hM:M<=90000000:=by omega
  clear hMe;have hk0:¬1+(M:Int)<0:=by omega
  have alB:=λ{w:World}{v:Value}(k:G.ok w)(r:cZ w.heap (lw w) (.sl aV dn) v (xZ tx.length 1))=>(Sm tx.length 1)▸aiq k r (by rw[yc];omega);have tk1:=Tok.mk 1
  go_enter Tryz.func3,Tryz.ntmps3
  go_wp2_with (first
   |(go_at_call 4;have _:=tk1;refine aru (sz _) ?_;rintro e w1 ⟨rfl,hb1⟩;have afV:=(XM _).trans (hb1.mono (XM _).size);have bx1:=(hb1.block _ (by simp)).trans (asa W _);obtain⟨d0,d1,d2,d3,d4,d5,d6,d7,d8,d9,d10⟩:=eleven bx1;clear tk1 sz;have tk2:=Tok.mk 2)
   |(go_at_call 6;have _:=tk2;refine aru (toX afV) ?_;rintro e w2 ⟨us,rfl,hb2,ri⟩;have m2:Mem w2 [.box W.heap.size _]:=Mem.below hb2 ⟨bx1,trivial⟩;have akE:=afV.trans (hb2.mono afV.size);clear bx1 d0 d1 d2 d3 d4 d5 d6 d7 d8 d9 d10;clear tk2;have tk3:=Tok.mk 3)
   |(go_at_call 5;have _:=tk3;refine aru (aeF akE (kJ.ltR (kJ.newR ri))) ?_;rintro e w3 ⟨v0,rfl,hb3,rs⟩;have m3:Mem w3 [.box W.heap.size _]:=m2.below hb3;have XO:=akE.trans (hb3.mono akE.size);obtain⟨d0,d1,d2,d3,d4,d5,d6,d7,d8,d9,d10⟩:=eleven m3.1;obtain⟨aw,cw,rfl⟩:=mF rs;have m3:Mem w3 [.box W.heap.size _,.tree _ _ _ _ _]:=⟨m3.1,kJ.new rs,trivial⟩;have h03:=(aq6.1 m3.1).1;clear tk3 ri m2 rs aeF;have tk4:=Tok.mk 4)
   |(go_at_call 6;have _:=tk4;refine aru (toX XO) ?_;rintro e w4 ⟨us,rfl,hb4,ri⟩;have low4:=λo=>(XO.trans (hb4.mono XO.size)).alloc (XO.trans (hb4.mono XO.size)).size o;obtain⟨b0,e0,b1,e1,b3,e3,b4,e4,b8,e8,b9,e9,b10,e10,rfl⟩:=akz ri;have m4:∀o,Mem (w4.alloc o) [.box W.heap.size _,.tree _ _ _ _ _,.row _ _ _ _ _]:=λo=>Mem.below ((Below.refl _ _).alloc (ara _) o) (have q:=m3.below hb4;⟨q.1,q.2.1,kJ.newR ri,trivial⟩);have h34:=hb4.size;have h45:∀o:Obj,w4.heap.size<=(w4.alloc o).heap.size:=(λo=>by simp);clear tk4 m3 ri d0 d1 d2 d3 d4 d5 d6 d7 d8 d9 d10;have tk5:=Tok.mk 5)
   |(go_at_call 7;have _:=tk5;refine aru (aeG (low4 _) (kJ.ltR (m4 _).2.2.1)) ?_;rintro e w5 ⟨g,rfl,hb5,rg⟩;have akF:=(low4 _).trans (hb5.mono (low4 _).size);have bx5:=(hb5.block _ (by simp)).trans (asa w4 _);obtain⟨ag,cg,rfl⟩:=mF rg;have m5:Mem w5 [.box W.heap.size _,.tree _ _ _ _ _,.row _ _ _ _ _,.box w4.heap.size _,.tree _ _ _ _ _]:=(have q:=(m4 _).below hb5;⟨q.1,q.2.1,q.2.2.1,bx5,kJ.new rg,trivial⟩);clear tk5 m4 rg bx5;have tk6:=Tok.mk 6)
   |(go_at_call 8;have _:=tk6;refine aru (XL (g0 akF) (kJ.lt m5.2.2.2.2.1) (kJ.lt m5.2.1)) ?_;rintro e w6 ⟨rfl,hb6⟩;have akG:=akF.trans (hb6.mono akF.size);have m6:=m5.below hb6;obtain⟨d0,d1,d2,d3,d4,d5,d6,d7,d8,d9,d10⟩:=eleven m6.1;obtain⟨y0,y1,y2,y3,y4,y5,y6,y7,y8,y9,VH⟩:=eleven m6.2.2.2.1;clear tk6 m5;have tk7:=Tok.mk 7))
  go_region_held3 (λw'=>(w'.cell? ⟨W.heap.size,0,none⟩=some (.slice a0 a.length c0)/\w'.cell? ⟨W.heap.size,1,none⟩=some (.slice a1 l.length c1)/\w'.cell? ⟨W.heap.size,2,none⟩=some (.int .i64 n)/\w'.cell? ⟨W.heap.size,3,none⟩=some (.slice a3 d.length c3)/\w'.cell? ⟨W.heap.size,4,none⟩=some (.slice a4 r.length c4)/\w'.cell? ⟨W.heap.size,5,none⟩=some (.string ⟨da.toArray⟩)/\w'.cell? ⟨W.heap.size,6,none⟩=some (.string ⟨db.toArray⟩)/\w'.cell? ⟨W.heap.size,7,none⟩=some (.int .i64 m)/\w'.cell? ⟨W.heap.size,8,none⟩=some (.slice a8 v.length c8)/\w'.cell? ⟨W.heap.size,9,none⟩=some (.slice a9 ws.length c9)/\w'.cell? ⟨W.heap.size,10,none⟩=some (.slice a10 q.length c10))/\
   w'.cell? ⟨w4.heap.size,0,none⟩=some (.slice b0 a.length e0)/\w'.cell? ⟨w4.heap.size,1,none⟩=some (.slice b1 l.length e1)/\w'.cell? ⟨w4.heap.size,2,none⟩=some (.int .i64 n)/\w'.cell? ⟨w4.heap.size,3,none⟩=some (.slice b3 d.length e3)/\w'.cell? ⟨w4.heap.size,4,none⟩=some (.slice b4 r.length e4)/\w'.cell? ⟨w4.heap.size,5,none⟩=some (.string ⟨da.toArray⟩)/\w'.cell? ⟨w4.heap.size,6,none⟩=some (.string ⟨db.toArray⟩)/\w'.cell? ⟨w4.heap.size,7,none⟩=some (.int .i64 m)/\w'.cell? ⟨w4.heap.size,8,none⟩=some (.slice b8 v.length e8)/\w'.cell? ⟨w4.heap.size,9,none⟩=some (.slice b9 ws.length e9)/\w'.cell? ⟨w4.heap.size,10,none⟩=some (.slice b10 q.length e10))
   (first|exact⟨eleven m8.1,eleven m8.2.2.2.1⟩|exact⟨eleven m7.1,eleven m7.2.2.2.1⟩|exact⟨eleven m6.1,eleven m6.2.2.2.1⟩)
   (first
     |(go_at_call 6;refine aru (toX akG.drew) ?_;rintro e w7 ⟨us,rfl,hb7,ri⟩;have acL:=akG.drew.trans (hb7.mono akG.size);have m7:=(Mem.below ((Below.refl _ w6).drew) m6).below hb7)
     |(go_at_call 9;refine aru (eqX acL (kJ.ltR m7.2.2.1) (kJ.ltR (kJ.newR ri))) ?_;rintro e w8 ⟨rfl,hb8⟩;have aiv:=acL.trans (hb8.mono acL.size);have m8:=m7.below hb8)
     |(go_at_call 9;refine aru (eqX acL.drew (kJ.ltR m7.2.2.1) (kJ.ltR (kJ.newR ri))) ?_;rintro e w8 ⟨rfl,hb8⟩;have aiv:=acL.drew.trans (hb8.mono acL.size);have m8:=(Mem.below ((Below.refl _ w7).drew) m7).below hb8))
  clear eqX;obtain⟨y0,y1,y2,y3,y4,y5,y6,y7,y8,y9,VH⟩:=eleven m8.2.2.2.1;have tk9:=Tok.mk 9
  go_wp2_with (first
   |(go_at_call 10;have _:=tk9;refine aru (marks (P:=Rg w8 w3.heap.size w4.heap.size) aiv (λb hb=>⟨aq7 XO.size hb.1,ari hb.2.1 m8.2.2.1.1⟩) (kJ.amD m8.2.2.1)) ?_;rintro e w9 ⟨rfl,s9⟩;have akH:=afy aiv s9 aiv.size (λb hb=>aq7 XO.size hb.1);have m9:Mem w9 [.box W.heap.size _,.tree _ _ _ _ _,.tree _ _ _ _ _]:=Mem.soft s9 ⟨m8.1,m8.2.1,m8.2.2.2.2.1,trivial⟩ ⟨λhb=>ate.2 hb.1 h03,λb hb=>by have:=hb.1;omega,λb hb hc=>ate.2 (aq7 (h45 _) hc.1) hb.2.1,trivial⟩;clear tk9 m8 marks y0 y1 y2 y3 y4 y5 y6 y7 y8 y9 VH;have amX:=Tok.mk 10)
   |(go_at_call 8;have _:=amX;refine aru (XL (g0 akH) (kJ.lt m9.2.2.1) (kJ.lt m9.2.1)) ?_;rintro e w10 ⟨rfl,amY⟩;have alC:=akH.trans (amY.mono akH.size);have m10:=m9.below amY;clear amX m9;have amZ:=Tok.mk 11)
   |(go_at_call 11;have _:=amZ;refine aru (ait w10 _ _ _ 1 (kJ.shape m10.2.2.1) (by omega) (by omega)) ?_;rintro e w11 ⟨rfl,s11,rg⟩;have aiw:=afy alC s11 alC.size (λb hb=>aq7 (low4 _).size hb.1);have m11:Mem w11 [.box W.heap.size _,.tree _ _ _ _ _]:=Mem.soft s11 ⟨m10.1,m10.2.1,trivial⟩ ⟨λhb=>ate.2 (aq7 h34 (aq7 (h45 _) hb.1)) h03,λb hb hc=>ate.2 (aq7 h34 (aq7 (h45 _) hb.1)) hc.2,trivial⟩;have rg:cZ w11.heap (lw w11) (.sl aV dn) _ _:=cZ.mono (λb hb=>⟨ari hb.2.1 (aq7 m10.2.2.1.1 s11.size),rfl⟩) _ _ _ rg;clear amZ m10;have am1:=Tok.mk 12)
   |(go_at_call 12;have _:=am1;refine aru (alB (g0 aiw) rg) ?_;rintro e w12 ⟨rfl,aix⟩;have aiy:=aiw.trans (aix.mono aiw.size);have m12:=m11.below aix;have rg2:cZ w12.heap (lw w12) (.sl aV dn) _ _:=cZ.mono (λb hb=>⟨ari hb aix.size,aix.block b hb⟩) _ _ _ rg;obtain⟨d0,d1,d2,d3,d4,d5,d6,d7,d8,d9,d10⟩:=eleven m12.1;clear am1 m11 rg;have am2:=Tok.mk 13)
   |(go_at_call 6;have _:=am2;refine aru (toX aiy) ?_;rintro e w13 ⟨us,rfl,aiz,ri⟩;have aiA:=aiy.trans (aiz.mono aiy.size);have m13:=m12.below aiz;have rg3:cZ w13.heap (lw w13) (.sl aV dn) _ _:=cZ.mono (λb hb=>⟨ari hb aiz.size,aiz.block b hb⟩) _ _ _ rg2;clear am2 m12 d0 d1 d2 d3 d4 d5 d6 d7 d8 d9 d10 rg2;have am3:=Tok.mk 14)
   |(go_at_call 7;have _:=am3;refine aru (aeG aiA (kJ.ltR (kJ.newR ri))) ?_;rintro e w14 ⟨h0,rfl,aiB,rh⟩;have aiC:=aiA.trans (aiB.mono aiA.size);have m14:=m13.below aiB;have rg4:cZ w14.heap (lw w14) (.sl aV dn) _ _:=cZ.mono (λb hb=>⟨ari hb aiB.size,aiB.block b hb⟩) _ _ _ rg3;clear am3 m13 rg3 ri;have am4:=Tok.mk 15)
   |(go_at_call 8;have _:=am4;refine aru (XL (g0 aiC) (kJ.lt (kJ.new rh)) (kJ.lt m14.2.1)) ?_;rintro e w15 ⟨rfl,akI⟩;have aiD:=aiC.trans (akI.mono aiC.size);have rg5:cZ w15.heap (lw w15) (.sl aV dn) _ _:=cZ.mono (λb hb=>⟨ari hb akI.size,akI.block b hb⟩) _ _ _ rg4;clear am4 m14 rh rg4;have am5:=Tok.mk 16)
   |(go_at_call 12;have _:=am5;refine aru (alB (g0 aiD) rg5) ?_;rintro e w16 ⟨rfl,hb16⟩;have aom:=aiD.trans (hb16.mono aiD.size);clear am5;have aqP:=Tok.mk 17))
  all_goals go_ret
  all_goals exact⟨rfl,aom⟩
end Go.Proofs.Tryz
namespace Go.Proofs.Tryz
open Go Go.Fw Go.RowKit Sp
set_option maxRecDepth 100000
theorem DK:ja prog G 3 (nV [.v (.agg [.l bY dF,.l dG jE,.i,.l fA lJ,.l gu iI,.s,.s,.i,.l jk Gm,.l kQ Gn,.l aV dn]),.i,.i,.s] [.one .bool] λ_=>(True,true,()))/\True:=by
 refine⟨?_,trivial⟩;intro args p out k S vs w hcon hp hG hrep;unfold nV FI at hcon;split at hcon
 .next x hx=>
  revert x;show∀x:iD×Int×Int×List UInt8×Unit,_;rintro⟨⟨a,l,n,d,r,da,db,m,v,ws,q,⟨⟩⟩,ver,u,nm,⟨⟩⟩ hx hcon;have hv:=afl [.v (.agg [.l bY dF,.l dG jE,.i,.l fA lJ,.l gu iI,.s,.s,.i,.l jk Gm,.l kQ Gn,.l aV dn]),.i,.i,.s] args _ vs.toList hx hrep
  match hvs:vs.toList,hv with
  |[v1,v2,v3,v4],hv=>
   obtain⟨⟨us,e1,hu⟩,h2,h3,h4,_⟩:=hv;have hrow:=aX.mono (S':=lw w) (λb hb=>⟨hb.1.1,rfl⟩) _ _ _ (Dv _ false abM us.toList (a,l,n,d,r,da,db,m,v,ws,q,()) hu);have e2:vs=#[.agg us.toList.toArray,.int .i64 ver,.int .i64 u,.string ⟨nm.toArray⟩]:=by obtain⟨l⟩:=vs;simp at hvs;rw[hvs,e1,h2.1,h3.1,h4.1]
   subst e2;have hF:=Option.some.inj hcon;have hout:out=⟨[(false,[.plain (.bool true)])],none⟩:=(congrArg Prod.snd hF).symm;subst hout;refine(akD w hG hrow h2.2 h3.2 h4.2).mono ?_;rintro e w' ⟨rfl,hb⟩;exact⟨_,λ_=>undef,rfl,hb.os,hb.tape,hb.output,hb.size,hb.block,rfl,(λo x hx=>by cases hx),(λo x q y b hx=>by cases hx)⟩
 .cases hcon
end Go.Proofs.Tryz
