import Derived.Test.YtdmilcleobbphaaGreatP37
import Derived.StillTailTactics
import Derived.Test.YtdmilcleobbphaaGreatShelf
import Derived.Test.YtdmilcleobbphaaGreatL4
import Derived.WalkKit
import Derived.Sort.OwnSortedInts
import Derived.Sort.Grow
import Derived.Lib.OwnBridge
import Derived.Laws.AppendOwn
import Derived.Laws.AppendOwnNone
namespace Go.Proofs.Tryz
open Go Go.Fw Go.RowKit Sp
set_option maxRecDepth 100000
variable {B g:Nat}{w:World}{va vl vd:Value}{x:dw}{F:Nat->Prop}
theorem Sn.far{w':World}(h:Sn B w va vl vd x F)(Y:w.heap.size<=w'.heap.size)(j:¬F g/\va.ownBlock≠some g/\vl.ownBlock≠some g/\vd.ownBlock≠some g)(k:∀b,b<w.heap.size->b≠g->w'.heap[b]? =w.heap[b]?):Sn B w' va vl vd x F:=by obtain⟨a,d,f,i⟩:=j;have X:∀b,F b->w'.heap[b]? =w.heap[b]? :=λb U=>k b (h.foot b U).2.1 λe=>a (e▸U);exact⟨h.fa.keep (λb U=>k b (h.fa.lt U).2 λe=>d (e▸U)) X,h.fl.keep (λb U=>k b (h.fl.lt U).2 λe=>f (e▸U)) X,h.fd.keep (λb U=>k b (h.fd.lt U).2 λe=>i (e▸U)) X,h.nx,h.ne,λb U=>⟨(h.foot b U).1,aQO (h.foot b U).2.1 Y,(h.foot b U).2.2⟩⟩
variable {y0 y1 y2 y3:Value}
theorem aHS{b:Nat}(h:b≠g):(Dh w g y0 y1 y2 y3).heap[b]? =w.heap[b]? :=(Aj _ h).trans ((Aj _ h).trans ((Aj _ h).trans (Aj _ h)))
theorem aFY:(Dh w g y0 y1 y2 y3).heap.size=w.heap.size:=by simp[Dh,World.setCell]
variable {W:World}
theorem Kp.high{k:Nat}{v:Value}(h:Kp B B W w)(a:B<=g):Kp B B W (w.setCell ⟨g,k,none⟩ v):=
 ⟨h.os,h.tape,h.output,by simpa[World.setCell]using h.size,λb U H=>(Aj v (show b≠g from fC)).trans (h.block b U H)⟩
theorem Kp.Dh(h:Kp B B W w)(a:B<=g):Kp B B W (Dh w g y0 y1 y2 y3):=(((h.high a).high a).high a).high a
theorem aMW(W:World)(o:Obj):Below W.heap.size W ((W.alloc o).alloc (Obj.cells #[.slice none 0 0,.slice none 0 0,.int .i64 0,.slice none 0 0] 64 (0,0)))/\((W.alloc o).alloc (Obj.cells #[.slice none 0 0,.slice none 0 0,.int .i64 0,.slice none 0 0] 64 (0,0))).heap[W.heap.size]? =some o/\
 ((W.alloc o).alloc (Obj.cells #[.slice none 0 0,.slice none 0 0,.int .i64 0,.slice none 0 0] 64 (0,0))).heap[W.heap.size+1]? =some (Obj.cells #[.slice none 0 0,.slice none 0 0,.int .i64 0,.slice none 0 0] 64 (0,0))/\((W.alloc o).alloc (Obj.cells #[.slice none 0 0,.slice none 0 0,.int .i64 0,.slice none 0 0] 64 (0,0))).heap.size=W.heap.size+2:=
 ⟨below2 W o _,box1 W o _,aLv W o _,azY W o _⟩
theorem Sn.high(h:Sn B w va vl vd x F)(n:Nat)(H:w.heap.size<=n):¬F n/\va.ownBlock≠some n/\vl.ownBlock≠some n/\vd.ownBlock≠some n:=
 ⟨(λe=>by have:=(h.foot n e).2.1;omega),(λe=>by have:=(h.fa.lt e).2;omega),(λe=>by have:=(h.fl.lt e).2;omega),λe=>by have:=(h.fd.lt e).2;omega⟩
theorem arf{own:Option Nat}{H:Nat}(h:own=some g\/g=H)(z:∀b,own=some b->b<W.heap.size)(a:W.heap.size+2<=H):∀n,W.heap.size<=n->n<=W.heap.size+1->some g≠some n:=λn C O e=>by
 grind
theorem arh{k:Nat}{S T f h:Value}{t:TypeId}(v y0 y1 y2 y3:Value)(Z:Sn B w va vl vd x F)(j:Kp B B W w)(i:B<=W.heap.size)
 (a:∀n,W.heap.size<=n->n<=W.heap.size+1->¬F n/\va.ownBlock≠some n/\vl.ownBlock≠some n/\vd.ownBlock≠some n) (q:w.heap[W.heap.size+1]? =some (.cells #[S,T,f,h] t (0,0))):
 (Dh (w.setCell ⟨W.heap.size,k,none⟩ v) (W.heap.size+1) y0 y1 y2 y3).heap[W.heap.size+1]? =some (.cells #[y0,y1,y2,y3] t (0,0))/\Sn B (Dh (w.setCell ⟨W.heap.size,k,none⟩ v) (W.heap.size+1) y0 y1 y2 y3) va vl vd x F/\Kp B B W (Dh (w.setCell ⟨W.heap.size,k,none⟩ v) (W.heap.size+1) y0 y1 y2 y3):=by
 have d:=(Aj (w:=w) (p:=⟨W.heap.size,k,none⟩) (b:=W.heap.size+1) v jv).trans q;have e:=Z.far (w':=w.setCell ⟨W.heap.size,k,none⟩ v) x9 (a _ (aQp _) fC) λb _ U=>Aj _ U;exact⟨Qn d,e.far (Nat.le_of_eq aFY.symm) (a _ fC (aQp _)) λb _ U=>aHS U,(j.high fC).Dh fC⟩
variable {f:Sp.LS}
theorem Me(h:∀y∈f,y.1.length<=600)(i:Int):(Sp.wordAt f i).length<=600:=by
 by_cases a:i<(f.length:Int)
 .rw[EP a,aQJ];cases e:f[i.toNat]? with
  |none=>exact aQx _
  |some x=>exact h x (aQU e)
 .rw[ER fC];exact aQx _
theorem FC(f:Sp.LS)(k i:Nat):Sp.wordAt (f.drop k) (i:Int)=Sp.wordAt f ((k+i:Nat):Int):=by
 rcases aQE (k+i) f.length with h|h
 .rw[EP (show(i:Int)<((f.drop k).length:Int) by rw[aSe];omega),EP (show((k+i:Nat):Int)<(f.length:Int)from fC),aQs,aQs];simp[aQJ,aRu]
 .rw[ER (show((f.drop k).length:Int)<=(i:Int) by rw[aSe];omega),ER (show(f.length:Int)<=((k+i:Nat):Int)from fC)]
theorem aH1(f:Sp.LS):X4 (Sp.numAt f 1) (f.drop 2)=(Sp.numAt f 1,Sp.numAt f 2,Sp.wordAt f 3==[115],Sp.numAt f 4,wP (f.drop 5),()):=by
 unfold X4 Sp.numAt;have l:=FC f 2 0;have C:=FC f 2 1;have O:=FC f 2 2;have K:(f.drop 2).drop 3=f.drop 5:=by rw[List.drop_drop]
 rw[K,show Sp.wordAt (f.drop 2) 0=Sp.wordAt f 2 from l,show Sp.wordAt (f.drop 2) 1=Sp.wordAt f 3 from C,show Sp.wordAt (f.drop 2) 2=Sp.wordAt f 4 from O]
def zeroAt:Value:=.agg #[.string ⟨#[]⟩,.int .i64 0,.int .i64 0,.string ⟨#[]⟩]
theorem infoAt:(prog.info? 193).map (λi=>(i.zero,i.size,i.bytes))=some (some zeroAt,4,48):=lu
theorem aEb(f:Sp.LS)(m:Nat)(h:m<f.length):wP (f.drop m)=((f.getD m ([],())).1,(gZ (Sp.wordAt f ((m:Int)+1))).1)::wP (f.drop (m+2)):=by
 rcases aQE (m+1) f.length with O|O
 .rw[aH2 O,show((m:Int)+1)=((m+1:Nat):Int)from fC,← aF6 O];rfl
 .rw[drop_cons f m ([],()) h,aSp O,aSp fC,ER fC];rfl
structure AtM(f:Sp.LS)(A:List aW)(m:Nat)(al:List aW):Prop where
 hi:m=5\/m<=f.length+1
 ln:2*al.length+5=m
 eq:al++wP (f.drop m)=A
theorem AtM.step{A:List aW}{m:Nat}{b:List aW}(h:AtM f A m b)(a:m<f.length):AtM f A (m+2) (b++[((f.getD m ([],())).1,(gZ (Sp.wordAt f ((m:Int)+1))).1)]):=by obtain⟨C,O,K⟩:=h;refine⟨.inr fC,by rw[aQu,aQz,aQZ];omega,?_⟩;rw[aEb f m a]at K;rw[aQL];exact K
theorem AtM.done{A:List aW}{m:Nat}{b:List aW}(h:AtM f A m b)(a:f.length<=m):A=b:=by obtain⟨C,O,K⟩:=h;rw[aSp a]at K;rw[← K];exact aQY _
theorem below_grown{n:Nat}{w':World}{o:Option Nat}(h:Below n W w)(k:w.grownBy w' o)(H:n<=W.heap.size)(z:∀b,o=some b->n<=b):Below n W w':=
 ⟨k.os.trans h.os,k.tape.trans h.tape,k.output.trans h.output,aQn h.size k.size,λb U=>(k.block b (by have:=h.size;omega) λe=>by have:=z b e.symm;omega).trans (h.block b U)⟩
structure Hold(P:Prop):Prop where h:P
set_option maxHeartbeats 64000000 in
theorem aHZ(B:Nat)(W:World)(va vl vd:Value)(x:dw)(F:Nat->Prop)(line:List UInt8)(hl:line.length<=1048576)(hG:G.ok W)(hS:Sn B W va vl vd x F)(hB:B<=W.heap.size)(hz:szX 200 x):
 Calls prog 246 #[snV va vl vd x.2.2.1,.string ⟨line.toArray⟩] W λe w'=>Back B W w' e (wO x (kD line)):=by
 have mixed:=Tryz.mixed;obtain⟨aa,ca,rfl⟩:=hS.fa.form;obtain⟨ab,cb,rfl⟩:=hS.fl.form;obtain⟨ad,cd,rfl⟩:=hS.fd.form;have sf:=λw hG=>aHP line hl w hG;have hsm:=@abD line;unfold snV;generalize kD line=f at sf hsm ⊢;generalize sJ line=sok at sf;have lp:=λ(w:World)(v:Value)(hv:FW w.heap.size w v f) hG=>NI hv (i:=0) jI jI hG;obtain⟨x0,hx0,hx1⟩:∃x0,Hid (x0=Sp.wordAt f 0)/\x0=Sp.wordAt f 0:=⟨_,rfl,rfl⟩;rw[← hx1]at lp;clear hx1;obtain⟨y,hy,hy1⟩:∃y,Hid (y=wO x f)/\wO x f=y:=⟨_,rfl,rfl⟩;rw[hy1];clear hy1;obtain⟨hbase,hN0,hN1,hsz2⟩:=aMW W (Obj.cells #[.slice aa x.1.length ca,.slice ab x.2.1.length cb,.int .i64 x.2.2.1,.slice ad x.2.2.2.1.length cd] 64 (0,0));have sf1:=sf _ (rD hG hbase);clear sf
 go_enter Tryz.func246,Tryz.ntmps246
 go_wp2_with (first
  |(go_at_call 276;refine aQ3 sf1 ?_;rintro e w1 ⟨a1,c1,rfl,hf1,hb1⟩;have hb1':=hbase.trans (hb1.mono hbase.size);have hG1:=rD hG hb1';clear sf1)
  |(go_at_call 277;refine aQ3 (lp w1 _ hf1 hG1) ?_;rintro e w2 ⟨rfl,hb2⟩;have Qp:=hb1.trans (hb2.mono hb1.size);have hb2':=hbase.trans (Qp.mono hbase.size);have hG2:=rD hG hb2';have hf2:=hf1.keep' hb2;clear lp;refine Hold.h ?_))
 constructor;have aPQ:=hb1.size;by_cases e0:x0=yE
 .have h0:Sp.wordAt f 0=yE:=hx0.out.symm.trans e0;have e0:x0=[102,105,101,108,100]:=e0;subst e0;clear hx0;by_cases h2:Sp.wordAt f 2=ak2
  .have hy2:y=(x.1++[(Sp.wordAt f 1,1,())],x.2.1,x.2.2.1,x.2.2.2.1,()):=hy.out.trans (by unfold wO;rw[h0,h2];rfl);clear hy;have hz:=hz.1;have hw1:(Sp.wordAt f 1).length<=600:=Me hsm.2 1;have lp1:=λ(w:World)(v:Value)(hv:FW w.heap.size w v f) hG=>NI hv (i:=1) jI jI hG;have lp2:=λ(w:World)(v:Value)(hv:FW w.heap.size w v f) hG=>NI hv (i:=2) jI jI hG;generalize Sp.wordAt f 1=nm at hw1 lp1 hy2;rw[show Sp.wordAt f 2=[105,110,116]from h2]at lp2;obtain⟨i0,hi,hz0,hz1,hz2⟩:=aSw aF7;have hqm:x.1.length+1<=maxLen:=o8;have hql:(x.1.length+1)*24<=140737488355328:=fC;obtain⟨xs,hown,hrep⟩:=hS.fa;have hown:W.ownsRow B 180 2 (.slice aa x.1.length ca) x.1.length xs:=hown;have hrep:∀i z,x.1[i]? =some z->dD W.heap F aB ((xs.drop (i*2)).take 2) z:=hrep;have Tm:∀b,(Value.slice aa x.1.length ca).ownBlock=some b->b<W.heap.size:=λb e=>(hS.fa.lt e).2;subst hy2
   go_wp2_with (first
    |(go_at_call 277;refine aQ3 (lp1 w2 _ hf2 hG2) ?_;rintro e w3 ⟨rfl,hb3⟩;have Dj:=Qp.trans (hb3.mono Qp.size);have U0:=(Below.refl w3.heap.size w3).alloc (aQp _) (Obj.cells #[.string ⟨nm.toArray⟩,.int .i64 2] 180 (0,0));have hrow3:=aRc w3 (Obj.cells #[.string ⟨nm.toArray⟩,.int .i64 2] 180 (0,0));have Jd:=Dj.trans (U0.mono Dj.size);have aeT:=hbase.trans (Jd.mono hbase.size);have hf3:=(hf2.keep' hb3).keep' U0;clear lp1)
    |(go_at_call 277;refine aQ3 (lp2 _ _ hf3 (rD hG aeT)) ?_;rintro e w4 ⟨rfl,hb4⟩;have hrow4:=(hb4.block w3.heap.size ni).trans hrow3;have aLw:=U0.size;have Qq:=Jd.trans (hb4.mono Jd.size);have aoK:=hbase.trans (Qq.mono hbase.size);have t0:=qM hrow4 0;have t1:=qM hrow4 1;have u0:=Ho hrow4 0;have u1:=Ho hrow4 1;have t0:w4.cell? ⟨w3.heap.size,0,none⟩=some (.string ⟨nm.toArray⟩):=t0;have t1:w4.cell? ⟨w3.heap.size,1,none⟩=some (.int .i64 2):=t1;have aH3:=Dj.size;have q0:=(Qq.block W.heap.size fC).trans hN0;have q1:=(Qq.block (W.heap.size+1) fC).trans hN1;obtain⟨⟨d0,d1,d2,d3⟩,z0,z1,z2,z3⟩:=four q0)
    |(at_builtin;have hbs:Below W.heap.size W (w4.setCell ⟨w3.heap.size,1,none⟩ (.int .i64 1)):=aoK.setCell (p:=⟨w3.heap.size,1,none⟩) (show W.heap.size<=w3.heap.size from fC) _;have hb6:Below W.heap.size W ((w4.setCell ⟨w3.heap.size,1,none⟩ (.int .i64 1)).alloc (Obj.cells #[.string ⟨nm.toArray⟩,.int .i64 1] 180 (0,0))):=hbs.alloc hbs.size _;have hxs:=Qr (w':=(w4.setCell ⟨w3.heap.size,1,none⟩ (.int .i64 1)).alloc (Obj.cells #[.string ⟨nm.toArray⟩,.int .i64 1] 180 (0,0))) hown λb e=>hb6.block b (Tm b e);have hN5:=aRc (w4.setCell ⟨w3.heap.size,1,none⟩ (.int .i64 1)) (Obj.cells #[.string ⟨nm.toArray⟩,.int .i64 1] 180 (0,0));have aeU:(w4.setCell ⟨w3.heap.size,1,none⟩ (.int .i64 1)).heap.size=w4.heap.size:=(by first|rfl|simp);rw[aeU]at hN5;refine wpList_append_lies _ rfl _ _ 24 Wx B 180 i0 az4 2 24 Tryz.underlying24 hi hz0 hz1 hz2 rfl jI (.slice aa x.1.length ca) x.1.length xs Wx hxs ⟨w4.heap.size,0,none⟩ 1 1 [.string ⟨nm.toArray⟩,.int .i64 1] Wx rfl (World.news_of_block hN5) y9 jI hqm hql (aQn hB hb6.size) _ rfl ?_;intro g cap w6 hown6 hgrow6 Tn aeV;have hnN:∀b,W.heap.size<=b->(Value.slice aa x.1.length ca).ownBlock≠some b:=λb hb e=>by have:=Tm b e;omega
      have hsz5:=hbs.size;have hq5:∀b o,b<=W.heap.size+1->W.heap.size<=b->w4.heap[b]? =some o->w6.heap[b]? =some o:=λb o hb hb2 ho=>(hgrow6.block b (by have:=(aQw.1 ho).1;simp;(try simp[World.setCell]);omega) (λe=>hnN b hb2 e.symm)).trans ((heap_alloc_old (w4.setCell ⟨w3.heap.size,1,none⟩ (.int .i64 1)) _ (by have:=(aQw.1 ho).1;(try simp[World.setCell]);omega)).trans ((Aj (w:=w4) (p:=⟨w3.heap.size,1,none⟩) _ acZ).trans ho));have q0':=hq5 _ _ fC (aQp _) q0;have q1':=hq5 _ _ (aQp _) fC q1;clear d0 d1 d2 d3 z0 z1 z2 z3;obtain⟨⟨d0,d1,d2,d3⟩,z0,z1,z2,z3⟩:=four q0';obtain⟨⟨p0,p1,p2,p3⟩,y0,y1,y2,y3⟩:=four q1'))
   all_goals (try simp only[Exit.inBlock,Exit.then])
   have hlw:W.heap.size+2<=w3.heap.size:=fC;have hx:=hS.aJE (y:=(nm,1,())) (N:=λ_=>False) hB hb6 hown hrep hown6 hgrow6 Tn aeV (λb hb=>hb.elim) ⟨_,_,rfl,⟨rfl,o8⟩,_,_,rfl,⟨rfl,jI,jI⟩,rfl⟩;have hg0:=arf Tn Tm y7;have o0:=λn(h1:W.heap.size<=n)(h2:n<=W.heap.size+1)=>(⟨λe=>e.elim (hS.high n h1).1 id,hg0 n h1 h2,(hS.high n h1).2.2.1,(hS.high n h1).2.2.2⟩:¬(F n\/False)/\_/\_/\_);have k6:Kp B B W w6:=(aeO hB hb6).grown hB hgrow6 λb e=>(hS.fa.lt e).1;obtain⟨r9,s9,k9⟩:=arh (k:=0) (.slice (some ⟨g,0,none⟩) (x.1.length+1) cap) (.slice (some ⟨g,0,none⟩) (x.1.length+1) cap) (.slice ab x.2.1.length cb) (.int .i64 x.2.2.1) (.slice ad x.2.2.2.1.length cd) hx k6 hB o0 q1';unfold Dh at r9 s9 k9;exact aRH (aRN rfl _ _ (W.heap.size+1) _ _ _ _ Wx r9 Tryz.underlying64 rfl lu) rfl ⟨_,_,_,_,rfl,s9,k9⟩
  .have hy2:y=(x.1++[(Sp.wordAt f 1,2,())],x.2.1,x.2.2.1,x.2.2.2.1,()):=hy.out.trans (by unfold wO;rw[h0,aQl.2 h2];rfl);clear hy;have hz:=hz.1;have hw1:(Sp.wordAt f 1).length<=600:=Me hsm.2 1;have lp1:=λ(w:World)(v:Value)(hv:FW w.heap.size w v f) hG=>NI hv (i:=1) jI jI hG;have lp2:=λ(w:World)(v:Value)(hv:FW w.heap.size w v f) hG=>NI hv (i:=2) jI jI hG;generalize Sp.wordAt f 1=nm at hw1 lp1 hy2;obtain⟨k2,hk2,hk3⟩:∃k2,Hid (k2=Sp.wordAt f 2)/\k2=Sp.wordAt f 2:=⟨_,rfl,rfl⟩;rw[← hk3]at lp2 h2;clear hk3;have g2:(k2==[105,110,116])=false:=aQl.2 h2;obtain⟨i0,hi,hz0,hz1,hz2⟩:=aSw aF7;have hqm:x.1.length+1<=maxLen:=o8;have hql:(x.1.length+1)*24<=140737488355328:=fC;obtain⟨xs,hown,hrep⟩:=hS.fa;have hown:W.ownsRow B 180 2 (.slice aa x.1.length ca) x.1.length xs:=hown;have hrep:∀i z,x.1[i]? =some z->dD W.heap F aB ((xs.drop (i*2)).take 2) z:=hrep;have Tm:∀b,(Value.slice aa x.1.length ca).ownBlock=some b->b<W.heap.size:=λb e=>(hS.fa.lt e).2;subst hy2
   go_wp2_with (first
    |(go_at_call 277;refine aQ3 (lp1 w2 _ hf2 hG2) ?_;rintro e w3 ⟨rfl,hb3⟩;have Dj:=Qp.trans (hb3.mono Qp.size);have U0:=(Below.refl w3.heap.size w3).alloc (aQp _) (Obj.cells #[.string ⟨nm.toArray⟩,.int .i64 2] 180 (0,0));have hrow3:=aRc w3 (Obj.cells #[.string ⟨nm.toArray⟩,.int .i64 2] 180 (0,0));have Jd:=Dj.trans (U0.mono Dj.size);have aeT:=hbase.trans (Jd.mono hbase.size);have hf3:=(hf2.keep' hb3).keep' U0;clear lp1)
    |(go_at_call 277;refine aQ3 (lp2 _ _ hf3 (rD hG aeT)) ?_;rintro e w4 ⟨rfl,hb4⟩;have hrow4:=(hb4.block w3.heap.size ni).trans hrow3;have aLw:=U0.size;have Qq:=Jd.trans (hb4.mono Jd.size);have aoK:=hbase.trans (Qq.mono hbase.size);have t0:=qM hrow4 0;have t1:=qM hrow4 1;have u0:=Ho hrow4 0;have u1:=Ho hrow4 1;have t0:w4.cell? ⟨w3.heap.size,0,none⟩=some (.string ⟨nm.toArray⟩):=t0;have t1:w4.cell? ⟨w3.heap.size,1,none⟩=some (.int .i64 2):=t1;have aH3:=Dj.size;have q0:=(Qq.block W.heap.size fC).trans hN0;have q1:=(Qq.block (W.heap.size+1) fC).trans hN1;obtain⟨⟨d0,d1,d2,d3⟩,z0,z1,z2,z3⟩:=four q0)
    |(at_builtin;have hbs:Below W.heap.size W w4:=aoK;have hb6:Below W.heap.size W (w4.alloc (Obj.cells #[.string ⟨nm.toArray⟩,.int .i64 2] 180 (0,0))):=hbs.alloc hbs.size _;have hxs:=Qr (w':=w4.alloc (Obj.cells #[.string ⟨nm.toArray⟩,.int .i64 2] 180 (0,0))) hown λb e=>hb6.block b (Tm b e);have hN5:=aRc w4 (Obj.cells #[.string ⟨nm.toArray⟩,.int .i64 2] 180 (0,0));have aeU:w4.heap.size=w4.heap.size:=(by first|rfl|simp);rw[aeU]at hN5;refine wpList_append_lies _ rfl _ _ 24 Wx B 180 i0 az4 2 24 Tryz.underlying24 hi hz0 hz1 hz2 rfl jI (.slice aa x.1.length ca) x.1.length xs Wx hxs ⟨w4.heap.size,0,none⟩ 1 1 [.string ⟨nm.toArray⟩,.int .i64 2] Wx rfl (World.news_of_block hN5) y9 jI hqm hql (aQn hB hb6.size) _ rfl ?_;intro g cap w6 hown6 hgrow6 Tn aeV;have hnN:∀b,W.heap.size<=b->(Value.slice aa x.1.length ca).ownBlock≠some b:=λb hb e=>by have:=Tm b e;omega
      have hsz5:=hbs.size;have hq5:∀b o,b<=W.heap.size+1->W.heap.size<=b->w4.heap[b]? =some o->w6.heap[b]? =some o:=λb o hb hb2 ho=>(hgrow6.block b (by have:=(aQw.1 ho).1;simp;(try simp[World.setCell]);omega) (λe=>hnN b hb2 e.symm)).trans ((heap_alloc_old w4 _ (by have:=(aQw.1 ho).1;(try simp[World.setCell]);omega)).trans ((rfl:w4.heap[b]? =w4.heap[b]?).trans ho));have q0':=hq5 _ _ fC (aQp _) q0;have q1':=hq5 _ _ (aQp _) fC q1;clear d0 d1 d2 d3 z0 z1 z2 z3;obtain⟨⟨d0,d1,d2,d3⟩,z0,z1,z2,z3⟩:=four q0';obtain⟨⟨p0,p1,p2,p3⟩,y0,y1,y2,y3⟩:=four q1'))
   all_goals (try simp only[Exit.inBlock,Exit.then])
   have hlw:W.heap.size+2<=w3.heap.size:=fC;have hx:=hS.aJE (y:=(nm,2,())) (N:=λ_=>False) hB hb6 hown hrep hown6 hgrow6 Tn aeV (λb hb=>hb.elim) ⟨_,_,rfl,⟨rfl,o8⟩,_,_,rfl,⟨rfl,jI,jI⟩,rfl⟩;have hg0:=arf Tn Tm y7;have o0:=λn(h1:W.heap.size<=n)(h2:n<=W.heap.size+1)=>(⟨λe=>e.elim (hS.high n h1).1 id,hg0 n h1 h2,(hS.high n h1).2.2.1,(hS.high n h1).2.2.2⟩:¬(F n\/False)/\_/\_/\_);have k6:Kp B B W w6:=(aeO hB hb6).grown hB hgrow6 λb e=>(hS.fa.lt e).1;obtain⟨r9,s9,k9⟩:=arh (k:=0) (.slice (some ⟨g,0,none⟩) (x.1.length+1) cap) (.slice (some ⟨g,0,none⟩) (x.1.length+1) cap) (.slice ab x.2.1.length cb) (.int .i64 x.2.2.1) (.slice ad x.2.2.2.1.length cd) hx k6 hB o0 q1';unfold Dh at r9 s9 k9;exact aRH (aRN rfl _ _ (W.heap.size+1) _ _ _ _ Wx r9 Tryz.underlying64 rfl lu) rfl ⟨_,_,_,_,rfl,s9,k9⟩
 have n1:x0≠yE:=e0;by_cases e0:x0=Tq
 .have h0:Sp.wordAt f 0=Tq:=hx0.out.symm.trans e0;have e0:x0=[110,101,120,116]:=e0;subst e0;clear hx0;have hy2:y=(x.1,x.2.1,Sp.numAt f 1,x.2.2.2.1,()):=hy.out.trans (by unfold wO;rw[h0];rfl);clear hy;have hno:Vx (Sp.numAt f 1):=aiS _;have ln:=λ(w:World)(v:Value)(hv:FW w.heap.size w v f) hG=>ak1 hv (i:=1) jI jI hG;generalize Sp.numAt f 1=n at hno ln hy2;subst hy2
  go_wp2_with (first
   |(go_at_call 278;refine aQ3 (ln w2 _ hf2 hG2) ?_;rintro e w3 ⟨rfl,hb3⟩;have Dj:=Qp.trans (hb3.mono Qp.size);have aH4:=hbase.trans (Dj.mono hbase.size);have q0:=(Dj.block W.heap.size fC).trans hN0;have q1:=(Dj.block (W.heap.size+1) fC).trans hN1;obtain⟨⟨d0,d1,d2,d3⟩,z0,z1,z2,z3⟩:=four q0;obtain⟨⟨p0,p1,p2,p3⟩,y0,y1,y2,y3⟩:=four q1))
  all_goals (try simp only[Exit.inBlock,Exit.then])
  have q9:=(Aj (w:=w3) (p:=⟨W.heap.size,2,none⟩) (b:=W.heap.size+1) (.int .i64 n) (by show W.heap.size+1≠W.heap.size;omega)).trans q1;have b9:=NH (y0:=.slice aa x.1.length ca) (y1:=.slice ab x.2.1.length cb) (y2:=.int .i64 n) (y3:=.slice ad x.2.2.2.1.length cd) (aH4.setCell (p:=⟨W.heap.size,2,none⟩) (aQp _) (.int .i64 n)) (show W.heap.size<=W.heap.size+1 from fC);have r9:=Qn (y0:=.slice aa x.1.length ca) (y1:=.slice ab x.2.1.length cb) (y2:=.int .i64 n) (y3:=.slice ad x.2.2.2.1.length cd) q9;have s9:=(hS.next hno).below b9;have k9:=aeO hB b9;unfold Dh at r9 s9 k9;exact aRH (aRN rfl _ _ (W.heap.size+1) _ _ _ _ Wx r9 Tryz.underlying64 rfl lu) rfl ⟨_,_,_,_,rfl,s9,k9⟩
 have n2:x0≠Tq:=e0;by_cases e0:x0=MB
 .have h0:Sp.wordAt f 0=MB:=hx0.out.symm.trans e0;have e0:x0=[102,105,108,101]:=e0;subst e0;clear hx0;have hy2:y=(x.1,x.2.1++[X4 (Sp.numAt f 1) (f.drop 2)],x.2.2.1,x.2.2.2.1,()):=hy.out.trans (by unfold wO;rw[h0];rfl);clear hy;have hz:=hz.2.1;rw[aH1]at hy2;have hw3:(Sp.wordAt f 3).length<=600:=Me hsm.2 3;have lp3:=λ(w:World)(v:Value)(hv:FW w.heap.size w v f) hG=>NI hv (i:=3) jI jI hG;have ln1:=λ(w:World)(v:Value)(hv:FW w.heap.size w v f) hG=>ak1 hv (i:=1) jI jI hG;have ln2:=λ(w:World)(v:Value)(hv:FW w.heap.size w v f) hG=>ak1 hv (i:=2) jI jI hG;have ln4:=λ(w:World)(v:Value)(hv:FW w.heap.size w v f) hG=>ak1 hv (i:=4) jI jI hG;have hn1:Vx (Sp.numAt f 1):=aiS _;have hn2:Vx (Sp.numAt f 2):=aiS _;have hn4:Vx (Sp.numAt f 4):=aiS _;generalize Sp.numAt f 1=n1 at ln1 hn1 hy2;generalize Sp.numAt f 2=n2 at ln2 hn2 hy2;generalize Sp.numAt f 4=n4 at ln4 hn4 hy2;generalize Sp.wordAt f 3=s3 at lp3 hw3 hy2;obtain⟨sh,hsh⟩:∃sh,(s3==[115])=sh:=⟨_,rfl⟩;rw[hsh]at hy2;generalize hA:wP (f.drop 5)=A at hy2;obtain⟨i0,hi,hz0,hz1,hz2⟩:=aSw aLB;obtain⟨i1,hi1,hz3,hz4,hz5⟩:=aSw infoAt;have hqm:x.2.1.length+1<=maxLen:=o8;have hql:(x.2.1.length+1)*56<=140737488355328:=fC;obtain⟨xs,hown,hrep⟩:=hS.fl;have hown:W.ownsRow B 140 5 (.slice ab x.2.1.length cb) x.2.1.length xs:=hown;have hrep:∀i z,x.2.1[i]? =some z->dD W.heap F aF ((xs.drop (i*5)).take 5) z:=hrep;have Tm:∀b,(Value.slice ab x.2.1.length cb).ownBlock=some b->b<W.heap.size:=λb e=>(hS.fl.lt e).2;have aPR:=hsm.1;subst hy2
  go_wp2_with (first
   |(go_at_call 278;refine aQ3 (ln1 w2 _ hf2 hG2) ?_;rintro e w3 ⟨rfl,hb3⟩;have Dj:=Qp.trans (hb3.mono Qp.size);have hf3:=hf2.keep' hb3;have aH4:=hbase.trans (Dj.mono hbase.size);have hG3:=rD hG aH4;clear ln1)
   |(go_at_call 278;refine aQ3 (ln2 w3 _ hf3 hG3) ?_;rintro e w4 ⟨rfl,hb4⟩;have Jd:=Dj.trans (hb4.mono Dj.size);have hf4:=hf3.keep' hb4;have aeT:=hbase.trans (Jd.mono hbase.size);have hG4:=rD hG aeT;clear ln2)
   |(go_at_call 277;refine aQ3 (lp3 w4 _ hf4 hG4) ?_;rintro e w5 ⟨rfl,hb5⟩;have Qq:=Jd.trans (hb5.mono Jd.size);have hf5:=hf4.keep' hb5;have aoK:=hbase.trans (Qq.mono hbase.size);have hG5:=rD hG aoK;clear lp3)
   |(go_at_call 278;refine aQ3 (ln4 w5 _ hf5 hG5) ?_;rintro e w6 ⟨rfl,hb6⟩;have hb16:=Qq.trans (hb6.mono Qq.size);have hf6:=hf5.keep' hb6;have aH5:=hbase.trans (hb16.mono hbase.size);have hG6:=rD hG aH5;clear ln4))
  have aPS:=hb16.size
  go_loopw [9] (λi wr=>∃(m:Nat)(al:List aW)(vt:Value),i=.int .i64 (m:Int)/\AtM f A m al/\wr.heap[w6.heap.size]? =some (.cells #[.int .i64 n1,.int .i64 n2,.bool sh,.int .i64 n4,vt] 140 (0,0))/\
   OL wr (w6.heap.size+1) (λ_=>False) 193 bG vt al/\Below w6.heap.size w6 wr/\w6.heap.size+1<=wr.heap.size)
   (λi _=>f.length-(intOf i).toNat)
  case atStart=>exact⟨5,[],.slice none 0 0,rfl,⟨.inl rfl,rfl,hA⟩,aRc w6 _,OL.nil,(Below.refl _ w6).alloc (aQp _) _,ni⟩
  case round=>
   obtain⟨m,al,vt,rfl,hat,hrow,hOL,hbr,hsr⟩:=hrel;have aH6:=hb16.trans (hbr.mono hb16.size);have ayI:=hbase.trans (aH6.mono hbase.size);have hGr:G.ok wr:=rD hG ayI;have hfr:=hf6.keep' hbr;rcases aQE m f.length with hlt|hge
   .have hlt':((m:Nat):Int)<f.length:=fC;have hnx:=hat.step hlt;have aPz:al.length<=24:=by have:=hat.ln;omega
    clear hat;have lpm:=NI hfr (i:=(m:Int)+1) fC fC hGr;have hwm:(Sp.wordAt f ((m:Int)+1)).length<=600:=Me hsm.2 _;have hkm:(f.getD m ([],())).1.length<=600:=hsm.2 _ (getD_mem hlt);obtain⟨b2,o2,rfl,hbl,cw⟩:=FW.cell hfr hlt;generalize (f.getD m ([],())).1=am at hnx hkm cw;generalize Sp.wordAt f ((m:Int)+1)=vm at hnx hwm lpm;have pv:=λw hG=>aHQ vm fC w hG;generalize gZ vm=z at hnx pv;obtain⟨⟨k,vi,vs,⟨⟩⟩,ok⟩:=z;dsimp only at pv
    go_wp2_with (first
     |(go_at_call 277;refine aQ3 lpm ?_;rintro e w7 ⟨rfl,hb7⟩;have aOd:=ayI.trans (hb7.mono ayI.size))
     |(go_at_call 279;refine aQ3 (pv w7 (rD hG aOd)) ?_;rintro e w8 ⟨rfl,hb8,p1,p2,p3⟩))
    have hs7:=hb7.size;have hs8:=hb8.size;have aLC:=hb7.trans (hb8.mono hs7);have ayJ:=aRc w8 (Obj.cells #[.int .i64 k,.int .i64 vi,.string ⟨vs.toArray⟩] 161 (0,0));have aH7:Below w8.heap.size w8 (w8.alloc (Obj.cells #[.int .i64 k,.int .i64 vi,.string ⟨vs.toArray⟩] 161 (0,0))):=(Below.refl _ w8).alloc (aQp _) _;generalize w8.alloc (Obj.cells #[.int .i64 k,.int .i64 vi,.string ⟨vs.toArray⟩] 161 (0,0))=w9 at ayJ aH7 ⊢;have hs9:=aH7.size;have az5:=aLC.trans (aH7.mono aLC.size);have hbox:=(az5.block w6.heap.size fC).trans hrow;have aOe:w6.heap.size<w9.heap.size:=(aQw.1 hbox).1;have e4:w9.cell? ⟨w6.heap.size,4,none⟩=some vt:=qM hbox 4;have v0:w9.cell? ⟨w8.heap.size,0,none⟩=some (.int .i64 k):=qM ayJ 0;have v1:w9.cell? ⟨w8.heap.size,1,none⟩=some (.int .i64 vi):=qM ayJ 1;have v2:w9.cell? ⟨w8.heap.size,2,none⟩=some (.string ⟨vs.toArray⟩):=qM ayJ 2;have cw9:w9.cell? ⟨b2,o2+m,none⟩=some (.string ⟨am.toArray⟩):=(World.cell?_of_block (a:=⟨b2,o2+m,none⟩) (az5.block b2 hbl)).trans cw;have hlt0:∀b,vt.ownBlock=some b->w6.heap.size+1<=b/\b<wr.heap.size:=λb e=>hOL.lt e;obtain⟨ys,hownA,aEc⟩:=hOL;have hownA:wr.ownsRow (w6.heap.size+1) 193 4 vt al.length ys:=hownA;have aEc:∀i z,al[i]? =some z->dD wr.heap (λ_=>False) bG ((ys.drop (i*4)).take 4) z:=aEc;have aMX:w9.ownsRow (w6.heap.size+1) 193 4 vt al.length ys:=Qr hownA λb e=>az5.block b (hlt0 b e).2;have hnB:vt.ownBlock≠some w6.heap.size:=λe=>by have:=(hlt0 _ e).1;omega
    have aOf:al.length+1<=maxLen:=o8;have aOg:(al.length+1)*48<=140737488355328:=fC
    go_region_law (refine step_append_lies _ rfl (.tmp 70) (.tmp 77) 138 rfl (w6.heap.size+1) 193 i1 zeroAt 4 48 Tryz.underlying138 hi1 hz3 hz4 hz5 rfl jI vt al.length ys (by simp[Act.eval]) ((World.ownsRow.drew aMX).alloc _) ⟨w9.heap.size,0,none⟩ 1 1 [.string ⟨am.toArray⟩,.int .i64 k,.int .i64 vi,.string ⟨vs.toArray⟩] (by simp[Act.eval]) rfl (World.news_of_block (aRc _ _)) (by intro u hu;simp at hu;rcases hu with rfl|rfl|rfl|rfl<;>rfl) jI aOf aOg ql _ rfl ?_;intro g cap w10 aLD auY aPA aPB;have aH8:=(auY.block w6.heap.size ql (λe=>hnB e.symm)).trans ((heap_alloc_old w9.drew _ aOe).trans hbox);have k10:w10.cell? ⟨w6.heap.size,4,none⟩=some vt:=qM aH8 4;have z10:=Ho aH8 4)
    all_goals go_wp2
    all_goals
     have hbd:Below w9.heap.size w9 (w9.drew.alloc (Obj.cells #[.string ⟨am.toArray⟩,.int .i64 k,.int .i64 vi,.string ⟨vs.toArray⟩] 193 (0,0))):=((Below.refl _ w9).drew).alloc (aQp _) _;have hb0:Below w6.heap.size w6 (w9.drew.alloc (Obj.cells #[.string ⟨am.toArray⟩,.int .i64 k,.int .i64 vi,.string ⟨vs.toArray⟩] 193 (0,0))):=hbr.trans ((az5.trans (hbd.mono az5.size)).mono hbr.size);have aOh:=below_grown hb0 auY (aQp _) λb e=>Nat.le_of_succ_le (hlt0 b e).1;have aOi:=aOh.setCell (p:=⟨w6.heap.size,4,none⟩) (aQp _) (.slice (some ⟨g,0,none⟩) (al.length+1) cap);have hO:OL w10 (w6.heap.size+1) (λ_=>False) 193 bG (.slice (some ⟨g,0,none⟩) (al.length+1) cap) (al++[(am,k,vi,vs,())]):=OL.push (r:=bG) (F:=λ_=>False) aEc hownA.1 aLD (λb hb=>hb.elim) ⟨_,_,rfl,⟨rfl,o8⟩,_,_,rfl,⟨rfl,p1⟩,_,_,rfl,⟨rfl,p2⟩,_,_,rfl,⟨rfl,p3⟩,rfl⟩;have hO2:OL (w10.setCell ⟨w6.heap.size,4,none⟩ (.slice (some ⟨g,0,none⟩) (al.length+1) cap)) (w6.heap.size+1) (λ_=>False) 193 bG (.slice (some ⟨g,0,none⟩) (al.length+1) cap) (al++[(am,k,vi,vs,())]):=hO.keep (λb e=>Aj _ (by have:=(hO.lt e).1;show b≠w6.heap.size;omega)) λb hb=>hb.elim;exact⟨⟨m+2,_,_,by go_num,hnx,acX aH8 4 _,hO2,aOi,by have:=auY.size;simp[World.setCell]at this ⊢;omega⟩,by simp only[intOf];omega⟩
   .have hge':¬((m:Nat):Int)<f.length:=fC;obtain rfl:=hat.done hge;clear hA hat;obtain⟨ac,cc,rfl⟩:=hOL.form;have q0:=(aH6.block W.heap.size fC).trans hN0;have q1:=(aH6.block (W.heap.size+1) fC).trans hN1;obtain⟨⟨d0,d1,d2,d3⟩,z0,z1,z2,z3⟩:=four q0;have e0:wr.cell? ⟨w6.heap.size,0,none⟩=some (.int .i64 n1):=qM hrow 0;have e1:wr.cell? ⟨w6.heap.size,1,none⟩=some (.int .i64 n2):=qM hrow 1;have e2:wr.cell? ⟨w6.heap.size,2,none⟩=some (.bool sh):=qM hrow 2;have e3:wr.cell? ⟨w6.heap.size,3,none⟩=some (.int .i64 n4):=qM hrow 3;have e4:wr.cell? ⟨w6.heap.size,4,none⟩=some (.slice ac A.length cc):=qM hrow 4
    go_wp2_with (first
     |(at_builtin;have hbs:Below W.heap.size W wr:=ayI;have hb7:Below W.heap.size W (wr.alloc (Obj.cells #[.int .i64 n1,.int .i64 n2,.bool sh,.int .i64 n4,.slice ac A.length cc] 140 (0,0))):=hbs.alloc hbs.size _;have hxs:=Qr (w':=wr.alloc (Obj.cells #[.int .i64 n1,.int .i64 n2,.bool sh,.int .i64 n4,.slice ac A.length cc] 140 (0,0))) hown λb e=>hb7.block b (Tm b e);have hN5:=aRc wr (Obj.cells #[.int .i64 n1,.int .i64 n2,.bool sh,.int .i64 n4,.slice ac A.length cc] 140 (0,0));refine wpList_append_lies _ rfl _ _ 25 Wx B 140 i0 aF9 5 56 Tryz.underlying25 hi hz0 hz1 hz2 rfl jI (.slice ab x.2.1.length cb) x.2.1.length xs Wx hxs ⟨wr.heap.size,0,none⟩ 1 1 [.int .i64 n1,.int .i64 n2,.bool sh,.int .i64 n4,.slice ac A.length cc] Wx rfl (World.news_of_block hN5) (by intro u hu;simp at hu;rcases hu with rfl|rfl|rfl|rfl|rfl<;>rfl) jI hqm hql (aQn hB hb7.size) _ rfl ?_;intro g cap w7 hown6 hgrow6 Tn aeV;have hnN:∀b,W.heap.size<=b->(Value.slice ab x.2.1.length cb).ownBlock≠some b:=λb hb e=>(by have:=Tm b e;omega);have hsz5:=hbs.size;have hq5:∀b o,b<=W.heap.size+1->W.heap.size<=b->wr.heap[b]? =some o->w7.heap[b]? =some o:=λb o hb hb2 ho=>(hgrow6.block b (by have:=(aQw.1 ho).1;simp;omega) (λe=>hnN b hb2 e.symm)).trans ((heap_alloc_old wr _ (aQw.1 ho).1).trans ho);have q0':=hq5 _ _ fC (aQp _) q0;have q1':=hq5 _ _ (aQp _) fC q1;clear d0 d1 d2 d3 z0 z1 z2 z3;obtain⟨⟨d0,d1,d2,d3⟩,z0,z1,z2,z3⟩:=four q0';obtain⟨⟨p0,p1,p2,p3⟩,y0',y1',y2',y3'⟩:=four q1'))
    all_goals (try simp only[Exit.inBlock,Exit.then])
    have hlw:W.heap.size+2<=w6.heap.size:=fC;have hlt0:∀b,(Value.slice ac A.length cc).ownBlock=some b->w6.heap.size+1<=b/\b<wr.heap.size:=λb e=>hOL.lt e;have hx:=hS.aMY (y:=(n1,n2,sh,n4,A,())) (N:=λb=>(Value.slice ac A.length cc).ownBlock=some b) hB hb7 hown hrep hown6 hgrow6 Tn aeV (λb hb=>⟨by have:=(hlt0 b hb).1;omega,by have:=(hlt0 b hb).2;simp;omega⟩)
     ⟨_,_,rfl,⟨rfl,hn1⟩,_,_,rfl,⟨rfl,hn2⟩,_,_,rfl,rfl,_,_,rfl,⟨rfl,hn4⟩,_,_,rfl,iL.mono (λb hb=>⟨hb,heap_alloc_old wr _ (hlt0 b hb).2⟩) _ _ _ (hOL.rep jI (S:=λb=>(Value.slice ac A.length cc).ownBlock=some b) λb hb=>hb.elim False.elim id),rfl⟩
    have hg0:=arf Tn Tm (by have:=(aQw.1 q1).1;simp;omega);have o0:=λn(h1:W.heap.size<=n)(h2:n<=W.heap.size+1)=>(⟨λe=>e.elim (hS.high n h1).1 (λe=>by have:=(hlt0 n e).1;omega),(hS.high n h1).2.1,hg0 n h1 h2,(hS.high n h1).2.2.2⟩:¬(F n\/(Value.slice ac A.length cc).ownBlock=some n)/\_/\_/\_);have k6:Kp B B W w7:=(aeO hB hb7).grown hB hgrow6 λb e=>(hS.fl.lt e).1;obtain⟨r9,s9,k9⟩:=arh (k:=1) (.slice (some ⟨g,0,none⟩) (x.2.1.length+1) cap) (.slice aa x.1.length ca) (.slice (some ⟨g,0,none⟩) (x.2.1.length+1) cap) (.int .i64 x.2.2.1) (.slice ad x.2.2.2.1.length cd) hx k6 hB o0 q1';unfold Dh at r9 s9 k9;exact aRH (aRN rfl _ _ (W.heap.size+1) _ _ _ _ Wx r9 Tryz.underlying64 rfl lu) rfl ⟨_,_,_,_,rfl,s9,k9⟩
 have n3:x0≠MB:=e0;by_cases e0:x0=BF
 .have h0:Sp.wordAt f 0=BF:=hx0.out.symm.trans e0;have e0:x0=[100,105,114]:=e0;subst e0;clear hx0;by_cases h2:2<f.length
  .have hy2:y=(x.1,x.2.1,x.2.2.1,x.2.2.2.1++[(Sp.wordAt f 1,mZ (mY (f.drop 2)),())],()):=hy.out.trans (by unfold wO;rw[h0,aQT (show(2:Int)<(f.length:Int)from fC)];rfl);clear hy;have hz:=hz.2.2.2.1;have hw1:(Sp.wordAt f 1).length<=600:=Me hsm.2 1;have lp1:=λ(w:World)(v:Value)(hv:FW w.heap.size w v f) hG=>NI hv (i:=1) jI jI hG;generalize Sp.wordAt f 1=nm at hw1 lp1 hy2;obtain⟨y0,y1,r,rfl,hr⟩:∃y0 y1 r,f=y0::y1::r/\0<r.length:=by
    match f,h2 with
    |y0::y1::r,h=>exact⟨y0,y1,r,rfl,by simp at h;omega⟩
    |[_],h=>exact absurd h ni
    |[],h=>exact absurd h ni
   obtain⟨hs1,hs2⟩:=hsm;have hrl:r.length<=24:=by rw[aQz,aQz]at hs1;omega
   have hj:(mY r).length<=24*601:=aQn (az6 (m:=600) λy hy=>hs2 y (aQo _ (aQo _ hy))) (aQy _ hrl);rw[show(y0::y1::r).drop 2=r from rfl]at hy2;have hf1:FW w1.heap.size w1 (.slice a1 (r.length+2) c1) (y0::y1::r):=hf1;obtain⟨b2,o2,e2,-,-⟩:=FW.cell (a:=a1) (c:=c1) (f:=y0::y1::r) hf1 (n:=0) ni;subst e2;obtain⟨hc2,ht1⟩:=hf1.aMZ hr;have ht2:=ht1.keep' hb2;have lj:=λ(w:World)(v:Value)(hv:FW w.heap.size w v r) hG=>aKj v r w hv fC fC hG;generalize mY r=t at lj hj hy2;have pq:=λw hG=>aHR t fC w hG;generalize mZ t=q at pq hy2;generalize uV t=ok at pq;have hlt2:(2:Int)<(r.length:Int)+2:=fC;have hlt3:(2:Int)<(r.length:Int)+1+1:=fC;obtain⟨i0,hi,hz0,hz1,hz2⟩:=aSw aGa;have hqm:x.2.2.2.1.length+1<=maxLen:=o8;have hql:(x.2.2.2.1.length+1)*40<=140737488355328:=fC;obtain⟨xs,hown,hrep⟩:=hS.fd;have hown:W.ownsRow B 115 2 (.slice ad x.2.2.2.1.length cd) x.2.2.2.1.length xs:=hown;have hrep:∀i z,x.2.2.2.1[i]? =some z->dD W.heap F ay ((xs.drop (i*2)).take 2) z:=hrep;have Tm:∀b,(Value.slice ad x.2.2.2.1.length cd).ownBlock=some b->b<W.heap.size:=λb e=>(hS.fd.lt e).2;subst hy2
   go_wp2_with (first
    |(go_at_call 277;refine aQ3 (lp1 w2 _ hf2 hG2) ?_;rintro e w3 ⟨rfl,hb3⟩;have Dj:=Qp.trans (hb3.mono Qp.size);have aH3:=Dj.size;have U0:=(Below.refl w3.heap.size w3).alloc (aQp _) (Obj.cells #[.string ⟨nm.toArray⟩,.slice none 0 0] 115 (0,0));have hrow3:=aRc w3 (Obj.cells #[.string ⟨nm.toArray⟩,.slice none 0 0] 115 (0,0));have Jd:=Dj.trans (U0.mono Dj.size);have aeT:=hbase.trans (Jd.mono hbase.size);have ht3:=(ht2.keep' hb3).keep' U0;clear lp1)
    |(go_at_call 281;refine aQ3 (lj _ _ ht3 (rD hG aeT)) ?_;rintro e w4 ⟨rfl,hb4⟩;have Qq:=Jd.trans (hb4.mono Jd.size);have aoK:=hbase.trans (Qq.mono hbase.size);have aLw:=U0.size;have aPT:=hb4.size;have aOj:(w3.alloc (Obj.cells #[.string ⟨nm.toArray⟩,.slice none 0 0] 115 (0,0))).heap.size=w3.heap.size+1:=ni)
    |(go_at_call 280;refine aQ3 (pq w4 (rD hG aoK)) ?_;rintro e w5 ⟨a6,c6,rfl,hb5,hra⟩;have aOk:=hb4.trans (hb5.mono hb4.size);have ayK:=(aOk.block w3.heap.size ni).trans hrow3;have hb16:=Qq.trans (hb5.mono Qq.size);have aH5:=hbase.trans (hb16.mono hbase.size);have aPU:=hb5.size;have t0:=qM ayK 0;have t1:=qM ayK 1;have u0:=Ho ayK 0;have u1:=Ho ayK 1;have t0:w5.cell? ⟨w3.heap.size,0,none⟩=some (.string ⟨nm.toArray⟩):=t0;have t1:w5.cell? ⟨w3.heap.size,1,none⟩=some (.slice none 0 0):=t1;have q0:=(hb16.block W.heap.size fC).trans hN0;have q1:=(hb16.block (W.heap.size+1) fC).trans hN1;obtain⟨⟨d0,d1,d2,d3⟩,z0,z1,z2,z3⟩:=four q0)
    |(at_builtin;have hbs:Below W.heap.size W (w5.setCell ⟨w3.heap.size,1,none⟩ (.slice a6 q.length c6)):=aH5.setCell (p:=⟨w3.heap.size,1,none⟩) (show W.heap.size<=w3.heap.size from fC) _;have hb7:Below W.heap.size W ((w5.setCell ⟨w3.heap.size,1,none⟩ (.slice a6 q.length c6)).alloc (Obj.cells #[.string ⟨nm.toArray⟩,.slice a6 q.length c6] 115 (0,0))):=hbs.alloc hbs.size _;have hxs:=Qr (w':=(w5.setCell ⟨w3.heap.size,1,none⟩ (.slice a6 q.length c6)).alloc (Obj.cells #[.string ⟨nm.toArray⟩,.slice a6 q.length c6] 115 (0,0))) hown λb e=>hb7.block b (Tm b e);have hN5:=aRc (w5.setCell ⟨w3.heap.size,1,none⟩ (.slice a6 q.length c6)) (Obj.cells #[.string ⟨nm.toArray⟩,.slice a6 q.length c6] 115 (0,0));have aeU:(w5.setCell ⟨w3.heap.size,1,none⟩ (.slice a6 q.length c6)).heap.size=w5.heap.size:=(by first|rfl|simp);rw[aeU]at hN5;refine wpList_append_lies _ rfl _ _ 28 Wx B 115 i0 az7 2 40 Tryz.underlying28 hi hz0 hz1 hz2 rfl jI (.slice ad x.2.2.2.1.length cd) x.2.2.2.1.length xs Wx hxs ⟨w5.heap.size,0,none⟩ 1 1 [.string ⟨nm.toArray⟩,.slice a6 q.length c6] Wx rfl (World.news_of_block hN5) y9 jI hqm hql (aQn hB hb7.size) _ rfl ?_;intro g cap w6 hown6 hgrow6 Tn aeV;have hnN:∀b,W.heap.size<=b->(Value.slice ad x.2.2.2.1.length cd).ownBlock≠some b:=λb hb e=>(by have:=Tm b e;omega);have hsz5:=hbs.size;have hq5:∀b o,b<=W.heap.size+1->W.heap.size<=b->w5.heap[b]? =some o->w6.heap[b]? =some o:=λb o hb hb2 ho=>(hgrow6.block b (by have:=(aQw.1 ho).1;simp;(try simp[World.setCell]);(try simp at this);omega) (λe=>hnN b hb2 e.symm)).trans ((heap_alloc_old (w5.setCell ⟨w3.heap.size,1,none⟩ (.slice a6 q.length c6)) _ (by have:=(aQw.1 ho).1;(try simp[World.setCell]);(try simp at this);omega)).trans ((Aj (w:=w5) (p:=⟨w3.heap.size,1,none⟩) _ acZ).trans ho));have q0':=hq5 _ _ fC (aQp _) q0;have q1':=hq5 _ _ (aQp _) fC q1;clear d0 d1 d2 d3 z0 z1 z2 z3;obtain⟨⟨d0,d1,d2,d3⟩,z0,z1,z2,z3⟩:=four q0';obtain⟨⟨p0,p1,p2,p3⟩,y0',y1',y2',y3'⟩:=four q1'))
   all_goals (try simp only[Exit.inBlock,Exit.then])
   have hlw:W.heap.size+2<=w3.heap.size:=fC;have hx:=hS.aJF (y:=(nm,q,())) (N:=λb=>w4.heap.size<=b/\b<w5.heap.size) hB hb7 hown hrep hown6 hgrow6 Tn aeV (λb hb=>⟨fC,by have:=hb.2;simp[World.setCell];omega⟩) ⟨_,_,rfl,⟨rfl,o8⟩,_,_,rfl,iL.mono (λb hb=>⟨hb,(heap_alloc_old (w5.setCell ⟨w3.heap.size,1,none⟩ (.slice a6 q.length c6)) _ (by simp[World.setCell];exact hb.2)).trans (Aj _ acZ)⟩) _ _ _ hra,rfl⟩;have hg0:=arf Tn Tm y7;have o0:=λn(h1:W.heap.size<=n)(h2:n<=W.heap.size+1)=>(⟨λe=>e.elim (hS.high n h1).1 (λe=>by have:=e.1;omega),(hS.high n h1).2.1,(hS.high n h1).2.2.1,hg0 n h1 h2⟩:¬(F n\/(w4.heap.size<=n/\n<w5.heap.size))/\_/\_/\_);have k6:Kp B B W w6:=(aeO hB hb7).grown hB hgrow6 λb e=>(hS.fd.lt e).1;obtain⟨r9,s9,k9⟩:=arh (k:=3) (.slice (some ⟨g,0,none⟩) (x.2.2.2.1.length+1) cap) (.slice aa x.1.length ca) (.slice ab x.2.1.length cb) (.int .i64 x.2.2.1) (.slice (some ⟨g,0,none⟩) (x.2.2.2.1.length+1) cap) hx k6 hB o0 q1';unfold Dh at r9 s9 k9;exact aRH (aRN rfl _ _ (W.heap.size+1) _ _ _ _ Wx r9 Tryz.underlying64 rfl lu) rfl ⟨_,_,_,_,rfl,s9,k9⟩
  .have h2:¬(2:Int)<(f.length:Int):=fC;have hy2:y=(x.1,x.2.1,x.2.2.1,x.2.2.2.1++[(Sp.wordAt f 1,[],())],()):=hy.out.trans (by unfold wO;rw[h0,aQH h2];rfl);clear hy;have hz:=hz.2.2.2.1;have hw1:(Sp.wordAt f 1).length<=600:=Me hsm.2 1;have lp1:=λ(w:World)(v:Value)(hv:FW w.heap.size w v f) hG=>NI hv (i:=1) jI jI hG;generalize Sp.wordAt f 1=nm at hw1 lp1 hy2;obtain⟨i0,hi,hz0,hz1,hz2⟩:=aSw aGa;have hqm:x.2.2.2.1.length+1<=maxLen:=o8;have hql:(x.2.2.2.1.length+1)*40<=140737488355328:=fC;obtain⟨xs,hown,hrep⟩:=hS.fd;have hown:W.ownsRow B 115 2 (.slice ad x.2.2.2.1.length cd) x.2.2.2.1.length xs:=hown;have hrep:∀i z,x.2.2.2.1[i]? =some z->dD W.heap F ay ((xs.drop (i*2)).take 2) z:=hrep;have Tm:∀b,(Value.slice ad x.2.2.2.1.length cd).ownBlock=some b->b<W.heap.size:=λb e=>(hS.fd.lt e).2;subst hy2
   go_wp2_with (first
    |(go_at_call 277;refine aQ3 (lp1 w2 _ hf2 hG2) ?_;rintro e w3 ⟨rfl,hb3⟩;have Dj:=Qp.trans (hb3.mono Qp.size);have aH3:=Dj.size;have U0:=(Below.refl w3.heap.size w3).alloc (aQp _) (Obj.cells #[.string ⟨nm.toArray⟩,.slice none 0 0] 115 (0,0));have hrow3:=aRc w3 (Obj.cells #[.string ⟨nm.toArray⟩,.slice none 0 0] 115 (0,0));have Jd:=Dj.trans (U0.mono Dj.size);have aeT:=hbase.trans (Jd.mono hbase.size);have aOj:(w3.alloc (Obj.cells #[.string ⟨nm.toArray⟩,.slice none 0 0] 115 (0,0))).heap.size=w3.heap.size+1:=ni;have t0:=qM hrow3 0;have t1:=qM hrow3 1;have u0:=Ho hrow3 0;have u1:=Ho hrow3 1;have t0:(w3.alloc (Obj.cells #[.string ⟨nm.toArray⟩,.slice none 0 0] 115 (0,0))).cell? ⟨w3.heap.size,0,none⟩=some (.string ⟨nm.toArray⟩):=t0;have t1:(w3.alloc (Obj.cells #[.string ⟨nm.toArray⟩,.slice none 0 0] 115 (0,0))).cell? ⟨w3.heap.size,1,none⟩=some (.slice none 0 0):=t1;have q0:=(Jd.block W.heap.size fC).trans hN0;have q1:=(Jd.block (W.heap.size+1) fC).trans hN1;obtain⟨⟨d0,d1,d2,d3⟩,z0,z1,z2,z3⟩:=four q0)
    |(at_builtin;have hbs:Below W.heap.size W (w3.alloc (Obj.cells #[.string ⟨nm.toArray⟩,.slice none 0 0] 115 (0,0))):=aeT;have hb7:Below W.heap.size W ((w3.alloc (Obj.cells #[.string ⟨nm.toArray⟩,.slice none 0 0] 115 (0,0))).alloc (Obj.cells #[.string ⟨nm.toArray⟩,.slice none 0 0] 115 (0,0))):=hbs.alloc hbs.size _;have hxs:=Qr (w':=(w3.alloc (Obj.cells #[.string ⟨nm.toArray⟩,.slice none 0 0] 115 (0,0))).alloc (Obj.cells #[.string ⟨nm.toArray⟩,.slice none 0 0] 115 (0,0))) hown λb e=>hb7.block b (Tm b e);have hN5:=aRc (w3.alloc (Obj.cells #[.string ⟨nm.toArray⟩,.slice none 0 0] 115 (0,0))) (Obj.cells #[.string ⟨nm.toArray⟩,.slice none 0 0] 115 (0,0));have aeU:(w3.alloc (Obj.cells #[.string ⟨nm.toArray⟩,.slice none 0 0] 115 (0,0))).heap.size=w3.heap.size+1:=(by first|rfl|simp);rw[aeU]at hN5;refine wpList_append_lies _ rfl _ _ 28 Wx B 115 i0 az7 2 40 Tryz.underlying28 hi hz0 hz1 hz2 rfl jI (.slice ad x.2.2.2.1.length cd) x.2.2.2.1.length xs Wx hxs ⟨w3.heap.size+1,0,none⟩ 1 1 [.string ⟨nm.toArray⟩,.slice none 0 0] Wx rfl (World.news_of_block hN5) y9 jI hqm hql (aQn hB hb7.size) _ rfl ?_;intro g cap w6 hown6 hgrow6 Tn aeV;have hnN:∀b,W.heap.size<=b->(Value.slice ad x.2.2.2.1.length cd).ownBlock≠some b:=λb hb e=>(by have:=Tm b e;omega);have hsz5:=hbs.size;have hq5:∀b o,b<=W.heap.size+1->W.heap.size<=b->(w3.alloc (Obj.cells #[.string ⟨nm.toArray⟩,.slice none 0 0] 115 (0,0))).heap[b]? =some o->w6.heap[b]? =some o:=λb o hb hb2 ho=>(hgrow6.block b (by have:=(aQw.1 ho).1;simp;(try simp[World.setCell]);(try simp at this);omega) (λe=>hnN b hb2 e.symm)).trans ((heap_alloc_old (w3.alloc (Obj.cells #[.string ⟨nm.toArray⟩,.slice none 0 0] 115 (0,0))) _ (by have:=(aQw.1 ho).1;(try simp[World.setCell]);(try simp at this);omega)).trans ((rfl:(w3.alloc (Obj.cells #[.string ⟨nm.toArray⟩,.slice none 0 0] 115 (0,0))).heap[b]? =(w3.alloc (Obj.cells #[.string ⟨nm.toArray⟩,.slice none 0 0] 115 (0,0))).heap[b]?).trans ho));have q0':=hq5 _ _ fC (aQp _) q0;have q1':=hq5 _ _ (aQp _) fC q1;clear d0 d1 d2 d3 z0 z1 z2 z3;obtain⟨⟨d0,d1,d2,d3⟩,z0,z1,z2,z3⟩:=four q0';obtain⟨⟨p0,p1,p2,p3⟩,y0',y1',y2',y3'⟩:=four q1'))
   all_goals (try simp only[Exit.inBlock,Exit.then])
   have hlw:W.heap.size+2<=w3.heap.size:=fC;have hx:=hS.aJF (y:=(nm,[],())) (N:=λ_=>False) hB hb7 hown hrep hown6 hgrow6 Tn aeV (λb hb=>hb.elim) ⟨_,_,rfl,⟨rfl,o8⟩,_,_,rfl,⟨aQx _,.inl ⟨rfl,none,0,rfl⟩⟩,rfl⟩;have hg0:=arf Tn Tm y7;have o0:=λn(h1:W.heap.size<=n)(h2:n<=W.heap.size+1)=>(⟨λe=>e.elim (hS.high n h1).1 id,(hS.high n h1).2.1,(hS.high n h1).2.2.1,hg0 n h1 h2⟩:¬(F n\/False)/\_/\_/\_);have k6:Kp B B W w6:=(aeO hB hb7).grown hB hgrow6 λb e=>(hS.fd.lt e).1;obtain⟨r9,s9,k9⟩:=arh (k:=3) (.slice (some ⟨g,0,none⟩) (x.2.2.2.1.length+1) cap) (.slice aa x.1.length ca) (.slice ab x.2.1.length cb) (.int .i64 x.2.2.1) (.slice (some ⟨g,0,none⟩) (x.2.2.2.1.length+1) cap) hx k6 hB o0 q1';unfold Dh at r9 s9 k9;exact aRH (aRN rfl _ _ (W.heap.size+1) _ _ _ _ Wx r9 Tryz.underlying64 rfl lu) rfl ⟨_,_,_,_,rfl,s9,k9⟩
 have hy2:x=y:=(hy.out.trans (by unfold wO;rw[← hx0.out,aQl.2 n1,aQl.2 n2,aQl.2 n3,aQl.2 e0];rfl)).symm;clear hy;subst hy2;have h1:¬x0=[102,105,101,108,100]:=n1;have h2:¬x0=[110,101,120,116]:=n2;have h3:¬x0=[102,105,108,101]:=n3;have h4:¬x0=[100,105,114]:=e0;clear n1 n2 n3 e0;have g1:(x0==[102,105,101,108,100])=false:=aQl.2 h1;have g2:(x0==[110,101,120,116])=false:=aQl.2 h2;have g3:(x0==[102,105,108,101])=false:=aQl.2 h3;have g4:(x0==[100,105,114])=false:=aQl.2 h4;have q0:=(Qp.block W.heap.size fC).trans hN0;have q1:=(Qp.block (W.heap.size+1) fC).trans hN1;obtain⟨⟨d0,d1,d2,d3⟩,z0,z1,z2,z3⟩:=four q0;obtain⟨⟨p0,p1,p2,p3⟩,y0,y1,y2,y3⟩:=four q1
 go_wp2
 all_goals (try simp only[Exit.inBlock,Exit.then])
 have r9:=Qn (y0:=.slice aa x.1.length ca) (y1:=.slice ab x.2.1.length cb) (y2:=.int .i64 x.2.2.1) (y3:=.slice ad x.2.2.2.1.length cd) q1;have s9:=hS.below (NH (y0:=.slice aa x.1.length ca) (y1:=.slice ab x.2.1.length cb) (y2:=.int .i64 x.2.2.1) (y3:=.slice ad x.2.2.2.1.length cd) hb2' (show W.heap.size<=W.heap.size+1 from fC));have k9:=aeO hB (NH (y0:=.slice aa x.1.length ca) (y1:=.slice ab x.2.1.length cb) (y2:=.int .i64 x.2.2.1) (y3:=.slice ad x.2.2.2.1.length cd) hb2' (show W.heap.size<=W.heap.size+1 from fC));unfold Dh at r9 s9 k9;exact aRH (aRN rfl _ _ (W.heap.size+1) _ _ _ _ Wx r9 Tryz.underlying64 rfl lu) rfl ⟨_,_,_,_,rfl,s9,k9⟩
theorem aHT(h:Sn B w va vl vd x F)(Z:fB x)(k:G.ok w):Calls prog 157 #[snV va vl vd x.2.2.1] w λe b=>e=.returned (.bool (eU x))/\Below w.heap.size w b:=by have N:lY prog G 157 (tq jE.sh jE.fM jE.F):=rM.1;refine(N [aHU x] (fB x) ⟨[(false,[.plain (.bool (eU x))])],none⟩ 0 (λ_=>True) #[snV va vl vd x.2.2.1] w rfl Z k ⟨aFZ h,trivial⟩).mono ?_;rintro e b ⟨v,a,rfl,C,O,K,d,i,j,_,_⟩;exact⟨by rw[j],C,O,K,d,i⟩
theorem aHV(h:Sn B w va vl vd x F)(Z:fB x)(l:G.ok w):Calls prog 159 #[snV va vl vd x.2.2.1] w λe a=>∃v,e=.returned v/\FW a.heap.size a v (Sp.enc x)/\Below w.heap.size w a:=by have N:lY prog G 159 (tq l9.sh l9.fM l9.F):=FB.1;refine(N [aHU x] (fB x) _ 0 (λ_=>True) #[snV va vl vd x.2.2.1] w rfl Z l ⟨aFZ h,trivial⟩).mono ?_;rintro e a ⟨v,d,rfl,C,O,K,i,j,k,_,_⟩;exact⟨v,rfl,iL.mono (λb U=>⟨U.1.1,rfl⟩) _ _ _ k,C,O,K,i,j⟩
theorem aCT{u v:Value}{a b:Sp.LS}(r:FW w.heap.size w u a)(U:FW w.heap.size w v b)(l:G.ok w):Calls prog 247 #[u,v] w λe h=>e=.returned (.bool (decide (a=b)))/\Below w.heap.size w h:=by have N:lY prog G 247 (tq zX.sh zX.fM zX.F):=Y9.1;refine(N [.sv (.one (.sl dS gu a false)),.sv (.one (.sl dS gu b false))] True ⟨[(false,[.plain (.bool (decide (a=b)))])],none⟩ 0 (λ_=>True) #[u,v] w rfl trivial l ⟨V8 r,V8 U,trivial⟩).mono ?_;rintro e h ⟨v,d,rfl,C,O,K,i,j,k,_,_⟩;exact⟨by rw[k],C,O,K,i,j⟩
theorem aHW{ls:Sp.LS}(k:(eU (uJ nX ls)&&decide (Sp.enc (uJ nX ls)=ls))=false):Sp.dec ls=(nX,false):=by
 grind [Sp.dec]
theorem aF0{ls:Sp.LS}(a:eU (uJ nX ls)=true)(b:decide (Sp.enc (uJ nX ls)=ls)=true):Sp.dec ls=(uJ nX ls,true):=by
 grind [Sp.dec]
theorem Kp.weak{P:Nat}(h:Kp B B W w)(a:P<B):Kp B P W w:=⟨h.os,h.tape,h.output,h.size,λb U _=>h.block b U fC⟩
set_option maxHeartbeats 16000000 in
theorem aHX(ls:Sp.LS)(v:Value)(W:World)(hv:FW W.heap.size W v ls)(hfit:YH ls)(hG:G.ok W):Calls prog 207 #[v] W λe w'=>Gives W w' e (Sp.dec ls).1 (Sp.dec ls).2:=by
 have mixed:=Tryz.mixed;obtain⟨aPy,hlx⟩:=hfit;obtain⟨al,cl,rfl⟩:=acY hv;have hbase:=below2 W (Obj.cells aaN 64 (0,0)) (Obj.cells aaN 64 (0,0));have hsize:=azY W (Obj.cells aaN 64 (0,0)) (Obj.cells aaN 64 (0,0));have hN0:=box1 W (Obj.cells aaN 64 (0,0)) (Obj.cells aaN 64 (0,0))
 go_enter Tryz.func207,Tryz.ntmps207
 go_wp2
 go_loopw [5] (λi wr=>∃n:Nat,n<=ls.length/\i=.int .i64 n/\szX n (uJ nX (ls.take n))/\Held (W.heap.size+2) (W.heap.size+1) wr (uJ nX (ls.take n))/\Kp (W.heap.size+2) (W.heap.size+1) ((W.alloc (Obj.cells aaN 64 (0,0))).alloc (Obj.cells aaN 64 (0,0))) wr)
  (λi _=>ls.length-(intOf i).toNat)
 case atStart=>exact⟨0,aQx _,rfl,aHY,⟨_,_,_,_,aLv W _ _,Sn.zero _ _⟩,rfl,rfl,rfl,aQp _,λ_ _ _=>rfl⟩
 case round=>
  obtain⟨n,hn,rfl,hsz,hH,hK⟩:=hrel;have hlow:=hK.low fC hbase;have hGr:G.ok wr:=rD hG hlow;have hwr:=hK.size;rw[hsize]at hwr;rcases aQE n ls.length with hlt|hge
  .have hlt':((n:Nat):Int)<ls.length:=fC;obtain⟨bl,off,rfl,hbl,hcl⟩:=hv.cell hlt;have hcl:=(World.cell?_of_block (a:=⟨bl,off+n,none⟩) (hlow.block bl hbl)).trans hcl;have hLl:=hlx _ (getD_in (d:=([],())) hlt);have hnext:=aF1 hlt;have aD8:szX (n+1) (wO (uJ nX (ls.take n)) (kD (ls.getD n ([],())).1)):=aF2 hsz (aQn abD.1 jI) λy hy=>aQn (abD.2 y hy) jI;generalize (ls.getD n ([],())).1=L at hcl hLl hnext aD8;obtain⟨va,vl,vd,F,hP,hSn⟩:=hH;have hPl:=(aQw.1 hP).1;have rr:=λw(hs:Sn (W.heap.size+2) w va vl vd _ F)(hG:G.ok w)(hB:W.heap.size+2<=w.heap.size)=>aHZ (W.heap.size+2) w va vl vd _ F L fC hG hs hB ⟨aQn hsz.1 fC,aQn hsz.2.1 fC,hsz.2.2.1,aQn hsz.2.2.2.1 fC,hsz.2.2.2.2⟩;generalize hxx:uJ nX (ls.take n)=x at hP hSn rr hnext aD8;generalize wO x (kD L)=x' at rr hnext aD8;unfold snV at rr;obtain⟨⟨d0,d1,d2,d3⟩,z0,z1,z2,z3⟩:=four hP;clear hsz hxx
   go_wp2
   go_still_tail 5,lu
   change wpList _ _ _ _ _ wr.drew;have hdw:Below wr.heap.size wr wr.drew:=(Below.refl _ wr).drew;generalize wr.drew=w2 at hdw ⊢;have hsd:=hdw.size
   go_wp2_with (first
    |(go_at_call 246;refine aQ3 (rr w2 (hSn.below hdw) (rD hGr hdw) fC) ?_;rintro e w' ⟨va',vl',vd',F',rfl,hS',hK'⟩;obtain⟨aa,ca,rfl⟩:=hS'.fa.form;obtain⟨ab,cb,rfl⟩:=hS'.fl.form;obtain⟨ad,cd,rfl⟩:=hS'.fd.form;unfold snV;have hP':=(hK'.block (W.heap.size+1) fC fC).trans ((hdw.block _ hPl).trans hP);clear d0 d1 d2 d3 z0 z1 z2 z3;obtain⟨⟨d0,d1,d2,d3⟩,z0,z1,z2,z3⟩:=four hP'))
   have r9:=Qn (y0:=.slice aa x'.1.length ca) (y1:=.slice ab x'.2.1.length cb) (y2:=.int .i64 x'.2.2.1) (y3:=.slice ad x'.2.2.2.1.length cd) hP';have s9:=aCS (g:=W.heap.size+1) (y0:=.slice aa x'.1.length ca) (y1:=.slice ab x'.2.1.length cb) (y2:=.int .i64 x'.2.2.1) (y3:=.slice ad x'.2.2.2.1.length cd) hS' fC;have k9:=((((Kp.trans hK (((Kp.of (P:=W.heap.size+1) hwr hdw).trans (hK'.weak fC)))).set (k:=0) (v:=.slice aa x'.1.length ca)).set (k:=1) (v:=.slice ab x'.2.1.length cb)).set (k:=2) (v:=.int .i64 x'.2.2.1)).set (k:=3) (v:=.slice ad x'.2.2.2.1.length cd);unfold Dh at r9 s9;exact⟨⟨n+1,hlt,rfl,by rw[hnext];exact aD8,by rw[hnext];exact⟨_,_,_,_,r9,s9⟩,k9⟩,by simp only[intOf];omega⟩
  .have hge':¬((n:Nat):Int)<ls.length:=fC;obtain rfl:n=ls.length:=fC;rw[aQK]at hsz hH;have hsm:=aF3 hsz fC;obtain⟨va,vl,vd,F,hP,hSn⟩:=hH;have hdb:=aHW (ls:=ls);have hdg:=aF0 (ls:=ls);generalize uJ nX ls=x at hsz hsm hP hSn hdb hdg;have hPl:=(aQw.1 hP).1;have hq:=(hK.block W.heap.size fC fC).trans hN0;have vs:=aHT hSn hsm hGr;unfold snV at vs;obtain⟨⟨d0,d1,d2,d3⟩,z0,z1,z2,z3⟩:=four hP;cases hval:eU x with
   |false=>
    rw[hval]at vs hdb;have hd:=hdb rfl
    go_wp2_with (first
     |(go_at_call 157;refine aQ3 vs ?_;rintro e w5 ⟨rfl,hb5⟩;have XZ:=hlow.trans (hb5.mono hlow.size);have hP5:=(hb5.block _ hPl).trans hP;have hq5:=(hb5.block W.heap.size fC).trans hq;clear d0 d1 d2 d3 z0 z1 z2 z3;obtain⟨⟨d0,d1,d2,d3⟩,z0,z1,z2,z3⟩:=four hq5))
    all_goals (try simp only[Exit.inBlock,Exit.then])
    have r9:=Qn (y0:=.slice none 0 0) (y1:=.slice none 0 0) (y2:=.int .i64 0) (y3:=.slice none 0 0) hq5;have hb9:=NH (y0:=.slice none 0 0) (y1:=.slice none 0 0) (y2:=.int .i64 0) (y3:=.slice none 0 0) XZ (aQp _);unfold Dh at r9 hb9;clear d0 d1 d2 d3 z0 z1 z2 z3;refine aRH (v:=.tuple #[.agg #[.slice none 0 0,.slice none 0 0,.int .i64 0,.slice none 0 0],.bool false]) ?_ rfl (by rw[hd];exact ari hb9);obtain⟨⟨d0,d1,d2,d3⟩,z0,z1,z2,z3⟩:=four r9;rw[aSI rfl]
    go_simp
   |true=>
    rw[hval]at vs hdb;have es:=λw(hs:Sn (W.heap.size+2) w va vl vd x F) hG=>aHV hs hsm hG;unfold snV at es;cases heq:decide (Sp.enc x=ls)with
    |false=>
     rw[heq]at hdb;have hd:=hdb rfl
     go_wp2_with (first
      |(go_at_call 157;refine aQ3 vs ?_;rintro e w5 ⟨rfl,hb5⟩;have XZ:=hlow.trans (hb5.mono hlow.size);have hP5:=(hb5.block _ hPl).trans hP;have hq5:=(hb5.block W.heap.size fC).trans hq;clear d0 d1 d2 d3 z0 z1 z2 z3;obtain⟨⟨d0,d1,d2,d3⟩,z0,z1,z2,z3⟩:=four hP5)
      |(go_at_call 159;refine aQ3 (es w5 (hSn.below hb5) (rD hG XZ)) ?_;rintro e w6 ⟨v6,rfl,hf6,hb6⟩;obtain⟨a6,c6,e6⟩:=acY hf6;subst e6;have az1:=hb5.trans (hb6.mono hb5.size);have X0:=XZ.trans (hb6.mono XZ.size))
      |(go_at_call 247;refine aQ3 (aCT hf6 (hv.keep' X0) (rD hG X0)) ?_;rintro e w7 ⟨rfl,hb7⟩;rw[heq];have az2:=az1.trans (hb7.mono az1.size);have aD9:=X0.trans (hb7.mono X0.size);have hq7:=(az2.block W.heap.size fC).trans hq;clear d0 d1 d2 d3 z0 z1 z2 z3;obtain⟨⟨d0,d1,d2,d3⟩,z0,z1,z2,z3⟩:=four hq7))
     all_goals (try simp only[Exit.inBlock,Exit.then])
     have r9:=Qn (y0:=.slice none 0 0) (y1:=.slice none 0 0) (y2:=.int .i64 0) (y3:=.slice none 0 0) hq7;have hb9:=NH (y0:=.slice none 0 0) (y1:=.slice none 0 0) (y2:=.int .i64 0) (y3:=.slice none 0 0) aD9 (aQp _);unfold Dh at r9 hb9;clear d0 d1 d2 d3 z0 z1 z2 z3;refine aRH (v:=.tuple #[.agg #[.slice none 0 0,.slice none 0 0,.int .i64 0,.slice none 0 0],.bool false]) ?_ rfl (by rw[hd];exact ari hb9);obtain⟨⟨d0,d1,d2,d3⟩,z0,z1,z2,z3⟩:=four r9;rw[aSI rfl]
     go_simp
    |true=>
     have hd:=hdg hval heq;obtain⟨aa,ca,rfl⟩:=hSn.fa.form;obtain⟨ab,cb,rfl⟩:=hSn.fl.form;obtain⟨ad,cd,rfl⟩:=hSn.fd.form
     go_wp2_with (first
      |(go_at_call 157;refine aQ3 vs ?_;rintro e w5 ⟨rfl,hb5⟩;have XZ:=hlow.trans (hb5.mono hlow.size);have hP5:=(hb5.block _ hPl).trans hP;have hq5:=(hb5.block W.heap.size fC).trans hq;clear d0 d1 d2 d3 z0 z1 z2 z3;obtain⟨⟨d0,d1,d2,d3⟩,z0,z1,z2,z3⟩:=four hP5)
      |(go_at_call 159;refine aQ3 (es w5 (hSn.below hb5) (rD hG XZ)) ?_;rintro e w6 ⟨v6,rfl,hf6,hb6⟩;obtain⟨a6,c6,e6⟩:=acY hf6;subst e6;have az1:=hb5.trans (hb6.mono hb5.size);have X0:=XZ.trans (hb6.mono XZ.size))
      |(go_at_call 247;refine aQ3 (aCT hf6 (hv.keep' X0) (rD hG X0)) ?_;rintro e w7 ⟨rfl,hb7⟩;rw[heq];have az2:=az1.trans (hb7.mono az1.size);have aD9:=X0.trans (hb7.mono X0.size);have hq7:=(az2.block W.heap.size fC).trans hq;have hP7:=(az2.block _ hPl).trans hP;have aOc:=hSn.below az2;clear d0 d1 d2 d3 z0 z1 z2 z3;obtain⟨⟨d0,d1,d2,d3⟩,z0,z1,z2,z3⟩:=four hq7;obtain⟨⟨p0,p1,p2,p3⟩,y0,y1,y2,y3⟩:=four hP7))
     all_goals (try simp only[Exit.inBlock,Exit.then])
     have r9:=Qn (y0:=.slice aa x.1.length ca) (y1:=.slice ab x.2.1.length cb) (y2:=.int .i64 x.2.2.1) (y3:=.slice ad x.2.2.2.1.length cd) hq7;have hb9:=NH (y0:=.slice aa x.1.length ca) (y1:=.slice ab x.2.1.length cb) (y2:=.int .i64 x.2.2.1) (y3:=.slice ad x.2.2.2.1.length cd) aD9 (aQp _);have hs9:=aCS (y0:=.slice aa x.1.length ca) (y1:=.slice ab x.2.1.length cb) (y2:=.int .i64 x.2.2.1) (y3:=.slice ad x.2.2.2.1.length cd) aOc (show W.heap.size<W.heap.size+2 from fC);unfold Dh at r9 hb9 hs9;clear d0 d1 d2 d3 z0 z1 z2 z3;refine aRH (v:=.tuple #[.agg #[.slice aa x.1.length ca,.slice ab x.2.1.length cb,.int .i64 x.2.2.1,.slice ad x.2.2.2.1.length cd],.bool true]) ?_ rfl (by rw[hd];exact aH0 fC hb9 hs9);obtain⟨⟨d0,d1,d2,d3⟩,z0,z1,z2,z3⟩:=four r9;rw[aSI rfl]
     go_simp
theorem abE:lY prog G He DZ:=by
 intro args p m k S I w a J s j;unfold DZ tq Sz at a;split at a
 .next x Z=>
  obtain⟨ls,⟨⟩⟩:=x;have R:=aqu Fj args _ I.toList Z j
  match hvs:I.toList,R with
  |[v],R=>
   have r:iL w.heap _ (.sl dS gu) v ls:=R.1;have d:I=#[v]:=by
    grind
   subst d;have n:=Option.some.inj a;have l:p=YH ls:=(congrArg Prod.fst n).symm;have i:m=⟨[(true,[.plain (.sl ah aB (Sp.dec ls).1.1 true),.plain (.sl ai aF (Sp.dec ls).1.2.1 true),.plain (.int .i64 (Sp.dec ls).1.2.2.1),.plain (.sl au ay (Sp.dec ls).1.2.2.2.1 true)]),(false,[.plain (.bool (Sp.dec ls).2)])],none⟩:=(congrArg Prod.snd n).symm;subst l i;refine(aHX ls v w (iL.mono (λb U=>⟨U.1.1,rfl⟩) _ _ _ r) J s).mono ?_;rintro e A ⟨va,vl,vd,rfl,U,H,t,u,z⟩;refine⟨_,λ_=>undef,rfl,U.os,U.tape,U.output,U.size,U.block,?_,(λo x Z=>vk),(λo x q y b Z=>vk)⟩;exact⟨_,rfl,⟨_,rfl,iL.mono (λb U=>⟨⟨⟨U.2,λh=>absurd h (Nat.not_lt.2 U.1),λo x Z=>vk⟩,λ_=>U.1⟩,rfl⟩) _ _ _ t,iL.mono (λb U=>⟨⟨⟨U.2,λh=>absurd h (Nat.not_lt.2 U.1),λo x Z=>vk⟩,λ_=>U.1⟩,rfl⟩) _ _ _ u,⟨rfl,H⟩,iL.mono (λb U=>⟨⟨⟨U.2,λh=>absurd h (Nat.not_lt.2 U.1),λo x Z=>vk⟩,λ_=>U.1⟩,rfl⟩) _ _ _ z,trivial⟩,rfl,trivial⟩
 .cases a
end Go.Proofs.Tryz
namespace Go.Proofs.Tryz
open Go Go.Fw Go.IntWalk Sp
set_option maxRecDepth 100000
theorem aiR:OK FZ.e:=by
 refine dW [A8.e,(He,.pure DZ),yx.e,PG.e] ⟨Wj,⟨abE,ZT⟩,Om,auW,⟨⟩⟩ H0 λs=>show FZ.goal (Wl s) (s,())fromλB J=>?_
 dsimp only[FZ]at J ⊢;delta Wl Aw atP ayR;have J:dJ s:=J;have W:=auX J;dsimp only[Wl];rw[show(1:Int).toNat=1 from rfl,show(0:Int).toNat=0 from rfl];have g:(Qc s).length=(Sp.pieces 10 s).length-1:=by grind [Qc]
 refine⟨fC,af (λh=>?_) λh=>?_⟩
 .have h:((Qc s).length:Int)=0:=oQ;unfold dV;rw[aQH fC];rfl
 have h:¬((Qc s).length:Int)=0:=oQ;have O:2<=(Sp.pieces 10 s).length:=fC;have f:List.drop 1 (List.take (Qc s).length (Qc s))=Sp.inner (Sp.pieces 10 s):=by rw[aQK];rfl
 have d:(Qc s).getD 0 ([],())=(Sp.pieces 10 s).getD 0 ([],()):=by
  grind [Qc]
 have e:dV s=bif (Sp.dec (Sp.inner (Sp.pieces 10 s))).2&&decide (Sp.slot (Sp.parseNum ((Sp.pieces 10 s).getD 0 ([],())).1) (Sp.dec (Sp.inner (Sp.pieces 10 s))).1=s)then(Sp.parseNum ((Sp.pieces 10 s).getD 0 ([],())).1,(Sp.dec (Sp.inner (Sp.pieces 10 s))).1,true)else(0,nX,false):=by
  grind [dV]
 rw[f,d,e];refine⟨⟨jI,fC⟩,trivial,⟨jI,fC⟩,aFX J,af (λb=>?_) λb=>⟨aF5 _,af (λa=>?_) λa=>?_⟩⟩
 .rw[kJ b];rfl
 .have a:(Sp.slot (Sp.parseNum ((Sp.pieces 10 s).getD 0 ([],())).1) (Sp.dec (Sp.inner (Sp.pieces 10 s))).1==s)=false:=kJ a;rw[aQH (aQl.1 a),aR8];rfl
 grind
theorem Xv:OK CS.e:=by
 refine dW [FZ.e] ⟨aiR,⟨⟩⟩ H0 λa b=>show CS.goal (alJ a b) ((a,b,()),())fromλB J=>?_
 dsimp only[CS]at J ⊢;obtain⟨r,U⟩:dJ a/\dJ b:=J;refine⟨r,U,?_⟩
 grind [aBX]
theorem O0:OK zY.e:=by
 refine dW [CS.e] ⟨Xv,⟨⟩⟩ H0 λa b=>show zY.goal (abG a b) ((a,b,()),())fromλB J=>?_
 exact⟨J,rfl⟩
theorem aKk(k:Int)(t:List UInt8):(max 0 (min k (t.length:Int))==(t.length:Int))=(t.take (Sp.kept k t.length)==t):=by
 grind [Sp.kept,List.take_length]
theorem F8:OK uF.e:=by
 refine dW [RI.e,A8.e,CS.e] ⟨axZ,Wj,Xv,⟨⟩⟩ aoJ λa b S T d e k=>show uF.goal (alK a b S T d e k) ((a,b,()),(S,T,d,e,()),k,())fromλB J=>?_
 dsimp only[uF]at J ⊢;obtain⟨r,U,Z⟩:dJ a/\dJ b/\fB (S,T,d,e,()):=J;have H:=Tj a b;refine⟨⟨r,U⟩,Z,?_⟩
 grind [gq,lq,wrap_in,Sp.kept,aKk]
end Go.Proofs.Tryz
namespace Go.Proofs.Tryz
open Go Go.Fw Go.RowKit Go.Sort Sp
abbrev U1:Int->Value:=Value.int .i64
def PO(l:List Int):List Int:=l.mergeSort λx y=>decide (x<=y)
def intsOf(l:List (Int×Unit)):List Int:=l.map (·.1)
theorem aiT(b:List Int)(s:Int):s∈Lib.compact b↔s∈b:=by
 have a:∀i(h:i<b.length),b.toArray[i]! =b[i]:=λi h=>by rw[getElem!_pos _ i oQ];simp
 unfold Lib.compact Lib.compactUpTo;simp only[aQW,aQ4,aQ8];constructor
 .rintro⟨i,⟨D,_⟩,rfl⟩;rw[a i D];exact aRM D
 .intro hs;obtain⟨i,D,e⟩:=aQQ hs;have d:∀i(D:i<b.length),∃j,(j<b.length/\Lib.keeps b.toArray j=true)/\b.toArray[j]! =b[i]:=by
   intro i
   induction i with
   |zero=>exactλD=>⟨0,⟨D,Lib.keeps_lt_one _ 0 fC⟩,a 0 D⟩
   |succ i ih=>
    intro D;by_cases h:b.toArray[i+1]! =b.toArray[i+1-1]!
    .obtain⟨j,h1,h2⟩:=ih fC;refine⟨j,h1,?_⟩;rw[h2,← a (i+1) D,h,aSk,a i fC]
    .exact⟨i+1,⟨D,Lib.keeps_pos h⟩,a (i+1) D⟩
  rw[← e];exact d i D
variable {zs:List Int}
theorem az8(h:zs.Pairwise λx y=>x<=y):(Lib.compact zs).Pairwise λx y=>x<y:=by
 have a:∀i(h:i<zs.length),zs.toArray[i]! =zs[i]:=λi h=>by rw[getElem!_pos _ i oQ];simp
 have le:∀i j(D:i<=j)(b:j<zs.length),zs[i]' fC <=zs[j]:=λi j D b=>by
  rcases aQE i j with W|W
  .exact aRb.1 h i j fC b W
  .have:i=j:=fC;subst this;exact aQN _
 unfold Lib.compact Lib.compactUpTo;rw[aRT];refine List.Pairwise.imp_of_mem (R:=λi j=>i<j) ?_ (aRI _ List.pairwise_lt_range);intro i j D b d;rw[aQ4,aQ8]at D b;rw[a i D.1,a j b.1];have f:zs.toArray[j]! ≠zs.toArray[j-1]! :=by
  have:=b.2;intro e;have:¬(Lib.keeps zs.toArray j=true):=by rw[Lib.keeps_neg fC e];decide
  exact this b.2
 rw[a j b.1,a (j-1) fC]at f;have C:=le i (j-1) fC fC;have O:=le (j-1) j fC b.1;omega
theorem az9(l:List Int):(PO l).Pairwise λx y=>x<=y:=by have:=List.pairwise_mergeSort (le:=λx y:Int=>decide (x<=y)) (λa b c C O=>by simp only[aQF]at*;omega) (λa b=>by simp only[aRo,aQF];omega) l;exact this.imp λh=>aQ6 h
theorem aLE(a x y:List (Int×Unit)):(Lib.compact (PO (intsOf (Sp.without a y++x)))).map (λn=>(n,()))=uz a x y:=by
 obtain⟨C,O⟩:=Xd (a:=a) (x:=x) (y:=y);refine ak3 ?_ C λz=>?_
 .unfold zu;rw[aRT];exact az8 (az9 _)
 .obtain⟨z,⟨⟩⟩:=z;rw[O,aQW];have:(∃n,n∈Lib.compact (PO (intsOf (Sp.without a y++x)))/\(n,())=(z,()))↔(z,())∈Sp.without a y++x:=by
   constructor
   .rintro⟨n,hn,e⟩;obtain rfl:n=z:=congrArg Prod.fst e;rw[aiT]at hn;unfold PO at hn;rw[aSB]at hn;obtain⟨⟨u,⟨⟩⟩,b,rfl⟩:=aQW.1 hn;exact b
   .intro hz;refine⟨z,?_,rfl⟩;rw[aiT];unfold PO;rw[aSB];exact aQW.2 ⟨_,hz,rfl⟩
  rw[this,aQM];unfold Sp.without;rw[aQ4];simp only[aRS];exact Or.comm
variable {w:World}
theorem wpList_append_run{P:Program}{w':World}{ops:Array Oper}{i:List Oper}{o:Oper}{a:Act}{Q:Exit->Act->World->Prop}(e:o.guard=none)(s x:Operand)(t:TypeId)
 (z:o.op=.call {callee:=.builtin .append,args:=#[s,x],argTypes:=#[t,t]}) {v d u:Value} (Y:a.eval s=v) (Z:a.eval x=d)
 (b:(Builtin.append_ #[t,t] o.type #[v,d]).run P w=.ok u w') (h:wpList P ops Q i (a.put o.dst u) w'):wpList P ops Q (o::i) a w:=by
 refine wpList_plain e λK f=>?_;unfold Oper.wp;simp[execOp,z,resolve,invoke,builtin,Y,Z,b,Result.andThen];exact f _ _ h
variable {B:Nat}{xs:List Value}
theorem aGb{e z n:Nat}{v:Value}(h:w.ownsRow 0 e z v n xs)(U:∀g,v.ownBlock=some g->B<=g):w.ownsRow B e z v n xs:=by
 refine⟨h.1,?_⟩;rcases h.2 with O|⟨g,y,Q,a,_,K⟩
 .exact .inl O
 .exact .inr ⟨g,y,Q,a,U g (by rw[a];rfl),K⟩
theorem aLF{e z n:Nat}{v:Value}(h:w.ownsRow B e z v n xs):w.ownsRow 0 e z v n xs/\∀g,v.ownBlock=some g->B<=g:=by
 rcases h.2 with O|⟨g,y,Q,a,O,K⟩
 .exact⟨⟨h.1,.inl O⟩,λg b=>by rw[O.1]at b;cases b⟩
 .exact⟨⟨h.1,.inr ⟨g,y,Q,a,aQx _,K⟩⟩,λk j=>by rw[a]at j;cases j;exact O⟩
theorem awX{h:Array Obj}{F:Nat->Prop}{l:List (Int×Unit)}(W:xs.length=l.length)(Z:∀i x,l[i]? =some x->dD h F dL ((xs.drop (i*1)).take 1) x):xs=(intsOf l).map U1:=by
 refine aRx λi=>?_;rcases aQE i l.length with D|D
 .obtain⟨u,us,e1,⟨e2,_⟩,_⟩:=Z i l[i] (aQD D);have a:((xs.drop (i*1)).take 1)[0]? =some u:=by rw[e1];rfl
  rw[aRY fC,aRu,aSh,aSv]at a;rw[a,e2];unfold intsOf;rw[aQ9,aQ9,aQD D];rfl
 .rw[aRC fC,aRC (by unfold intsOf;rw[aQG,aQG];exact D)]
def IntsIn(w:World)(v:Value)(l:List (Int×Unit)):Prop:=iL w.heap (λb=>b<w.heap.size) (.sl aX dL) v l
theorem ac3(u v:SV)(q:Nat):gK [.sv u,.sv v] q=none:=by unfold gK;rcases q / 64 with _|_|n<;>rfl
theorem aKl(q:Nat):uH [Eff.lose,Eff.lose] q=none:=by unfold uH;rcases q / 64 with _|_|n<;>rfl
theorem aKm{n s:Value}{a b:List (Int×Unit)}(A:IntsIn w n a)(O:IntsIn w s b)(W:a.length<=10000000)(C:G.ok w):
 Calls prog 97 #[n,s] w λe k=>∃v,e=.returned v/\k.ownsRow w.heap.size 3 1 v (Sp.without a b).length ((intsOf (Sp.without a b)).map U1)/\Below w.heap.size w k:=by
 have j:kM prog G 97 (sW Gx.sh Gx.fM Gx.F):=arp.1;have i:∀{v l},IntsIn w v l->bY ⟨w,w.heap.size,λ_=>True,λ_=>undef,gK [.sv (.one (.sl aX dL a false)),.sv (.one (.sl aX dL b false))]⟩ (.sl aX dL l false) v:=λh=>
  iL.mono (S':=V.fG ⟨w,w.heap.size,λ_=>True,λ_=>undef,gK [.sv (.one (.sl aX dL a false)),.sv (.one (.sl aX dL b false))]⟩ false) (h':=w.heap) (λb U=>⟨⟨⟨U,λ_=>trivial,λo x Z=>by have:=(ac3 _ _ o).symm.trans Z;cases this⟩,λe=>y5⟩,rfl⟩) _ _ _ h
 refine((j [.sv (.one (.sl aX dL a false)),.sv (.one (.sl aX dL b false))] (a.length<=10000000) _ rfl W).2 0 (λ_=>True) (λ_=>undef) #[n,s] w C ⟨i A,i O,trivial⟩ ?_ ?_ ?_).mono ?_
 .exactλo x h=>by rw[ac3]at h;cases h
 .exactλo x q y b h=>by rw[ac3]at h;cases h
 .exactλt _ o x _=>aKl o
 rintro e k ⟨⟨⟨r,⟨⟩⟩,⟨⟩⟩,hr,v,d,rfl,E,F,H,I,J,K,M,_,_⟩;have hr:r=Sp.without a b:=hr;subst hr;have R:v=d 0:=K.2.1;obtain⟨⟨xs,f,_,_,N⟩,P⟩:=M 0 (.arr aX dL (Sp.without a b) false) rfl;subst R;have L:xs.length=(Sp.without a b).length:=by rw[f.1];exact aSh _
 have f:k.ownsRow 0 3 1 (d 0) (Sp.without a b).length xs:=f;rw[awX L N]at f;refine⟨_,rfl,aGb f λg D=>?_,E,F,H,I,λb U=>J b U λ⟨o,x,z,_⟩=>by rw[ac3]at z;cases z⟩;have U:blk (d 0)=some g:=by
  rw[← D];rcases f.2 with⟨m,_⟩|⟨S,u,Q,m,_⟩
  .rw[m];rfl
  .rw[m];rfl
 rcases(P g U).2.1 with h|⟨o,x,z,_⟩
 .exact h
 .rw[ac3]at z;cases z
theorem aH9{v f:Value}{l s:List (Int×Unit)}(q:B<=w.heap.size)(d:w.ownsRow B 3 1 v l.length ((intsOf l).map U1))(Y:IntsIn w f s)(a:l.length+s.length<=big)(ty:TypeId):
 ∃u i,(Builtin.append_ #[36,36] ty #[v,f]).run prog w=.ok u i/\i.ownsRow B 3 1 u (l++s).length ((intsOf (l++s)).map U1)/\Below B w i:=by
 obtain⟨o,m⟩:=aLF d;obtain⟨u,i,n,r,j,x,y,z⟩:=Sj (P:=prog) (w:=w) (t:=36) (ty:=ty) (e:=3) (aev Xb 36 _ rfl) rfl (aev Xb 3 _ rfl) jI o (F:=λb=>b<w.heap.size) Y a;have k:n.length=s.length:=by have:=j.1;rw[aQu,aQG]at this;unfold intsOf at this;rw[aQG]at this;have this:l.length+n.length=(l.length+s.length)*1:=this;omega
 have H:=awX k y;rw[H]at j;refine⟨u,i,r,aGb ?_ ?_,(Below.refl B w).grown x q m⟩
 .rw[aQu];unfold intsOf at j ⊢;rw[aRq,aRq];exact j
 .intro g hg;rcases z g hg with h|h
  .exact m g h
  .omega
theorem aGc{v:Value}(m:B<=w.heap.size)(a:w.ownsRow B 3 1 v zs.length (zs.map U1))(H:zs.length<=4000000000):
 Calls prog 98 #[v] w λe b=>e=.returned (.tuple #[])/\b.ownsRow B 3 1 v (PO zs).length ((PO zs).map U1)/\Below B w b:=by
 rcases a.2 with⟨f,d⟩|⟨g,y,Q,f,O,K,x,i,l,h⟩
 .obtain rfl:zs=[]:=aQ1.1 d;subst f;refine(Tryz.slices_Sort_int_none none 0 w).mono ?_;rintro e b ⟨rfl,rfl⟩;exact⟨rfl,by unfold PO;rw[List.mergeSort_nil];exact a,Below.refl _ _⟩
 .subst f;rw[aSh]at h;have o:=holds_of_blockI K h;refine(Tryz.slices_Sort_int g 0 y zs w o (aQw.1 K).1 fC).mono ?_;rintro e b ⟨rfl,n,q,rfl⟩;have W:(PO zs).length=zs.length:=aRQ zs;refine⟨rfl,?_,(Below.refl B w).grown (grownBy_sortedI _) m λk j=>by cases j;exact O⟩;rw[W];exact ownsRow_sortedI W O K x i l
theorem aAa{v:Value}(o:B<=w.heap.size)(a:w.ownsRow B 3 1 v zs.length (zs.map U1))(H:zs.length<=4000000000):
 Calls prog 99 #[v] w λe b=>∃i,e=.returned i/\b.ownsRow B 3 1 i (Lib.compact zs).length ((Lib.compact zs).map U1)/\Below B w b:=by
 rcases id a.2 with⟨f,d⟩|⟨g,y,Q,f,O,K,x,m,n,h⟩
 .obtain rfl:zs=[]:=aQ1.1 d;subst f;refine(Tryz.slices_Compact_int_empty none 0 w).mono ?_;rintro e b ⟨rfl,rfl⟩;exact⟨_,rfl,a,Below.refl _ _⟩
 .subst f;rw[aSh]at h;have j:=holds_of_blockI K h;refine(Tryz.slices_Compact_int g 0 y zs w j fC x).mono ?_;rintro e b ⟨rfl,q,rfl⟩;have l:=Lib.compact_length_le zs;have N:=Lib.ownsRow_putRow (q:=q) (k:=(Lib.compact zs).length) (ys:=Lib.compact zs++List.replicate (zs.length-(Lib.compact zs).length) 0) a ql fC;rw[aSQ]at N;exact⟨_,rfl,N,Lib.below_putRow (Below.refl B w) O⟩
set_option maxHeartbeats 2000000 in
set_option maxRecDepth 100000 in
theorem ax0{v0 v1 v2:Value}{a x y:List (Int×Unit)}(h0:IntsIn w v0 a)(h1:IntsIn w v1 x)(h2:IntsIn w v2 y)(hl:a.length+x.length<=8000000)(hG:G.ok w):
 Calls prog 64 #[v0,v1,v2] w λe w'=>∃v,e=.returned v/\w'.ownsRow w.heap.size 3 1 v (uz a x y).length ((intsOf (uz a x y)).map U1)/\Below w.heap.size w w':=by
 have mixed:=Tryz.mixed;have hw:=aKm h0 h2 fC hG;have hp:(Lib.compact (PO (intsOf (Sp.without a y++x))))=intsOf (uz a x y):=by rw[← aLE a x y];unfold intsOf;rw[aRX];exact(aSg _).symm
 have hpl:(Lib.compact (PO (intsOf (Sp.without a y++x)))).length=(uz a x y).length:=by rw[hp];unfold intsOf;rw[aQG]
 have hwl:(Sp.without a y).length<=a.length:=aQ2 _ _;have hil:(intsOf (Sp.without a y++x)).length=(Sp.without a y++x).length:=by unfold intsOf;rw[aQG]
 have hsl:(PO (intsOf (Sp.without a y++x))).length=(intsOf (Sp.without a y++x)).length:=aRQ _;have hla:(Sp.without a y++x).length<=8000000:=by rw[aQu];omega
 have hbig:(Sp.without a y).length+x.length<=big:=by unfold big;omega
 rw[← hp,← hpl];clear hp hpl h0 h2 hG;generalize Sp.without a y=l at*
 go_enter Tryz.func64,Tryz.ntmps64
 go_wp2_with (first
  |(go_at_call 97;refine hw.mono ?_;rintro e w1 ⟨u,rfl,hown,hbel⟩
    have h1:IntsIn w1 v1 x:=iL.mono (S':=λb=>b<w1.heap.size) (λb hb=>⟨aQO hb hbel.size,hbel.block b hb⟩) _ _ _ h1;have happ:=aH9 (ty:=36) hbel.size hown h1 hbig;obtain⟨u2,w2,hrun,hown2,hb2⟩:=happ;have aJG:=hbel.trans hb2;clear hown hb2 hbel;rw[← hil]at hown2;have hsort:=aGc (B:=w.heap.size) aJG.size hown2 fC)
  |(at_builtin;refine wpList_append_run rfl _ _ 36 rfl rfl rfl hrun ?_)
  |(go_at_call 98;refine hsort.mono ?_;rintro e w3 ⟨rfl,hown3,hb3⟩
    have aJH:=aJG.trans hb3;have hcomp:=aAa (B:=w.heap.size) aJH.size hown3 fC;clear hown3 hb3)
  |(go_at_call 99;refine hcomp.mono ?_;rintro e w4 ⟨u4,rfl,hown4,hb4⟩))
 go_ret
 exact⟨_,rfl,hown4,aJH.trans hb4⟩
theorem arq{v:Value}{l:List (Int×Unit)}(h:IntsIn w v l):∀z∈l,IntKind.i64.min<=z.1/\z.1<=IntKind.i64.max:=by
 rcases h.2 with⟨rfl,_⟩|⟨b,m,y,A,t,f,_,_,_,_,Z⟩
 .exactλz a=>by cases a
 .intro z a;obtain⟨i,D,rfl⟩:=aQQ a;obtain⟨u,n,_,⟨_,d,e⟩,_⟩:=Z i l[i] (aQD D);exact⟨d,e⟩
theorem aIa{w':World}{S:Nat->Prop}{m:Nat->Value}{v:Value}{l:List (Int×Unit)}(a:w'.ownsRow w.heap.size 3 1 v l.length ((intsOf l).map U1))(hr:∀z∈l,IntKind.i64.min<=z.1/\z.1<=IntKind.i64.max):
 bY ⟨w',w.heap.size,S,m,λ_=>none⟩ (.sl 3 dL l true) v:=by
 rcases a.2 with⟨b,d⟩|⟨g,y,Q,b,O,K,j,n,q,k⟩
 .exact⟨by rw[d];exact aQx _,.inl ⟨aQ1.1 d,none,0,b⟩⟩
 .have hlt:=(aQw.1 K).1;refine⟨fC,.inr ⟨g,0,y,Q,3,(0,0),b,j,⟨⟨hlt,λh=>absurd (show g<w.heap.size from h) fC,(λo x Z=>vk)⟩,λ_=>O⟩,K,λi x Z=>?_⟩⟩;have D:=(aQC.1 Z).1;have N:Q.toList[i]? =some (U1 x.1):=by
   have:(Q.toList.take (l.length*1))[i]? =((intsOf l).map U1)[i]? :=by rw[k]
   rw[aRY fC]at this;unfold intsOf at this;rw[aQ9,aQ9,Z]at this;exact this
  obtain⟨f,e⟩:=aQC.1 N;show dD _ _ (.cons (.int .i64) .nil) ((Q.toList.drop (0+i*1)).take 1) x;rw[aRl,aSh,aSj f,e];exact⟨U1 x.1,[],rfl,⟨rfl,hr x (aQU Z)⟩,rfl⟩
theorem aoL:lY prog G SY Oh:=by
 intro args p F k S I w f J A j;unfold Oh tq Sz at f;split at f
 .next t Z=>
  revert t;show∀t:List (Int×Unit)×List (Int×Unit)×List (Int×Unit)×Unit,_;rintro⟨a,x,y,⟨⟩⟩ Z f;have r:=Option.some.inj f;have R:=aqu Qd args _ I.toList Z j;have n:(a.length+x.length<=8000000)=p:=congrArg Prod.fst r;have C:=congrArg Prod.snd r;subst C;have W:a.length+x.length<=8000000:=by rw[n];exact J
  match hvs:I.toList,R with
  |[v0,v1,v2],R=>
   have m:I=#[v0,v1,v2]:=by obtain⟨L⟩:=I;simp at hvs;rw[hvs]
   subst m;have g:∀{v l},iL w.heap (V.fG ⟨w,w.heap.size,S,λ_=>undef,λ_=>none⟩ false) (.sl aX dL) v l->IntsIn w v l:=λh=>iL.mono (S':=λb=>b<w.heap.size) (λb U=>⟨U.1.1,rfl⟩) _ _ _ h;have s:IntsIn w v0 a:=g R.1;have u:IntsIn w v1 x:=g R.2.1;have E:IntsIn w v2 y:=g R.2.2.1;have H:=arq s;have K:=arq u;refine(ax0 s u E W A).mono ?_;rintro e M ⟨v,rfl,i,d⟩;refine⟨v,λ_=>undef,rfl,d.os,d.tape,d.output,d.size,λb U=>d.block b U,aIa i λz D=>?_,(λo x Z=>vk),(λo x q y b Z=>vk)⟩;rcases(Xd.2 z).1 D with h|h
   .exact K z h
   .exact H z h.1
 .cases f
end Go.Proofs.Tryz
