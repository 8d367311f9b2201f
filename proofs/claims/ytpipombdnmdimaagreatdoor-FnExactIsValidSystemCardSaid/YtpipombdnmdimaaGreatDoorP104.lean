import Derived.Test.YtpipombdnmdimaaGreatDoorP92
import Derived.StillTailTactics
import Derived.Test.YtpipombdnmdimaaGreatDoorP152
import Derived.Test.YtpipombdnmdimaaGreatDoorShelf
import Derived.Test.YtpipombdnmdimaaGreatDoorL4
import Derived.WalkKit
import Derived.Sort.OwnSortedInts
import Derived.Sort.Grow
import Derived.Lib.OwnBridge
import Derived.Laws.AppendOwn
import Derived.Laws.AppendOwnNone
namespace Go.Proofs.Tryz
open Go Go.Fw Go.RowKit Sp
set_option maxRecDepth 100000
variable {B g:Nat}{w:World}{va vl vd:Value}{x:bM}{F:Nat->Prop}
theorem Sn.far{w':World}(h:Sn B w va vl vd x F)(X:w.heap.size<=w'.heap.size)(d:¬F g/\va.ownBlock≠some g/\vl.ownBlock≠some g/\vd.ownBlock≠some g)(k:∀b,b<w.heap.size->b≠g->w'.heap[b]? =w.heap[b]?):Sn B w' va vl vd x F:=by obtain⟨a,f,i,j⟩:=d;have q:∀b,F b->w'.heap[b]? =w.heap[b]? :=λb J=>k b (h.foot b J).2.1 λe=>a (e▸J);exact⟨h.fa.keep (λb J=>k b (h.fa.lt J).2 λe=>f (e▸J)) q,h.fl.keep (λb J=>k b (h.fl.lt J).2 λe=>i (e▸J)) q,h.fd.keep (λb J=>k b (h.fd.lt J).2 λe=>j (e▸J)) q,h.nx,h.ne,λb J=>⟨(h.foot b J).1,aHR (h.foot b J).2.1 X,(h.foot b J).2.2⟩⟩
variable {y0 y1 y2 y3:Value}
theorem azM{b:Nat}(h:b≠g):(uo w g y0 y1 y2 y3).heap[b]? =w.heap[b]? :=(pz _ h).trans ((pz _ h).trans ((pz _ h).trans (pz _ h)))
theorem ayj:(uo w g y0 y1 y2 y3).heap.size=w.heap.size:=by simp[uo,World.setCell]
variable {W:World}
theorem Kp.high{k:Nat}{v:Value}(h:Kp B B W w)(d:B<=g):Kp B B W (w.setCell ⟨g,k,none⟩ v):=
 ⟨h.os,h.tape,h.output,by simpa[World.setCell]using h.size,λb J H=>(pz v (show b≠g from lu)).trans (h.block b J H)⟩
theorem Kp.uo(h:Kp B B W w)(d:B<=g):Kp B B W (uo w g y0 y1 y2 y3):=(((h.high d).high d).high d).high d
theorem aEj(W:World)(o:Obj):Below W.heap.size W ((W.alloc o).alloc (Obj.cells #[.slice none 0 0,.slice none 0 0,.int .i64 0,.slice none 0 0] 61 (0,0)))/\((W.alloc o).alloc (Obj.cells #[.slice none 0 0,.slice none 0 0,.int .i64 0,.slice none 0 0] 61 (0,0))).heap[W.heap.size]? =some o/\
 ((W.alloc o).alloc (Obj.cells #[.slice none 0 0,.slice none 0 0,.int .i64 0,.slice none 0 0] 61 (0,0))).heap[W.heap.size+1]? =some (Obj.cells #[.slice none 0 0,.slice none 0 0,.int .i64 0,.slice none 0 0] 61 (0,0))/\((W.alloc o).alloc (Obj.cells #[.slice none 0 0,.slice none 0 0,.int .i64 0,.slice none 0 0] 61 (0,0))).heap.size=W.heap.size+2:=
 ⟨below2 W o _,box1 W o _,azF W o _,aiN W o _⟩
theorem Sn.high(h:Sn B w va vl vd x F)(n:Nat)(H:w.heap.size<=n):¬F n/\va.ownBlock≠some n/\vl.ownBlock≠some n/\vd.ownBlock≠some n:=
 ⟨(λe=>by have:=(h.foot n e).2.1;omega),(λe=>by have:=(h.fa.lt e).2;omega),(λe=>by have:=(h.fl.lt e).2;omega),λe=>by have:=(h.fd.lt e).2;omega⟩
theorem ala{own:Option Nat}{H:Nat}(h:own=some g\/g=H)(a:∀b,own=some b->b<W.heap.size)(d:W.heap.size+2<=H):∀n,W.heap.size<=n->n<=W.heap.size+1->some g≠some n:=λn E O e=>by
 cases e;rcases h with h|h
 .have:=a _ h;omega
 .omega
theorem alb{k:Nat}{f h i j:Value}{t:TypeId}(v y0 y1 y2 y3:Value)(Z:Sn B w va vl vd x F)(u:Kp B B W w)(l:B<=W.heap.size)
 (a:∀n,W.heap.size<=n->n<=W.heap.size+1->¬F n/\va.ownBlock≠some n/\vl.ownBlock≠some n/\vd.ownBlock≠some n) (q:w.heap[W.heap.size+1]? =some (.cells #[f,h,i,j] t (0,0))):
 (uo (w.setCell ⟨W.heap.size,k,none⟩ v) (W.heap.size+1) y0 y1 y2 y3).heap[W.heap.size+1]? =some (.cells #[y0,y1,y2,y3] t (0,0))/\Sn B (uo (w.setCell ⟨W.heap.size,k,none⟩ v) (W.heap.size+1) y0 y1 y2 y3) va vl vd x F/\Kp B B W (uo (w.setCell ⟨W.heap.size,k,none⟩ v) (W.heap.size+1) y0 y1 y2 y3):=by
 have d:=(pz (w:=w) (p:=⟨W.heap.size,k,none⟩) (b:=W.heap.size+1) v (by show W.heap.size+1≠W.heap.size;omega)).trans q;have e:=Z.far (w':=w.setCell ⟨W.heap.size,k,none⟩ v) ah5 (a _ (aHv _) lu) λb _ J=>pz _ J;exact⟨yw d,e.far (Nat.le_of_eq ayj.symm) (a _ lu (aHv _)) λb _ J=>azM J,(u.high lu).uo lu⟩
variable {f:Sp.LS}
theorem Iu(h:∀y∈f,y.1.length<=600)(i:Int):(Sp.wordAt f i).length<=600:=by
 by_cases a:i<(f.length:Int)
 .rw[xB a,aHI];cases e:f[i.toNat]? with
  |none=>exact aHV _
  |some x=>exact h x (aH5 e)
 .rw[xC lu];exact aHV _
theorem xE(f:Sp.LS)(k i:Nat):Sp.wordAt (f.drop k) (i:Int)=Sp.wordAt f ((k+i:Nat):Int):=by
 rcases aHU (k+i) f.length with h|h
 .rw[xB (show(i:Int)<((f.drop k).length:Int)from an9),xB (show((k+i:Nat):Int)<(f.length:Int)from lu),aHB,aHB];simp[aHI,aIp]
 .rw[xC (show((f.drop k).length:Int)<=(i:Int)from an9),xC (show(f.length:Int)<=((k+i:Nat):Int)from lu)]
theorem azS(f:Sp.LS):Om (Sp.numAt f 1) (f.drop 2)=(Sp.numAt f 1,Sp.numAt f 2,Sp.wordAt f 3==[115],Sp.numAt f 4,jM (f.drop 5),()):=by
 unfold Om Sp.numAt;have S:=xE f 2 0;have E:=xE f 2 1;have O:=xE f 2 2;have U:(f.drop 2).drop 3=f.drop 5:=by rw[aJV]
 rw[U,show Sp.wordAt (f.drop 2) 0=Sp.wordAt f 2 from S,show Sp.wordAt (f.drop 2) 1=Sp.wordAt f 3 from E,show Sp.wordAt (f.drop 2) 2=Sp.wordAt f 4 from O]
def zeroAt:Value:=.agg #[.string ⟨#[]⟩,.int .i64 0,.int .i64 0,.string ⟨#[]⟩]
theorem infoAt:(prog.info? 212).map (λi=>(i.zero,i.size,i.bytes))=some (some zeroAt,4,48):=mF
theorem aw0(f:Sp.LS)(m:Nat)(h:m<f.length):jM (f.drop m)=((f.getD m ([],())).1,(bU (Sp.wordAt f ((m:Int)+1))).1)::jM (f.drop (m+2)):=by
 rcases aHU (m+1) f.length with O|O
 .rw[as6 O,show((m:Int)+1)=((m+1:Nat):Int)from lu,← QK O];rfl
 .rw[drop_cons f m ([],()) h,aJI O,aJI lu,xC lu];rfl
structure AtM(f:Sp.LS)(A:List dL)(m:Nat)(al:List dL):Prop where
 hi:m=5\/m<=f.length+1
 ln:2*al.length+5=m
 eq:al++jM (f.drop m)=A
theorem AtM.step{A:List dL}{m:Nat}{b:List dL}(h:AtM f A m b)(a:m<f.length):AtM f A (m+2) (b++[((f.getD m ([],())).1,(bU (Sp.wordAt f ((m:Int)+1))).1)]):=by obtain⟨E,O,U⟩:=h;refine⟨.inr lu,by rw[aHu,aHx,aHG];omega,?_⟩;rw[aw0 f m a]at U;rw[aHO];exact U
theorem AtM.done{A:List dL}{m:Nat}{b:List dL}(h:AtM f A m b)(a:f.length<=m):A=b:=by obtain⟨E,O,U⟩:=h;rw[aJI a]at U;rw[← U];exact aH1 _
theorem below_grown{n:Nat}{w':World}{o:Option Nat}(h:Below n W w)(k:w.grownBy w' o)(H:n<=W.heap.size)(a:∀b,o=some b->n<=b):Below n W w':=
 ⟨k.os.trans h.os,k.tape.trans h.tape,k.output.trans h.output,aHw h.size k.size,λb J=>(k.block b (by have:=h.size;omega) λe=>by have:=a b e.symm;omega).trans (h.block b J)⟩
structure Hold(P:Prop):Prop where h:P
set_option maxHeartbeats 64000000 in
theorem azR(B:Nat)(W:World)(va vl vd:Value)(x:bM)(F:Nat->Prop)(line:List UInt8)(hl:line.length<=1048576)(hG:G.ok W)(hS:Sn B W va vl vd x F)(hB:B<=W.heap.size)(hz:szX 2000000 x):
 Calls prog 198 #[Oj va vl vd x.2.2.1,.string ⟨line.toArray⟩] W λe w'=>Back B W w' e (rW x (iI line)):=by
 have mixed:=Tryz.mixed;obtain⟨aa,ca,rfl⟩:=hS.fa.form;obtain⟨ab,cb,rfl⟩:=hS.fl.form;obtain⟨ad,cd,rfl⟩:=hS.fd.form;have sf:=λw hG=>azJ line hl w hG;have hsm:=@ahz line;unfold Oj;generalize iI line=f at sf hsm ⊢;generalize lQ line=sok at sf;have lp:=λ(w:World)(v:Value)(hv:FW w.heap.size w v f) hG=>Jw hv (i:=0) lZ lZ hG;obtain⟨x0,hx0,hx1⟩:∃x0,Hid (x0=Sp.wordAt f 0)/\x0=Sp.wordAt f 0:=⟨_,rfl,rfl⟩;rw[← hx1]at lp;clear hx1;obtain⟨y,hy,hy1⟩:∃y,Hid (y=rW x f)/\rW x f=y:=⟨_,rfl,rfl⟩;rw[hy1];clear hy1;obtain⟨hbase,hN0,hN1,hsz2⟩:=aEj W (Obj.cells #[.slice aa x.1.length ca,.slice ab x.2.1.length cb,.int .i64 x.2.2.1,.slice ad x.2.2.2.1.length cd] 61 (0,0));have sf1:=sf _ (fC hG hbase);clear sf
 go_enter Tryz.func198,Tryz.ntmps198
 go_wp2_with (first
  |(go_at_call 240;refine aHY sf1 ?_;rintro e w1 ⟨a1,c1,rfl,hf1,hb1⟩;have hb1':=hbase.trans (hb1.mono hbase.size);have hG1:=fC hG hb1';clear sf1)
  |(go_at_call 241;refine aHY (lp w1 _ hf1 hG1) ?_;rintro e w2 ⟨rfl,hb2⟩;have zG:=hb1.trans (hb2.mono hb1.size);have hb2':=hbase.trans (zG.mono hbase.size);have hG2:=fC hG hb2';have hf2:=hf1.keep' hb2;clear lp;refine Hold.h ?_))
 constructor;have aG4:=hb1.size;by_cases e0:x0=jF
 .have h0:Sp.wordAt f 0=jF:=hx0.out.symm.trans e0;have e0:x0=[102,105,101,108,100]:=e0;subst e0;clear hx0;by_cases h2:Sp.wordAt f 2=Wh
  .have hy2:y=(x.1++[(Sp.wordAt f 1,1,())],x.2.1,x.2.2.1,x.2.2.2.1,()):=hy.out.trans (by unfold rW;rw[h0,h2];rfl);clear hy;have hz:=hz.1;have hw1:(Sp.wordAt f 1).length<=600:=Iu hsm.2 1;have Wi:=λ(w:World)(v:Value)(hv:FW w.heap.size w v f) hG=>Jw hv (i:=1) lZ lZ hG;have lp2:=λ(w:World)(v:Value)(hv:FW w.heap.size w v f) hG=>Jw hv (i:=2) lZ lZ hG;generalize Sp.wordAt f 1=nm at hw1 Wi hy2;rw[show Sp.wordAt f 2=[105,110,116]from h2]at lp2;obtain⟨i0,hi,hz0,hz1,hz2⟩:=aI8 as7;have hqm:x.1.length+1<=maxLen:=y8;have pJ:(x.1.length+1)*24<=140737488355328:=lu;obtain⟨xs,hown,hrep⟩:=hS.fa;have hown:W.ownsRow B 149 2 (.slice aa x.1.length ca) x.1.length xs:=hown;have hrep:∀i z,x.1[i]? =some z->aY W.heap F bC ((xs.drop (i*2)).take 2) z:=hrep;have Oo:∀b,(Value.slice aa x.1.length ca).ownBlock=some b->b<W.heap.size:=λb e=>(hS.fa.lt e).2;subst hy2
   go_wp2_with (first
    |(go_at_call 241;refine aHY (Wi w2 _ hf2 hG2) ?_;rintro e w3 ⟨rfl,hb3⟩;have uq:=zG.trans (hb3.mono zG.size);have PI:=(Below.refl w3.heap.size w3).alloc (aHv _) (Obj.cells #[.string ⟨nm.toArray⟩,.int .i64 2] 149 (0,0));have hrow3:=aH6 w3 (Obj.cells #[.string ⟨nm.toArray⟩,.int .i64 2] 149 (0,0));have E5:=uq.trans (PI.mono uq.size);have aag:=hbase.trans (E5.mono hbase.size);have hf3:=(hf2.keep' hb3).keep' PI;clear Wi)
    |(go_at_call 241;refine aHY (lp2 _ _ hf3 (fC hG aag)) ?_;rintro e w4 ⟨rfl,hb4⟩;have hrow4:=(hb4.block w3.heap.size vk).trans hrow3;have aCB:=PI.size;have Bz:=E5.trans (hb4.mono E5.size);have aiP:=hbase.trans (Bz.mono hbase.size);have t0:=aZ hrow4 0;have t1:=aZ hrow4 1;have u0:=eY hrow4 0;have u1:=eY hrow4 1;have t0:w4.cell? ⟨w3.heap.size,0,none⟩=some (.string ⟨nm.toArray⟩):=t0;have t1:w4.cell? ⟨w3.heap.size,1,none⟩=some (.int .i64 2):=t1;have azT:=uq.size;have q0:=(Bz.block W.heap.size lu).trans hN0;have q1:=(Bz.block (W.heap.size+1) lu).trans hN1;obtain⟨⟨d0,d1,d2,d3⟩,z0,z1,z2,z3⟩:=four q0)
    |(at_builtin;have hbs:Below W.heap.size W (w4.setCell ⟨w3.heap.size,1,none⟩ (.int .i64 1)):=aiP.setCell (p:=⟨w3.heap.size,1,none⟩) (show W.heap.size<=w3.heap.size from lu) _;have hb6:Below W.heap.size W ((w4.setCell ⟨w3.heap.size,1,none⟩ (.int .i64 1)).alloc (Obj.cells #[.string ⟨nm.toArray⟩,.int .i64 1] 149 (0,0))):=hbs.alloc hbs.size _;have hxs:=yA (w':=(w4.setCell ⟨w3.heap.size,1,none⟩ (.int .i64 1)).alloc (Obj.cells #[.string ⟨nm.toArray⟩,.int .i64 1] 149 (0,0))) hown λb e=>hb6.block b (Oo b e);have YH:=aH6 (w4.setCell ⟨w3.heap.size,1,none⟩ (.int .i64 1)) (Obj.cells #[.string ⟨nm.toArray⟩,.int .i64 1] 149 (0,0));have aah:(w4.setCell ⟨w3.heap.size,1,none⟩ (.int .i64 1)).heap.size=w4.heap.size:=(by first|rfl|simp);rw[aah]at YH;refine wpList_append_lies _ rfl _ _ 39 ah3 B 149 i0 ad5 2 24 Tryz.underlying39 hi hz0 hz1 hz2 rfl lZ (.slice aa x.1.length ca) x.1.length xs ah3 hxs ⟨w4.heap.size,0,none⟩ 1 1 [.string ⟨nm.toArray⟩,.int .i64 1] ah3 rfl (World.news_of_block YH) P8 lZ hqm pJ (aHw hB hb6.size) _ rfl ?_;intro g cap w6 hown6 hgrow6 Oq aai;have hnN:∀b,W.heap.size<=b->(Value.slice aa x.1.length ca).ownBlock≠some b:=λb hb e=>by have:=Oo b e;omega
      have hsz5:=hbs.size;have hq5:∀b o,b<=W.heap.size+1->W.heap.size<=b->w4.heap[b]? =some o->w6.heap[b]? =some o:=λb o hb hb2 ho=>(hgrow6.block b (by have:=(aHz.1 ho).1;simp;(try simp[World.setCell]);omega) (λe=>hnN b hb2 e.symm)).trans ((heap_alloc_old (w4.setCell ⟨w3.heap.size,1,none⟩ (.int .i64 1)) _ (by have:=(aHz.1 ho).1;(try simp[World.setCell]);omega)).trans ((pz (w:=w4) (p:=⟨w3.heap.size,1,none⟩) _ apG).trans ho));have q0':=hq5 _ _ lu (aHv _) q0;have q1':=hq5 _ _ (aHv _) lu q1;clear d0 d1 d2 d3 z0 z1 z2 z3;obtain⟨⟨d0,d1,d2,d3⟩,z0,z1,z2,z3⟩:=four q0';obtain⟨⟨p0,p1,p2,p3⟩,y0,y1,y2,y3⟩:=four q1'))
   all_goals (try simp only[Exit.inBlock,Exit.then])
   have hlw:W.heap.size+2<=w3.heap.size:=lu;have hx:=hS.arJ (y:=(nm,1,())) (N:=λ_=>False) hB hb6 hown hrep hown6 hgrow6 Oq aai (λb hb=>hb.elim) ⟨_,_,rfl,⟨rfl,y8⟩,_,_,rfl,⟨rfl,lZ,lZ⟩,rfl⟩;have hg0:=ala Oq Oo XO;have o0:=λn(h1:W.heap.size<=n)(h2:n<=W.heap.size+1)=>(⟨λe=>e.elim (hS.high n h1).1 id,hg0 n h1 h2,(hS.high n h1).2.2.1,(hS.high n h1).2.2.2⟩:¬(F n\/False)/\_/\_/\_);have k6:Kp B B W w6:=(aae hB hb6).grown hB hgrow6 λb e=>(hS.fa.lt e).1;obtain⟨r9,s9,k9⟩:=alb (k:=0) (.slice (some ⟨g,0,none⟩) (x.1.length+1) cap) (.slice (some ⟨g,0,none⟩) (x.1.length+1) cap) (.slice ab x.2.1.length cb) (.int .i64 x.2.2.1) (.slice ad x.2.2.2.1.length cd) hx k6 hB o0 q1';unfold uo at r9 s9 k9;exact aIv (aIX rfl _ _ (W.heap.size+1) _ _ _ _ ah3 r9 Tryz.underlying61 rfl mF) rfl ⟨_,_,_,_,rfl,s9,k9⟩
  .have hy2:y=(x.1++[(Sp.wordAt f 1,2,())],x.2.1,x.2.2.1,x.2.2.2.1,()):=hy.out.trans (by unfold rW;rw[h0,aHt.2 h2];rfl);clear hy;have hz:=hz.1;have hw1:(Sp.wordAt f 1).length<=600:=Iu hsm.2 1;have Wi:=λ(w:World)(v:Value)(hv:FW w.heap.size w v f) hG=>Jw hv (i:=1) lZ lZ hG;have lp2:=λ(w:World)(v:Value)(hv:FW w.heap.size w v f) hG=>Jw hv (i:=2) lZ lZ hG;generalize Sp.wordAt f 1=nm at hw1 Wi hy2;obtain⟨k2,hk2,hk3⟩:∃k2,Hid (k2=Sp.wordAt f 2)/\k2=Sp.wordAt f 2:=⟨_,rfl,rfl⟩;rw[← hk3]at lp2 h2;clear hk3;have g2:(k2==[105,110,116])=false:=aHt.2 h2;obtain⟨i0,hi,hz0,hz1,hz2⟩:=aI8 as7;have hqm:x.1.length+1<=maxLen:=y8;have pJ:(x.1.length+1)*24<=140737488355328:=lu;obtain⟨xs,hown,hrep⟩:=hS.fa;have hown:W.ownsRow B 149 2 (.slice aa x.1.length ca) x.1.length xs:=hown;have hrep:∀i z,x.1[i]? =some z->aY W.heap F bC ((xs.drop (i*2)).take 2) z:=hrep;have Oo:∀b,(Value.slice aa x.1.length ca).ownBlock=some b->b<W.heap.size:=λb e=>(hS.fa.lt e).2;subst hy2
   go_wp2_with (first
    |(go_at_call 241;refine aHY (Wi w2 _ hf2 hG2) ?_;rintro e w3 ⟨rfl,hb3⟩;have uq:=zG.trans (hb3.mono zG.size);have PI:=(Below.refl w3.heap.size w3).alloc (aHv _) (Obj.cells #[.string ⟨nm.toArray⟩,.int .i64 2] 149 (0,0));have hrow3:=aH6 w3 (Obj.cells #[.string ⟨nm.toArray⟩,.int .i64 2] 149 (0,0));have E5:=uq.trans (PI.mono uq.size);have aag:=hbase.trans (E5.mono hbase.size);have hf3:=(hf2.keep' hb3).keep' PI;clear Wi)
    |(go_at_call 241;refine aHY (lp2 _ _ hf3 (fC hG aag)) ?_;rintro e w4 ⟨rfl,hb4⟩;have hrow4:=(hb4.block w3.heap.size vk).trans hrow3;have aCB:=PI.size;have Bz:=E5.trans (hb4.mono E5.size);have aiP:=hbase.trans (Bz.mono hbase.size);have t0:=aZ hrow4 0;have t1:=aZ hrow4 1;have u0:=eY hrow4 0;have u1:=eY hrow4 1;have t0:w4.cell? ⟨w3.heap.size,0,none⟩=some (.string ⟨nm.toArray⟩):=t0;have t1:w4.cell? ⟨w3.heap.size,1,none⟩=some (.int .i64 2):=t1;have azT:=uq.size;have q0:=(Bz.block W.heap.size lu).trans hN0;have q1:=(Bz.block (W.heap.size+1) lu).trans hN1;obtain⟨⟨d0,d1,d2,d3⟩,z0,z1,z2,z3⟩:=four q0)
    |(at_builtin;have hbs:Below W.heap.size W w4:=aiP;have hb6:Below W.heap.size W (w4.alloc (Obj.cells #[.string ⟨nm.toArray⟩,.int .i64 2] 149 (0,0))):=hbs.alloc hbs.size _;have hxs:=yA (w':=w4.alloc (Obj.cells #[.string ⟨nm.toArray⟩,.int .i64 2] 149 (0,0))) hown λb e=>hb6.block b (Oo b e);have YH:=aH6 w4 (Obj.cells #[.string ⟨nm.toArray⟩,.int .i64 2] 149 (0,0));have aah:w4.heap.size=w4.heap.size:=(by first|rfl|simp);rw[aah]at YH;refine wpList_append_lies _ rfl _ _ 39 ah3 B 149 i0 ad5 2 24 Tryz.underlying39 hi hz0 hz1 hz2 rfl lZ (.slice aa x.1.length ca) x.1.length xs ah3 hxs ⟨w4.heap.size,0,none⟩ 1 1 [.string ⟨nm.toArray⟩,.int .i64 2] ah3 rfl (World.news_of_block YH) P8 lZ hqm pJ (aHw hB hb6.size) _ rfl ?_;intro g cap w6 hown6 hgrow6 Oq aai;have hnN:∀b,W.heap.size<=b->(Value.slice aa x.1.length ca).ownBlock≠some b:=λb hb e=>by have:=Oo b e;omega
      have hsz5:=hbs.size;have hq5:∀b o,b<=W.heap.size+1->W.heap.size<=b->w4.heap[b]? =some o->w6.heap[b]? =some o:=λb o hb hb2 ho=>(hgrow6.block b (by have:=(aHz.1 ho).1;simp;(try simp[World.setCell]);omega) (λe=>hnN b hb2 e.symm)).trans ((heap_alloc_old w4 _ (by have:=(aHz.1 ho).1;(try simp[World.setCell]);omega)).trans ((rfl:w4.heap[b]? =w4.heap[b]?).trans ho));have q0':=hq5 _ _ lu (aHv _) q0;have q1':=hq5 _ _ (aHv _) lu q1;clear d0 d1 d2 d3 z0 z1 z2 z3;obtain⟨⟨d0,d1,d2,d3⟩,z0,z1,z2,z3⟩:=four q0';obtain⟨⟨p0,p1,p2,p3⟩,y0,y1,y2,y3⟩:=four q1'))
   all_goals (try simp only[Exit.inBlock,Exit.then])
   have hlw:W.heap.size+2<=w3.heap.size:=lu;have hx:=hS.arJ (y:=(nm,2,())) (N:=λ_=>False) hB hb6 hown hrep hown6 hgrow6 Oq aai (λb hb=>hb.elim) ⟨_,_,rfl,⟨rfl,y8⟩,_,_,rfl,⟨rfl,lZ,lZ⟩,rfl⟩;have hg0:=ala Oq Oo XO;have o0:=λn(h1:W.heap.size<=n)(h2:n<=W.heap.size+1)=>(⟨λe=>e.elim (hS.high n h1).1 id,hg0 n h1 h2,(hS.high n h1).2.2.1,(hS.high n h1).2.2.2⟩:¬(F n\/False)/\_/\_/\_);have k6:Kp B B W w6:=(aae hB hb6).grown hB hgrow6 λb e=>(hS.fa.lt e).1;obtain⟨r9,s9,k9⟩:=alb (k:=0) (.slice (some ⟨g,0,none⟩) (x.1.length+1) cap) (.slice (some ⟨g,0,none⟩) (x.1.length+1) cap) (.slice ab x.2.1.length cb) (.int .i64 x.2.2.1) (.slice ad x.2.2.2.1.length cd) hx k6 hB o0 q1';unfold uo at r9 s9 k9;exact aIv (aIX rfl _ _ (W.heap.size+1) _ _ _ _ ah3 r9 Tryz.underlying61 rfl mF) rfl ⟨_,_,_,_,rfl,s9,k9⟩
 have n1:x0≠jF:=e0;by_cases e0:x0=wz
 .have h0:Sp.wordAt f 0=wz:=hx0.out.symm.trans e0;have e0:x0=[110,101,120,116]:=e0;subst e0;clear hx0;have hy2:y=(x.1,x.2.1,Sp.numAt f 1,x.2.2.2.1,()):=hy.out.trans (by unfold rW;rw[h0];rfl);clear hy;have hno:wZ (Sp.numAt f 1):=YI _;have ln:=λ(w:World)(v:Value)(hv:FW w.heap.size w v f) hG=>afI hv (i:=1) lZ lZ hG;generalize Sp.numAt f 1=n at hno ln hy2;subst hy2
  go_wp2_with (first
   |(go_at_call 242;refine aHY (ln w2 _ hf2 hG2) ?_;rintro e w3 ⟨rfl,hb3⟩;have uq:=zG.trans (hb3.mono zG.size);have as8:=hbase.trans (uq.mono hbase.size);have q0:=(uq.block W.heap.size lu).trans hN0;have q1:=(uq.block (W.heap.size+1) lu).trans hN1;obtain⟨⟨d0,d1,d2,d3⟩,z0,z1,z2,z3⟩:=four q0;obtain⟨⟨p0,p1,p2,p3⟩,y0,y1,y2,y3⟩:=four q1))
  all_goals (try simp only[Exit.inBlock,Exit.then])
  have q9:=(pz (w:=w3) (p:=⟨W.heap.size,2,none⟩) (b:=W.heap.size+1) (.int .i64 n) (by show W.heap.size+1≠W.heap.size;omega)).trans q1;have b9:=uM (y0:=.slice aa x.1.length ca) (y1:=.slice ab x.2.1.length cb) (y2:=.int .i64 n) (y3:=.slice ad x.2.2.2.1.length cd) (as8.setCell (p:=⟨W.heap.size,2,none⟩) (aHv _) (.int .i64 n)) (show W.heap.size<=W.heap.size+1 from lu);have r9:=yw (y0:=.slice aa x.1.length ca) (y1:=.slice ab x.2.1.length cb) (y2:=.int .i64 n) (y3:=.slice ad x.2.2.2.1.length cd) q9;have s9:=(hS.next hno).below b9;have k9:=aae hB b9;unfold uo at r9 s9 k9;exact aIv (aIX rfl _ _ (W.heap.size+1) _ _ _ _ ah3 r9 Tryz.underlying61 rfl mF) rfl ⟨_,_,_,_,rfl,s9,k9⟩
 have n2:x0≠wz:=e0;by_cases e0:x0=mY
 .have h0:Sp.wordAt f 0=mY:=hx0.out.symm.trans e0;have e0:x0=[102,105,108,101]:=e0;subst e0;clear hx0;have hy2:y=(x.1,x.2.1++[Om (Sp.numAt f 1) (f.drop 2)],x.2.2.1,x.2.2.2.1,()):=hy.out.trans (by unfold rW;rw[h0];rfl);clear hy;have hz:=hz.2.1;rw[azS]at hy2;have hw3:(Sp.wordAt f 3).length<=600:=Iu hsm.2 3;have lp3:=λ(w:World)(v:Value)(hv:FW w.heap.size w v f) hG=>Jw hv (i:=3) lZ lZ hG;have ln1:=λ(w:World)(v:Value)(hv:FW w.heap.size w v f) hG=>afI hv (i:=1) lZ lZ hG;have ln2:=λ(w:World)(v:Value)(hv:FW w.heap.size w v f) hG=>afI hv (i:=2) lZ lZ hG;have ln4:=λ(w:World)(v:Value)(hv:FW w.heap.size w v f) hG=>afI hv (i:=4) lZ lZ hG;have hn1:wZ (Sp.numAt f 1):=YI _;have hn2:wZ (Sp.numAt f 2):=YI _;have hn4:wZ (Sp.numAt f 4):=YI _;generalize Sp.numAt f 1=n1 at ln1 hn1 hy2;generalize Sp.numAt f 2=n2 at ln2 hn2 hy2;generalize Sp.numAt f 4=n4 at ln4 hn4 hy2;generalize Sp.wordAt f 3=s3 at lp3 hw3 hy2;obtain⟨sh,hsh⟩:∃sh,(s3==[115])=sh:=⟨_,rfl⟩;rw[hsh]at hy2;generalize hA:jM (f.drop 5)=A at hy2;obtain⟨i0,hi,hz0,hz1,hz2⟩:=aI8 ayn;obtain⟨i1,hi1,hz3,hz4,hz5⟩:=aI8 infoAt;have hqm:x.2.1.length+1<=maxLen:=y8;have pJ:(x.2.1.length+1)*56<=140737488355328:=lu;obtain⟨xs,hown,hrep⟩:=hS.fl;have hown:W.ownsRow B 154 5 (.slice ab x.2.1.length cb) x.2.1.length xs:=hown;have hrep:∀i z,x.2.1[i]? =some z->aY W.heap F aJ ((xs.drop (i*5)).take 5) z:=hrep;have Oo:∀b,(Value.slice ab x.2.1.length cb).ownBlock=some b->b<W.heap.size:=λb e=>(hS.fl.lt e).2;have aG5:=hsm.1;subst hy2
  go_wp2_with (first
   |(go_at_call 242;refine aHY (ln1 w2 _ hf2 hG2) ?_;rintro e w3 ⟨rfl,hb3⟩;have uq:=zG.trans (hb3.mono zG.size);have hf3:=hf2.keep' hb3;have as8:=hbase.trans (uq.mono hbase.size);have hG3:=fC hG as8;clear ln1)
   |(go_at_call 242;refine aHY (ln2 w3 _ hf3 hG3) ?_;rintro e w4 ⟨rfl,hb4⟩;have E5:=uq.trans (hb4.mono uq.size);have hf4:=hf3.keep' hb4;have aag:=hbase.trans (E5.mono hbase.size);have hG4:=fC hG aag;clear ln2)
   |(go_at_call 241;refine aHY (lp3 w4 _ hf4 hG4) ?_;rintro e w5 ⟨rfl,hb5⟩;have Bz:=E5.trans (hb5.mono E5.size);have hf5:=hf4.keep' hb5;have aiP:=hbase.trans (Bz.mono hbase.size);have hG5:=fC hG aiP;clear lp3)
   |(go_at_call 242;refine aHY (ln4 w5 _ hf5 hG5) ?_;rintro e w6 ⟨rfl,hb6⟩;have hb16:=Bz.trans (hb6.mono Bz.size);have YG:=hf5.keep' hb6;have azU:=hbase.trans (hb16.mono hbase.size);have hG6:=fC hG azU;clear ln4))
  have aG6:=hb16.size
  go_loopw [9] (λi wr=>∃(m:Nat)(al:List dL)(vt:Value),i=.int .i64 (m:Int)/\AtM f A m al/\wr.heap[w6.heap.size]? =some (.cells #[.int .i64 n1,.int .i64 n2,.bool sh,.int .i64 n4,vt] 154 (0,0))/\
   OL wr (w6.heap.size+1) (λ_=>False) 212 jk vt al/\Below w6.heap.size w6 wr/\w6.heap.size+1<=wr.heap.size)
   (λi _=>f.length-(intOf i).toNat)
  case atStart=>exact⟨5,[],.slice none 0 0,rfl,⟨.inl rfl,rfl,hA⟩,aH6 w6 _,OL.nil,(Below.refl _ w6).alloc (aHv _) _,vk⟩
  case round=>
   obtain⟨m,al,vt,rfl,hat,hrow,hOL,hbr,hsr⟩:=hrel;have azV:=hb16.trans (hbr.mono hb16.size);have arK:=hbase.trans (azV.mono hbase.size);have hGr:G.ok wr:=fC hG arK;have hfr:=YG.keep' hbr;rcases aHU m f.length with hlt|hge
   .have hlt':((m:Nat):Int)<f.length:=lu;have hnx:=hat.step hlt;have aGO:al.length<=24:=by have:=hat.ln;omega
    clear hat;have lpm:=Jw hfr (i:=(m:Int)+1) lu lu hGr;have hwm:(Sp.wordAt f ((m:Int)+1)).length<=600:=Iu hsm.2 _;have hkm:(f.getD m ([],())).1.length<=600:=hsm.2 _ (getD_mem hlt);obtain⟨b2,o2,rfl,hbl,cw⟩:=FW.cell hfr hlt;generalize (f.getD m ([],())).1=am at hnx hkm cw;generalize Sp.wordAt f ((m:Int)+1)=vm at hnx hwm lpm;have pv:=λw hG=>azK vm lu w hG;generalize bU vm=z at hnx pv;obtain⟨⟨k,vi,vs,⟨⟩⟩,ok⟩:=z;dsimp only at pv
    go_wp2_with (first
     |(go_at_call 241;refine aHY lpm ?_;rintro e w7 ⟨rfl,hb7⟩;have aFK:=arK.trans (hb7.mono arK.size))
     |(go_at_call 243;refine aHY (pv w7 (fC hG aFK)) ?_;rintro e w8 ⟨rfl,hb8,p1,p2,p3⟩))
    have hs7:=hb7.size;have hs8:=hb8.size;have aCG:=hb7.trans (hb8.mono hs7);have arL:=aH6 w8 (Obj.cells #[.int .i64 k,.int .i64 vi,.string ⟨vs.toArray⟩] 210 (0,0));have azW:Below w8.heap.size w8 (w8.alloc (Obj.cells #[.int .i64 k,.int .i64 vi,.string ⟨vs.toArray⟩] 210 (0,0))):=(Below.refl _ w8).alloc (aHv _) _;generalize w8.alloc (Obj.cells #[.int .i64 k,.int .i64 vi,.string ⟨vs.toArray⟩] 210 (0,0))=w9 at arL azW ⊢;have hs9:=azW.size;have as9:=aCG.trans (azW.mono aCG.size);have hbox:=(as9.block w6.heap.size lu).trans hrow;have yB:w6.heap.size<w9.heap.size:=(aHz.1 hbox).1;have e4:w9.cell? ⟨w6.heap.size,4,none⟩=some vt:=aZ hbox 4;have v0:w9.cell? ⟨w8.heap.size,0,none⟩=some (.int .i64 k):=aZ arL 0;have v1:w9.cell? ⟨w8.heap.size,1,none⟩=some (.int .i64 vi):=aZ arL 1;have v2:w9.cell? ⟨w8.heap.size,2,none⟩=some (.string ⟨vs.toArray⟩):=aZ arL 2;have cw9:w9.cell? ⟨b2,o2+m,none⟩=some (.string ⟨am.toArray⟩):=(aIE (a:=⟨b2,o2+m,none⟩) (as9.block b2 hbl)).trans cw;have hlt0:∀b,vt.ownBlock=some b->w6.heap.size+1<=b/\b<wr.heap.size:=λb e=>hOL.lt e;obtain⟨ys,hownA,aw1⟩:=hOL;have hownA:wr.ownsRow (w6.heap.size+1) 212 4 vt al.length ys:=hownA;have aw1:∀i z,al[i]? =some z->aY wr.heap (λ_=>False) jk ((ys.drop (i*4)).take 4) z:=aw1;have aEk:w9.ownsRow (w6.heap.size+1) 212 4 vt al.length ys:=yA hownA λb e=>as9.block b (hlt0 b e).2;have hnB:vt.ownBlock≠some w6.heap.size:=λe=>by have:=(hlt0 _ e).1;omega
    have aFL:al.length+1<=maxLen:=y8;have aFM:(al.length+1)*48<=140737488355328:=lu
    go_region_law (refine step_append_lies _ rfl (.tmp 70) (.tmp 77) 152 rfl (w6.heap.size+1) 212 i1 zeroAt 4 48 Tryz.underlying152 hi1 hz3 hz4 hz5 rfl lZ vt al.length ys y9 ((aI1 aEk).alloc _) ⟨w9.heap.size,0,none⟩ 1 1 [.string ⟨am.toArray⟩,.int .i64 k,.int .i64 vi,.string ⟨vs.toArray⟩] y9 rfl (World.news_of_block (aH6 _ _)) (by intro u hu;simp at hu;rcases hu with rfl|rfl|rfl|rfl<;>rfl) lZ aFL aFM KW _ rfl ?_;intro g cap w10 aCH aom aGP aGQ;have azX:=(aom.block w6.heap.size KW (λe=>hnB e.symm)).trans ((heap_alloc_old w9.drew _ yB).trans hbox);have k10:w10.cell? ⟨w6.heap.size,4,none⟩=some vt:=aZ azX 4;have z10:=eY azX 4)
    all_goals go_wp2
    all_goals
     have hbd:Below w9.heap.size w9 (w9.drew.alloc (Obj.cells #[.string ⟨am.toArray⟩,.int .i64 k,.int .i64 vi,.string ⟨vs.toArray⟩] 212 (0,0))):=((Below.refl _ w9).drew).alloc (aHv _) _;have hb0:Below w6.heap.size w6 (w9.drew.alloc (Obj.cells #[.string ⟨am.toArray⟩,.int .i64 k,.int .i64 vi,.string ⟨vs.toArray⟩] 212 (0,0))):=hbr.trans ((as9.trans (hbd.mono as9.size)).mono hbr.size);have aFN:=below_grown hb0 aom (aHv _) λb e=>Nat.le_of_succ_le (hlt0 b e).1;have aFO:=aFN.setCell (p:=⟨w6.heap.size,4,none⟩) (aHv _) (.slice (some ⟨g,0,none⟩) (al.length+1) cap);have hO:OL w10 (w6.heap.size+1) (λ_=>False) 212 jk (.slice (some ⟨g,0,none⟩) (al.length+1) cap) (al++[(am,k,vi,vs,())]):=OL.push (r:=jk) (F:=λ_=>False) aw1 hownA.1 aCH (λb hb=>hb.elim) ⟨_,_,rfl,⟨rfl,y8⟩,_,_,rfl,⟨rfl,p1⟩,_,_,rfl,⟨rfl,p2⟩,_,_,rfl,⟨rfl,p3⟩,rfl⟩;have hO2:OL (w10.setCell ⟨w6.heap.size,4,none⟩ (.slice (some ⟨g,0,none⟩) (al.length+1) cap)) (w6.heap.size+1) (λ_=>False) 212 jk (.slice (some ⟨g,0,none⟩) (al.length+1) cap) (al++[(am,k,vi,vs,())]):=hO.keep (λb e=>pz _ (by have:=(hO.lt e).1;show b≠w6.heap.size;omega)) λb hb=>hb.elim;exact⟨⟨m+2,_,_,by go_num,hnx,iO azX 4 _,hO2,aFO,by have:=aom.size;simp[World.setCell]at this ⊢;omega⟩,by simp only[intOf];omega⟩
   .have hge':¬((m:Nat):Int)<f.length:=lu;obtain rfl:=hat.done hge;clear hA hat;obtain⟨ac,cc,rfl⟩:=hOL.form;have q0:=(azV.block W.heap.size lu).trans hN0;have q1:=(azV.block (W.heap.size+1) lu).trans hN1;obtain⟨⟨d0,d1,d2,d3⟩,z0,z1,z2,z3⟩:=four q0;have e0:wr.cell? ⟨w6.heap.size,0,none⟩=some (.int .i64 n1):=aZ hrow 0;have e1:wr.cell? ⟨w6.heap.size,1,none⟩=some (.int .i64 n2):=aZ hrow 1;have e2:wr.cell? ⟨w6.heap.size,2,none⟩=some (.bool sh):=aZ hrow 2;have e3:wr.cell? ⟨w6.heap.size,3,none⟩=some (.int .i64 n4):=aZ hrow 3;have e4:wr.cell? ⟨w6.heap.size,4,none⟩=some (.slice ac A.length cc):=aZ hrow 4
    go_wp2_with (first
     |(at_builtin;have hbs:Below W.heap.size W wr:=arK;have hb7:Below W.heap.size W (wr.alloc (Obj.cells #[.int .i64 n1,.int .i64 n2,.bool sh,.int .i64 n4,.slice ac A.length cc] 154 (0,0))):=hbs.alloc hbs.size _;have hxs:=yA (w':=wr.alloc (Obj.cells #[.int .i64 n1,.int .i64 n2,.bool sh,.int .i64 n4,.slice ac A.length cc] 154 (0,0))) hown λb e=>hb7.block b (Oo b e);have YH:=aH6 wr (Obj.cells #[.int .i64 n1,.int .i64 n2,.bool sh,.int .i64 n4,.slice ac A.length cc] 154 (0,0));refine wpList_append_lies _ rfl _ _ 40 ah3 B 154 i0 ata 5 56 Tryz.underlying40 hi hz0 hz1 hz2 rfl lZ (.slice ab x.2.1.length cb) x.2.1.length xs ah3 hxs ⟨wr.heap.size,0,none⟩ 1 1 [.int .i64 n1,.int .i64 n2,.bool sh,.int .i64 n4,.slice ac A.length cc] ah3 rfl (World.news_of_block YH) (by intro u hu;simp at hu;rcases hu with rfl|rfl|rfl|rfl|rfl<;>rfl) lZ hqm pJ (aHw hB hb7.size) _ rfl ?_;intro g cap w7 hown6 hgrow6 Oq aai;have hnN:∀b,W.heap.size<=b->(Value.slice ab x.2.1.length cb).ownBlock≠some b:=λb hb e=>(by have:=Oo b e;omega);have hsz5:=hbs.size;have hq5:∀b o,b<=W.heap.size+1->W.heap.size<=b->wr.heap[b]? =some o->w7.heap[b]? =some o:=λb o hb hb2 ho=>(hgrow6.block b (by have:=(aHz.1 ho).1;simp;omega) (λe=>hnN b hb2 e.symm)).trans ((heap_alloc_old wr _ (aHz.1 ho).1).trans ho);have q0':=hq5 _ _ lu (aHv _) q0;have q1':=hq5 _ _ (aHv _) lu q1;clear d0 d1 d2 d3 z0 z1 z2 z3;obtain⟨⟨d0,d1,d2,d3⟩,z0,z1,z2,z3⟩:=four q0';obtain⟨⟨p0,p1,p2,p3⟩,y0',y1',y2',y3'⟩:=four q1'))
    all_goals (try simp only[Exit.inBlock,Exit.then])
    have hlw:W.heap.size+2<=w6.heap.size:=lu;have hlt0:∀b,(Value.slice ac A.length cc).ownBlock=some b->w6.heap.size+1<=b/\b<wr.heap.size:=λb e=>hOL.lt e;have hx:=hS.aAY (y:=(n1,n2,sh,n4,A,())) (N:=λb=>(Value.slice ac A.length cc).ownBlock=some b) hB hb7 hown hrep hown6 hgrow6 Oq aai (λb hb=>⟨by have:=(hlt0 b hb).1;omega,by have:=(hlt0 b hb).2;simp;omega⟩)
     ⟨_,_,rfl,⟨rfl,hn1⟩,_,_,rfl,⟨rfl,hn2⟩,_,_,rfl,rfl,_,_,rfl,⟨rfl,hn4⟩,_,_,rfl,dw.mono (λb hb=>⟨hb,heap_alloc_old wr _ (hlt0 b hb).2⟩) _ _ _ (hOL.rep lZ (S:=λb=>(Value.slice ac A.length cc).ownBlock=some b) λb hb=>hb.elim False.elim id),rfl⟩
    have hg0:=ala Oq Oo (by have:=(aHz.1 q1).1;simp;omega);have o0:=λn(h1:W.heap.size<=n)(h2:n<=W.heap.size+1)=>(⟨λe=>e.elim (hS.high n h1).1 (λe=>by have:=(hlt0 n e).1;omega),(hS.high n h1).2.1,hg0 n h1 h2,(hS.high n h1).2.2.2⟩:¬(F n\/(Value.slice ac A.length cc).ownBlock=some n)/\_/\_/\_);have k6:Kp B B W w7:=(aae hB hb7).grown hB hgrow6 λb e=>(hS.fl.lt e).1;obtain⟨r9,s9,k9⟩:=alb (k:=1) (.slice (some ⟨g,0,none⟩) (x.2.1.length+1) cap) (.slice aa x.1.length ca) (.slice (some ⟨g,0,none⟩) (x.2.1.length+1) cap) (.int .i64 x.2.2.1) (.slice ad x.2.2.2.1.length cd) hx k6 hB o0 q1';unfold uo at r9 s9 k9;exact aIv (aIX rfl _ _ (W.heap.size+1) _ _ _ _ ah3 r9 Tryz.underlying61 rfl mF) rfl ⟨_,_,_,_,rfl,s9,k9⟩
 have n3:x0≠mY:=e0;by_cases e0:x0=nJ
 .have h0:Sp.wordAt f 0=nJ:=hx0.out.symm.trans e0;have e0:x0=[100,105,114]:=e0;subst e0;clear hx0;by_cases h2:2<f.length
  .have hy2:y=(x.1,x.2.1,x.2.2.1,x.2.2.2.1++[(Sp.wordAt f 1,iJ (gI (f.drop 2)),())],()):=hy.out.trans (by unfold rW;rw[h0,aHF (show(2:Int)<(f.length:Int)from lu)];rfl);clear hy;have hz:=hz.2.2.2.1;have hw1:(Sp.wordAt f 1).length<=600:=Iu hsm.2 1;have Wi:=λ(w:World)(v:Value)(hv:FW w.heap.size w v f) hG=>Jw hv (i:=1) lZ lZ hG;generalize Sp.wordAt f 1=nm at hw1 Wi hy2;obtain⟨y0,y1,r,rfl,hr⟩:∃y0 y1 r,f=y0::y1::r/\0<r.length:=by
    match f,h2 with
    |y0::y1::r,h=>exact⟨y0,y1,r,rfl,by simp at h;omega⟩
    |[_],h=>exact absurd h vk
    |[],h=>exact absurd h vk
   obtain⟨hs1,hs2⟩:=hsm;have hrl:r.length<=24:=by rw[aHx,aHx]at hs1;omega
   have hj:(gI r).length<=24*601:=aHw (atb (m:=600) λy hy=>hs2 y (aHC _ (aHC _ hy))) (aHQ _ hrl);rw[show(y0::y1::r).drop 2=r from rfl]at hy2;have hf1:FW w1.heap.size w1 (.slice a1 (r.length+2) c1) (y0::y1::r):=hf1;obtain⟨b2,o2,e2,-,-⟩:=FW.cell (a:=a1) (c:=c1) (f:=y0::y1::r) hf1 (n:=0) vk;subst e2;obtain⟨hc2,ht1⟩:=hf1.aAZ hr;have ht2:=ht1.keep' hb2;have lj:=λ(w:World)(v:Value)(hv:FW w.heap.size w v r) hG=>aBE v r w hv lu lu hG;generalize gI r=t at lj hj hy2;have pq:=λw hG=>azL t lu w hG;generalize iJ t=q at pq hy2;generalize iE t=ok at pq;have hlt2:(2:Int)<(r.length:Int)+2:=lu;have hlt3:(2:Int)<(r.length:Int)+1+1:=lu;obtain⟨i0,hi,hz0,hz1,hz2⟩:=aI8 atc;have hqm:x.2.2.2.1.length+1<=maxLen:=y8;have pJ:(x.2.2.2.1.length+1)*40<=140737488355328:=lu;obtain⟨xs,hown,hrep⟩:=hS.fd;have hown:W.ownsRow B 157 2 (.slice ad x.2.2.2.1.length cd) x.2.2.2.1.length xs:=hown;have hrep:∀i z,x.2.2.2.1[i]? =some z->aY W.heap F aK ((xs.drop (i*2)).take 2) z:=hrep;have Oo:∀b,(Value.slice ad x.2.2.2.1.length cd).ownBlock=some b->b<W.heap.size:=λb e=>(hS.fd.lt e).2;subst hy2
   go_wp2_with (first
    |(go_at_call 241;refine aHY (Wi w2 _ hf2 hG2) ?_;rintro e w3 ⟨rfl,hb3⟩;have uq:=zG.trans (hb3.mono zG.size);have azT:=uq.size;have PI:=(Below.refl w3.heap.size w3).alloc (aHv _) (Obj.cells #[.string ⟨nm.toArray⟩,.slice none 0 0] 157 (0,0));have hrow3:=aH6 w3 (Obj.cells #[.string ⟨nm.toArray⟩,.slice none 0 0] 157 (0,0));have E5:=uq.trans (PI.mono uq.size);have aag:=hbase.trans (E5.mono hbase.size);have ht3:=(ht2.keep' hb3).keep' PI;clear Wi)
    |(go_at_call 245;refine aHY (lj _ _ ht3 (fC hG aag)) ?_;rintro e w4 ⟨rfl,hb4⟩;have Bz:=E5.trans (hb4.mono E5.size);have aiP:=hbase.trans (Bz.mono hbase.size);have aCB:=PI.size;have aG7:=hb4.size;have aFP:(w3.alloc (Obj.cells #[.string ⟨nm.toArray⟩,.slice none 0 0] 157 (0,0))).heap.size=w3.heap.size+1:=vk)
    |(go_at_call 244;refine aHY (pq w4 (fC hG aiP)) ?_;rintro e w5 ⟨a6,c6,rfl,hb5,hra⟩;have aFQ:=hb4.trans (hb5.mono hb4.size);have tq:=(aFQ.block w3.heap.size vk).trans hrow3;have hb16:=Bz.trans (hb5.mono Bz.size);have azU:=hbase.trans (hb16.mono hbase.size);have aG8:=hb5.size;have t0:=aZ tq 0;have t1:=aZ tq 1;have u0:=eY tq 0;have u1:=eY tq 1;have t0:w5.cell? ⟨w3.heap.size,0,none⟩=some (.string ⟨nm.toArray⟩):=t0;have t1:w5.cell? ⟨w3.heap.size,1,none⟩=some (.slice none 0 0):=t1;have q0:=(hb16.block W.heap.size lu).trans hN0;have q1:=(hb16.block (W.heap.size+1) lu).trans hN1;obtain⟨⟨d0,d1,d2,d3⟩,z0,z1,z2,z3⟩:=four q0)
    |(at_builtin;have hbs:Below W.heap.size W (w5.setCell ⟨w3.heap.size,1,none⟩ (.slice a6 q.length c6)):=azU.setCell (p:=⟨w3.heap.size,1,none⟩) (show W.heap.size<=w3.heap.size from lu) _;have hb7:Below W.heap.size W ((w5.setCell ⟨w3.heap.size,1,none⟩ (.slice a6 q.length c6)).alloc (Obj.cells #[.string ⟨nm.toArray⟩,.slice a6 q.length c6] 157 (0,0))):=hbs.alloc hbs.size _;have hxs:=yA (w':=(w5.setCell ⟨w3.heap.size,1,none⟩ (.slice a6 q.length c6)).alloc (Obj.cells #[.string ⟨nm.toArray⟩,.slice a6 q.length c6] 157 (0,0))) hown λb e=>hb7.block b (Oo b e);have YH:=aH6 (w5.setCell ⟨w3.heap.size,1,none⟩ (.slice a6 q.length c6)) (Obj.cells #[.string ⟨nm.toArray⟩,.slice a6 q.length c6] 157 (0,0));have aah:(w5.setCell ⟨w3.heap.size,1,none⟩ (.slice a6 q.length c6)).heap.size=w5.heap.size:=(by first|rfl|simp);rw[aah]at YH;refine wpList_append_lies _ rfl _ _ 43 ah3 B 157 i0 ale 2 40 Tryz.underlying43 hi hz0 hz1 hz2 rfl lZ (.slice ad x.2.2.2.1.length cd) x.2.2.2.1.length xs ah3 hxs ⟨w5.heap.size,0,none⟩ 1 1 [.string ⟨nm.toArray⟩,.slice a6 q.length c6] ah3 rfl (World.news_of_block YH) P8 lZ hqm pJ (aHw hB hb7.size) _ rfl ?_;intro g cap w6 hown6 hgrow6 Oq aai;have hnN:∀b,W.heap.size<=b->(Value.slice ad x.2.2.2.1.length cd).ownBlock≠some b:=λb hb e=>(by have:=Oo b e;omega);have hsz5:=hbs.size;have hq5:∀b o,b<=W.heap.size+1->W.heap.size<=b->w5.heap[b]? =some o->w6.heap[b]? =some o:=λb o hb hb2 ho=>(hgrow6.block b (by have:=(aHz.1 ho).1;simp;(try simp[World.setCell]);(try simp at this);omega) (λe=>hnN b hb2 e.symm)).trans ((heap_alloc_old (w5.setCell ⟨w3.heap.size,1,none⟩ (.slice a6 q.length c6)) _ (by have:=(aHz.1 ho).1;(try simp[World.setCell]);(try simp at this);omega)).trans ((pz (w:=w5) (p:=⟨w3.heap.size,1,none⟩) _ apG).trans ho));have q0':=hq5 _ _ lu (aHv _) q0;have q1':=hq5 _ _ (aHv _) lu q1;clear d0 d1 d2 d3 z0 z1 z2 z3;obtain⟨⟨d0,d1,d2,d3⟩,z0,z1,z2,z3⟩:=four q0';obtain⟨⟨p0,p1,p2,p3⟩,y0',y1',y2',y3'⟩:=four q1'))
   all_goals (try simp only[Exit.inBlock,Exit.then])
   have hlw:W.heap.size+2<=w3.heap.size:=lu;have hx:=hS.aw2 (y:=(nm,q,())) (N:=λb=>w4.heap.size<=b/\b<w5.heap.size) hB hb7 hown hrep hown6 hgrow6 Oq aai (λb hb=>⟨lu,by have:=hb.2;simp[World.setCell];omega⟩) ⟨_,_,rfl,⟨rfl,y8⟩,_,_,rfl,dw.mono (λb hb=>⟨hb,(heap_alloc_old (w5.setCell ⟨w3.heap.size,1,none⟩ (.slice a6 q.length c6)) _ (by simp[World.setCell];exact hb.2)).trans (pz _ apG)⟩) _ _ _ hra,rfl⟩;have hg0:=ala Oq Oo XO;have o0:=λn(h1:W.heap.size<=n)(h2:n<=W.heap.size+1)=>(⟨λe=>e.elim (hS.high n h1).1 (λe=>by have:=e.1;omega),(hS.high n h1).2.1,(hS.high n h1).2.2.1,hg0 n h1 h2⟩:¬(F n\/(w4.heap.size<=n/\n<w5.heap.size))/\_/\_/\_);have k6:Kp B B W w6:=(aae hB hb7).grown hB hgrow6 λb e=>(hS.fd.lt e).1;obtain⟨r9,s9,k9⟩:=alb (k:=3) (.slice (some ⟨g,0,none⟩) (x.2.2.2.1.length+1) cap) (.slice aa x.1.length ca) (.slice ab x.2.1.length cb) (.int .i64 x.2.2.1) (.slice (some ⟨g,0,none⟩) (x.2.2.2.1.length+1) cap) hx k6 hB o0 q1';unfold uo at r9 s9 k9;exact aIv (aIX rfl _ _ (W.heap.size+1) _ _ _ _ ah3 r9 Tryz.underlying61 rfl mF) rfl ⟨_,_,_,_,rfl,s9,k9⟩
  .have h2:¬(2:Int)<(f.length:Int):=lu;have hy2:y=(x.1,x.2.1,x.2.2.1,x.2.2.2.1++[(Sp.wordAt f 1,[],())],()):=hy.out.trans (by unfold rW;rw[h0,aHD h2];rfl);clear hy;have hz:=hz.2.2.2.1;have hw1:(Sp.wordAt f 1).length<=600:=Iu hsm.2 1;have Wi:=λ(w:World)(v:Value)(hv:FW w.heap.size w v f) hG=>Jw hv (i:=1) lZ lZ hG;generalize Sp.wordAt f 1=nm at hw1 Wi hy2;obtain⟨i0,hi,hz0,hz1,hz2⟩:=aI8 atc;have hqm:x.2.2.2.1.length+1<=maxLen:=y8;have pJ:(x.2.2.2.1.length+1)*40<=140737488355328:=lu;obtain⟨xs,hown,hrep⟩:=hS.fd;have hown:W.ownsRow B 157 2 (.slice ad x.2.2.2.1.length cd) x.2.2.2.1.length xs:=hown;have hrep:∀i z,x.2.2.2.1[i]? =some z->aY W.heap F aK ((xs.drop (i*2)).take 2) z:=hrep;have Oo:∀b,(Value.slice ad x.2.2.2.1.length cd).ownBlock=some b->b<W.heap.size:=λb e=>(hS.fd.lt e).2;subst hy2
   go_wp2_with (first
    |(go_at_call 241;refine aHY (Wi w2 _ hf2 hG2) ?_;rintro e w3 ⟨rfl,hb3⟩;have uq:=zG.trans (hb3.mono zG.size);have azT:=uq.size;have PI:=(Below.refl w3.heap.size w3).alloc (aHv _) (Obj.cells #[.string ⟨nm.toArray⟩,.slice none 0 0] 157 (0,0));have hrow3:=aH6 w3 (Obj.cells #[.string ⟨nm.toArray⟩,.slice none 0 0] 157 (0,0));have E5:=uq.trans (PI.mono uq.size);have aag:=hbase.trans (E5.mono hbase.size);have aFP:(w3.alloc (Obj.cells #[.string ⟨nm.toArray⟩,.slice none 0 0] 157 (0,0))).heap.size=w3.heap.size+1:=vk;have t0:=aZ hrow3 0;have t1:=aZ hrow3 1;have u0:=eY hrow3 0;have u1:=eY hrow3 1;have t0:(w3.alloc (Obj.cells #[.string ⟨nm.toArray⟩,.slice none 0 0] 157 (0,0))).cell? ⟨w3.heap.size,0,none⟩=some (.string ⟨nm.toArray⟩):=t0;have t1:(w3.alloc (Obj.cells #[.string ⟨nm.toArray⟩,.slice none 0 0] 157 (0,0))).cell? ⟨w3.heap.size,1,none⟩=some (.slice none 0 0):=t1;have q0:=(E5.block W.heap.size lu).trans hN0;have q1:=(E5.block (W.heap.size+1) lu).trans hN1;obtain⟨⟨d0,d1,d2,d3⟩,z0,z1,z2,z3⟩:=four q0)
    |(at_builtin;have hbs:Below W.heap.size W (w3.alloc (Obj.cells #[.string ⟨nm.toArray⟩,.slice none 0 0] 157 (0,0))):=aag;have hb7:Below W.heap.size W ((w3.alloc (Obj.cells #[.string ⟨nm.toArray⟩,.slice none 0 0] 157 (0,0))).alloc (Obj.cells #[.string ⟨nm.toArray⟩,.slice none 0 0] 157 (0,0))):=hbs.alloc hbs.size _;have hxs:=yA (w':=(w3.alloc (Obj.cells #[.string ⟨nm.toArray⟩,.slice none 0 0] 157 (0,0))).alloc (Obj.cells #[.string ⟨nm.toArray⟩,.slice none 0 0] 157 (0,0))) hown λb e=>hb7.block b (Oo b e);have YH:=aH6 (w3.alloc (Obj.cells #[.string ⟨nm.toArray⟩,.slice none 0 0] 157 (0,0))) (Obj.cells #[.string ⟨nm.toArray⟩,.slice none 0 0] 157 (0,0));have aah:(w3.alloc (Obj.cells #[.string ⟨nm.toArray⟩,.slice none 0 0] 157 (0,0))).heap.size=w3.heap.size+1:=(by first|rfl|simp);rw[aah]at YH;refine wpList_append_lies _ rfl _ _ 43 ah3 B 157 i0 ale 2 40 Tryz.underlying43 hi hz0 hz1 hz2 rfl lZ (.slice ad x.2.2.2.1.length cd) x.2.2.2.1.length xs ah3 hxs ⟨w3.heap.size+1,0,none⟩ 1 1 [.string ⟨nm.toArray⟩,.slice none 0 0] ah3 rfl (World.news_of_block YH) P8 lZ hqm pJ (aHw hB hb7.size) _ rfl ?_;intro g cap w6 hown6 hgrow6 Oq aai;have hnN:∀b,W.heap.size<=b->(Value.slice ad x.2.2.2.1.length cd).ownBlock≠some b:=λb hb e=>(by have:=Oo b e;omega);have hsz5:=hbs.size;have hq5:∀b o,b<=W.heap.size+1->W.heap.size<=b->(w3.alloc (Obj.cells #[.string ⟨nm.toArray⟩,.slice none 0 0] 157 (0,0))).heap[b]? =some o->w6.heap[b]? =some o:=λb o hb hb2 ho=>(hgrow6.block b (by have:=(aHz.1 ho).1;simp;(try simp[World.setCell]);(try simp at this);omega) (λe=>hnN b hb2 e.symm)).trans ((heap_alloc_old (w3.alloc (Obj.cells #[.string ⟨nm.toArray⟩,.slice none 0 0] 157 (0,0))) _ (by have:=(aHz.1 ho).1;(try simp[World.setCell]);(try simp at this);omega)).trans ((rfl:(w3.alloc (Obj.cells #[.string ⟨nm.toArray⟩,.slice none 0 0] 157 (0,0))).heap[b]? =(w3.alloc (Obj.cells #[.string ⟨nm.toArray⟩,.slice none 0 0] 157 (0,0))).heap[b]?).trans ho));have q0':=hq5 _ _ lu (aHv _) q0;have q1':=hq5 _ _ (aHv _) lu q1;clear d0 d1 d2 d3 z0 z1 z2 z3;obtain⟨⟨d0,d1,d2,d3⟩,z0,z1,z2,z3⟩:=four q0';obtain⟨⟨p0,p1,p2,p3⟩,y0',y1',y2',y3'⟩:=four q1'))
   all_goals (try simp only[Exit.inBlock,Exit.then])
   have hlw:W.heap.size+2<=w3.heap.size:=lu;have hx:=hS.aw2 (y:=(nm,[],())) (N:=λ_=>False) hB hb7 hown hrep hown6 hgrow6 Oq aai (λb hb=>hb.elim) ⟨_,_,rfl,⟨rfl,y8⟩,_,_,rfl,⟨aHV _,.inl ⟨rfl,none,0,rfl⟩⟩,rfl⟩;have hg0:=ala Oq Oo XO;have o0:=λn(h1:W.heap.size<=n)(h2:n<=W.heap.size+1)=>(⟨λe=>e.elim (hS.high n h1).1 id,(hS.high n h1).2.1,(hS.high n h1).2.2.1,hg0 n h1 h2⟩:¬(F n\/False)/\_/\_/\_);have k6:Kp B B W w6:=(aae hB hb7).grown hB hgrow6 λb e=>(hS.fd.lt e).1;obtain⟨r9,s9,k9⟩:=alb (k:=3) (.slice (some ⟨g,0,none⟩) (x.2.2.2.1.length+1) cap) (.slice aa x.1.length ca) (.slice ab x.2.1.length cb) (.int .i64 x.2.2.1) (.slice (some ⟨g,0,none⟩) (x.2.2.2.1.length+1) cap) hx k6 hB o0 q1';unfold uo at r9 s9 k9;exact aIv (aIX rfl _ _ (W.heap.size+1) _ _ _ _ ah3 r9 Tryz.underlying61 rfl mF) rfl ⟨_,_,_,_,rfl,s9,k9⟩
 have hy2:x=y:=(hy.out.trans (by unfold rW;rw[← hx0.out,aHt.2 n1,aHt.2 n2,aHt.2 n3,aHt.2 e0];rfl)).symm;clear hy;subst hy2;have h1:¬x0=[102,105,101,108,100]:=n1;have h2:¬x0=[110,101,120,116]:=n2;have h3:¬x0=[102,105,108,101]:=n3;have h4:¬x0=[100,105,114]:=e0;clear n1 n2 n3 e0;have g1:(x0==[102,105,101,108,100])=false:=aHt.2 h1;have g2:(x0==[110,101,120,116])=false:=aHt.2 h2;have g3:(x0==[102,105,108,101])=false:=aHt.2 h3;have g4:(x0==[100,105,114])=false:=aHt.2 h4;have q0:=(zG.block W.heap.size lu).trans hN0;have q1:=(zG.block (W.heap.size+1) lu).trans hN1;obtain⟨⟨d0,d1,d2,d3⟩,z0,z1,z2,z3⟩:=four q0;obtain⟨⟨p0,p1,p2,p3⟩,y0,y1,y2,y3⟩:=four q1
 go_wp2
 all_goals (try simp only[Exit.inBlock,Exit.then])
 have r9:=yw (y0:=.slice aa x.1.length ca) (y1:=.slice ab x.2.1.length cb) (y2:=.int .i64 x.2.2.1) (y3:=.slice ad x.2.2.2.1.length cd) q1;have s9:=hS.below (uM (y0:=.slice aa x.1.length ca) (y1:=.slice ab x.2.1.length cb) (y2:=.int .i64 x.2.2.1) (y3:=.slice ad x.2.2.2.1.length cd) hb2' (show W.heap.size<=W.heap.size+1 from lu));have k9:=aae hB (uM (y0:=.slice aa x.1.length ca) (y1:=.slice ab x.2.1.length cb) (y2:=.int .i64 x.2.2.1) (y3:=.slice ad x.2.2.2.1.length cd) hb2' (show W.heap.size<=W.heap.size+1 from lu));unfold uo at r9 s9 k9;exact aIv (aIX rfl _ _ (W.heap.size+1) _ _ _ _ ah3 r9 Tryz.underlying61 rfl mF) rfl ⟨_,_,_,_,rfl,s9,k9⟩
theorem azN(h:Sn B w va vl vd x F)(Z:C9 x)(i:G.ok w):Calls prog 56 #[Oj va vl vd x.2.2.1] w λe d=>e=.returned (.bool (dS x))/\Below w.heap.size w d:=by have L:fF prog G 56 (iw jf.sh jf.dF jf.F):=sZ.1;refine(L [as5 x] (C9 x) ⟨[(false,[.plain (.bool (dS x))])],none⟩ 0 (λ_=>True) #[Oj va vl vd x.2.2.1] w rfl Z i ⟨alc h,trivial⟩).mono ?_;rintro e d ⟨v,b,rfl,E,O,U,j,M,a,_,_⟩;have a:v=.bool (dS x):=a;exact⟨by rw[a],E,O,U,j,M⟩
theorem azO(h:Sn B w va vl vd x F)(Z:fJ x)(k:G.ok w):Calls prog 53 #[Oj va vl vd x.2.2.1] w λe a=>∃v,e=.returned v/\FW a.heap.size a v (Sp.enc x)/\Below w.heap.size w a:=by have L:fF prog G 53 (iw jU.sh jU.dF jU.F):=Bv.1;refine(L [as5 x] (fJ x) _ 0 (λ_=>True) #[Oj va vl vd x.2.2.1] w rfl Z k ⟨alc h,trivial⟩).mono ?_;rintro e a ⟨v,i,rfl,E,O,U,j,M,d,_,_⟩;have d:dw a.heap _ (.sl bF dZ) v (Sp.enc x):=d;exact⟨v,rfl,dw.mono (λb J=>⟨J.1.1,rfl⟩) _ _ _ d,E,O,U,j,M⟩
theorem avx{u v:Value}{a b:Sp.LS}(l:FW w.heap.size w u a)(J:FW w.heap.size w v b)(k:G.ok w):Calls prog 52 #[u,v] w λe i=>e=.returned (.bool (decide (a=b)))/\Below w.heap.size w i:=by have L:fF prog G 52 (iw rE.sh rE.dF rE.F):=Ux.1;refine(L [.sv (.one (.sl bF dZ a false)),.sv (.one (.sl bF dZ b false))] True ⟨[(false,[.plain (.bool (decide (a=b)))])],none⟩ 0 (λ_=>True) #[u,v] w rfl trivial k ⟨AX l,AX J,trivial⟩).mono ?_;rintro e i ⟨v,h,rfl,E,O,U,j,M,d,_,_⟩;have d:v=.bool (decide (a=b)):=d;exact⟨by rw[d],E,O,U,j,M⟩
theorem azP{ls:Sp.LS}(k:(dS (qg gu ls)&&decide (Sp.enc (qg gu ls)=ls))=false):Sp.dec ls=(gu,false):=by unfold Sp.dec;rw[k];rfl
theorem ayk{ls:Sp.LS}(a:dS (qg gu ls)=true)(b:decide (Sp.enc (qg gu ls)=ls)=true):Sp.dec ls=(qg gu ls,true):=by unfold Sp.dec;rw[a,b];rfl
theorem Kp.weak{P:Nat}(h:Kp B B W w)(a:P<B):Kp B P W w:=⟨h.os,h.tape,h.output,h.size,λb J _=>h.block b J lu⟩
set_option maxHeartbeats 16000000 in
theorem azQ(ls:Sp.LS)(v:Value)(W:World)(hv:FW W.heap.size W v ls)(hfit:Et ls)(hG:G.ok W):Calls prog 148 #[v] W λe w'=>Gives W w' e (Sp.dec ls).1 (Sp.dec ls).2:=by
 have mixed:=Tryz.mixed;obtain⟨aEh,hlx⟩:=hfit;obtain⟨al,cl,rfl⟩:=oH hv;have hbase:=below2 W (Obj.cells CU 61 (0,0)) (Obj.cells CU 61 (0,0));have hsize:=aiN W (Obj.cells CU 61 (0,0)) (Obj.cells CU 61 (0,0));have hN0:=box1 W (Obj.cells CU 61 (0,0)) (Obj.cells CU 61 (0,0))
 go_enter Tryz.func148,Tryz.ntmps148
 go_wp2
 go_loopw [5] (λi wr=>∃n:Nat,n<=ls.length/\i=.int .i64 n/\szX n (qg gu (ls.take n))/\Held (W.heap.size+2) (W.heap.size+1) wr (qg gu (ls.take n))/\Kp (W.heap.size+2) (W.heap.size+1) ((W.alloc (Obj.cells CU 61 (0,0))).alloc (Obj.cells CU 61 (0,0))) wr)
  (λi _=>ls.length-(intOf i).toNat)
 case atStart=>exact⟨0,aHV _,rfl,as3,⟨_,_,_,_,azF W _ _,Sn.zero _ _⟩,rfl,rfl,rfl,aHv _,λ_ _ _=>rfl⟩
 case round=>
  obtain⟨n,hn,rfl,hsz,hH,hK⟩:=hrel;have hlow:=hK.low lu hbase;have hGr:G.ok wr:=fC hG hlow;have hwr:=hK.size;rw[hsize]at hwr;rcases aHU n ls.length with hlt|hge
  .have hlt':((n:Nat):Int)<ls.length:=lu;obtain⟨bl,off,rfl,hbl,hcl⟩:=hv.cell hlt;have hcl:=(aIE (a:=⟨bl,off+n,none⟩) (hlow.block bl hbl)).trans hcl;have hLl:=hlx _ (getD_in (d:=([],())) hlt);have hnext:=ayl hlt;have aac:szX (n+1) (rW (qg gu (ls.take n)) (iI (ls.getD n ([],())).1)):=aym hsz (aHw ahz.1 lZ);generalize (ls.getD n ([],())).1=L at hcl hLl hnext aac;obtain⟨va,vl,vd,F,hP,AU⟩:=hH;have hPl:=(aHz.1 hP).1;have rr:=λw(hs:Sn (W.heap.size+2) w va vl vd _ F)(hG:G.ok w)(hB:W.heap.size+2<=w.heap.size)=>azR (W.heap.size+2) w va vl vd _ F L lu hG hs hB ⟨aHw hsz.1 lu,aHw hsz.2.1 lu,hsz.2.2.1,aHw hsz.2.2.2.1 lu,hsz.2.2.2.2⟩;generalize hxx:qg gu (ls.take n)=x at hP AU rr hnext aac;generalize rW x (iI L)=x' at rr hnext aac;unfold Oj at rr;obtain⟨⟨d0,d1,d2,d3⟩,z0,z1,z2,z3⟩:=four hP;clear hsz hxx
   go_wp2
   go_still_tail 5,mF
   change wpList _ _ _ _ _ wr.drew;have hdw:Below wr.heap.size wr wr.drew:=(Below.refl _ wr).drew;generalize wr.drew=w2 at hdw ⊢;have hsd:=hdw.size
   go_wp2_with (first
    |(go_at_call 198;refine aHY (rr w2 (AU.below hdw) (fC hGr hdw) lu) ?_;rintro e w' ⟨va',vl',vd',F',rfl,hS',hK'⟩;obtain⟨aa,ca,rfl⟩:=hS'.fa.form;obtain⟨ab,cb,rfl⟩:=hS'.fl.form;obtain⟨ad,cd,rfl⟩:=hS'.fd.form;unfold Oj;have hP':=(hK'.block (W.heap.size+1) lu lu).trans ((hdw.block _ hPl).trans hP);clear d0 d1 d2 d3 z0 z1 z2 z3;obtain⟨⟨d0,d1,d2,d3⟩,z0,z1,z2,z3⟩:=four hP'))
   have r9:=yw (y0:=.slice aa x'.1.length ca) (y1:=.slice ab x'.2.1.length cb) (y2:=.int .i64 x'.2.2.1) (y3:=.slice ad x'.2.2.2.1.length cd) hP';have s9:=aoj (g:=W.heap.size+1) (y0:=.slice aa x'.1.length ca) (y1:=.slice ab x'.2.1.length cb) (y2:=.int .i64 x'.2.2.1) (y3:=.slice ad x'.2.2.2.1.length cd) hS' lu;have k9:=((((Kp.trans hK (((Kp.of (P:=W.heap.size+1) hwr hdw).trans (hK'.weak lu)))).set (k:=0) (v:=.slice aa x'.1.length ca)).set (k:=1) (v:=.slice ab x'.2.1.length cb)).set (k:=2) (v:=.int .i64 x'.2.2.1)).set (k:=3) (v:=.slice ad x'.2.2.2.1.length cd);unfold uo at r9 s9;exact⟨⟨n+1,hlt,rfl,by rw[hnext];exact aac,by rw[hnext];exact⟨_,_,_,_,r9,s9⟩,k9⟩,by simp only[intOf];omega⟩
  .have hge':¬((n:Nat):Int)<ls.length:=lu;obtain rfl:n=ls.length:=lu;rw[aH4]at hsz hH;have hbg:=avu hsz lu;obtain⟨va,vl,vd,F,hP,AU⟩:=hH;have hdb:=azP (ls:=ls);have hdg:=ayk (ls:=ls);generalize qg gu ls=x at hsz hbg hP AU hdb hdg;have hPl:=(aHz.1 hP).1;have hq:=(hK.block W.heap.size lu lu).trans hN0;have vs:=azN AU hbg hGr;unfold Oj at vs;obtain⟨⟨d0,d1,d2,d3⟩,z0,z1,z2,z3⟩:=four hP;cases hval:dS x with
   |false=>
    rw[hval]at vs hdb;have hd:=hdb rfl
    go_wp2_with (first
     |(go_at_call 56;refine aHY vs ?_;rintro e w5 ⟨rfl,hb5⟩;have wX:=hlow.trans (hb5.mono hlow.size);have pW:=(hb5.block _ hPl).trans hP;have hq5:=(hb5.block W.heap.size lu).trans hq;clear d0 d1 d2 d3 z0 z1 z2 z3;obtain⟨⟨d0,d1,d2,d3⟩,z0,z1,z2,z3⟩:=four hq5))
    all_goals (try simp only[Exit.inBlock,Exit.then])
    have r9:=yw (y0:=.slice none 0 0) (y1:=.slice none 0 0) (y2:=.int .i64 0) (y3:=.slice none 0 0) hq5;have MR:=uM (y0:=.slice none 0 0) (y1:=.slice none 0 0) (y2:=.int .i64 0) (y3:=.slice none 0 0) wX (aHv _);unfold uo at r9 MR;clear d0 d1 d2 d3 z0 z1 z2 z3;refine aIv (v:=.tuple #[.agg #[.slice none 0 0,.slice none 0 0,.int .i64 0,.slice none 0 0],.bool false]) ?_ rfl aiq;obtain⟨⟨d0,d1,d2,d3⟩,z0,z1,z2,z3⟩:=four r9;rw[aIW rfl]
    go_simp
   |true=>
    rw[hval]at vs hdb;have es:=λw(hs:Sn (W.heap.size+2) w va vl vd x F) hG=>azO hs (Mc hval) hG;unfold Oj at es;cases heq:decide (Sp.enc x=ls)with
    |false=>
     rw[heq]at hdb;have hd:=hdb rfl
     go_wp2_with (first
      |(go_at_call 56;refine aHY vs ?_;rintro e w5 ⟨rfl,hb5⟩;have wX:=hlow.trans (hb5.mono hlow.size);have pW:=(hb5.block _ hPl).trans hP;have hq5:=(hb5.block W.heap.size lu).trans hq;clear d0 d1 d2 d3 z0 z1 z2 z3;obtain⟨⟨d0,d1,d2,d3⟩,z0,z1,z2,z3⟩:=four pW)
      |(go_at_call 53;refine aHY (es w5 (AU.below hb5) (fC hG wX)) ?_;rintro e w6 ⟨v6,rfl,YG,hb6⟩;obtain⟨a6,c6,e6⟩:=oH YG;subst e6;have Uu:=hb5.trans (hb6.mono hb5.size);have wY:=wX.trans (hb6.mono wX.size))
      |(go_at_call 52;refine aHY (avx YG (hv.keep' wY) (fC hG wY)) ?_;rintro e w7 ⟨rfl,hb7⟩;rw[heq];have Uw:=Uu.trans (hb7.mono Uu.size);have aad:=wY.trans (hb7.mono wY.size);have hq7:=(Uw.block W.heap.size lu).trans hq;clear d0 d1 d2 d3 z0 z1 z2 z3;obtain⟨⟨d0,d1,d2,d3⟩,z0,z1,z2,z3⟩:=four hq7))
     all_goals (try simp only[Exit.inBlock,Exit.then])
     have r9:=yw (y0:=.slice none 0 0) (y1:=.slice none 0 0) (y2:=.int .i64 0) (y3:=.slice none 0 0) hq7;have MR:=uM (y0:=.slice none 0 0) (y1:=.slice none 0 0) (y2:=.int .i64 0) (y3:=.slice none 0 0) aad (aHv _);unfold uo at r9 MR;clear d0 d1 d2 d3 z0 z1 z2 z3;refine aIv (v:=.tuple #[.agg #[.slice none 0 0,.slice none 0 0,.int .i64 0,.slice none 0 0],.bool false]) ?_ rfl aiq;obtain⟨⟨d0,d1,d2,d3⟩,z0,z1,z2,z3⟩:=four r9;rw[aIW rfl]
     go_simp
    |true=>
     have hd:=hdg hval heq;obtain⟨aa,ca,rfl⟩:=AU.fa.form;obtain⟨ab,cb,rfl⟩:=AU.fl.form;obtain⟨ad,cd,rfl⟩:=AU.fd.form
     go_wp2_with (first
      |(go_at_call 56;refine aHY vs ?_;rintro e w5 ⟨rfl,hb5⟩;have wX:=hlow.trans (hb5.mono hlow.size);have pW:=(hb5.block _ hPl).trans hP;have hq5:=(hb5.block W.heap.size lu).trans hq;clear d0 d1 d2 d3 z0 z1 z2 z3;obtain⟨⟨d0,d1,d2,d3⟩,z0,z1,z2,z3⟩:=four pW)
      |(go_at_call 53;refine aHY (es w5 (AU.below hb5) (fC hG wX)) ?_;rintro e w6 ⟨v6,rfl,YG,hb6⟩;obtain⟨a6,c6,e6⟩:=oH YG;subst e6;have Uu:=hb5.trans (hb6.mono hb5.size);have wY:=wX.trans (hb6.mono wX.size))
      |(go_at_call 52;refine aHY (avx YG (hv.keep' wY) (fC hG wY)) ?_;rintro e w7 ⟨rfl,hb7⟩;rw[heq];have Uw:=Uu.trans (hb7.mono Uu.size);have aad:=wY.trans (hb7.mono wY.size);have hq7:=(Uw.block W.heap.size lu).trans hq;have hP7:=(Uw.block _ hPl).trans hP;have azI:=AU.below Uw;clear d0 d1 d2 d3 z0 z1 z2 z3;obtain⟨⟨d0,d1,d2,d3⟩,z0,z1,z2,z3⟩:=four hq7;obtain⟨⟨p0,p1,p2,p3⟩,y0,y1,y2,y3⟩:=four hP7))
     all_goals (try simp only[Exit.inBlock,Exit.then])
     have r9:=yw (y0:=.slice aa x.1.length ca) (y1:=.slice ab x.2.1.length cb) (y2:=.int .i64 x.2.2.1) (y3:=.slice ad x.2.2.2.1.length cd) hq7;have MR:=uM (y0:=.slice aa x.1.length ca) (y1:=.slice ab x.2.1.length cb) (y2:=.int .i64 x.2.2.1) (y3:=.slice ad x.2.2.2.1.length cd) aad (aHv _);have hs9:=aoj (y0:=.slice aa x.1.length ca) (y1:=.slice ab x.2.1.length cb) (y2:=.int .i64 x.2.2.1) (y3:=.slice ad x.2.2.2.1.length cd) azI (show W.heap.size<W.heap.size+2 from lu);unfold uo at r9 MR hs9;clear d0 d1 d2 d3 z0 z1 z2 z3;refine aIv (v:=.tuple #[.agg #[.slice aa x.1.length ca,.slice ab x.2.1.length cb,.int .i64 x.2.2.1,.slice ad x.2.2.2.1.length cd],.bool true]) ?_ rfl (by rw[hd];exact as4 lu MR hs9);obtain⟨⟨d0,d1,d2,d3⟩,z0,z1,z2,z3⟩:=four r9;rw[aIW rfl]
     go_simp
theorem Xq:fF prog G DW zB:=by
 intro args p j k S I w n C s d;unfold zB iw zf at n;split at n
 .next x Z=>
  obtain⟨ls,⟨⟩⟩:=x;have K:=Ig Bl args _ I.toList Z d
  match hvs:I.toList,K with
  |[v],K=>
   have r:dw w.heap _ (.sl bF dZ) v ls:=K.1;have T:I=#[v]:=by obtain⟨l⟩:=I;simp at hvs;rw[hvs]
   subst T;have m:=Option.some.inj n;have i:p=Et ls:=(congrArg Prod.fst m).symm;have a:j=⟨[(true,[.plain (.sl aj bC (Sp.dec ls).1.1 false),.plain (.sl ay aJ (Sp.dec ls).1.2.1 false),.plain (.int .i64 (Sp.dec ls).1.2.2.1),.plain (.sl aC aK (Sp.dec ls).1.2.2.2.1 false)]),(false,[.plain (.bool (Sp.dec ls).2)])],none⟩:=(congrArg Prod.snd m).symm;subst i a;refine(azQ ls v w (dw.mono (λb J=>⟨J.1.1,rfl⟩) _ _ _ r) C s).mono ?_;rintro e A ⟨va,vl,vd,rfl,J,H,t,u,z⟩;refine⟨_,λ_=>undef,rfl,J.os,J.tape,J.output,J.size,J.block,?_,(λo x Z=>O6),(λo x q y b Z=>O6)⟩;exact⟨_,rfl,⟨_,rfl,dw.mono (λb J=>⟨⟨⟨J.2,λh=>absurd h (aJC.2 J.1),λo x Z=>O6⟩,λe=>Q7⟩,rfl⟩) _ _ _ t,dw.mono (λb J=>⟨⟨⟨J.2,λh=>absurd h (aJC.2 J.1),λo x Z=>O6⟩,λe=>Q7⟩,rfl⟩) _ _ _ u,⟨rfl,H⟩,dw.mono (λb J=>⟨⟨⟨J.2,λh=>absurd h (aJC.2 J.1),λo x Z=>O6⟩,λe=>Q7⟩,rfl⟩) _ _ _ z,trivial⟩,rfl,trivial⟩
 .cases n
end Go.Proofs.Tryz
namespace Go.Proofs.Tryz
open Go Go.Fw Go.IntWalk Sp
set_option maxRecDepth 100000
theorem ad3:OK Cb.e:=by
 refine aO [BV.e,(DW,.pure zB),uf.e,La.e] ⟨ad4,⟨Xq,Vf⟩,JY,aol,⟨⟩⟩ H0 λs=>show Cb.goal (QJ s) (s,())fromλN C=>?_
 dsimp only[Cb]at C ⊢;have C:fV s:=C;have Q:=avw C;dsimp only[QJ];rw[show(1:Int).toNat=1 from rfl,show(0:Int).toNat=0 from rfl];have f:(uh s).length=(Sp.pieces 10 s).length-1:=by unfold uh;rw[aHP];omega
 refine⟨lu,af (λh=>?_) λh=>?_⟩
 .have h:((uh s).length:Int)=0:=y7;unfold aW;rw[aHD lu];rfl
 have h:¬((uh s).length:Int)=0:=y7;have O:2<=(Sp.pieces 10 s).length:=lu;have e:List.drop 1 (List.take (uh s).length (uh s))=Sp.inner (Sp.pieces 10 s):=by rw[aH4];rfl
 have d:(uh s).getD 0 ([],())=(Sp.pieces 10 s).getD 0 ([],()):=by unfold uh;rw[aHI,aHI,aIU lu]
 have g:aW s=bif (Sp.dec (Sp.inner (Sp.pieces 10 s))).2&&decide (Sp.slot (Sp.parseNum ((Sp.pieces 10 s).getD 0 ([],())).1) (Sp.dec (Sp.inner (Sp.pieces 10 s))).1=s)then(Sp.parseNum ((Sp.pieces 10 s).getD 0 ([],())).1,(Sp.dec (Sp.inner (Sp.pieces 10 s))).1,true)else(0,gu,false):=by unfold aW;rw[aHF O];rfl
 rw[e,d,g];refine⟨⟨lZ,lu⟩,trivial,⟨lZ,lu⟩,aqf C,af (λb=>?_) λb=>⟨aqg _,af (λa=>?_) λa=>?_⟩⟩
 .rw[dD b];rfl
 .have a:(Sp.slot (Sp.parseNum ((Sp.pieces 10 s).getD 0 ([],())).1) (Sp.dec (Sp.inner (Sp.pieces 10 s))).1==s)=false:=dD a;rw[aHD (aHt.1 a),aH8];rfl
 .have a:(Sp.slot (Sp.parseNum ((Sp.pieces 10 s).getD 0 ([],())).1) (Sp.dec (Sp.inner (Sp.pieces 10 s))).1==s)=true:=bI a;rw[aHF (aHE.1 a),bI b];rfl
theorem af9:OK Eu.e:=by
 refine aO [Cb.e] ⟨ad3,⟨⟩⟩ H0 λa b=>show Eu.goal (aga a b) ((a,b,()),())fromλN C=>?_
 dsimp only[Eu]at C ⊢;obtain⟨e,J⟩:fV a/\fV b:=C;refine⟨e,J,?_⟩;dsimp only;rw[← auQ];generalize aW a=u;generalize aW b=v;obtain⟨n,x,g⟩:=u;obtain⟨m,y,d⟩:=v;dsimp only;cases g with
 |false=>rfl
 |true=>
  cases d with
  |false=>rfl
  |true=>cases f:decide (n>=m)<;>rfl
theorem Xr:OK vG.e:=by
 refine aO [Eu.e] ⟨af9,⟨⟩⟩ H0 λa b=>show vG.goal (Xt a b) ((a,b,()),())fromλN C=>?_
 dsimp only[vG]at C ⊢;exact⟨C,rfl⟩
end Go.Proofs.Tryz
namespace Go.Proofs.Tryz
open Go Go.Fw Go.RowKit Go.Sort Sp
abbrev PK:Int->Value:=Value.int .i64
def LK(l:List Int):List Int:=l.mergeSort λx y=>decide (x<=y)
def intsOf(l:List (Int×Unit)):List Int:=l.map (·.1)
theorem ad6(b:List Int)(s:Int):s∈Lib.compact b↔s∈b:=by
 have a:∀i(h:i<b.length),b.toArray[i]! =b[i]:=λi h=>by rw[getElem!_pos _ i y7];simp
 unfold Lib.compact Lib.compactUpTo;simp only[aIo,aIT,aIL];constructor
 .rintro⟨i,⟨D,_⟩,rfl⟩;rw[a i D];exact aJs D
 .intro hs;obtain⟨i,D,e⟩:=aIf hs;have d:∀i(D:i<b.length),∃j,(j<b.length/\Lib.keeps b.toArray j=true)/\b.toArray[j]! =b[i]:=by
   intro i
   induction i with
   |zero=>exactλD=>⟨0,⟨D,Lib.keeps_lt_one _ 0 lu⟩,a 0 D⟩
   |succ i ih=>
    intro D;by_cases h:b.toArray[i+1]! =b.toArray[i+1-1]!
    .obtain⟨j,h1,h2⟩:=ih lu;refine⟨j,h1,?_⟩;rw[h2,← a (i+1) D,h,aJy,a i lu]
    .exact⟨i+1,⟨D,Lib.keeps_pos h⟩,a (i+1) D⟩
  rw[← e];exact d i D
variable {zs:List Int}
theorem atd(h:zs.Pairwise λx y=>x<=y):(Lib.compact zs).Pairwise λx y=>x<y:=by
 have a:∀i(h:i<zs.length),zs.toArray[i]! =zs[i]:=λi h=>by rw[getElem!_pos _ i y7];simp
 have le:∀i j(D:i<=j)(b:j<zs.length),zs[i]' lu <=zs[j]:=λi j D b=>by
  rcases aHU i j with Q|Q
  .exact aJw.1 h i j lu b Q
  .have:i=j:=lu;subst this;exact aIe _
 unfold Lib.compact Lib.compactUpTo;rw[aJi];refine List.Pairwise.imp_of_mem (R:=λi j=>i<j) ?_ (List.Pairwise.filter _ List.pairwise_lt_range);intro i j D b d;rw[aIT,aIL]at D b;rw[a i D.1,a j b.1];have u:zs.toArray[j]! ≠zs.toArray[j-1]! :=by
  have:=b.2;intro e;have:¬(Lib.keeps zs.toArray j=true):=by rw[Lib.keeps_neg lu e];decide
  exact this b.2
 rw[a j b.1,a (j-1) lu]at u;have E:=le i (j-1) lu lu;have O:=le (j-1) j lu b.1;omega
theorem ate(l:List Int):(LK l).Pairwise λx y=>x<=y:=by have:=List.pairwise_mergeSort (le:=λx y:Int=>decide (x<=y)) (λa b c E O=>by simp only[aHM]at*;omega) (λa b=>by simp only[aIS,aHM];omega) l;exact this.imp λh=>aIt h
theorem aCI(a x y:List (Int×Unit)):(Lib.compact (LK (intsOf (Sp.without a y++x)))).map (λn=>(n,()))=rC a x y:=by
 obtain⟨E,O⟩:=abS (a:=a) (x:=x) (y:=y);refine avy ?_ E λz=>?_
 .unfold ad7;rw[aJi];exact atd (ate _)
 .obtain⟨z,⟨⟩⟩:=z;rw[O,aIo];have:(∃n,n∈Lib.compact (LK (intsOf (Sp.without a y++x)))/\(n,())=(z,()))↔(z,())∈Sp.without a y++x:=by
   constructor
   .rintro⟨n,hn,e⟩;obtain rfl:n=z:=congrArg Prod.fst e;rw[ad6]at hn;unfold LK at hn;rw[aJY]at hn;obtain⟨⟨u,⟨⟩⟩,b,rfl⟩:=aIo.1 hn;exact b
   .intro hz;refine⟨z,?_,rfl⟩;rw[ad6];unfold LK;rw[aJY];exact aIo.2 ⟨_,hz,rfl⟩
  rw[this,aH3];unfold Sp.without;rw[aIT];simp only[aJh];exact Or.comm
variable {w:World}
theorem wpList_append_run{P:Program}{w':World}{ops:Array Oper}{e:List Oper}{o:Oper}{a:Act}{Q:Exit->Act->World->Prop}(f:o.guard=none)(s x:Operand)(t:TypeId)
 (F:o.op=.call {callee:=.builtin .append,args:=#[s,x],argTypes:=#[t,t]}) {v d u:Value} (X:a.eval s=v) (Z:a.eval x=d)
 (b:(Builtin.append_ #[t,t] o.type #[v,d]).run P w=.ok u w') (h:wpList P ops Q e (a.put o.dst u) w'):wpList P ops Q (o::e) a w:=by
 refine wpList_plain f λK g=>?_;unfold Oper.wp;simp[execOp,F,resolve,invoke,builtin,X,Z,b,Result.andThen];exact g _ _ h
variable {B:Nat}{xs:List Value}
theorem ayp{e z n:Nat}{v:Value}(h:w.ownsRow 0 e z v n xs)(J:∀g,v.ownBlock=some g->B<=g):w.ownsRow B e z v n xs:=by
 refine⟨h.1,?_⟩;rcases h.2 with O|⟨g,y,R,a,_,U⟩
 .exact .inl O
 .exact .inr ⟨g,y,R,a,J g (by rw[a];rfl),U⟩
theorem aCJ{e z n:Nat}{v:Value}(h:w.ownsRow B e z v n xs):w.ownsRow 0 e z v n xs/\∀g,v.ownBlock=some g->B<=g:=by
 rcases h.2 with O|⟨g,y,R,a,O,U⟩
 .exact⟨⟨h.1,.inl O⟩,λg d=>by rw[O.1]at d;cases d⟩
 .exact⟨⟨h.1,.inr ⟨g,y,R,a,aHV _,U⟩⟩,λk u=>by rw[a]at u;cases u;exact O⟩
theorem aqi{h:Array Obj}{F:Nat->Prop}{l:List (Int×Unit)}(Q:xs.length=l.length)(Z:∀i x,l[i]? =some x->aY h F bZ ((xs.drop (i*1)).take 1) x):xs=(intsOf l).map PK:=by
 refine aIF λi=>?_;rcases aHU i l.length with D|D
 .obtain⟨u,us,e1,⟨e2,_⟩,_⟩:=Z i l[i] (aHK D);have S:((xs.drop (i*1)).take 1)[0]? =some u:=by rw[e1];rfl
  rw[aIU lu,aIp,aIZ,aJn]at S;rw[S,e2];unfold intsOf;rw[aId,aId,aHK D];rfl
 .rw[aIN lu,aIN (by unfold intsOf;rw[aHL,aHL];exact D)]
def IntsIn(w:World)(v:Value)(l:List (Int×Unit)):Prop:=dw w.heap (λb=>b<w.heap.size) (.sl aN bZ) v l
theorem YJ(u v:SV)(q:Nat):gQ [.sv u,.sv v] q=none:=by unfold gQ;rcases q / 64 with _|_|n<;>rfl
theorem aBF(q:Nat):rM [Eff.lose,Eff.lose] q=none:=by unfold rM;rcases q / 64 with _|_|n<;>rfl
theorem aBG{s u:Value}{a b:List (Int×Unit)}(S:IntsIn w s a)(O:IntsIn w u b)(Q:a.length<=10000000)(A:G.ok w):
 Calls prog 81 #[s,u] w λe k=>∃v,e=.returned v/\k.ownsRow w.heap.size 3 1 v (Sp.without a b).length ((intsOf (Sp.without a b)).map PK)/\Below w.heap.size w k:=by
 have n:rP prog G 81 (JQ tZ.sh tZ.dF tZ.F):=Wj.1;have j:∀{v l},IntsIn w v l->aX ⟨w,w.heap.size,λ_=>True,λ_=>undef,gQ [.sv (.one (.sl aN bZ a false)),.sv (.one (.sl aN bZ b false))]⟩ (.sl aN bZ l false) v:=λh=>
  dw.mono (S':=V.dA ⟨w,w.heap.size,λ_=>True,λ_=>undef,gQ [.sv (.one (.sl aN bZ a false)),.sv (.one (.sl aN bZ b false))]⟩ false) (h':=w.heap) (λb J=>⟨⟨⟨J,λ_=>trivial,λo x Z=>by have:=(YJ _ _ o).symm.trans Z;cases this⟩,λe=>Q7⟩,rfl⟩) _ _ _ h
 refine((n [.sv (.one (.sl aN bZ a false)),.sv (.one (.sl aN bZ b false))] (a.length<=10000000) _ rfl Q).2 0 (λ_=>True) (λ_=>undef) #[s,u] w A ⟨j S,j O,trivial⟩ ?_ ?_ ?_).mono ?_
 .exactλo x h=>by rw[YJ]at h;cases h
 .exactλo x q y b h=>by rw[YJ]at h;cases h
 .exactλt _ o x _=>aBF o
 rintro e k ⟨⟨⟨r,⟨⟩⟩,⟨⟩⟩,W,v,f,rfl,C,D,E,H,I,L,M,_,_⟩;have W:r=Sp.without a b:=W;subst W;have K:v=f 0:=L.2.1;obtain⟨⟨xs,i,_,_,N⟩,P⟩:=M 0 (.arr aN bZ (Sp.without a b) false) rfl;subst K;have Y:xs.length=(Sp.without a b).length:=by rw[i.1];exact aIZ _
 have i:k.ownsRow 0 3 1 (f 0) (Sp.without a b).length xs:=i;rw[aqi Y N]at i;refine⟨_,rfl,ayp i λg d=>?_,C,D,E,H,λb J=>I b J λ⟨o,x,F,_⟩=>by rw[YJ]at F;cases F⟩;have J:blk (f 0)=some g:=by
  rw[← d];rcases i.2 with⟨m,_⟩|⟨T,z,R,m,_⟩
  .rw[m];rfl
  .rw[m];rfl
 rcases(P g J).2.1 with h|⟨o,x,F,_⟩
 .exact h
 .rw[YJ]at F;cases F
theorem azY{v i:Value}{l f:List (Int×Unit)}(r:B<=w.heap.size)(d:w.ownsRow B 3 1 v l.length ((intsOf l).map PK))(X:IntsIn w i f)(a:l.length+f.length<=big)(ty:TypeId):
 ∃u j,(Builtin.append_ #[34,34] ty #[v,i]).run prog w=.ok u j/\j.ownsRow B 3 1 u (l++f).length ((intsOf (l++f)).map PK)/\Below B w j:=by
 obtain⟨q,n⟩:=aCJ d;obtain⟨u,j,o,s,k,x,y,z⟩:=NP (P:=prog) (w:=w) (t:=34) (ty:=ty) (e:=3) (ZK Rf 34 _ rfl) rfl (ZK Rf 3 _ rfl) lZ q (F:=λb=>b<w.heap.size) X a;have m:o.length=f.length:=by have:=k.1;rw[aHu,aHL]at this;unfold intsOf at this;rw[aHL]at this;have this:l.length+o.length=(l.length+f.length)*1:=this;omega
 have H:=aqi m y;rw[H]at k;refine⟨u,j,s,ayp ?_ ?_,(Below.refl B w).grown x r n⟩
 .rw[aHu];unfold intsOf at k ⊢;rw[aIk,aIk];exact k
 .intro g hg;rcases z g hg with h|h
  .exact n g h
  .omega
theorem ayq{v:Value}(i:B<=w.heap.size)(a:w.ownsRow B 3 1 v zs.length (zs.map PK))(H:zs.length<=4000000000):
 Calls prog 187 #[v] w λe b=>e=.returned (.tuple #[])/\b.ownsRow B 3 1 v (LK zs).length ((LK zs).map PK)/\Below B w b:=by
 rcases a.2 with⟨h,T⟩|⟨g,y,R,h,O,U,j,M,f,d⟩
 .obtain rfl:zs=[]:=aH0.1 T;subst h;refine(Tryz.slices_Sort_int_none none 0 w).mono ?_;rintro e b ⟨rfl,rfl⟩;exact⟨rfl,by unfold LK;rw[List.mergeSort_nil];exact a,Below.refl _ _⟩
 .subst h;rw[aIZ]at d;have l:=holds_of_blockI U d;refine(Tryz.slices_Sort_int g 0 y zs w l (aHz.1 U).1 lu).mono ?_;rintro e b ⟨rfl,n,m,rfl⟩;have Q:(LK zs).length=zs.length:=aI2 zs;refine⟨rfl,?_,(Below.refl B w).grown (grownBy_sortedI _) i λk u=>by cases u;exact O⟩;rw[Q];exact ownsRow_sortedI Q O U j M f
theorem atf{v:Value}(n:B<=w.heap.size)(a:w.ownsRow B 3 1 v zs.length (zs.map PK))(H:zs.length<=4000000000):
 Calls prog 188 #[v] w λe b=>∃f,e=.returned f/\b.ownsRow B 3 1 f (Lib.compact zs).length ((Lib.compact zs).map PK)/\Below B w b:=by
 rcases id a.2 with⟨h,T⟩|⟨g,y,R,h,O,U,j,M,m,d⟩
 .obtain rfl:zs=[]:=aH0.1 T;subst h;refine(Tryz.slices_Compact_int_empty none 0 w).mono ?_;rintro e b ⟨rfl,rfl⟩;exact⟨_,rfl,a,Below.refl _ _⟩
 .subst h;rw[aIZ]at d;have i:=holds_of_blockI U d;refine(Tryz.slices_Compact_int g 0 y zs w i lu j).mono ?_;rintro e b ⟨rfl,q,rfl⟩;have l:=Lib.compact_length_le zs;have L:=Lib.ownsRow_putRow (q:=q) (k:=(Lib.compact zs).length) (ys:=Lib.compact zs++List.replicate (zs.length-(Lib.compact zs).length) 0) a KW lu;rw[aKh]at L;exact⟨_,rfl,L,Lib.below_putRow (Below.refl B w) O⟩
set_option maxHeartbeats 2000000 in
set_option maxRecDepth 100000 in
theorem aq4{v0 v1 v2:Value}{a x y:List (Int×Unit)}(h0:IntsIn w v0 a)(h1:IntsIn w v1 x)(h2:IntsIn w v2 y)(hl:a.length+x.length<=8000000)(hG:G.ok w):
 Calls prog 129 #[v0,v1,v2] w λe w'=>∃v,e=.returned v/\w'.ownsRow w.heap.size 3 1 v (rC a x y).length ((intsOf (rC a x y)).map PK)/\Below w.heap.size w w':=by
 have mixed:=Tryz.mixed;have hw:=aBG h0 h2 lu hG;have hp:(Lib.compact (LK (intsOf (Sp.without a y++x))))=intsOf (rC a x y):=by rw[← aCI a x y];unfold intsOf;rw[aIR];exact(aJu _).symm
 have hpl:(Lib.compact (LK (intsOf (Sp.without a y++x)))).length=(rC a x y).length:=by rw[hp];unfold intsOf;rw[aHL]
 have hwl:(Sp.without a y).length<=a.length:=aIq _ _;have hil:(intsOf (Sp.without a y++x)).length=(Sp.without a y++x).length:=by unfold intsOf;rw[aHL]
 have hsl:(LK (intsOf (Sp.without a y++x))).length=(intsOf (Sp.without a y++x)).length:=aI2 _;have hla:(Sp.without a y++x).length<=8000000:=by rw[aHu];omega
 have hbig:(Sp.without a y).length+x.length<=big:=by unfold big;omega
 rw[← hp,← hpl];clear hp hpl h0 h2 hG;generalize Sp.without a y=l at*
 go_enter Tryz.func129,Tryz.ntmps129
 go_wp2_with (first
  |(go_at_call 81;refine hw.mono ?_;rintro e w1 ⟨u,rfl,hown,hbel⟩
    have h1:IntsIn w1 v1 x:=dw.mono (S':=λb=>b<w1.heap.size) (λb hb=>⟨aHR hb hbel.size,hbel.block b hb⟩) _ _ _ h1;have happ:=azY (ty:=34) hbel.size hown h1 hbig;obtain⟨u2,w2,hrun,hown2,hb2⟩:=happ;have aA0:=hbel.trans hb2;clear hown hb2 hbel;rw[← hil]at hown2;have hsort:=ayq (B:=w.heap.size) aA0.size hown2 lu)
  |(at_builtin;refine wpList_append_run rfl _ _ 34 rfl rfl rfl hrun ?_)
  |(go_at_call 187;refine hsort.mono ?_;rintro e w3 ⟨rfl,hown3,hb3⟩
    have aA1:=aA0.trans hb3;have hcomp:=atf (B:=w.heap.size) aA1.size hown3 lu;clear hown3 hb3)
  |(go_at_call 188;refine hcomp.mono ?_;rintro e w4 ⟨u4,rfl,hown4,hb4⟩))
 go_ret
 exact⟨_,rfl,hown4,aA1.trans hb4⟩
theorem alf{v:Value}{l:List (Int×Unit)}(h:IntsIn w v l):∀z∈l,IntKind.i64.min<=z.1/\z.1<=IntKind.i64.max:=by
 rcases h.2 with⟨rfl,_⟩|⟨b,m,y,A,t,e,_,_,_,_,Z⟩
 .exactλz a=>by cases a
 .intro z a;obtain⟨i,D,rfl⟩:=aIf a;obtain⟨u,s,_,⟨_,T,d⟩,_⟩:=Z i l[i] (aHK D);exact⟨T,d⟩
theorem azZ{w':World}{S:Nat->Prop}{k:Nat->Value}{v:Value}{l:List (Int×Unit)}(a:w'.ownsRow w.heap.size 3 1 v l.length ((intsOf l).map PK))(W:∀z∈l,IntKind.i64.min<=z.1/\z.1<=IntKind.i64.max):
 aX ⟨w',w.heap.size,S,k,λ_=>none⟩ (.sl 3 bZ l true) v:=by
 rcases a.2 with⟨b,T⟩|⟨g,y,R,b,O,U,j,M,m,f⟩
 .exact⟨by rw[T];exact aHV _,.inl ⟨aH0.1 T,none,0,b⟩⟩
 .have hlt:=(aHz.1 U).1;refine⟨lu,.inr ⟨g,0,y,R,3,(0,0),b,j,⟨⟨hlt,λh=>absurd (show g<w.heap.size from h) lu,(λo x Z=>O6)⟩,λ_=>⟨O,afu a (by rw[b];rfl)⟩⟩,U,λi x Z=>?_⟩⟩;have D:=(aHN.1 Z).1;have L:R.toList[i]? =some (PK x.1):=by
   have:(R.toList.take (l.length*1))[i]? =((intsOf l).map PK)[i]? :=by rw[f]
   rw[aIU lu]at this;unfold intsOf at this;rw[aId,aId,Z]at this;exact this
  obtain⟨d,e⟩:=aHN.1 L;show aY _ _ (.cons (.int .i64) .nil) ((R.toList.drop (0+i*1)).take 1) x;rw[aIn,aIZ,aI6 d,e];exact⟨PK x.1,[],rfl,⟨rfl,W x (aH5 Z)⟩,rfl⟩
theorem aiQ:fF prog G Og JV:=by
 intro args p H k S I w n C A i;unfold JV iw zf at n;split at n
 .next t Z=>
  revert t;show∀t:List (Int×Unit)×List (Int×Unit)×List (Int×Unit)×Unit,_;rintro⟨a,x,y,⟨⟩⟩ Z n;have r:=Option.some.inj n;have K:=Ig LX args _ I.toList Z i;have m:(a.length+x.length<=8000000)=p:=congrArg Prod.fst r;have F:=congrArg Prod.snd r;subst F;have Q:a.length+x.length<=8000000:=by rw[m];exact C
  match hvs:I.toList,K with
  |[v0,v1,v2],K=>
   have j:I=#[v0,v1,v2]:=by obtain⟨N⟩:=I;simp at hvs;rw[hvs]
   subst j;have f:∀{v l},dw w.heap (V.dA ⟨w,w.heap.size,S,λ_=>undef,λ_=>none⟩ false) (.sl aN bZ) v l->IntsIn w v l:=λh=>dw.mono (S':=λb=>b<w.heap.size) (λb J=>⟨J.1.1,rfl⟩) _ _ _ h;have s:IntsIn w v0 a:=f K.1;have u:IntsIn w v1 x:=f K.2.1;have E:IntsIn w v2 y:=f K.2.2.1;have L:=alf s;have M:=alf u;refine(aq4 s u E Q A).mono ?_;rintro e O ⟨v,rfl,g,d⟩;refine⟨v,λ_=>undef,rfl,d.os,d.tape,d.output,d.size,λb J=>d.block b J,azZ g λz D=>?_,(λo x Z=>O6),(λo x q y b Z=>O6)⟩;rcases(abS.2 z).1 D with h|h
   .exact M z h
   .exact L z h.1
 .cases n
end Go.Proofs.Tryz
