import Derived.Deep.AppendLies
import Derived.Deep.RegionLaw
import Derived.BigRegion
import Derived.Test.YtflpicdbkomglaaGreatDoorP1
namespace Go.Proofs.Tryz
open Go Go.Fw Go.RowKit Sp
theorem aA{w:World}{g:Nat}{cur:Array Value}{t:TypeId}{fz:Nat×Nat}(h:w.heap[g]? =some (.cells cur t fz))(k:Nat):w.cell? ⟨g,k,none⟩=cur[k]? :=by simp[World.cell?,h]
theorem aX{w:World}{g:Nat}{cur:Array Value}{t:TypeId}(h:w.heap[g]? =some (.cells cur t (0,0)))(k:Nat):w.frozen? ⟨g,k,none⟩=false:=by simp[World.frozen?,h]
theorem dM{w:World}{g:Nat}{cur:Array Value}{t:TypeId}{fz:Nat×Nat}(h:w.heap[g]? =some (.cells cur t fz))(k:Nat)(v:Value):(w.setCell ⟨g,k,none⟩ v).heap[g]? =some (.cells (cur.setIfInBounds k v) t fz):=by simp only[World.setCell,ap5,if_pos,h];rfl
theorem mO{w:World}{p:Addr}{b:Nat}(v:Value)(h:b≠p.block):(w.setCell p v).heap[b]? =w.heap[b]? :=by simp only[World.setCell,ap5,if_neg (apa h)]
def FW(B:Nat)(W:World)(v:Value)(f:Sp.LS):Prop:=bW W.heap (λb=>b<B) (.sl eF gm) v f
structure Step(W w':World)(P:Nat)(own:Option Nat):Prop where
 os:w'.os=W.os
 tape:w'.tape=W.tape
 output:w'.output=W.output
 size:W.heap.size<=w'.heap.size
 block:∀b,b<W.heap.size->b≠P->own≠some b->w'.heap[b]? =W.heap[b]?
theorem FW.keep{B:Nat}{W w':World}{v:Value}{f:Sp.LS}(h:FW B W v f)(hk:∀b,b<B->w'.heap[b]? =W.heap[b]?):FW B w' v f:=by
 refine⟨h.1,?_⟩;rcases h.2 with h2|⟨b,off,cap,cs,t,fz,h1,h2,h3,h4,h5⟩
 .exact .inl h2
 .exact .inr ⟨b,off,cap,cs,t,fz,h1,h2,h3,(hk b h3).trans h4,λi x hx=>aU.flat (S:=λb=>b<B) _ _ _ rfl (h5 i x hx)⟩
set_option maxHeartbeats 4000000 in
set_option maxRecDepth 100000 in
theorem wJ(B P:Nat)(W:World)(vf vn:Value)(f:Sp.LS)(Dv:B<=P)(hP:W.heap[P]? =some (.cells #[vf,vn] 150 (0,0)))(hf:FW B W vf f):
 Calls prog 175 #[.pointer (some ⟨P,0,none⟩)] W λe w'=>e=.returned (.string ⟨(Sp.wordAt f 0).toArray⟩)/\∃FZ,FW B w' FZ (f.drop 1)/\w'.heap[P]? =some (.cells #[FZ,vn] 150 (0,0))/\Step W w' P none:=by
 have mixed:=Tryz.mixed;have c0:W.cell? ⟨P,0,none⟩=some vf:=aA hP 0;have z0:W.frozen? ⟨P,0,none⟩=false:=aX hP 0;obtain⟨hml,hcase⟩:=id hf;rcases hcase with⟨e1,a,c,rfl⟩|⟨b,off,cap,cs,t,fz,rfl,hcap,hb,hbl,hx⟩
 .subst e1
  go_enter Tryz.func175,Tryz.ntmps175
  go_wp2
  go_ret
  exact⟨rfl,_,hf,hP,rfl,rfl,rfl,anr _,λ_ _ _ _=>rfl⟩
 .cases f with
  |nil=>
   go_enter Tryz.func175,Tryz.ntmps175
   go_wp2
   go_ret
   exact⟨rfl,_,hf,hP,rfl,rfl,rfl,anr _,λ_ _ _ _=>rfl⟩
  |cons x r=>
   have hx0:=hx 0 x rfl;obtain⟨u,us,e1,⟨e2,_⟩,_⟩:=hx0;have cx:W.cell? ⟨b,off,none⟩=some (.string ⟨x.1.toArray⟩):=by rw[aA hbl,← e2];have h0:=congrArg (λl=>l[0]?) e1;have h0:((cs.toList.drop (off+0*1)).take 1)[0]? =some u:=h0;simpa[an3,anZ]using h0
   have hl:(x::r).length=r.length+1:=rfl;rw[hl]at hcap c0 hml;have hrl:¬((r.length+1:Nat):Int)=0:=by omega
   have hw:Sp.wordAt (x::r) 0=x.1:=dO x r;rw[hw];have hr:FW B W (.slice (if cap=1 then some ⟨b,off,none⟩else some ⟨b,off+1,none⟩) r.length (cap-1)) r:=by
    refine⟨by have:=hml;omega,?_⟩;by_cases h1:cap=1
    .have hr0:r=[]:=anV.1 (by omega);subst hr0;exact .inl ⟨rfl,_,_,rfl⟩
    .rw[if_neg h1];refine .inr ⟨b,off+1,cap-1,cs,t,fz,rfl,by omega,hb,hbl,λi y hy=>?_⟩;have:=hx (i+1) y (by simpa using hy);rw[show off+1+i*gm.len=off+(i+1)*gm.len by show off+1+i*1=off+(i+1)*1;omega];exact this
   generalize r.length=n at*
   go_enter Tryz.func175,Tryz.ntmps175
   go_wp2
   all_goals go_ret
   all_goals refine⟨rfl,_,FW.keep (W:=W) ?_ λb' hb'=>mO _ (show b'≠P by omega),dM hP 0 _,rfl,rfl,rfl,by simp[World.setCell],λb' _ hb' _=>mO _ hb'⟩
   .rw[if_pos h,show cap-1=0 by omega]at hr;exact hr
   .rw[if_neg h]at hr;exact hr
theorem ail(op:Int)(h:-9223372036854775808<=op/\op<=9223372036854775807)(w:World)(hG:G.ok w):Calls prog 163 #[.int .i64 op] w λe w'=>e=.returned (.string ⟨(dZ op).toArray⟩)/\Below w.heap.size w w':=by have hc:gW prog G 163 (iM jR.sh jR.bU jR.F):=FX.1;refine(hc [.sv (.one (.int .i64 op))] True ⟨[(false,[.plain (.str (dZ op))])],none⟩ 0 (λ_=>True) #[.int .i64 op] w rfl trivial hG ⟨⟨rfl,h⟩,trivial⟩).mono ?_;rintro e w' ⟨v,vals,rfl,h1,h2,h3,h4,h5,h6,_,_⟩;have h6:v=.string ⟨(dZ op).toArray⟩/\(dZ op).length<=maxLen:=h6;exact⟨by rw[h6.1],h1,h2,h3,h4,h5⟩
theorem adM(s:List UInt8)(hs:s.length<=1048576)(w:World)(hG:G.ok w):Calls prog 132 #[.string ⟨s.toArray⟩] w λe w'=>
 e=.returned (.tuple #[.agg #[.int .i64 (aW s).1.1,.int .i64 (aW s).1.2.1,.string ⟨(aW s).1.2.2.1.toArray⟩],.bool (aW s).2])/\Below w.heap.size w w'/\
  (-9223372036854775808<=(aW s).1.1/\(aW s).1.1<=9223372036854775807)/\(-9223372036854775808<=(aW s).1.2.1/\(aW s).1.2.1<=9223372036854775807)/\(aW s).1.2.2.1.length<=maxLen:=by
 have hc:gW prog G 132 (iM kN.sh kN.bU kN.F):=Fe.1;refine(hc [.sv (.one (.str s))] (s.length<=1048576) _ 0 (λ_=>True) #[.string ⟨s.toArray⟩] w rfl hs hG ⟨⟨rfl,by rw[maxLen_eq];omega⟩,trivial⟩).mono ?_;rintro e w' ⟨v,vals,rfl,h1,h2,h3,h4,h5,h6,_,_⟩;obtain⟨vs,rfl,h7⟩:=h6;obtain⟨l⟩:=vs
 match l,h7 with
 |[a,b],h7=>
  obtain⟨⟨us,ea,h8⟩,h9,_⟩:=h7;obtain⟨ul⟩:=us
  match ul,h8 with
  |[x,y,z],h8=>obtain⟨x1,y1,z1,_⟩:=h8;have h9:b=.bool (aW s).2:=h9;rw[ea,h9,x1.1,y1.1,z1.1];exact⟨rfl,⟨h1,h2,h3,h4,h5⟩,x1.2,y1.2,z1.2⟩
def NW(B P:Nat)(W:World)(v:Value)(q:List aC):Prop:=
 ∃xs,W.ownsRow B 125 7 v q.length xs/\v.ownBlock≠some P/\∀i x,q[i]? =some x->aU #[] (λ_=>False) bY ((xs.drop (i*7)).take 7) x
def bF(op l r:Int)(s:List UInt8)(k n:Int)(t:List UInt8):Array Value:=#[.int .i64 op,.int .i64 l,.int .i64 r,.string ⟨s.toArray⟩,.int .i64 k,.int .i64 n,.string ⟨t.toArray⟩]
theorem NY{W w':World}{base size n:Nat}{e:TypeId}{v:Value}{xs:List Value}(h:W.ownsRow base e size v n xs)(hk:∀g,v.ownBlock=some g->w'.heap[g]? =W.heap[g]?):w'.ownsRow base e size v n xs:=by
 refine⟨h.1,?_⟩;rcases h.2 with h2|⟨g,cap,cur,rfl,h3,h4,h5⟩
 .exact .inl h2
 .exact .inr ⟨g,cap,cur,rfl,h3,(hk g rfl).trans h4,h5⟩
theorem sZ:(prog.info? 125).map (λi=>(i.zero,i.size,i.bytes))=some (some (.agg (bF 0 0 0 [] 0 0 [])),7,72):=by kernel_rfl
theorem nV(op l r:Int)(s:List UInt8)(k n:Int)(t:List UInt8):∀u∈(bF op l r s k n t).toList,u.oneCell'=true:=by intro u hu;simp[bF]at hu;rcases hu with rfl|rfl|rfl|rfl|rfl|rfl|rfl<;>rfl
def yI(n:Int):Prop:=-9223372036854775808<=n/\n<=9223372036854775807
theorem qf{op l r:Int}{s:List UInt8}{k n:Int}{t:List UInt8}(h1:yI op)(h2:yI l)(h3:yI r)(h4:s.length<=maxLen)(h5:yI k)(h6:yI n)(h7:t.length<=maxLen):
 aU #[] (λ_=>False) bY (bF op l r s k n t).toList (op,l,r,s,k,n,t,()):=
 ⟨_,_,rfl,⟨rfl,h1⟩,_,_,rfl,⟨rfl,h2⟩,_,_,rfl,⟨rfl,h3⟩,_,_,rfl,⟨rfl,h4⟩,_,_,rfl,⟨rfl,h5⟩,_,_,rfl,⟨rfl,h6⟩,_,_,rfl,⟨rfl,h7⟩,rfl⟩
structure Fh(B P N:Nat)(W:World)(abM:Option Nat)(w:World)(vf vn:Value)(f:Sp.LS)(q:List aC):Prop where
 gl:G.ok w
 cells:w.heap[P]? =some (.cells #[vf,vn] 150 (0,0))
 words:FW B w vf f
 nodes:NW B P w vn q
 step:Step W w P abM
 fresh:∀g,vn.ownBlock=some g->abM=some g\/W.heap.size<=g
 YE:vn.ownBlock≠some N
 old:W.heap.size<=N
 lt:N<w.heap.size
 low:8<=B/\B<=P/\P<W.heap.size
def Done(B P:Nat)(W:World)(abM:Option Nat)(f:Sp.LS)(q:List aC)(w:World):Prop:=
 ∃vf vn,w.heap[P]? =some (.cells #[vf,vn] 150 (0,0))/\FW B w vf f/\NW B P w vn q/\Step W w P abM/\∀g,vn.ownBlock=some g->abM=some g\/W.heap.size<=g
theorem Step.refl(w:World)(P:Nat)(own:Option Nat):Step w w P own:=⟨rfl,rfl,rfl,anr _,λ_ _ _ _=>rfl⟩
theorem Step.trans{a b c:World}{P:Nat}{o o':Option Nat}(h:Step a b P o)(k:Step b c P o')(hf:∀g,o'=some g->o=some g\/a.heap.size<=g):Step a c P o:=
 ⟨k.os.trans h.os,k.tape.trans h.tape,k.output.trans h.output,anx h.size k.size,λx hx hP ho=>(k.block x (anE hx h.size) hP λe=>by
   rcases hf x e with h1|h1
   .exact ho h1
   .omega).trans (h.block x hx hP ho)⟩
theorem Step.below{a b c:World}{P:Nat}{o:Option Nat}(h:Step a b P o)(k:Below b.heap.size b c):Step a c P o:=
 ⟨k.os.trans h.os,k.tape.trans h.tape,k.output.trans h.output,anx h.size k.size,λx hx hP ho=>(k.block x (anE hx h.size)).trans (h.block x hx hP ho)⟩
theorem NW.keep{B P:Nat}{w w':World}{v:Value}{q:List aC}(h:NW B P w v q)(hk:∀g,v.ownBlock=some g->w'.heap[g]? =w.heap[g]?):NW B P w' v q:=by obtain⟨xs,h1,h2,h3⟩:=h;exact⟨xs,NY h1 hk,h2,h3⟩
theorem NW.lt{B P:Nat}{w:World}{v:Value}{q:List aC}(h:NW B P w v q){g:Nat}(hg:v.ownBlock=some g):B<=g/\g<w.heap.size/\g≠P:=by obtain⟨xs,h1,h2,_⟩:=h;exact⟨(h1.lt g hg).1,(h1.lt g hg).2,λe=>h2 (by rw[hg,e])⟩
theorem Fh.below{B P N:Nat}{W:World}{o:Option Nat}{w w':World}{vf vn:Value}{f:Sp.LS}{q:List aC}(h:Fh B P N W o w vf vn f q)(k:Below w.heap.size w w'):Fh B P N W o w' vf vn f q:=by have hP:P<w.heap.size:=anE h.low.2.2 h.step.size;exact⟨dh h.gl k,(k.block P hP).trans h.cells,h.words.keep λb hb=>k.block b (by have:=h.low;omega),h.nodes.keep λg hg=>k.block g (h.nodes.lt hg).2.1,h.step.below k,h.fresh,h.YE,h.old,anE h.lt k.size,h.low⟩
theorem Fh.wz{B P N:Nat}{W:World}{o:Option Nat}{w:World}{vf vn:Value}{f:Sp.LS}{q:List aC}(h:Fh B P N W o w vf vn f q)(k:Nat)(v:Value):Fh B P N W o (w.setCell ⟨N,k,none⟩ v) vf vn f q:=by
 have hl:=h.low;have ho:=h.old;have far:∀b,b≠N->(w.setCell ⟨N,k,none⟩ v).heap[b]? =w.heap[b]? :=λb hb=>mO v hb;have hs:(w.setCell ⟨N,k,none⟩ v).heap.size=w.heap.size:=by simp[World.setCell]
 refine⟨G.stable _ _ h.gl (by rw[hs];exact anr _) λb hb=>far b (by have:b<8:=hb;omega),(far P (by omega)).trans h.cells,h.words.keep λb hb=>far b (by omega),h.nodes.keep λg hg=>far g (λe=>h.YE (by rw[hg,e])),?_,h.fresh,h.YE,ho,by rw[hs];exact h.lt,hl⟩;exact⟨h.step.os,h.step.tape,h.step.output,by rw[hs];exact h.step.size,λx hx hP hoo=>(far x (by omega)).trans (h.step.block x hx hP hoo)⟩
theorem G_step{W w':World}{P B:Nat}{own:Option Nat}(Uw:8<=B)(Dv:B<=P)(hG:G.ok W)(h:Step W w' P own)(ho:∀b,own=some b->B<=b):G.ok w':=
 G.stable W w' hG h.size λb hb=>h.block b (anE hb (G.low W hG)) (by have:b<8:=hb;omega) λe=>by have:=ho b e;have:b<8:=hb;omega
theorem Fh.next{B P N:Nat}{W:World}{o:Option Nat}{w w':World}{vf vn FZ:Value}{f f':Sp.LS}{q:List aC}(h:Fh B P N W o w vf vn f q)(h1:FW B w' FZ f')(h2:w'.heap[P]? =some (.cells #[FZ,vn] 150 (0,0)))(h3:Step w w' P none):Fh B P N W o w' FZ vn f' q/\w'.heap[N]? =w.heap[N]? :=by have hl:=h.low;have ho:=h.old;exact⟨⟨G_step hl.1 hl.2.1 h.gl h3 (λb e=>by cases e),h2,h1,h.nodes.keep λg hg=>h3.block g (h.nodes.lt hg).2.1 (h.nodes.lt hg).2.2 (λe=>by cases e),h.step.trans h3 (λg e=>by cases e),h.fresh,h.YE,ho,anE h.lt h3.size,hl⟩,h3.block N h.lt (by omega) (λe=>by cases e)⟩
theorem Fh.read{B P N:Nat}{W:World}{o:Option Nat}{w w':World}{vf vn:Value}{f f':Sp.LS}{q q':List aC}(h:Fh B P N W o w vf vn f q)(k:Done B P w vn.ownBlock f' q' w'):(∃FZ Xa,Fh B P N W o w' FZ Xa f' q')/\w'.heap[N]? =w.heap[N]? :=by
 have hl:=h.low;have ho:=h.old;have hN:=h.lt;obtain⟨FZ,Xa,h1,h2,h3,h4,h5⟩:=k;refine⟨⟨FZ,Xa,G_step hl.1 hl.2.1 h.gl h4 (λb e=>(h.nodes.lt e).1),h1,h2,h3,h.step.trans h4 h.fresh,λg hg=>?_,λe=>?_,ho,anE h.lt h4.size,hl⟩,h4.block N h.lt (by omega) (λe=>h.YE e)⟩
 .rcases h5 g hg with e|e
  .exact h.fresh g e
  .exact .inr (anx h.step.size e)
 .rcases h5 N e with e|e
  .exact h.YE e
  .omega
theorem Fh.put{B P N:Nat}{W:World}{o:Option Nat}{w w0 w5:World}{vf vn:Value}{f:Sp.LS}{q:List aC}(h:Fh B P N W o w vf vn f q)(hb:Below w.heap.size w w0){xs:List Value}(hown:w.ownsRow B 125 7 vn q.length xs)
 (hrep:∀i x,q[i]? =some x->aU #[] (λ_=>False) bY ((xs.drop (i*7)).take 7) x) {op l r:Int} {s:List UInt8} {k n:Int} {t:List UInt8} (hx:aU #[] (λ_=>False) bY (bF op l r s k n t).toList (op,l,r,s,k,n,t,()))
 {g cap:Nat} (h5:w5.ownsRow B 125 7 (.slice (some ⟨g,0,none⟩) (q.length+1) cap) (q.length+1) (xs++(bF op l r s k n t).toList)) (hg:w0.grownBy w5 vn.ownBlock) (hat:vn.ownBlock=some g\/g=w0.heap.size) (hlt:g<w5.heap.size):
 Done B P W o f (q++[(op,l,r,s,k,n,t,())]) (w5.setCell ⟨P,1,none⟩ (.slice (some ⟨g,0,none⟩) (q.length+1) cap)):=by
 have hl:=h.low;have ho:=h.old;have hPw:P<w.heap.size:=anE hl.2.2 h.step.size;have hPn:vn.ownBlock≠some P:=λe=>(h.nodes.lt e).2.2 rfl;have hgP:g≠P:=by
  rcases hat with e|e
  .exactλe2=>hPn (by rw[e,e2])
  .have:=hb.size;omega
 have same:∀b,b<w.heap.size->vn.ownBlock≠some b->w5.heap[b]? =w.heap[b]? :=λb hlb hnb=>(hg.block b (anE hlb hb.size) (λe=>hnb e.symm)).trans (hb.block b hlb);have far:∀b,b≠P->(w5.setCell ⟨P,1,none⟩ (.slice (some ⟨g,0,none⟩) (q.length+1) cap)).heap[b]? =w5.heap[b]? :=λb hb=>mO _ hb;have lG:=(same P hPw hPn).trans h.cells;have hs5:(w5.setCell ⟨P,1,none⟩ (.slice (some ⟨g,0,none⟩) (q.length+1) cap)).heap.size=w5.heap.size:=by simp[World.setCell]
 have hsz:w.heap.size<=w5.heap.size:=anx hb.size hg.size;refine⟨vf,.slice (some ⟨g,0,none⟩) (q.length+1) cap,dM lG 1 _,h.words.keep λb hb=>?_,⟨xs++(bF op l r s k n t).toList,?_,λe=>hgP (by cases e;rfl),λi x hi=>?_⟩,?_,λg' hg'=>?_⟩
 .exact(far b (by omega)).trans (same b (by omega) λe=>by have:=(h.nodes.lt e).1;omega)
 .rw[anm];exact NY h5 λg' hg'=>far g' (by cases hg';exact hgP)
 .have hxl:xs.length=q.length*7:=hown.1;rcases anL i q.length with hi'|hi'
  .rw[aoi hi']at hi;have:=hrep i x hi;rw[aoR (by rw[hxl];omega),apf (by rw[anS,hxl];omega)];exact this
  .rw[an8 hi']at hi;have e0:i=q.length:=by have:=(anv.1 hi).1;simp at this;omega
   subst e0;rw[apP]at hi;cases hi;rw[← hxl,aqg];exact hx
 .refine⟨hg.os.trans (hb.os.trans h.step.os),hg.tape.trans (hb.tape.trans h.step.tape),hg.output.trans (hb.output.trans h.step.output),by rw[hs5];exact anx h.step.size hsz,λb hlb hbP hob=>?_⟩;refine(far b hbP).trans ((same b (anE hlb h.step.size) λe=>?_).trans (h.step.block b hlb hbP hob));rcases h.fresh b e with e2|e2
  .exact hob e2
  .omega
 .have hg':some g=some g':=hg';cases hg';rcases hat with e|e
  .exact h.fresh g e
  .right;have:=hb.size;have:=h.step.size;omega
theorem tq{B P:Nat}{W:World}{o:Option Nat}{w:World}{b c:Bool}{f:Sp.LS}{q:List aC}{z:Bool×Sp.LS×List aC}(e:Hid (z=(c,f,q)))(hb:Ending.returned (.bool b)=Ending.returned (.bool c))(h:Done B P W o f q w):Ending.returned (.bool b)=Ending.returned (.bool z.1)/\Done B P W o z.2.1 z.2.2 w:=by rw[e.out];exact⟨hb,h⟩
theorem En{k:Nat}{f:Sp.LS}{q:List aC}{op:Int}(h:op=cO (Sp.wordAt f 0))(c:op=0\/op=1):Sp.rd (k+1) f q=(!(op==0),f.drop 1,q++[(op,0,0,[],0,0,[],())]):=by rw[Sp.rd,← h];rcases c with rfl|rfl<;>rfl
theorem Iw{k:Nat}{f:Sp.LS}{q:List aC}{op:Int}(h:op=cO (Sp.wordAt f 0))(c:op=2\/op=8\/op=9):Sp.rd (k+1) f q=(true,(f.drop 1).drop 1,q++[(op,0,0,Sp.wordAt (f.drop 1) 0,0,0,[],())]):=by rw[Sp.rd,← h];rcases c with rfl|rfl|rfl<;>rfl
theorem NZ{k:Nat}{f:Sp.LS}{q:List aC}{op:Int}(h:op=cO (Sp.wordAt f 0))(c:op=3\/op=4):Sp.rd (k+1) f q=((aW (Sp.wordAt ((f.drop 1).drop 1) 0)).2,((f.drop 1).drop 1).drop 1,q++[(op,0,0,Sp.wordAt (f.drop 1) 0,(aW (Sp.wordAt ((f.drop 1).drop 1) 0)).1)]):=by rw[Sp.rd,← h];rcases c with rfl|rfl<;>rfl
theorem abN{k:Nat}{f:Sp.LS}{q:List aC}(h:(5:Int)=cO (Sp.wordAt f 0)):Sp.rd (k+1) f q=((Sp.rd k (f.drop 1) q).1,(Sp.rd k (f.drop 1) q).2.1,(Sp.rd k (f.drop 1) q).2.2++[(5,((Sp.rd k (f.drop 1) q).2.2.length:Int)-1,0,[],0,0,[],())]):=by rw[Sp.rd,← h];rfl
theorem SC{k:Nat}{f:Sp.LS}{q:List aC}{op:Int}(h:op=cO (Sp.wordAt f 0))(c:op=6\/op=7)(h1:(Sp.rd k (f.drop 1) q).1=true):Sp.rd (k+1) f q=((Sp.rd k (Sp.rd k (f.drop 1) q).2.1 (Sp.rd k (f.drop 1) q).2.2).1,(Sp.rd k (Sp.rd k (f.drop 1) q).2.1 (Sp.rd k (f.drop 1) q).2.2).2.1,
 (Sp.rd k (Sp.rd k (f.drop 1) q).2.1 (Sp.rd k (f.drop 1) q).2.2).2.2++[(op,((Sp.rd k (f.drop 1) q).2.2.length:Int)-1,((Sp.rd k (Sp.rd k (f.drop 1) q).2.1 (Sp.rd k (f.drop 1) q).2.2).2.2.length:Int)-1,[],0,0,[],())]):=by
 rw[Sp.rd,← h,h1];rcases c with rfl|rfl<;>rfl
theorem Xb{k:Nat}{f:Sp.LS}{q:List aC}{op:Int}(h:op=cO (Sp.wordAt f 0))(c:op=6\/op=7)(h1:(Sp.rd k (f.drop 1) q).1=false):Sp.rd (k+1) f q=(false,(Sp.rd k (f.drop 1) q).2.1,
 (Sp.rd k (f.drop 1) q).2.2++[(op,((Sp.rd k (f.drop 1) q).2.2.length:Int)-1,((Sp.rd k (f.drop 1) q).2.2.length:Int)-1,[],0,0,[],())]):=by
 rw[Sp.rd,← h,h1];rcases c with rfl|rfl<;>rfl
theorem uN:∀(k:Nat)(w:Sp.LS)(q:List aC),(Sp.rd k w q).2.2.length+2*(Sp.rd k w q).2.1.length<=q.length+2*w.length+1
 |0,w,q=>Nat.le_succ _
 |k+1,w,q=>by
  have hd:(w.drop 1).length=w.length-1:=anS;rcases xw (Sp.wordAt w 0)with h0|⟨hc,_⟩
  .rw[En h0.symm (.inl rfl)];simp only[anm,ano,anw,hd];omega
  have hne:0<w.length:=by obtain⟨r,e,_⟩:=SE (w:=w) (by omega);rw[e,ano];omega
  have d2:((w.drop 1).drop 1).length<=w.length-1:=by rw[anS];omega
  have d3:(((w.drop 1).drop 1).drop 1).length<=w.length-1:=by rw[anS];omega
  have i1:=uN k (w.drop 1) q;generalize ho:cO (Sp.wordAt w 0)=op at hc;rcases(show op=1\/(op=2\/op=8\/op=9)\/(op=3\/op=4)\/op=5\/(op=6\/op=7) by omega)with c|c|c|c|c
  .rw[En ho.symm (.inr c)];simp only[anm,ano,anw,hd];omega
  .rw[Iw ho.symm c];simp only[anm,ano,anw];omega
  .rw[NZ ho.symm c];simp only[anm,ano,anw];omega
  .subst c;rw[abN ho.symm];simp only[anm,ano,anw];omega
  .cases h1:(Sp.rd k (w.drop 1) q).1 with
   |true=>
    have i2:=uN k (Sp.rd k (w.drop 1) q).2.1 (Sp.rd k (w.drop 1) q).2.2;rw[SC ho.symm c h1];simp only[anm,ano,anw];omega
   |false=>rw[Xb ho.symm c h1];simp only[anm,ano,anw];omega
theorem NW.form{B P:Nat}{w:World}{v:Value}{q:List aC}(h:NW B P w v q):∃a cap,v=.slice a q.length cap:=by
 obtain⟨xs,h1,_,_⟩:=h;rcases h1.2 with⟨e,e2⟩|⟨g,cap,cur,e,_⟩
 .exact⟨none,0,by rw[e,e2]⟩
 .exact⟨_,_,e⟩
theorem BA{f:Sp.LS}(h:∀x∈f,x.1.length<=1000)(i:Int):(Sp.wordAt f i).length<=1000:=by
 by_cases hh:i<(f.length:Int)
 .rw[jb hh,anz];cases e:f[i.toNat]? with
  |none=>exact ant _
  |some x=>exact h x (an1 e)
 .rw[nU (by omega)];exact ant _
theorem oJ{f:Sp.LS}(h:∀x∈f,x.1.length<=1000)(i:Nat):∀x∈f.drop i,x.1.length<=1000:=λx hx=>h x (aoG hx)
theorem uO:∀(k:Nat)(w:Sp.LS)(q:List aC),(∀x∈w,x.1.length<=1000)->∀x∈(Sp.rd k w q).2.1,x.1.length<=1000
 |0,_,_,h=>h
 |k+1,w,q,h=>by
  have i1:=uO k (w.drop 1) q (oJ h 1);rcases xw (Sp.wordAt w 0)with h0|⟨hc,_⟩
  .rw[En h0.symm (.inl rfl)];exact oJ h 1
  generalize ho:cO (Sp.wordAt w 0)=op at hc;rcases(show op=1\/(op=2\/op=8\/op=9)\/(op=3\/op=4)\/op=5\/(op=6\/op=7) by omega)with c|c|c|c|c
  .rw[En ho.symm (.inr c)];exact oJ h 1
  .rw[Iw ho.symm c];exact oJ (oJ h 1) 1
  .rw[NZ ho.symm c];exact oJ (oJ (oJ h 1) 1) 1
  .subst c;rw[abN ho.symm];exact i1
  .cases h1:(Sp.rd k (w.drop 1) q).1 with
   |true=>rw[SC ho.symm c h1];exact uO k _ _ i1
   |false=>rw[Xb ho.symm c h1];exact i1
theorem Q8{f:Sp.LS}{op:Int}(h:op=cO (Sp.wordAt f 0))(h0:op≠0):(f.drop 1).length<f.length:=by obtain⟨r,e,_⟩:=SE (w:=f) (by omega);rw[e];exact ao8 _
def Reads(k:Nat):Prop:=∀(B P:Nat)(W:World)(vf vn:Value)(f:Sp.LS)(q:List aC),f.length<k->8<=B->B<=P->G.ok W->W.heap[P]? =some (.cells #[vf,vn] 150 (0,0))->FW B W vf f->NW B P W vn q->
    (∀x∈f,x.1.length<=1000)->q.length+2*f.length+1<=1000->
    Calls prog 133 #[.pointer (some ⟨P,0,none⟩)] W λe w'=>e=.returned (.bool (Sp.rd k f q).1)/\Done B P W vn.ownBlock (Sp.rd k f q).2.1 (Sp.rd k f q).2.2 w'
set_option maxHeartbeats 16000000 in
set_option maxRecDepth 100000 in
theorem afY(k:Nat)(ih:Hid (Reads k)):Reads (k+1):=by
 intro B P W vf vn f q hk Uw Dv hG hP hf hn hfx hq;have mixed:=Tryz.mixed
 go_enter Tryz.func133,Tryz.ntmps133
 go_wp2_with (first
  |(go_at_call 175;refine(wJ B P _ vf vn f Dv hP hf).mono ?_;rintro e W1 ⟨rfl,Q9,hf1,hP1,hs1⟩))
 have hG1:=G_step Uw Dv hG hs1 (λb h=>by cases h);have hword:∃word,Hid (word=Sp.wordAt f 0)/\word=Sp.wordAt f 0:=⟨_,rfl,rfl⟩;obtain⟨word,hword,hw2⟩:=hword;rw[← hw2];clear hw2;have alN:P<W1.heap.size:=(anq.1 hP1).1;have hPW:P<W.heap.size:=(anq.1 hP).1
 go_loopw [5] (λi wr=>∃n:Nat,n<=9/\i=.int .i64 ((n+1:Nat):Int)/\wr.heap[W1.heap.size]? =some (.cells (bF (Dw word n) 0 0 [] 0 0 []) 125 (0,0))/\Below W1.heap.size W1 wr)
  (λi _=>10-(intOf i).toNat)
 case atStart=>refine⟨0,by decide,rfl,?_,(Below.alloc (Below.refl _ _) (anr _) _)⟩;exact aof W1 _
 case round=>
  obtain⟨n,hn9,rfl,hrow,hbel⟩:=hrel;rcases anL n 9 with hlt|hge
  .have hlt':((n+1:Nat):Int)<=9:=by omega
   have wB:G.ok wr:=dh hG1 hbel;have hz:=aX hrow 0;have e1:Dw word (n+1)=bif word==dZ ((n:Int)+1)then(n:Int)+1 else Dw word n:=rfl
   have kw:=ail ((n+1:Nat):Int) (by omega) wr wB;obtain⟨t,ht,ht2⟩:∃t,Hid (t=dZ ((n:Int)+1))/\t=dZ ((n+1:Nat):Int):=⟨_,rfl,rfl⟩;rw[← ht2]at kw;clear ht2;by_cases hk:t=word
   .subst hk
    go_wp2_with (first
     |(go_at_call 163;refine kw.mono ?_;rintro e w2 ⟨rfl,hb2⟩;have hrow2:=(hb2.block _ (anq.1 hrow).1).trans hrow;have hz2:=aX hrow2 0;have hc2:=aA hrow2 0))
    all_goals go_roundw
    case measure=>simp only[intOf];omega
    case rel=>refine⟨n+1,hlt,by go_num,(dM hrow2 0 _).trans ?_,(hbel.trans (hb2.mono (Nat.le_of_lt (anq.1 hrow).1))).setCell (anr _) _⟩;rw[e1,← ht.out,aol];rfl
   .have hk2:(t==word)=false:=ann.2 hk
    go_wp2_with (first
     |(go_at_call 163;refine kw.mono ?_;rintro e w2 ⟨rfl,hb2⟩;have hrow2:=(hb2.block _ (anq.1 hrow).1).trans hrow;have hz2:=aX hrow2 0;have hc2:=aA hrow2 0))
    all_goals go_roundw
    case measure=>simp only[intOf];omega
    case rel=>refine⟨n+1,hlt,by go_num,hrow2.trans ?_,hbel.trans (hb2.mono (Nat.le_of_lt (anq.1 hrow).1))⟩;rw[e1,← ht.out,ann.2 (apa hk)];rfl
  .have hge':¬((n+1:Nat):Int)<=9:=by omega
   obtain rfl:n=9:=by omega
   rw[Xc]at hrow;have hrg:=Xd word;obtain⟨op,hop,hop2⟩:∃op,Hid (op=cO (Sp.wordAt f 0))/\op=cO word:=⟨_,congrArg cO hword.out,rfl⟩;rw[← hop2]at hrow hrg;clear hop2;have hNr:=(anq.1 hrow).1;have hR:Fh B P W1.heap.size W vn.ownBlock wr Q9 vn (f.drop 1) q:=by
    have hPr:=(hbel.block _ alN).trans hP1;refine⟨dh hG1 hbel,hPr,hf1.keep λb hb=>hbel.block b (by omega),hn.keep λg hg=>?_,?_,λg hg=>.inl hg,λe=>?_,hs1.size,hNr,Uw,Dv,hPW⟩
    .have hgl:=hn.lt hg;exact(hbel.block g (anE hgl.2.1 hs1.size)).trans (hs1.block g hgl.2.1 hgl.2.2 (λe=>by cases e))
    .exact⟨hbel.os.trans hs1.os,hbel.tape.trans hs1.tape,hbel.output.trans hs1.output,anx hs1.size hbel.size,λb hb hbP _=>(hbel.block b (anE hb hs1.size)).trans (hs1.block b hb hbP (λe=>by cases e))⟩
    .have:=(hn.lt e).2.1;have:=hs1.size;omega
   clear hbel hn hf hP hf1 hP1;have hz1:=aX hrow 1;have hz2:=aX hrow 2;have hz3:=aX hrow 3;have hz4:=aX hrow 4;have hz5:=aX hrow 5;have hz6:=aX hrow 6;have Aa:=oJ hfx 1;have ai5:=oJ Aa 1;have c0:wr.cell? ⟨W1.heap.size,0,none⟩=some (.int .i64 op):=aA hrow 0;have n0:yI 0:=⟨by decide,by decide⟩;have m0:([]:List UInt8).length<=maxLen:=ant _;rcases(show op=0\/op=1\/op=2\/op=8\/op=9\/op=3\/op=4\/op=5\/op=6\/op=7 by omega)with rfl|rfl|rfl|rfl|rfl|rfl|rfl|rfl|rfl|rfl
   .have he:Hid _:=En (k:=k) (q:=q) hop.out (by decide);have hx:=qf (op:=0) ⟨by decide,by decide⟩ n0 n0 m0 n0 n0 m0
    go_wp2
    obtain⟨xs,hown,yY,hrep⟩:=hR.nodes;have c0:wr.cell? ⟨W1.heap.size,0,none⟩=some (.int .i64 (0)):=aA hrow 0;have c1:wr.cell? ⟨W1.heap.size,1,none⟩=some (.int .i64 (0)):=aA hrow 1;have c2:wr.cell? ⟨W1.heap.size,2,none⟩=some (.int .i64 (0)):=aA hrow 2;have c3:wr.cell? ⟨W1.heap.size,3,none⟩=some (.string ⟨([]:List UInt8).toArray⟩):=aA hrow 3;have c4:wr.cell? ⟨W1.heap.size,4,none⟩=some (.int .i64 (0)):=aA hrow 4;have c5:wr.cell? ⟨W1.heap.size,5,none⟩=some (.int .i64 (0)):=aA hrow 5;have c6:wr.cell? ⟨W1.heap.size,6,none⟩=some (.string ⟨([]:List UInt8).toArray⟩):=aA hrow 6;have p1:wr.cell? ⟨P,1,none⟩=some (vn):=aA hR.cells 1;have zP:=aX hR.cells 1;have rM:P<wr.heap.size:=(anq.1 hR.cells).1;have hBr:B<=wr.heap.size:=by omega
    have yJ:(q.length+1)*72<=140737488355328:=by omega
    have hqm:q.length+1<=maxLen:=by rw[maxLen_eq];omega
    have iK:=nV (0) (0) (0) ([]) (0) (0) ([]);obtain⟨i0,hi,hz0,hz1,hz2⟩:=aoV sZ
    go_region_law (refine step_append_lies _ rfl (.tmp 84) (.tmp 86) 35 rfl B 125 i0 (.agg (bF 0 0 0 [] 0 0 [])) 7 72 Tryz.underlying35 hi hz0 hz1 hz2 rfl (by decide) (vn) q.length xs (by simp[Act.eval]) ((aoJ hown).alloc _) ⟨wr.heap.size,0,none⟩ 1 1 (bF (0) (0) (0) ([]) (0) (0) ([])).toList (by simp[Act.eval]) rfl (World.news_of_block (aof _ _)) iK (by decide) hqm yJ (by simp;omega) _ rfl ?_;intro g cap w5 hown5 fM rO rP;have lG:=(fM.block P (by simp;omega) (λe=>yY e.symm)).trans ((heap_alloc_old wr.drew _ rM).trans hR.cells);have k5:w5.cell? ⟨P,1,none⟩=some (vn):=aA lG 1;have z5:=aX lG 1)
    all_goals go_wp2
    all_goals go_ret
    all_goals exact tq he rfl (hR.put (((Below.refl _ wr).drew).alloc (anr _) _) hown hrep hx hown5 fM rO rP)
   .have he:Hid _:=En (k:=k) (q:=q) hop.out (by decide);have hx:=qf (op:=1) ⟨by decide,by decide⟩ n0 n0 m0 n0 n0 m0
    go_wp2
    obtain⟨xs,hown,yY,hrep⟩:=hR.nodes;have c0:wr.cell? ⟨W1.heap.size,0,none⟩=some (.int .i64 (1)):=aA hrow 0;have c1:wr.cell? ⟨W1.heap.size,1,none⟩=some (.int .i64 (0)):=aA hrow 1;have c2:wr.cell? ⟨W1.heap.size,2,none⟩=some (.int .i64 (0)):=aA hrow 2;have c3:wr.cell? ⟨W1.heap.size,3,none⟩=some (.string ⟨([]:List UInt8).toArray⟩):=aA hrow 3;have c4:wr.cell? ⟨W1.heap.size,4,none⟩=some (.int .i64 (0)):=aA hrow 4;have c5:wr.cell? ⟨W1.heap.size,5,none⟩=some (.int .i64 (0)):=aA hrow 5;have c6:wr.cell? ⟨W1.heap.size,6,none⟩=some (.string ⟨([]:List UInt8).toArray⟩):=aA hrow 6;have p1:wr.cell? ⟨P,1,none⟩=some (vn):=aA hR.cells 1;have zP:=aX hR.cells 1;have rM:P<wr.heap.size:=(anq.1 hR.cells).1;have hBr:B<=wr.heap.size:=by omega
    have yJ:(q.length+1)*72<=140737488355328:=by omega
    have hqm:q.length+1<=maxLen:=by rw[maxLen_eq];omega
    have iK:=nV (1) (0) (0) ([]) (0) (0) ([]);obtain⟨i0,hi,hz0,hz1,hz2⟩:=aoV sZ
    go_region_law (refine step_append_lies _ rfl (.tmp 84) (.tmp 86) 35 rfl B 125 i0 (.agg (bF 0 0 0 [] 0 0 [])) 7 72 Tryz.underlying35 hi hz0 hz1 hz2 rfl (by decide) (vn) q.length xs (by simp[Act.eval]) ((aoJ hown).alloc _) ⟨wr.heap.size,0,none⟩ 1 1 (bF (1) (0) (0) ([]) (0) (0) ([])).toList (by simp[Act.eval]) rfl (World.news_of_block (aof _ _)) iK (by decide) hqm yJ (by simp;omega) _ rfl ?_;intro g cap w5 hown5 fM rO rP;have lG:=(fM.block P (by simp;omega) (λe=>yY e.symm)).trans ((heap_alloc_old wr.drew _ rM).trans hR.cells);have k5:w5.cell? ⟨P,1,none⟩=some (vn):=aA lG 1;have z5:=aX lG 1)
    all_goals go_wp2
    all_goals go_ret
    all_goals exact tq he rfl (hR.put (((Below.refl _ wr).drew).alloc (anr _) _) hown hrep hx hown5 fM rO rP)
   .obtain⟨s2,hs2,hs2'⟩:∃s2,Hid (s2=Sp.wordAt (f.drop 1) 0)/\s2=Sp.wordAt (f.drop 1) 0:=⟨_,rfl,rfl⟩;have nx:=wJ B P wr Q9 vn (f.drop 1) Dv hR.cells hR.words;have hl2:=BA Aa 0;rw[← hs2']at nx hl2;clear hs2';have he:Hid _:=Iw (k:=k) (q:=q) hop.out (by decide);rw[← hs2.out]at he;have hx:=qf (op:=2) (s:=s2) ⟨by decide,by decide⟩ n0 n0 (by rw[maxLen_eq];omega) n0 n0 m0
    go_wp2_with (first
     |(go_at_call 175;refine nx.mono ?_;rintro e w2 ⟨rfl,JH,hf2,hP2,hst2⟩;obtain⟨hR2,Dx⟩:=hR.next hf2 hP2 hst2;have hrow2:=Dx.trans hrow;have z3:=aX hrow2 3;have d3:=aA hrow2 3))
    have gV:=hR2.wz 3 (.string ⟨s2.toArray⟩);have hrow3:(w2.setCell ⟨W1.heap.size,3,none⟩ (.string ⟨s2.toArray⟩)).heap[W1.heap.size]? =some (.cells (bF 2 0 0 s2 0 0 []) 125 (0,0)):=dM hrow2 3 _;generalize w2.setCell ⟨W1.heap.size,3,none⟩ (.string ⟨s2.toArray⟩)=w3 at gV hrow3 ⊢;obtain⟨xs,hown,yY,hrep⟩:=gV.nodes;have c0:w3.cell? ⟨W1.heap.size,0,none⟩=some (.int .i64 (2)):=aA hrow3 0;have c1:w3.cell? ⟨W1.heap.size,1,none⟩=some (.int .i64 (0)):=aA hrow3 1;have c2:w3.cell? ⟨W1.heap.size,2,none⟩=some (.int .i64 (0)):=aA hrow3 2;have c3:w3.cell? ⟨W1.heap.size,3,none⟩=some (.string ⟨(s2:List UInt8).toArray⟩):=aA hrow3 3;have c4:w3.cell? ⟨W1.heap.size,4,none⟩=some (.int .i64 (0)):=aA hrow3 4;have c5:w3.cell? ⟨W1.heap.size,5,none⟩=some (.int .i64 (0)):=aA hrow3 5;have c6:w3.cell? ⟨W1.heap.size,6,none⟩=some (.string ⟨([]:List UInt8).toArray⟩):=aA hrow3 6;have p1:w3.cell? ⟨P,1,none⟩=some (vn):=aA gV.cells 1;have zP:=aX gV.cells 1;have rM:P<w3.heap.size:=(anq.1 gV.cells).1;have hBr:B<=w3.heap.size:=by omega
    have yJ:(q.length+1)*72<=140737488355328:=by omega
    have hqm:q.length+1<=maxLen:=by rw[maxLen_eq];omega
    have iK:=nV (2) (0) (0) (s2) (0) (0) ([]);obtain⟨i0,hi,hz0,hz1,hz2⟩:=aoV sZ
    go_region_law (refine step_append_lies _ rfl (.tmp 84) (.tmp 86) 35 rfl B 125 i0 (.agg (bF 0 0 0 [] 0 0 [])) 7 72 Tryz.underlying35 hi hz0 hz1 hz2 rfl (by decide) (vn) q.length xs (by simp[Act.eval]) ((aoJ hown).alloc _) ⟨w3.heap.size,0,none⟩ 1 1 (bF (2) (0) (0) (s2) (0) (0) ([])).toList (by simp[Act.eval]) rfl (World.news_of_block (aof _ _)) iK (by decide) hqm yJ (by simp;omega) _ rfl ?_;intro g cap w5 hown5 fM rO rP;have lG:=(fM.block P (by simp;omega) (λe=>yY e.symm)).trans ((heap_alloc_old w3.drew _ rM).trans gV.cells);have k5:w5.cell? ⟨P,1,none⟩=some (vn):=aA lG 1;have z5:=aX lG 1)
    all_goals go_wp2
    all_goals go_ret
    all_goals exact tq he rfl (gV.put (((Below.refl _ w3).drew).alloc (anr _) _) hown hrep hx hown5 fM rO rP)
   .obtain⟨s2,hs2,hs2'⟩:∃s2,Hid (s2=Sp.wordAt (f.drop 1) 0)/\s2=Sp.wordAt (f.drop 1) 0:=⟨_,rfl,rfl⟩;have nx:=wJ B P wr Q9 vn (f.drop 1) Dv hR.cells hR.words;have hl2:=BA Aa 0;rw[← hs2']at nx hl2;clear hs2';have he:Hid _:=Iw (k:=k) (q:=q) hop.out (by decide);rw[← hs2.out]at he;have hx:=qf (op:=8) (s:=s2) ⟨by decide,by decide⟩ n0 n0 (by rw[maxLen_eq];omega) n0 n0 m0
    go_wp2_with (first
     |(go_at_call 175;refine nx.mono ?_;rintro e w2 ⟨rfl,JH,hf2,hP2,hst2⟩;obtain⟨hR2,Dx⟩:=hR.next hf2 hP2 hst2;have hrow2:=Dx.trans hrow;have z3:=aX hrow2 3;have d3:=aA hrow2 3))
    have gV:=hR2.wz 3 (.string ⟨s2.toArray⟩);have hrow3:(w2.setCell ⟨W1.heap.size,3,none⟩ (.string ⟨s2.toArray⟩)).heap[W1.heap.size]? =some (.cells (bF 8 0 0 s2 0 0 []) 125 (0,0)):=dM hrow2 3 _;generalize w2.setCell ⟨W1.heap.size,3,none⟩ (.string ⟨s2.toArray⟩)=w3 at gV hrow3 ⊢;obtain⟨xs,hown,yY,hrep⟩:=gV.nodes;have c0:w3.cell? ⟨W1.heap.size,0,none⟩=some (.int .i64 (8)):=aA hrow3 0;have c1:w3.cell? ⟨W1.heap.size,1,none⟩=some (.int .i64 (0)):=aA hrow3 1;have c2:w3.cell? ⟨W1.heap.size,2,none⟩=some (.int .i64 (0)):=aA hrow3 2;have c3:w3.cell? ⟨W1.heap.size,3,none⟩=some (.string ⟨(s2:List UInt8).toArray⟩):=aA hrow3 3;have c4:w3.cell? ⟨W1.heap.size,4,none⟩=some (.int .i64 (0)):=aA hrow3 4;have c5:w3.cell? ⟨W1.heap.size,5,none⟩=some (.int .i64 (0)):=aA hrow3 5;have c6:w3.cell? ⟨W1.heap.size,6,none⟩=some (.string ⟨([]:List UInt8).toArray⟩):=aA hrow3 6;have p1:w3.cell? ⟨P,1,none⟩=some (vn):=aA gV.cells 1;have zP:=aX gV.cells 1;have rM:P<w3.heap.size:=(anq.1 gV.cells).1;have hBr:B<=w3.heap.size:=by omega
    have yJ:(q.length+1)*72<=140737488355328:=by omega
    have hqm:q.length+1<=maxLen:=by rw[maxLen_eq];omega
    have iK:=nV (8) (0) (0) (s2) (0) (0) ([]);obtain⟨i0,hi,hz0,hz1,hz2⟩:=aoV sZ
    go_region_law (refine step_append_lies _ rfl (.tmp 84) (.tmp 86) 35 rfl B 125 i0 (.agg (bF 0 0 0 [] 0 0 [])) 7 72 Tryz.underlying35 hi hz0 hz1 hz2 rfl (by decide) (vn) q.length xs (by simp[Act.eval]) ((aoJ hown).alloc _) ⟨w3.heap.size,0,none⟩ 1 1 (bF (8) (0) (0) (s2) (0) (0) ([])).toList (by simp[Act.eval]) rfl (World.news_of_block (aof _ _)) iK (by decide) hqm yJ (by simp;omega) _ rfl ?_;intro g cap w5 hown5 fM rO rP;have lG:=(fM.block P (by simp;omega) (λe=>yY e.symm)).trans ((heap_alloc_old w3.drew _ rM).trans gV.cells);have k5:w5.cell? ⟨P,1,none⟩=some (vn):=aA lG 1;have z5:=aX lG 1)
    all_goals go_wp2
    all_goals go_ret
    all_goals exact tq he rfl (gV.put (((Below.refl _ w3).drew).alloc (anr _) _) hown hrep hx hown5 fM rO rP)
   .obtain⟨s2,hs2,hs2'⟩:∃s2,Hid (s2=Sp.wordAt (f.drop 1) 0)/\s2=Sp.wordAt (f.drop 1) 0:=⟨_,rfl,rfl⟩;have nx:=wJ B P wr Q9 vn (f.drop 1) Dv hR.cells hR.words;have hl2:=BA Aa 0;rw[← hs2']at nx hl2;clear hs2';have he:Hid _:=Iw (k:=k) (q:=q) hop.out (by decide);rw[← hs2.out]at he;have hx:=qf (op:=9) (s:=s2) ⟨by decide,by decide⟩ n0 n0 (by rw[maxLen_eq];omega) n0 n0 m0
    go_wp2_with (first
     |(go_at_call 175;refine nx.mono ?_;rintro e w2 ⟨rfl,JH,hf2,hP2,hst2⟩;obtain⟨hR2,Dx⟩:=hR.next hf2 hP2 hst2;have hrow2:=Dx.trans hrow;have z3:=aX hrow2 3;have d3:=aA hrow2 3))
    have gV:=hR2.wz 3 (.string ⟨s2.toArray⟩);have hrow3:(w2.setCell ⟨W1.heap.size,3,none⟩ (.string ⟨s2.toArray⟩)).heap[W1.heap.size]? =some (.cells (bF 9 0 0 s2 0 0 []) 125 (0,0)):=dM hrow2 3 _;generalize w2.setCell ⟨W1.heap.size,3,none⟩ (.string ⟨s2.toArray⟩)=w3 at gV hrow3 ⊢;obtain⟨xs,hown,yY,hrep⟩:=gV.nodes;have c0:w3.cell? ⟨W1.heap.size,0,none⟩=some (.int .i64 (9)):=aA hrow3 0;have c1:w3.cell? ⟨W1.heap.size,1,none⟩=some (.int .i64 (0)):=aA hrow3 1;have c2:w3.cell? ⟨W1.heap.size,2,none⟩=some (.int .i64 (0)):=aA hrow3 2;have c3:w3.cell? ⟨W1.heap.size,3,none⟩=some (.string ⟨(s2:List UInt8).toArray⟩):=aA hrow3 3;have c4:w3.cell? ⟨W1.heap.size,4,none⟩=some (.int .i64 (0)):=aA hrow3 4;have c5:w3.cell? ⟨W1.heap.size,5,none⟩=some (.int .i64 (0)):=aA hrow3 5;have c6:w3.cell? ⟨W1.heap.size,6,none⟩=some (.string ⟨([]:List UInt8).toArray⟩):=aA hrow3 6;have p1:w3.cell? ⟨P,1,none⟩=some (vn):=aA gV.cells 1;have zP:=aX gV.cells 1;have rM:P<w3.heap.size:=(anq.1 gV.cells).1;have hBr:B<=w3.heap.size:=by omega
    have yJ:(q.length+1)*72<=140737488355328:=by omega
    have hqm:q.length+1<=maxLen:=by rw[maxLen_eq];omega
    have iK:=nV (9) (0) (0) (s2) (0) (0) ([]);obtain⟨i0,hi,hz0,hz1,hz2⟩:=aoV sZ
    go_region_law (refine step_append_lies _ rfl (.tmp 84) (.tmp 86) 35 rfl B 125 i0 (.agg (bF 0 0 0 [] 0 0 [])) 7 72 Tryz.underlying35 hi hz0 hz1 hz2 rfl (by decide) (vn) q.length xs (by simp[Act.eval]) ((aoJ hown).alloc _) ⟨w3.heap.size,0,none⟩ 1 1 (bF (9) (0) (0) (s2) (0) (0) ([])).toList (by simp[Act.eval]) rfl (World.news_of_block (aof _ _)) iK (by decide) hqm yJ (by simp;omega) _ rfl ?_;intro g cap w5 hown5 fM rO rP;have lG:=(fM.block P (by simp;omega) (λe=>yY e.symm)).trans ((heap_alloc_old w3.drew _ rM).trans gV.cells);have k5:w5.cell? ⟨P,1,none⟩=some (vn):=aA lG 1;have z5:=aX lG 1)
    all_goals go_wp2
    all_goals go_ret
    all_goals exact tq he rfl (gV.put (((Below.refl _ w3).drew).alloc (anr _) _) hown hrep hx hown5 fM rO rP)
   .obtain⟨s2,hs2,hs2'⟩:∃s2,Hid (s2=Sp.wordAt (f.drop 1) 0)/\s2=Sp.wordAt (f.drop 1) 0:=⟨_,rfl,rfl⟩;obtain⟨s3,hs3,abO⟩:∃s3,Hid (s3=Sp.wordAt ((f.drop 1).drop 1) 0)/\s3=Sp.wordAt ((f.drop 1).drop 1) 0:=⟨_,rfl,rfl⟩;have nx:=wJ B P wr Q9 vn (f.drop 1) Dv hR.cells hR.words;have hl2:=BA Aa 0;have hl3:=BA ai5 0;rw[← hs2']at nx hl2;rw[← abO]at hl3;clear hs2' abO;have he:Hid _:=NZ (k:=k) (q:=q) hop.out (by decide);rw[← hs2.out,← hs3.out]at he;have pv:=adM s3 (by omega);generalize aW s3=z at he pv;obtain⟨⟨v1,v2,v3,⟨⟩⟩,ok⟩:=z;dsimp only at pv
    go_wp2_with (first
     |(go_at_call 175;refine nx.mono ?_;rintro e w2 ⟨rfl,JH,hf2,hP2,hst2⟩;obtain⟨hR2,Dx⟩:=hR.next hf2 hP2 hst2;have hrow2:=Dx.trans hrow;have z3:=aX hrow2 3;have d3:=aA hrow2 3;clear nx)
     |(have gV:=hR2.wz 3 (.string ⟨s2.toArray⟩);have hrow3:(w2.setCell ⟨W1.heap.size,3,none⟩ (.string ⟨s2.toArray⟩)).heap[W1.heap.size]? =some (.cells (bF 3 0 0 s2 0 0 []) 125 (0,0)):=dM hrow2 3 _;have nx2:=wJ B P _ JH vn ((f.drop 1).drop 1) Dv gV.cells gV.words;rw[← hs3.out]at nx2;go_at_call 175;refine nx2.mono ?_;rintro e w4 ⟨rfl,vf4,hf4,hP4,agV⟩;obtain⟨Iy,hN4⟩:=gV.next hf4 hP4 agV;have hrow4:=hN4.trans hrow3;clear nx2)
     |(go_at_call 132;refine(pv _ Iy.gl).mono ?_;rintro e w6 ⟨rfl,hb6,hv1,hv2,hv3⟩;have hR6:=Iy.below hb6;have xA:=(hb6.block _ Iy.lt).trans hrow4;have y4:=aX xA 4;have y5:=aX xA 5;have y6:=aX xA 6;have x4:w6.cell? ⟨W1.heap.size,4,none⟩=some (.int .i64 0):=aA xA 4;have x5:w6.cell? ⟨W1.heap.size,5,none⟩=some (.int .i64 0):=aA xA 5;have x6:w6.cell? ⟨W1.heap.size,6,none⟩=some (.string ⟨([]:List UInt8).toArray⟩):=aA xA 6))
    have Iz:=((hR6.wz 4 (.int .i64 v1)).wz 5 (.int .i64 v2)).wz 6 (.string ⟨v3.toArray⟩);have uy:(((w6.setCell ⟨W1.heap.size,4,none⟩ (.int .i64 v1)).setCell ⟨W1.heap.size,5,none⟩ (.int .i64 v2)).setCell ⟨W1.heap.size,6,none⟩ (.string ⟨v3.toArray⟩)).heap[W1.heap.size]? =some (.cells (bF 3 0 0 s2 v1 v2 v3) 125 (0,0)):=dM (dM (dM xA 4 _) 5 _) 6 _;have hx:=qf (op:=3) (s:=s2) ⟨by decide,by decide⟩ n0 n0 (by rw[maxLen_eq];omega) hv1 hv2 hv3;generalize ((w6.setCell ⟨W1.heap.size,4,none⟩ (.int .i64 v1)).setCell ⟨W1.heap.size,5,none⟩ (.int .i64 v2)).setCell ⟨W1.heap.size,6,none⟩ (.string ⟨v3.toArray⟩)=w7 at Iz uy ⊢;clear x4 x5 x6 y4 y5 y6 d3 z3;obtain⟨xs,hown,yY,hrep⟩:=Iz.nodes;have c0:w7.cell? ⟨W1.heap.size,0,none⟩=some (.int .i64 (3)):=aA uy 0;have c1:w7.cell? ⟨W1.heap.size,1,none⟩=some (.int .i64 (0)):=aA uy 1;have c2:w7.cell? ⟨W1.heap.size,2,none⟩=some (.int .i64 (0)):=aA uy 2;have c3:w7.cell? ⟨W1.heap.size,3,none⟩=some (.string ⟨(s2:List UInt8).toArray⟩):=aA uy 3;have c4:w7.cell? ⟨W1.heap.size,4,none⟩=some (.int .i64 (v1)):=aA uy 4;have c5:w7.cell? ⟨W1.heap.size,5,none⟩=some (.int .i64 (v2)):=aA uy 5;have c6:w7.cell? ⟨W1.heap.size,6,none⟩=some (.string ⟨(v3:List UInt8).toArray⟩):=aA uy 6;have p1:w7.cell? ⟨P,1,none⟩=some (vn):=aA Iz.cells 1;have zP:=aX Iz.cells 1;have rM:P<w7.heap.size:=(anq.1 Iz.cells).1;have hBr:B<=w7.heap.size:=by omega
    have yJ:(q.length+1)*72<=140737488355328:=by omega
    have hqm:q.length+1<=maxLen:=by rw[maxLen_eq];omega
    have iK:=nV (3) (0) (0) (s2) (v1) (v2) (v3);obtain⟨i0,hi,hz0,hz1,hz2⟩:=aoV sZ
    go_region_law (refine step_append_lies _ rfl (.tmp 84) (.tmp 86) 35 rfl B 125 i0 (.agg (bF 0 0 0 [] 0 0 [])) 7 72 Tryz.underlying35 hi hz0 hz1 hz2 rfl (by decide) (vn) q.length xs (by simp[Act.eval]) ((aoJ hown).alloc _) ⟨w7.heap.size,0,none⟩ 1 1 (bF (3) (0) (0) (s2) (v1) (v2) (v3)).toList (by simp[Act.eval]) rfl (World.news_of_block (aof _ _)) iK (by decide) hqm yJ (by simp;omega) _ rfl ?_;intro g cap w5 hown5 fM rO rP;have lG:=(fM.block P (by simp;omega) (λe=>yY e.symm)).trans ((heap_alloc_old w7.drew _ rM).trans Iz.cells);have k5:w5.cell? ⟨P,1,none⟩=some (vn):=aA lG 1;have z5:=aX lG 1)
    all_goals go_wp2
    all_goals go_ret
    all_goals exact tq he rfl (Iz.put (((Below.refl _ w7).drew).alloc (anr _) _) hown hrep hx hown5 fM rO rP)
   .obtain⟨s2,hs2,hs2'⟩:∃s2,Hid (s2=Sp.wordAt (f.drop 1) 0)/\s2=Sp.wordAt (f.drop 1) 0:=⟨_,rfl,rfl⟩;obtain⟨s3,hs3,abO⟩:∃s3,Hid (s3=Sp.wordAt ((f.drop 1).drop 1) 0)/\s3=Sp.wordAt ((f.drop 1).drop 1) 0:=⟨_,rfl,rfl⟩;have nx:=wJ B P wr Q9 vn (f.drop 1) Dv hR.cells hR.words;have hl2:=BA Aa 0;have hl3:=BA ai5 0;rw[← hs2']at nx hl2;rw[← abO]at hl3;clear hs2' abO;have he:Hid _:=NZ (k:=k) (q:=q) hop.out (by decide);rw[← hs2.out,← hs3.out]at he;have pv:=adM s3 (by omega);generalize aW s3=z at he pv;obtain⟨⟨v1,v2,v3,⟨⟩⟩,ok⟩:=z;dsimp only at pv
    go_wp2_with (first
     |(go_at_call 175;refine nx.mono ?_;rintro e w2 ⟨rfl,JH,hf2,hP2,hst2⟩;obtain⟨hR2,Dx⟩:=hR.next hf2 hP2 hst2;have hrow2:=Dx.trans hrow;have z3:=aX hrow2 3;have d3:=aA hrow2 3;clear nx)
     |(have gV:=hR2.wz 3 (.string ⟨s2.toArray⟩);have hrow3:(w2.setCell ⟨W1.heap.size,3,none⟩ (.string ⟨s2.toArray⟩)).heap[W1.heap.size]? =some (.cells (bF 4 0 0 s2 0 0 []) 125 (0,0)):=dM hrow2 3 _;have nx2:=wJ B P _ JH vn ((f.drop 1).drop 1) Dv gV.cells gV.words;rw[← hs3.out]at nx2;go_at_call 175;refine nx2.mono ?_;rintro e w4 ⟨rfl,vf4,hf4,hP4,agV⟩;obtain⟨Iy,hN4⟩:=gV.next hf4 hP4 agV;have hrow4:=hN4.trans hrow3;clear nx2)
     |(go_at_call 132;refine(pv _ Iy.gl).mono ?_;rintro e w6 ⟨rfl,hb6,hv1,hv2,hv3⟩;have hR6:=Iy.below hb6;have xA:=(hb6.block _ Iy.lt).trans hrow4;have y4:=aX xA 4;have y5:=aX xA 5;have y6:=aX xA 6;have x4:w6.cell? ⟨W1.heap.size,4,none⟩=some (.int .i64 0):=aA xA 4;have x5:w6.cell? ⟨W1.heap.size,5,none⟩=some (.int .i64 0):=aA xA 5;have x6:w6.cell? ⟨W1.heap.size,6,none⟩=some (.string ⟨([]:List UInt8).toArray⟩):=aA xA 6))
    have Iz:=((hR6.wz 4 (.int .i64 v1)).wz 5 (.int .i64 v2)).wz 6 (.string ⟨v3.toArray⟩);have uy:(((w6.setCell ⟨W1.heap.size,4,none⟩ (.int .i64 v1)).setCell ⟨W1.heap.size,5,none⟩ (.int .i64 v2)).setCell ⟨W1.heap.size,6,none⟩ (.string ⟨v3.toArray⟩)).heap[W1.heap.size]? =some (.cells (bF 4 0 0 s2 v1 v2 v3) 125 (0,0)):=dM (dM (dM xA 4 _) 5 _) 6 _;have hx:=qf (op:=4) (s:=s2) ⟨by decide,by decide⟩ n0 n0 (by rw[maxLen_eq];omega) hv1 hv2 hv3;generalize ((w6.setCell ⟨W1.heap.size,4,none⟩ (.int .i64 v1)).setCell ⟨W1.heap.size,5,none⟩ (.int .i64 v2)).setCell ⟨W1.heap.size,6,none⟩ (.string ⟨v3.toArray⟩)=w7 at Iz uy ⊢;clear x4 x5 x6 y4 y5 y6 d3 z3;obtain⟨xs,hown,yY,hrep⟩:=Iz.nodes;have c0:w7.cell? ⟨W1.heap.size,0,none⟩=some (.int .i64 (4)):=aA uy 0;have c1:w7.cell? ⟨W1.heap.size,1,none⟩=some (.int .i64 (0)):=aA uy 1;have c2:w7.cell? ⟨W1.heap.size,2,none⟩=some (.int .i64 (0)):=aA uy 2;have c3:w7.cell? ⟨W1.heap.size,3,none⟩=some (.string ⟨(s2:List UInt8).toArray⟩):=aA uy 3;have c4:w7.cell? ⟨W1.heap.size,4,none⟩=some (.int .i64 (v1)):=aA uy 4;have c5:w7.cell? ⟨W1.heap.size,5,none⟩=some (.int .i64 (v2)):=aA uy 5;have c6:w7.cell? ⟨W1.heap.size,6,none⟩=some (.string ⟨(v3:List UInt8).toArray⟩):=aA uy 6;have p1:w7.cell? ⟨P,1,none⟩=some (vn):=aA Iz.cells 1;have zP:=aX Iz.cells 1;have rM:P<w7.heap.size:=(anq.1 Iz.cells).1;have hBr:B<=w7.heap.size:=by omega
    have yJ:(q.length+1)*72<=140737488355328:=by omega
    have hqm:q.length+1<=maxLen:=by rw[maxLen_eq];omega
    have iK:=nV (4) (0) (0) (s2) (v1) (v2) (v3);obtain⟨i0,hi,hz0,hz1,hz2⟩:=aoV sZ
    go_region_law (refine step_append_lies _ rfl (.tmp 84) (.tmp 86) 35 rfl B 125 i0 (.agg (bF 0 0 0 [] 0 0 [])) 7 72 Tryz.underlying35 hi hz0 hz1 hz2 rfl (by decide) (vn) q.length xs (by simp[Act.eval]) ((aoJ hown).alloc _) ⟨w7.heap.size,0,none⟩ 1 1 (bF (4) (0) (0) (s2) (v1) (v2) (v3)).toList (by simp[Act.eval]) rfl (World.news_of_block (aof _ _)) iK (by decide) hqm yJ (by simp;omega) _ rfl ?_;intro g cap w5 hown5 fM rO rP;have lG:=(fM.block P (by simp;omega) (λe=>yY e.symm)).trans ((heap_alloc_old w7.drew _ rM).trans Iz.cells);have k5:w5.cell? ⟨P,1,none⟩=some (vn):=aA lG 1;have z5:=aX lG 1)
    all_goals go_wp2
    all_goals go_ret
    all_goals exact tq he rfl (Iz.put (((Below.refl _ w7).drew).alloc (anr _) _) hown hrep hx hown5 fM rO rP)
   .have he:Hid _:=abN (k:=k) (q:=q) hop.out;have hcnt:=uN k (f.drop 1) q;have hrl:=IA k (f.drop 1) q;have hwl:=uO k (f.drop 1) q Aa;have hlp:=Q8 hop.out (by decide);have nd:=ih.out B P wr Q9 vn (f.drop 1) q (by omega) Uw Dv hR.gl hR.cells hR.words hR.nodes Aa (by omega);generalize Sp.rd k (f.drop 1) q=z at he nd hcnt hwl hrl;obtain⟨b1,f2,q2⟩:=z;dsimp only at nd hcnt hwl
    go_wp2_with (first
     |(go_at_call 133;refine nd.mono ?_;rintro e w2 ⟨rfl,hd⟩;obtain⟨⟨JH,vn2,hR2⟩,Dx⟩:=hR.read hd;obtain⟨a2,cap2,N7⟩:=hR2.nodes.form;subst N7;have hrow2:=Dx.trans hrow;have p2:w2.cell? ⟨P,1,none⟩=some (.slice a2 q2.length cap2):=aA hR2.cells 1;have y1:=aX hrow2 1;have x1:w2.cell? ⟨W1.heap.size,1,none⟩=some (.int .i64 0):=aA hrow2 1;clear nd))
    have gV:=hR2.wz 1 (.int .i64 ((q2.length:Int)-1));have hrow3:(w2.setCell ⟨W1.heap.size,1,none⟩ (.int .i64 ((q2.length:Int)-1))).heap[W1.heap.size]? =some (.cells (bF 5 ((q2.length:Int)-1) 0 [] 0 0 []) 125 (0,0)):=dM hrow2 1 _;have hx:=qf (op:=5) (l:=(q2.length:Int)-1) ⟨by decide,by decide⟩ ⟨by omega,by omega⟩ n0 m0 n0 n0 m0;generalize w2.setCell ⟨W1.heap.size,1,none⟩ (.int .i64 ((q2.length:Int)-1))=w3 at gV hrow3 ⊢;clear x1 y1 p2;obtain⟨xs,hown,yY,hrep⟩:=gV.nodes;have c0:w3.cell? ⟨W1.heap.size,0,none⟩=some (.int .i64 (5)):=aA hrow3 0;have c1:w3.cell? ⟨W1.heap.size,1,none⟩=some (.int .i64 ((q2.length:Int)-1)):=aA hrow3 1;have c2:w3.cell? ⟨W1.heap.size,2,none⟩=some (.int .i64 (0)):=aA hrow3 2;have c3:w3.cell? ⟨W1.heap.size,3,none⟩=some (.string ⟨([]:List UInt8).toArray⟩):=aA hrow3 3;have c4:w3.cell? ⟨W1.heap.size,4,none⟩=some (.int .i64 (0)):=aA hrow3 4;have c5:w3.cell? ⟨W1.heap.size,5,none⟩=some (.int .i64 (0)):=aA hrow3 5;have c6:w3.cell? ⟨W1.heap.size,6,none⟩=some (.string ⟨([]:List UInt8).toArray⟩):=aA hrow3 6;have p1:w3.cell? ⟨P,1,none⟩=some (.slice a2 q2.length cap2):=aA gV.cells 1;have zP:=aX gV.cells 1;have rM:P<w3.heap.size:=(anq.1 gV.cells).1;have hBr:B<=w3.heap.size:=by omega
    have yJ:(q2.length+1)*72<=140737488355328:=by omega
    have hqm:q2.length+1<=maxLen:=by rw[maxLen_eq];omega
    have iK:=nV (5) ((q2.length:Int)-1) (0) ([]) (0) (0) ([]);obtain⟨i0,hi,hz0,hz1,hz2⟩:=aoV sZ
    go_region_law (refine step_append_lies _ rfl (.tmp 84) (.tmp 86) 35 rfl B 125 i0 (.agg (bF 0 0 0 [] 0 0 [])) 7 72 Tryz.underlying35 hi hz0 hz1 hz2 rfl (by decide) (.slice a2 q2.length cap2) q2.length xs (by simp[Act.eval]) ((aoJ hown).alloc _) ⟨w3.heap.size,0,none⟩ 1 1 (bF (5) ((q2.length:Int)-1) (0) ([]) (0) (0) ([])).toList (by simp[Act.eval]) rfl (World.news_of_block (aof _ _)) iK (by decide) hqm yJ (by simp;omega) _ rfl ?_;intro g cap w5 hown5 fM rO rP;have lG:=(fM.block P (by simp;omega) (λe=>yY e.symm)).trans ((heap_alloc_old w3.drew _ rM).trans gV.cells);have k5:w5.cell? ⟨P,1,none⟩=some (.slice a2 q2.length cap2):=aA lG 1;have z5:=aX lG 1)
    all_goals go_wp2
    all_goals go_ret
    all_goals exact tq he rfl (gV.put (((Below.refl _ w3).drew).alloc (anr _) _) hown hrep hx hown5 fM rO rP)
   .cases hb1:(Sp.rd k (f.drop 1) q).1 with
    |false=>
     have he:Hid _:=Xb (k:=k) (q:=q) hop.out (by decide) hb1;have hcnt:=uN k (f.drop 1) q;have hrl:=IA k (f.drop 1) q;have hwl:=uO k (f.drop 1) q Aa;have hlp:=Q8 hop.out (by decide);have nd:=ih.out B P wr Q9 vn (f.drop 1) q (by omega) Uw Dv hR.gl hR.cells hR.words hR.nodes Aa (by omega);generalize Sp.rd k (f.drop 1) q=z at he nd hcnt hwl hrl hb1;obtain⟨b1,f2,q2⟩:=z;dsimp only at nd hcnt hwl hrl hb1;subst hb1
     go_wp2_with (first
      |(go_at_call 133;refine nd.mono ?_;rintro e w2 ⟨rfl,hd⟩;obtain⟨⟨JH,vn2,hR2⟩,Dx⟩:=hR.read hd;obtain⟨a2,cap2,N7⟩:=hR2.nodes.form;subst N7;have hrow2:=Dx.trans hrow;have p2:w2.cell? ⟨P,1,none⟩=some (.slice a2 q2.length cap2):=aA hR2.cells 1;have y1:=aX hrow2 1;have x1:w2.cell? ⟨W1.heap.size,1,none⟩=some (.int .i64 0):=aA hrow2 1;have y2:=aX hrow2 2;have x2:w2.cell? ⟨W1.heap.size,2,none⟩=some (.int .i64 0):=aA hrow2 2;clear nd))
     have gV:=(hR2.wz 1 (.int .i64 ((q2.length:Int)-1))).wz 2 (.int .i64 ((q2.length:Int)-1));have hrow3:((w2.setCell ⟨W1.heap.size,1,none⟩ (.int .i64 ((q2.length:Int)-1))).setCell ⟨W1.heap.size,2,none⟩ (.int .i64 ((q2.length:Int)-1))).heap[W1.heap.size]? =some (.cells (bF 6 ((q2.length:Int)-1) ((q2.length:Int)-1) [] 0 0 []) 125 (0,0)):=dM (dM hrow2 1 _) 2 _;have hx:=qf (op:=6) (l:=((q2.length:Int)-1)) (r:=((q2.length:Int)-1)) ⟨by decide,by decide⟩ ⟨by omega,by omega⟩ ⟨by omega,by omega⟩ m0 n0 n0 m0;generalize (w2.setCell ⟨W1.heap.size,1,none⟩ (.int .i64 ((q2.length:Int)-1))).setCell ⟨W1.heap.size,2,none⟩ (.int .i64 ((q2.length:Int)-1))=w3 at gV hrow3 ⊢;clear x1 y1 x2 y2 p2;obtain⟨xs,hown,yY,hrep⟩:=gV.nodes;have c0:w3.cell? ⟨W1.heap.size,0,none⟩=some (.int .i64 (6)):=aA hrow3 0;have c1:w3.cell? ⟨W1.heap.size,1,none⟩=some (.int .i64 ((q2.length:Int)-1)):=aA hrow3 1;have c2:w3.cell? ⟨W1.heap.size,2,none⟩=some (.int .i64 ((q2.length:Int)-1)):=aA hrow3 2;have c3:w3.cell? ⟨W1.heap.size,3,none⟩=some (.string ⟨([]:List UInt8).toArray⟩):=aA hrow3 3;have c4:w3.cell? ⟨W1.heap.size,4,none⟩=some (.int .i64 (0)):=aA hrow3 4;have c5:w3.cell? ⟨W1.heap.size,5,none⟩=some (.int .i64 (0)):=aA hrow3 5;have c6:w3.cell? ⟨W1.heap.size,6,none⟩=some (.string ⟨([]:List UInt8).toArray⟩):=aA hrow3 6;have p1:w3.cell? ⟨P,1,none⟩=some (.slice a2 q2.length cap2):=aA gV.cells 1;have zP:=aX gV.cells 1;have rM:P<w3.heap.size:=(anq.1 gV.cells).1;have hBr:B<=w3.heap.size:=by omega
     have yJ:(q2.length+1)*72<=140737488355328:=by omega
     have hqm:q2.length+1<=maxLen:=by rw[maxLen_eq];omega
     have iK:=nV (6) ((q2.length:Int)-1) ((q2.length:Int)-1) ([]) (0) (0) ([]);obtain⟨i0,hi,hz0,hz1,hz2⟩:=aoV sZ
     go_region_law (refine step_append_lies _ rfl (.tmp 84) (.tmp 86) 35 rfl B 125 i0 (.agg (bF 0 0 0 [] 0 0 [])) 7 72 Tryz.underlying35 hi hz0 hz1 hz2 rfl (by decide) (.slice a2 q2.length cap2) q2.length xs (by simp[Act.eval]) ((aoJ hown).alloc _) ⟨w3.heap.size,0,none⟩ 1 1 (bF (6) ((q2.length:Int)-1) ((q2.length:Int)-1) ([]) (0) (0) ([])).toList (by simp[Act.eval]) rfl (World.news_of_block (aof _ _)) iK (by decide) hqm yJ (by simp;omega) _ rfl ?_;intro g cap w5 hown5 fM rO rP;have lG:=(fM.block P (by simp;omega) (λe=>yY e.symm)).trans ((heap_alloc_old w3.drew _ rM).trans gV.cells);have k5:w5.cell? ⟨P,1,none⟩=some (.slice a2 q2.length cap2):=aA lG 1;have z5:=aX lG 1)
     all_goals go_wp2
     all_goals go_ret
     all_goals exact tq he rfl (gV.put (((Below.refl _ w3).drew).alloc (anr _) _) hown hrep hx hown5 fM rO rP)
    |true=>
     have he:Hid _:=SC (k:=k) (q:=q) hop.out (by decide) hb1;have hcnt:=uN k (f.drop 1) q;have hrl:=IA k (f.drop 1) q;have hwl:=uO k (f.drop 1) q Aa;have hlp:=Q8 hop.out (by decide);have nd:=ih.out B P wr Q9 vn (f.drop 1) q (by omega) Uw Dv hR.gl hR.cells hR.words hR.nodes Aa (by omega);generalize Sp.rd k (f.drop 1) q=z at he nd hcnt hwl hrl hb1;obtain⟨b1,f2,q2⟩:=z;dsimp only at he nd hcnt hwl hrl hb1;subst hb1;have Xe:=λ(w:World)(FZ Xa:Value)(hr:Fh B P W1.heap.size W vn.ownBlock w FZ Xa f2 q2)=>ih.out B P w FZ Xa f2 q2 (by omega) Uw Dv hr.gl hr.cells hr.words hr.nodes hwl (by omega);have hcnt2:=uN k f2 q2;generalize Sp.rd k f2 q2=z2 at he Xe hcnt2;obtain⟨b2,f3,q3⟩:=z2;dsimp only at he Xe hcnt2
     go_wp2_with (first
      |(go_at_call 133;refine nd.mono ?_;rintro e w2 ⟨rfl,hd⟩;obtain⟨⟨JH,vn2,hR2⟩,Dx⟩:=hR.read hd;obtain⟨a2,cap2,N7⟩:=hR2.nodes.form;subst N7;have hrow2:=Dx.trans hrow;have p2:w2.cell? ⟨P,1,none⟩=some (.slice a2 q2.length cap2):=aA hR2.cells 1;have y1:=aX hrow2 1;have x1:w2.cell? ⟨W1.heap.size,1,none⟩=some (.int .i64 0):=aA hrow2 1;clear nd)
      |(have gV:=hR2.wz 1 (.int .i64 ((q2.length:Int)-1));have hrow3:(w2.setCell ⟨W1.heap.size,1,none⟩ (.int .i64 ((q2.length:Int)-1))).heap[W1.heap.size]? =some (.cells (bF 6 ((q2.length:Int)-1) 0 [] 0 0 []) 125 (0,0)):=dM hrow2 1 _;go_at_call 133;refine(Xe _ _ _ gV).mono ?_;rintro e w4 ⟨rfl,hd4⟩;obtain⟨⟨vf4,vn4,Iy⟩,hN4⟩:=gV.read hd4;obtain⟨a4,cap4,agW⟩:=Iy.nodes.form;subst agW;have hrow4:=hN4.trans hrow3;have p4:w4.cell? ⟨P,1,none⟩=some (.slice a4 q3.length cap4):=aA Iy.cells 1;have y2:=aX hrow4 2;have x2:w4.cell? ⟨W1.heap.size,2,none⟩=some (.int .i64 0):=aA hrow4 2;clear Xe p2 x1 y1))
     have IB:=Iy.wz 2 (.int .i64 ((q3.length:Int)-1));have uz:(w4.setCell ⟨W1.heap.size,2,none⟩ (.int .i64 ((q3.length:Int)-1))).heap[W1.heap.size]? =some (.cells (bF 6 ((q2.length:Int)-1) ((q3.length:Int)-1) [] 0 0 []) 125 (0,0)):=dM hrow4 2 _;have hx:=qf (op:=6) (l:=((q2.length:Int)-1)) (r:=(q3.length:Int)-1) ⟨by decide,by decide⟩ ⟨by omega,by omega⟩ ⟨by omega,by omega⟩ m0 n0 n0 m0;generalize w4.setCell ⟨W1.heap.size,2,none⟩ (.int .i64 ((q3.length:Int)-1))=wC at IB uz ⊢;clear x2 y2 p4;obtain⟨xs,hown,yY,hrep⟩:=IB.nodes;have c0:wC.cell? ⟨W1.heap.size,0,none⟩=some (.int .i64 (6)):=aA uz 0;have c1:wC.cell? ⟨W1.heap.size,1,none⟩=some (.int .i64 ((q2.length:Int)-1)):=aA uz 1;have c2:wC.cell? ⟨W1.heap.size,2,none⟩=some (.int .i64 ((q3.length:Int)-1)):=aA uz 2;have c3:wC.cell? ⟨W1.heap.size,3,none⟩=some (.string ⟨([]:List UInt8).toArray⟩):=aA uz 3;have c4:wC.cell? ⟨W1.heap.size,4,none⟩=some (.int .i64 (0)):=aA uz 4;have c5:wC.cell? ⟨W1.heap.size,5,none⟩=some (.int .i64 (0)):=aA uz 5;have c6:wC.cell? ⟨W1.heap.size,6,none⟩=some (.string ⟨([]:List UInt8).toArray⟩):=aA uz 6;have p1:wC.cell? ⟨P,1,none⟩=some (.slice a4 q3.length cap4):=aA IB.cells 1;have zP:=aX IB.cells 1;have rM:P<wC.heap.size:=(anq.1 IB.cells).1;have hBr:B<=wC.heap.size:=by omega
     have yJ:(q3.length+1)*72<=140737488355328:=by omega
     have hqm:q3.length+1<=maxLen:=by rw[maxLen_eq];omega
     have iK:=nV (6) ((q2.length:Int)-1) ((q3.length:Int)-1) ([]) (0) (0) ([]);obtain⟨i0,hi,hz0,hz1,hz2⟩:=aoV sZ
     go_region_law (refine step_append_lies _ rfl (.tmp 84) (.tmp 86) 35 rfl B 125 i0 (.agg (bF 0 0 0 [] 0 0 [])) 7 72 Tryz.underlying35 hi hz0 hz1 hz2 rfl (by decide) (.slice a4 q3.length cap4) q3.length xs (by simp[Act.eval]) ((aoJ hown).alloc _) ⟨wC.heap.size,0,none⟩ 1 1 (bF (6) ((q2.length:Int)-1) ((q3.length:Int)-1) ([]) (0) (0) ([])).toList (by simp[Act.eval]) rfl (World.news_of_block (aof _ _)) iK (by decide) hqm yJ (by simp;omega) _ rfl ?_;intro g cap w5 hown5 fM rO rP;have lG:=(fM.block P (by simp;omega) (λe=>yY e.symm)).trans ((heap_alloc_old wC.drew _ rM).trans IB.cells);have k5:w5.cell? ⟨P,1,none⟩=some (.slice a4 q3.length cap4):=aA lG 1;have z5:=aX lG 1)
     all_goals go_wp2
     all_goals go_ret
     all_goals exact tq he rfl (IB.put (((Below.refl _ wC).drew).alloc (anr _) _) hown hrep hx hown5 fM rO rP)
   .cases hb1:(Sp.rd k (f.drop 1) q).1 with
    |false=>
     have he:Hid _:=Xb (k:=k) (q:=q) hop.out (by decide) hb1;have hcnt:=uN k (f.drop 1) q;have hrl:=IA k (f.drop 1) q;have hwl:=uO k (f.drop 1) q Aa;have hlp:=Q8 hop.out (by decide);have nd:=ih.out B P wr Q9 vn (f.drop 1) q (by omega) Uw Dv hR.gl hR.cells hR.words hR.nodes Aa (by omega);generalize Sp.rd k (f.drop 1) q=z at he nd hcnt hwl hrl hb1;obtain⟨b1,f2,q2⟩:=z;dsimp only at nd hcnt hwl hrl hb1;subst hb1
     go_wp2_with (first
      |(go_at_call 133;refine nd.mono ?_;rintro e w2 ⟨rfl,hd⟩;obtain⟨⟨JH,vn2,hR2⟩,Dx⟩:=hR.read hd;obtain⟨a2,cap2,N7⟩:=hR2.nodes.form;subst N7;have hrow2:=Dx.trans hrow;have p2:w2.cell? ⟨P,1,none⟩=some (.slice a2 q2.length cap2):=aA hR2.cells 1;have y1:=aX hrow2 1;have x1:w2.cell? ⟨W1.heap.size,1,none⟩=some (.int .i64 0):=aA hrow2 1;have y2:=aX hrow2 2;have x2:w2.cell? ⟨W1.heap.size,2,none⟩=some (.int .i64 0):=aA hrow2 2;clear nd))
     have gV:=(hR2.wz 1 (.int .i64 ((q2.length:Int)-1))).wz 2 (.int .i64 ((q2.length:Int)-1));have hrow3:((w2.setCell ⟨W1.heap.size,1,none⟩ (.int .i64 ((q2.length:Int)-1))).setCell ⟨W1.heap.size,2,none⟩ (.int .i64 ((q2.length:Int)-1))).heap[W1.heap.size]? =some (.cells (bF 7 ((q2.length:Int)-1) ((q2.length:Int)-1) [] 0 0 []) 125 (0,0)):=dM (dM hrow2 1 _) 2 _;have hx:=qf (op:=7) (l:=((q2.length:Int)-1)) (r:=((q2.length:Int)-1)) ⟨by decide,by decide⟩ ⟨by omega,by omega⟩ ⟨by omega,by omega⟩ m0 n0 n0 m0;generalize (w2.setCell ⟨W1.heap.size,1,none⟩ (.int .i64 ((q2.length:Int)-1))).setCell ⟨W1.heap.size,2,none⟩ (.int .i64 ((q2.length:Int)-1))=w3 at gV hrow3 ⊢;clear x1 y1 x2 y2 p2;obtain⟨xs,hown,yY,hrep⟩:=gV.nodes;have c0:w3.cell? ⟨W1.heap.size,0,none⟩=some (.int .i64 (7)):=aA hrow3 0;have c1:w3.cell? ⟨W1.heap.size,1,none⟩=some (.int .i64 ((q2.length:Int)-1)):=aA hrow3 1;have c2:w3.cell? ⟨W1.heap.size,2,none⟩=some (.int .i64 ((q2.length:Int)-1)):=aA hrow3 2;have c3:w3.cell? ⟨W1.heap.size,3,none⟩=some (.string ⟨([]:List UInt8).toArray⟩):=aA hrow3 3;have c4:w3.cell? ⟨W1.heap.size,4,none⟩=some (.int .i64 (0)):=aA hrow3 4;have c5:w3.cell? ⟨W1.heap.size,5,none⟩=some (.int .i64 (0)):=aA hrow3 5;have c6:w3.cell? ⟨W1.heap.size,6,none⟩=some (.string ⟨([]:List UInt8).toArray⟩):=aA hrow3 6;have p1:w3.cell? ⟨P,1,none⟩=some (.slice a2 q2.length cap2):=aA gV.cells 1;have zP:=aX gV.cells 1;have rM:P<w3.heap.size:=(anq.1 gV.cells).1;have hBr:B<=w3.heap.size:=by omega
     have yJ:(q2.length+1)*72<=140737488355328:=by omega
     have hqm:q2.length+1<=maxLen:=by rw[maxLen_eq];omega
     have iK:=nV (7) ((q2.length:Int)-1) ((q2.length:Int)-1) ([]) (0) (0) ([]);obtain⟨i0,hi,hz0,hz1,hz2⟩:=aoV sZ
     go_region_law (refine step_append_lies _ rfl (.tmp 84) (.tmp 86) 35 rfl B 125 i0 (.agg (bF 0 0 0 [] 0 0 [])) 7 72 Tryz.underlying35 hi hz0 hz1 hz2 rfl (by decide) (.slice a2 q2.length cap2) q2.length xs (by simp[Act.eval]) ((aoJ hown).alloc _) ⟨w3.heap.size,0,none⟩ 1 1 (bF (7) ((q2.length:Int)-1) ((q2.length:Int)-1) ([]) (0) (0) ([])).toList (by simp[Act.eval]) rfl (World.news_of_block (aof _ _)) iK (by decide) hqm yJ (by simp;omega) _ rfl ?_;intro g cap w5 hown5 fM rO rP;have lG:=(fM.block P (by simp;omega) (λe=>yY e.symm)).trans ((heap_alloc_old w3.drew _ rM).trans gV.cells);have k5:w5.cell? ⟨P,1,none⟩=some (.slice a2 q2.length cap2):=aA lG 1;have z5:=aX lG 1)
     all_goals go_wp2
     all_goals go_ret
     all_goals exact tq he rfl (gV.put (((Below.refl _ w3).drew).alloc (anr _) _) hown hrep hx hown5 fM rO rP)
    |true=>
     have he:Hid _:=SC (k:=k) (q:=q) hop.out (by decide) hb1;have hcnt:=uN k (f.drop 1) q;have hrl:=IA k (f.drop 1) q;have hwl:=uO k (f.drop 1) q Aa;have hlp:=Q8 hop.out (by decide);have nd:=ih.out B P wr Q9 vn (f.drop 1) q (by omega) Uw Dv hR.gl hR.cells hR.words hR.nodes Aa (by omega);generalize Sp.rd k (f.drop 1) q=z at he nd hcnt hwl hrl hb1;obtain⟨b1,f2,q2⟩:=z;dsimp only at he nd hcnt hwl hrl hb1;subst hb1;have Xe:=λ(w:World)(FZ Xa:Value)(hr:Fh B P W1.heap.size W vn.ownBlock w FZ Xa f2 q2)=>ih.out B P w FZ Xa f2 q2 (by omega) Uw Dv hr.gl hr.cells hr.words hr.nodes hwl (by omega);have hcnt2:=uN k f2 q2;generalize Sp.rd k f2 q2=z2 at he Xe hcnt2;obtain⟨b2,f3,q3⟩:=z2;dsimp only at he Xe hcnt2
     go_wp2_with (first
      |(go_at_call 133;refine nd.mono ?_;rintro e w2 ⟨rfl,hd⟩;obtain⟨⟨JH,vn2,hR2⟩,Dx⟩:=hR.read hd;obtain⟨a2,cap2,N7⟩:=hR2.nodes.form;subst N7;have hrow2:=Dx.trans hrow;have p2:w2.cell? ⟨P,1,none⟩=some (.slice a2 q2.length cap2):=aA hR2.cells 1;have y1:=aX hrow2 1;have x1:w2.cell? ⟨W1.heap.size,1,none⟩=some (.int .i64 0):=aA hrow2 1;clear nd)
      |(have gV:=hR2.wz 1 (.int .i64 ((q2.length:Int)-1));have hrow3:(w2.setCell ⟨W1.heap.size,1,none⟩ (.int .i64 ((q2.length:Int)-1))).heap[W1.heap.size]? =some (.cells (bF 7 ((q2.length:Int)-1) 0 [] 0 0 []) 125 (0,0)):=dM hrow2 1 _;go_at_call 133;refine(Xe _ _ _ gV).mono ?_;rintro e w4 ⟨rfl,hd4⟩;obtain⟨⟨vf4,vn4,Iy⟩,hN4⟩:=gV.read hd4;obtain⟨a4,cap4,agW⟩:=Iy.nodes.form;subst agW;have hrow4:=hN4.trans hrow3;have p4:w4.cell? ⟨P,1,none⟩=some (.slice a4 q3.length cap4):=aA Iy.cells 1;have y2:=aX hrow4 2;have x2:w4.cell? ⟨W1.heap.size,2,none⟩=some (.int .i64 0):=aA hrow4 2;clear Xe p2 x1 y1))
     have IB:=Iy.wz 2 (.int .i64 ((q3.length:Int)-1));have uz:(w4.setCell ⟨W1.heap.size,2,none⟩ (.int .i64 ((q3.length:Int)-1))).heap[W1.heap.size]? =some (.cells (bF 7 ((q2.length:Int)-1) ((q3.length:Int)-1) [] 0 0 []) 125 (0,0)):=dM hrow4 2 _;have hx:=qf (op:=7) (l:=((q2.length:Int)-1)) (r:=(q3.length:Int)-1) ⟨by decide,by decide⟩ ⟨by omega,by omega⟩ ⟨by omega,by omega⟩ m0 n0 n0 m0;generalize w4.setCell ⟨W1.heap.size,2,none⟩ (.int .i64 ((q3.length:Int)-1))=wC at IB uz ⊢;clear x2 y2 p4;obtain⟨xs,hown,yY,hrep⟩:=IB.nodes;have c0:wC.cell? ⟨W1.heap.size,0,none⟩=some (.int .i64 (7)):=aA uz 0;have c1:wC.cell? ⟨W1.heap.size,1,none⟩=some (.int .i64 ((q2.length:Int)-1)):=aA uz 1;have c2:wC.cell? ⟨W1.heap.size,2,none⟩=some (.int .i64 ((q3.length:Int)-1)):=aA uz 2;have c3:wC.cell? ⟨W1.heap.size,3,none⟩=some (.string ⟨([]:List UInt8).toArray⟩):=aA uz 3;have c4:wC.cell? ⟨W1.heap.size,4,none⟩=some (.int .i64 (0)):=aA uz 4;have c5:wC.cell? ⟨W1.heap.size,5,none⟩=some (.int .i64 (0)):=aA uz 5;have c6:wC.cell? ⟨W1.heap.size,6,none⟩=some (.string ⟨([]:List UInt8).toArray⟩):=aA uz 6;have p1:wC.cell? ⟨P,1,none⟩=some (.slice a4 q3.length cap4):=aA IB.cells 1;have zP:=aX IB.cells 1;have rM:P<wC.heap.size:=(anq.1 IB.cells).1;have hBr:B<=wC.heap.size:=by omega
     have yJ:(q3.length+1)*72<=140737488355328:=by omega
     have hqm:q3.length+1<=maxLen:=by rw[maxLen_eq];omega
     have iK:=nV (7) ((q2.length:Int)-1) ((q3.length:Int)-1) ([]) (0) (0) ([]);obtain⟨i0,hi,hz0,hz1,hz2⟩:=aoV sZ
     go_region_law (refine step_append_lies _ rfl (.tmp 84) (.tmp 86) 35 rfl B 125 i0 (.agg (bF 0 0 0 [] 0 0 [])) 7 72 Tryz.underlying35 hi hz0 hz1 hz2 rfl (by decide) (.slice a4 q3.length cap4) q3.length xs (by simp[Act.eval]) ((aoJ hown).alloc _) ⟨wC.heap.size,0,none⟩ 1 1 (bF (7) ((q2.length:Int)-1) ((q3.length:Int)-1) ([]) (0) (0) ([])).toList (by simp[Act.eval]) rfl (World.news_of_block (aof _ _)) iK (by decide) hqm yJ (by simp;omega) _ rfl ?_;intro g cap w5 hown5 fM rO rP;have lG:=(fM.block P (by simp;omega) (λe=>yY e.symm)).trans ((heap_alloc_old wC.drew _ rM).trans IB.cells);have k5:w5.cell? ⟨P,1,none⟩=some (.slice a4 q3.length cap4):=aA lG 1;have z5:=aX lG 1)
     all_goals go_wp2
     all_goals go_ret
     all_goals exact tq he rfl (IB.put (((Below.refl _ wC).drew).alloc (anr _) _) hown hrep hx hown5 fM rO rP)
theorem Zy:∀k:Nat,Reads k
 |0=>λ_ _ _ _ _ _ _ h=>absurd h (aod _)
 |k+1=>afY k (Zy k)
end Go.Proofs.Tryz
namespace Go.Proofs.Tryz
open Go Go.Fw Go.IntWalk Sp
theorem wrap_in{z:Int}(h:-1000000000000<=z/\z<=1000000000000):IntKind.i64.wrap z=z:=iC z (by omega)
theorem L6[oL](N8:qw prog G sH vH):qw prog G Dp Ah:=by
 refine L8 (aY [(sH,.eff (KI mY) vH),iq.e,nN.e,lT.e,lV.e] ⟨⟨N8,LC⟩,jZ,Fg,FY,yH,trivial⟩) (λ_ _=>⟨((_,_,()),()),⟨rfl,rfl⟩⟩) ?_;intro p at' q deep hin hp;obtain⟨⟨hpl,ha,hb,hd0,hd1,hws,hq⟩,hfuel⟩:=hp;have hp3:(1:Nat)<=2 ^ (10-deep).toNat:=apS;refine⟨λy=>∃n:Nat,y=((Dw (Sp.wordAt p at') n,(n:Int)+1,()),())/\n<=9,λy=>(10-y.1.2.1).toNat,⟨0,rfl,ant _⟩,?_⟩;rintro _ ⟨n,rfl,hn⟩;dsimp only;refine af (λh=>⟨ha,trivial,?_⟩) λh=>?_
 .have h:=kH h;have hw:IntKind.i64.wrap ((n:Int)+1+1)=((n+1:Nat):Int)+1:=(wrap_in (by omega)).trans (by omega);rw[hw];have e:Dw (Sp.wordAt p at') (n+1)=bif Sp.wordAt p at'==dZ ((n:Int)+1)then(n:Int)+1 else Dw (Sp.wordAt p at') n:=rfl
  refine af (λh2=>⟨rfl,⟨n+1,?_,by omega⟩,by dsimp only;omega⟩) λh2=>⟨rfl,⟨n+1,?_,by omega⟩,by dsimp only;omega⟩
  .rw[e,h2];rfl
  .rw[e,h2];rfl
 have hn9:n=9:=by have:=jC h;omega
 subst hn9;rw[Xc];have hop:=Xd (Sp.wordAt p at');have hw0:Sp.wordAt p at'=Sp.wordAt (p.drop at'.toNat) 0:=by rw[EF p at' 0 ha (apl _),apw]
 have e1:IntKind.i64.wrap (at'+1)=at'+1:=wrap_in (by omega);have e2:IntKind.i64.wrap (at'+2)=at'+2:=wrap_in (by omega);have ed:IntKind.i64.wrap (deep+1)=deep+1:=wrap_in (by omega);have hw1:Sp.wordAt p (at'+1)=Sp.wordAt (p.drop at'.toNat) 1:=(EF p at' 1 ha (by decide)).symm;have hw2:Sp.wordAt p (at'+2)=Sp.wordAt (p.drop at'.toNat) 2:=(EF p at' 2 ha (by decide)).symm;have hlen2:(Sp.wordAt p (at'+2)).length<=1048576:=by
  by_cases hh:at'+2<(p.length:Int)
  .rw[jb hh];exact anx (hws _ (getD_mem (by omega))) (by decide)
  .rw[nU (by omega)];exact ant _
 rw[e1,e2,ed];have hbig:∀k:Nat,k<=1000->k<=big:=λk hk=>pV (by omega);rw[hw1];rw[hw2]at hlen2 ⊢;rw[hw0]at hop ⊢;have alO:(p.drop at'.toNat).drop 1=p.drop (at'+1).toNat:=by rw[ao1,show at'.toNat+1=(at'+1).toNat by omega]
 refine⟨λy=>y=(((cO (Sp.wordAt (p.drop at'.toNat) 0)==0||(decide (deep>9)||decide ((q.length:Int)>9)),()),())),?_,?_⟩
 .cases cO (Sp.wordAt (p.drop at'.toNat) 0)==0 with
  |true=>exact⟨rfl,rfl⟩
  |false=>cases decide (deep>9)<;>exact⟨rfl,rfl⟩
 rintro _ rfl;dsimp only;by_cases akq:deep>9
 .have hd10:deep=10:=by omega
  subst hd10;rw[anF (show(10:Int)>9 by decide),Bool.true_or,aqu];exact⟨rfl,rfl⟩
 rw[anM akq,ap2];have hs:(10-deep).toNat=(10-(deep+1)).toNat+1:=by omega
 have ai9:2 ^ (10-deep).toNat=2*2 ^ (10-(deep+1)).toNat:=by rw[hs,Nat.pow_succ,apQ]
 have hp4:(1:Nat)<=2 ^ (10-(deep+1)).toNat:=apS;rw[ai9]at hb;have hfu:(10-(deep+1)).toNat<jd:=by omega
 rw[hs,Sp.rs,alO];have hrb:=λw s=>JI (10-(deep+1)).toNat w s;have hdd:∀k:Int,0<=k->(p.drop at'.toNat).drop (1+k).toNat=p.drop (at'+(1+k)).toNat:=λk hk=>by rw[ao1,show at'.toNat+(1+k).toNat=(at'+(1+k)).toNat by omega]
 rw[hdd _ (hrb (p.drop (at'+1).toNat) q).2.1];have hfl:(10-(deep+1)).toNat<=10:=by omega
 have hpc:((3*2 ^ (10-(deep+1)).toNat:Nat):Int)=3*2 ^ (10-(deep+1)).toNat:=by push_cast;rfl
 generalize (10-(deep+1)).toNat=d at hrb hb hfu hp4 hfl hpc ⊢;generalize hv:Sp.wordAt (p.drop at'.toNat) 0=w0;rw[hv]at hop;generalize cO w0=op at hop ⊢;refine af (λh0=>?_) λh0=>?_
 .rw[h0];exact⟨rfl,rfl⟩
 rw[h0];have yJ:q.length<=9:=by have:=jC (aoF.1 h0).2;omega
 have ho0:op≠0:=ann.1 (aoF.1 h0).1;clear h0 ai9;have hdp:0<=deep+1/\deep+1<=10:=by omega
 have aja:p.length<=1000/\0<=at'+1/\(at'+1).toNat+3*2 ^ d<=1000000/\0<=deep+1/\deep+1<=10/\(∀x,x∈p->List.length x.1<=1000)/\q.length<=100:=⟨hpl,by omega,by omega,hdp.1,hdp.2,hws,by omega⟩;have ha1:0<=at'+1:=by omega
 have ha2:0<=at'+2:=by omega
 clear hin;rcases(show op=1\/op=2\/op=3\/op=4\/(op=5\/op=6\/op=7)\/op=8\/op=9 by omega)with rfl|rfl|rfl|rfl|h5|rfl|rfl
 .exact⟨λy=>y=((false,()),()),⟨rfl,rfl⟩,by rintro _ rfl;exact⟨λy=>y=((false,()),()),⟨rfl,rfl⟩,by rintro _ rfl;exact⟨trivial,hbig _ (by rw[ano,anw];omega),rfl,rfl⟩⟩⟩
 .exact⟨λy=>y=((true,()),()),⟨rfl,rfl⟩,by rintro _ rfl;exact⟨ha1,hbig _ (by rw[ano,anw];omega),rfl,rfl⟩⟩
 .exact⟨λy=>y=((false,()),()),⟨rfl,rfl⟩,by rintro _ rfl;exact⟨λy=>y=((true,()),()),⟨rfl,rfl⟩,by rintro _ rfl;exact⟨ha1,ha2,hlen2,hbig _ (by rw[ano,anw];omega),rfl,rfl⟩⟩⟩
 .exact⟨λy=>y=((false,()),()),⟨rfl,rfl⟩,by rintro _ rfl;exact⟨λy=>y=((true,()),()),⟨rfl,rfl⟩,by rintro _ rfl;exact⟨ha1,ha2,hlen2,hbig _ (by rw[ano,anw];omega),rfl,rfl⟩⟩⟩
 .have g2:(op==2)=false:=ann.2 (by omega);have g3:(op==3)=false:=ann.2 (by omega);have g4:(op==4)=false:=ann.2 (by omega);have g8:(op==8)=false:=ann.2 (by omega);have g9:(op==9)=false:=ann.2 (by omega);have g57:(decide (5<=op)&&decide (op<=7))=true:=by rw[anF (by omega),anF (by omega)];rfl
  have alP:(op==5||(op==6||op==7))=true:=by rcases h5 with rfl|rfl|rfl<;>rfl
  rw[g2,g3,g4,g8,g9,g57,alP];refine⟨λy=>y=((false,()),()),⟨rfl,rfl⟩,?_⟩;rintro _ rfl;refine⟨λy=>y=((false,()),()),⟨rfl,rfl⟩,?_⟩;rintro _ rfl;refine⟨trivial,⟨aja,hfu⟩,?_⟩;rintro⟨⟨r,k,⟨⟩⟩,⟨⟩⟩ ⟨er,ek⟩;have er:r=(Sp.rs d (p.drop (at'+1).toNat) q).1:=er;have ek:k=(Sp.rs d (p.drop (at'+1).toNat) q).2:=ek;have hb1:=hrb (p.drop (at'+1).toNat) q;rw[← er,← ek]at hb1 ⊢;clear er ek;dsimp only;have hrl:r.length<=20:=by have:=hb1.1;omega
  have hk3:k<3*2 ^ d:=hb1.2.2;have hk1:IntKind.i64.wrap (1+k)=1+k:=wrap_in (by omega);have hk2:IntKind.i64.wrap (at'+(1+k))=at'+(1+k):=wrap_in (by omega);have alQ:IntKind.i64.wrap ((r.length:Int)-1)=(r.length:Int)-1:=wrap_in (by omega);rw[hk1,hk2,alQ];refine af (λh=>?_) λh=>?_
  .rw[h];exact⟨rfl,rfl⟩
  rw[h];have hc2:p.length<=1000/\0<=at'+(1+k)/\(at'+(1+k)).toNat+3*2 ^ d<=1000000/\0<=deep+1/\deep+1<=10/\(∀x,x∈p->List.length x.1<=1000)/\r.length<=100:=⟨hpl,by omega,by omega,hdp.1,hdp.2,hws,by omega⟩;by_cases h55:op=5
  .subst h55;exact⟨hbig _ (by rw[ano,anw];omega),rfl,rfl⟩
  have gn:(op !=5)=true:=aoH.2 h55;have g5:(op==5)=false:=ann.2 h55;rw[gn,g5];refine⟨⟨hc2,hfu⟩,?_⟩;rintro⟨⟨s,m,⟨⟩⟩,⟨⟩⟩ ⟨es,em⟩;have es:s=(Sp.rs d (p.drop (at'+(1+k)).toNat) r).1:=es;have em:m=(Sp.rs d (p.drop (at'+(1+k)).toNat) r).2:=em;have hb2:=hrb (p.drop (at'+(1+k)).toNat) r;rw[← es,← em]at hb2 ⊢;clear es em;dsimp only;have hsl:s.length<=20:=by have:=hb2.1;omega
  have hm3:m<3*2 ^ d:=hb2.2.2;have hm1:IntKind.i64.wrap (1+k+m)=1+k+m:=wrap_in (by omega);have hsl1:IntKind.i64.wrap ((s.length:Int)-1)=(s.length:Int)-1:=wrap_in (by omega);rw[hm1,hsl1];refine af (λh2=>?_) λh2=>?_
  .rw[h2];exact⟨rfl,rfl⟩
  rw[h2];exact⟨hbig _ (by rw[ano,anw];omega),rfl,rfl⟩
 .exact⟨λy=>y=((true,()),()),⟨rfl,rfl⟩,by rintro _ rfl;exact⟨ha1,hbig _ (by rw[ano,anw];omega),rfl,rfl⟩⟩
 .exact⟨λy=>y=((true,()),()),⟨rfl,rfl⟩,by rintro _ rfl;exact⟨ha1,hbig _ (by rw[ano,anw];omega),rfl,rfl⟩⟩
theorem Xf:qw prog G Ei Hf:=
 aib (λn=>@DT ⟨n⟩) (λn=>@qC ⟨n⟩) (by rintro⟨p,at',q,deep,⟨⟩⟩ h;exact aod _ h.2) (by rintro _ ⟨p,at',q,deep,⟨⟩⟩;rfl) (by rintro⟨p,at',q,deep,⟨⟩⟩ h;exact⟨_,h,ao8 _⟩) (by rintro _ ⟨p,at',q,deep,⟨⟩⟩;rfl) λn h=>@L6 ⟨n⟩ h
end Go.Proofs.Tryz
namespace Go.Proofs.Tryz
open Go Go.Fw Go.IntWalk Sp
theorem ac5(s:List UInt8)(h:bZ s=true):fH s=((Sp.rs 10 (Sp.wordsOf s) []).2==((Sp.wordsOf s).length:Int)&&(!(Sp.textOf (Sp.rs 10 (Sp.wordsOf s) []).1==[])&&Sp.textOf (Sp.rs 10 (Sp.wordsOf s) []).1==dX (Sp.wordsOf s))):=by rw[← Xg,SG,h,anQ]
theorem JJ{s:List UInt8}(h:fH s=false):(([]:List aC),false,())=(eH s,fH s,()):=by unfold eH;rw[h];rfl
theorem Fp:OK qm.e:=by
 refine PA.ok mixed (aY [qV.e,lX.e,(Ei,.eff (KI yC) Hf),jP.e] ⟨Dt,yA,⟨Xf,Vk⟩,sK,trivial⟩) TG (by kernel_rfl) (show∀s,qm.goal (Rf s) (s,())from ?_);intro s hin hp;dsimp only[qm]at hp ⊢;have hp:s.length<=1048576:=hp;refine⟨hp,af (λh=>?_) λh=>?_⟩
 .refine JJ ?_;rw[← Xg,SG,jX h];rfl
 have hok:=iD h;obtain⟨hw,hl,hj,_,_⟩:=ku hok;have hpp:=ac5 s hok;have hws:∀x∈Sp.wordsOf s,x.1.length<=1000:=λx hx=>anx (Eo x hx) (anx (mV.1 hok).1 (by decide));rw[hw];refine⟨⟨hl,by decide,by decide,by decide,by decide,hws,by decide⟩,?_⟩;rintro⟨⟨r,k,⟨⟩⟩,⟨⟩⟩ ⟨er,ek⟩;have er:r=(Sp.rs 10 (Sp.wordsOf s) []).1:=er;have ek:k=(Sp.rs 10 (Sp.wordsOf s) []).2:=ek;have hb:=(JI 10 (Sp.wordsOf s) []).1;have hsame:=λhq:fH s=true=>N9 hq;rw[← er]at hb hpp hsame;rw[← ek]at hpp;clear er ek;dsimp only;refine⟨anx hb (by decide),af (λh1=>JJ ?_) λh1=>af (λh2=>JJ ?_) λh2=>⟨⟨hl,hj⟩,af (λh3=>JJ ?_) λh3=>?_⟩⟩
 .have h1:(k==((Sp.wordsOf s).length:Int))=false:=jX h1;rw[hpp,h1];rfl
 .rw[hpp,h2,aon,aoa,anJ]
 .rw[hpp,jX h3,anJ,anJ]
 .have h1:(k==((Sp.wordsOf s).length:Int))=true:=iD h1;have hq:fH s=true:=by rw[hpp,h1,h2,iD h3];rfl
  obtain⟨q1,q2,_⟩:=hsame hq;rw[hq,q2,← q1]
theorem Ko:OK pF.e:=by refine PA.ok mixed (aY [qm.e,lX.e] ⟨Fp,yA,trivial⟩) H0 (by kernel_rfl) (show∀q,pF.goal (Kq q) (q,())from ?_);intro q hin hp;dsimp only[pF]at hp ⊢;have hp:q.length<=2000000:=hp;exact⟨hp,anx (GI q) (by decide),rfl⟩
theorem Rh:OK uS.e:=by
 refine PA.ok mixed (aY [] trivial) TJ (by kernel_rfl) (show∀a0 a1 a2 a3 a4 b0 b1 b2 b3 b4,uS.goal (Ri a0 a1 a2 a3 a4 b0 b1 b2 b3 b4) ((a0,a1,a2,a3,a4,()),(b0,b1,b2,b3,b4,()),())from ?_);intro a0 a1 a2 a3 a4 b0 b1 b2 b3 b4 hin hp;dsimp only[uS]at hp ⊢;have hlen:a4.length<=maxLen:=hin.1.2.2.2.2.1.1;have no:∀{P:Prop},¬P->((false,()):Bool×Unit)=(false,()):=λ_=>rfl;refine⟨λ_=>a0=b0/\a1=b1/\a2=b2/\a3=b3/\a4.length=b4.length,?_,?_⟩
 .refine af (λh=>?_) λh0=>af (λh=>?_) λh1=>af (λh=>?_) λh2=>af (λh=>?_) λh3=>af (λh=>?_) λh4=>⟨rfl,?_⟩
  .exact congrArg (·,()) (anM λe=>(aoH.1 h) (congrArg (·.1) e)).symm
  .exact congrArg (·,()) (anM λe=>(aoH.1 h) (congrArg (·.2.1) e)).symm
  .exact congrArg (·,()) (anM λe=>(ann.1 (jX h)) (congrArg (·.2.2.1) e)).symm
  .exact congrArg (·,()) (anM λe=>(aoH.1 h) (congrArg (·.2.2.2.1) e)).symm
  .exact congrArg (·,()) (anM λe=>(aoH.1 h) (by rw[show a4=b4 from congrArg (·.2.2.2.2.1) e])).symm
  .have g4:(a4.length:Int)=b4.length:=by simpa using h4
   exact⟨by simpa using h0,by simpa using h1,anH.1 (iD h2),by simpa using h3,by omega⟩
 .rintro⟨⟨⟩,⟨⟩⟩ ⟨rfl,rfl,rfl,rfl,hl⟩;rw[maxLen_eq]at hlen;exact YA (K:=λr=>r=(decide ((a0,a1,a2,a3,a4,())=(a0,a1,a2,a3,b4,())),()))
   (λx y=>!(x.1==y.1&&(x.2.1==y.2.1&&(x.2.2.1==y.2.2.1&&(x.2.2.2.1==y.2.2.2.1&&true))))) (λx y=>by simp[aqc]) ([],0,0,[],()) a4 b4 _ hlen hl
   (λe=>by rw[anM λe2=>e (congrArg (·.2.2.2.2.1) e2)]) λe=>by rw[anF (by rw[e])]
theorem Oa:OK rY.e:=by
 refine PA.ok mixed (aY [] trivial) Pz (by kernel_rfl) (show∀a b,rY.goal (Ob a b) (a,b,())from ?_);intro a b hin hp;dsimp only[rY]at hp ⊢;exact eqL (K:=λr=>r=(decide (a=b),())) (λx y=>!(x.1==y.1&&(x.2.1==y.2.1&&(x.2.2.1==y.2.2.1&&(x.2.2.2.1==y.2.2.2.1&&(x.2.2.2.2.1==y.2.2.2.2.1&&(x.2.2.2.2.2.1==y.2.2.2.2.2.1&&(x.2.2.2.2.2.2.1==y.2.2.2.2.2.2.1&&true))))))))
  (λx y=>by simp[aqc]) (0,0,0,[],0,0,[],()) a b _ hin.1.1 rfl
theorem Xh:OK zk.e:=by refine PA.ok mixed (aY [uS.e] ⟨Rh,trivial⟩) H0 (by kernel_rfl) (show∀f0 f1 f2 f3 f4,zk.goal (Xi f0 f1 f2 f3 f4) ((f0,f1,f2,f3,f4,()),())from ?_);intro f0 f1 f2 f3 f4 hin hp;dsimp only[zk]at hp ⊢;exact⟨trivial,rfl⟩
theorem TL:OK wM.e:=by
 refine PA.ok mixed (aY [iq.e,jw.e,lq.e] ⟨jZ,qL,zO,trivial⟩) Vw (by kernel_rfl) (show∀f0 f1 f2 f3 f4,wM.goal (TM f0 f1 f2 f3 f4) ((f0,f1,f2,f3,f4,()),())from ?_);intro f0 f1 f2 f3 f4 hin hp;dsimp only[wM]at hp ⊢;have hp:f4.length<=1048576:=hp;have hbad:∀n,n<f4.length->kJ (f4.getD n ([],0,0,[],()))=false->((false,()):Bool×Unit)=(fC (f0,f1,f2,f3,f4,()),()):=λn hn h=>by have:f4.all kJ=false:=aqo.2 ⟨_,getD_mem hn,by rw[h];decide⟩;unfold fC;rw[show(f0,f1,f2,f3,f4,()).2.2.2.2.1=f4 from rfl,this];rfl
 refine GZ f4.length (by omega) (λn=>∀i,i<n->kJ (f4.getD i ([],0,0,[],()))=true) (λi hi=>absurd hi (aod _)) (λI μ n hn hJ next=>?_) λI μ hJ=>?_
 .dsimp only;rw[anY];have e:kJ (f4.getD n ([],0,0,[],()))=(eP (f4.getD n ([],0,0,[],())).1&&(bg (f4.getD n ([],0,0,[],())).2.1 (f4.getD n ([],0,0,[],())).2.2.1 (f4.getD n ([],0,0,[],())).2.2.2.1&&!((f4.getD n ([],0,0,[],())).2.1==0))):=rfl;have hb:=hbad n hn;refine qN (by omega) ⟨⟨by omega,by omega⟩,trivial,af (λh=>hb ?_) λh=>⟨⟨by omega,by omega⟩,trivial,af (λh2=>hb ?_) λh2=>⟨⟨by omega,by omega⟩,af (λh3=>hb ?_) λh3=>⟨rfl,next ?_⟩⟩⟩⟩
  .rw[e,jX h];rfl
  .rw[e,jX h2,aoa,anJ]
  .rw[e,h3,aon,anJ,anJ]
  .intro i hi;rcases anL i n with h5|h5
   .exact hJ i h5
   .rw[show i=n by omega,e,iD h,iD h2,h3];rfl
 .dsimp only;have hall:f4.all kJ=true:=anI.2 λx hx=>by obtain⟨i,hi,rfl⟩:=aoL.1 hx;have:=hJ i hi;rw[anz,anu hi]at this;exact this
  have e:fC (f0,f1,f2,f3,f4,())=(aN f0&&(aN f1&&aN f3)):=by unfold fC;rw[show(f0,f1,f2,f3,f4,()).2.2.2.2.1=f4 from rfl,hall,anQ]
  rw[e];refine qO (by omega) ⟨trivial,?_⟩;have u:∀n:Int,(decide (0<=n)&&decide (n<=1000000000))=aN n:=λ_=>rfl;rw[u f0,u f1,u f3];cases aN f0 with
  |false=>exact rfl
  |true=>
   refine⟨trivial,?_⟩;cases aN f1 with
   |false=>exact rfl
   |true=>exact⟨trivial,rfl⟩
theorem ajc(a b:List (List UInt8)):Sp.ls (a++b)=Sp.ls a++Sp.ls b:=ao5
theorem Rj:OK uT.e:=by
 refine PA.ok mixed (aY [(lZ,.pure jL),lW.e,lS.e] ⟨⟨um,rJ⟩,D5,vg,trivial⟩) TN (by kernel_rfl) (show∀f0 f1 f2 f3 f4,uT.goal (Rk f0 f1 f2 f3 f4) ((f0,f1,f2,f3,f4,()),())from ?_);intro f0 f1 f2 f3 f4 hin hp;dsimp only[uT]at hp ⊢;obtain⟨hl,ht⟩:f4.length<=1048576/\(dJ f4).length<=1073741824:=hp;have hlong:=(IC (f:=(f0,f1,f2,f3,f4,())) hin.1.1 hin.1.2.1 hin.1.2.2.2.1).1;refine aT (((bif f2 then[115]else[111],()),())) ?_ ⟨trivial,trivial,trivial,?_⟩
 .cases f2<;>exact⟨rfl,rfl⟩
 refine oC (mk:=λi(s:Sp.LS)=>(((),i,()),s,())) (λy=>y.1.2.1) (λ_ _=>rfl) f4.length (by omega)
  (λn s=>s=Sp.ls (Dy::Lib.itoa f0::Lib.itoa f1::(bif f2 then[115]else[111])::Lib.itoa f3::dQ (f4.take n))) rfl (λI μ n s hn hJ next=>?_) λI μ s hJ=>?_
 .subst hJ;dsimp only;rw[anY];refine qN (by omega) ⟨⟨by omega,by omega⟩,trivial,pV ?_,rfl,next _ ?_⟩
  .have:=Ep (f4.take n);rw[anO]at this;simp only[Sp.ls,aob,ano,anw];omega
  .rw[Xj hn];rw[show∀a b c d e,Dy::a::b::c::d::(dQ (f4.take n)++e)=(Dy::a::b::c::d::dQ (f4.take n))++e fromλ_ _ _ _ _=>rfl,ajc];rfl
 .subst hJ;dsimp only;rw[aos (anr _)];have e:List.map (λ(x:List UInt8×Unit)=>x.1) (Sp.ls (Dy::Lib.itoa f0::Lib.itoa f1::(bif f2 then[115]else[111])::Lib.itoa f3::dQ f4))=Dy::Lib.itoa f0::dm (f0,f1,f2,f3,f4,()):=afZ _;rw[e];refine qO (by omega) ⟨⟨?_,anx hlong (by have ht:(dJ (f0,f1,f2,f3,f4,()).2.2.2.2.1).length<=1073741824:=ht;omega)⟩,rfl⟩;have:=Ep f4;simp only[Sp.ls,aob,ano];omega
theorem Xk:OK zi.e:=by
 refine PA.ok mixed (aY [jQ.e,jO.e] ⟨yx,qA,trivial⟩) YF (by kernel_rfl) (show∀f0 f1 f2 f3 f4,zi.goal (Xl f0 f1 f2 f3 f4) ((f0,f1,f2,f3,f4,()),())from ?_);intro f0 f1 f2 f3 f4 hin hp;dsimp only[zi]at hp ⊢;obtain⟨hl,ht⟩:f4.length<=1048576/\(dJ f4).length<=1073741824:=hp;have q1:=oK (n:=f1) hin.1.2.1;have q3:=oK (n:=f3) hin.1.2.2.2.1;have h3:∀a b c:UInt8,([a,b,c]:List UInt8).length=3:=λ_ _ _=>rfl;have h1:([32]:List UInt8).length=1:=rfl;refine⟨trivial,dH (by rw[h3];omega),aT ((Lib.itoa f1++32::((bif f2 then[115]else[111])++[32]),()),()) ?_ ?_⟩
 .cases f2 with
  |true=>exact⟨trivial,dH (by rw[h3];omega),rfl,rfl⟩
  |false=>exact⟨rfl,rfl⟩
 have e0:(bif f2 then[115]else[111]:List UInt8).length=1:=by cases f2<;>rfl
 refine⟨trivial,dH (by simp only[anm,ano,e0,anw];omega),?_⟩;refine oC (mk:=λi s=>((s,i,()),())) (λy=>y.1.2.1) (λ_ _=>rfl) f4.length (by omega)
  (λn s=>s=Lib.itoa f1++32::((bif f2 then[115]else[111])++[32])++Lib.itoa f3++dJ (f4.take n)) (by rw[aps];exact(an4 _).symm) (λI μ n s hn hJ next=>?_) λI μ s hJ=>?_
 .have e:=af0 hn;have hle:=@YG f4 (n+1);have hs:s.length<=50+(dJ (f4.take n)).length:=by rw[hJ];simp only[anm,ano,e0,anw];omega
  have hll:=congrArg List.length e;simp only[anm,ano]at hll;dsimp only;rw[anY];refine qN (by omega) ⟨dH (by rw[h1];omega),⟨by omega,by omega⟩,dH (by rw[anm,h1];omega),dH (by simp only[anm,h1];omega),⟨by omega,by omega⟩,trivial,dH (by simp only[anm,h1];omega),rfl,next _ ?_⟩;rw[e,hJ];simp only[anG,aov,aoh,ap3]
 .subst hJ;dsimp only;refine qO (by omega) ?_;rw[aos (anr _),Zz];simp only[anG,aov,aoh]
end Go.Proofs.Tryz
