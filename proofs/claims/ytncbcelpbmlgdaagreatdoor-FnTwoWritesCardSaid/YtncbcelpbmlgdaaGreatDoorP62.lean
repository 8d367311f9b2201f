import Derived.Deep.AppendLies
import Derived.Deep.RegionLaw
import Derived.BigRegion
import Derived.Test.YtncbcelpbmlgdaaGreatDoorP8
import Derived.Test.YtncbcelpbmlgdaaGreatDoorSp
namespace Go.Proofs.Tryz
open Go Go.Fw Go.RowKit Sp
theorem ak{w:World}{g:Nat}{cur:Array Value}{t:TypeId}{fz:Nat×Nat}(h:w.heap[g]? =some (.cells cur t fz))(k:Nat):w.cell? ⟨g,k,none⟩=cur[k]? :=by simp[World.cell?,h]
theorem bI{w:World}{g:Nat}{cur:Array Value}{t:TypeId}(h:w.heap[g]? =some (.cells cur t (0,0)))(k:Nat):w.frozen? ⟨g,k,none⟩=false:=by simp[World.frozen?,h]
theorem fF{w:World}{g:Nat}{cur:Array Value}{t:TypeId}{fz:Nat×Nat}(h:w.heap[g]? =some (.cells cur t fz))(k:Nat)(v:Value):(w.setCell ⟨g,k,none⟩ v).heap[g]? =some (.cells (cur.setIfInBounds k v) t fz):=by simp only[World.setCell,aro,if_pos,h];rfl
theorem Gg{w:World}{p:Addr}{b:Nat}(v:Value)(h:b≠p.block):(w.setCell p v).heap[b]? =w.heap[b]? :=by simp only[World.setCell,aro,if_neg (aqx h)]
def FW(B:Nat)(W:World)(v:Value)(f:Sp.LS):Prop:=dF W.heap (λb=>b<B) (.sl bW fP) v f
structure Step(W w':World)(P:Nat)(own:Option Nat):Prop where
 os:w'.os=W.os
 tape:w'.tape=W.tape
 output:w'.output=W.output
 size:W.heap.size<=w'.heap.size
 block:∀b,b<W.heap.size->b≠P->own≠some b->w'.heap[b]? =W.heap[b]?
theorem FW.keep{B:Nat}{W w':World}{v:Value}{f:Sp.LS}(h:FW B W v f)(hk:∀b,b<B->w'.heap[b]? =W.heap[b]?):FW B w' v f:=by
 refine⟨h.1,?_⟩;rcases h.2 with h2|⟨b,off,cap,cs,t,fz,h1,h2,h3,h4,h5⟩
 .exact .inl h2
 .exact .inr ⟨b,off,cap,cs,t,fz,h1,h2,h3,(hk b h3).trans h4,λi x hx=>aG.flat (S:=λb=>b<B) _ _ _ rfl (h5 i x hx)⟩
set_option maxHeartbeats 4000000 in
set_option maxRecDepth 100000 in
theorem vY(B P:Nat)(W:World)(vf vn:Value)(f:Sp.LS)(CU:B<=P)(hP:W.heap[P]? =some (.cells #[vf,vn] 173 (0,0)))(hf:FW B W vf f):
 Calls prog 189 #[.pointer (some ⟨P,0,none⟩)] W λe w'=>e=.returned (.string ⟨(Sp.wordAt f 0).toArray⟩)/\∃Fb,FW B w' Fb (f.drop 1)/\w'.heap[P]? =some (.cells #[Fb,vn] 173 (0,0))/\Step W w' P none:=by
 have mixed:=Tryz.mixed;have c0:W.cell? ⟨P,0,none⟩=some vf:=ak hP 0;have z0:W.frozen? ⟨P,0,none⟩=false:=bI hP 0;obtain⟨hml,hcase⟩:=id hf;rcases hcase with⟨e1,a,c,rfl⟩|⟨b,off,cap,cs,t,fz,rfl,hcap,hb,hbl,hx⟩
 .subst e1
  go_enter Tryz.func189,Tryz.ntmps189
  go_wp2
  go_ret
  exact⟨rfl,_,hf,hP,rfl,rfl,rfl,aoP _,λ_ _ _ _=>rfl⟩
 .cases f with
  |nil=>
   go_enter Tryz.func189,Tryz.ntmps189
   go_wp2
   go_ret
   exact⟨rfl,_,hf,hP,rfl,rfl,rfl,aoP _,λ_ _ _ _=>rfl⟩
  |cons x r=>
   have hx0:=hx 0 x rfl;obtain⟨u,us,e1,⟨e2,_⟩,_⟩:=hx0;have cx:W.cell? ⟨b,off,none⟩=some (.string ⟨x.1.toArray⟩):=by rw[ak hbl,← e2];have h0:=congrArg (λl=>l[0]?) e1;have h0:((cs.toList.drop (off+0*1)).take 1)[0]? =some u:=h0;simpa[apm,apo]using h0
   have hl:(x::r).length=r.length+1:=rfl;rw[hl]at hcap c0 hml;have hrl:¬((r.length+1:Nat):Int)=0:=by omega
   have hw:Sp.wordAt (x::r) 0=x.1:=dR x r;rw[hw];have hr:FW B W (.slice (if cap=1 then some ⟨b,off,none⟩else some ⟨b,off+1,none⟩) r.length (cap-1)) r:=by
    refine⟨by have:=hml;omega,?_⟩;by_cases h1:cap=1
    .have hr0:r=[]:=apE.1 (by omega);subst hr0;exact .inl ⟨rfl,_,_,rfl⟩
    .rw[if_neg h1];refine .inr ⟨b,off+1,cap-1,cs,t,fz,rfl,by omega,hb,hbl,λi y hy=>?_⟩;have:=hx (i+1) y (by simpa using hy);rw[show off+1+i*fP.len=off+(i+1)*fP.len by show off+1+i*1=off+(i+1)*1;omega];exact this
   generalize r.length=n at*
   go_enter Tryz.func189,Tryz.ntmps189
   go_wp2
   all_goals go_ret
   all_goals refine⟨rfl,_,FW.keep (W:=W) ?_ λb' hb'=>Gg _ (show b'≠P by omega),fF hP 0 _,rfl,rfl,rfl,by simp[World.setCell],λb' _ hb' _=>Gg _ hb'⟩
   .rw[if_pos h,show cap-1=0 by omega]at hr;exact hr
   .rw[if_neg h]at hr;exact hr
theorem akA(op:Int)(h:-9223372036854775808<=op/\op<=9223372036854775807)(w:World)(hG:G.ok w):Calls prog 151 #[.int .i64 op] w λe w'=>e=.returned (.string ⟨(fH op).toArray⟩)/\Below w.heap.size w w':=by have hc:gu prog G 151 (iV jT.sh jT.cO jT.F):=Fa.1;refine(hc [.sv (.one (.int .i64 op))] True ⟨[(false,[.plain (.str (fH op))])],none⟩ 0 (λ_=>True) #[.int .i64 op] w rfl trivial hG ⟨⟨rfl,h⟩,trivial⟩).mono ?_;rintro e w' ⟨v,vals,rfl,h1,h2,h3,h4,h5,h6,_,_⟩;have h6:v=.string ⟨(fH op).toArray⟩/\(fH op).length<=maxLen:=h6;exact⟨by rw[h6.1],h1,h2,h3,h4,h5⟩
theorem ae6(s:List UInt8)(hs:s.length<=1048576)(w:World)(hG:G.ok w):Calls prog 152 #[.string ⟨s.toArray⟩] w λe w'=>
 e=.returned (.tuple #[.agg #[.int .i64 (bU s).1.1,.int .i64 (bU s).1.2.1,.string ⟨(bU s).1.2.2.1.toArray⟩],.bool (bU s).2])/\Below w.heap.size w w'/\
  (-9223372036854775808<=(bU s).1.1/\(bU s).1.1<=9223372036854775807)/\(-9223372036854775808<=(bU s).1.2.1/\(bU s).1.2.1<=9223372036854775807)/\(bU s).1.2.2.1.length<=maxLen:=by
 have hc:gu prog G 152 (iV kN.sh kN.cO kN.F):=ED.1;refine(hc [.sv (.one (.str s))] (s.length<=1048576) _ 0 (λ_=>True) #[.string ⟨s.toArray⟩] w rfl hs hG ⟨⟨rfl,by rw[maxLen_eq];omega⟩,trivial⟩).mono ?_;rintro e w' ⟨v,vals,rfl,h1,h2,h3,h4,h5,h6,_,_⟩;obtain⟨vs,rfl,h7⟩:=h6;obtain⟨l⟩:=vs
 match l,h7 with
 |[a,b],h7=>
  obtain⟨⟨us,ea,h8⟩,h9,_⟩:=h7;obtain⟨ul⟩:=us
  match ul,h8 with
  |[x,y,z],h8=>obtain⟨x1,y1,z1,_⟩:=h8;have h9:b=.bool (bU s).2:=h9;rw[ea,h9,x1.1,y1.1,z1.1];exact⟨rfl,⟨h1,h2,h3,h4,h5⟩,x1.2,y1.2,z1.2⟩
def NW(B P:Nat)(W:World)(v:Value)(q:List ax):Prop:=
 ∃xs,W.ownsRow B 168 7 v q.length xs/\v.ownBlock≠some P/\∀i x,q[i]? =some x->aG #[] (λ_=>False) dL ((xs.drop (i*7)).take 7) x
def aY(op l r:Int)(s:List UInt8)(k n:Int)(t:List UInt8):Array Value:=#[.int .i64 op,.int .i64 l,.int .i64 r,.string ⟨s.toArray⟩,.int .i64 k,.int .i64 n,.string ⟨t.toArray⟩]
theorem Hf{W w':World}{base size n:Nat}{e:TypeId}{v:Value}{xs:List Value}(h:W.ownsRow base e size v n xs)(hk:∀g,v.ownBlock=some g->w'.heap[g]? =W.heap[g]?):w'.ownsRow base e size v n xs:=by
 refine⟨h.1,?_⟩;rcases h.2 with h2|⟨g,cap,cur,rfl,h3,h4,h5⟩
 .exact .inl h2
 .exact .inr ⟨g,cap,cur,rfl,h3,(hk g rfl).trans h4,h5⟩
theorem rP:(prog.info? 168).map (λi=>(i.zero,i.size,i.bytes))=some (some (.agg (aY 0 0 0 [] 0 0 [])),7,72):=by kernel_rfl
theorem nR(op l r:Int)(s:List UInt8)(k n:Int)(t:List UInt8):∀u∈(aY op l r s k n t).toList,u.oneCell'=true:=by intro u hu;simp[aY]at hu;rcases hu with rfl|rfl|rfl|rfl|rfl|rfl|rfl<;>rfl
def zk(n:Int):Prop:=-9223372036854775808<=n/\n<=9223372036854775807
theorem o9{op l r:Int}{s:List UInt8}{k n:Int}{t:List UInt8}(h1:zk op)(h2:zk l)(h3:zk r)(h4:s.length<=maxLen)(h5:zk k)(h6:zk n)(h7:t.length<=maxLen):
 aG #[] (λ_=>False) dL (aY op l r s k n t).toList (op,l,r,s,k,n,t,()):=
 ⟨_,_,rfl,⟨rfl,h1⟩,_,_,rfl,⟨rfl,h2⟩,_,_,rfl,⟨rfl,h3⟩,_,_,rfl,⟨rfl,h4⟩,_,_,rfl,⟨rfl,h5⟩,_,_,rfl,⟨rfl,h6⟩,_,_,rfl,⟨rfl,h7⟩,rfl⟩
structure EF(B P N:Nat)(W:World)(adi:Option Nat)(w:World)(vf vn:Value)(f:Sp.LS)(q:List ax):Prop where
 gl:G.ok w
 cells:w.heap[P]? =some (.cells #[vf,vn] 173 (0,0))
 words:FW B w vf f
 nodes:NW B P w vn q
 step:Step W w P adi
 fresh:∀g,vn.ownBlock=some g->adi=some g\/W.heap.size<=g
 ZF:vn.ownBlock≠some N
 old:W.heap.size<=N
 lt:N<w.heap.size
 low:5<=B/\B<=P/\P<W.heap.size
def Done(B P:Nat)(W:World)(adi:Option Nat)(f:Sp.LS)(q:List ax)(w:World):Prop:=
 ∃vf vn,w.heap[P]? =some (.cells #[vf,vn] 173 (0,0))/\FW B w vf f/\NW B P w vn q/\Step W w P adi/\∀g,vn.ownBlock=some g->adi=some g\/W.heap.size<=g
theorem Step.refl(w:World)(P:Nat)(own:Option Nat):Step w w P own:=⟨rfl,rfl,rfl,aoP _,λ_ _ _ _=>rfl⟩
theorem Step.trans{a b c:World}{P:Nat}{o o':Option Nat}(h:Step a b P o)(k:Step b c P o')(hf:∀g,o'=some g->o=some g\/a.heap.size<=g):Step a c P o:=
 ⟨k.os.trans h.os,k.tape.trans h.tape,k.output.trans h.output,aoW h.size k.size,λx hx hP ho=>(k.block x (apd hx h.size) hP λe=>by
   rcases hf x e with h1|h1
   .exact ho h1
   .omega).trans (h.block x hx hP ho)⟩
theorem Step.below{a b c:World}{P:Nat}{o:Option Nat}(h:Step a b P o)(k:Below b.heap.size b c):Step a c P o:=
 ⟨k.os.trans h.os,k.tape.trans h.tape,k.output.trans h.output,aoW h.size k.size,λx hx hP ho=>(k.block x (apd hx h.size)).trans (h.block x hx hP ho)⟩
theorem NW.keep{B P:Nat}{w w':World}{v:Value}{q:List ax}(h:NW B P w v q)(hk:∀g,v.ownBlock=some g->w'.heap[g]? =w.heap[g]?):NW B P w' v q:=by obtain⟨xs,h1,h2,h3⟩:=h;exact⟨xs,Hf h1 hk,h2,h3⟩
theorem NW.lt{B P:Nat}{w:World}{v:Value}{q:List ax}(h:NW B P w v q){g:Nat}(hg:v.ownBlock=some g):B<=g/\g<w.heap.size/\g≠P:=by obtain⟨xs,h1,h2,_⟩:=h;exact⟨(h1.lt g hg).1,(h1.lt g hg).2,λe=>h2 (by rw[hg,e])⟩
theorem EF.below{B P N:Nat}{W:World}{o:Option Nat}{w w':World}{vf vn:Value}{f:Sp.LS}{q:List ax}(h:EF B P N W o w vf vn f q)(k:Below w.heap.size w w'):EF B P N W o w' vf vn f q:=by have hP:P<w.heap.size:=apd h.low.2.2 h.step.size;exact⟨iR h.gl k,(k.block P hP).trans h.cells,h.words.keep λb hb=>k.block b (by have:=h.low;omega),h.nodes.keep λg hg=>k.block g (h.nodes.lt hg).2.1,h.step.below k,h.fresh,h.ZF,h.old,apd h.lt k.size,h.low⟩
theorem EF.vO{B P N:Nat}{W:World}{o:Option Nat}{w:World}{vf vn:Value}{f:Sp.LS}{q:List ax}(h:EF B P N W o w vf vn f q)(k:Nat)(v:Value):EF B P N W o (w.setCell ⟨N,k,none⟩ v) vf vn f q:=by
 have hl:=h.low;have ho:=h.old;have far:∀b,b≠N->(w.setCell ⟨N,k,none⟩ v).heap[b]? =w.heap[b]? :=λb hb=>Gg v hb;have hs:(w.setCell ⟨N,k,none⟩ v).heap.size=w.heap.size:=by simp[World.setCell]
 refine⟨G.stable _ _ h.gl (by rw[hs];exact aoP _) λb hb=>far b (by have:b<5:=hb;omega),(far P (by omega)).trans h.cells,h.words.keep λb hb=>far b (by omega),h.nodes.keep λg hg=>far g (λe=>h.ZF (by rw[hg,e])),?_,h.fresh,h.ZF,ho,by rw[hs];exact h.lt,hl⟩;exact⟨h.step.os,h.step.tape,h.step.output,by rw[hs];exact h.step.size,λx hx hP hoo=>(far x (by omega)).trans (h.step.block x hx hP hoo)⟩
theorem G_step{W w':World}{P B:Nat}{own:Option Nat}(U6:5<=B)(CU:B<=P)(hG:G.ok W)(h:Step W w' P own)(ho:∀b,own=some b->B<=b):G.ok w':=
 G.stable W w' hG h.size λb hb=>h.block b (apd hb (G.low W hG)) (by have:b<5:=hb;omega) λe=>by have:=ho b e;have:b<5:=hb;omega
theorem EF.next{B P N:Nat}{W:World}{o:Option Nat}{w w':World}{vf vn Fb:Value}{f f':Sp.LS}{q:List ax}(h:EF B P N W o w vf vn f q)(h1:FW B w' Fb f')(h2:w'.heap[P]? =some (.cells #[Fb,vn] 173 (0,0)))(h3:Step w w' P none):EF B P N W o w' Fb vn f' q/\w'.heap[N]? =w.heap[N]? :=by have hl:=h.low;have ho:=h.old;exact⟨⟨G_step hl.1 hl.2.1 h.gl h3 (λb e=>by cases e),h2,h1,h.nodes.keep λg hg=>h3.block g (h.nodes.lt hg).2.1 (h.nodes.lt hg).2.2 (λe=>by cases e),h.step.trans h3 (λg e=>by cases e),h.fresh,h.ZF,ho,apd h.lt h3.size,hl⟩,h3.block N h.lt (by omega) (λe=>by cases e)⟩
theorem EF.read{B P N:Nat}{W:World}{o:Option Nat}{w w':World}{vf vn:Value}{f f':Sp.LS}{q q':List ax}(h:EF B P N W o w vf vn f q)(k:Done B P w vn.ownBlock f' q' w'):(∃Fb Yl,EF B P N W o w' Fb Yl f' q')/\w'.heap[N]? =w.heap[N]? :=by
 have hl:=h.low;have ho:=h.old;have hN:=h.lt;obtain⟨Fb,Yl,h1,h2,h3,h4,h5⟩:=k;refine⟨⟨Fb,Yl,G_step hl.1 hl.2.1 h.gl h4 (λb e=>(h.nodes.lt e).1),h1,h2,h3,h.step.trans h4 h.fresh,λg hg=>?_,λe=>?_,ho,apd h.lt h4.size,hl⟩,h4.block N h.lt (by omega) (λe=>h.ZF e)⟩
 .rcases h5 g hg with e|e
  .exact h.fresh g e
  .exact .inr (aoW h.step.size e)
 .rcases h5 N e with e|e
  .exact h.ZF e
  .omega
theorem EF.put{B P N:Nat}{W:World}{o:Option Nat}{w w0 w5:World}{vf vn:Value}{f:Sp.LS}{q:List ax}(h:EF B P N W o w vf vn f q)(hb:Below w.heap.size w w0){xs:List Value}(hown:w.ownsRow B 168 7 vn q.length xs)
 (hrep:∀i x,q[i]? =some x->aG #[] (λ_=>False) dL ((xs.drop (i*7)).take 7) x) {op l r:Int} {s:List UInt8} {k n:Int} {t:List UInt8} (hx:aG #[] (λ_=>False) dL (aY op l r s k n t).toList (op,l,r,s,k,n,t,()))
 {g cap:Nat} (h5:w5.ownsRow B 168 7 (.slice (some ⟨g,0,none⟩) (q.length+1) cap) (q.length+1) (xs++(aY op l r s k n t).toList)) (hg:w0.grownBy w5 vn.ownBlock) (hat:vn.ownBlock=some g\/g=w0.heap.size) (hlt:g<w5.heap.size):
 Done B P W o f (q++[(op,l,r,s,k,n,t,())]) (w5.setCell ⟨P,1,none⟩ (.slice (some ⟨g,0,none⟩) (q.length+1) cap)):=by
 have hl:=h.low;have ho:=h.old;have hPw:P<w.heap.size:=apd hl.2.2 h.step.size;have hPn:vn.ownBlock≠some P:=λe=>(h.nodes.lt e).2.2 rfl;have hgP:g≠P:=by
  rcases hat with e|e
  .exactλe2=>hPn (by rw[e,e2])
  .have:=hb.size;omega
 have same:∀b,b<w.heap.size->vn.ownBlock≠some b->w5.heap[b]? =w.heap[b]? :=λb hlb hnb=>(hg.block b (apd hlb hb.size) (λe=>hnb e.symm)).trans (hb.block b hlb);have far:∀b,b≠P->(w5.setCell ⟨P,1,none⟩ (.slice (some ⟨g,0,none⟩) (q.length+1) cap)).heap[b]? =w5.heap[b]? :=λb hb=>Gg _ hb;have iU:=(same P hPw hPn).trans h.cells;have hs5:(w5.setCell ⟨P,1,none⟩ (.slice (some ⟨g,0,none⟩) (q.length+1) cap)).heap.size=w5.heap.size:=by simp[World.setCell]
 have hsz:w.heap.size<=w5.heap.size:=aoW hb.size hg.size;refine⟨vf,.slice (some ⟨g,0,none⟩) (q.length+1) cap,fF iU 1 _,h.words.keep λb hb=>?_,⟨xs++(aY op l r s k n t).toList,?_,λe=>hgP (by cases e;rfl),λi x hi=>?_⟩,?_,λg' hg'=>?_⟩
 .exact(far b (by omega)).trans (same b (by omega) λe=>by have:=(h.nodes.lt e).1;omega)
 .rw[aoK];exact Hf h5 λg' hg'=>far g' (by cases hg';exact hgP)
 .have hxl:xs.length=q.length*7:=hown.1;rcases apa i q.length with hi'|hi'
  .rw[apt hi']at hi;have:=hrep i x hi;rw[ap8 (by rw[hxl];omega),aqw (by rw[apj,hxl];omega)];exact this
  .rw[apk hi']at hi;have e0:i=q.length:=by have:=(aoY.1 hi).1;simp at this;omega
   subst e0;rw[aqV]at hi;cases hi;rw[← hxl,arF];exact hx
 .refine⟨hg.os.trans (hb.os.trans h.step.os),hg.tape.trans (hb.tape.trans h.step.tape),hg.output.trans (hb.output.trans h.step.output),by rw[hs5];exact aoW h.step.size hsz,λb hlb hbP hob=>?_⟩;refine(far b hbP).trans ((same b (apd hlb h.step.size) λe=>?_).trans (h.step.block b hlb hbP hob));rcases h.fresh b e with e2|e2
  .exact hob e2
  .omega
 .have hg':some g=some g':=hg';cases hg';rcases hat with e|e
  .exact h.fresh g e
  .right;have:=hb.size;have:=h.step.size;omega
theorem rQ{B P:Nat}{W:World}{o:Option Nat}{w:World}{b c:Bool}{f:Sp.LS}{q:List ax}{z:Bool×Sp.LS×List ax}(e:Hid (z=(c,f,q)))(hb:Ending.returned (.bool b)=Ending.returned (.bool c))(h:Done B P W o f q w):Ending.returned (.bool b)=Ending.returned (.bool z.1)/\Done B P W o z.2.1 z.2.2 w:=by rw[e.out];exact⟨hb,h⟩
theorem DK{k:Nat}{f:Sp.LS}{q:List ax}{op:Int}(h:op=dQ (Sp.wordAt f 0))(c:op=0\/op=1):Sp.rd (k+1) f q=(!(op==0),f.drop 1,q++[(op,0,0,[],0,0,[],())]):=by rw[Sp.rd,← h];rcases c with rfl|rfl<;>rfl
theorem Hg{k:Nat}{f:Sp.LS}{q:List ax}{op:Int}(h:op=dQ (Sp.wordAt f 0))(c:op=2\/op=8\/op=9):Sp.rd (k+1) f q=(true,(f.drop 1).drop 1,q++[(op,0,0,Sp.wordAt (f.drop 1) 0,0,0,[],())]):=by rw[Sp.rd,← h];rcases c with rfl|rfl|rfl<;>rfl
theorem NS{k:Nat}{f:Sp.LS}{q:List ax}{op:Int}(h:op=dQ (Sp.wordAt f 0))(c:op=3\/op=4):Sp.rd (k+1) f q=((bU (Sp.wordAt ((f.drop 1).drop 1) 0)).2,((f.drop 1).drop 1).drop 1,q++[(op,0,0,Sp.wordAt (f.drop 1) 0,(bU (Sp.wordAt ((f.drop 1).drop 1) 0)).1)]):=by rw[Sp.rd,← h];rcases c with rfl|rfl<;>rfl
theorem adk{k:Nat}{f:Sp.LS}{q:List ax}(h:(5:Int)=dQ (Sp.wordAt f 0)):Sp.rd (k+1) f q=((Sp.rd k (f.drop 1) q).1,(Sp.rd k (f.drop 1) q).2.1,(Sp.rd k (f.drop 1) q).2.2++[(5,((Sp.rd k (f.drop 1) q).2.2.length:Int)-1,0,[],0,0,[],())]):=by rw[Sp.rd,← h];rfl
theorem Tv{k:Nat}{f:Sp.LS}{q:List ax}{op:Int}(h:op=dQ (Sp.wordAt f 0))(c:op=6\/op=7)(h1:(Sp.rd k (f.drop 1) q).1=true):Sp.rd (k+1) f q=((Sp.rd k (Sp.rd k (f.drop 1) q).2.1 (Sp.rd k (f.drop 1) q).2.2).1,(Sp.rd k (Sp.rd k (f.drop 1) q).2.1 (Sp.rd k (f.drop 1) q).2.2).2.1,
 (Sp.rd k (Sp.rd k (f.drop 1) q).2.1 (Sp.rd k (f.drop 1) q).2.2).2.2++[(op,((Sp.rd k (f.drop 1) q).2.2.length:Int)-1,((Sp.rd k (Sp.rd k (f.drop 1) q).2.1 (Sp.rd k (f.drop 1) q).2.2).2.2.length:Int)-1,[],0,0,[],())]):=by
 rw[Sp.rd,← h,h1];rcases c with rfl|rfl<;>rfl
theorem Ym{k:Nat}{f:Sp.LS}{q:List ax}{op:Int}(h:op=dQ (Sp.wordAt f 0))(c:op=6\/op=7)(h1:(Sp.rd k (f.drop 1) q).1=false):Sp.rd (k+1) f q=(false,(Sp.rd k (f.drop 1) q).2.1,
 (Sp.rd k (f.drop 1) q).2.2++[(op,((Sp.rd k (f.drop 1) q).2.2.length:Int)-1,((Sp.rd k (f.drop 1) q).2.2.length:Int)-1,[],0,0,[],())]):=by
 rw[Sp.rd,← h,h1];rcases c with rfl|rfl<;>rfl
theorem uh:∀(k:Nat)(w:Sp.LS)(q:List ax),(Sp.rd k w q).2.2.length+2*(Sp.rd k w q).2.1.length<=q.length+2*w.length+1
 |0,w,q=>Nat.le_succ _
 |k+1,w,q=>by
  have hd:(w.drop 1).length=w.length-1:=apj;rcases zl (Sp.wordAt w 0)with h0|⟨hc,_⟩
  .rw[DK h0.symm (.inl rfl)];simp only[aoK,aoO,ao5,hd];omega
  have hne:0<w.length:=by obtain⟨r,e,_⟩:=ZG (w:=w) (by omega);rw[e,aoO];omega
  have d2:((w.drop 1).drop 1).length<=w.length-1:=by rw[apj];omega
  have d3:(((w.drop 1).drop 1).drop 1).length<=w.length-1:=by rw[apj];omega
  have i1:=uh k (w.drop 1) q;generalize ho:dQ (Sp.wordAt w 0)=op at hc;rcases(show op=1\/(op=2\/op=8\/op=9)\/(op=3\/op=4)\/op=5\/(op=6\/op=7) by omega)with c|c|c|c|c
  .rw[DK ho.symm (.inr c)];simp only[aoK,aoO,ao5,hd];omega
  .rw[Hg ho.symm c];simp only[aoK,aoO,ao5];omega
  .rw[NS ho.symm c];simp only[aoK,aoO,ao5];omega
  .subst c;rw[adk ho.symm];simp only[aoK,aoO,ao5];omega
  .cases h1:(Sp.rd k (w.drop 1) q).1 with
   |true=>
    have i2:=uh k (Sp.rd k (w.drop 1) q).2.1 (Sp.rd k (w.drop 1) q).2.2;rw[Tv ho.symm c h1];simp only[aoK,aoO,ao5];omega
   |false=>rw[Ym ho.symm c h1];simp only[aoK,aoO,ao5];omega
theorem NW.form{B P:Nat}{w:World}{v:Value}{q:List ax}(h:NW B P w v q):∃a cap,v=.slice a q.length cap:=by
 obtain⟨xs,h1,_,_⟩:=h;rcases h1.2 with⟨e,e2⟩|⟨g,cap,cur,e,_⟩
 .exact⟨none,0,by rw[e,e2]⟩
 .exact⟨_,_,e⟩
theorem AX{f:Sp.LS}(h:∀x∈f,x.1.length<=1000)(i:Int):(Sp.wordAt f i).length<=1000:=by
 by_cases hh:i<(f.length:Int)
 .rw[yQ hh,aoN];cases e:f[i.toNat]? with
  |none=>exact apb _
  |some x=>exact h x (apu e)
 .rw[Bq (by omega)];exact apb _
theorem oC{f:Sp.LS}(h:∀x∈f,x.1.length<=1000)(i:Nat):∀x∈f.drop i,x.1.length<=1000:=λx hx=>h x (aqc hx)
theorem uj:∀(k:Nat)(w:Sp.LS)(q:List ax),(∀x∈w,x.1.length<=1000)->∀x∈(Sp.rd k w q).2.1,x.1.length<=1000
 |0,_,_,h=>h
 |k+1,w,q,h=>by
  have i1:=uj k (w.drop 1) q (oC h 1);rcases zl (Sp.wordAt w 0)with h0|⟨hc,_⟩
  .rw[DK h0.symm (.inl rfl)];exact oC h 1
  generalize ho:dQ (Sp.wordAt w 0)=op at hc;rcases(show op=1\/(op=2\/op=8\/op=9)\/(op=3\/op=4)\/op=5\/(op=6\/op=7) by omega)with c|c|c|c|c
  .rw[DK ho.symm (.inr c)];exact oC h 1
  .rw[Hg ho.symm c];exact oC (oC h 1) 1
  .rw[NS ho.symm c];exact oC (oC (oC h 1) 1) 1
  .subst c;rw[adk ho.symm];exact i1
  .cases h1:(Sp.rd k (w.drop 1) q).1 with
   |true=>rw[Tv ho.symm c h1];exact uj k _ _ i1
   |false=>rw[Ym ho.symm c h1];exact i1
theorem RH{f:Sp.LS}{op:Int}(h:op=dQ (Sp.wordAt f 0))(h0:op≠0):(f.drop 1).length<f.length:=by obtain⟨r,e,_⟩:=ZG (w:=f) (by omega);rw[e];exact aqM _
def Reads(k:Nat):Prop:=∀(B P:Nat)(W:World)(vf vn:Value)(f:Sp.LS)(q:List ax),f.length<k->5<=B->B<=P->G.ok W->W.heap[P]? =some (.cells #[vf,vn] 173 (0,0))->FW B W vf f->NW B P W vn q->
    (∀x∈f,x.1.length<=1000)->q.length+2*f.length+1<=1000->
    Calls prog 154 #[.pointer (some ⟨P,0,none⟩)] W λe w'=>e=.returned (.bool (Sp.rd k f q).1)/\Done B P W vn.ownBlock (Sp.rd k f q).2.1 (Sp.rd k f q).2.2 w'
set_option maxHeartbeats 16000000 in
set_option maxRecDepth 100000 in
theorem ahT(k:Nat)(ih:Hid (Reads k)):Reads (k+1):=by
 intro B P W vf vn f q hk U6 CU hG hP hf hn hfx hq;have mixed:=Tryz.mixed
 go_enter Tryz.func154,Tryz.ntmps154
 go_wp2_with (first
  |(go_at_call 189;refine(vY B P _ vf vn f CU hP hf).mono ?_;rintro e W1 ⟨rfl,RI,hf1,hP1,hs1⟩))
 have hG1:=G_step U6 CU hG hs1 (λb h=>by cases h);have hword:∃word,Hid (word=Sp.wordAt f 0)/\word=Sp.wordAt f 0:=⟨_,rfl,rfl⟩;obtain⟨word,hword,hw2⟩:=hword;rw[← hw2];clear hw2;have anG:P<W1.heap.size:=(aoV.1 hP1).1;have hPW:P<W.heap.size:=(aoV.1 hP).1
 go_loopw [5] (λi wr=>∃n:Nat,n<=9/\i=.int .i64 ((n+1:Nat):Int)/\wr.heap[W1.heap.size]? =some (.cells (aY (LD word n) 0 0 [] 0 0 []) 168 (0,0))/\Below W1.heap.size W1 wr)
  (λi _=>10-(intOf i).toNat)
 case atStart=>refine⟨0,by decide,rfl,?_,(Below.alloc (Below.refl _ _) (aoP _) _)⟩;exact apv W1 _
 case round=>
  obtain⟨n,hn9,rfl,hrow,hbel⟩:=hrel;rcases apa n 9 with hlt|hge
  .have hlt':((n+1:Nat):Int)<=9:=by omega
   have hGr:G.ok wr:=iR hG1 hbel;have hz:=bI hrow 0;have e1:LD word (n+1)=bif word==fH ((n:Int)+1)then(n:Int)+1 else LD word n:=rfl
   have kw:=akA ((n+1:Nat):Int) (by omega) wr hGr;obtain⟨t,ht,ht2⟩:∃t,Hid (t=fH ((n:Int)+1))/\t=fH ((n+1:Nat):Int):=⟨_,rfl,rfl⟩;rw[← ht2]at kw;clear ht2;by_cases hk:t=word
   .subst hk
    go_wp2_with (first
     |(go_at_call 151;refine kw.mono ?_;rintro e w2 ⟨rfl,hb2⟩;have hrow2:=(hb2.block _ (aoV.1 hrow).1).trans hrow;have hz2:=bI hrow2 0;have hc2:=ak hrow2 0))
    all_goals go_roundw
    case measure=>simp only[intOf];omega
    case rel=>refine⟨n+1,hlt,by go_num,(fF hrow2 0 _).trans ?_,(hbel.trans (hb2.mono (arB (aoV.1 hrow).1))).setCell (aoP _) _⟩;rw[e1,← ht.out,aqL];rfl
   .have hk2:(t==word)=false:=aoL.2 hk
    go_wp2_with (first
     |(go_at_call 151;refine kw.mono ?_;rintro e w2 ⟨rfl,hb2⟩;have hrow2:=(hb2.block _ (aoV.1 hrow).1).trans hrow;have hz2:=bI hrow2 0;have hc2:=ak hrow2 0))
    all_goals go_roundw
    case measure=>simp only[intOf];omega
    case rel=>refine⟨n+1,hlt,by go_num,hrow2.trans ?_,hbel.trans (hb2.mono (arB (aoV.1 hrow).1))⟩;rw[e1,← ht.out,aoL.2 (aqx hk)];rfl
  .have hge':¬((n+1:Nat):Int)<=9:=by omega
   obtain rfl:n=9:=by omega
   rw[agr]at hrow;have hrg:=ags word;obtain⟨op,hop,hop2⟩:∃op,Hid (op=dQ (Sp.wordAt f 0))/\op=dQ word:=⟨_,congrArg dQ hword.out,rfl⟩;rw[← hop2]at hrow hrg;clear hop2;have hNr:=(aoV.1 hrow).1;have hR:EF B P W1.heap.size W vn.ownBlock wr RI vn (f.drop 1) q:=by
    have hPr:=(hbel.block _ anG).trans hP1;refine⟨iR hG1 hbel,hPr,hf1.keep λb hb=>hbel.block b (by omega),hn.keep λg hg=>?_,?_,λg hg=>.inl hg,λe=>?_,hs1.size,hNr,U6,CU,hPW⟩
    .have hgl:=hn.lt hg;exact(hbel.block g (apd hgl.2.1 hs1.size)).trans (hs1.block g hgl.2.1 hgl.2.2 (λe=>by cases e))
    .exact⟨hbel.os.trans hs1.os,hbel.tape.trans hs1.tape,hbel.output.trans hs1.output,aoW hs1.size hbel.size,λb hb hbP _=>(hbel.block b (apd hb hs1.size)).trans (hs1.block b hb hbP (λe=>by cases e))⟩
    .have:=(hn.lt e).2.1;have:=hs1.size;omega
   clear hbel hn hf hP hf1 hP1;have hz1:=bI hrow 1;have hz2:=bI hrow 2;have hz3:=bI hrow 3;have hz4:=bI hrow 4;have hz5:=bI hrow 5;have hz6:=bI hrow 6;have zG:=oC hfx 1;have alk:=oC zG 1;have c0:wr.cell? ⟨W1.heap.size,0,none⟩=some (.int .i64 op):=ak hrow 0;have n0:zk 0:=⟨by decide,by decide⟩;have m0:([]:List UInt8).length<=maxLen:=apb _;rcases(show op=0\/op=1\/op=2\/op=8\/op=9\/op=3\/op=4\/op=5\/op=6\/op=7 by omega)with rfl|rfl|rfl|rfl|rfl|rfl|rfl|rfl|rfl|rfl
   .have he:Hid _:=DK (k:=k) (q:=q) hop.out (by decide);have hx:=o9 (op:=0) ⟨by decide,by decide⟩ n0 n0 m0 n0 n0 m0
    go_wp2
    obtain⟨xs,hown,qJ,hrep⟩:=hR.nodes;have c0:wr.cell? ⟨W1.heap.size,0,none⟩=some (.int .i64 (0)):=ak hrow 0;have c1:wr.cell? ⟨W1.heap.size,1,none⟩=some (.int .i64 (0)):=ak hrow 1;have c2:wr.cell? ⟨W1.heap.size,2,none⟩=some (.int .i64 (0)):=ak hrow 2;have c3:wr.cell? ⟨W1.heap.size,3,none⟩=some (.string ⟨([]:List UInt8).toArray⟩):=ak hrow 3;have c4:wr.cell? ⟨W1.heap.size,4,none⟩=some (.int .i64 (0)):=ak hrow 4;have c5:wr.cell? ⟨W1.heap.size,5,none⟩=some (.int .i64 (0)):=ak hrow 5;have c6:wr.cell? ⟨W1.heap.size,6,none⟩=some (.string ⟨([]:List UInt8).toArray⟩):=ak hrow 6;have p1:wr.cell? ⟨P,1,none⟩=some (vn):=ak hR.cells 1;have zP:=bI hR.cells 1;have lY:P<wr.heap.size:=(aoV.1 hR.cells).1;have hBr:B<=wr.heap.size:=by omega
    have qZ:(q.length+1)*72<=140737488355328:=by omega
    have hqm:q.length+1<=maxLen:=by rw[maxLen_eq];omega
    have jb:=nR (0) (0) (0) ([]) (0) (0) ([]);obtain⟨i0,hi,hz0,hz1,hz2⟩:=ap7 rP
    go_region_law (refine step_append_lies _ rfl (.tmp 84) (.tmp 86) 91 rfl B 168 i0 (.agg (aY 0 0 0 [] 0 0 [])) 7 72 Tryz.underlying91 hi hz0 hz1 hz2 rfl (by decide) (vn) q.length xs (by simp[Act.eval]) ((apC hown).alloc _) ⟨wr.heap.size,0,none⟩ 1 1 (aY (0) (0) (0) ([]) (0) (0) ([])).toList (by simp[Act.eval]) rfl (World.news_of_block (apv _ _)) jb (by decide) hqm qZ (by simp;omega) _ rfl ?_;intro g cap w5 hown5 dB lZ l7;have iU:=(dB.block P (by simp;omega) (λe=>qJ e.symm)).trans ((heap_alloc_old wr.drew _ lY).trans hR.cells);have k5:w5.cell? ⟨P,1,none⟩=some (vn):=ak iU 1;have z5:=bI iU 1)
    all_goals go_wp2
    all_goals go_ret
    all_goals exact rQ he rfl (hR.put (((Below.refl _ wr).drew).alloc (aoP _) _) hown hrep hx hown5 dB lZ l7)
   .have he:Hid _:=DK (k:=k) (q:=q) hop.out (by decide);have hx:=o9 (op:=1) ⟨by decide,by decide⟩ n0 n0 m0 n0 n0 m0
    go_wp2
    obtain⟨xs,hown,qJ,hrep⟩:=hR.nodes;have c0:wr.cell? ⟨W1.heap.size,0,none⟩=some (.int .i64 (1)):=ak hrow 0;have c1:wr.cell? ⟨W1.heap.size,1,none⟩=some (.int .i64 (0)):=ak hrow 1;have c2:wr.cell? ⟨W1.heap.size,2,none⟩=some (.int .i64 (0)):=ak hrow 2;have c3:wr.cell? ⟨W1.heap.size,3,none⟩=some (.string ⟨([]:List UInt8).toArray⟩):=ak hrow 3;have c4:wr.cell? ⟨W1.heap.size,4,none⟩=some (.int .i64 (0)):=ak hrow 4;have c5:wr.cell? ⟨W1.heap.size,5,none⟩=some (.int .i64 (0)):=ak hrow 5;have c6:wr.cell? ⟨W1.heap.size,6,none⟩=some (.string ⟨([]:List UInt8).toArray⟩):=ak hrow 6;have p1:wr.cell? ⟨P,1,none⟩=some (vn):=ak hR.cells 1;have zP:=bI hR.cells 1;have lY:P<wr.heap.size:=(aoV.1 hR.cells).1;have hBr:B<=wr.heap.size:=by omega
    have qZ:(q.length+1)*72<=140737488355328:=by omega
    have hqm:q.length+1<=maxLen:=by rw[maxLen_eq];omega
    have jb:=nR (1) (0) (0) ([]) (0) (0) ([]);obtain⟨i0,hi,hz0,hz1,hz2⟩:=ap7 rP
    go_region_law (refine step_append_lies _ rfl (.tmp 84) (.tmp 86) 91 rfl B 168 i0 (.agg (aY 0 0 0 [] 0 0 [])) 7 72 Tryz.underlying91 hi hz0 hz1 hz2 rfl (by decide) (vn) q.length xs (by simp[Act.eval]) ((apC hown).alloc _) ⟨wr.heap.size,0,none⟩ 1 1 (aY (1) (0) (0) ([]) (0) (0) ([])).toList (by simp[Act.eval]) rfl (World.news_of_block (apv _ _)) jb (by decide) hqm qZ (by simp;omega) _ rfl ?_;intro g cap w5 hown5 dB lZ l7;have iU:=(dB.block P (by simp;omega) (λe=>qJ e.symm)).trans ((heap_alloc_old wr.drew _ lY).trans hR.cells);have k5:w5.cell? ⟨P,1,none⟩=some (vn):=ak iU 1;have z5:=bI iU 1)
    all_goals go_wp2
    all_goals go_ret
    all_goals exact rQ he rfl (hR.put (((Below.refl _ wr).drew).alloc (aoP _) _) hown hrep hx hown5 dB lZ l7)
   .obtain⟨s2,hs2,hs2'⟩:∃s2,Hid (s2=Sp.wordAt (f.drop 1) 0)/\s2=Sp.wordAt (f.drop 1) 0:=⟨_,rfl,rfl⟩;have nx:=vY B P wr RI vn (f.drop 1) CU hR.cells hR.words;have hl2:=AX zG 0;rw[← hs2']at nx hl2;clear hs2';have he:Hid _:=Hg (k:=k) (q:=q) hop.out (by decide);rw[← hs2.out]at he;have hx:=o9 (op:=2) (s:=s2) ⟨by decide,by decide⟩ n0 n0 (by rw[maxLen_eq];omega) n0 n0 m0
    go_wp2_with (first
     |(go_at_call 189;refine nx.mono ?_;rintro e w2 ⟨rfl,Jc,hf2,hP2,hst2⟩;obtain⟨hR2,CV⟩:=hR.next hf2 hP2 hst2;have hrow2:=CV.trans hrow;have z3:=bI hrow2 3;have d3:=ak hrow2 3))
    have iD:=hR2.vO 3 (.string ⟨s2.toArray⟩);have hrow3:(w2.setCell ⟨W1.heap.size,3,none⟩ (.string ⟨s2.toArray⟩)).heap[W1.heap.size]? =some (.cells (aY 2 0 0 s2 0 0 []) 168 (0,0)):=fF hrow2 3 _;generalize w2.setCell ⟨W1.heap.size,3,none⟩ (.string ⟨s2.toArray⟩)=w3 at iD hrow3 ⊢;obtain⟨xs,hown,qJ,hrep⟩:=iD.nodes;have c0:w3.cell? ⟨W1.heap.size,0,none⟩=some (.int .i64 (2)):=ak hrow3 0;have c1:w3.cell? ⟨W1.heap.size,1,none⟩=some (.int .i64 (0)):=ak hrow3 1;have c2:w3.cell? ⟨W1.heap.size,2,none⟩=some (.int .i64 (0)):=ak hrow3 2;have c3:w3.cell? ⟨W1.heap.size,3,none⟩=some (.string ⟨(s2:List UInt8).toArray⟩):=ak hrow3 3;have c4:w3.cell? ⟨W1.heap.size,4,none⟩=some (.int .i64 (0)):=ak hrow3 4;have c5:w3.cell? ⟨W1.heap.size,5,none⟩=some (.int .i64 (0)):=ak hrow3 5;have c6:w3.cell? ⟨W1.heap.size,6,none⟩=some (.string ⟨([]:List UInt8).toArray⟩):=ak hrow3 6;have p1:w3.cell? ⟨P,1,none⟩=some (vn):=ak iD.cells 1;have zP:=bI iD.cells 1;have lY:P<w3.heap.size:=(aoV.1 iD.cells).1;have hBr:B<=w3.heap.size:=by omega
    have qZ:(q.length+1)*72<=140737488355328:=by omega
    have hqm:q.length+1<=maxLen:=by rw[maxLen_eq];omega
    have jb:=nR (2) (0) (0) (s2) (0) (0) ([]);obtain⟨i0,hi,hz0,hz1,hz2⟩:=ap7 rP
    go_region_law (refine step_append_lies _ rfl (.tmp 84) (.tmp 86) 91 rfl B 168 i0 (.agg (aY 0 0 0 [] 0 0 [])) 7 72 Tryz.underlying91 hi hz0 hz1 hz2 rfl (by decide) (vn) q.length xs (by simp[Act.eval]) ((apC hown).alloc _) ⟨w3.heap.size,0,none⟩ 1 1 (aY (2) (0) (0) (s2) (0) (0) ([])).toList (by simp[Act.eval]) rfl (World.news_of_block (apv _ _)) jb (by decide) hqm qZ (by simp;omega) _ rfl ?_;intro g cap w5 hown5 dB lZ l7;have iU:=(dB.block P (by simp;omega) (λe=>qJ e.symm)).trans ((heap_alloc_old w3.drew _ lY).trans iD.cells);have k5:w5.cell? ⟨P,1,none⟩=some (vn):=ak iU 1;have z5:=bI iU 1)
    all_goals go_wp2
    all_goals go_ret
    all_goals exact rQ he rfl (iD.put (((Below.refl _ w3).drew).alloc (aoP _) _) hown hrep hx hown5 dB lZ l7)
   .obtain⟨s2,hs2,hs2'⟩:∃s2,Hid (s2=Sp.wordAt (f.drop 1) 0)/\s2=Sp.wordAt (f.drop 1) 0:=⟨_,rfl,rfl⟩;have nx:=vY B P wr RI vn (f.drop 1) CU hR.cells hR.words;have hl2:=AX zG 0;rw[← hs2']at nx hl2;clear hs2';have he:Hid _:=Hg (k:=k) (q:=q) hop.out (by decide);rw[← hs2.out]at he;have hx:=o9 (op:=8) (s:=s2) ⟨by decide,by decide⟩ n0 n0 (by rw[maxLen_eq];omega) n0 n0 m0
    go_wp2_with (first
     |(go_at_call 189;refine nx.mono ?_;rintro e w2 ⟨rfl,Jc,hf2,hP2,hst2⟩;obtain⟨hR2,CV⟩:=hR.next hf2 hP2 hst2;have hrow2:=CV.trans hrow;have z3:=bI hrow2 3;have d3:=ak hrow2 3))
    have iD:=hR2.vO 3 (.string ⟨s2.toArray⟩);have hrow3:(w2.setCell ⟨W1.heap.size,3,none⟩ (.string ⟨s2.toArray⟩)).heap[W1.heap.size]? =some (.cells (aY 8 0 0 s2 0 0 []) 168 (0,0)):=fF hrow2 3 _;generalize w2.setCell ⟨W1.heap.size,3,none⟩ (.string ⟨s2.toArray⟩)=w3 at iD hrow3 ⊢;obtain⟨xs,hown,qJ,hrep⟩:=iD.nodes;have c0:w3.cell? ⟨W1.heap.size,0,none⟩=some (.int .i64 (8)):=ak hrow3 0;have c1:w3.cell? ⟨W1.heap.size,1,none⟩=some (.int .i64 (0)):=ak hrow3 1;have c2:w3.cell? ⟨W1.heap.size,2,none⟩=some (.int .i64 (0)):=ak hrow3 2;have c3:w3.cell? ⟨W1.heap.size,3,none⟩=some (.string ⟨(s2:List UInt8).toArray⟩):=ak hrow3 3;have c4:w3.cell? ⟨W1.heap.size,4,none⟩=some (.int .i64 (0)):=ak hrow3 4;have c5:w3.cell? ⟨W1.heap.size,5,none⟩=some (.int .i64 (0)):=ak hrow3 5;have c6:w3.cell? ⟨W1.heap.size,6,none⟩=some (.string ⟨([]:List UInt8).toArray⟩):=ak hrow3 6;have p1:w3.cell? ⟨P,1,none⟩=some (vn):=ak iD.cells 1;have zP:=bI iD.cells 1;have lY:P<w3.heap.size:=(aoV.1 iD.cells).1;have hBr:B<=w3.heap.size:=by omega
    have qZ:(q.length+1)*72<=140737488355328:=by omega
    have hqm:q.length+1<=maxLen:=by rw[maxLen_eq];omega
    have jb:=nR (8) (0) (0) (s2) (0) (0) ([]);obtain⟨i0,hi,hz0,hz1,hz2⟩:=ap7 rP
    go_region_law (refine step_append_lies _ rfl (.tmp 84) (.tmp 86) 91 rfl B 168 i0 (.agg (aY 0 0 0 [] 0 0 [])) 7 72 Tryz.underlying91 hi hz0 hz1 hz2 rfl (by decide) (vn) q.length xs (by simp[Act.eval]) ((apC hown).alloc _) ⟨w3.heap.size,0,none⟩ 1 1 (aY (8) (0) (0) (s2) (0) (0) ([])).toList (by simp[Act.eval]) rfl (World.news_of_block (apv _ _)) jb (by decide) hqm qZ (by simp;omega) _ rfl ?_;intro g cap w5 hown5 dB lZ l7;have iU:=(dB.block P (by simp;omega) (λe=>qJ e.symm)).trans ((heap_alloc_old w3.drew _ lY).trans iD.cells);have k5:w5.cell? ⟨P,1,none⟩=some (vn):=ak iU 1;have z5:=bI iU 1)
    all_goals go_wp2
    all_goals go_ret
    all_goals exact rQ he rfl (iD.put (((Below.refl _ w3).drew).alloc (aoP _) _) hown hrep hx hown5 dB lZ l7)
   .obtain⟨s2,hs2,hs2'⟩:∃s2,Hid (s2=Sp.wordAt (f.drop 1) 0)/\s2=Sp.wordAt (f.drop 1) 0:=⟨_,rfl,rfl⟩;have nx:=vY B P wr RI vn (f.drop 1) CU hR.cells hR.words;have hl2:=AX zG 0;rw[← hs2']at nx hl2;clear hs2';have he:Hid _:=Hg (k:=k) (q:=q) hop.out (by decide);rw[← hs2.out]at he;have hx:=o9 (op:=9) (s:=s2) ⟨by decide,by decide⟩ n0 n0 (by rw[maxLen_eq];omega) n0 n0 m0
    go_wp2_with (first
     |(go_at_call 189;refine nx.mono ?_;rintro e w2 ⟨rfl,Jc,hf2,hP2,hst2⟩;obtain⟨hR2,CV⟩:=hR.next hf2 hP2 hst2;have hrow2:=CV.trans hrow;have z3:=bI hrow2 3;have d3:=ak hrow2 3))
    have iD:=hR2.vO 3 (.string ⟨s2.toArray⟩);have hrow3:(w2.setCell ⟨W1.heap.size,3,none⟩ (.string ⟨s2.toArray⟩)).heap[W1.heap.size]? =some (.cells (aY 9 0 0 s2 0 0 []) 168 (0,0)):=fF hrow2 3 _;generalize w2.setCell ⟨W1.heap.size,3,none⟩ (.string ⟨s2.toArray⟩)=w3 at iD hrow3 ⊢;obtain⟨xs,hown,qJ,hrep⟩:=iD.nodes;have c0:w3.cell? ⟨W1.heap.size,0,none⟩=some (.int .i64 (9)):=ak hrow3 0;have c1:w3.cell? ⟨W1.heap.size,1,none⟩=some (.int .i64 (0)):=ak hrow3 1;have c2:w3.cell? ⟨W1.heap.size,2,none⟩=some (.int .i64 (0)):=ak hrow3 2;have c3:w3.cell? ⟨W1.heap.size,3,none⟩=some (.string ⟨(s2:List UInt8).toArray⟩):=ak hrow3 3;have c4:w3.cell? ⟨W1.heap.size,4,none⟩=some (.int .i64 (0)):=ak hrow3 4;have c5:w3.cell? ⟨W1.heap.size,5,none⟩=some (.int .i64 (0)):=ak hrow3 5;have c6:w3.cell? ⟨W1.heap.size,6,none⟩=some (.string ⟨([]:List UInt8).toArray⟩):=ak hrow3 6;have p1:w3.cell? ⟨P,1,none⟩=some (vn):=ak iD.cells 1;have zP:=bI iD.cells 1;have lY:P<w3.heap.size:=(aoV.1 iD.cells).1;have hBr:B<=w3.heap.size:=by omega
    have qZ:(q.length+1)*72<=140737488355328:=by omega
    have hqm:q.length+1<=maxLen:=by rw[maxLen_eq];omega
    have jb:=nR (9) (0) (0) (s2) (0) (0) ([]);obtain⟨i0,hi,hz0,hz1,hz2⟩:=ap7 rP
    go_region_law (refine step_append_lies _ rfl (.tmp 84) (.tmp 86) 91 rfl B 168 i0 (.agg (aY 0 0 0 [] 0 0 [])) 7 72 Tryz.underlying91 hi hz0 hz1 hz2 rfl (by decide) (vn) q.length xs (by simp[Act.eval]) ((apC hown).alloc _) ⟨w3.heap.size,0,none⟩ 1 1 (aY (9) (0) (0) (s2) (0) (0) ([])).toList (by simp[Act.eval]) rfl (World.news_of_block (apv _ _)) jb (by decide) hqm qZ (by simp;omega) _ rfl ?_;intro g cap w5 hown5 dB lZ l7;have iU:=(dB.block P (by simp;omega) (λe=>qJ e.symm)).trans ((heap_alloc_old w3.drew _ lY).trans iD.cells);have k5:w5.cell? ⟨P,1,none⟩=some (vn):=ak iU 1;have z5:=bI iU 1)
    all_goals go_wp2
    all_goals go_ret
    all_goals exact rQ he rfl (iD.put (((Below.refl _ w3).drew).alloc (aoP _) _) hown hrep hx hown5 dB lZ l7)
   .obtain⟨s2,hs2,hs2'⟩:∃s2,Hid (s2=Sp.wordAt (f.drop 1) 0)/\s2=Sp.wordAt (f.drop 1) 0:=⟨_,rfl,rfl⟩;obtain⟨s3,hs3,adl⟩:∃s3,Hid (s3=Sp.wordAt ((f.drop 1).drop 1) 0)/\s3=Sp.wordAt ((f.drop 1).drop 1) 0:=⟨_,rfl,rfl⟩;have nx:=vY B P wr RI vn (f.drop 1) CU hR.cells hR.words;have hl2:=AX zG 0;have hl3:=AX alk 0;rw[← hs2']at nx hl2;rw[← adl]at hl3;clear hs2' adl;have he:Hid _:=NS (k:=k) (q:=q) hop.out (by decide);rw[← hs2.out,← hs3.out]at he;have pv:=ae6 s3 (by omega);generalize bU s3=z at he pv;obtain⟨⟨v1,v2,v3,⟨⟩⟩,ok⟩:=z;dsimp only at pv
    go_wp2_with (first
     |(go_at_call 189;refine nx.mono ?_;rintro e w2 ⟨rfl,Jc,hf2,hP2,hst2⟩;obtain⟨hR2,CV⟩:=hR.next hf2 hP2 hst2;have hrow2:=CV.trans hrow;have z3:=bI hrow2 3;have d3:=ak hrow2 3;clear nx)
     |(have iD:=hR2.vO 3 (.string ⟨s2.toArray⟩);have hrow3:(w2.setCell ⟨W1.heap.size,3,none⟩ (.string ⟨s2.toArray⟩)).heap[W1.heap.size]? =some (.cells (aY 3 0 0 s2 0 0 []) 168 (0,0)):=fF hrow2 3 _;have nx2:=vY B P _ Jc vn ((f.drop 1).drop 1) CU iD.cells iD.words;rw[← hs3.out]at nx2;go_at_call 189;refine nx2.mono ?_;rintro e w4 ⟨rfl,vf4,hf4,hP4,ai4⟩;obtain⟨Hl,hN4⟩:=iD.next hf4 hP4 ai4;have hrow4:=hN4.trans hrow3;clear nx2)
     |(go_at_call 152;refine(pv _ Hl.gl).mono ?_;rintro e w6 ⟨rfl,hb6,hv1,hv2,hv3⟩;have hR6:=Hl.below hb6;have wS:=(hb6.block _ Hl.lt).trans hrow4;have y4:=bI wS 4;have y5:=bI wS 5;have y6:=bI wS 6;have x4:w6.cell? ⟨W1.heap.size,4,none⟩=some (.int .i64 0):=ak wS 4;have x5:w6.cell? ⟨W1.heap.size,5,none⟩=some (.int .i64 0):=ak wS 5;have x6:w6.cell? ⟨W1.heap.size,6,none⟩=some (.string ⟨([]:List UInt8).toArray⟩):=ak wS 6))
    have Ho:=((hR6.vO 4 (.int .i64 v1)).vO 5 (.int .i64 v2)).vO 6 (.string ⟨v3.toArray⟩);have sZ:(((w6.setCell ⟨W1.heap.size,4,none⟩ (.int .i64 v1)).setCell ⟨W1.heap.size,5,none⟩ (.int .i64 v2)).setCell ⟨W1.heap.size,6,none⟩ (.string ⟨v3.toArray⟩)).heap[W1.heap.size]? =some (.cells (aY 3 0 0 s2 v1 v2 v3) 168 (0,0)):=fF (fF (fF wS 4 _) 5 _) 6 _;have hx:=o9 (op:=3) (s:=s2) ⟨by decide,by decide⟩ n0 n0 (by rw[maxLen_eq];omega) hv1 hv2 hv3;generalize ((w6.setCell ⟨W1.heap.size,4,none⟩ (.int .i64 v1)).setCell ⟨W1.heap.size,5,none⟩ (.int .i64 v2)).setCell ⟨W1.heap.size,6,none⟩ (.string ⟨v3.toArray⟩)=w7 at Ho sZ ⊢;clear x4 x5 x6 y4 y5 y6 d3 z3;obtain⟨xs,hown,qJ,hrep⟩:=Ho.nodes;have c0:w7.cell? ⟨W1.heap.size,0,none⟩=some (.int .i64 (3)):=ak sZ 0;have c1:w7.cell? ⟨W1.heap.size,1,none⟩=some (.int .i64 (0)):=ak sZ 1;have c2:w7.cell? ⟨W1.heap.size,2,none⟩=some (.int .i64 (0)):=ak sZ 2;have c3:w7.cell? ⟨W1.heap.size,3,none⟩=some (.string ⟨(s2:List UInt8).toArray⟩):=ak sZ 3;have c4:w7.cell? ⟨W1.heap.size,4,none⟩=some (.int .i64 (v1)):=ak sZ 4;have c5:w7.cell? ⟨W1.heap.size,5,none⟩=some (.int .i64 (v2)):=ak sZ 5;have c6:w7.cell? ⟨W1.heap.size,6,none⟩=some (.string ⟨(v3:List UInt8).toArray⟩):=ak sZ 6;have p1:w7.cell? ⟨P,1,none⟩=some (vn):=ak Ho.cells 1;have zP:=bI Ho.cells 1;have lY:P<w7.heap.size:=(aoV.1 Ho.cells).1;have hBr:B<=w7.heap.size:=by omega
    have qZ:(q.length+1)*72<=140737488355328:=by omega
    have hqm:q.length+1<=maxLen:=by rw[maxLen_eq];omega
    have jb:=nR (3) (0) (0) (s2) (v1) (v2) (v3);obtain⟨i0,hi,hz0,hz1,hz2⟩:=ap7 rP
    go_region_law (refine step_append_lies _ rfl (.tmp 84) (.tmp 86) 91 rfl B 168 i0 (.agg (aY 0 0 0 [] 0 0 [])) 7 72 Tryz.underlying91 hi hz0 hz1 hz2 rfl (by decide) (vn) q.length xs (by simp[Act.eval]) ((apC hown).alloc _) ⟨w7.heap.size,0,none⟩ 1 1 (aY (3) (0) (0) (s2) (v1) (v2) (v3)).toList (by simp[Act.eval]) rfl (World.news_of_block (apv _ _)) jb (by decide) hqm qZ (by simp;omega) _ rfl ?_;intro g cap w5 hown5 dB lZ l7;have iU:=(dB.block P (by simp;omega) (λe=>qJ e.symm)).trans ((heap_alloc_old w7.drew _ lY).trans Ho.cells);have k5:w5.cell? ⟨P,1,none⟩=some (vn):=ak iU 1;have z5:=bI iU 1)
    all_goals go_wp2
    all_goals go_ret
    all_goals exact rQ he rfl (Ho.put (((Below.refl _ w7).drew).alloc (aoP _) _) hown hrep hx hown5 dB lZ l7)
   .obtain⟨s2,hs2,hs2'⟩:∃s2,Hid (s2=Sp.wordAt (f.drop 1) 0)/\s2=Sp.wordAt (f.drop 1) 0:=⟨_,rfl,rfl⟩;obtain⟨s3,hs3,adl⟩:∃s3,Hid (s3=Sp.wordAt ((f.drop 1).drop 1) 0)/\s3=Sp.wordAt ((f.drop 1).drop 1) 0:=⟨_,rfl,rfl⟩;have nx:=vY B P wr RI vn (f.drop 1) CU hR.cells hR.words;have hl2:=AX zG 0;have hl3:=AX alk 0;rw[← hs2']at nx hl2;rw[← adl]at hl3;clear hs2' adl;have he:Hid _:=NS (k:=k) (q:=q) hop.out (by decide);rw[← hs2.out,← hs3.out]at he;have pv:=ae6 s3 (by omega);generalize bU s3=z at he pv;obtain⟨⟨v1,v2,v3,⟨⟩⟩,ok⟩:=z;dsimp only at pv
    go_wp2_with (first
     |(go_at_call 189;refine nx.mono ?_;rintro e w2 ⟨rfl,Jc,hf2,hP2,hst2⟩;obtain⟨hR2,CV⟩:=hR.next hf2 hP2 hst2;have hrow2:=CV.trans hrow;have z3:=bI hrow2 3;have d3:=ak hrow2 3;clear nx)
     |(have iD:=hR2.vO 3 (.string ⟨s2.toArray⟩);have hrow3:(w2.setCell ⟨W1.heap.size,3,none⟩ (.string ⟨s2.toArray⟩)).heap[W1.heap.size]? =some (.cells (aY 4 0 0 s2 0 0 []) 168 (0,0)):=fF hrow2 3 _;have nx2:=vY B P _ Jc vn ((f.drop 1).drop 1) CU iD.cells iD.words;rw[← hs3.out]at nx2;go_at_call 189;refine nx2.mono ?_;rintro e w4 ⟨rfl,vf4,hf4,hP4,ai4⟩;obtain⟨Hl,hN4⟩:=iD.next hf4 hP4 ai4;have hrow4:=hN4.trans hrow3;clear nx2)
     |(go_at_call 152;refine(pv _ Hl.gl).mono ?_;rintro e w6 ⟨rfl,hb6,hv1,hv2,hv3⟩;have hR6:=Hl.below hb6;have wS:=(hb6.block _ Hl.lt).trans hrow4;have y4:=bI wS 4;have y5:=bI wS 5;have y6:=bI wS 6;have x4:w6.cell? ⟨W1.heap.size,4,none⟩=some (.int .i64 0):=ak wS 4;have x5:w6.cell? ⟨W1.heap.size,5,none⟩=some (.int .i64 0):=ak wS 5;have x6:w6.cell? ⟨W1.heap.size,6,none⟩=some (.string ⟨([]:List UInt8).toArray⟩):=ak wS 6))
    have Ho:=((hR6.vO 4 (.int .i64 v1)).vO 5 (.int .i64 v2)).vO 6 (.string ⟨v3.toArray⟩);have sZ:(((w6.setCell ⟨W1.heap.size,4,none⟩ (.int .i64 v1)).setCell ⟨W1.heap.size,5,none⟩ (.int .i64 v2)).setCell ⟨W1.heap.size,6,none⟩ (.string ⟨v3.toArray⟩)).heap[W1.heap.size]? =some (.cells (aY 4 0 0 s2 v1 v2 v3) 168 (0,0)):=fF (fF (fF wS 4 _) 5 _) 6 _;have hx:=o9 (op:=4) (s:=s2) ⟨by decide,by decide⟩ n0 n0 (by rw[maxLen_eq];omega) hv1 hv2 hv3;generalize ((w6.setCell ⟨W1.heap.size,4,none⟩ (.int .i64 v1)).setCell ⟨W1.heap.size,5,none⟩ (.int .i64 v2)).setCell ⟨W1.heap.size,6,none⟩ (.string ⟨v3.toArray⟩)=w7 at Ho sZ ⊢;clear x4 x5 x6 y4 y5 y6 d3 z3;obtain⟨xs,hown,qJ,hrep⟩:=Ho.nodes;have c0:w7.cell? ⟨W1.heap.size,0,none⟩=some (.int .i64 (4)):=ak sZ 0;have c1:w7.cell? ⟨W1.heap.size,1,none⟩=some (.int .i64 (0)):=ak sZ 1;have c2:w7.cell? ⟨W1.heap.size,2,none⟩=some (.int .i64 (0)):=ak sZ 2;have c3:w7.cell? ⟨W1.heap.size,3,none⟩=some (.string ⟨(s2:List UInt8).toArray⟩):=ak sZ 3;have c4:w7.cell? ⟨W1.heap.size,4,none⟩=some (.int .i64 (v1)):=ak sZ 4;have c5:w7.cell? ⟨W1.heap.size,5,none⟩=some (.int .i64 (v2)):=ak sZ 5;have c6:w7.cell? ⟨W1.heap.size,6,none⟩=some (.string ⟨(v3:List UInt8).toArray⟩):=ak sZ 6;have p1:w7.cell? ⟨P,1,none⟩=some (vn):=ak Ho.cells 1;have zP:=bI Ho.cells 1;have lY:P<w7.heap.size:=(aoV.1 Ho.cells).1;have hBr:B<=w7.heap.size:=by omega
    have qZ:(q.length+1)*72<=140737488355328:=by omega
    have hqm:q.length+1<=maxLen:=by rw[maxLen_eq];omega
    have jb:=nR (4) (0) (0) (s2) (v1) (v2) (v3);obtain⟨i0,hi,hz0,hz1,hz2⟩:=ap7 rP
    go_region_law (refine step_append_lies _ rfl (.tmp 84) (.tmp 86) 91 rfl B 168 i0 (.agg (aY 0 0 0 [] 0 0 [])) 7 72 Tryz.underlying91 hi hz0 hz1 hz2 rfl (by decide) (vn) q.length xs (by simp[Act.eval]) ((apC hown).alloc _) ⟨w7.heap.size,0,none⟩ 1 1 (aY (4) (0) (0) (s2) (v1) (v2) (v3)).toList (by simp[Act.eval]) rfl (World.news_of_block (apv _ _)) jb (by decide) hqm qZ (by simp;omega) _ rfl ?_;intro g cap w5 hown5 dB lZ l7;have iU:=(dB.block P (by simp;omega) (λe=>qJ e.symm)).trans ((heap_alloc_old w7.drew _ lY).trans Ho.cells);have k5:w5.cell? ⟨P,1,none⟩=some (vn):=ak iU 1;have z5:=bI iU 1)
    all_goals go_wp2
    all_goals go_ret
    all_goals exact rQ he rfl (Ho.put (((Below.refl _ w7).drew).alloc (aoP _) _) hown hrep hx hown5 dB lZ l7)
   .have he:Hid _:=adk (k:=k) (q:=q) hop.out;have hcnt:=uh k (f.drop 1) q;have hrl:=Hq k (f.drop 1) q;have hwl:=uj k (f.drop 1) q zG;have hlp:=RH hop.out (by decide);have nd:=ih.out B P wr RI vn (f.drop 1) q (by omega) U6 CU hR.gl hR.cells hR.words hR.nodes zG (by omega);generalize Sp.rd k (f.drop 1) q=z at he nd hcnt hwl hrl;obtain⟨b1,f2,q2⟩:=z;dsimp only at nd hcnt hwl
    go_wp2_with (first
     |(go_at_call 154;refine nd.mono ?_;rintro e w2 ⟨rfl,hd⟩;obtain⟨⟨Jc,vn2,hR2⟩,CV⟩:=hR.read hd;obtain⟨a2,cap2,NT⟩:=hR2.nodes.form;subst NT;have hrow2:=CV.trans hrow;have p2:w2.cell? ⟨P,1,none⟩=some (.slice a2 q2.length cap2):=ak hR2.cells 1;have y1:=bI hrow2 1;have x1:w2.cell? ⟨W1.heap.size,1,none⟩=some (.int .i64 0):=ak hrow2 1;clear nd))
    have iD:=hR2.vO 1 (.int .i64 ((q2.length:Int)-1));have hrow3:(w2.setCell ⟨W1.heap.size,1,none⟩ (.int .i64 ((q2.length:Int)-1))).heap[W1.heap.size]? =some (.cells (aY 5 ((q2.length:Int)-1) 0 [] 0 0 []) 168 (0,0)):=fF hrow2 1 _;have hx:=o9 (op:=5) (l:=(q2.length:Int)-1) ⟨by decide,by decide⟩ ⟨by omega,by omega⟩ n0 m0 n0 n0 m0;generalize w2.setCell ⟨W1.heap.size,1,none⟩ (.int .i64 ((q2.length:Int)-1))=w3 at iD hrow3 ⊢;clear x1 y1 p2;obtain⟨xs,hown,qJ,hrep⟩:=iD.nodes;have c0:w3.cell? ⟨W1.heap.size,0,none⟩=some (.int .i64 (5)):=ak hrow3 0;have c1:w3.cell? ⟨W1.heap.size,1,none⟩=some (.int .i64 ((q2.length:Int)-1)):=ak hrow3 1;have c2:w3.cell? ⟨W1.heap.size,2,none⟩=some (.int .i64 (0)):=ak hrow3 2;have c3:w3.cell? ⟨W1.heap.size,3,none⟩=some (.string ⟨([]:List UInt8).toArray⟩):=ak hrow3 3;have c4:w3.cell? ⟨W1.heap.size,4,none⟩=some (.int .i64 (0)):=ak hrow3 4;have c5:w3.cell? ⟨W1.heap.size,5,none⟩=some (.int .i64 (0)):=ak hrow3 5;have c6:w3.cell? ⟨W1.heap.size,6,none⟩=some (.string ⟨([]:List UInt8).toArray⟩):=ak hrow3 6;have p1:w3.cell? ⟨P,1,none⟩=some (.slice a2 q2.length cap2):=ak iD.cells 1;have zP:=bI iD.cells 1;have lY:P<w3.heap.size:=(aoV.1 iD.cells).1;have hBr:B<=w3.heap.size:=by omega
    have qZ:(q2.length+1)*72<=140737488355328:=by omega
    have hqm:q2.length+1<=maxLen:=by rw[maxLen_eq];omega
    have jb:=nR (5) ((q2.length:Int)-1) (0) ([]) (0) (0) ([]);obtain⟨i0,hi,hz0,hz1,hz2⟩:=ap7 rP
    go_region_law (refine step_append_lies _ rfl (.tmp 84) (.tmp 86) 91 rfl B 168 i0 (.agg (aY 0 0 0 [] 0 0 [])) 7 72 Tryz.underlying91 hi hz0 hz1 hz2 rfl (by decide) (.slice a2 q2.length cap2) q2.length xs (by simp[Act.eval]) ((apC hown).alloc _) ⟨w3.heap.size,0,none⟩ 1 1 (aY (5) ((q2.length:Int)-1) (0) ([]) (0) (0) ([])).toList (by simp[Act.eval]) rfl (World.news_of_block (apv _ _)) jb (by decide) hqm qZ (by simp;omega) _ rfl ?_;intro g cap w5 hown5 dB lZ l7;have iU:=(dB.block P (by simp;omega) (λe=>qJ e.symm)).trans ((heap_alloc_old w3.drew _ lY).trans iD.cells);have k5:w5.cell? ⟨P,1,none⟩=some (.slice a2 q2.length cap2):=ak iU 1;have z5:=bI iU 1)
    all_goals go_wp2
    all_goals go_ret
    all_goals exact rQ he rfl (iD.put (((Below.refl _ w3).drew).alloc (aoP _) _) hown hrep hx hown5 dB lZ l7)
   .cases hb1:(Sp.rd k (f.drop 1) q).1 with
    |false=>
     have he:Hid _:=Ym (k:=k) (q:=q) hop.out (by decide) hb1;have hcnt:=uh k (f.drop 1) q;have hrl:=Hq k (f.drop 1) q;have hwl:=uj k (f.drop 1) q zG;have hlp:=RH hop.out (by decide);have nd:=ih.out B P wr RI vn (f.drop 1) q (by omega) U6 CU hR.gl hR.cells hR.words hR.nodes zG (by omega);generalize Sp.rd k (f.drop 1) q=z at he nd hcnt hwl hrl hb1;obtain⟨b1,f2,q2⟩:=z;dsimp only at nd hcnt hwl hrl hb1;subst hb1
     go_wp2_with (first
      |(go_at_call 154;refine nd.mono ?_;rintro e w2 ⟨rfl,hd⟩;obtain⟨⟨Jc,vn2,hR2⟩,CV⟩:=hR.read hd;obtain⟨a2,cap2,NT⟩:=hR2.nodes.form;subst NT;have hrow2:=CV.trans hrow;have p2:w2.cell? ⟨P,1,none⟩=some (.slice a2 q2.length cap2):=ak hR2.cells 1;have y1:=bI hrow2 1;have x1:w2.cell? ⟨W1.heap.size,1,none⟩=some (.int .i64 0):=ak hrow2 1;have y2:=bI hrow2 2;have x2:w2.cell? ⟨W1.heap.size,2,none⟩=some (.int .i64 0):=ak hrow2 2;clear nd))
     have iD:=(hR2.vO 1 (.int .i64 ((q2.length:Int)-1))).vO 2 (.int .i64 ((q2.length:Int)-1));have hrow3:((w2.setCell ⟨W1.heap.size,1,none⟩ (.int .i64 ((q2.length:Int)-1))).setCell ⟨W1.heap.size,2,none⟩ (.int .i64 ((q2.length:Int)-1))).heap[W1.heap.size]? =some (.cells (aY 6 ((q2.length:Int)-1) ((q2.length:Int)-1) [] 0 0 []) 168 (0,0)):=fF (fF hrow2 1 _) 2 _;have hx:=o9 (op:=6) (l:=((q2.length:Int)-1)) (r:=((q2.length:Int)-1)) ⟨by decide,by decide⟩ ⟨by omega,by omega⟩ ⟨by omega,by omega⟩ m0 n0 n0 m0;generalize (w2.setCell ⟨W1.heap.size,1,none⟩ (.int .i64 ((q2.length:Int)-1))).setCell ⟨W1.heap.size,2,none⟩ (.int .i64 ((q2.length:Int)-1))=w3 at iD hrow3 ⊢;clear x1 y1 x2 y2 p2;obtain⟨xs,hown,qJ,hrep⟩:=iD.nodes;have c0:w3.cell? ⟨W1.heap.size,0,none⟩=some (.int .i64 (6)):=ak hrow3 0;have c1:w3.cell? ⟨W1.heap.size,1,none⟩=some (.int .i64 ((q2.length:Int)-1)):=ak hrow3 1;have c2:w3.cell? ⟨W1.heap.size,2,none⟩=some (.int .i64 ((q2.length:Int)-1)):=ak hrow3 2;have c3:w3.cell? ⟨W1.heap.size,3,none⟩=some (.string ⟨([]:List UInt8).toArray⟩):=ak hrow3 3;have c4:w3.cell? ⟨W1.heap.size,4,none⟩=some (.int .i64 (0)):=ak hrow3 4;have c5:w3.cell? ⟨W1.heap.size,5,none⟩=some (.int .i64 (0)):=ak hrow3 5;have c6:w3.cell? ⟨W1.heap.size,6,none⟩=some (.string ⟨([]:List UInt8).toArray⟩):=ak hrow3 6;have p1:w3.cell? ⟨P,1,none⟩=some (.slice a2 q2.length cap2):=ak iD.cells 1;have zP:=bI iD.cells 1;have lY:P<w3.heap.size:=(aoV.1 iD.cells).1;have hBr:B<=w3.heap.size:=by omega
     have qZ:(q2.length+1)*72<=140737488355328:=by omega
     have hqm:q2.length+1<=maxLen:=by rw[maxLen_eq];omega
     have jb:=nR (6) ((q2.length:Int)-1) ((q2.length:Int)-1) ([]) (0) (0) ([]);obtain⟨i0,hi,hz0,hz1,hz2⟩:=ap7 rP
     go_region_law (refine step_append_lies _ rfl (.tmp 84) (.tmp 86) 91 rfl B 168 i0 (.agg (aY 0 0 0 [] 0 0 [])) 7 72 Tryz.underlying91 hi hz0 hz1 hz2 rfl (by decide) (.slice a2 q2.length cap2) q2.length xs (by simp[Act.eval]) ((apC hown).alloc _) ⟨w3.heap.size,0,none⟩ 1 1 (aY (6) ((q2.length:Int)-1) ((q2.length:Int)-1) ([]) (0) (0) ([])).toList (by simp[Act.eval]) rfl (World.news_of_block (apv _ _)) jb (by decide) hqm qZ (by simp;omega) _ rfl ?_;intro g cap w5 hown5 dB lZ l7;have iU:=(dB.block P (by simp;omega) (λe=>qJ e.symm)).trans ((heap_alloc_old w3.drew _ lY).trans iD.cells);have k5:w5.cell? ⟨P,1,none⟩=some (.slice a2 q2.length cap2):=ak iU 1;have z5:=bI iU 1)
     all_goals go_wp2
     all_goals go_ret
     all_goals exact rQ he rfl (iD.put (((Below.refl _ w3).drew).alloc (aoP _) _) hown hrep hx hown5 dB lZ l7)
    |true=>
     have he:Hid _:=Tv (k:=k) (q:=q) hop.out (by decide) hb1;have hcnt:=uh k (f.drop 1) q;have hrl:=Hq k (f.drop 1) q;have hwl:=uj k (f.drop 1) q zG;have hlp:=RH hop.out (by decide);have nd:=ih.out B P wr RI vn (f.drop 1) q (by omega) U6 CU hR.gl hR.cells hR.words hR.nodes zG (by omega);generalize Sp.rd k (f.drop 1) q=z at he nd hcnt hwl hrl hb1;obtain⟨b1,f2,q2⟩:=z;dsimp only at he nd hcnt hwl hrl hb1;subst hb1;have Yn:=λ(w:World)(Fb Yl:Value)(hr:EF B P W1.heap.size W vn.ownBlock w Fb Yl f2 q2)=>ih.out B P w Fb Yl f2 q2 (by omega) U6 CU hr.gl hr.cells hr.words hr.nodes hwl (by omega);have hcnt2:=uh k f2 q2;generalize Sp.rd k f2 q2=z2 at he Yn hcnt2;obtain⟨b2,f3,q3⟩:=z2;dsimp only at he Yn hcnt2
     go_wp2_with (first
      |(go_at_call 154;refine nd.mono ?_;rintro e w2 ⟨rfl,hd⟩;obtain⟨⟨Jc,vn2,hR2⟩,CV⟩:=hR.read hd;obtain⟨a2,cap2,NT⟩:=hR2.nodes.form;subst NT;have hrow2:=CV.trans hrow;have p2:w2.cell? ⟨P,1,none⟩=some (.slice a2 q2.length cap2):=ak hR2.cells 1;have y1:=bI hrow2 1;have x1:w2.cell? ⟨W1.heap.size,1,none⟩=some (.int .i64 0):=ak hrow2 1;clear nd)
      |(have iD:=hR2.vO 1 (.int .i64 ((q2.length:Int)-1));have hrow3:(w2.setCell ⟨W1.heap.size,1,none⟩ (.int .i64 ((q2.length:Int)-1))).heap[W1.heap.size]? =some (.cells (aY 6 ((q2.length:Int)-1) 0 [] 0 0 []) 168 (0,0)):=fF hrow2 1 _;go_at_call 154;refine(Yn _ _ _ iD).mono ?_;rintro e w4 ⟨rfl,hd4⟩;obtain⟨⟨vf4,vn4,Hl⟩,hN4⟩:=iD.read hd4;obtain⟨a4,cap4,ai5⟩:=Hl.nodes.form;subst ai5;have hrow4:=hN4.trans hrow3;have p4:w4.cell? ⟨P,1,none⟩=some (.slice a4 q3.length cap4):=ak Hl.cells 1;have y2:=bI hrow4 2;have x2:w4.cell? ⟨W1.heap.size,2,none⟩=some (.int .i64 0):=ak hrow4 2;clear Yn p2 x1 y1))
     have Hr:=Hl.vO 2 (.int .i64 ((q3.length:Int)-1));have tq:(w4.setCell ⟨W1.heap.size,2,none⟩ (.int .i64 ((q3.length:Int)-1))).heap[W1.heap.size]? =some (.cells (aY 6 ((q2.length:Int)-1) ((q3.length:Int)-1) [] 0 0 []) 168 (0,0)):=fF hrow4 2 _;have hx:=o9 (op:=6) (l:=((q2.length:Int)-1)) (r:=(q3.length:Int)-1) ⟨by decide,by decide⟩ ⟨by omega,by omega⟩ ⟨by omega,by omega⟩ m0 n0 n0 m0;generalize w4.setCell ⟨W1.heap.size,2,none⟩ (.int .i64 ((q3.length:Int)-1))=vP at Hr tq ⊢;clear x2 y2 p4;obtain⟨xs,hown,qJ,hrep⟩:=Hr.nodes;have c0:vP.cell? ⟨W1.heap.size,0,none⟩=some (.int .i64 (6)):=ak tq 0;have c1:vP.cell? ⟨W1.heap.size,1,none⟩=some (.int .i64 ((q2.length:Int)-1)):=ak tq 1;have c2:vP.cell? ⟨W1.heap.size,2,none⟩=some (.int .i64 ((q3.length:Int)-1)):=ak tq 2;have c3:vP.cell? ⟨W1.heap.size,3,none⟩=some (.string ⟨([]:List UInt8).toArray⟩):=ak tq 3;have c4:vP.cell? ⟨W1.heap.size,4,none⟩=some (.int .i64 (0)):=ak tq 4;have c5:vP.cell? ⟨W1.heap.size,5,none⟩=some (.int .i64 (0)):=ak tq 5;have c6:vP.cell? ⟨W1.heap.size,6,none⟩=some (.string ⟨([]:List UInt8).toArray⟩):=ak tq 6;have p1:vP.cell? ⟨P,1,none⟩=some (.slice a4 q3.length cap4):=ak Hr.cells 1;have zP:=bI Hr.cells 1;have lY:P<vP.heap.size:=(aoV.1 Hr.cells).1;have hBr:B<=vP.heap.size:=by omega
     have qZ:(q3.length+1)*72<=140737488355328:=by omega
     have hqm:q3.length+1<=maxLen:=by rw[maxLen_eq];omega
     have jb:=nR (6) ((q2.length:Int)-1) ((q3.length:Int)-1) ([]) (0) (0) ([]);obtain⟨i0,hi,hz0,hz1,hz2⟩:=ap7 rP
     go_region_law (refine step_append_lies _ rfl (.tmp 84) (.tmp 86) 91 rfl B 168 i0 (.agg (aY 0 0 0 [] 0 0 [])) 7 72 Tryz.underlying91 hi hz0 hz1 hz2 rfl (by decide) (.slice a4 q3.length cap4) q3.length xs (by simp[Act.eval]) ((apC hown).alloc _) ⟨vP.heap.size,0,none⟩ 1 1 (aY (6) ((q2.length:Int)-1) ((q3.length:Int)-1) ([]) (0) (0) ([])).toList (by simp[Act.eval]) rfl (World.news_of_block (apv _ _)) jb (by decide) hqm qZ (by simp;omega) _ rfl ?_;intro g cap w5 hown5 dB lZ l7;have iU:=(dB.block P (by simp;omega) (λe=>qJ e.symm)).trans ((heap_alloc_old vP.drew _ lY).trans Hr.cells);have k5:w5.cell? ⟨P,1,none⟩=some (.slice a4 q3.length cap4):=ak iU 1;have z5:=bI iU 1)
     all_goals go_wp2
     all_goals go_ret
     all_goals exact rQ he rfl (Hr.put (((Below.refl _ vP).drew).alloc (aoP _) _) hown hrep hx hown5 dB lZ l7)
   .cases hb1:(Sp.rd k (f.drop 1) q).1 with
    |false=>
     have he:Hid _:=Ym (k:=k) (q:=q) hop.out (by decide) hb1;have hcnt:=uh k (f.drop 1) q;have hrl:=Hq k (f.drop 1) q;have hwl:=uj k (f.drop 1) q zG;have hlp:=RH hop.out (by decide);have nd:=ih.out B P wr RI vn (f.drop 1) q (by omega) U6 CU hR.gl hR.cells hR.words hR.nodes zG (by omega);generalize Sp.rd k (f.drop 1) q=z at he nd hcnt hwl hrl hb1;obtain⟨b1,f2,q2⟩:=z;dsimp only at nd hcnt hwl hrl hb1;subst hb1
     go_wp2_with (first
      |(go_at_call 154;refine nd.mono ?_;rintro e w2 ⟨rfl,hd⟩;obtain⟨⟨Jc,vn2,hR2⟩,CV⟩:=hR.read hd;obtain⟨a2,cap2,NT⟩:=hR2.nodes.form;subst NT;have hrow2:=CV.trans hrow;have p2:w2.cell? ⟨P,1,none⟩=some (.slice a2 q2.length cap2):=ak hR2.cells 1;have y1:=bI hrow2 1;have x1:w2.cell? ⟨W1.heap.size,1,none⟩=some (.int .i64 0):=ak hrow2 1;have y2:=bI hrow2 2;have x2:w2.cell? ⟨W1.heap.size,2,none⟩=some (.int .i64 0):=ak hrow2 2;clear nd))
     have iD:=(hR2.vO 1 (.int .i64 ((q2.length:Int)-1))).vO 2 (.int .i64 ((q2.length:Int)-1));have hrow3:((w2.setCell ⟨W1.heap.size,1,none⟩ (.int .i64 ((q2.length:Int)-1))).setCell ⟨W1.heap.size,2,none⟩ (.int .i64 ((q2.length:Int)-1))).heap[W1.heap.size]? =some (.cells (aY 7 ((q2.length:Int)-1) ((q2.length:Int)-1) [] 0 0 []) 168 (0,0)):=fF (fF hrow2 1 _) 2 _;have hx:=o9 (op:=7) (l:=((q2.length:Int)-1)) (r:=((q2.length:Int)-1)) ⟨by decide,by decide⟩ ⟨by omega,by omega⟩ ⟨by omega,by omega⟩ m0 n0 n0 m0;generalize (w2.setCell ⟨W1.heap.size,1,none⟩ (.int .i64 ((q2.length:Int)-1))).setCell ⟨W1.heap.size,2,none⟩ (.int .i64 ((q2.length:Int)-1))=w3 at iD hrow3 ⊢;clear x1 y1 x2 y2 p2;obtain⟨xs,hown,qJ,hrep⟩:=iD.nodes;have c0:w3.cell? ⟨W1.heap.size,0,none⟩=some (.int .i64 (7)):=ak hrow3 0;have c1:w3.cell? ⟨W1.heap.size,1,none⟩=some (.int .i64 ((q2.length:Int)-1)):=ak hrow3 1;have c2:w3.cell? ⟨W1.heap.size,2,none⟩=some (.int .i64 ((q2.length:Int)-1)):=ak hrow3 2;have c3:w3.cell? ⟨W1.heap.size,3,none⟩=some (.string ⟨([]:List UInt8).toArray⟩):=ak hrow3 3;have c4:w3.cell? ⟨W1.heap.size,4,none⟩=some (.int .i64 (0)):=ak hrow3 4;have c5:w3.cell? ⟨W1.heap.size,5,none⟩=some (.int .i64 (0)):=ak hrow3 5;have c6:w3.cell? ⟨W1.heap.size,6,none⟩=some (.string ⟨([]:List UInt8).toArray⟩):=ak hrow3 6;have p1:w3.cell? ⟨P,1,none⟩=some (.slice a2 q2.length cap2):=ak iD.cells 1;have zP:=bI iD.cells 1;have lY:P<w3.heap.size:=(aoV.1 iD.cells).1;have hBr:B<=w3.heap.size:=by omega
     have qZ:(q2.length+1)*72<=140737488355328:=by omega
     have hqm:q2.length+1<=maxLen:=by rw[maxLen_eq];omega
     have jb:=nR (7) ((q2.length:Int)-1) ((q2.length:Int)-1) ([]) (0) (0) ([]);obtain⟨i0,hi,hz0,hz1,hz2⟩:=ap7 rP
     go_region_law (refine step_append_lies _ rfl (.tmp 84) (.tmp 86) 91 rfl B 168 i0 (.agg (aY 0 0 0 [] 0 0 [])) 7 72 Tryz.underlying91 hi hz0 hz1 hz2 rfl (by decide) (.slice a2 q2.length cap2) q2.length xs (by simp[Act.eval]) ((apC hown).alloc _) ⟨w3.heap.size,0,none⟩ 1 1 (aY (7) ((q2.length:Int)-1) ((q2.length:Int)-1) ([]) (0) (0) ([])).toList (by simp[Act.eval]) rfl (World.news_of_block (apv _ _)) jb (by decide) hqm qZ (by simp;omega) _ rfl ?_;intro g cap w5 hown5 dB lZ l7;have iU:=(dB.block P (by simp;omega) (λe=>qJ e.symm)).trans ((heap_alloc_old w3.drew _ lY).trans iD.cells);have k5:w5.cell? ⟨P,1,none⟩=some (.slice a2 q2.length cap2):=ak iU 1;have z5:=bI iU 1)
     all_goals go_wp2
     all_goals go_ret
     all_goals exact rQ he rfl (iD.put (((Below.refl _ w3).drew).alloc (aoP _) _) hown hrep hx hown5 dB lZ l7)
    |true=>
     have he:Hid _:=Tv (k:=k) (q:=q) hop.out (by decide) hb1;have hcnt:=uh k (f.drop 1) q;have hrl:=Hq k (f.drop 1) q;have hwl:=uj k (f.drop 1) q zG;have hlp:=RH hop.out (by decide);have nd:=ih.out B P wr RI vn (f.drop 1) q (by omega) U6 CU hR.gl hR.cells hR.words hR.nodes zG (by omega);generalize Sp.rd k (f.drop 1) q=z at he nd hcnt hwl hrl hb1;obtain⟨b1,f2,q2⟩:=z;dsimp only at he nd hcnt hwl hrl hb1;subst hb1;have Yn:=λ(w:World)(Fb Yl:Value)(hr:EF B P W1.heap.size W vn.ownBlock w Fb Yl f2 q2)=>ih.out B P w Fb Yl f2 q2 (by omega) U6 CU hr.gl hr.cells hr.words hr.nodes hwl (by omega);have hcnt2:=uh k f2 q2;generalize Sp.rd k f2 q2=z2 at he Yn hcnt2;obtain⟨b2,f3,q3⟩:=z2;dsimp only at he Yn hcnt2
     go_wp2_with (first
      |(go_at_call 154;refine nd.mono ?_;rintro e w2 ⟨rfl,hd⟩;obtain⟨⟨Jc,vn2,hR2⟩,CV⟩:=hR.read hd;obtain⟨a2,cap2,NT⟩:=hR2.nodes.form;subst NT;have hrow2:=CV.trans hrow;have p2:w2.cell? ⟨P,1,none⟩=some (.slice a2 q2.length cap2):=ak hR2.cells 1;have y1:=bI hrow2 1;have x1:w2.cell? ⟨W1.heap.size,1,none⟩=some (.int .i64 0):=ak hrow2 1;clear nd)
      |(have iD:=hR2.vO 1 (.int .i64 ((q2.length:Int)-1));have hrow3:(w2.setCell ⟨W1.heap.size,1,none⟩ (.int .i64 ((q2.length:Int)-1))).heap[W1.heap.size]? =some (.cells (aY 7 ((q2.length:Int)-1) 0 [] 0 0 []) 168 (0,0)):=fF hrow2 1 _;go_at_call 154;refine(Yn _ _ _ iD).mono ?_;rintro e w4 ⟨rfl,hd4⟩;obtain⟨⟨vf4,vn4,Hl⟩,hN4⟩:=iD.read hd4;obtain⟨a4,cap4,ai5⟩:=Hl.nodes.form;subst ai5;have hrow4:=hN4.trans hrow3;have p4:w4.cell? ⟨P,1,none⟩=some (.slice a4 q3.length cap4):=ak Hl.cells 1;have y2:=bI hrow4 2;have x2:w4.cell? ⟨W1.heap.size,2,none⟩=some (.int .i64 0):=ak hrow4 2;clear Yn p2 x1 y1))
     have Hr:=Hl.vO 2 (.int .i64 ((q3.length:Int)-1));have tq:(w4.setCell ⟨W1.heap.size,2,none⟩ (.int .i64 ((q3.length:Int)-1))).heap[W1.heap.size]? =some (.cells (aY 7 ((q2.length:Int)-1) ((q3.length:Int)-1) [] 0 0 []) 168 (0,0)):=fF hrow4 2 _;have hx:=o9 (op:=7) (l:=((q2.length:Int)-1)) (r:=(q3.length:Int)-1) ⟨by decide,by decide⟩ ⟨by omega,by omega⟩ ⟨by omega,by omega⟩ m0 n0 n0 m0;generalize w4.setCell ⟨W1.heap.size,2,none⟩ (.int .i64 ((q3.length:Int)-1))=vP at Hr tq ⊢;clear x2 y2 p4;obtain⟨xs,hown,qJ,hrep⟩:=Hr.nodes;have c0:vP.cell? ⟨W1.heap.size,0,none⟩=some (.int .i64 (7)):=ak tq 0;have c1:vP.cell? ⟨W1.heap.size,1,none⟩=some (.int .i64 ((q2.length:Int)-1)):=ak tq 1;have c2:vP.cell? ⟨W1.heap.size,2,none⟩=some (.int .i64 ((q3.length:Int)-1)):=ak tq 2;have c3:vP.cell? ⟨W1.heap.size,3,none⟩=some (.string ⟨([]:List UInt8).toArray⟩):=ak tq 3;have c4:vP.cell? ⟨W1.heap.size,4,none⟩=some (.int .i64 (0)):=ak tq 4;have c5:vP.cell? ⟨W1.heap.size,5,none⟩=some (.int .i64 (0)):=ak tq 5;have c6:vP.cell? ⟨W1.heap.size,6,none⟩=some (.string ⟨([]:List UInt8).toArray⟩):=ak tq 6;have p1:vP.cell? ⟨P,1,none⟩=some (.slice a4 q3.length cap4):=ak Hr.cells 1;have zP:=bI Hr.cells 1;have lY:P<vP.heap.size:=(aoV.1 Hr.cells).1;have hBr:B<=vP.heap.size:=by omega
     have qZ:(q3.length+1)*72<=140737488355328:=by omega
     have hqm:q3.length+1<=maxLen:=by rw[maxLen_eq];omega
     have jb:=nR (7) ((q2.length:Int)-1) ((q3.length:Int)-1) ([]) (0) (0) ([]);obtain⟨i0,hi,hz0,hz1,hz2⟩:=ap7 rP
     go_region_law (refine step_append_lies _ rfl (.tmp 84) (.tmp 86) 91 rfl B 168 i0 (.agg (aY 0 0 0 [] 0 0 [])) 7 72 Tryz.underlying91 hi hz0 hz1 hz2 rfl (by decide) (.slice a4 q3.length cap4) q3.length xs (by simp[Act.eval]) ((apC hown).alloc _) ⟨vP.heap.size,0,none⟩ 1 1 (aY (7) ((q2.length:Int)-1) ((q3.length:Int)-1) ([]) (0) (0) ([])).toList (by simp[Act.eval]) rfl (World.news_of_block (apv _ _)) jb (by decide) hqm qZ (by simp;omega) _ rfl ?_;intro g cap w5 hown5 dB lZ l7;have iU:=(dB.block P (by simp;omega) (λe=>qJ e.symm)).trans ((heap_alloc_old vP.drew _ lY).trans Hr.cells);have k5:w5.cell? ⟨P,1,none⟩=some (.slice a4 q3.length cap4):=ak iU 1;have z5:=bI iU 1)
     all_goals go_wp2
     all_goals go_ret
     all_goals exact rQ he rfl (Hr.put (((Below.refl _ vP).drew).alloc (aoP _) _) hown hrep hx hown5 dB lZ l7)
theorem aaI:∀k:Nat,Reads k
 |0=>λ_ _ _ _ _ _ _ h=>absurd h (apP _)
 |k+1=>ahT k (aaI k)
end Go.Proofs.Tryz
namespace Go.Proofs.Tryz
open Go Go.Fw Go.IntWalk
theorem wrap_in{z:Int}(h:-1000000000000<=z/\z<=1000000000000):IntKind.i64.wrap z=z:=fJ z (by omega)
end Go.Proofs.Tryz
namespace Go.Proofs.Tryz
open Go Go.Fw Go.IntWalk Sp
theorem RJ(a b:List (List UInt8)):Sp.ls (a++b)=Sp.ls a++Sp.ls b:=apG
theorem RN:OK uD.e:=by
 refine PA.ok mixed (aO [(uZ,.pure qy),mr.e,lV.e] ⟨⟨CJ,G5⟩,Du,uP,trivial⟩) Ux (by kernel_rfl) (show∀f0 f1 f2 f3 f4,uD.goal (RP f0 f1 f2 f3 f4) ((f0,f1,f2,f3,f4,()),())from ?_);intro f0 f1 f2 f3 f4 hin hp;dsimp only[uD]at hp ⊢;obtain⟨hl,ht⟩:f4.length<=1048576/\(eP f4).length<=1073741824:=hp;have hlong:=(adq (f:=(f0,f1,f2,f3,f4,())) hin.1.1 hin.1.2.1 hin.1.2.2.2.1).1;refine gB (((bif f2 then[115]else[111],()),())) ?_ ⟨trivial,trivial,trivial,?_⟩
 .cases f2<;>exact⟨rfl,rfl⟩
 refine fZ (mk:=λi(s:Sp.LS)=>(((),i,()),s,())) (λy=>y.1.2.1) (λ_ _=>rfl) f4.length (by omega)
  (λn s=>s=Sp.ls (lK::Lib.itoa f0::Lib.itoa f1::(bif f2 then[115]else[111])::Lib.itoa f3::dJ (f4.take n))) rfl (λI μ n s hn hJ next=>?_) λI μ s hJ=>?_
 .subst hJ;dsimp only;rw[ao6];refine eX (by omega) ⟨⟨by omega,by omega⟩,trivial,vN ?_,rfl,next _ ?_⟩
  .have:=DL (f4.take n);rw[ao2]at this;simp only[Sp.ls,ao0,aoO,ao5];omega
  .rw[Yo hn];rw[show∀a b c d e,lK::a::b::c::d::(dJ (f4.take n)++e)=(lK::a::b::c::d::dJ (f4.take n))++e fromλ_ _ _ _ _=>rfl,RJ];rfl
 .subst hJ;dsimp only;rw[apl (aoP _)];have e:List.map (λ(x:List UInt8×Unit)=>x.1) (Sp.ls (lK::Lib.itoa f0::Lib.itoa f1::(bif f2 then[115]else[111])::Lib.itoa f3::dJ f4))=lK::Lib.itoa f0::iT (f0,f1,f2,f3,f4,()):=ahU _;rw[e];refine eY (by omega) ⟨⟨?_,aoW hlong (by have ht:(eP (f0,f1,f2,f3,f4,()).2.2.2.2.1).length<=1073741824:=ht;omega)⟩,rfl⟩;have:=DL f4;simp only[Sp.ls,ao0,aoO];omega
end Go.Proofs.Tryz
namespace Go.Proofs.Tryz
open Go Go.Fw Go.RowKit Sp
theorem akB(s:List UInt8)(hs:s.length<=1048576)(w:World)(hG:G.ok w):Calls prog 153 #[.string ⟨s.toArray⟩] w λe w'=>
 ∃v,e=.returned (.tuple #[v,.bool (l9 s)])/\FW w'.heap.size w' v (ni s)/\Below w.heap.size w w':=by
 have hc:gu prog G 153 (iV mg.sh mg.cO mg.F):=PI.1;refine(hc [.sv (.one (.str s))] (s.length<=1048576) _ 0 (λ_=>True) #[.string ⟨s.toArray⟩] w rfl hs hG ⟨⟨rfl,by rw[maxLen_eq];omega⟩,trivial⟩).mono ?_;rintro e w' ⟨v,vals,rfl,h1,h2,h3,h4,h5,h6,_,_⟩;obtain⟨vs,rfl,h7⟩:=h6;obtain⟨l⟩:=vs
 match l,h7 with
 |[a,b],h7=>
  obtain⟨ha,hb,_⟩:=h7;have hb:b=.bool (l9 s):=hb;have ha:dF w'.heap _ (.sl bW fP) a (ni s):=ha;refine⟨a,by rw[hb],⟨ha.1,?_⟩,h1,h2,h3,h4,h5⟩;rcases ha.2 with h|⟨b,off,cap,cs,t,fz,e1,e2,e3,e4,e5⟩
  .exact .inl h
  .exact .inr ⟨b,off,cap,cs,t,fz,e1,e2,e3.1.1,e4,λi x hx=>aG.flat (S:=_) _ _ _ rfl (e5 i x hx)⟩
theorem aaJ{B P:Nat}{w:World}{v:Value}{q:List ax}(h:NW B P w v q)(hl:q.length<=1000)(S:Nat->Prop)(hS:∀b,B<=b->b<w.heap.size->S b):dF w.heap S (.sl 168 dL) v q:=by
 obtain⟨xs,h1,_,h3⟩:=h;refine⟨by rw[maxLen_eq];omega,?_⟩;rcases h1.2 with⟨e,e2⟩|⟨g,cap,cur,e,e2,e3,e4,e5,e6,e7⟩
 .exact .inl ⟨apE.1 e2,none,0,by rw[e]⟩
 .refine .inr ⟨g,0,cap,cur,168,(0,0),e,e4,hS g e2 (aoV.1 e3).1,e3,λi x hx=>?_⟩;have hi:=(aoY.1 hx).1;have:=h3 i x hx;rw[← e7,arE,ard,aq6 (by omega)]at this;rw[apg];exact aG.flat (S:=λ_=>False) _ _ _ rfl this
theorem ae7{B P:Nat}(v:Value)(q:List ax)(hq:q.length<=1000)(w:World)(hn:NW B P w v q)(hG:G.ok w):Calls prog 104 #[v] w λe w'=>e=.returned (.bool (ay q))/\Below w.heap.size w w':=by have hc:gu prog G 104 (iV iG.sh iG.cO iG.F):=qh.1;refine(hc [.sv (.one (.sl 168 dL q false))] (q.length<=2000000) _ 0 (λ_=>True) #[v] w rfl (by omega) hG ⟨aaJ hn hq _ λb _ hb=>⟨⟨hb,λ_=>trivial,λo x hx=>by cases hx⟩,λh=>by cases h⟩,trivial⟩).mono ?_;rintro e w' ⟨v,vals,rfl,h1,h2,h3,h4,h5,h6,_,_⟩;have h6:v=.bool (ay q):=h6;exact⟨by rw[h6],h1,h2,h3,h4,h5⟩
theorem FW.form{B:Nat}{w:World}{v:Value}{f:Sp.LS}(h:FW B w v f):∃a cap,v=.slice a f.length cap:=by
 rcases h.2 with⟨rfl,a,c,e⟩|⟨b,off,cap,cs,t,fz,e,_⟩
 .exact⟨a,c,e⟩
 .exact⟨_,_,e⟩
theorem FX{w w1:World}{o:Obj}{f:Sp.LS}{q:List ax}{w2:World}(hb1:Below w.heap.size w w1)(hd:Done w1.heap.size w1.heap.size (w1.alloc o) none f q w2):Below w.heap.size w w2:=by
 obtain⟨_,_,_,_,_,h,_⟩:=hd;have hs:(w1.alloc o).heap.size=w1.heap.size+1:=by simp
 exact⟨h.os.trans hb1.os,h.tape.trans hb1.tape,h.output.trans hb1.output,by have:=h.size;have:=hb1.size;omega,λb hb=>(h.block b (by have:=hb1.size;omega) (by have:=hb1.size;omega) (λe=>by cases e)).trans ((heap_alloc_old w1 o (by have:=hb1.size;omega)).trans (hb1.block b hb))⟩
theorem Yp(B P:Nat)(w:World):NW B P w (.slice none 0 0) []/\([]:List ax).length<=1000:=⟨⟨[],aqT w B 168 7,(λe=>by cases e),λi x hx=>by simp at hx⟩,apb _⟩
theorem NW.base{B P B' P':Nat}{w:World}{v:Value}{q:List ax}(h:NW B P w v q)(hB:B'<=B)(hP:w.heap.size<=P'):NW B' P' w v q:=by have hl:=λg hg=>h.lt (g:=g) hg;obtain⟨xs,⟨h1,h2⟩,_,h3⟩:=h;refine⟨xs,⟨h1,h2.imp id λ⟨g,cap,cur,e,e2,e3⟩=>⟨g,cap,cur,e,aoW hB e2,e3⟩⟩,λe=>?_,h3⟩;have:=(hl P' e).2.1;omega
set_option maxHeartbeats 16000000 in
set_option maxRecDepth 100000 in
theorem agt(s:List UInt8)(hs:s.length<=1048576)(w:World)(hG:G.ok w):Calls prog 107 #[.string ⟨s.toArray⟩] w λe w'=>
 ∃v,e=.returned (.tuple #[v,.bool (iP s)])/\Below w.heap.size w w'/\NW w.heap.size w'.heap.size w' v (gY s)/\(gY s).length<=1000:=by
 have mixed:=Tryz.mixed;have sf:=akB s hs w hG;cases hok:l9 s with
 |false=>
  have e1:iP s=false:=by unfold iP;rw[hok];rfl
  have e2:gY s=[]:=by unfold gY;rw[e1];rfl
  rw[hok]at sf;rw[e1,e2];clear e1 e2 hok
  go_enter Tryz.func107,Tryz.ntmps107
  go_wp2_with (first
   |(go_at_call 153;refine sf.mono ?_;rintro e w1 ⟨v,rfl,-,hb1⟩))
  all_goals go_ret2
  all_goals exact⟨_,rfl,hb1,Yp _ _ _⟩
 |true=>
  have hpq:Hid (iP s=((tu (Sp.wordsOf s)).1&&(!decide (((tu (Sp.wordsOf s)).2.1.length:Int)>0)&&ay (tu (Sp.wordsOf s)).2.2))):=by show _=_;unfold iP;rw[hok,aqC]
  have hpl:Hid (gY s=bif iP s then(tu (Sp.wordsOf s)).2.2 else[]):=rfl;obtain⟨hw,hl,_⟩:=aex hok;have hws:∀x∈Sp.wordsOf s,x.1.length<=1000:=λx hx=>aoW (adr x hx) (aoW (ug.1 hok).1 (by decide));have anH:(Sp.wordsOf s).length<=24:=by rw[vM];have:=(ug.1 hok).2.2;omega
  rw[hok,hw]at sf;clear hok hw;generalize iP s=pq at hpq hpl ⊢;generalize gY s=pl at hpl ⊢;generalize Sp.wordsOf s=f at sf hpq hpl hl hws anH;have hcnt:=uh (f.length+1) f [];unfold tu at hpq hpl;generalize hz:Sp.rd (f.length+1) f []=z at hpq hpl hcnt;obtain⟨b1,f2,q2⟩:=z;dsimp only at hpq hpl hcnt;have hz:Hid (Sp.rd (f.length+1) f []=(b1,f2,q2)):=hz;have n8:=G.low w hG;have nd:∀(W:World)(vf:Value)(P:Nat),w.heap.size<=P->G.ok W->W.heap[P]? =some (.cells #[vf,.slice none 0 0] 173 (0,0))->FW P W vf f->Calls prog 154 #[.pointer (some ⟨P,0,none⟩)] W λe w'=>e=.returned (.bool b1)/\Done P P W none f2 q2 w':=λW vf P hP hG2 hc hf=>by have:=aaI (f.length+1) P P W vf (.slice none 0 0) f [] (aqM _) (aoW n8 hP) (aoP _) hG2 hc hf ⟨[],aqT W P 168 7,(λe=>by cases e),λi x hx=>by simp at hx⟩ hws (by rw[ao5];omega);rw[hz.out]at this;exact this
  go_enter Tryz.func107,Tryz.ntmps107
  cases b1 with
  |false=>
   go_wp2_with (first
    |(go_at_call 153;refine sf.mono ?_;rintro e w1 ⟨v,rfl,hf1,hb1⟩;obtain⟨a1,c1,hv1⟩:=hf1.form;subst hv1;clear sf)
    |(go_at_call 154;refine(nd _ (.slice a1 f.length c1) w1.heap.size hb1.size (iR (iR hG hb1) ((Below.refl _ _).alloc (aoP _) _)) (apv w1 _) (hf1.keep λb hb=>heap_alloc_old w1 _ hb)).mono ?_;rintro e w2 ⟨rfl,hd⟩))
   all_goals go_ret2
   all_goals exact⟨_,by rw[show pq=false from hpq.out];rfl,FX hb1 hd,by rw[show pl=[] by rw[hpl.out,hpq.out];rfl];exact Yp _ _ _⟩
  |true=>
   rcases aqm f2.length with h0|h0
   .obtain rfl:f2=[]:=apE.1 h0;clear h0;cases hq:ay q2 with
    |false=>
     go_wp2_with (first
      |(go_at_call 153;refine sf.mono ?_;rintro e w1 ⟨v,rfl,hf1,hb1⟩;obtain⟨a1,c1,hv1⟩:=hf1.form;subst hv1;clear sf)
      |(go_at_call 154;refine(nd _ (.slice a1 f.length c1) w1.heap.size hb1.size (iR (iR hG hb1) ((Below.refl _ _).alloc (aoP _) _)) (apv w1 _) (hf1.keep λb hb=>heap_alloc_old w1 _ hb)).mono ?_;rintro e w2 ⟨rfl,hd⟩;obtain⟨Jc,vn2,hc2,hf2,hn2,hst2⟩:=id hd;obtain⟨a2,c2,hv2⟩:=hf2.form;obtain⟨a3,c3,hv3⟩:=hn2.form;subst hv2 hv3;have p0:w2.cell? ⟨w1.heap.size,0,none⟩=some (.slice a2 0 c2):=ak hc2 0;have p1:w2.cell? ⟨w1.heap.size,1,none⟩=some (.slice a3 q2.length c3):=ak hc2 1;have hdb:=FX hb1 hd)
      |(go_at_call 104;refine(ae7 (.slice a3 q2.length c3) q2 (by omega) w2 hn2 (iR hG hdb)).mono ?_;rintro e w3 ⟨rfl,hb3⟩;rw[hq]))
     all_goals go_ret2
     all_goals exact⟨_,by rw[show pq=false by rw[hpq.out,hq];rfl];rfl,hdb.trans (hb3.mono hdb.size),by rw[show pl=[] by rw[hpl.out,hpq.out,hq];rfl];exact Yp _ _ _⟩
    |true=>
     go_wp2_with (first
      |(go_at_call 153;refine sf.mono ?_;rintro e w1 ⟨v,rfl,hf1,hb1⟩;obtain⟨a1,c1,hv1⟩:=hf1.form;subst hv1;clear sf)
      |(go_at_call 154;refine(nd _ (.slice a1 f.length c1) w1.heap.size hb1.size (iR (iR hG hb1) ((Below.refl _ _).alloc (aoP _) _)) (apv w1 _) (hf1.keep λb hb=>heap_alloc_old w1 _ hb)).mono ?_;rintro e w2 ⟨rfl,hd⟩;obtain⟨Jc,vn2,hc2,hf2,hn2,hst2⟩:=id hd;obtain⟨a2,c2,hv2⟩:=hf2.form;obtain⟨a3,c3,hv3⟩:=hn2.form;subst hv2 hv3;have p0:w2.cell? ⟨w1.heap.size,0,none⟩=some (.slice a2 0 c2):=ak hc2 0;have p1:w2.cell? ⟨w1.heap.size,1,none⟩=some (.slice a3 q2.length c3):=ak hc2 1;have hdb:=FX hb1 hd)
      |(go_at_call 104;refine(ae7 (.slice a3 q2.length c3) q2 (by omega) w2 hn2 (iR hG hdb)).mono ?_;rintro e w3 ⟨rfl,hb3⟩;rw[hq];have p3:w3.cell? ⟨w1.heap.size,1,none⟩=some (.slice a3 q2.length c3):=ak ((hb3.block _ (aoV.1 hc2).1).trans hc2) 1))
     all_goals go_ret2
     all_goals refine⟨_,by rw[show pq=true by rw[hpq.out,hq];rfl];rfl,hdb.trans (hb3.mono hdb.size),?_⟩
     all_goals rw[show pl=q2 by rw[hpl.out,hpq.out,hq];rfl]
     all_goals exact⟨(hn2.keep λg hg=>hb3.block g (hn2.lt hg).2.1).base hb1.size (aoP _),by omega⟩
   .have hpos:(0:Int)<(f2.length:Int):=by omega
    go_wp2_with (first
     |(go_at_call 153;refine sf.mono ?_;rintro e w1 ⟨v,rfl,hf1,hb1⟩;obtain⟨a1,c1,hv1⟩:=hf1.form;subst hv1;clear sf)
     |(go_at_call 154;refine(nd _ (.slice a1 f.length c1) w1.heap.size hb1.size (iR (iR hG hb1) ((Below.refl _ _).alloc (aoP _) _)) (apv w1 _) (hf1.keep λb hb=>heap_alloc_old w1 _ hb)).mono ?_;rintro e w2 ⟨rfl,hd⟩;obtain⟨Jc,vn2,hc2,hf2,hn2,hst2⟩:=id hd;obtain⟨a2,c2,hv2⟩:=hf2.form;subst hv2;have p0:w2.cell? ⟨w1.heap.size,0,none⟩=some (.slice a2 f2.length c2):=ak hc2 0;have hdb:=FX hb1 hd))
    all_goals go_ret2
    all_goals have hpf:pq=false:=by rw[hpq.out,aoZ (show(f2.length:Int)>0 from hpos)];rfl
    all_goals exact⟨_,by rw[hpf];rfl,hdb,by rw[show pl=[] by rw[hpl.out,hpf];rfl];exact Yp _ _ _⟩
theorem ai6{h:Array Obj}{S S':Nat->Prop}(hS:∀b,S b->S' b){v:Value}{q:List ax}(H:dF h S (.sl 168 dL) v q):dF h S' (.sl 168 dL) v q:=by
 refine⟨H.1,?_⟩;rcases H.2 with e|⟨b,off,cap,cs,t,fz,e1,e2,e3,e4,e5⟩
 .exact .inl e
 .exact .inr ⟨b,off,cap,cs,t,fz,e1,e2,hS b e3,e4,λi x hx=>aG.flat (S:=S) _ _ _ rfl (e5 i x hx)⟩
theorem RQ:gu prog G TR Dj:=by
 intro args p out k S vs w hcon hp hG hrep;unfold Dj iV uI at hcon;split at hcon
 .next x hx=>
  obtain⟨s,⟨⟩⟩:=x;have hv:=Ci sN args _ vs.toList hx hrep
  match hvs:vs.toList,hv with
  |[v],hv=>
   have e1:v=.string ⟨s.toArray⟩:=hv.1.1;have e2:vs=#[.string ⟨s.toArray⟩]:=by obtain⟨l⟩:=vs;simp at hvs;rw[hvs,e1]
   subst e2;have hF:=Option.some.inj hcon;have hp1:p=(s.length<=1048576):=(congrArg Prod.fst hF).symm;have hout:out=⟨[(false,[.plain (.sl 168 dL (gY s) true)]),(false,[.plain (.bool (iP s))])],none⟩:=(congrArg Prod.snd hF).symm;subst hp1 hout;refine(agt s hp w hG).mono ?_;rintro e w' ⟨u,rfl,hb,hn,hn2⟩;have hr:=aaJ hn hn2 (λb=>w.heap.size<=b/\b<w'.heap.size) λb h1 h2=>⟨h1,h2⟩;refine⟨_,λ_=>undef,rfl,hb.os,hb.tape,hb.output,hb.size,hb.block,?_,(λo x hx=>by cases hx),(λo x q y b hx=>by cases hx)⟩;exact⟨_,rfl,ai6 (λb hb=>⟨⟨hb.2,λh=>absurd h (Nat.not_lt.2 hb.1),λo x hx=>by cases hx⟩,λ_=>hb.1⟩) hr,rfl,trivial⟩
 .cases hcon
end Go.Proofs.Tryz
namespace Go.Proofs.Tryz
open Go Go.Fw Go.IntWalk Sp
theorem ae8(n:Nat):((n:Int).tmod 2 !=0)=!(n%2==0):=by
 have e:(n:Int).tmod 2=((n%2:Nat):Int):=rfl;rw[e];cases h:n%2 with
 |zero=>rfl
 |succ k=>rw[show((k+1:Nat)==0)=false from rfl];exact bne_iff_ne.2 (by omega)
theorem Jd{w:Sp.LS}{n:Nat}(h:n<w.length):(w.getD n ([],())).1=Sp.wordAt w n:=by rw[yQ (by omega),ao6]
theorem ai7{w:Sp.LS}{n:Nat}(h:n+1<w.length):w.drop n=w.getD n ([],())::w.getD (n+1) ([],())::w.drop (n+2):=by rw[drop_cons w n ([],()) (by omega),drop_cons w (n+1) ([],()) h]
theorem ZH:OK rJ.e:=by
 refine PA.ok mixed (aO [kN.e,(qH,.pure oI)] ⟨ED,⟨uM,yN⟩,trivial⟩) abn (by kernel_rfl) (show∀w,rJ.goal (ZI w) (w,())from ?_);intro w hin hp;dsimp only[rJ]at hp ⊢;obtain⟨hl,hw⟩:w.length<=1000/\∀x∈w,x.1.length<=1048576:=hp;have no:(decide ((w.length:Int)<4)||!(w.length%2==0))=true->((((0,0,false,0,[],()):aT),false,()):aT×Bool×Unit)=((iQ w).1,(iQ w).2,()):=λh=>by unfold iQ;rw[h];rfl
 refine⟨λ_=>4<=w.length/\w.length%2=0,af (λh=>no (by rw[h];rfl)) λh=>⟨by decide,af (λh2=>no ?_) λh2=>⟨rfl,?_⟩⟩,?_⟩
 .rw[ae8]at h2;rw[h2,Bool.or_true]
 .rw[ae8]at h2;exact⟨by have:=gK h;omega,apf.1 (fC h2)⟩
 rintro⟨⟨⟩,⟨⟩⟩ ⟨h4,amx⟩;have ef:iQ w=((Sp.numAt w 0,Sp.numAt (w.drop 1) 0,Sp.wordAt (w.drop 1) 1==[115],Sp.numAt (w.drop 1) 2,jq (w.drop 4),()),(aU (Sp.wordAt w 0)&&(aU (Sp.wordAt w 1)&&aU (Sp.wordAt w 3)))&&qK (w.drop 4)):=by unfold iQ;rw[ao1 (show ¬((w.length:Int)<4) by omega),amx];show(D6 _ _,_)=_;unfold D6;rw[aqF]
 have w1:∀i:Int,0<=i->Sp.wordAt (w.drop 1) i=Sp.wordAt w (1+i):=λi hi=>aey w 1 i (by decide) hi;have en:∀v i,Sp.numAt v i=Sp.parseNum (Sp.wordAt v i):=λ_ _=>rfl;rw[en,en,en,w1 0 (by decide),w1 1 (by decide),w1 2 (by decide)]at ef;have g0:(w.getD 0 ([],())).1=Sp.wordAt w 0:=Jd (by omega);have g1:(w.getD 1 ([],())).1=Sp.wordAt w 1:=Jd (by omega);have g2:(w.getD 2 ([],())).1=Sp.wordAt w 2:=Jd (by omega);have g3:(w.getD 3 ([],())).1=Sp.wordAt w 3:=Jd (by omega);have t0:Int.toNat (0:Int)=0:=rfl;have t1:Int.toNat (1:Int)=1:=rfl;have t2:Int.toNat (2:Int)=2:=rfl;have t3:Int.toNat (3:Int)=3:=rfl;rw[ef];refine⟨⟨by decide,by omega⟩,trivial,⟨by decide,by omega⟩,trivial,⟨by decide,by omega⟩,trivial,⟨by decide,by omega⟩,?_⟩;dsimp only;rw[t0,t1,t2,t3,g0,g1,g2,g3];refine⟨λy=>y=((aU (Sp.wordAt w 0)&&(aU (Sp.wordAt w 1)&&aU (Sp.wordAt w 3)),()),()),?_,?_⟩
 .cases aU (Sp.wordAt w 0)with
  |false=>exact⟨rfl,rfl⟩
  |true=>cases aU (Sp.wordAt w 1)<;>exact⟨rfl,rfl⟩
 rintro _ rfl;generalize (aU (Sp.wordAt w 0)&&(aU (Sp.wordAt w 1)&&aU (Sp.wordAt w 3)))=ok0;refine⟨λy=>∃(n:Nat)(ok:Bool)(al:List bT),y=((ok,((4+2*n:Nat):Int),()),(Sp.parseNum (Sp.wordAt w 0),Sp.parseNum (Sp.wordAt w 1),Sp.wordAt w 2==[115],Sp.parseNum (Sp.wordAt w 3),(),()),al,())/\4+2*n<=w.length/\al.length=n/\
  al++jq (w.drop (4+2*n))=jq (w.drop 4)/\(ok&&qK (w.drop (4+2*n)))=(ok0&&qK (w.drop 4)),λy=>((w.length:Int)-y.1.2.1).toNat,⟨0,ok0,[],rfl,h4,rfl,rfl,rfl⟩,?_⟩
 rintro _ ⟨n,ok,al,rfl,hn,hal,has,hok⟩;dsimp only;refine af (λh=>?_) λh=>?_
 .have hlt:=fV h;have hlt2:4+2*n+1<w.length:=by omega
  have e1:IntKind.i64.wrap (((4+2*n:Nat):Int)+1)=((4+2*n+1:Nat):Int):=(wrap_in (by omega)).trans (by omega);have e2:IntKind.i64.wrap (((4+2*n:Nat):Int)+2)=((4+2*(n+1):Nat):Int):=(wrap_in (by omega)).trans (by omega);rw[e1,e2,ao6,ao6];have hd:=ai7 hlt2;have hd2:w.drop (4+2*n+2)=w.drop (4+2*(n+1)):=by rw[show 4+2*n+2=4+2*(n+1) by omega]
  rw[hd2]at hd;rw[hd]at has hok;have ha:jq (w.getD (4+2*n) ([],())::w.getD (4+2*n+1) ([],())::w.drop (4+2*(n+1)))=((w.getD (4+2*n) ([],())).1,(bU (w.getD (4+2*n+1) ([],())).1).1)::jq (w.drop (4+2*(n+1))):=rfl;have hv:qK (w.getD (4+2*n) ([],())::w.getD (4+2*n+1) ([],())::w.drop (4+2*(n+1)))=((bU (w.getD (4+2*n+1) ([],())).1).2&&qK (w.drop (4+2*(n+1)))):=rfl;rw[ha]at has;rw[hv]at hok;refine⟨⟨by omega,by omega⟩,hw _ (getD_mem hlt2),⟨by omega,by omega⟩,vN (by rw[aoO,ao5];omega),?_⟩;have next:∀b:Bool,(b&&qK (w.drop (4+2*(n+1))))=(ok0&&qK (w.drop 4))->∃(m:Nat)(ok:Bool)(al':List bT),((b,((4+2*(n+1):Nat):Int),()),(Sp.parseNum (Sp.wordAt w 0),Sp.parseNum (Sp.wordAt w 1),Sp.wordAt w 2==[115],Sp.parseNum (Sp.wordAt w 3),(),()),al++[((w.getD (4+2*n) ([],())).1,(bU (w.getD (4+2*n+1) ([],())).1).1)],())=((ok,((4+2*m:Nat):Int),()),(Sp.parseNum (Sp.wordAt w 0),Sp.parseNum (Sp.wordAt w 1),Sp.wordAt w 2==[115],Sp.parseNum (Sp.wordAt w 3),(),()),al',())/\4+2*m<=w.length/\al'.length=m/\
   al'++jq (w.drop (4+2*m))=jq (w.drop 4)/\(ok&&qK (w.drop (4+2*m)))=(ok0&&qK (w.drop 4)):=λb hb=>
   ⟨n+1,b,_,rfl,by omega,by rw[aoK,aoO,ao5,hal],by rw[aoX];exact has,hb⟩
  cases ok with
  |true=>exact⟨rfl,next _ (by rw[← hok,aqC]),by omega⟩
  |false=>exact⟨rfl,next _ (by rw[← hok,aqI,aqI]),by omega⟩
 .have hge:4+2*n=w.length:=by have:=gK h;omega
  rw[hge,List.drop_length]at has hok;have e1:al=jq (w.drop 4):=by rw[← has];exact(ape _).symm
  have e2:ok=(ok0&&qK (w.drop 4)):=by rw[← hok];exact(aqP _).symm
  rw[e1,e2];rfl
end Go.Proofs.Tryz
