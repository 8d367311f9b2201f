import Derived.Test.YtkogcnaellmcdaaGreatFwA
import Derived.Lib.SliceRun
import Derived.WalkSpells
namespace Go.Fw
open Go
variable {P:Program} {w0:World} {M:Nat->Prop} {T:Ext} {γ γ':Nat->Value} {st:St} {a:Act} {w w':World} {Θ:gI} {Γ:iT}
theorem Yk{α:Type}{l:List α}{lo:Nat}{news:List α}(h:lo+news.length<=l.length):(eu l lo news).length=l.length:=by
 grind [eu]
theorem aex{α:Type}{l:List α}{lo:Nat}{news:List α}(h:lo+news.length<=l.length)(k:Nat):
 (eu l lo news)[k]? =if k<lo then l[k]? else if k<lo+news.length then news[k-lo]? else l[k]? :=by
 grind [eu]
theorem Rel.rows(h:Rel w0 M T γ st a w){o:Nat}{e:TypeId}{r:ak}{l:List r.den}{fr:Bool}(ho:st.ah o=some (.arr e r l fr)){b m cap:Nat}(hγ:γ o=.slice (some ⟨b,0,none⟩) m cap){cur:Array Value}(hb:w.heap[b]? =some (.cells cur e (0,0)))
 {lo:Nat} {news:List r.den} {ns:List Value} (hnl:ns.length=news.length*r.len) (hle:lo+news.length<=l.length)
 (hrows:∀i x,news[i]? =some x->aZ w.heap ((aj w0 T γ st w).bI fr) r ((ns.drop (i*r.len)).take r.len) x):
 Rel w0 M T γ (st.add o (.arr e r (eu l lo news) fr)) a (w.setRow b (cur.toList.take (lo*r.len)++ns++cur.toList.drop (lo*r.len+ns.length)).toArray):=by
 obtain⟨xs,⟨h1,h2⟩,hpos,hfr,hrow⟩:=h.ah o _ ho;rcases h2 with⟨hnil,_⟩|⟨g,cap',cur',hg,_,hh,hlc,hmax,hsz,htake⟩
 · grind
 .have yU:γ o=.slice (some ⟨g,0,none⟩) l.length cap':=hg;rw[hγ]at yU;simp at yU;obtain⟨rfl,hn,hcap⟩:=yU;have hcur:cur'=cur:=by
   grind
  subst hcur;have aoU:lo*r.len+news.length*r.len<=l.length*r.len:=by rw[← aqB];exact apA _ hle
  have amg:l.length*r.len<=cap'*r.len:=apA _ hlc;have e1:cur'.toList.length=cur'.size:=aqr;refine h.write (x':=.arr e r (eu l lo news) fr) ho (by rw[hγ];rfl) ⟨rfl,rfl⟩ _ (λle=>?_);have hnew:∀k,(cur'.toList.take (lo*r.len)++ns++cur'.toList.drop (lo*r.len+ns.length))[k]? =if k<lo*r.len then cur'.toList[k]? else if k<lo*r.len+ns.length then ns[k-lo*r.len]? else cur'.toList[k]? :=λk=>aa3 _ _ _ k (by omega)
  have amh:(cur'.toList.take (lo*r.len)++ns++cur'.toList.drop (lo*r.len+ns.length)).length=cur'.size:=by
   grind
  generalize hnd:cur'.toList.take (lo*r.len)++ns++cur'.toList.drop (lo*r.len+ns.length)=new at hnew amh le ⊢;have hol:=Yk hle;refine⟨new.take (l.length*r.len),⟨?_,.inr ⟨b,cap,new.toArray,?_,apW _,Qw hh,?_,?_,?_,?_⟩⟩,hpos,?_,?_⟩
  · grind
  · grind
  .rw[hol];omega
  .omega
  · grind
  · grind
  .omega
  .intro i x hi;have hlt:i<l.length:=by
    grind
   have hmul:i*r.len+r.len<=l.length*r.len:=by
    have:(i+1)*r.len<=l.length*r.len:=apA _ hlt
    grind
   rw[eP _ _ _ _ hmul];rw[aex hle]at hi;have old:∀y,l[i]? =some y->(∀k,k<r.len->new[i*r.len+k]? =cur'.toList[i*r.len+k]?)->aZ (w.setRow b new.toArray).heap (V.bI ⟨w.setRow b new.toArray,w0.heap.size,T.S,γ,(st.add o (.arr e r (eu l lo news) fr)).ah⟩ fr) r ((new.drop (i*r.len)).take r.len) y:=by
    intro y hy hk;have hR:=hrow i y hy;have:(new.drop (i*r.len)).take r.len=(xs.drop (i*r.len)).take r.len:=by
     rw[← htake,eP _ _ _ _ hmul];apply aqo
     grind
    rw[this];exact aZ.mono (λc hc=>le.bI _ c hc) _ _ y hR
   split at hi
   .next hlo=>
    refine old x hi λk hk=>?_;rw[hnew];have:i*r.len+r.len<=lo*r.len:=by
     have:(i+1)*r.len<=lo*r.len:=apA _ hlo
     grind
    grind
   .next hlo=>
    split at hi
    .next hhi=>
     have hR:=hrows _ x hi;have e2:i*r.len=lo*r.len+(i-lo)*r.len:=by rw[← aqB];congr 1;omega
     have hm3:(i-lo)*r.len+r.len<=news.length*r.len:=by have:(i-lo+1)*r.len<=news.length*r.len:=apA _ (by omega);rw[aqB]at this;simpa using this
     have:(new.drop (i*r.len)).take r.len=(ns.drop ((i-lo)*r.len)).take r.len:=by
      apply aqo;intro k;rw[aqk,aqk,aql,aql];by_cases hkr:k<r.len
      .rw[if_pos hkr,if_pos hkr,hnew,if_neg (by omega),if_pos (by omega)];congr 1;omega
      .rw[if_neg hkr,if_neg hkr]
     rw[this];exact aZ.mono (λc hc=>le.bI _ c hc) _ _ x hR
    .next hhi=>
     refine old x hi λk hk=>?_;rw[hnew];have:lo*r.len+news.length*r.len<=i*r.len:=by rw[← aqB];exact apA _ (by omega)
     rw[if_neg (by omega),if_neg (by omega)]
theorem Ic{α:Type}(l:List α)(lo:Nat):eu l lo []=l:=by
 unfold eu
 simp_all
theorem V7{o:Nat}{x:ay}(h:st.ah o=some x):st.add o x=st:=by
 simp only[St.add]at h ⊢;congr 1
 grind [Nat.eq_of_beq_eq_true]
theorem acF(h:Rel w0 M T γ st a w){o:Nat}{e:TypeId}{r:ak}{l:List r.den}{fr:Bool}(ho:st.ah o=some (.arr e r l fr)){b m cap:Nat}(hγ:γ o=.slice (some ⟨b,0,none⟩) m cap):
 ∃cur:Array Value,w.heap[b]? =some (.cells cur e (0,0))/\cur.size=cap*r.len/\0<r.len/\cap<=maxLen/\l.length<=cap/\
  ∀i x,l[i]? =some x->aZ w.heap ((aj w0 T γ st w).bI fr) r ((cur.toList.drop (i*r.len)).take r.len) x:=by
 obtain⟨xs,⟨h1,h2⟩,hpos,hfr,hrow⟩:=h.ah o _ ho;rcases h2 with⟨hnil,_⟩|⟨g,cap',cur',hg,_,hh,hlc,hmax,hsz,htake⟩
 · grind
 .have yU:γ o=.slice (some ⟨g,0,none⟩) l.length cap':=hg;rw[hγ]at yU;obtain⟨rfl,hn,rfl⟩:=yU;refine⟨cur',hh,hsz,hpos,hmax,hlc,λi x hi=>?_⟩;have hlt:i<l.length:=(apC.1 hi).1;have hmul:i*r.len+r.len<=l.length*r.len:=by
   have:(i+1)*r.len<=l.length*r.len:=apA _ hlt
   grind
  grind [eP]
theorem aey{h:Array Obj}{S:Nat->Prop}:∀(r:ak)(vs:List Value)(x:r.den),aZ h S r vs x->∀v∈vs,v.oneCell'=true
 |.nil,vs,_,H,v,hv=>by grind [aZ]
 |.cons c r,vs,(x,y),H,v,hv=>by
  obtain⟨u,vs',rfl,h1,h2⟩:=H;rcases apN.1 hv with rfl|hv
  .cases c with
   |int k=>rw[h1.1];rfl
   |bool=>rw[show _=_ from h1];rfl
   |str=>rw[h1.1];rfl
   |sl e s=>rcases h1.2 with⟨_,a,c,hv⟩|⟨b,off,cap,cs,t,fz,hv,_⟩<;>rw[hv]<;>rfl
  .exact aey r vs' y h2 v hv
theorem acG{h:Array Obj}{S:Nat->Prop}{r:ak}(hpos:0<r.len){news:List r.den}{ns:List Value}(hnl:ns.length=news.length*r.len)(hrows:∀i x,news[i]? =some x->aZ h S r ((ns.drop (i*r.len)).take r.len) x):∀u∈ns,u.oneCell'=true:=by
 intro u hu;obtain⟨j,hj⟩:=aqU hu;have hil:j / r.len<news.length:=Nat.div_lt_of_lt_mul (by grind);have hR:=hrows (j / r.len) _ (apw hil);refine aey _ _ _ hR u ?_;have hdm:=Nat.div_add_mod j r.len;have hml:=Nat.mod_lt j hpos;refine apY (i:=j%r.len) ?_
 grind
theorem Ua(hΘ:∀t ti,Θ t=some ti->jv P t ti)(h:Rel w0 M T γ st a w){t ty:TypeId}{ti:TI}(ht:Θ t=some ti){sx x:Operand}{o CY n0 o2 lo2 n2:Nat}(e1:st.ev sx=.win o CY n0)(e2:st.ev x=.win o2 lo2 n2)
 {p:Prop} {v:AV} {s:St} (hc:Qm Θ st ti o CY n0 o2 lo2 n2=some (p,v,s)) (hp:p):
 ∃u w',(Builtin.append_ #[t,t] ty #[a.eval sx,a.eval x]).run P w=.ok u w'/\Rel w0 M T γ s a w'/\aP (aj w0 T γ s w') v u:=by
 unfold Qm at hc;split at hc
 .next e f r l fr hb hk ho=>
  rw[apt]at hb;have hlo0:=aps hb.1;have hoo:=aps hb.2;subst hlo0 hoo;split at hc
  .next te he=>
   split at hc
   .next hbe=>
    rw[apt]at hbe;have hef:=aps hbe.2;have hte:=ak.eq_of_beq _ _ hbe.1;cases hc;subst hef;obtain⟨hp1,hp2⟩:=hp;obtain⟨g,m,cap,e',r',l',fr',hx,hγ,⟨q,hq,hv,hle⟩⟩:=Qv h e1;rw[ho]at hx;cases hx;obtain⟨g2,m2,cap2,e'',r'',l'',ao3,hx2,yU,⟨q2,hq2,hv2,hle2⟩⟩:=Qv h e2;rw[hγ]at yU;simp at yU;obtain⟨rfl,rfl,rfl⟩:=yU;rw[ho]at hx2;cases hx2;obtain⟨cur,hh,hsz,hpos,hmax,hlc,hrow⟩:=acF h ho hγ;obtain⟨i,z,hi,hisz,hby,hz,hzv,_⟩:=(hΘ e te he).info;have hu:=(hΘ t ti ht).und;rw[hk]at hu;rw[hte]at hisz;by_cases hn2:n2=0
    .subst hn2;refine⟨.slice (some ⟨g,q,none⟩) n0 (cap-0),w,?_,?_,?_⟩
     .rw[hv,hv2];have hnc:n0<=cap:=by omega
      rw[Nat.sub_zero];simp[Builtin.append_,apJ hu.1 w,sizeOf,typeInfo,hi,Builtin.lenOf,Builtin.firstCells,hnc,storeCells,loadCells,loadCellsFrom]
     · grind [Ic,V7]
     .have:eu l n0 ((l.drop lo2).take 0)=l:=by grind [Ic]
      rw[this,V7 ho];exact⟨g,m,cap,e,r,l,fr,ho,hγ,q,hq,rfl,by omega⟩
    .have hq0:q=0:=by omega
     have anr:q2=lo2*r.len:=by omega
     subst hq0 anr;have aoV:((l.drop lo2).take n2).length=n2:=by grind
     let ns:List Value:=(cur.toList.drop (lo2*r.len)).take (n2*r.len)
     have ec:cur.toList.length=cur.size:=aqr;have hm1:lo2*r.len+n2*r.len<=cap*r.len:=by rw[← aqB];simp_all [apA]
     have hm0:n0*r.len+n2*r.len<=cap*r.len:=by rw[← aqB];exact apA _ (by omega)
     have hnl:ns.length=n2*r.len:=by
      grind
     have hrows:∀i x,((l.drop lo2).take n2)[i]? =some x->aZ w.heap ((aj w0 T γ st w).bI fr) r ((ns.drop (i*r.len)).take r.len) x:=by
      intro i x hi;have hilt:i<n2:=by
       grind
      rw[aqk,if_pos hilt,aql]at hi;have hR:=hrow (lo2+i) x hi;have hmul:i*r.len+r.len<=n2*r.len:=by
       have:(i+1)*r.len<=n2*r.len:=apA _ hilt
       grind
      grind [eP,List.drop_drop,Nat.add_mul]
     have Gx:=acG hpos (by grind) hrows;have hnews:∀j u,ns[j]? =some u->w.cell? ((⟨g,lo2*r.len,none⟩:Addr).add j)=some u:=by intro j u hj;rw[addr_add];exact Nc hh _ j u hj
     have hroom:n0+n2<=cap:=by omega
     have hrun:=run_append_room (P:=P) (ty:=ty) (w:=w) t e i hu.1 hi g n0 cap cur hh ⟨g,lo2*r.len,none⟩ n2 (cap-lo2) ns (by grind) hnews Gx hroom (by grind);rw[hisz]at hrun;refine⟨_,_,by rw[hv,hv2];exact hrun,h.rows ho hγ hh (by grind) (by omega) hrows,?_⟩;exact⟨g,m,cap,e,r,_,fr,add_same _ _ _,hγ,0,.inl (by omega),rfl,by omega⟩
   .cases hc
  .cases hc
 .cases hc
theorem aa4{z:Array Value}{r:ak}(hz:z.toList=r.lU)(hpos:0<r.len)(n:Nat):(Builtin.zeroCells z n).toList.length=n*r.len/\∀i,i<n->((Builtin.zeroCells z n).toList.drop (i*r.len)).take r.len=r.lU:=by
 have hzs:z.size=r.len:=by grind [yN]
 have hlen:(Builtin.zeroCells z n).toList.length=n*r.len:=by simp[Builtin.zeroCells,hzs]
 refine⟨hlen,λi hi=>?_⟩;have hmul:i*r.len+r.len<=n*r.len:=by
  have:(i+1)*r.len<=n*r.len:=apA _ hi
  grind
 grind [List.ext_getElem,List.length_take,Nat.add_mul_mod_self_right,Nat.mod_eq_of_lt,Array.length_toList,Builtin.zeroCells]
theorem V8(hΘ:∀t ti,Θ t=some ti->jv P t ti)(h:Rel w0 M T γ st a w){t ty:TypeId}{ti:TI}(ht:Θ t=some ti){x:Operand}{o lo n:Nat}(e1:st.ev x=.win o lo n)
 {p:Prop} {v:AV} {s:St} (hc:VX Θ st ti o lo n=some (p,v,s)) (hp:p):
 ∃u w',(Builtin.clear_ #[t] ty #[a.eval x]).run P w=.ok u w'/\Rel w0 M T γ s a w'/\aP (aj w0 T γ s w') v u:=by
 unfold VX at hc;split at hc
 .next e f r l fr hk ho=>
  split at hc
  .next te he=>
   split at hc
   .next hbe=>
    rw[apt]at hbe;have hef:=aps hbe.2;have hte:=ak.eq_of_beq _ _ hbe.1;cases hc;subst hef;obtain⟨g,m,cap,e',r',l',fr',hx,hγ,⟨q,hq,hv,hle⟩⟩:=Qv h e1;rw[ho]at hx;cases hx;obtain⟨cur,hh,hsz,hpos,hmax,hlc,hrow⟩:=acF h ho hγ;have hu:=(hΘ t ti ht).und;cases n with
    |zero=>
     refine⟨.tuple #[],w,?_,?_,⟨#[],rfl,trivial⟩⟩
     · simp_all [Builtin.clear_,apJ]
     grind [Ic,V7]
    |succ k=>
     have hq0:q=lo*r.len:=by omega
     obtain⟨z,hz,hzv⟩:=OX (P:=P) (w:=w) (hΘ e te he);rw[hte]at hzv;obtain⟨hnl,hzr⟩:=aa4 hzv hpos (k+1);have hm1:lo*r.len+(k+1)*r.len<=cap*r.len:=by rw[← aqB];simp_all [apA]
     have hrl:(List.replicate (k+1) r.dflt).length=k+1:=aqQ;have hrows:∀i x,(List.replicate (k+1) r.dflt)[i]? =some x->aZ w.heap ((aj w0 T γ st w).bI fr) r (((Builtin.zeroCells z.cells (k+1)).toList.drop (i*r.len)).take r.len) x:=by
      grind [Qr]
     have Gx:=acG hpos (by grind) hrows;have hst:=run_storeCells_at P g (lo*r.len) e (Builtin.zeroCells z.cells (k+1)).toList 0 cur w hh (by omega) Gx;refine⟨.tuple #[],_,?_,h.rows ho hγ hh (by grind) (by omega) hrows,⟨#[],rfl,trivial⟩⟩
     simp_all [Builtin.clear_,apJ]
   .cases hc
  .cases hc
 .cases hc
theorem Rel.update(h:Rel w0 M T γ st a w){K D:Nat->Bool}{H:Nat->Prop}{jF:Nat->Option ay}{γ2:Nat->Value}
 (hos:w'.os=w.os) (htape:w'.tape=w.tape) (hout:w'.output=w.output) (hsize:w.heap.size<=w'.heap.size)
 (hH:∀b,H b->∃o x,st.ah o=some x/\blk (γ o)=some b)
 (hheap:∀b,b<w.heap.size->¬H b->w'.heap[b]? =w.heap[b]?)
 (h1:∀p,D p=false->jF p=(st.kill K).ah p/\γ2 p=γ p)
 (h2:∀p x b,D p=false->K p=false->st.ah p=some x->blk (γ p)=some b->¬H b)
 (h3:∀p x,D p=true->jF p=some x->∀b,blk (γ2 p)=some b->b<w'.heap.size/\(w.heap.size<=b\/H b))
 (h3':V.kK K (aj w0 T γ st w) ⟨w',w0.heap.size,T,γ2,jF⟩->∀p x,D p=true->jF p=some x->bg ⟨w',w0.heap.size,T,γ2,jF⟩ p x)
 (h4:∀p q x y b,D p=true->D q=true->jF p=some x->jF q=some y->p≠q->blk (γ2 p)=some b->blk (γ2 q)≠some b)
 (h5:∀p cs,D p=true->K p=false->st.ah p=some (.var cs)->(∃cs',jF p=some (.var cs'))/\γ2 p=γ p)
 (h6:∀p e r l fr,D p=true->K p=false->st.ah p=some (.arr e r l fr)->(∃l' fr',jF p=some (.arr e r l' fr'))/\γ2 p=γ p)
 (h7:∀p cs,D p=true->jF p=some (.var cs)->(∃cs0,st.ah p=some (.var cs0)/\γ2 p=γ p)\/T.N p=none):
 Rel w0 M T γ2 {n:=st.n,tmps:=λt=>(st.tmps t).kill K,ah:=jF} a w'/\V.kK K (aj w0 T γ st w) ⟨w',w0.heap.size,T,γ2,jF⟩:=by
 have hHb:∀b,H b->b<w.heap.size/\(w0.heap.size<=b\/M b):=λb hb=>by obtain⟨o,x,ho,hγ⟩:=hH b hb;exact h.lt o x b ho hγ
 have TL:∀b,(aj w0 T γ st w).foot b->¬H b:=λb hb hh=>by obtain⟨o,x,ho,hγ⟩:=hH b hh;exact hb.2.2 o x ho hγ
 have old:∀p x,D p=false->jF p=some x->∃y,st.ah p=some y/\x=y.kill K/\K p=false:=λp x hD hx=>by
  grind [rU]
 have le:V.kK K (aj w0 T γ st w) ⟨w',w0.heap.size,T,γ2,jF⟩:=by
  refine⟨apz _,λb hb=>⟨⟨ap4 hb.1 hsize,hb.2.1,λo x hx e=>?_⟩,hheap b hb.1 (TL b hb)⟩,λo cs hK ho=>?_,λo e r l fr hK ho=>?_⟩
  .cases hD:D o with
   |false=>
    obtain⟨y,hy,_,_⟩:=old o x hD hx;have e':blk (γ2 o)=some b:=e;rw[(h1 o hD).2]at e';exact hb.2.2 o y hy e'
   |true=>
    rcases(h3 o x hD hx b e).2 with h'|h'
    .have hlt:b<w.heap.size:=hb.1;omega
    grind
  .have ho':st.ah o=some (.var cs):=ho;cases hD:D o with
   |false=>
    refine⟨⟨cs.map (Cell.kill K),?_⟩,(h1 o hD).2⟩;show jF o=_;rw[(h1 o hD).1];exact kQ K hK ho'
   |true=>grind
  .have ho':st.ah o=some (.arr e r l fr):=ho;cases hD:D o with
   |false=>
    refine⟨⟨l,fr,?_⟩,(h1 o hD).2⟩;show jF o=_;rw[(h1 o hD).1];exact kQ K hK ho'
   |true=>grind
 refine⟨⟨h.mT,h.defers,h.size,hos.trans h.os,htape.trans h.tape,hout.trans h.output,apv h.grow hsize,λb hb hM=>?_,λt=>aP.kK le _ _ (h.tmps t),λo x hx=>?_,λo x b hx hb=>?_,λo x p y b hx hy hop hb=>?_,λo v cs hN hx=>?_⟩,le⟩
 .rw[hheap b (ap4 hb h.grow) λhh=>by
   grind]
  exact h.kept b hb hM
 .cases hD:D o with
  |false=>
   obtain⟨y,hy,rfl,hK⟩:=old o x hD hx;exact bg.kK le o y (λb hb=>hheap b (h.lt o y b hy hb).1 (h2 o y b hD hK hy hb)) (h1 o hD).2 (h.ah o y hy)
  |true=>grind
 .cases hD:D o with
  |false=>
   obtain⟨y,hy,rfl,hK⟩:=old o x hD hx;rw[(h1 o hD).2]at hb;have:=h.lt o y b hy hb
   grind
  |true=>have:=h3 o x hD hx b hb;exact⟨this.1,this.2.elim (λg=>.inl (apv h.grow g)) λg=>(hHb b g).2⟩
 .cases hD:D o with
  |false=>
   obtain⟨y1,hy1,rfl,hK1⟩:=old o x hD hx;rw[(h1 o hD).2]at hb;have hbl:=h.lt o y1 b hy1 hb;cases hE:D p with
   |false=>
    obtain⟨y2,hy2,rfl,hK2⟩:=old p y hE hy;rw[(h1 p hE).2];exact h.sep o y1 p y2 b hy1 hy2 hop hb
   |true=>
    grind
  |true=>
   cases hE:D p with
   |false=>
    obtain⟨y2,hy2,rfl,hK2⟩:=old p y hE hy;rw[(h1 p hE).2];intro e;have hbl:=h.lt p y2 b hy2 e
    grind
   |true=>grind
 .cases hD:D o with
  |false=>
   obtain⟨y,hy,e,_⟩:=old o _ hD hx;rw[(h1 o hD).2];cases y with
   |var cs'=>exact h.pin o v cs' hN hy
   |arr _ _ _ _=>cases e
  |true=>
   rcases h7 o cs hD hx with⟨cs0,g1,g2⟩|g
   .rw[g2];exact h.pin o v cs0 hN g1
   grind
def C9(nr:Bool)(st:St)(x:AV)(a:Arg)(o:Option Nat):Prop:=
 (o=none/\(nr=true->x.refs=[])/\lS st [x]=some [a])\/
 (∃p e r l fr,o=some p/\x=.sv (.one (.ref p))/\st.ah p=some (.arr e r l fr)/\a=.own e r l)\/
 (∃p cs,o=some p/\x=.dQ p 0/\st.ah p=some (.var cs)/\cs.flatMap Cell.refs=[]/\a=.ptr (cs.map (Cell.view st)))
theorem Ie{m:Mode}{x:AV}{a:Arg}{o:Option Nat}(h:oD st m x=some (a,o)):C9 true st x a o:=by
 cases m with
 |val=>
  simp only[oD]at h;split at h
  .next a' hr ha=>cases h;exact .inl ⟨rfl,λ_=>hr,ha⟩
  .cases h
 |own=>
  simp only[oD]at h;split at h
  .split at h
   .next p _ e r l fr ho=>cases h;exact .inr (.inl ⟨p,e,r,l,fr,rfl,rfl,ho,rfl⟩)
   .cases h
  .cases h
 |ptr=>
  simp only[oD]at h;split at h
  .split at h
   .next p off _ _ cs h0 ho=>
    split at h
    .next hr=>cases h;have h0:=aps h0;subst h0;exact .inr (.inr ⟨p,cs,rfl,rfl,ho,hr,rfl⟩)
    .cases h
   .cases h
  .cases h
def nV(nr:Bool)(st:St):List AV->List Arg->List (Option Nat)->Prop
 |[],[],[]=>True
 |x::xs,a::as,o::os=>C9 nr st x a o/\nV nr st xs as os
 |_,_,_=>False
theorem Nl:∀(ms:List Mode)(xs:List AV)(as:List Arg)(os:List (Option Nat)),hands st ms xs=some (as,os)->nV true st xs as os
 |_,[],as,os,h=>by cases h;trivial
 |ms,x::xs,as,os,h=>by
  unfold hands at h;split at h
  .next a o as' os' h1 h2=>cases h;exact⟨Ie h1,Nl ms.tail xs as' os' h2⟩
  .cases h
variable {nr:Bool}
theorem nV.get:∀{xs:List AV}{as:List Arg}{os:List (Option Nat)},nV nr st xs as os->∀(i:Nat)(a:Arg),as[i]? =some a->∃x o,xs[i]? =some x/\os[i]? =some o/\C9 nr st x a o
 |[],[],[],_,i,a,h=>by simp at h
 |x::xs,b::as,o::os,⟨h1,h2⟩,0,a,h=>by grind
 |x::xs,b::as,o::os,⟨h1,h2⟩,i+1,a,h=>by
  obtain⟨y,q,g1,g2,g3⟩:=h2.get i a (by simpa using h)
  grind
 |[],[],_::_,H,_,_,_|[],_::_,_,H,_,_,_|_::_,[],_,H,_,_,_|_::_,_::_,[],H,_,_,_=>H.elim
theorem nV.length:∀{xs:List AV}{as:List Arg}{os:List (Option Nat)},nV nr st xs as os->as.length=xs.length/\os.length=xs.length
 |[],[],[],_=>⟨rfl,rfl⟩
 |x::xs,b::as,o::os,⟨_,h2⟩=>by simp[h2.length.1,h2.length.2]
 |[],[],_::_,H|[],_::_,_,H|_::_,[],_,H|_::_,_::_,[],H=>H.elim
def γE(os:List (Option Nat))(γ:Nat->Value)(p:Nat):Value:=match os[p / 64]? with|some (some o)=>γ o|_=>undef
theorem Qx{xs:List AV}{as:List Arg}{os:List (Option Nat)}(hh:nV nr st xs as os){q:Nat}{X:ay}(hq:dR as q=some X):
 ∃o Y,os[q / 64]? =some (some o)/\st.ah o=some Y/\((∃e r l fr,X=.arr e r l false/\Y=.arr e r l fr/\q%64=49)\/(∃cs,X=.var (cs.map (Cell.view st))/\Y=.var cs/\cs.flatMap Cell.refs=[]/\q%64=48)):=by
 unfold dR at hq;split at hq
 .next e r l ha=>
  split at hq
  .next hm=>
   have hm:=aps hm;obtain⟨x,o,_,ho,h1⟩:=hh.get _ _ ha;rcases h1 with⟨_,_,h3⟩|⟨p,e',r',l',fr,rfl,_,hp,h4⟩|⟨p,cs,_,_,_,_,h4⟩
   .unfold lS at h3;split at h3
    .split at h3<;>simp at h3
    .split at h3<;>simp at h3
    .split at h3<;>simp at h3
    .cases h3
   · grind
   .cases h4
  .cases hq
 .next cs0 ha=>
  split at hq
  .next hm=>
   have hm:=aps hm;obtain⟨x,o,_,ho,h1⟩:=hh.get _ _ ha;rcases h1 with⟨_,_,h3⟩|⟨p,e',r',l',fr,_,_,_,h4⟩|⟨p,cs,rfl,_,hp,hr,h4⟩
   .unfold lS at h3;split at h3
    .split at h3<;>simp at h3
    .split at h3<;>simp at h3
    .split at h3<;>simp at h3
    .cases h3
   .cases h4
   grind
  .cases hq
 .cases hq
theorem J8:∀{os:List (Option Nat)},uD os=true->∀(i j:Nat)(o:Nat),os[i]? =some (some o)->os[j]? =some (some o)->i=j:=by
 have mem:∀(os:List (Option Nat))(i o:Nat),os[i]? =some (some o)->Ql o os=true:=by
  intro os
  induction os with
  |nil=>grind
  |cons x os ih=>
   intro i o h;cases i with
   |zero=>simp_all [Ql]
   |succ i=>
    cases x with
    |none=>grind [Ql]
    |some p=>grind [Ql]
 intro os
 induction os with
 |nil=>grind
 |cons x os ih=>
  cases x with
  |none=>
   grind [uD]
  |some p=>
   grind [uD]
theorem bg.aa5{Y Z:V}{q p:Nat}{e:TypeId}{r:ak}{l:List r.den}{fr fr':Bool}(H:bg Y q (.arr e r l fr))(hγ:Z.γ p=Y.γ q)(hw:Z.w=Y.w)
 (hf:∀b,Y.bI fr b->Z.bI fr' b) (hn:∀b,blk (Y.γ q)=some b->fr'=true->Z.n0<=b):bg Z p (.arr e r l fr'):=by
 obtain⟨xs,hown,hr,_,hx⟩:=H;refine⟨xs,?_,hr,λb hb hfr=>hn b (by grind) hfr,λi x hi=>?_⟩
 · grind
 grind [aZ.mono]
theorem CS{Y Z:V}(hw:Z.w=Y.w)(hf:∀fr b,Y.bI fr b->Z.bI fr b):∀(cs:List Cell)(vs:List Value),cs.flatMap Cell.refs=[]->ai Y cs vs->ai Z cs vs
 |[],[],_,H=>H
 |c::cs,v::vs,hr,⟨h1,h2⟩=>by
  rw[ap8,apU]at hr;refine⟨?_,CS hw hf cs vs hr.2 h2⟩;cases c with
  |ref o=>cases hr.1
  |sl e r l fr=>
   show fM Z.w.heap (Z.bI fr) (.sl e r) v l;rw[hw];exact fM.mono (λb hb=>⟨hf fr b hb,rfl⟩) (.sl e r) v l h1
  |_=>exact h1
 |[],_::_,_,H|_::_,[],_,H=>by cases H
theorem V9{X:V}:∀(as:List Arg)(us:List Value)(i:Nat),as.length=us.length->(∀j a u,as[j]? =some a->us[j]? =some u->Ia X (i+j) a u)->vX X i as us
 |[],[],_,_,_=>trivial
 |a::as,u::us,i,hl,h=>⟨h 0 a u rfl rfl,V9 as us (i+1) (by simpa using hl) λj b v hb hv=>by
   have:=h (j+1) b v (by simpa using hb) (by simpa using hv)
   grind⟩
 |[],_::_,_,hl,_|_::_,[],_,hl,_=>by simp at hl
theorem kU.get{X:V}:∀(xs:List AV)(us:List Value),kU X xs us->xs.length=us.length/\∀(i:Nat)(x:AV)(u:Value),xs[i]? =some x->us[i]? =some u->aP X x u
 |[],[],_=>⟨rfl,λi x u h=>by simp at h⟩
 |x::xs,u::us,⟨h1,h2⟩=>by
  obtain⟨g1,g2⟩:=kU.get xs us h2;refine⟨by simp[g1],λi y v hy hv=>?_⟩;cases i with
  |zero=>simp at hy hv;subst hy hv;exact h1
  |succ i=>exact g2 i y v (by simpa using hy) (by simpa using hv)
 |[],_::_,H|_::_,[],H=>by cases H
theorem Gy:∀{os:List (Option Nat)}{aH:List Eff}{δ:List (Nat×ay)},lC st os aH=some δ->∀(p:Nat),
 (∀(x:ay),Fw.look δ p=some x->∃i:Nat,os[i]? =some (some p)/\
   ((∃(e:TypeId)(r:ak)(l l0:List r.den)(fr:Bool),aH[i]? =some (.arr e r l)/\st.ah p=some (.arr e r l0 fr)/\x=.arr e r l false)\/(∃(cs cs0:List Cell),aH[i]? =some (.var cs)/\st.ah p=some (.var cs0)/\cs.flatMap Cell.refs=[]/\x=.var cs)))/\
 (∀i:Nat,os[i]? =some (some p)->Fw.look δ p=none->gK os aH p=true)
 |[],aH,δ,h,p=>by
  cases h;exact⟨(λx hx=>by cases hx),(λi hi=>by simp at hi)⟩
 |none::os,aH,δ,h,p=>by
  rw[lC]at h;obtain⟨h1,h2⟩:=Gy h p
  grind [gK]
 |some o::os,aH,δ,h,p=>by
  unfold lC at h;have Wh:∀{δ'}(_:lC st os aH.tail=some δ'),(∀(x:ay),Fw.look δ' p=some x->∃i:Nat,(some o::os)[i]? =some (some p)/\
   ((∃(e:TypeId)(r:ak)(l l0:List r.den)(fr:Bool),aH[i]? =some (.arr e r l)/\st.ah p=some (.arr e r l0 fr)/\x=.arr e r l false)\/(∃(cs cs0:List Cell),aH[i]? =some (.var cs)/\st.ah p=some (.var cs0)/\cs.flatMap Cell.refs=[]/\x=.var cs)))/\
   (∀i:Nat,os[i]? =some (some p)->Fw.look δ' p=none->gK os aH.tail p=true):=by
   intro δ' hδ;obtain⟨h1,h2⟩:=Gy hδ p
   grind
  have ami:∀{y:Eff},aH.head?=some y->aH[0]? =some y:=λhy=>by cases aH<;>simp at hy ⊢;exact hy
  have ant:∀(_:gK os aH.tail p=true),gK (some o::os) aH p=true:=λg=>by
   grind [gK]
  split at h
  .next δ' hh hδ=>
   cases h;obtain⟨h1,h2⟩:=Wh hδ;refine⟨h1,λi hi hn=>?_⟩;cases i with
   |zero=>
    simp_all [gK]
   |succ i=>grind
  .next e r l f s l0 fr0 δ' hh ho hδ=>
   split at h
   .next hb=>
    cases h;rw[apt]at hb;have he:=aps hb.1;have hr:=ak.eq_of_beq r s hb.2;subst he hr;obtain⟨h1,h2⟩:=Wh hδ;refine⟨λx hx=>?_,λi hi hn=>?_⟩
    · grind [Fw.look,Nat.eq_of_beq_eq_true]
    .rw[Fw.look]at hn;split at hn
     .cases hn
     .next hln=>
      split at hn
      .cases hn
      .next hpo=>
       cases i with
       |zero=>simp_all
       |succ i=>grind
   .cases h
  .next cs cs0 δ' hh ho hδ=>
   split at h
   .next hr=>
    cases h;obtain⟨h1,h2⟩:=Wh hδ;refine⟨λx hx=>?_,λi hi hn=>?_⟩
    · grind [Fw.look,Nat.eq_of_beq_eq_true]
    .rw[Fw.look]at hn;split at hn
     .cases hn
     .next hln=>
      split at hn
      .cases hn
      .next hpo=>
       cases i with
       |zero=>simp_all
       |succ i=>grind
   .cases h
  .cases h
theorem DR:∀{os:List (Option Nat)}{aH:List Eff}{δ:List (Nat×ay)},lC st os aH=some δ->∀(i p:Nat),os[i]? =some (some p)->
 aH[i]? =some .lose\/(∃(e:TypeId)(r:ak)(l:List r.den),aH[i]? =some (.arr e r l)/\∃x:ay,Fw.look δ p=some x)\/(∃(cs:List Cell),aH[i]? =some (.var cs)/\∃x:ay,Fw.look δ p=some x)
 |[],aH,δ,h,i,p,hi=>by simp at hi
 |none::os,aH,δ,h,i,p,hi=>by
  rw[lC]at h;cases i with
  |zero=>simp at hi
  |succ i=>
   have:=DR h i p (by simpa using hi)
   grind
 |some o::os,aH,δ,h,i,p,hi=>by
  unfold lC at h;have ami:∀{y:Eff},aH.head?=some y->aH[0]? =some y:=λhy=>by cases aH<;>simp at hy ⊢;exact hy
  have lk:∀{δ':List (Nat×ay)}{z:ay},(∃x:ay,Fw.look δ' p=some x)->∃x:ay,Fw.look ((o,z)::δ') p=some x:=λ⟨x,hx⟩=>⟨x,by rw[Fw.look,hx]⟩;have lk0:∀{δ':List (Nat×ay)}{z:ay},∃x:ay,Fw.look ((o,z)::δ') o=some x:=by
   intro δ' z;rw[Fw.look];cases Fw.look δ' o with
   |some y=>grind
   |none=>simp
  split at h
  .next δ' hh hδ=>
   cases i with
   |zero=>grind
   |succ i=>have:=DR hδ i p (by simpa using hi);grind
  .next e r l f s l0 fr0 δ' hh ho hδ=>
   split at h
   .cases h;cases i with
    |zero=>simp_all
    |succ i=>have:=DR hδ i p (by simpa using hi);rw[List.getElem?_tail]at this;exact this.imp id λg=>g.imp (λ⟨e,r,l,g1,g2⟩=>⟨e,r,l,g1,lk g2⟩) λ⟨cs,g1,g2⟩=>⟨cs,g1,lk g2⟩
   .cases h
  .next cs cs0 δ' hh ho hδ=>
   split at h
   .cases h;cases i with
    |zero=>simp_all
    |succ i=>have:=DR hδ i p (by simpa using hi);rw[List.getElem?_tail]at this;exact this.imp id λg=>g.imp (λ⟨e,r,l,g1,g2⟩=>⟨e,r,l,g1,lk g2⟩) λ⟨cs,g1,g2⟩=>⟨cs,g1,lk g2⟩
   .cases h
  .cases h
theorem U4{aH:List Eff}{δ:List (Nat×ay)}(h:Fv aH δ=true){o:Nat}{x:ay}(hl:Fw.look δ o=some x):lT aH o=none:=by
 have:=apL.1 h _ (sN δ o x hl)
 simp_all
theorem agu{aH:List Eff}{i:Nat}:(∀(e:TypeId)(r:ak)(l:List r.den),aH[i]? =some (.arr e r l)->lT aH (i*64+49)=some (.arr e r l false))/\
 (∀cs:List Cell,aH[i]? =some (.var cs)->lT aH (i*64+48)=some (.var cs)):=by
 have h1:(i*64+49) / 64=i:=by omega
 have h3:(i*64+48) / 64=i:=by omega
 simp_all [lT]
theorem Jp{aH:List Eff}{q:Nat}{X:ay}(h:lT aH q=some X):(∃(e:TypeId)(r:ak)(l:List r.den),aH[q / 64]? =some (.arr e r l)/\X=.arr e r l false/\q=q / 64*64+49)\/
 (∃cs:List Cell,aH[q / 64]? =some (.var cs)/\X=.var cs/\q=q / 64*64+48):=by
 unfold lT at h;split at h
 · grind [Nat.eq_of_beq_eq_true]
 · grind [Nat.eq_of_beq_eq_true]
 .cases h
theorem Rel.Qy(h:Rel w0 M T γ st a w){xs:List AV}{as:List Arg}{os:List (Option Nat)}
 (hh:nV nr st xs as os) {out:Out} {aH:List Eff} {k:Nat} (aez:k%64=1) {δ:List (Nat×ay)}
 (hb:lC st os aH=some δ) (hfr:iC (st.kill (gK os aH)) (out.take k).2=true) {e:Ending}
 (hpost:Jm (aj w0 T γ st w).foot as (γE os γ) w k out aH e w'):
 ∃v γ',e=.returned v/\Rel w0 M T γ' (((st.kill (gK os aH)).adds δ).adds (out.take k).2) a w'/\aP (aj w0 T γ' (((st.kill (gK os aH)).adds δ).adds (out.take k).2) w') (out.take k).1 v:=by
 let S:=(aj w0 T γ st w).foot
 let E:=dR as
 let ge:=γE os γ
 let XE:V:=⟨w,w.heap.size,S,ge,E⟩
 have hge:∀{q o:Nat},os[q / 64]? =some (some o)->ge q=γ o:=λhq=>by show(match os[_ / 64]? with|some (some o)=>γ o|_=>undef)=_;rw[hq]
 have hEs:∀{q:Nat}{X:ay},E q=some X->_:=λhq=>Qx hh hq;have Qz:∀b,S b->XE.foot b:=λb hb=>⟨hb.1,λ_=>hb,λq X hq=>by obtain⟨o,Y,ho,hY,_⟩:=hEs hq;show blk (ge q)≠some b;rw[hge ho];exact hb.2.2 o Y hY⟩;have hbl:∀{q:Nat}{X:ay},E q=some X->∀b,blk (ge q)=some b->b<w.heap.size/\(w0.heap.size<=b\/M b):=λhq b hb=>by obtain⟨o,Y,ho,hY,_⟩:=hEs hq;rw[hge ho]at hb;exact h.lt o Y b hY hb
 obtain⟨v,γ',rfl,h1,h2,h3,h4,h5,h6,h7,h8,h9⟩:=hpost
 let δ2:=(out.take k).2
 let K:=gK os aH
 let H:Nat->Prop:=vY E ge
 let γ2:Nat->Value:=λq=>match Fw.look δ2 q with|some _=>γ' q|none=>γ q
 let D:Nat->Bool:=λq=>(Fw.look δ q).isSome||(Fw.look δ2 q).isSome
 let jF:Nat->Option ay:=(((st.kill K).adds δ).adds δ2).ah
 have Jq:∀q,jF q=match Fw.look δ2 q with|some y=>some y|none=>match Fw.look δ q with|some y=>some y|none=>(st.kill K).ah q:=λq=>by
  grind [pG]
 have Wi:∀{q:Nat}{y:ay},Fw.look δ2 q=some y->γ2 q=γ' q:=λhq=>by grind
 have Np:∀{q:Nat},Fw.look δ2 q=none->γ2 q=γ q:=λhq=>by grind
 have hH:∀b,H b->∃o x,st.ah o=some x/\blk (γ o)=some b:=by
  rintro b ⟨q,X,hq,hb⟩
  grind
 have hback:∀{q:Nat}{x:ay},Fw.look δ q=some x->∃c,lT aH c=some x/\ge c=γ q/\os[c / 64]? =some (some q)/\
  ((∃(e:TypeId)(r:ak)(l l0:List r.den)(fr:Bool),st.ah q=some (.arr e r l0 fr)/\x=.arr e r l false)\/(∃(cs cs0:List Cell),st.ah q=some (.var cs0)/\cs.flatMap Cell.refs=[]/\x=.var cs)):=by
  intro q x hq;obtain⟨i,hi,hk⟩:=(Gy hb q).1 x hq;have d1:(i*64+49) / 64=i:=by omega
  have d3:(i*64+48) / 64=i:=by omega
  rcases hk with⟨e,r,l,l0,fr,g1,g2,rfl⟩|⟨cs,cs0,g1,g2,g3,rfl⟩
  .exact⟨i*64+49,agu.1 e r l g1,hge (by grind),by grind,.inl ⟨e,r,l,l0,fr,g2,rfl⟩⟩
  .exact⟨i*64+48,agu.2 cs g1,hge (by grind),by grind,.inr ⟨cs,cs0,g2,g3,rfl⟩⟩
 have akl:∀{q:Nat}{y:ay},lT aH q=some y->∀b,blk (ge q)=some b->b<w.heap.size:=by
  intro q y hq b hbk;have hbk0:=hbk;show b<w.heap.size;have:∃o,os[q / 64]? =some (some o):=by
   have hbk':blk (match os[q / 64]? with|some (some o)=>γ o|_=>undef)=some b:=hbk;cases ho:os[q / 64]? with
   |none=>rw[ho]at hbk';cases hbk'
   |some z=>cases z with
    |none=>rw[ho]at hbk';cases hbk'
    |some o=>grind
  obtain⟨o,ho⟩:=this;rw[hge ho]at hbk;have hex:∃Y,st.ah o=some Y:=by
   rcases DR hb _ _ ho with g|⟨e,r,l,g,x,hx⟩|⟨cs,g,x,hx⟩
   .rcases Jp hq with⟨e,r,l,g',_⟩|⟨cs,g',_⟩<;>(rw[g]at g';cases g')
   .obtain⟨c,_,_,_,hk⟩:=hback hx;rcases hk with⟨_,_,_,_,_,g,_⟩|⟨_,_,g,_⟩<;>exact⟨_,g⟩
   .obtain⟨c,_,_,_,hk⟩:=hback hx;rcases hk with⟨_,_,_,_,_,g,_⟩|⟨_,_,g,_⟩<;>exact⟨_,g⟩
  obtain⟨Y,hY⟩:=hex;exact(h.lt o Y b hY hbk).1
 let Y2:V:=⟨w',w.heap.size,oQ S as aH ge,γ',Fw.look δ2⟩
 have hKH:∀q x b,D q=false->K q=false->st.ah q=some x->blk (γ q)=some b->¬H b:=by
  rintro q x b hD hK hq hbq ⟨c,X,hc,hbc⟩;obtain⟨o,Y,ho,hY,_⟩:=hEs hc;rw[hge ho]at hbc;by_cases hoq:o=q
  .subst hoq;have hD':Fw.look δ o=none:=by
    have:(Fw.look δ o).isSome=false:=by
     grind
    simp_all
   have:=(Gy hb o).2 _ ho hD'
   grind
  .exact h.sep o Y q x b hY hq hoq hbc hbq
 have aik:∀b,Y2.foot b->V.foot ⟨w',w0.heap.size,T,γ2,jF⟩ b:=by
  intro b hbf;refine⟨hbf.1,λhlt=>?_,λq x hq e=>?_⟩
  .have hlt0:b<w0.heap.size:=hlt;have hlt':b<w.heap.size:=ap4 hlt0 h.grow;rcases(hbf.2.1 hlt').1 with g|⟨c,X,hc,hbc⟩
   .exact g.2.1 hlt
   .exact h.mT b ((hbl hc b hbc).2.resolve_left (by omega))
  .have hq':jF q=some x:=hq;have e':blk (γ2 q)=some b:=e;rw[Jq]at hq';cases hl2:Fw.look δ2 q with
   |some y=>
    rw[Wi hl2]at e';exact hbf.2.2 q y hl2 e'
   |none=>
    rw[Np hl2]at e';rw[hl2]at hq';cases hl:Fw.look δ q with
    |some y=>
     obtain⟨c,U5,hcg,hco,_⟩:=hback hl;rw[← hcg]at e';have hlt:b<w.heap.size:=akl U5 b e';exact(hbf.2.1 hlt).2 c y U5 e'
    |none=>
     rw[hl]at hq';obtain⟨z,hz,_,hKq⟩:=rU K hq';have hlt:=(h.lt q z b hz e').1;rcases(hbf.2.1 hlt).1 with g|g
     .exact g.2.2 q z hz e'
     grind
 have agv:∀fr b,Y2.bI fr b->V.bI ⟨w',w0.heap.size,T,γ2,jF⟩ fr b:=λfr b hbf=>⟨aik b hbf.1,λe=>apv h.grow (hbf.2 e)⟩;have hle2:V.le Y2 ⟨w',w0.heap.size,T,γ2,jF⟩:=by
  have hin:∀{o:Nat}{x:ay},Fw.look δ2 o=some x->jF o=some x:=λhl=>by rw[Jq,hl]
  exact⟨h.grow,λb hbf=>⟨aik b hbf,rfl⟩,λo cs hl=>⟨⟨cs,hin hl⟩,Wi hl⟩,λo e r l fr hl=>⟨⟨l,fr,hin hl⟩,Wi hl⟩⟩
 have hmain:=h.update (w':=w') (K:=K) (D:=D) (H:=H) (jF:=jF) (γ2:=γ2) h1 h2 h3 h4 hH h5
  (λq hD=>by
    grind)
  hKH
  (λq x hD hq b hbq=>by
    rw[Jq]at hq;cases hl2:Fw.look δ2 q with
    |some y=>
     grind
    |none=>
     rw[Np hl2]at hbq;rw[hl2]at hq;cases hl:Fw.look δ q with
     |some y=>
      obtain⟨c,U5,hcg,hco,hk⟩:=hback hl;rw[← hcg]at hbq;have hlt:=akl U5 b hbq;refine⟨ap4 hlt h4,.inr ?_⟩;have hcE:∃X,E c=some X:=by
       obtain⟨x',o',hx',ho',hone⟩:=hh.get (c / 64) (as[c / 64]'(by have:=apC.1 hco;rw[hh.length.1,← hh.length.2];exact this.1)) (apw _);rw[hco]at ho';cases ho';rcases hone with⟨g,_⟩|⟨q',e,r,l,fr,g1,_,g2,g3⟩|⟨q',cs,g1,_,g2,_,g3⟩
       .cases g
       .cases g1;rcases hk with⟨e1,r1,l1,l0,fr1,g4,rfl⟩|⟨cs1,cs0,g4,_⟩
        .rcases Jp U5 with⟨_,_,_,_,_,hcq⟩|⟨_,_,g,_⟩
         .refine⟨.arr e r l false,?_⟩;show dR as c=_;have hm:c%64=49:=by omega
          unfold dR;rw[apw (by have:=apC.1 hco;rw[hh.length.1,← hh.length.2];exact this.1),g3,hm]
         .cases g
        grind
       .cases g1;rcases hk with⟨e1,r1,l1,l0,fr1,g4,rfl⟩|⟨cs1,cs0,g4,_,rfl⟩
        .rw[g2]at g4;cases g4
        .rcases Jp U5 with⟨_,_,_,_,g,_⟩|⟨_,_,_,hcq⟩
         .cases g
         .refine⟨.var (cs.map (Cell.view st)),?_⟩;show dR as c=_;have hm:c%64=48:=by omega
          unfold dR;rw[apw (by have:=apC.1 hco;rw[hh.length.1,← hh.length.2];exact this.1),g3,hm]
      obtain⟨X,hX⟩:=hcE;exact⟨c,X,hX,hbq⟩
     |none=>have h0:((Fw.look δ q).isSome||(Fw.look δ2 q).isSome)=true:=hD;rw[hl,hl2]at h0;cases h0)
  (λ_ q x hD hq=>by
    rw[Jq]at hq;cases hl2:Fw.look δ2 q with
    |some y=>
     rw[hl2]at hq;cases hq;exact bg.mono hle2 q x (λ_ _=>rfl) (Wi hl2) (h7 q x hl2).1
    |none=>
     rw[hl2]at hq;cases hl:Fw.look δ q with
     |some y=>
      rw[hl]at hq;cases hq;obtain⟨c,U5,hcg,hco,hk⟩:=hback hl;obtain⟨g1,g2⟩:=h9 c x U5;have hγq:γ2 q=γ' c:=by rw[Np hl2,g1];exact hcg.symm
      rcases hk with⟨e,r,l,l0,fr,_,rfl⟩|⟨cs,cs0,_,hr,rfl⟩
      .exact bg.aa5 (Y:=Y2) g2 hγq rfl (λb hbf=>agv false b hbf) (λb _ e=>by cases e)
      .obtain⟨b,arr,t,k1,k2,k3⟩:=g2;exact⟨b,arr,t,hγq.trans k1,k2,CS (Y:=Y2) (Z:=⟨w',w0.heap.size,T,γ2,jF⟩) rfl agv _ _ hr k3⟩
     |none=>have h0:((Fw.look δ q).isSome||(Fw.look δ2 q).isSome)=true:=hD;rw[hl,hl2]at h0;cases h0)
  (λp1 p2 x y b hD1 hD2 hq1 hq2 hne hb1=>by
    rw[Jq]at hq1 hq2;cases l1:Fw.look δ2 p1 with
    |some y1=>
     rw[Wi l1]at hb1;cases l2:Fw.look δ2 p2 with
     |some y2=>rw[Wi l2];exact h8 p1 y1 p2 y2 b l1 l2 hne hb1
     |none=>
      rw[Np l2];cases m2:Fw.look δ p2 with
      |some y2=>
       obtain⟨c,U5,hcg,hco,hk⟩:=hback m2;rw[← hcg];exact((h7 p1 y1 l1).2 b hb1).2.2 c y2 U5
      |none=>
       have h0:((Fw.look δ p2).isSome||(Fw.look δ2 p2).isSome)=true:=hD2;rw[m2,l2]at h0;cases h0
    |none=>
     rw[Np l1]at hb1;cases m1:Fw.look δ p1 with
     |none=>
      have h0:((Fw.look δ p1).isSome||(Fw.look δ2 p1).isSome)=true:=hD1;rw[m1,l1]at h0;cases h0
     |some y1=>
      obtain⟨c1,anu,anv,ao4,hk1⟩:=hback m1;cases l2:Fw.look δ2 p2 with
      |some y2=>
       rw[Wi l2];intro e;rw[← anv]at hb1;exact((h7 p2 y2 l2).2 b e).2.2 c1 y1 anu hb1
      |none=>
       rw[Np l2];cases m2:Fw.look δ p2 with
       |none=>
        have h0:((Fw.look δ p2).isSome||(Fw.look δ2 p2).isSome)=true:=hD2;rw[m2,l2]at h0;cases h0
       |some y2=>
        obtain⟨c2,ao5,ao6,ao7,hk2⟩:=hback m2;have e1:∃z,st.ah p1=some z:=by rcases hk1 with⟨_,_,_,_,_,g,_⟩|⟨_,_,g,_⟩<;>exact⟨_,g⟩
        have e2:∃z,st.ah p2=some z:=by rcases hk2 with⟨_,_,_,_,_,g,_⟩|⟨_,_,g,_⟩<;>exact⟨_,g⟩
        obtain⟨z1,e1⟩:=e1;obtain⟨z2,e2⟩:=e2;exact h.sep p1 z1 p2 z2 b e1 e2 hne hb1)
  (λq cs hD hK hq=>by
    cases l2:Fw.look δ2 q with
    |some y=>have:=DJ hfr l2;rw[kQ K hK hq]at this;cases this
    |none=>
     refine⟨?_,Np l2⟩;cases m2:Fw.look δ q with
     |none=>
      have h0:((Fw.look δ q).isSome||(Fw.look δ2 q).isSome)=true:=hD;rw[m2,l2]at h0;cases h0
     |some y=>
      obtain⟨c,_,_,_,hk⟩:=hback m2;rcases hk with⟨_,_,_,_,_,g,_⟩|⟨cs',_,g,_,rfl⟩
      .rw[hq]at g;cases g
      .exact⟨cs',by rw[Jq,l2,m2]⟩)
  (λq e r l fr hD hK hq=>by
    cases l2:Fw.look δ2 q with
    |some y=>have:=DJ hfr l2;rw[kQ K hK hq]at this;cases this
    |none=>
     refine⟨?_,Np l2⟩;cases m2:Fw.look δ q with
     |none=>
      have h0:((Fw.look δ q).isSome||(Fw.look δ2 q).isSome)=true:=hD;rw[m2,l2]at h0;cases h0
     |some y=>
      obtain⟨c,_,_,_,hk⟩:=hback m2;rcases hk with⟨e',r',l',l0,fr',g,rfl⟩|⟨_,_,g,_⟩
      .rw[hq]at g;cases g;exact⟨l',false,by rw[Jq,l2,m2]⟩
      .rw[hq]at g;cases g)
  (λq cs hD hq=>by
    rw[Jq]at hq;cases l2:Fw.look δ2 q with
    |some y=>
     rw[l2]at hq;cases hq;have h0:=out.aej k aez l2;refine .inr ?_;cases hT:T.N q with
     |none=>rfl
     |some v'=>have:=T.n48 q v' hT;omega
    |none=>
     rw[l2]at hq;cases m2:Fw.look δ q with
     |none=>
      have h0:((Fw.look δ q).isSome||(Fw.look δ2 q).isSome)=true:=hD;rw[m2,l2]at h0;cases h0
     |some y=>
      rw[m2]at hq;cases hq;obtain⟨c,_,_,_,hk⟩:=hback m2;rcases hk with⟨_,_,_,_,_,_,g⟩|⟨_,cs0,g,_,_⟩
      .cases g
      .exact .inl ⟨cs0,g,Np l2⟩)
 refine⟨v,γ2,rfl,?_,aP.mono hle2 _ _ h6⟩;have hst:(((st.kill K).adds δ).adds δ2)={n:=st.n,tmps:=λt=>(st.tmps t).kill K,ah:=jF}:=by
  have e1:=CZ δ2 ((st.kill K).adds δ);have e2:=CZ δ (st.kill K);have gen:∀(s:St)(n:Nat)(t:Nat->AV),s.n=n->s.tmps=t->s={n:=n,tmps:=t,ah:=s.ah}:=λs n t g1 g2=>by cases s;subst g1 g2;rfl
  exact gen _ _ _ (e1.2.trans e2.2) (e1.1.trans e2.1)
 grind
theorem Rel.agw{G:iP}(hE:oG P G Θ Γ w0 M)(h:Rel w0 M T γ st a w){xs:List AV}{us:Array Value}{as:List Arg}{os:List (Option Nat)}(hx:kU (aj w0 T γ st w) xs us.toList)
 (hh:nV true st xs as os) (hnd:uD os=true) {f:FuncId} {con:Qe} {p:Prop} {ρ:J5} {k:Nat} (aez:k%64=1) (hok:yV P G f con) (hc:con as=some (p,ρ)) (hp:p)
 (hch:∀t,ρ.R t->∃δ,lC st os (ρ.aH t)=some δ/\iC (st.kill (gK os (ρ.aH t))) ((ρ.out t).take k).2=true/\Fv (ρ.aH t) ((ρ.out t).take k).2=true):
 Calls P f us w λe w'=>∃t δ,ρ.R t/\lC st os (ρ.aH t)=some δ/\∃v γ',e=.returned v/\
  Rel w0 M T γ' (((st.kill (gK os (ρ.aH t))).adds δ).adds ((ρ.out t).take k).2) a w'/\aP (aj w0 T γ' (((st.kill (gK os (ρ.aH t))).adds δ).adds ((ρ.out t).take k).2) w') ((ρ.out t).take k).1 v:=by
 let S:=(aj w0 T γ st w).foot
 let E:=dR as
 let ge:=γE os γ
 let XE:V:=⟨w,w.heap.size,S,ge,E⟩
 have hge:∀{q o:Nat},os[q / 64]? =some (some o)->ge q=γ o:=λhq=>by show(match os[_ / 64]? with|some (some o)=>γ o|_=>undef)=_;rw[hq]
 have hEs:∀{q:Nat}{X:ay},E q=some X->_:=λhq=>Qx hh hq;have Qz:∀b,S b->XE.foot b:=λb hb=>⟨hb.1,λ_=>hb,λq X hq=>by obtain⟨o,Y,ho,hY,_⟩:=hEs hq;show blk (ge q)≠some b;rw[hge ho];exact hb.2.2 o Y hY⟩;have hbl:∀{q:Nat}{X:ay},E q=some X->∀b,blk (ge q)=some b->b<w.heap.size/\(w0.heap.size<=b\/M b):=λhq b hb=>by obtain⟨o,Y,ho,hY,_⟩:=hEs hq;rw[hge ho]at hb;exact h.lt o Y b hY hb
 have ahj:∀o x,E o=some x->bg XE o x/\∀b,blk (ge o)=some b->b<w.heap.size/\G.n<=b:=by
  intro q X hq;refine⟨?_,λb hb=>⟨(hbl hq b hb).1,?_⟩⟩
  .obtain⟨o,Y,ho,hY,hk⟩:=hEs hq;have hO:=h.ah o Y hY;rcases hk with⟨e,r,l,fr,rfl,rfl,_⟩|⟨cs,rfl,rfl,hr,_⟩
   .exact bg.aa5 (Z:=XE) hO (hge ho) rfl (λb hb=>⟨Qz b hb.1,λe=>by cases e⟩) (λb _ e=>by cases e)
   .obtain⟨b,arr,t,hγ,hheap,hcs⟩:=hO;refine⟨b,arr,t,(hge ho).trans hγ,hheap,?_⟩;have:=Cells.pI h (γ0:=λ_=>undef) cs _ hr hcs;exact CS (Y:=⟨w,w.heap.size,S,λ_=>undef,λ_=>none⟩) (Z:=XE) rfl (λfr b hb=>⟨⟨hb.1.1,λhlt=>hb.1.2.1 hlt,λq' X' hq'=>by obtain⟨o',Y',ho',U6,_⟩:=hEs hq';show blk (ge q')≠some b;rw[hge ho'];exact(hb.1.2.1 hb.1.1).2.2 o' Y' U6⟩,hb.2⟩) _ _ (by rw[List.flatMap_map];rw[List.flatMap_eq_nil_iff]at hr ⊢;intro c hc;have:=hr c hc;cases c<;>first|rfl|(cases this;done)) this
  .rcases(hbl hq b hb).2 with g|g
   .exact apv (G.low w0 hE.ok) g
   .exact hE.low b g
 have hsep:∀o x q y b,E o=some x->E q=some y->o≠q->blk (ge o)=some b->blk (ge q)≠some b:=by
  intro q1 X1 q2 X2 b h1 h2 hne hb;obtain⟨o1,Y1,ho1,hY1,_⟩:=hEs h1;obtain⟨o2,Y2,ho2,hY2,_⟩:=hEs h2;rw[hge ho1]at hb;rw[hge ho2];refine h.sep o1 Y1 o2 Y2 b hY1 hY2 ?_ hb
  grind [J8]
 have hargs:vX XE 0 as us.toList:=by
  obtain⟨hl,hget⟩:=kU.get xs us.toList hx;refine V9 as us.toList 0 (by rw[hh.length.1,hl]) λj b u hb hu=>?_;rw[aqg];obtain⟨x,o,hxj,hoj,hone⟩:=hh.get j b hb;have hrep:=hget j x u hxj hu;have d1:(j*64+49) / 64=j:=by omega
  have d2:(j*64+49)%64=49:=by omega
  have d3:(j*64+48) / 64=j:=by omega
  have d4:(j*64+48)%64=48:=by omega
  rcases hone with⟨rfl,hr,ha⟩|⟨q,e,r,l,fr,rfl,rfl,hq,rfl⟩|⟨q,cs,rfl,rfl,hq,hr,rfl⟩
  .have hr:=hr rfl;have hr2:=xA h (γ0:=λ_=>undef) [x] [u] [b] ha (by show x.refs++[]=[];rw[hr];rfl) ⟨hrep,trivial⟩;have hle:V.le ⟨w,w.heap.size,S,λ_=>undef,λ_=>none⟩ XE:=⟨apz _,λc hcc=>⟨Qz c (hcc.2.1 hcc.1),rfl⟩,(λ_ _ hcc=>by cases hcc),(λ_ _ _ _ _ hcc=>by cases hcc)⟩;have hA:=hr2.1;cases b with
   |sv v=>exact dm.mono hle v u hA
   |kp cs=>exact aP.mono hle (.dI cs 0) u hA
   |fn g caps=>exact aP.mono hle (.fn g caps) u hA
   |own _ _ _=>exact hA.elim
   |ptr _=>exact hA.elim
  .obtain⟨_,hu2,hone⟩:=hrep;refine⟨⟨e,r,l,false,?_⟩,?_,hone⟩
   .show dR as (j*64+49)=_
    simp_all [dR]
   grind
  .obtain⟨c,cs',_,hγ,hv⟩:=hrep;refine⟨c,cs.map (Cell.view st),?_,?_,hv⟩
   .show dR as (j*64+48)=_
    simp_all [dR]
   grind
 refine((hok as p ρ hc hp).2 k S ge us w (hE.at h) hargs ahj hsep λt ht o x hl=>?_).mono ?_
 · grind [U4]
 .rintro e w' ⟨t,ht,hpost⟩;obtain⟨δ,g1,g2,_⟩:=hch t ht;obtain⟨v,γ',rfl,g3,g4⟩:=h.Qy hh aez g1 g2 hpost
  grind
def Ig(aH:List Eff):Bool:=aH.all λ|.lose=>true|.arr _ _ _=>false|.var cs=>cs.all Cell.made
theorem aeA{aH:List Eff}(h:Ig aH=true){q:Nat}{X:ay}(hq:lT aH q=some X):TJ X:=by
 rcases Jp hq with⟨e,r,l,g,_⟩|⟨cs,g,rfl,_⟩
 .have:=apL.1 h _ (apY g);cases this
 .exact apL.1 h _ (apY g)
theorem Jm.made{S S':Nat->Prop}{args:List Arg}{k:Nat}{out:Out}{aH:List Eff}{e:Ending}(h:Jm S args γ w k out aH e w')(hm:out.made=true)(hf:Ig aH=true):Jm S' args γ w k out aH e w':=by
 obtain⟨v,γ',rfl,h1,h2,h3,h4,h5,h6,h7,h8,h9⟩:=h;refine⟨v,γ',rfl,h1,h2,h3,h4,h5,(out.Qs k hm _ (oQ S' args aH γ) v).1 h6,λo x hl=>⟨?_,(h7 o x hl).2⟩,h8,λo x hq=>⟨(h9 o x hq).1,?_⟩⟩
 .exact bg.made (oQ S' args aH γ) o x ((out.Qs k hm ⟨w',w.heap.size,S,γ',look (out.take k).2⟩ (oQ S' args aH γ) v).2 _ (sN _ _ _ hl)) (h7 o x hl).1
 .exact bg.made (oQ S' args aH γ) o x (aeA hf hq) (h9 o x hq).2
theorem Rel.aeB{G:iP}(hE:oG P G Θ Γ w0 M)(h:Rel w0 M T γ st a w){xs:List AV}{us:Array Value}{as:List Arg}{os:List (Option Nat)}(hx:kU (aj w0 T γ st w) xs us.toList)
 (hh:nV false st xs as os) (hnd:uD os=true) {f:FuncId} {con:Qe} {p:Prop} {ρ:J5} {k:Nat} (aez:k%64=1) (hok:yV P G f con) (hc:con as=some (p,ρ)) (hp:p)
 (hown:∀(q:Nat)(e:TypeId)(r:ak)(l:List r.den),dR as q≠some (.arr e r l false)) (akn:∀t,ρ.R t->(ρ.out t).made=true/\Ig (ρ.aH t)=true)
 (hch:∀t,ρ.R t->∃δ,lC st os (ρ.aH t)=some δ/\iC (st.kill (gK os (ρ.aH t))) ((ρ.out t).take k).2=true/\Fv (ρ.aH t) ((ρ.out t).take k).2=true):
 Calls P f us w λe w'=>∃t δ,ρ.R t/\lC st os (ρ.aH t)=some δ/\∃v γ',e=.returned v/\
  Rel w0 M T γ' (((st.kill (gK os (ρ.aH t))).adds δ).adds ((ρ.out t).take k).2) a w'/\aP (aj w0 T γ' (((st.kill (gK os (ρ.aH t))).adds δ).adds ((ρ.out t).take k).2) w') ((ρ.out t).take k).1 v:=by
 let E:=dR as
 let ge:=γE os γ
 let S:Nat->Prop:=λb=>b<w.heap.size/\∀q X,E q=some X->blk (ge q)≠some b
 let XE:V:=⟨w,w.heap.size,S,ge,E⟩
 have hge:∀{q o:Nat},os[q / 64]? =some (some o)->ge q=γ o:=λhq=>by show(match os[_ / 64]? with|some (some o)=>γ o|_=>undef)=_;rw[hq]
 have hEs:∀{q:Nat}{X:ay},E q=some X->_:=λhq=>Qx hh hq;have Qz:∀b,S b->XE.foot b:=λb hb=>⟨hb.1,λ_=>hb,hb.2⟩;have hS1:∀b,(aj w0 T γ st w).foot b->S b:=λb hb=>⟨hb.1,λq X hq=>by obtain⟨o,Y,ho,hY,_⟩:=hEs hq;rw[hge ho];exact hb.2.2 o Y hY⟩;have hS2:∀o e r l fr b,st.ah o=some (.arr e r l fr)->blk (γ o)=some b->S b:=λo e r l fr b ho hb=>⟨(h.lt o _ b ho hb).1,λq X hq=>by
  obtain⟨o',Y,ho',hY,hk⟩:=hEs hq;rw[hge ho'];rcases hk with⟨e',r',l',fr',rfl,_,_⟩|⟨cs,_,rfl,_,_⟩
  · grind
  .exact h.sep o _ o' _ b ho hY (λe=>by grind) hb⟩
 have hbl:∀{q:Nat}{X:ay},E q=some X->∀b,blk (ge q)=some b->b<w.heap.size/\(w0.heap.size<=b\/M b):=λhq b hb=>by obtain⟨o,Y,ho,hY,_⟩:=hEs hq;rw[hge ho]at hb;exact h.lt o Y b hY hb
 have ahj:∀o x,E o=some x->bg XE o x/\∀b,blk (ge o)=some b->b<w.heap.size/\G.n<=b:=by
  intro q X hq;refine⟨?_,λb hb=>⟨(hbl hq b hb).1,?_⟩⟩
  .obtain⟨o,Y,ho,hY,hk⟩:=hEs hq;have hO:=h.ah o Y hY;rcases hk with⟨e,r,l,fr,rfl,rfl,_⟩|⟨cs,rfl,rfl,hr,_⟩
   · grind
   .obtain⟨b,arr,t,hγ,hheap,hcs⟩:=hO;refine⟨b,arr,t,(hge ho).trans hγ,hheap,?_⟩;have:=Cells.pI h (γ0:=λ_=>undef) cs _ hr hcs;exact CS (Y:=⟨w,w.heap.size,(aj w0 T γ st w).foot,λ_=>undef,λ_=>none⟩) (Z:=XE) rfl (λfr b hb=>⟨⟨hb.1.1,λhlt=>hS1 b (hb.1.2.1 hlt),(hS1 b (hb.1.2.1 hb.1.1)).2⟩,hb.2⟩) _ _ (by rw[List.flatMap_map];rw[List.flatMap_eq_nil_iff]at hr ⊢;intro c hc;have:=hr c hc;cases c<;>first|rfl|(cases this;done)) this
  .rcases(hbl hq b hb).2 with g|g
   .exact apv (G.low w0 hE.ok) g
   .exact hE.low b g
 have hsep:∀o x q y b,E o=some x->E q=some y->o≠q->blk (ge o)=some b->blk (ge q)≠some b:=by
  intro q1 X1 q2 X2 b h1 h2 hne hb;obtain⟨o1,Y1,ho1,hY1,_⟩:=hEs h1;obtain⟨o2,Y2,ho2,hY2,_⟩:=hEs h2;rw[hge ho1]at hb;rw[hge ho2];refine h.sep o1 Y1 o2 Y2 b hY1 hY2 ?_ hb
  grind [J8]
 have hargs:vX XE 0 as us.toList:=by
  obtain⟨hl,hget⟩:=kU.get xs us.toList hx;refine V9 as us.toList 0 (by rw[hh.length.1,hl]) λj b u hb hu=>?_;rw[aqg];obtain⟨x,o,hxj,hoj,hone⟩:=hh.get j b hb;have hrep:=hget j x u hxj hu;have d1:(j*64+49) / 64=j:=by omega
  have d2:(j*64+49)%64=49:=by omega
  have d3:(j*64+48) / 64=j:=by omega
  have d4:(j*64+48)%64=48:=by omega
  rcases hone with⟨rfl,hr,ha⟩|⟨q,e,r,l,fr,rfl,rfl,hq,rfl⟩|⟨q,cs,rfl,rfl,hq,hr,rfl⟩
  .have hr2:=DK h (γ0:=λ_=>undef) hS1 hS2 [x] [u] [b] ha ⟨hrep,trivial⟩;have hle:V.le ⟨w,w.heap.size,S,λ_=>undef,λ_=>none⟩ XE:=⟨apz _,λc hcc=>⟨Qz c (hcc.2.1 hcc.1),rfl⟩,(λ_ _ hcc=>by cases hcc),(λ_ _ _ _ _ hcc=>by cases hcc)⟩;have hA:=hr2.1;cases b with
   |sv v=>exact dm.mono hle v u hA
   |kp cs=>exact aP.mono hle (.dI cs 0) u hA
   |fn g caps=>exact aP.mono hle (.fn g caps) u hA
   |own _ _ _=>exact hA.elim
   |ptr _=>exact hA.elim
  .obtain⟨_,hu2,hone⟩:=hrep;refine⟨⟨e,r,l,false,?_⟩,?_,hone⟩
   .show dR as (j*64+49)=_;unfold dR;rw[d1,hb,d2]
   grind
  .obtain⟨c,cs',_,hγ,hv⟩:=hrep;refine⟨c,cs.map (Cell.view st),?_,?_,hv⟩
   .show dR as (j*64+48)=_;unfold dR;rw[d3,hb,d4]
   grind
 refine((hok as p ρ hc hp).2 k S ge us w (hE.at h) hargs ahj hsep λt ht o x hl=>?_).mono ?_
 · grind [U4]
 .rintro e w' ⟨t,ht,hpost⟩;obtain⟨δ,g1,g2,_⟩:=hch t ht;obtain⟨v,γ',rfl,g3,g4⟩:=h.Qy hh aez g1 g2 (hpost.made (akn t ht).1 (akn t ht).2)
  grind
theorem acH{base size n:Nat}{e:TypeId}{v:Value}{xs:List Value}(hown:w.ownsRow base e size v n xs):v.oneCell'=true/\(∀ad,v≠ .pointer (some ad)):=by rcases hown.2 with⟨h1,_⟩|⟨g,cap,cur,h1,_⟩<;>rw[h1]<;>exact⟨rfl,λ_ e=>by cases e⟩
theorem Ub(hΘ:∀t ti,Θ t=some ti->jv P t ti)(h:Rel w0 M T γ st a w){t ty e:TypeId}{ti te:TI}(ht:Θ t=some ti)(hk:ti.kind=.slice e)(he:Θ e=some te)(k:Nat)(hpos:0<te.cells.len)
 {y:Cell} {news:List te.cells.den} {src:Value} (hy:aK (aj w0 T γ st w) y src)
 (hget:y.get st (.sl e te.cells)=some news) (hbig:news.length<=big):
 ∃u w' γ',(Builtin.append_ #[t,t] ty #[.slice none 0 0,src]).run P w=.ok u w'/\Rel w0 M T γ' ((st.kill (Nat.beq k ·)).add k (.arr e te.cells news (y.rQ te.cells st))) a w'/\
  aP (aj w0 T γ' ((st.kill (Nat.beq k ·)).add k (.arr e te.cells news (y.rQ te.cells st))) w') (.sv (.one (.ref k))) u:=by
 obtain⟨v',w',ns,hrun,hown',hg,hnr,hgb⟩:=DN (P:=P) (ty:=ty) (hΘ t ti ht) hk (hΘ e te he) hpos (World.ownsRow_nil w 0 e te.cells.len) (Cell.aev h hy hget) (by omega);have ho:=acH hown';have hnb:∀g,blk v'=some g->(some g=none\/w.heap.size<=g)/\g<w'.heap.size:=by
  intro g hb;refine⟨.inr ?_,acE hown' g hb⟩;rcases hgb g (by grind [Ib])with h1|h1
  .cases h1
  .exact h1
 obtain⟨hR,_⟩:=h.replace (w':=w') (o:=k) (v':=v') (x':=.arr e te.cells news (y.rQ te.cells st)) none (.inl rfl) hg.os hg.tape hg.output hg.size
  (λb hb hne=>hg.block b hb (by intro e1;cases e1)) hnb (λ_ e=>by cases e) (λle=>by
    refine⟨ns,?_,hpos,?_,λi x hi=>?_⟩
    · grind [upd_same]
    .intro b hb hf;have hb:blk (upd γ k v' k)=some b:=hb;rw[upd_same]at hb;rcases(hnb b hb).1 with h1|h1
     .cases h1
     .exact apv h.grow h1
    .exact aZ.mono (λc hc=>le.bI _ c hc) _ _ x (hnr i x hi))
 exact⟨v',w',_,hrun,hR,⟨e,te.cells,_,_,add_same _ _ _⟩,(upd_same _ _ _).symm,ho.1⟩
theorem aeC(hΘ:∀t ti,Θ t=some ti->jv P t ti)(h:Rel w0 M T γ st a w){t f e:TypeId}{ti te:TI}(ht:Θ t=some ti)(hk:ti.kind=.slice f)(he:Θ f=some te){o:Nat}{r:ak}{l:List r.den}{fr:Bool}
 (ho:st.ah o=some (.arr e r l fr)) {v:Value} (hv:aK (aj w0 T γ st w) (.ref o) v) {hi:Option Operand} {p:Prop} {x y:Nat} (hb:jW st l.length none hi=some (p,x,y)) (hp:p):
 ∃u γ',(Instr.sliceAt t v none (hi.map a.eval) none).run P w=.ok u w/\Rel w0 M T γ' ((st.kill (Nat.beq o ·)).add o (.arr e r (l.take y) fr)) a w/\
  aP (aj w0 T γ' ((st.kill (Nat.beq o ·)).add o (.arr e r (l.take y) fr)) w) (.sv (.one (.ref o))) u:=by
 obtain⟨_,hvγ,_⟩:=hv;have hvγ:v=γ o:=hvγ;subst hvγ;obtain⟨xs,hown,hpos,hfr,hrow⟩:=h.ah o _ ho;have hown:w.ownsRow 0 e r.len (γ o) l.length xs:=hown;have hx0:x=0:=by
  cases hi with
  |none=>grind [jW]
  |some hh=>
   grind [jW]
 subst hx0;have hu:=(hΘ t ti ht).und;rw[hk]at hu;obtain⟨h1,h2⟩:=hown;have key:∃u,(Instr.sliceAt t (γ o) none (hi.map a.eval) none).run P w=.ok u w/\w.ownsRow 0 e r.len u y (xs.take (y*r.len))/\blk u=blk (γ o)/\y<=l.length:=by
  rcases h2 with⟨hn,hl0⟩|⟨g,cap,cur,hg,hg0,hh,hle,hmax,hsz,htake⟩
  .have hn:γ o=.slice none 0 0:=hn;obtain⟨hr,h3,h4⟩:=oN (P:=P) h (len:=l.length) (cap:=0) (by omega) hb hp true;have hy:y=0:=by omega
   refine⟨.slice none 0 0,?_,?_,by rw[hn],h4⟩
   .rw[hn];simp only[aqI]at hr;rw[hl0]at hr;simp[Instr.sliceAt,Instr.slice,apS,apJ hu.1 w,hr,(hΘ f te he).run_sizeOf,hy]
   grind
  .have hg:γ o=.slice (some ⟨g,0,none⟩) l.length cap:=hg;obtain⟨hr,h3,h4⟩:=oN (P:=P) h (len:=l.length) (cap:=cap) hle hb hp true;have hmul:y*r.len<=l.length*r.len:=apA _ h4;refine⟨.slice (some ⟨g,0,none⟩) y cap,?_,⟨?_,.inr ⟨g,cap,cur,rfl,hg0,hh,apv h4 hle,hmax,hsz,?_⟩⟩,by rw[hg];rfl,h4⟩
   .rw[hg];simp only[aqI]at hr;simp only[Instr.sliceAt,Instr.slice,apS,apJ hu.1 w,aqi,hr,(hΘ f te he).run_sizeOf];simp[addr_add]
   · grind
   grind
 obtain⟨u,hrun,hown',hblk,hyl⟩:=key;have hone:=acH hown';obtain⟨hR,_⟩:=h.replace (w':=w) (o:=o) (v':=u) (x':=.arr e r (l.take y) fr) (blk (γ o)) (.inr ⟨_,ho,rfl⟩) rfl rfl rfl (apz _) (λ_ _ _=>rfl)
  (λg hg=>⟨.inl (by grind),(h.lt o _ g ho (by grind)).1⟩) (λ_ e=>by cases e) (λle=>by
    have hlen:(l.take y).length=y:=by grind
    refine⟨xs.take (y*r.len),?_,hpos,?_,λi z hi=>?_⟩
    · grind [upd_same]
    · grind [upd_same]
    .have hil:i<y:=by grind
     have hmul:i*r.len+r.len<=y*r.len:=by
      have:(i+1)*r.len<=y*r.len:=apA _ hil
      grind
     rw[aqk,if_pos hil]at hi;rw[eP _ _ _ _ hmul];exact aZ.mono (λc hc=>le.bI _ c hc) _ _ z (hrow i z hi))
 exact⟨u,_,hrun,hR,⟨e,r,_,_,add_same _ _ _⟩,(upd_same _ _ _).symm,hone.1⟩
theorem acI{G:iP}(hE:oG P G Θ Γ w0 M)(h:Rel w0 M T γ st a w)(o:Oper){d:Nat}{p:Prop}{v:AV}{s:St}
 (hc:eff Θ Γ d st o.op=some (p,v,s)) (hp:p) {next:Act->World->Prop} {Q:Exit->Act->World->Prop}
 (hn:∀u γ' w',Rel w0 M T γ' s a w'->aP (aj w0 T γ' s w') v u->next (a.put o.dst u) w'):o.wp P a w next Q:=by
 cases hop:o.op<;>rw[hop]at hc<;>try (simp only[eff,reduceCtorEq]at hc;done)
 case store t x y=>
  simp only[eff]at hc;split at hc
  .next sv ti hev ht=>
   split at hc
   .next hlen=>
    split at hc
    .next q s' hs=>
     cases hc;have hF:=h.freeze (yT (st.ev x) sv);have hy:=fZ h y;rw[hev]at hy;have hpv:=aP.freeze (yT (st.ev x) sv) h _ _ (fZ h x);have hyv:=dm.freeze (yT (st.ev x) sv) h _ _ hy;have hl2:(sv.freeze st (yT (st.ev x) sv)).cells.length=ti.cells.len:=by
      have h1:=ai.length _ _ (dm.cells _ _ hyv);have h2:=ai.length _ _ (dm.cells _ _ hy)
      simp_all
     obtain⟨w',hr,hR⟩:=acD (P:=P) hE.types hF ht hs hp hpv hyv hl2;have hr2:(execOp a.eval o).run P w=.ok .skip w':=by
      simp_all [execOp]
     unfold Oper.wp;rw[hr2];exact hn undef γ w' hR trivial
    .cases hc
   .cases hc
  .cases hc
 case buildSlice t len parts=>
  simp only[eff]at hc;split at hc
  .next q v' δ hcalm=>
   split at hc
   .next hfr=>cases hc;exact Gw hE (h.freeze ((jV st parts.toList).contains ·)) o (by rw[hop];exact hcalm) hp hfr hn
   .cases hc
  .cases hc
 case slice t x lo hi mx=>
  cases mx with
  |some m=>grind [eff]
  |none=>
   cases lo with
   |none=>
    simp only[eff]at hc;split at hc
    .next ti r ht hev=>
     have hx:=kR h hev;split at hc
     .next f e rr l fr hk ho=>
      split at hc
      .next te q i j he hb=>
       split at hc
       .next hbeq=>
        cases hc;obtain⟨u,γ',hr,hR,hv⟩:=aeC (P:=P) hE.types h ht hk he ho hx hb hp;refine Oper.jP (u:=u) (w':=w) ?_ (hn u γ' w hR hv)
        simp_all [execOp]
       .cases hc
      .cases hc
     .cases hc
    .cases hc
   |some l0=>
    simp only[eff]at hc;split at hc
    .next ti r ht hev=>
     split at hc
     .next f e rr l fr hk ho=>
      split at hc
      .next te q i j he hb=>
       split at hc
       .next hbeq=>
        split at hc
        .next q' v' hq=>cases hc;exact Gw (δ:=[]) hE (h.freeze (Nat.beq r ·)) o (by rw[hop];exact hq) hp rfl hn
        .cases hc
       .cases hc
      .cases hc
     .cases hc
    .cases hc
 case call c=>
  obtain⟨callee,args,mr⟩:=c;cases callee with
  |invoke r m=>grind [eff]
  |builtin b=>
   cases b<;>try (simp only[eff,reduceCtorEq]at hc;done)
   case append=>
    simp only[eff]at hc;split at hc
    .next sx x t u hargs aa2=>
     split at hc
     .next ti c y htu ht hes hex=>
      have htu:=aps htu;subst htu;have ha:args.map a.eval=#[a.eval sx,a.eval x]:=by apply aq9;simp[hargs]
      have ht':mr=#[t,t]:=by grind
      have hrun:execOp a.eval o=(do pure (Next.value (← Builtin.append_ #[t,t] o.type #[a.eval sx,a.eval x]))):=by rw[uG hop,ha,ht'];rfl
      have h1:=kR h hes;have h2:=kR h hex;split at hc
      .next e hk=>
       split at hc
       .next te he=>
        split at hc
        .next news r hget=>
         split at hc
         .next f rr l fr ho=>
          split at hc
          .next hbeq=>
           split at hc
           .next hef=>cases hc;have hef:=aps hef;subst hef;obtain⟨v',w',γ',hr,hR,hv⟩:=adw (P:=P) (ty:=o.type) hE.types h ht hk he ho hbeq h1 h2 hget hp;exact Oper.jP (by simp_all) (hn v' γ' w' hR hv)
           .cases hc
          .cases hc
         .cases hc
        .next news hget=>
         split at hc
         .next Nk=>cases hc;have hs0:a.eval sx=.slice none 0 0:=h1;obtain⟨v',w',γ',hr,hR,hv⟩:=Ub (P:=P) (ty:=o.type) hE.types h ht hk he (d*64+1) (aqc Nk) h2 hget hp;exact Oper.jP (by simp_all) (hn v' γ' w' hR hv)
         .cases hc
        .cases hc
       .cases hc
      .cases hc
     .next ti o1 CY n0 o2 lo2 n2 htu ht hes hex=>
      have htu:=aps htu;subst htu;have ha:args.map a.eval=#[a.eval sx,a.eval x]:=by apply aq9;simp[hargs]
      have ht':mr=#[t,t]:=by grind
      have hrun:execOp a.eval o=(do pure (Next.value (← Builtin.append_ #[t,t] o.type #[a.eval sx,a.eval x]))):=by rw[uG hop,ha,ht'];rfl
      obtain⟨v',w',hr,hR,hv⟩:=Ua (P:=P) (ty:=o.type) hE.types h ht hes hex hc hp;exact Oper.jP (by simp_all) (hn v' γ w' hR hv)
     .cases hc
    .cases hc
   case clear=>
    simp only[eff]at hc;split at hc
    .next x t hargs aa2=>
     split at hc
     .next ti o1 lo n ht hev=>
      have ha:args.map a.eval=#[a.eval x]:=by apply aq9;simp[hargs]
      have ht':mr=#[t]:=by grind
      have hrun:execOp a.eval o=(do pure (Next.value (← Builtin.clear_ #[t] o.type #[a.eval x]))):=by rw[uG hop,ha,ht'];rfl
      obtain⟨v',w',hr,hR,hv⟩:=V8 (P:=P) (ty:=o.type) hE.types h ht hev hc hp;exact Oper.jP (by simp_all) (hn v' γ w' hR hv)
     .cases hc
    .cases hc
  |value x=>
   simp only[eff]at hc;split at hc
   .next f caps hx=>
    have hv:=fZ h x;rw[hx]at hv;obtain⟨us,Yh,hkx⟩:=hv;split at hc
    .next con hcon=>
     split at hc
     .next vs hargs hrefs=>
      split at hc
      .next q out hq=>
       split at hc
       .next hfr=>cases hc;have hF:=h.freeze (aed st args.toList caps);obtain⟨hok,hcall⟩:=hE.cons f con hcon;unfold Oper.wp;rw[Jo hop Yh hcall,ara];have hrep:=xA hF (γ0:=λ_=>undef) _ _ vs hargs hrefs (kU.freeze _ h _ _ (DL h hkx args.toList));rw[← aqT,← aq1]at hrep;refine(hok vs _ out (d*64+1) _ (args.map a.eval++us) w hq hp (hE.at h) hrep).mono ?_;rintro e w' ⟨u,vals,rfl,h1,h2,h3,h4,h5,h6,h7,h8⟩;obtain⟨γ',g1,g2⟩:=hF.called (by omega) hfr h1 h2 h3 h4 h5 (.inr rfl) h6 h7 h8;exact hn u γ' w' g1 g2
       .cases hc
      .cases hc
     .cases hc
    .cases hc
   .cases hc
theorem ail{G:iP}(hE:oG P G Θ Γ w0 M)(h:Rel w0 M T γ st a w)(o:Oper){d:Nat}{p:Prop}{ρ:J5}{os:List (Option Nat)}{s0:St}
 (hc:Yd Γ st o.op=some (p,ρ,os,s0)) (hp:p) (hch:∀t,ρ.R t->∃r,TA d s0 os (ρ.out t) (ρ.aH t)=some r) {next:Act->World->Prop} {Q:Exit->Act->World->Prop}
 (hn:∀t v s u γ' w',ρ.R t->TA d s0 os (ρ.out t) (ρ.aH t)=some (v,s)->Rel w0 M T γ' s a w'->aP (aj w0 T γ' s w') v u->next (a.put o.dst u) w'):o.wp P a w next Q:=by
 unfold Yd at hc;split at hc
 case h_2=>cases hc
 next x args mr hop=>
 split at hc
 case h_2=>cases hc
 next f caps hx=>
 have hv:=fZ h x;rw[hx]at hv;obtain⟨us,Yh,hkx⟩:=hv;split at hc
 case h_2=>cases hc
 next ms con hcon=>
 split at hc
 case h_2=>cases hc
 next vs os' QB=>
 split at hc
 case h_2=>cases hc
 next q ρ' hq=>
 cases hc;have hF:=h.freeze (Tz st ms args.toList caps);obtain⟨hok,hcall⟩:=hE.adX f ms con hcon;unfold Oper.wp;rw[Jo hop Yh hcall,ara];have hxs:kU (aj w0 T γ (H8 st ms args.toList caps) w) (aie st ms args.toList caps) (args.map a.eval++us).toList:=by rw[aq1,aqT];exact kU.freeze (Tz st ms args.toList caps) h _ _ (DL h hkx args.toList)
 have hk:(d*64+1)%64=1:=by omega
 have hspec:∀t,ρ.R t->∃δ,(uD os=true/\Fv (ρ.aH t) ((ρ.out t).take (d*64+1)).2=true)/\lC (H8 st ms args.toList caps) os (ρ.aH t)=some δ/\iC ((H8 st ms args.toList caps).kill (gK os (ρ.aH t))) ((ρ.out t).take (d*64+1)).2=true/\
  TA d (H8 st ms args.toList caps) os (ρ.out t) (ρ.aH t)=some (((ρ.out t).take (d*64+1)).1,(((H8 st ms args.toList caps).kill (gK os (ρ.aH t))).adds δ).adds ((ρ.out t).take (d*64+1)).2):=by
  grind [TA]
 obtain⟨t0,ht0⟩:=(hok vs _ ρ hq hp).1;obtain⟨_,⟨hnd,_⟩,_⟩:=hspec t0 ht0;refine(hF.agw hE hxs (Nl ms _ vs os QB) hnd hk hok hq hp λt ht=>?_).mono ?_
 .obtain⟨δ,g1,g2,g3,_⟩:=hspec t ht;exact⟨δ,g2,g3,g1.2⟩
 .rintro e w' ⟨t,δ,ht,hb,u,γ',rfl,g1,g2⟩;obtain⟨δ',_,g3,_,g4⟩:=hspec t ht;have hδ:δ'=δ:=Option.some.inj (g3.symm.trans hb);subst hδ;exact hn t _ _ u γ' w' ht g4 g1 g2
theorem ahk{G:iP}(hE:oG P G Θ Γ w0 M)(h:Rel w0 M T γ st a w)(o:Oper){d:Nat}{p:Prop}{v:AV}{s:St}
 (hc:oper Θ Γ d st o.op=some (p,v,s)) (hp:p) {next:Act->World->Prop} {Q:Exit->Act->World->Prop}
 (hn:∀u γ' w',Rel w0 M T γ' s a w'->aP (aj w0 T γ' s w') v u->next (a.put o.dst u) w'):o.wp P a w next Q:=by
 grind [oper,Gw,acI]
end Go.Fw
namespace Go.Fw
open Go
structure St.more(st s:St):Prop where
 tmps:∀t,st.tmps t=.undef\/s.tmps t=st.tmps t
 ah:∀o x,st.ah o=some x->s.ah o=some x
variable {st s:St} {Θ:gI} {Γ:iT}
theorem Hl(h:st.more s)(x:Operand):st.ev x=.undef\/s.ev x=st.ev x:=by
 cases x with
 |tmp t=>exact h.tmps t
 |const v=>exact .inr rfl
 |global g=>exact .inr rfl
 |func f=>exact .inr rfl
theorem bC(h:st.more s){x:Operand}{v:AV}(e:st.ev x=v)(hv:v≠ .undef):s.ev x=v:=by
 grind [Hl]
theorem nM(h:st.more s){x:Operand}{n:Int}(e:qh (st.ev x)=some n):qh (s.ev x)=some n:=by
 rcases Hl h x with h1|h1
 .rw[h1]at e;cases e
 grind
theorem Wj(h:st.more s):∀(c:CT)(x:Cell)(d:c.den),x.get st c=some d->x.get s c=some d:=by
 intro c x d hg;cases c<;>cases x<;>simp only[Cell.get]at hg ⊢<;>try exact hg
 case sl.ref e r o=>
  split at hg
  .next e' r' l fr ho=>rw[h.ah o _ ho];exact hg
  .cases hg
theorem U7(h:st.more s):∀(r:ak)(cs:List Cell)(d:r.den),wS st r cs=some d->wS s r cs=some d
 |.nil,[],_,hg=>hg
 |.nil,_::_,_,hg=>by grind [wS]
 |.cons _ _,[],_,hg=>by grind [wS]
 |.cons c r,x::xs,d,hg=>by
  rw[wS]at hg ⊢;split at hg
  .next a b ha hb=>rw[Wj h c x a ha,U7 h r xs b hb];exact hg
  .cases hg
theorem QC(h:st.more s)(fs:List (Nat×TypeId)):∀(ps:List (Nat×Operand))(cs ds:List Cell),EG Θ st fs ps cs=some ds->EG Θ s fs ps cs=some ds
 |[],_,_,hb=>hb
 |(i,x)::r,cs,ds,hb=>by
  rw[EG]at hb ⊢;split at hb
  .next off t v hf hev=>
   rw[hf,bC h hev (by simp)];dsimp only;split at hb
   .next ti ht=>
    split at hb
    .next hle=>exact QC h fs r _ ds hb
    .cases hb
   .cases hb
  .cases hb
theorem U8(h:st.more s)(r:ak):∀(ps:List (Nat×Operand))(k:Nat)(l:List r.den),Bg st r k ps=some l->Bg s r k ps=some l
 |[],_,_,hb=>hb
 |(i,x)::ps,k,l,hb=>by
  rw[Bg]at hb ⊢;split at hb
  .next v l' hik hev hl=>
   rw[hik,bC h hev (by simp),U8 h r ps (k+1) l' hl]
   grind [U7]
  .cases hb
theorem QD(r:ak):∀(ps:List (Nat×Operand))(k:Nat)(l:List r.den),Bg st r k ps=some l->∀x∈ps,∃v,st.ev x.2=.sv v
 |[],_,_,_,x,hx=>by cases hx
 |(i,y)::ps,k,l,hb,x,hx=>by
  rw[Bg]at hb;split at hb
  .next v l' hik hev hl=>
   rcases apN.1 hx with rfl|hx
   .exact⟨v,hev⟩
   .exact QD r ps (k+1) l' hl x hx
  .cases hb
theorem Le(h:st.more s):∀(ps:List (Nat×Operand)),(∀x∈ps,∃v,st.ev x.2=.sv v)->jV s ps=jV st ps
 |[],_=>rfl
 |(i,x)::ps,hk=>by obtain⟨v,hv⟩:=hk (i,x) apB;rw[jV,jV,Le h ps (λy hy=>hk y (apx _ hy)),bC h hv (by simp),hv]
theorem af4:∀(c:Cell),c.refs=[]->c.fresh s=c.fresh st
 |.int _ _,_|.bool _,_|.str _,_|.nil,_|.sl _ _ _ _,_|.junk,_=>rfl
 |.ref _,h=>by cases h
theorem acJ:∀(cs:List Cell),cs.flatMap Cell.refs=[]->cs.all (Cell.fresh s)=cs.all (Cell.fresh st)
 |[],_=>rfl
 |c::cs,h=>by rw[ap8,apU]at h;rw[aqf,aqf,af4 c h.1,acJ cs h.2]
theorem Jr(h:st.more s):∀(ps:List (Nat×Operand)),(∀x∈ps,∃v,st.ev x.2=.sv v)->jV st ps=[]->kJ s ps=kJ st ps
 |[],_,_=>rfl
 |(i,x)::ps,hk,hr=>by obtain⟨v,hv⟩:=hk (i,x) apB;rw[jV,apU,hv]at hr;rw[kJ,kJ,Jr h ps (λy hy=>hk y (apx _ hy)) hr.2,bC h hv (by simp),hv];dsimp only;rw[acJ v.cells hr.1]
theorem aim(h:st.more s):∀(c:Cell),c.ok st=true->c.view s=c.view st/\c.ok s=true
 |.int _ _,_|.bool _,_|.str _,_|.nil,_|.sl _ _ _ _,_|.junk,_=>⟨rfl,rfl⟩
 |.ref o,hk=>by
  simp only[Cell.ok]at hk;split at hk
  .next e r l fr ho=>exact⟨by simp only[Cell.view,ho,h.ah o _ ho],by simp only[Cell.ok,h.ah o _ ho]⟩
  .cases hk
theorem Gz(h:st.more s):∀(cs:List Cell),cs.all (Cell.ok st)=true->cs.map (Cell.view s)=cs.map (Cell.view st)/\cs.all (Cell.ok s)=true
 |[],_=>⟨rfl,rfl⟩
 |c::cs,hk=>by rw[aqf,apt]at hk;obtain⟨h1,h2⟩:=aim h c hk.1;obtain⟨h3,h4⟩:=Gz h cs hk.2;exact⟨by rw[apP,apP,h1,h3],by rw[aqf,h2,h4];rfl⟩
theorem af5(h:st.more s)(v:SV)(hk:v.cells.all (Cell.ok st)=true):v.view s=v.view st/\v.cells.all (Cell.ok s)=true:=by
 obtain⟨h1,h2⟩:=Gz h v.cells hk;cases v with
 |one c=>grind [SV.cells,SV.view]
 |agg cs=>grind [SV.cells,SV.view]
theorem xB(h:st.more s):∀(xs:List AV)(vs:List Arg),lS st xs=some vs->lS s xs=some vs
 |[],_,hv=>hv
 |x::xs,vs,hv=>by
  unfold lS at hv ⊢;split at hv
  .next v us hu=>
   rw[xB h xs us hu];split at hv
   .next hk=>obtain⟨h1,h2⟩:=af5 h v hk;dsimp only;rw[h2,h1];exact hv
   .cases hv
  .next cs off us hu=>
   rw[xB h xs us hu];split at hv
   .next hk=>
    rw[apt]at hk;obtain⟨h1,h2⟩:=Gz h cs hk.2
    grind
   .cases hv
  .next f caps us hu=>
   rw[xB h xs us hu];split at hv
   .next hk=>
    have key:∀(caps:List (List Cell)),caps.all (List.all · (Cell.ok st))=true->caps.map (List.map (Cell.view s))=caps.map (List.map (Cell.view st))/\caps.all (List.all · (Cell.ok s))=true:=by
     intro caps
     induction caps with
     |nil=>grind
     |cons cs l ih=>
      grind [Gz]
    grind
   .cases hv
  .cases hv
theorem DT:∀(xs:List AV)(vs:List Arg),lS st xs=some vs->∀x∈xs,x≠ .undef
 |[],_,_,x,hx=>by cases hx
 |y::xs,vs,hv,x,hx=>by
  unfold lS at hv;split at hv
  .next v us hu=>
   rcases apN.1 hx with rfl|hx
   .simp
   .exact DT xs us hu x hx
  .next cs off us hu=>
   rcases apN.1 hx with rfl|hx
   .simp
   .exact DT xs us hu x hx
  .next f caps us hu=>
   rcases apN.1 hx with rfl|hx
   .simp
   .exact DT xs us hu x hx
  .cases hv
theorem J9(h:st.more s)(caps:List (List Cell)):∀(xs:List Operand),(∀x∈handed st xs caps,x≠ .undef)->handed s xs caps=handed st xs caps
 |[],_=>rfl
 |x::xs,hk=>by have h1:s.ev x=st.ev x:=bC h rfl (hk _ apB);have h2:=J9 h caps xs λy hy=>hk y (apx _ hy);show s.ev x::handed s xs caps=st.ev x::handed st xs caps;rw[h1,h2]
theorem U9(h:st.more s):∀(xs:List Operand)(l:List (List Cell)),heldBy st xs=some l->heldBy s xs=some l
 |[],_,hl=>hl
 |x::xs,l,hl=>by
  rw[heldBy]at hl ⊢;split at hl
  .next cs off l' hx hl'=>rw[bC h hx (by simp),U9 h xs l' hl'];exact hl
  .cases hl
theorem Nq(h:st.more s)(len:Nat)(lo hi:Option Operand){r:Prop×Nat×Nat}(hb:jW st len lo hi=some r):jW s len lo hi=some r:=by
 cases lo<;>cases hi<;>simp only[jW]at hb ⊢
 .exact hb
 · grind [nM]
 · grind [nM]
 grind [nM]
def AV.less(v v':AV):Prop:=v=.undef\/v'=v
theorem af6(h:st.more s){n room:Nat}{lo hi:Option Operand}{r:Prop×Nat×Nat}(hb:Qk st n room lo hi=some r):Qk s n room lo hi=some r:=by cases hi<;>simp only[Qk]at hb ⊢<;>exact Nq h _ _ _ hb
theorem ain(h:st.more s)(d:Nat)(o:Op){p:Prop}{v:AV}{δ:List (Nat×ay)}(hc:calm Θ Γ d st o=some (p,v,δ)):
 ∃v',calm Θ Γ d s o=some (p,v',δ)/\v.less v':=by
 have same:∀{r:Option (Prop×AV×List (Nat×ay))},r=some (p,v,δ)->calm Θ Γ d s o=r->∃v',calm Θ Γ d s o=some (p,v',δ)/\v.less v':=
  λh1 h2=>⟨v,h2.trans h1,.inr rfl⟩
 cases o<;>try (simp only[calm,reduceCtorEq]at hc;done)
 case move x=>simp only[calm]at hc ⊢;cases hc;exact⟨_,rfl,Hl h x⟩
 case assign x=>simp only[calm]at hc ⊢;cases hc;exact⟨_,rfl,Hl h x⟩
 case pick c x y=>
  simp only[calm]at hc ⊢;split at hc
  .next g hg=>
   cases hc;rw[bC h hg (by simp)];refine⟨_,rfl,?_⟩;cases g
   .exact Hl h y
   .exact Hl h x
  .cases hc
 case nilCheck x=>
  simp only[calm]at hc ⊢;split at hc
  .next a b e=>rw[bC h e (by simp)];exact⟨v,hc,.inr rfl⟩
  .next a b c e=>rw[bC h e (by simp)];exact⟨v,hc,.inr rfl⟩
  .next a b c d e=>rw[bC h e (by simp)];exact⟨v,hc,.inr rfl⟩
  .next a b e=>rw[bC h e (by simp)];exact⟨v,hc,.inr rfl⟩
  .next a b e=>rw[bC h e (by simp)];exact⟨v,hc,.inr rfl⟩
  .cases hc
 case makeFunc fn first captured=>
  cases fn<;>try (simp only[calm,reduceCtorEq]at hc;done)
  case func f=>
   simp only[calm]at hc ⊢;split at hc
   .next l hfirst hl=>rw[U9 h _ _ hl,hfirst];exact⟨v,hc,.inr rfl⟩
   .cases hc
 case alloc t=>exact⟨v,hc,.inr rfl⟩
 case box t x=>
  simp only[calm]at hc ⊢;split at hc
  .next a e=>rw[bC h e (by simp)];exact⟨v,hc,.inr rfl⟩
  .cases hc
 case build t parts=>
  simp only[calm]at hc ⊢;split at hc
  .next ti ht=>
   split at hc
   .next fs hk=>
    split at hc
    .next cs hb=>rw[QC h _ _ _ _ hb];exact⟨v,hc,.inr rfl⟩
    .cases hc
   .cases hc
  .cases hc
 case buildSlice t len parts=>
  simp only[calm]at hc ⊢;split at hc
  .next ti ht=>
   split at hc
   .next e hk=>
    split at hc
    .next te he=>
     split at hc
     .next l hb hrefs hrows=>have hkn:=QD _ _ _ _ hrows;rw[hb,Le h _ hkn,hrefs,U8 h _ _ _ _ hrows,Jr h _ hkn hrefs];exact⟨v,hc,.inr rfl⟩
     .cases hc
    .cases hc
   .cases hc
  .cases hc
 case makeSlice t x y=>
  simp only[calm]at hc ⊢;split at hc
  .next ti n c ht hn hcc=>rw[ht,nM h hn,nM h hcc];exact⟨v,hc,.inr rfl⟩
  .cases hc
 case load t x=>
  simp only[calm]at hc ⊢;split at hc
  .next ti o off ht he=>
   rw[ht,bC h he (by simp)];split at hc
   .next cs ho=>dsimp only;rw[h.ah o _ ho];exact⟨v,hc,.inr rfl⟩
   .cases hc
  .next ti o i off ht he=>
   rw[ht,bC h he (by simp)];split at hc
   .next e r l fr ho=>dsimp only;rw[h.ah o _ ho];exact⟨v,hc,.inr rfl⟩
   .cases hc
  .next ti r y off fr ht he=>rw[ht,bC h he (by simp)];exact⟨v,hc,.inr rfl⟩
  .next ti cs off ht he=>rw[ht,bC h he (by simp)];exact⟨v,hc,.inr rfl⟩
  .cases hc
 case fieldAddr t x f=>
  simp only[calm]at hc ⊢;split at hc
  .next ti ht=>
   split at hc
   .next fs hk=>
    split at hc
    .next k t hf=>
     split at hc
     .next te hte=>
      split at hc
      .cases hc
      .next a b e hne=>rw[bC h e (by simp)];cases hcell:te.cells with|nil=>grind|cons _ _=>exact⟨v,hc,.inr rfl⟩
      .next a b c e hne=>rw[bC h e (by simp)];cases hcell:te.cells with|nil=>grind|cons _ _=>exact⟨v,hc,.inr rfl⟩
      .next a b c d e hne=>rw[bC h e (by simp)];cases hcell:te.cells with|nil=>grind|cons _ _=>exact⟨v,hc,.inr rfl⟩
      .next a b e hne=>rw[bC h e (by simp)];cases hcell:te.cells with|nil=>grind|cons _ _=>exact⟨v,hc,.inr rfl⟩
      .cases hc
     .cases hc
    .cases hc
   .cases hc
  .cases hc
 case field t x f=>
  simp only[calm]at hc ⊢;split at hc
  .next ti ht=>
   split at hc
   .next fs hk=>
    split at hc
    .next k t cs hf e=>rw[hf,bC h e (by simp)];exact⟨v,hc,.inr rfl⟩
    .cases hc
   .cases hc
  .cases hc
 case indexAddr t x ix=>
  simp only[calm]at hc ⊢;split at hc
  .next ti n ht hn=>
   rw[ht,nM h hn]
   try dsimp only
   split at hc
   .next e hk=>
    split at hc
    .next te e' r l fr he hev=>rw[he,bC h hev (by simp)];exact⟨v,hc,.inr rfl⟩
    .next te o he hev=>
     rw[he,bC h hev (by simp)]
     try dsimp only
     split at hc
     .next a b c d ho=>rw[h.ah o _ ho];exact⟨v,hc,.inr rfl⟩
     .cases hc
    .next te he hev=>rw[he,bC h hev (by simp)];exact⟨v,hc,.inr rfl⟩
    .cases hc
   .cases hc
  .cases hc
 case index t x ix=>
  simp only[calm]at hc ⊢;split at hc
  .next ti n b ht hn hev=>rw[ht,nM h hn,bC h hev (by simp)];exact⟨v,hc,.inr rfl⟩
  .cases hc
 case binOp op t x y t'=>
  simp only[calm]at hc ⊢;split at hc
  .next a b e1 e2=>rw[bC h e1 (by simp),bC h e2 (by simp)];exact⟨v,hc,.inr rfl⟩
  .next a b e1 e2=>rw[bC h e1 (by simp),bC h e2 (by simp)];exact⟨v,hc,.inr rfl⟩
  .cases hc
 case unOp op t x=>
  simp only[calm]at hc ⊢;split at hc
  .next b e=>rw[bC h e (by simp)];exact⟨v,hc,.inr rfl⟩
  .next k n e=>rw[bC h e (by simp)];exact⟨v,hc,.inr rfl⟩
  .cases hc
 case convert a b x=>
  simp only[calm]at hc ⊢;split at hc
  .next ts td c hs hd e=>
   rw[hs,hd,bC h e (by simp)]
   try dsimp only
   split at hc
   .cases hc
   .next hagg=>
    rw[if_neg hagg];split at hc
    .exact⟨v,hc,.inr rfl⟩
    .exact⟨v,hc,.inr rfl⟩
    .exact⟨v,hc,.inr rfl⟩
    .next e' c' e1 e2=>
     split at hc
     .next l te hl hte=>rw[Wj h _ _ _ hl,hte];exact⟨v,hc,.inr rfl⟩
     .cases hc
    .cases hc
  .cases hc
 case extract x i=>
  simp only[calm]at hc ⊢;split at hc
  .next a e=>rw[bC h e (by simp)];exact⟨v,hc,.inr rfl⟩
  .cases hc
 case slice t x lo hi mx=>
  cases mx with
  |some m=>
   cases lo with
   |none=>simp only[calm,reduceCtorEq]at hc
   |some lo=>
    cases hi with
    |none=>simp only[calm,reduceCtorEq]at hc
    |some hi=>
     simp only[calm]at hc ⊢;split at hc
     .next ti o ht e=>
      rw[ht,bC h e (by simp)]
      try dsimp only
      split at hc
      .next f e' r l fr hk ho=>
       split at hc
       .next te n1 n2 n3 he h1 h2 h3=>rw[hk,h.ah o _ ho];dsimp only;rw[he,nM h h1,nM h h2,nM h h3];exact⟨v,hc,.inr rfl⟩
       .cases hc
      .cases hc
     .cases hc
  |none=>
   simp only[calm]at hc ⊢;split at hc
   .next ti b ht e=>
    rw[ht,bC h e (by simp)]
    try dsimp only
    split at hc
    .next p' x' y' hk hb=>rw[hk,Nq h _ _ _ hb];exact⟨v,hc,.inr rfl⟩
    .cases hc
   .next ti e' r l fr ht e=>
    rw[ht,bC h e (by simp)]
    try dsimp only
    split at hc
    .next f p' x' y' hk hb=>rw[hk,Nq h _ _ _ hb];exact⟨v,hc,.inr rfl⟩
    .cases hc
   .next ti ht e=>
    rw[ht,bC h e (by simp)]
    try dsimp only
    split at hc
    .next f p' x' y' hk hb=>rw[hk,Nq h _ _ _ hb];exact⟨v,hc,.inr rfl⟩
    .cases hc
   .next ti o CY n0 ht e=>
    rw[ht,bC h e (by simp)]
    try dsimp only
    split at hc
    .next f e' r l fr hk ho=>
     split at hc
     .next te p' x' y' he hb=>rw[hk,h.ah o _ ho];dsimp only;rw[he,af6 h hb];exact⟨v,hc,.inr rfl⟩
     .cases hc
    .cases hc
   .cases hc
 case call c=>
  obtain⟨callee,args,mr⟩:=c;cases callee with
  |invoke r m=>simp only[calm,reduceCtorEq]at hc
  |builtin b=>
   cases b<;>try (simp only[calm,reduceCtorEq]at hc;done)
   case len=>
    simp only[calm]at hc ⊢;split at hc
    .next x t hargs aa2=>
     split at hc
     .next ti c ht e=>
      rw[ht,bC h e (by simp)]
      try dsimp only
      split at hc
      .next b hk=>exact⟨v,hc,.inr rfl⟩
      .next a b c d e hk=>exact⟨v,hc,.inr rfl⟩
      .next a hk=>exact⟨v,hc,.inr rfl⟩
      .next a o hk=>
       split at hc
       .next e' r l fr ho=>rw[h.ah o _ ho];exact⟨v,hc,.inr rfl⟩
       .cases hc
      .cases hc
     .next ti o lo n ht e=>rw[ht,bC h e (by simp)];exact⟨v,hc,.inr rfl⟩
     .cases hc
    .cases hc
   case min=>
    simp only[calm]at hc ⊢;split at hc
    .next x y hargs=>
     split at hc
     .next a b c d e1 e2=>rw[bC h e1 (by simp),bC h e2 (by simp)];exact⟨v,hc,.inr rfl⟩
     .cases hc
    .cases hc
   case max=>
    simp only[calm]at hc ⊢;split at hc
    .next x y hargs=>
     split at hc
     .next a b c d e1 e2=>rw[bC h e1 (by simp),bC h e2 (by simp)];exact⟨v,hc,.inr rfl⟩
     .cases hc
    .cases hc
  |value x=>
   simp only[calm]at hc ⊢;split at hc
   .next f caps hx=>
    rw[bC h hx (by simp)];dsimp only;split at hc
    .next con vs hcon hargs=>rw[hcon,J9 h caps _ (DT _ _ hargs),xB h _ _ hargs];exact⟨v,hc,.inr rfl⟩
    .cases hc
   .cases hc
end Go.Fw
namespace Go.Fw
open Go
variable {P:Program} {w0:World} {M:Nat->Prop} {T:Ext} {γ γ':Nat->Value} {st:St} {a:Act} {w w':World} {Θ:gI} {Γ:iT}
def numOf(st:St)(o:Oper):Nat:=match o.dst with|some d=>d|none=>st.n
def ako(d o:Nat):Bool:=Nat.beq (o / 64) d
def als(d o:Nat):Bool:=Nat.beq (o / 64) d&&!(Nat.beq (o%64) 0)
def makes:Op->Bool
 |.alloc _|.box _ _|.buildSlice _ _ _|.makeSlice _ _ _=>true
 |.call {callee:=.value _,.. }=>true
 |_=>false
def aeD:Op->Bool
 |.buildSlice _ _ _|.makeSlice _ _ _=>true
 |.call {callee:=.value _,.. }=>true
 |_=>false
def ahl(Θ:gI)(Γ:iT)(d:Nat)(st:St)(op:Op):Option (Prop×AV×St):=
 match oper Θ Γ d st op with
 |some r=>some r
 |none=>match makes op with
  |true=>oper Θ Γ d (st.kill (ako d)) op
  |false=>none
def quiet(st:St):Op->Bool
 |.move _|.assign _|.nilCheck _|.pick _ _ _|.alloc _|.box _ _|.build _ _|.buildSlice _ _ _|.fieldAddr _ _ _|.field _ _ _|.unOp _ _ _|.convert _ _ _|.extract _ _|.makeFunc _ _ _=>true
 |.call {callee:=.builtin .len,.. }|.call {callee:=.builtin .min,.. }|.call {callee:=.builtin .max,.. }=>true
 |.load _ p=>match st.ev p with|.kM _ _ _=>false|_=>true
 |.store _ p _=>match st.ev p with|.dQ _ _=>true|_=>false
 |.binOp op _ x _ _=>match op with
  |.quo|.rem|.shl|.shr=>false
  |.add=>match st.ev x with|.sv (.one (.str _))=>false|_=>true
  |_=>true
 |_=>false
theorem aeE{op:BinOp}{k:IntKind}{x y:Int}{p:Prop}{c:Cell}(h:KY op k x y=some (p,c))(h1:op≠ .quo)(h2:op≠ .rem):p:=by cases op<;>simp only[KY,reduceCtorEq]at h<;>first|(cases h;trivial)|exact(h1 rfl).elim|exact(h2 rfl).elim
theorem aeF{op:BinOp}{x y:Bytes}{p:Prop}{c:Cell}(h:Qi op x y=some (p,c))(h1:op≠ .add):p:=by cases op<;>simp only[Qi,reduceCtorEq]at h<;>first|(cases h;trivial)|exact(h1 rfl).elim
theorem adx{op:BinOp}{x y:Cell}{p:Prop}{c:Cell}(h:KZ op x y=some (p,c))(h1:op≠ .quo)(h2:op≠ .rem)(h3:op≠ .shl)(h4:op≠ .shr)
 (h5:op=.add->∀s,x≠ .str s):p:=by
 unfold KZ at h;split at h
 .split at h
  · grind
  · grind
  grind [aeE]
 · grind [aeF]
 .split at h
  · grind
  · grind
  .cases h
 .cases h
theorem Nr{d:Nat}{op:Op}{p:Prop}{v:AV}{δ:List (Nat×ay)}(hc:calm Θ Γ d st op=some (p,v,δ))(hq:quiet st op=true):p:=by
 cases op<;>try (simp only[calm,reduceCtorEq]at hc;done)
 case binOp op t x y t'=>
  simp only[calm]at hc;split at hc
  .next a b e1 e2=>
   split at hc
   .split at hc
    .next q c hb=>
     cases hc;refine adx hb ?_ ?_ ?_ ?_ ?_
     · grind [quiet]
     · grind [quiet]
     · grind [quiet]
     · grind [quiet]
     grind [quiet]
    .cases hc
   .cases hc
  · grind
  .cases hc
 case load t x=>
  simp only[calm]at hc;split at hc
  · grind
  · grind [quiet]
  · grind
  · grind
  .cases hc
 case call c=>
  obtain⟨callee,args,mr⟩:=c;cases callee with
  |invoke r m=>simp only[calm,reduceCtorEq]at hc
  |builtin b=>
   cases b<;>first
    |(simp only[calm,reduceCtorEq]at hc;done)
    |(simp only[calm]at hc
      grind)
  |value x=>grind [quiet]
 all_goals first
  |(simp[quiet]at hq;done)
  |(simp only[calm]at hc
    repeat' (first|(cases hc;done)|(cases hc;trivial)|(split at hc)))
theorem af7{pt:AV}{v:SV}{q:Prop}{s:St}(h:store st pt v=some (q,s))(hv:∀o i off,pt≠ .kM o i off):q:=by
 unfold store at h;split at h
 · grind
 · grind
 .cases h
theorem aio{d:Nat}{op:Op}{p:Prop}{v:AV}{s:St}(hc:eff Θ Γ d st op=some (p,v,s))(hq:quiet st op=true):p:=by
 cases op<;>try (simp only[eff,reduceCtorEq]at hc;done)
 case store t pt x=>
  grind [eff,af7,AV.freeze,quiet]
 case buildSlice t n parts=>
  simp only[eff]at hc;split at hc
  .next q v' δ hcalm=>
   split at hc
   .cases hc;exact Nr hcalm rfl
   .cases hc
  .cases hc
 case slice t x lo hi mx=>grind [quiet]
 case call c=>
  obtain⟨callee,args,mr⟩:=c;cases callee with
  |invoke r m=>grind [eff]
  |builtin b=>cases b<;>first|(simp only[eff,reduceCtorEq]at hc;done)|grind [quiet]
  |value x=>grind [quiet]
theorem Yl{d:Nat}{op:Op}{p:Prop}{v:AV}{s:St}(hc:oper Θ Γ d st op=some (p,v,s))(hq:quiet st op=true):p:=by
 grind [oper,Nr,aio]
def amj:Op->Bool|.box _ _=>true|_=>false
def agx(own:Nat->Bool)(d:Nat)(o:Oper)(v:AV)(s:St):St:=
 match aeD o.op&&!(own d)&&((s.ah (d*64+1)).isSome||(s.ah (d*64+2)).isSome||(s.ah (d*64+3)).isSome)with
 |true=>(s.put o.dst v).freeze (als d)
 |false=>s.put o.dst v
def AV.fixed(o:Nat)(cs:List Cell):AV->AV
 |.dQ p off=>match Nat.beq o p with|true=>.dI (cs.map (Cell.kill (Nat.beq o ·))) off|false=>.dQ p off
 |v=>v.kill (Nat.beq o ·)
def St.fix(st:St)(o:Nat):St:=
 match st.ah o with
 |some (.var cs)=>{st.kill (Nat.beq o ·)with tmps:=λt=>(st.tmps t).fixed o cs}
 |_=>st
theorem Rel.fix(h:Rel w0 M T γ st a w)(o:Nat):Rel w0 M T γ (st.fix o) a w:=by
 unfold St.fix;split
 .next cs ho=>
  have hk:=h.kill (Nat.beq o ·);refine⟨hk.mT,hk.defers,hk.size,hk.os,hk.tape,hk.output,hk.grow,hk.kept,λt=>?_,hk.ah,hk.lt,hk.sep,hk.pin⟩;have hv:=h.tmps t;have hkv:=aP.kill (Nat.beq o ·) h _ _ hv;show aP (aj w0 T γ (st.kill (Nat.beq o ·)) w) ((st.tmps t).fixed o cs) _;cases hst:st.tmps t with
  |dQ p off=>
   rw[hst]at hv hkv;simp only[AV.fixed];cases hb:Nat.beq o p with
   |false=>grind [AV.kill]
   |true=>
    have hop:=aps hb;obtain⟨b,cs',_,hγ,hval⟩:=hv;obtain⟨b',arr,t',hγ',hh,hr⟩:=h.ah o _ ho;have hbb:b'=b:=by
     grind
    subst hbb;have hbl:blk (γ o)=some b':=by have h2:γ o=.pointer (some ⟨b',0,none⟩):=hγ';rw[h2];rfl
    refine⟨b',hval,arr,t',(0,0),⟨(h.lt o _ b' ho hbl).1,λhlt=>h.mT b' ((h.lt o _ b' ho hbl).2.resolve_left (by grind)),λq y hq=>?_⟩,hh,ai.kill _ h cs _ hr⟩;obtain⟨z,hz,_,hqS⟩:=rU (Nat.beq o ·) hq;exact h.sep o _ q z b' ho hz (λe=>by grind) hbl
  |_=>rw[hst]at hkv;exact hkv
 .exact h
def land(own:Nat->Bool)(d:Nat)(o:Oper)(v:AV)(s:St):St:=
 match amj o.op&&!(own d)with
 |true=>(s.put o.dst v).fix (d*64)
 |false=>agx own d o v s
def TM(st:St)(o:Oper):Bool:=match o.dst with|some d=>Nat.blt d st.n|none=>true
def roomy(d:Nat)(st:St):St:=
 match (st.ah (d*64)).isSome||(st.ah (d*64+1)).isSome||(st.ah (d*64+2)).isSome||(st.ah (d*64+3)).isSome with
 |true=>st.kill (ako d)
 |false=>st
def aip(Γ:iT)(d:Nat)(st:St)(op:Op):Option (Prop×J5×List (Option Nat)×St):=
 match Yd Γ (roomy d st) op with
 |some r=>some r
 |none=>Yd Γ st op
def aiq:BinOp->Option Bool
 |.eql=>some false
 |.neq=>some true
 |_=>none
def Ym:Bool->Bool->Bool
 |true,g=>!g
 |false,g=>g
def agy(st:St):AV->Option (Bool->Prop)
 |.sv (.one (.sl _ _ l _))=>some λg=>g=true->l.length=0
 |.sv (.one (.ref o))=>match st.ah o with
  |some (.arr _ _ l _)=>some λg=>g=true->l.length=0
  |_=>none
 |.sv (.one .nil)=>some λg=>g=true
 |_=>none
def akp(Θ:gI)(st:St)(t:TypeId)(x:Operand)(s:Option Bool):Option (Bool×(Bool->Prop)):=match s,Θ t with
 |some neg,some ti=>match ti.kind with
  |.slice _=>match agy st (st.ev x)with
   |some R=>some (neg,R)
   |none=>none
  |_=>none
 |_,_=>none
def ahm(Θ:gI)(st:St):Op->Option (Bool×(Bool->Prop))
 |.binOp op t x (.const (.slice none 0 0)) _=>akp Θ st t x (aiq op)
 |_=>none
def aeG(Θ:gI)(Γ:iT)(own:Nat->Bool)(o:Oper)(K:St->Prop)(st:St):Prop:=
 match TM st o with
 |true=>match aip Γ (numOf st o) st o.op with
  |some (p,ρ,os,s0)=>p/\∀t,ρ.R t->match TA (numOf st o) s0 os (ρ.out t) (ρ.aH t)with
   |some (v,s)=>K (land own (numOf st o) o v s)
   |none=>False
  |none=>match ahm Θ st o.op with
   |some (neg,R)=>∀g:Bool,R g->K (land own (numOf st o) o (.sv (.one (.bool (Ym neg g)))) st)
   |none=>match ahl Θ Γ (numOf st o) st o.op,quiet st o.op with
    |some (p,v,s),q=>match q with
     |true=>K (land own (numOf st o) o v s)
     |false=>p/\K (land own (numOf st o) o v s)
    |none,_=>False
 |false=>False
def guarded(ops:List Oper)(o:Oper)(one:St->Prop)(skip:St->Prop)(st:St):Prop:=
 match o.guard with
 |none=>one st
 |some (g,b)=>match ops[g]? with
  |some og=>match og.dst with
   |some t=>match TM st o,Nat.blt t st.n,st.tmps t with
    |true,true,.sv (.one (.bool x))=>cond x
     (match b with|true=>one (st.set t (.sv (.one (.bool true))))|false=>skip ((st.set t (.sv (.one (.bool true)))).put o.dst (.kE [])))
     (match b with|false=>one (st.set t (.sv (.one (.bool false))))|true=>skip ((st.set t (.sv (.one (.bool false)))).put o.dst (.kE [])))
    |true,true,.kE _=>skip (st.put o.dst (.kE []))
    |_,_,_=>False
   |none=>False
  |none=>False
def runs(Θ:gI)(Γ:iT)(own:Nat->Bool)(ops:List Oper)(K:St->Prop):List Oper->St->Prop
 |[],st=>K st
 |o::r,st=>guarded ops o (aeG Θ Γ own o (runs Θ Γ own ops K r)) (runs Θ Γ own ops K r) st
theorem set_self{t:Nat}{v:AV}(h:st.tmps t=v):st.set t v=st:=by
 cases st with
 |mk n tm ob=>
  grind [St.set,St.mk.injEq,Nat.eq_of_beq_eq_true]
theorem air{G:iP}(hE:oG P G Θ Γ w0 M)(h:Rel w0 M T γ st a w)(o:Oper){neg:Bool}{R:Bool->Prop}(hc:ahm Θ st o.op=some (neg,R)){next:Act->World->Prop}{Q:Exit->Act->World->Prop}
 (hn:∀g:Bool,R g->next (a.put o.dst (.bool (Ym neg g))) w):o.wp P a w next Q:=by
 unfold ahm at hc;split at hc
 case h_2=>cases hc
 next op t x _ hop=>
 unfold akp at hc;split at hc
 case h_2=>cases hc
 next ao8 ti hs ht=>
 split at hc
 case h_2=>cases hc
 next e hk=>
 split at hc
 case h_2=>cases hc
 next R' hR=>
 cases hc;have hu:P.underlying t=some (.slice e):=by
  have:=(hE.types t ti ht).und
  grind
 have hop':op=.eql/\neg=false\/op=.neq/\neg=true:=by cases op<;>simp[aiq]at hs<;>simp[hs]
 have run:∀(ad:Option Addr)(n c:Nat),a.eval x=.slice ad n c->R ad.isNone->o.wp P a w next Q:=by
  intro ad n c hx hR;have hev:a.eval (.const (.slice none 0 0))=.slice none 0 0:=rfl;refine Oper.jP (u:=.bool (Ym neg ad.isNone)) (w':=w) ?_ (hn _ hR);have hs:execOp a.eval o=(do pure (Next.value (← (do eqGuard op t x (.const (.slice none 0 0)) (a.eval x) (a.eval (.const (.slice none 0 0)));binOp op t (a.eval x) (a.eval (.const (.slice none 0 0))))))):=by simp[execOp,hop]
  rw[hs];refine alo ?_;rw[hx,hev];rcases hop' with⟨rfl,rfl⟩|⟨rfl,rfl⟩
  .exact Lib.run_eql_slice_nil w t e ad n c 0 0 hu
  .exact run_neq_slice_nil_any w t e ad n c 0 0 hu
 unfold agy at hR;split at hR
 .next ee rr l _ hx=>
  cases hR;have hv:=kR h hx;obtain⟨ad,c,hv1,_⟩:=aeg hv;refine run ad l.length c hv1 λhnone=>?_;have hv':fM w.heap _ (.sl ee rr) (a.eval x) l:=hv;rcases hv'.2 with⟨hl,_⟩|⟨b,off,cap,cs,t',fz,hv2,_⟩
  .rw[hl];rfl
  grind
 .next o' hx=>
  split at hR
  .next _ _ l _ ho=>
   have hv:=kR h hx;obtain⟨_,hv2,_⟩:=hv;obtain⟨xs,hown,hr,_⟩:=h.ah o' _ ho;obtain⟨_,hown⟩:=hown
   grind
  .cases hR
 .next hx=>
  have hv:a.eval x=.slice none 0 0:=kR h hx
  grind
 .cases hR
theorem aeH{G:iP}(hE:oG P G Θ Γ w0 M){own:Nat->Bool}{o:Oper}{K:St->Prop}(h:Rel w0 M T γ st a w)(hr:aeG Θ Γ own o K st)
 {next:Act->World->Prop} {Q:Exit->Act->World->Prop} (hn:∀s γ' a' w',K s->Rel w0 M T γ' s a' w'->next a' w'):o.wp P a w next Q:=by
 unfold aeG at hr;split at hr
 .next hd=>
  have amk:∀(s:St)(v:AV)(u:Value)(γ':Nat->Value)(w':World),Rel w0 M T γ' s a w'->aP (aj w0 T γ' s w') v u->K (land own (numOf st o) o v s)->next (a.put o.dst u) w':=by
   intro s v u γ' w' hR hv hK;have hsz:s.n=st.n:=by rw[← hR.size,h.size]
   have hput:Rel w0 M T γ' (s.put o.dst v) (a.put o.dst u) w':=by
    cases hdst:o.dst with
    |none=>exact hR
    |some d=>
     rw[TM,hdst]at hd;refine hR.set d ?_ v u hv
     simp_all
   unfold land at hK;split at hK
   .exact hn _ γ' _ _ hK (hput.fix _)
   .unfold agx at hK;split at hK
    .exact hn _ γ' _ _ hK (hput.freeze _)
    grind
  have main:∀(st1:St)(_:Rel w0 M T γ st1 a w)(_:st1.n=st.n)(p:Prop)(v:AV)(s:St),oper Θ Γ (numOf st o) st1 o.op=some (p,v,s)->p->K (land own (numOf st o) o v s)->o.wp P a w next Q:=by
   grind [ahk]
  have ao9:∀(st1:St)(_:Rel w0 M T γ st1 a w)(p:Prop)(ρ:J5)(os:List (Option Nat))(s0:St),Yd Γ st1 o.op=some (p,ρ,os,s0)->
   (p/\∀t,ρ.R t->match TA (numOf st o) s0 os (ρ.out t) (ρ.aH t)with|some (v,s)=>K (land own (numOf st o) o v s)|none=>False)->o.wp P a w next Q:=by
   intro st1 h1 p ρ os s0 hrel ⟨hp,hall⟩;refine ail hE h1 o (d:=numOf st o) hrel hp (λt ht=>?_) λt v s u γ' w' ht hs hR hv=>?_
   · grind
   grind
  split at hr
  .next p ρ os s0 hrel=>
   unfold aip at hrel;split at hrel
   .next r hr0=>
    have hroom:Rel w0 M T γ (roomy (numOf st o) st) a w:=by
     unfold roomy;split
     .exact h.kill _
     .exact h
    grind
   grind
  split at hr
  .next neg R hnil=>exact air hE h o hnil λg hg=>amk st (.sv (.one (.bool (Ym neg g)))) (.bool (Ym neg g)) γ w h rfl (hr g hg)
  cases ho:ahl Θ Γ (numOf st o) st o.op with
  |none=>grind
  |some res=>
   obtain⟨p,v,s⟩:=res;have hq1:quiet st o.op=true->K (land own (numOf st o) o v s):=λe=>by grind
   have hq2:quiet st o.op=false->p/\K (land own (numOf st o) o v s):=λe=>by grind
   unfold ahl at ho;cases hop1:oper Θ Γ (numOf st o) st o.op with
   |some r=>
    grind [Yl]
   |none=>
    rw[hop1]at ho;cases hm:makes o.op with
    |false=>grind
    |true=>
     rw[hm]at ho;cases hqq:quiet st o.op with
     |true=>
      refine main _ (h.kill _) rfl p v s ho (Yl ho ?_) (hq1 hqq);cases hop2:o.op<;>rw[hop2]at hm hqq<;>simp only[makes,arl]at hm<;>first|rfl|(simp[quiet]at hqq;done)|skip
      rename_i c
      obtain⟨callee,args,mr⟩:=c;cases callee<;>simp only[arl]at hm;exact hqq
     |false=>exact main _ (h.kill _) rfl p v s ho (hq2 hqq).1 (hq2 hqq).2
 grind
theorem Rel.akU(h:Rel w0 M T γ st a w)(d:Option Nat)(hd:∀t,d=some t->t<st.n):Rel w0 M T γ (st.put d (.kE [])) (a.put d undef) w:=by
 cases d with
 |none=>exact h
 |some d=>exact h.set d (hd d rfl) (.kE []) undef ⟨#[],rfl,trivial⟩
theorem ady{ops:Array Oper}{o:Oper}{one skip:St->Prop}(h:Rel w0 M T γ st a w)(hr:guarded ops.toList o one skip st){Y Z:Prop}
 (h1:one st->Y) (h2:skip (st.put o.dst (.kE []))->Z):
 (Region.wanted o (yielded ops a.tmps)=true/\Y)\/(Region.wanted o (yielded ops a.tmps)=false/\TM st o=true/\Z):=by
 unfold guarded at hr;split at hr
 · grind [Region.wanted]
 .next g b hg=>
  split at hr
  .next og hog=>
   split at hr
   .next t ht=>
    split at hr
    .next x hok hlt htm=>
     have hy:yielded ops a.tmps g=some x:=by
      have hr1:=h.tmps t;rw[htm]at hr1;have hv:a.tmps.getD t undef=.bool x:=hr1;have hsz:t<a.tmps.size:=by rw[h.size];simp_all
      simp_all [yielded]
     grind [set_self,Region.wanted]
    .next xs hok hlt htm=>
     have hy:yielded ops a.tmps g=none:=by
      have hr1:=h.tmps t;rw[htm]at hr1;obtain⟨vs,hv,_⟩:=hr1;have hsz:t<a.tmps.size:=by rw[h.size];simp_all
      simp_all [yielded]
     grind [Region.wanted]
    grind
   grind
  grind
theorem GH{G:iP}(hE:oG P G Θ Γ w0 M){own:Nat->Bool}{ops:Array Oper}{K:St->Prop}{Q:Exit->Act->World->Prop}
 (hn:∀s γ' a' w',K s->Rel w0 M T γ' s a' w'->Q .normal a' w'):∀(l:List Oper)(st:St)(γ:Nat->Value)(a:Act)(w:World),
 Rel w0 M T γ st a w->runs Θ Γ own ops.toList K l st->wpList P ops Q l a w
 |[],st,γ,a,w,h,hr=>hn st γ a w hr h
 |o::r,st,γ,a,w,h,hr=>by
  unfold wpList;have:=ady (ops:=ops) (o:=o) (Y:=o.wp P a w (wpList P ops Q r) Q) (Z:=TM st o=true->wpList P ops Q r (a.put o.dst undef) w) h hr
   (λh1=>aeH hE h h1 λs γ' a' w' hK hR=>GH hE hn r s γ' a' w' hR hK)
   (λh2 hok=>GH hE hn r _ γ _ w (h.akU o.dst (λt ht=>by rw[TM,ht]at hok;simpa[Nat.blt_eq]using hok)) h2)
  rcases this with⟨e,hy⟩|⟨e,hok,hz⟩
  .rw[if_pos e];exact .inl hy
  .rw[if_neg (by rw[e];simp)];exact hz hok
theorem aeJ{G:iP}(hE:oG P G Θ Γ w0 M){own:Nat->Bool}{id:Nat}{ops:Array Oper}{K:St->Prop}{Q:Exit->Act->World->Prop}(h:Rel w0 M T γ st a w)
 (hr:runs Θ Γ own ops.toList K ops.toList st) (hn:∀s γ' a' w',K s->Rel w0 M T γ' s a' w'->Q .normal a' w'):(Code.region id ops false).wp P Q a w:=
 wp_region_list (GH hE hn _ _ _ _ _ h hr)
inductive Pre where
 |still (o:Nat)
 |opens (t:Nat)
 |closes (t:Nat)
 |alu (o:Nat)
def agz(st:St)(t o:Nat)(e:TypeId)(r:ak)(l:List r.den)(fr:Bool):St:=((st.kill (Nat.beq o ·)).add o (.arr e r l fr)).set t (.sv (.one (.ref o)))
def Ns:List Pre->(St->Prop)->St->Prop
 |[],K,st=>K st
 |.still o::z,K,st=>Ns z K (st.freeze (Nat.beq o ·))
 |.alu o::z,K,st=>Ns z K (st.fix o)
 |.opens t::z,K,st=>match st.tmps t with
  |.sv (.one (.ref o))=>match st.ah o with
   |some (.arr _ _ l _)=>0<l.length/\Ns z K (st.set t (.win o 0 l.length))
   |_=>False
  |_=>False
 |.closes t::z,K,st=>match st.tmps t with
  |.win o lo n=>match Nat.beq lo 0,st.ah o with
   |true,some (.arr e r l fr)=>(0<l.length/\n<=l.length)/\Ns z K (agz st t o e r (l.take n) fr)
   |_,_=>False
  |_=>False
theorem Rel.ais(h:Rel w0 M T γ st a w)(t:Nat)(v:AV)(hv:aP (aj w0 T γ st w) v (a.tmps.getD t undef)):Rel w0 M T γ (st.set t v) a w:=by
 refine⟨h.mT,h.defers,h.size,h.os,h.tape,h.output,h.grow,h.kept,λk=>?_,h.ah,h.lt,h.sep,h.pin⟩;show aP _ (match Nat.beq k t with|true=>v|false=>st.tmps k) (a.tmps.getD k undef);cases hb:Nat.beq k t with
 |false=>exact h.tmps k
 |true=>rw[aps hb];exact hv
theorem Rel.close(h:Rel w0 M T γ st a w){t o n:Nat}{e:TypeId}{r:ak}{l:List r.den}{fr:Bool}(ht:st.tmps t=.win o 0 n)(ho:st.ah o=some (.arr e r l fr))(hl:0<l.length)(hn:n<=l.length):∃γ',Rel w0 M T γ' (agz st t o e r (l.take n) fr) a w:=by
 have htv:=h.tmps t;rw[ht]at htv;obtain⟨g,m,cap,e',r',l',fr',hx,hγ,⟨q,hq,hv,hle⟩⟩:=htv;have hγ:γ o=.slice (some ⟨g,0,none⟩) m cap:=hγ;obtain⟨xs,⟨h1,h2⟩,hpos,hfr,hrow⟩:=h.ah o _ ho;rcases h2 with⟨hnil,_⟩|⟨g',cap',cur,hg,hg0,hh,hlc,hmax,hsz,htake⟩
 .omega
 .have yU:γ o=.slice (some ⟨g',0,none⟩) l.length cap':=hg;rw[hγ]at yU;obtain⟨rfl,rfl,rfl⟩:=yU;have hq0:q=0:=by omega
  subst hq0;have hmul:n*r.len<=l.length*r.len:=apA _ hn;have hblk:blk (Value.slice (some ⟨g,0,none⟩) n cap)=blk (γ o):=by rw[hγ];rfl
  obtain⟨hR,_⟩:=h.replace (w':=w) (o:=o) (v':=.slice (some ⟨g,0,none⟩) n cap) (x':=.arr e r (l.take n) fr) (blk (γ o)) (.inr ⟨_,ho,rfl⟩) rfl rfl rfl (apz _) (λ_ _ _=>rfl)
   (λc hc=>⟨.inl (by grind),(h.lt o _ c ho (by grind)).1⟩) (λ_ e=>by cases e) (λle=>by
     have hlen:(l.take n).length=n:=by grind
     refine⟨xs.take (n*r.len),?_,hpos,?_,λi z hi=>?_⟩
     .rw[hlen];show w.ownsRow 0 e r.len (upd γ o _ o) _ _;rw[upd_same];refine⟨by grind,.inr ⟨g,cap,cur,rfl,apW _,hh,by omega,hmax,hsz,?_⟩⟩
      grind
     · grind [upd_same]
     .have hil:i<n:=by grind
      have hmul:i*r.len+r.len<=n*r.len:=by
       have:(i+1)*r.len<=n*r.len:=apA _ hil
       grind
      rw[aqk,if_pos hil]at hi;rw[eP _ _ _ _ hmul];exact aZ.mono (λc hc=>le.bI _ c hc) _ _ z (hrow i z hi))
  refine⟨_,hR.ais t _ ?_⟩;have hv':a.tmps.getD t undef=.slice (some ⟨g,0,none⟩) n cap:=hv;rw[hv'];exact⟨⟨e,r,_,_,add_same _ _ _⟩,(upd_same _ _ _).symm,rfl⟩
theorem Ac{K:St->Prop}:∀(z:List Pre)(st:St)(γ:Nat->Value),Rel w0 M T γ st a w->Ns z K st->∃s γ',Rel w0 M T γ' s a w/\K s
 |[],st,γ,h,hk=>⟨st,γ,h,hk⟩
 |.still o::z,st,γ,h,hk=>Ac z _ γ (h.freeze _) hk
 |.alu o::z,st,γ,h,hk=>Ac z _ γ (h.fix o) hk
 |.opens t::z,st,γ,h,hk=>by
  rw[Ns]at hk;split at hk
  .next o ht=>
   split at hk
   .next e r l fr ho=>
    refine Ac z _ γ (h.ais t _ ?_) hk.2;have htv:=h.tmps t;rw[ht]at htv;obtain⟨_,hv,_⟩:=htv;obtain⟨xs,⟨_,h2⟩,_⟩:=h.ah o _ ho;rcases h2 with⟨_,h4⟩|⟨g,cap,cur,h3,_,_,h4,h5,_⟩
    .omega
    .refine⟨g,l.length,cap,e,r,l,fr,ho,h3,0,.inl (by omega),by grind,by omega⟩
   grind
  grind
 |.closes t::z,st,γ,h,hk=>by
  rw[Ns]at hk;split at hk
  .next o lo n ht=>
   split at hk
   .next e r l fr hb ho=>have hlo:=aps hb;subst hlo;obtain⟨γ',hR⟩:=h.close ht ho hk.1.1 hk.1.2;exact Ac z _ γ' hR hk.2
   grind
  grind
inductive dX where
 |int (k:IntKind)
 |bool
 |str
 |nil
 |sl (e:TypeId) (r:ak) (fr:Bool)
 |ref (o:Nat)
 |junk
@[reducible] def dX.den:dX->Type
  |.int _=>Int
  |.bool=>Bool
  |.str=>Bytes
  |.sl _ r _=>List r.den
  |.nil|.ref _|.junk=>Unit
def dX.cell:(c:dX)->c.den->Cell
 |.int k,n=>.int k n
 |.bool,b=>.bool b
 |.str,s=>.str s
 |.sl e r fr,l=>.sl e r l fr
 |.nil,_=>.nil
 |.ref o,_=>.ref o
 |.junk,_=>.junk
def Ih:Bool->Bool->Bool
 |true,b=>b
 |false,_=>true
def dX.read:(c:dX)->Cell->Option c.den
 |.int k,.int l n=>match decide (k=l)with|true=>some n|false=>none
 |.bool,.bool b=>some b
 |.str,.str s=>some s
 |.sl e r fr,.sl f s l gr=>match Nat.beq e f&&Ih fr gr with
  |true=>if h:s.beq r=true then some (pW h l)else none
  |false=>none
 |.sl _ _ _,.nil=>some []
 |.nil,.nil=>some ()
 |.ref o,.ref p=>match Nat.beq o p with|true=>some ()|false=>none
 |.junk,_=>some ()
 |_,_=>none
theorem alv(X:V)(e:TypeId)(r:ak)(fr:Bool):aK X (.sl e r [] fr) (.slice none 0 0):=by refine⟨by simp,.inl ⟨rfl,none,0,rfl⟩⟩
theorem dX.weak{X:V}:∀(c:dX)(x:Cell)(d:c.den)(v:Value),c.read x=some d->aK X x v->aK X (c.cell d) v:=by
 intro c x d v hr hv;cases c<;>cases x<;>simp only[dX.read,reduceCtorEq,Option.some.injEq]at hr<;>try (subst hr;exact hv)
 case int.int k l n=>
  split at hr
  .next e=>cases hr;rw[show k=l by simpa using e];exact hv
  .cases hr
 case sl.sl e r fr f s l gr=>
  split at hr
  .next hb=>
   split at hr
   .next hs=>
    cases hr;have hsr:=ak.eq_of_beq s r hs;subst hsr;have hv':fM X.w.heap (X.bI gr) (.sl e s) v l:=hv;refine fM.mono (λb hb'=>⟨⟨hb'.1,λhfr=>hb'.2 ?_⟩,rfl⟩) (.sl e s) v l hv'
    grind [Ih]
   .cases hr
  .cases hr
 case sl.nil e r fr=>subst hr;rw[show v=_ from hv];exact alv X e r fr
 case nil.nil=>exact hv
 case ref.ref o p=>
  grind [dX.cell,Nat.eq_of_beq_eq_true]
 all_goals exact aK.one _ _ hv
@[reducible] def jG:List dX->Type
  |[]=>Unit
  |c::r=>c.den×jG r
def fJ:(l:List dX)->jG l->List Cell
 |[],_=>[]
 |c::r,x=>c.cell x.1::fJ r x.2
def iJ:(l:List dX)->List Cell->Option (jG l)
 |[],[]=>some ()
 |c::r,x::xs=>match c.read x,iJ r xs with
  |some a,some b=>some (a,b)
  |_,_=>none
 |_,_=>none
theorem Bl{X:V}:∀(l:List dX)(xs:List Cell)(d:jG l)(vs:List Value),iJ l xs=some d->ai X xs vs->ai X (fJ l d) vs
 |[],[],_,_,_,hv=>hv
 |c::r,x::xs,d,vs,hr,hv=>by
  rw[iJ]at hr;split at hr
  .next a b h1 h2=>
   cases hr;cases vs with
   |nil=>cases hv
   |cons v vs=>exact⟨dX.weak c x a v h1 hv.1,Bl r xs b vs h2 hv.2⟩
  .cases hr
 |[],_::_,_,_,hr,_=>by grind [iJ]
 |_::_,[],_,_,hr,_=>by grind [iJ]
@[reducible] def xC:List (List dX)->Type
  |[]=>Unit
  |l::r=>jG l×xC r
def FB:(l:List (List dX))->xC l->List (List Cell)
 |[],_=>[]
 |c::r,x=>fJ c x.1::FB r x.2
def CU:(l:List (List dX))->List (List Cell)->Option (xC l)
 |[],[]=>some ()
 |c::r,x::xs=>match iJ c x,CU r xs with
  |some a,some b=>some (a,b)
  |_,_=>none
 |_,_=>none
theorem acK{X:V}{l:List dX}{xs:List Cell}{d:jG l}{b:Nat}(hr:iJ l xs=some d)(h:eH X xs b):eH X (fJ l d) b:=by obtain⟨arr,t,fz,hf,hh,hc⟩:=h;exact⟨arr,t,fz,hf,hh,Bl _ _ _ _ hr hc⟩
theorem QE{X:V}:∀(l:List (List dX))(xs:List (List Cell))(d:xC l)(us:List Value),CU l xs=some d->dL X xs us->dL X (FB l d) us
 |[],[],_,us,_,h=>h
 |c::r,x::xs,d,us,hr,h=>by
  rw[CU]at hr;split at hr
  .next a b h1 h2=>
   cases hr;cases us with
   |nil=>cases h
   |cons u us=>obtain⟨⟨b',hu,hk⟩,h3⟩:=h;exact⟨⟨b',hu,acK h1 hk⟩,QE r xs b us h2 h3⟩
  .cases hr
 |[],_::_,_,_,hr,_=>by grind [CU]
 |_::_,[],_,_,hr,_=>by grind [CU]
inductive Es where
 |one (c:dX)
 |agg (l:List dX)
 |dQ (o off:Nat)
 |dI (l:List dX) (off:Nat)
 |fn (f:FuncId) (l:List (List dX))
@[reducible] def Es.den:Es->Type
  |.one c=>c.den
  |.agg l=>jG l
  |.dQ _ _=>Unit
  |.dI l _=>jG l
  |.fn _ l=>xC l
def Es.val:(s:Es)->s.den->AV
 |.one c,x=>.sv (.one (c.cell x))
 |.agg l,x=>.sv (.agg (fJ l x))
 |.dQ o off,_=>.dQ o off
 |.dI l off,x=>.dI (fJ l x) off
 |.fn f l,x=>.fn f (FB l x)
def Es.read:(s:Es)->AV->Option s.den
 |.one c,.sv (.one x)=>c.read x
 |.agg l,.sv (.agg xs)=>iJ l xs
 |.dQ o off,.dQ p k=>match Nat.beq o p&&Nat.beq off k with|true=>some ()|false=>none
 |.dI l off,.dI xs k=>match Nat.beq off k with|true=>iJ l xs|false=>none
 |.fn f l,.fn g xs=>match Nat.beq f g with|true=>CU l xs|false=>none
 |_,_=>none
theorem Es.weak{X:V}(s:Es)(x:AV)(d:s.den)(v:Value)(hr:s.read x=some d)(hv:aP X x v):aP X (s.val d) v:=by
 unfold Es.read at hr;split at hr
 .exact dX.weak _ _ _ _ hr hv
 .obtain⟨vs,e,h⟩:=hv;exact⟨vs,e,Bl _ _ _ _ hr h⟩
 · grind [Es.val,Nat.eq_of_beq_eq_true]
 .split at hr
  .next hb=>obtain⟨b,e,arr,t,fz,hf,hh,hc⟩:=hv;rw[Es.val,aps hb];exact⟨b,e,arr,t,fz,hf,hh,Bl _ _ _ _ hr hc⟩
  .cases hr
 .split at hr
  .next hb=>obtain⟨us,e,hk⟩:=hv;rw[Es.val,aps hb];exact⟨us,e,QE _ _ _ _ hr hk⟩
  .cases hr
 .cases hr
inductive Gp where
 |var (l:List dX)
 |arr (e:TypeId) (r:ak) (fr:Bool)
@[reducible] def Gp.den:Gp->Type
  |.var l=>jG l
  |.arr _ r _=>List r.den
def Gp.obj:(s:Gp)->s.den->ay
 |.var l,x=>.var (fJ l x)
 |.arr e r fr,l=>.arr e r l fr
def Gp.read:(s:Gp)->ay->Option s.den
 |.var l,.var xs=>iJ l xs
 |.arr e r fr,.arr f s l gr=>match Nat.beq e f&&Ih fr gr with
  |true=>if h:s.beq r=true then some (pW h l)else none
  |false=>none
 |_,_=>none
def EI(x x':ay):Prop:=
 (∃cs cs',x=.var cs/\x'=.var cs'/\∀(X:V) vs,ai X cs vs->ai X cs' vs)\/∃e r l fr gr,x=.arr e r l gr/\x'=.arr e r l fr/\(fr=true->gr=true)
theorem Gp.weak(s:Gp)(x:ay)(d:s.den)(hr:s.read x=some d):EI x (s.obj d):=by
 unfold Gp.read at hr;split at hr
 .exact .inl ⟨_,_,rfl,rfl,λX vs h=>Bl _ _ _ _ hr h⟩
 .next e r fr f s l gr=>
  split at hr
  .next hb=>
   split at hr
   .next hs=>
    cases hr;rw[apt]at hb;have he:=aps hb.1;have hg:fr=true->gr=true:=λe=>by have hb2:=hb.2;rw[e]at hb2;exact hb2
    subst he;have hsr:=ak.eq_of_beq s r hs;subst hsr;exact .inr ⟨e,s,l,fr,gr,rfl,rfl,hg⟩
   .cases hr
  .cases hr
 .cases hr
structure Covers(J st:St):Prop where
 n:J.n=st.n
 tmps:∀t(X:V) v,aP X (st.tmps t) v->aP X (J.tmps t) v
 ah:∀o,(J.ah o=none/\st.ah o=none)\/∃x x',st.ah o=some x/\J.ah o=some x'/\EI x x'
theorem Rel.covers{J:St}(h:Rel w0 M T γ st a w)(hc:Covers J st):Rel w0 M T γ J a w:=by
 have key:∀o x',J.ah o=some x'->∃x,st.ah o=some x/\EI x x':=by
  intro o x' hx';rcases hc.ah o with⟨e,_⟩|⟨x,y,hx,hy,hw⟩
  · grind
  grind
 have yek:∀o x,st.ah o=some x->∃x',J.ah o=some x'/\EI x x':=by
  intro o x hx;rcases hc.ah o with⟨_,e⟩|⟨y,x',hy,hx',hw⟩
  · grind
  grind
 have hle:(aj w0 T γ st w).le (aj w0 T γ J w):=by
  refine⟨apz _,λb hb=>⟨⟨hb.1,hb.2.1,λo x hx=>?_⟩,rfl⟩,λo cs hx=>⟨?_,rfl⟩,λo e r l fr hx=>⟨?_,rfl⟩⟩
  .obtain⟨y,hy,_⟩:=key o x hx;exact hb.2.2 o y hy
  .obtain⟨x',hx',hw⟩:=yek o _ hx;rcases hw with⟨cs1,cs2,e1,e2,_⟩|⟨e,r,l,fr,gr,e1,e2,_⟩
   · grind
   .cases e1
  .obtain⟨x',hx',hw⟩:=yek o _ hx;rcases hw with⟨cs1,cs2,e1,e2,_⟩|⟨e,r,l,fr,gr,e1,e2,_⟩
   .cases e1
   grind
 refine⟨h.mT,h.defers,h.size.trans hc.n.symm,h.os,h.tape,h.output,h.grow,h.kept,λt=>hc.tmps t _ _ (aP.mono hle _ _ (h.tmps t)),λo x' hx'=>?_,λo x' b hx' hb=>?_,λo x' p y' b hx' hy' hop hb=>?_,λo v cs hN hx'=>?_⟩
 .obtain⟨x,hx,hw⟩:=key o x' hx';have ho:=h.ah o x hx;rcases hw with⟨cs1,cs2,e1,e2,hcs⟩|⟨e,r,l,fr,gr,e1,e2,hfg⟩
  .subst e1 e2;obtain⟨b,arr,t,g1,g2,g3⟩:=ho;exact⟨b,arr,t,g1,g2,hcs _ _ (ai.mono hle _ _ g3)⟩
  .subst e1 e2;obtain⟨xs,g1,g2,g3,g4⟩:=ho;exact⟨xs,g1,g2,λb hb hf=>g3 b hb (hfg hf),λi x hi=>aZ.mono (λb hb=>hle.bI fr b ⟨hb.1,λe=>hb.2 (hfg e)⟩) r _ x (g4 i x hi)⟩
 .obtain⟨x,hx,_⟩:=key o x' hx';exact h.lt o x b hx hb
 .obtain⟨x,hx,_⟩:=key o x' hx';obtain⟨y,hy,_⟩:=key p y' hy';exact h.sep o x p y b hx hy hop hb
 .obtain⟨x,hx,hw⟩:=key o _ hx';rcases hw with⟨cs1,cs2,e1,e2,_⟩|⟨e,r,l,fr,gr,e1,e2,_⟩
  .subst e1;exact h.pin o v cs1 hN hx
  .cases e2
structure Shape where
 tmps:List (Nat×Es)
 ah:List (Nat×Gp)
@[reducible] def Yn:List (Nat×Es)->Type
  |[]=>Unit
  |x::r=>x.2.den×Yn r
@[reducible] def Yo:List (Nat×Gp)->Type
  |[]=>Unit
  |x::r=>x.2.den×Yo r
@[reducible] def Shape.den (s:Shape):Type:=Yn s.tmps×Yo s.ah
def QF:(l:List (Nat×Es))->Yn l->(Nat->AV)->Nat->AV
 |[],_,f=>f
 |s::r,x,f=>λi=>match Nat.beq i s.1 with|true=>s.2.val x.1|false=>QF r x.2 f i
def FC:(l:List (Nat×Gp))->Yo l->(Nat->Option ay)->Nat->Option ay
 |[],_,f=>f
 |s::r,x,f=>λi=>match Nat.beq i s.1 with|true=>some (s.2.obj x.1)|false=>FC r x.2 f i
def Yp(st:St):(l:List (Nat×Es))->Option (Yn l)
 |[]=>some ()
 |s::r=>match s.2.read (st.tmps s.1),Yp st r with
  |some a,some b=>some (a,b)
  |_,_=>none
def Yq(st:St):(l:List (Nat×Gp))->Option (Yo l)
 |[]=>some ()
 |s::r=>match st.ah s.1,Yq st r with
  |some x,some b=>match s.2.read x with
   |some a=>some (a,b)
   |none=>none
  |_,_=>none
def aN:List Nat->Nat->Bool
 |[],_=>false
 |x::r,o=>match Nat.beq o x with|true=>true|false=>aN r o
def names:List (Nat×Gp)->List Nat
 |[]=>[]
 |x::r=>x.1::names r
def joint(n:Nat)(c v:Shape)(x:c.den)(y:v.den):St:=
 {n:=n,tmps:=QF c.tmps x.1 (QF v.tmps y.1 (λ_=>.undef)),ah:=FC c.ah x.2 (FC v.ah y.2 (λ_=>none))}
def only(c v:Shape)(st:St):St:=st.freeze λo=>!(aN (names c.ah) o||aN (names v.ah) o)
def Shape.read(s:Shape)(st:St):Option s.den:=
 match Yp st s.tmps,Yq st s.ah with
 |some a,some b=>some (a,b)
 |_,_=>none
theorem Ko{X:V}(t:Nat)(u:Value)(hu:aP X (st.tmps t) u):∀(l:List (Nat×Es))(x:Yn l)(f:Nat->AV),Yp st l=some x->aP X (f t) u->aP X (QF l x f t) u
 |[],_,_,_,hf=>hf
 |s::r,x,f,hr,hf=>by
  rw[Yp]at hr;split at hr
  .next a b h1 h2=>
   cases hr;simp only[QF];cases hb:Nat.beq t s.1 with
   |true=>
    rw[aps hb]at hu;exact Es.weak s.2 _ a u h1 hu
   |false=>exact Ko t u hu r b f h2 hf
  .cases hr
theorem E8(o:Nat):∀(l:List (Nat×Gp))(x:Yo l)(f:Nat->Option ay),Yq st l=some x->
 (f o=none\/∃y y',st.ah o=some y/\f o=some y'/\EI y y')->
 ((FC l x f o=none/\aN (names l) o=false/\f o=none)\/∃y y',st.ah o=some y/\FC l x f o=some y'/\EI y y')
 |[],_,f,_,hf=>by
  rcases hf with e|h
  .exact .inl ⟨e,rfl,e⟩
  .exact .inr h
 |s::r,x,f,hr,hf=>by
  rw[Yq]at hr;split at hr
  .next y b h1 h2=>
   split at hr
   .next a h3=>
    cases hr;simp only[FC,names,aN];cases hb:Nat.beq o s.1 with
    |true=>
     rw[aps hb];exact .inr ⟨y,_,h1,rfl,Gp.weak s.2 y a h3⟩
    |false=>exact E8 o r b f h2 hf
   .cases hr
  .cases hr
theorem aeK{c v:Shape}{x:c.den}{y:v.den}(hc:c.read (only c v st)=some x)(hv:v.read (only c v st)=some y):Covers (joint st.n c v x y) (only c v st):=by
 unfold Shape.read at hc hv;split at hc
 .next a b h1 h2=>
  cases hc;split at hv
  .next a' b' h3 h4=>
   cases hv;refine⟨rfl,λt X u hu=>Ko t u hu _ _ _ h1 (Ko t u hu _ _ _ h3 trivial),λo=>?_⟩;rcases E8 o v.ah b' (λ_=>none) h4 (.inl rfl)with⟨e1,e2,_⟩|h
   .rcases E8 o c.ah b (FC v.ah b' (λ_=>none)) h2 (.inl e1)with⟨g1,g2,_⟩|h
    .refine .inl ⟨g1,?_⟩
     grind [only,St.freeze]
    .exact .inr h
   .rcases E8 o c.ah b (FC v.ah b' (λ_=>none)) h2 (.inr h)with⟨g1,g2,g3⟩|h'
    · grind
    .exact .inr h'
  .cases hv
 .cases hc
theorem Rel.joint(h:Rel w0 M T γ st a w){c v:Shape}{x:c.den}{y:v.den}(hc:c.read (only c v st)=some x)(hv:v.read (only c v st)=some y):
 Rel w0 M T γ (joint st.n c v x y) a w:=(h.freeze _).covers (aeK hc hv)
end Go.Fw
namespace Go.Fw
open Go
variable {P:Program} {w0:World} {M:Nat->Prop} {T:Ext} {γ γ':Nat->Value} {st:St} {a:Act} {w w':World}
def Cell.ren(f:Nat->Nat):Cell->Cell
 |.ref q=>.ref (f q)
 |c=>c
def SV.ren(f:Nat->Nat):SV->SV
 |.one c=>.one (c.ren f)
 |.agg cs=>.agg (cs.map (Cell.ren f))
def AV.ren(f:Nat->Nat):AV->AV
 |.undef=>.undef
 |.sv v=>.sv (v.ren f)
 |.kE vs=>.kE (vs.map (SV.ren f))
 |.dQ o off=>.dQ (f o) off
 |.kM o i off=>.kM (f o) i off
 |.win o i off=>.win (f o) i off
 |.mG r x off fr=>.mG r x off fr
 |.dI cs off=>.dI (cs.map (Cell.ren f)) off
 |.fn g caps=>.fn g (caps.map (List.map (Cell.ren f)))
def ay.ren(f:Nat->Nat):ay->ay
 |.var cs=>.var (cs.map (Cell.ren f))
 |.arr e r l fr=>.arr e r l fr
def wo(o p q:Nat):Nat:=match Nat.beq q o with|true=>p|false=>q
def St.ren(st:St)(o p:Nat):St:=
 {n:=st.n,tmps:=λt=>(st.tmps t).ren (wo o p),ah:=λq=>match Nat.beq q p with
  |true=>(st.ah o).map (ay.ren (wo o p))
  |false=>match Nat.beq q o with|true=>none|false=>(st.ah q).map (ay.ren (wo o p))}
structure V.nX(f:Nat->Nat)(X Y:V):Prop where
 n0:Y.n0<=X.n0
 foot:∀b,X.foot b->Y.foot b/\Y.w.heap[b]? =X.w.heap[b]?
 var:∀o cs,X.ah o=some (.var cs)->(∃cs',Y.ah (f o)=some (.var cs'))/\Y.γ (f o)=X.γ o
 arr:∀o e r l fr,X.ah o=some (.arr e r l fr)->(∃l' fr',Y.ah (f o)=some (.arr e r l' fr'))/\Y.γ (f o)=X.γ o
variable {f:Nat->Nat}
theorem V.nX.bI{X Y:V}(h:X.nX f Y)(fr:Bool)(b:Nat)(hb:X.bI fr b):Y.bI fr b/\Y.w.heap[b]? =X.w.heap[b]? :=
 ⟨⟨(h.foot b hb.1).1,λe=>apv h.n0 (hb.2 e)⟩,(h.foot b hb.1).2⟩
theorem aK.nX{X Y:V}(h:X.nX f Y):∀(c:Cell)(v:Value),aK X c v->aK Y (c.ren f) v
 |.int _ _,_,H|.bool _,_,H|.str _,_,H|.nil,_,H|.junk,_,H=>H
 |.sl e r l fr,v,H=>fM.mono (λb hb=>h.bI fr b hb) (.sl e r) v l H
 |.ref o,v,⟨⟨e,r,l,fr,hx⟩,hv,h1⟩=>by obtain⟨⟨l',fr',hy⟩,hγ⟩:=h.arr o e r l fr hx;exact⟨⟨e,r,l',fr',hy⟩,hv.trans hγ.symm,h1⟩
theorem ai.nX{X Y:V}(h:X.nX f Y):∀(cs:List Cell)(vs:List Value),ai X cs vs->ai Y (cs.map (Cell.ren f)) vs
 |[],[],H=>H
 |c::cs,v::vs,⟨h1,h2⟩=>⟨aK.nX h c v h1,ai.nX h cs vs h2⟩
 |[],_::_,H|_::_,[],H=>by cases H
theorem dm.nX{X Y:V}(h:X.nX f Y):∀(c:SV)(v:Value),dm X c v->dm Y (c.ren f) v
 |.one c,v,H=>aK.nX h c v H
 |.agg cs,_,⟨vs,hv,H⟩=>⟨vs,hv,ai.nX h cs _ H⟩
theorem dw.nX{X Y:V}(h:X.nX f Y):∀(cs:List SV)(vs:List Value),dw X cs vs->dw Y (cs.map (SV.ren f)) vs
 |[],[],H=>H
 |c::cs,v::vs,⟨h1,h2⟩=>⟨dm.nX h c v h1,dw.nX h cs vs h2⟩
 |[],_::_,H|_::_,[],H=>by cases H
theorem eH.nX{X Y:V}(h:X.nX f Y){cs:List Cell}{b:Nat}(H:eH X cs b):eH Y (cs.map (Cell.ren f)) b:=by obtain⟨arr,t,fz,hb,hh,hr⟩:=H;exact⟨arr,t,fz,(h.foot b hb).1,(h.foot b hb).2.trans hh,ai.nX h cs _ hr⟩
theorem dL.nX{X Y:V}(h:X.nX f Y):∀(l:List (List Cell))(us:List Value),dL X l us->dL Y (l.map (List.map (Cell.ren f))) us
 |[],[],H=>H
 |cs::l,u::us,⟨⟨b,hu,hk⟩,h2⟩=>⟨⟨b,hu,eH.nX h hk⟩,dL.nX h l us h2⟩
 |[],_::_,H|_::_,[],H=>by cases H
theorem aP.nX{X Y:V}(h:X.nX f Y):∀(c:AV)(v:Value),aP X c v->aP Y (c.ren f) v
 |.undef,_,_=>trivial
 |.sv x,v,H=>dm.nX h x v H
 |.kE xs,_,⟨vs,hv,H⟩=>⟨vs,hv,dw.nX h xs _ H⟩
 |.dQ o off,v,⟨b,cs,hx,hγ,hv⟩=>by
  obtain⟨⟨cs',hy⟩,he⟩:=h.var o cs hx;exact⟨b,cs',hy,he.trans hγ,hv⟩
 |.kM o i off,v,⟨b,n,cap,e,r,l,fr,hx,hγ,hv⟩=>by
  obtain⟨⟨l',fr',hy⟩,he⟩:=h.arr o e r l fr hx;exact⟨b,n,cap,e,r,l',fr',hy,he.trans hγ,hv⟩
 |.win o i off,v,⟨b,n,cap,e,r,l,fr,hx,hγ,hv⟩=>by
  obtain⟨⟨l',fr',hy⟩,he⟩:=h.arr o e r l fr hx;exact⟨b,n,cap,e,r,l',fr',hy,he.trans hγ,hv⟩
 |.mG r x off fr,v,⟨b,base,cs,t,fz,hv,hf,hb,hr⟩=>
  ⟨b,base,cs,t,fz,hv,(h.bI fr b hf).1,(h.bI fr b hf).2.trans hb,aZ.mono (λb hb=>h.bI fr b hb) r _ x hr⟩
 |.dI cs off,v,⟨b,hv,hk⟩=>⟨b,hv,eH.nX h hk⟩
 |.fn g caps,v,⟨us,hv,hk⟩=>⟨us,hv,dL.nX h caps _ hk⟩
theorem bg.nX{X Y:V}(h:X.nX f Y)(o p:Nat):∀(x:ay),(∀b,blk (X.γ o)=some b->Y.w.heap[b]? =X.w.heap[b]?)->Y.γ p=X.γ o->bg X o x->bg Y p (x.ren f)
 |.var cs,hb,hγ,⟨b,arr,t,e,hh,hr⟩=>⟨b,arr,t,hγ.trans e,(hb b (by rw[e];rfl)).trans hh,ai.nX h cs _ hr⟩
 |.arr e r l fr,hb,hγ,⟨xs,hown,hr,hf,hx⟩=>by
  refine⟨xs,?_,hr,λb hb' hfr=>apv h.n0 (hf b (hγ▸hb') hfr),λi x hi=>aZ.mono (λb hb=>h.bI fr b hb) r _ x (hx i x hi)⟩;obtain⟨h1,h2⟩:=hown;refine⟨h1,?_⟩;rcases h2 with h2|⟨g,cap,cur,hv,hg,hh,hrest⟩
  · grind
  .exact .inr ⟨g,cap,cur,hγ.trans hv,hg,(hb g (by rw[hv];rfl)).trans hh,hrest⟩
theorem agA(o p:Nat):wo o p o=p:=by unfold wo;simp_all
theorem Nu{o p q:Nat}(h:q≠o):wo o p q=q:=by grind [wo,Fz]
theorem Rel.ren(h:Rel w0 M T γ st a w){o p:Nat}{e:TypeId}{r:ak}{l:List r.den}{fr:Bool}(ho:st.ah o=some (.arr e r l fr))(hp:st.ah p=none):
 Rel w0 M T (λq=>match Nat.beq q p with|true=>γ o|false=>γ q) (st.ren o p) a w:=by
 have old:∀q x,(st.ren o p).ah q=some x->∃q0 x0,st.ah q0=some x0/\x=x0.ren (wo o p)/\q=wo o p q0/\(match Nat.beq q p with|true=>γ o|false=>γ q)=γ q0:=by
  intro q x hx;simp only[St.ren]at hx;cases hqp:Nat.beq q p with
  |true=>
   grind [agA,Nat.eq_of_beq_eq_true]
  |false=>
   cases hqo:Nat.beq q o with
   |true=>grind
   |false=>
    cases hs:st.ah q with
    |none=>grind
    |some x0=>
     grind [Nu,Nat.beq_refl]
 have new:∀q x,st.ah q=some x->(st.ren o p).ah (wo o p q)=some (x.ren (wo o p))/\(match Nat.beq (wo o p q) p with|true=>γ o|false=>γ (wo o p q))=γ q:=by
  grind [agA,Nat.beq_refl,St.ren,Nu,Fz]
 have le:V.nX (wo o p) (aj w0 T γ st w) ⟨w,w0.heap.size,T,λq=>match Nat.beq q p with|true=>γ o|false=>γ q,(st.ren o p).ah⟩:=by
  refine⟨apz _,λb hb=>⟨⟨hb.1,hb.2.1,λq x hx=>?_⟩,rfl⟩,λq cs hx=>?_,λq e' r' l' fr' hx=>?_⟩
  .obtain⟨q0,x0,h1,_,_,h4⟩:=old q x hx;show blk (match Nat.beq q p with|true=>γ o|false=>γ q)≠some b;rw[h4];exact hb.2.2 q0 x0 h1
  .obtain⟨h1,h2⟩:=new q _ hx;exact⟨⟨_,h1⟩,h2⟩
  .obtain⟨h1,h2⟩:=new q _ hx;exact⟨⟨_,_,h1⟩,h2⟩
 refine⟨h.mT,h.defers,h.size,h.os,h.tape,h.output,h.grow,h.kept,λt=>aP.nX le _ _ (h.tmps t),λq x hx=>?_,λq x b hx hb=>?_,λq x q' y b hx hy hne hb=>?_,λq v cs hN hx=>?_⟩
 .obtain⟨q0,x0,h1,rfl,h3,h4⟩:=old q x hx;exact bg.nX le q0 q x0 (λ_ _=>rfl) h4 (h.ah q0 x0 h1)
 .obtain⟨q0,x0,h1,_,_,h4⟩:=old q x hx;exact h.lt q0 x0 b h1 (h4▸hb)
 .obtain⟨q0,x0,h1,_,h3,h4⟩:=old q x hx;obtain⟨q1,x1,g1,_,g3,g4⟩:=old q' y hy;rw[h4]at hb;rw[g4];refine h.sep q0 x0 q1 x1 b h1 g1 (λe=>hne ?_) hb;rw[h3,g3,e]
 .obtain⟨q0,x0,h1,h2,h3,h4⟩:=old q _ hx;cases x0 with
  |arr _ _ _ _=>cases h2
  |var cs0=>
   have:q0≠o:=λe=>by grind
   rw[Nu this]at h3;subst h3;rw[h4];exact h.pin q v cs0 hN h1
theorem Rel.aml(h:Rel w0 M T γ st a w){o:Nat}{cs cs':List Cell}(ho:st.ah o=some (.var cs))(hc:∀vs,ai (aj w0 T γ st w) cs vs->ai (aj w0 T γ st w) cs' vs):
 Rel w0 M T γ (st.add o (.var cs')) a w:=by
 have hother:∀p,p≠o->(st.add o (.var cs')).ah p=st.ah p:=λp hp=>kS st _ hp;have hsome:∀p y,(st.add o (.var cs')).ah p=some y->∃z,st.ah p=some z:=by
  grind
 have le:(aj w0 T γ st w).le ⟨w,w0.heap.size,T,γ,(st.add o (.var cs')).ah⟩:=by
  refine⟨apz _,λc hb=>⟨⟨hb.1,hb.2.1,λp y hp=>?_⟩,rfl⟩,λp ds hp=>⟨?_,rfl⟩,λp e r l fr hp=>⟨?_,rfl⟩⟩
  .obtain⟨z,hz⟩:=hsome p y hp;exact hb.2.2 p z hz
  · grind [add_same]
  grind
 refine⟨h.mT,h.defers,h.size,h.os,h.tape,h.output,h.grow,h.kept,λt=>aP.mono le _ _ (h.tmps t),λp y hp=>?_,λp y c hp hb=>?_,λp y q z c hp hq hpq hb=>?_,λp v ds hN hp=>?_⟩
 .by_cases e:p=o
  .subst e;rw[add_same]at hp;cases hp;obtain⟨b,arr,t,g1,g2,g3⟩:=h.ah p _ ho;exact⟨b,arr,t,g1,g2,ai.mono le _ _ (hc _ g3)⟩
  .rw[hother p e]at hp;exact bg.mono le p y (λ_ _=>rfl) rfl (h.ah p y hp)
 .obtain⟨z,hz⟩:=hsome p y hp;exact h.lt p z c hz hb
 .obtain⟨z1,hz1⟩:=hsome p y hp;obtain⟨z2,hz2⟩:=hsome q z hq;exact h.sep p z1 q z2 c hz1 hz2 hpq hb
 .by_cases e:p=o
  .subst e;exact h.pin p v cs hN ho
  .rw[hother p e]at hp;exact h.pin p v ds hN hp
inductive Place where
 |slot (t k:Nat)
 |obj (o k:Nat)
def cellAt(st:St):Place->Option Cell
 |.slot t k=>match st.tmps t with|.sv v=>v.cells[k]? |_=>none
 |.obj o k=>match st.ah o with|some (.var cs)=>cs[k]? |_=>none
def SV.put(k:Nat)(c:Cell):SV->SV
 |.one _=>.one c
 |.agg cs=>.agg (cs.set k c)
def setCell(st:St)(c:Cell):Place->St
 |.slot t k=>match st.tmps t with|.sv v=>st.set t (.sv (v.put k c))|_=>st
 |.obj o k=>match st.ah o with|some (.var cs)=>st.add o (.var (cs.set k c))|_=>st
abbrev QG:=Place×Nat×TypeId×ak×Bool
def settle(st:St)(x:QG):Option St:=
 match cellAt st x.1 with
 |some (.ref o)=>match Nat.beq o x.2.1 with
  |true=>some st
  |false=>match (st.kill (Nat.beq x.2.1 ·)).ah o with
   |some (.arr _ _ _ _)=>some ((st.kill (Nat.beq x.2.1 ·)).ren o x.2.1)
   |_=>none
 |some .nil=>match Nat.ble 1 x.2.2.2.1.len,cellAt ((st.kill (Nat.beq x.2.1 ·)).add x.2.1 (.arr x.2.2.1 x.2.2.2.1 [] x.2.2.2.2)) x.1 with
  |true,some .nil=>some (setCell ((st.kill (Nat.beq x.2.1 ·)).add x.2.1 (.arr x.2.2.1 x.2.2.2.1 [] x.2.2.2.2)) (.ref x.2.1) x.1)
  |_,_=>none
 |_=>none
def settles(st:St):List QG->Option St
 |[]=>some st
 |x::l=>match settle st x with
  |some s=>settles s l
  |none=>none
theorem ai.set{X:V}:∀(cs:List Cell)(vs:List Value)(k:Nat)(c:Cell),(∀v,aK X .nil v->aK X c v)->cs[k]? =some .nil->ai X cs vs->ai X (cs.set k c) vs
 |[],_,_,_,_,h,_=>by simp at h
 |x::cs,v::vs,0,c,hc,h,⟨h1,h2⟩=>by simp at h;subst h;exact⟨hc v h1,h2⟩
 |x::cs,v::vs,k+1,c,hc,h,⟨h1,h2⟩=>⟨h1,ai.set cs vs k c hc (by simpa using h) h2⟩
 |_::_,[],_,_,_,_,H=>by cases H
theorem Rel.setCell(h:Rel w0 M T γ st a w){c:Cell}{pl:Place}(hn:cellAt st pl=some .nil)(hc:∀v,aK (aj w0 T γ st w) .nil v->aK (aj w0 T γ st w) c v):Rel w0 M T γ (setCell st c pl) a w:=by
 cases pl with
 |slot t k=>
  simp only[cellAt]at hn;simp only[Fw.setCell];split at hn
  .next v hv=>
   have hcov:aP (aj w0 T γ st w) (.sv (v.put k c)) (a.tmps.getD t undef):=by
    have h0:=h.tmps t;rw[hv]at h0;cases v with
    |one x=>
     have hx:x=.nil/\k=0:=by
      grind [SV.cells]
     obtain⟨rfl,rfl⟩:=hx;exact hc _ h0
    |agg cs=>obtain⟨vs,hvs,hr⟩:=h0;exact⟨vs,hvs,ai.set cs _ k c hc hn hr⟩
   refine⟨h.mT,h.defers,h.size,h.os,h.tape,h.output,h.grow,h.kept,λt'=>?_,h.ah,h.lt,h.sep,h.pin⟩;by_cases e':t'=t
   · grind [St.set,Nat.beq_refl]
   .simp only[St.set,Fz e'];exact h.tmps t'
  .cases hn
 |obj o k=>
  simp only[cellAt]at hn;simp only[Fw.setCell];split at hn
  .next cs hcs=>exact h.aml hcs λvs hvs=>ai.set cs vs k c hc hn hvs
  .cases hn
theorem Rel.alx(h:Rel w0 M T γ st a w){o:Nat}(ho:st.ah o=none)(e:TypeId)(r:ak)(fr:Bool)(hr:1<=r.len):
 Rel w0 M T (upd γ o (.slice none 0 0)) (st.add o (.arr e r [] fr)) a w:=by
 refine(h.grown (γ':=upd γ o (.slice none 0 0)) (w':=w) (st.add o (.arr e r [] fr)).ah
  (λp x hp=>by grind [kS])
  (λp x hp=>by rw[mg];grind)
  rfl rfl rfl (apz _) (λ_ _=>rfl)
  (λp x hp hn=>by
    by_cases e':p=o
    .subst e';rw[add_same]at hp;cases hp;refine⟨⟨[],⟨by simp,.inl ⟨upd_same _ _ _,rfl⟩⟩,hr,(λb hb=>by grind [blk,upd_same]),λi x hi=>by simp at hi⟩,λb hb=>by rw[upd_same]at hb;cases hb⟩
    grind [kS])
  (λp cs hp hn=>by
    grind [add_same,kS])
  (λp x q y b hp hpn hq hqn hpq hb=>by
    grind [kS])).1
theorem acL(st:St)(p:Nat):(st.kill (Nat.beq p ·)).ah p=none:=by simp[St.kill]
theorem Rel.settle(h:Rel w0 M T γ st a w){x:QG}{s:St}(hs:Fw.settle st x=some s):∃γ',Rel w0 M T γ' s a w:=by
 obtain⟨pl,p,e,r,fr⟩:=x;unfold Fw.settle at hs;split at hs
 .next o ho=>
  split at hs
  · grind
  .split at hs
   .next hk=>cases hs;exact⟨_,(h.kill _).ren hk (acL st p)⟩
   .cases hs
 .next ho=>
  split at hs
  .next hr hn=>cases hs;have hR:=(h.kill (Nat.beq p ·)).alx (acL st p) e r fr (by simp_all);refine⟨_,hR.setCell hn λv hv=>?_⟩;subst hv;exact⟨⟨e,r,[],fr,add_same _ _ _⟩,(upd_same _ _ _).symm,rfl⟩
  .cases hs
 .cases hs
theorem Rel.settles:∀(l:List QG){γ:Nat->Value}{st s:St}(_:Rel w0 M T γ st a w)(_:Fw.settles st l=some s),∃γ',Rel w0 M T γ' s a w
 |[],γ,st,s,h,hs=>by cases hs;grind
 |x::l,γ,st,s,h,hs=>by
  rw[Fw.settles]at hs;split at hs
  .next s1 h1=>obtain⟨γ1,hR⟩:=h.settle h1;exact Rel.settles l hR hs
  .cases hs
end Go.Fw
namespace Go.Fw
open Go
variable {P:Program} {w0:World} {M:Nat->Prop} {T:Ext} {γ γ':Nat->Value} {st s:St} {a:Act} {w w':World} {Θ:gI} {Γ:iT}
def Bo(Θ:gI)(st:St)(o:Op):Option (Prop×Nat×ay):=match o with
 |.call {callee:=.builtin .append,args,argTypes}=>match args.toList,argTypes.toList with
  |[s,x],[t,u]=>match Nat.beq t u,Θ t,st.ev s,st.ev x with
   |true,some ti,.sv (.one (.ref o)),.sv (.one y)=>match ti.kind with
    |.slice e=>match Θ e with
     |some te=>match y.get st (.sl e te.cells)with
      |some news=>match st.ah o with
       |some (.arr f r l fr)=>if h:te.cells.beq r=true then
         match Nat.beq e f with
         |true=>some (l.length+news.length<=big,o,.arr e r (l++pW h news) (fr&&y.rQ te.cells st))
         |false=>none
        else none
       |_=>none
      |none=>none
     |none=>none
    |_=>none
   |_,_,_,_=>none
  |_,_=>none
 |_=>none
theorem aiu(h:st.more s){e:TypeId}{r:ak}{y:Cell}{news:List r.den}(hg:y.get st (.sl e r)=some news):y.fresh s=y.fresh st:=by
 cases y<;>try rfl
 case ref o=>
  simp only[Cell.get]at hg;split at hg
  .next e' r' l fr ho=>simp only[Cell.fresh];rw[h.ah o _ ho,ho]
  .cases hg
theorem ahn(h:st.more s){e:TypeId}{r:ak}{y:Cell}{news:List r.den}(hg:y.get st (.sl e r)=some news):y.rQ r s=y.rQ r st:=by
 grind [Cell.rQ,aiu]
theorem af8(h:st.more s){o:Op}{x:Prop×Nat×ay}(hc:Bo Θ st o=some x):Bo Θ s o=some x:=by
 unfold Bo at hc;split at hc
 case h_2=>cases hc
 next args mr=>
 split at hc
 case h_2=>cases hc
 next s1 x1 t u hargs aa2=>
 split at hc
 case h_2=>cases hc
 next ti o y hb ht hs hx=>
 split at hc
 case h_2=>cases hc
 next e hk=>
 split at hc
 case h_2=>cases hc
 next te hte=>
 split at hc
 case h_2=>cases hc
 next news hnews=>
 split at hc
 case h_2=>cases hc
 next f r l fr ho=>
 split at hc
 case isFalse=>cases hc
 next hbr=>
 split at hc
 case h_2=>cases hc
 next hef=>
 cases hc;have h1:=bC h hs (by simp);have h2:=bC h hx (by simp);unfold Bo;simp only[hargs,aa2,hb,ht,h1,h2,hk,hte,Wj h _ _ _ hnews,h.ah o _ ho,hbr,hef,dif_pos,ahn h hnews]
theorem aho{o:Op}{p:Prop}{q:Nat}{x:ay}(d:Nat)(hc:Bo Θ st o=some (p,q,x)):
 eff Θ Γ d st o=some (p,.sv (.one (.ref q)),(st.kill (Nat.beq q ·)).add q x)/\(∃e r l fr,x=.arr e r l fr)/\∃e r l fr,st.ah q=some (.arr e r l fr):=by
 unfold Bo at hc;split at hc
 case h_2=>cases hc
 next args mr=>
 split at hc
 case h_2=>cases hc
 next s1 x1 t u hargs aa2=>
 split at hc
 case h_2=>cases hc
 next ti o y hb ht hs hx=>
 split at hc
 case h_2=>cases hc
 next e hk=>
 split at hc
 case h_2=>cases hc
 next te hte=>
 split at hc
 case h_2=>cases hc
 next news hnews=>
 split at hc
 case h_2=>cases hc
 next f r l fr ho=>
 split at hc
 case isFalse=>cases hc
 grind [eff]
theorem Cell.wu{S:Nat->Bool}{f:Nat->Nat}(h:∀o,S o=false->f o=o):∀(c:Cell),(c.kill S).ren f=c.kill S
 |.int _ _|.bool _|.str _|.nil|.sl _ _ _ _|.junk=>rfl
 |.ref o=>by
  grind [Cell.kill,Cell.ren]
theorem Ad{S:Nat->Bool}{f:Nat->Nat}(h:∀o,S o=false->f o=o)(cs:List Cell):(cs.map (Cell.kill S)).map (Cell.ren f)=cs.map (Cell.kill S):=by
 grind [List.map_congr_left,Cell.wu]
theorem SV.wu{S:Nat->Bool}{f:Nat->Nat}(h:∀o,S o=false->f o=o):∀(c:SV),(c.kill S).ren f=c.kill S
 |.one c=>by grind [SV.kill,SV.ren,Cell.wu]
 |.agg cs=>by grind [SV.kill,SV.ren,Ad]
theorem AV.wu{S:Nat->Bool}{f:Nat->Nat}(h:∀o,S o=false->f o=o):∀(c:AV),(c.kill S).ren f=c.kill S
 |.undef=>rfl
 |.sv v=>by grind [AV.kill,AV.ren,SV.wu]
 |.kE vs=>by
  grind [AV.kill,AV.ren,List.map_congr_left,SV.wu]
 |.dQ o off=>by
  grind [AV.kill,AV.ren]
 |.kM o i off=>by
  grind [AV.kill,AV.ren]
 |.win o i off=>by
  grind [AV.kill,AV.ren]
 |.mG _ _ _ _=>rfl
 |.dI cs off=>by grind [AV.kill,AV.ren,Ad]
 |.fn g caps=>by
  grind [AV.kill,AV.ren,List.map_congr_left,Ad]
theorem ay.wu{S:Nat->Bool}{f:Nat->Nat}(h:∀o,S o=false->f o=o):∀(c:ay),(c.kill S).ren f=c.kill S
 |.var cs=>by grind [ay.kill,ay.ren,Ad]
 |.arr _ _ _ _=>rfl
theorem aiv{G:iP}(hE:oG P G Θ Γ w0 M)(h:Rel w0 M T γ st a w)(o:Oper){p:Prop}{n q:Nat}{x:ay}
 (hc:Bo Θ st o.op=some (p,q,x)) (hp:p) (hn0:st.ah n=none) {next:Act->World->Prop} {Q:Exit->Act->World->Prop}
 (hn:∀u γ' w',Rel w0 M T γ' ((st.kill (Nat.beq q ·)).add n x) a w'->aP (aj w0 T γ' ((st.kill (Nat.beq q ·)).add n x) w') (.sv (.one (.ref n))) u->next (a.put o.dst u) w'):o.wp P a w next Q:=by
 obtain⟨he,⟨e,r,l,fr,rfl⟩,⟨e',r',l',fr',hq⟩⟩:=aho (Γ:=Γ) 0 hc;have hnq:n≠q:=λe=>by grind
 have hqn:∀t,Nat.beq q t=false->wo q n t=t:=λt ht=>Nu λe=>by simp_all
 refine acI hE h o he hp λu γ1 w1 hR hv=>?_;have hS:(((st.kill (Nat.beq q ·)).add q (.arr e r l fr)).ren q n)=(st.kill (Nat.beq q ·)).add n (.arr e r l fr):=by
  simp only[St.ren,St.add,St.kill,St.mk.injEq,ari];refine⟨funext λt=>AV.wu hqn _,funext λt=>?_⟩;cases hb:Nat.beq t n with
  |true=>simp[aqs,ay.ren]
  |false=>
   cases hb2:Nat.beq t q with
   |true=>
    simp_all
   |false=>
    have hb3:Nat.beq q t=false:=by
     grind [Nat.eq_of_beq_eq_true]
    simp only[hb3];cases st.ah t with
    |none=>rfl
    |some y=>grind [ay.wu]
 have aly:=hR.ren (o:=q) (p:=n) (e:=e) (r:=r) (l:=l) (fr:=fr) (by simp[St.add,aqs]) (by simp only[St.add,St.kill,Fz hnq,hn0,aqI];cases Nat.beq q n<;>rfl);rw[hS]at aly;refine hn u _ _ aly ?_;obtain⟨_,h2,h3⟩:aK _ (.ref q) u:=hv;have vZ:((st.kill (Nat.beq q ·)).add n (.arr e r l fr)).ah n=some (.arr e r l fr):=by simp[St.add,aqs]
 have hval:u=(match Nat.beq n n with|true=>γ1 q|false=>γ1 n):=by simp_all
 exact⟨⟨e,r,l,fr,vZ⟩,hval,h3⟩
end Go.Fw
