import Derived.Test.YtlmamafnoigopaaGreatDoorFwA
import Derived.Lib.SliceRun
import Derived.WalkSpells
namespace Go.Fw
open Go
variable {P:Program} {w0:World} {M:Nat->Prop} {T:Ext} {γ γ':Nat->Value} {st:St} {a:Act} {w w':World} {Θ:gY} {Γ:je}
theorem ZY{α:Type}{l:List α}{lo:Nat}{news:List α}(h:lo+news.length<=l.length):(qc l lo news).length=l.length:=by
 grind [qc]
theorem agA{α:Type}{l:List α}{lo:Nat}{news:List α}(h:lo+news.length<=l.length)(k:Nat):
 (qc l lo news)[k]? =if k<lo then l[k]? else if k<lo+news.length then news[k-lo]? else l[k]? :=by
 grind [qc]
theorem Rel.rows(h:Rel w0 M T γ st a w){o:Nat}{e:TypeId}{r:ak}{l:List r.den}{fr:Bool}(ho:st.ah o=some (.arr e r l fr)){b m cap:Nat}(hγ:γ o=.slice (some ⟨b,0,none⟩) m cap){cur:Array Value}(hb:w.heap[b]? =some (.cells cur e (0,0)))
 {lo:Nat} {news:List r.den} {ns:List Value} (hnl:ns.length=news.length*r.len) (hle:lo+news.length<=l.length)
 (hrows:∀i x,news[i]? =some x->aZ w.heap ((aj w0 T γ st w).bP fr) r ((ns.drop (i*r.len)).take r.len) x):
 Rel w0 M T γ (st.add o (.arr e r (qc l lo news) fr)) a (w.setRow b (cur.toList.take (lo*r.len)++ns++cur.toList.drop (lo*r.len+ns.length)).toArray):=by
 obtain⟨xs,⟨h1,h2⟩,hpos,hfr,hrow⟩:=h.ah o _ ho;rcases h2 with⟨hnil,_⟩|⟨g,cap',cur',hg,_,hh,hlc,hmax,hsz,htake⟩
 · grind
 .have zY:γ o=.slice (some ⟨g,0,none⟩) l.length cap':=hg;rw[hγ]at zY;simp at zY;obtain⟨rfl,hn,hcap⟩:=zY;have hcur:cur'=cur:=by
   grind
  subst hcur;have asn:lo*r.len+news.length*r.len<=l.length*r.len:=by rw[← at1];exact atf _ hle
  have apc:l.length*r.len<=cap'*r.len:=atf _ hlc;have e1:cur'.toList.length=cur'.size:=atW;refine h.write (x':=.arr e r (qc l lo news) fr) ho (by rw[hγ];rfl) ⟨rfl,rfl⟩ _ (λle=>?_);have hnew:∀k,(cur'.toList.take (lo*r.len)++ns++cur'.toList.drop (lo*r.len+ns.length))[k]? =if k<lo*r.len then cur'.toList[k]? else if k<lo*r.len+ns.length then ns[k-lo*r.len]? else cur'.toList[k]? :=λk=>ac0 _ _ _ k (by omega)
  have apd:(cur'.toList.take (lo*r.len)++ns++cur'.toList.drop (lo*r.len+ns.length)).length=cur'.size:=by
   grind
  generalize hnd:cur'.toList.take (lo*r.len)++ns++cur'.toList.drop (lo*r.len+ns.length)=new at hnew apd le ⊢;have hol:=ZY hle;refine⟨new.take (l.length*r.len),⟨?_,.inr ⟨b,cap,new.toArray,?_,atl _,SH hh,?_,?_,?_,?_⟩⟩,hpos,?_,?_⟩
  · grind
  · grind
  .rw[hol];omega
  .omega
  · grind
  · grind
  .omega
  .intro i x hi;have hlt:i<l.length:=by
    grind
   have hmul:i*r.len+r.len<=l.length*r.len:=by
    have:(i+1)*r.len<=l.length*r.len:=atf _ hlt
    grind
   rw[fH _ _ _ _ hmul];rw[agA hle]at hi;have old:∀y,l[i]? =some y->(∀k,k<r.len->new[i*r.len+k]? =cur'.toList[i*r.len+k]?)->aZ (w.setRow b new.toArray).heap (V.bP ⟨w.setRow b new.toArray,w0.heap.size,T.S,γ,(st.add o (.arr e r (qc l lo news) fr)).ah⟩ fr) r ((new.drop (i*r.len)).take r.len) y:=by
    intro y hy hk;have hR:=hrow i y hy;have:(new.drop (i*r.len)).take r.len=(xs.drop (i*r.len)).take r.len:=by
     rw[← htake,fH _ _ _ _ hmul];apply aua
     grind
    rw[this];exact aZ.mono (λc hc=>le.bP _ c hc) _ _ y hR
   split at hi
   .next hlo=>
    refine old x hi λk hk=>?_;rw[hnew];have:i*r.len+r.len<=lo*r.len:=by
     have:(i+1)*r.len<=lo*r.len:=atf _ hlo
     grind
    grind
   .next hlo=>
    split at hi
    .next hhi=>
     have hR:=hrows _ x hi;have e2:i*r.len=lo*r.len+(i-lo)*r.len:=by rw[← at1];congr 1;omega
     have hm3:(i-lo)*r.len+r.len<=news.length*r.len:=by have:(i-lo+1)*r.len<=news.length*r.len:=atf _ (by omega);rw[at1]at this;simpa using this
     have:(new.drop (i*r.len)).take r.len=(ns.drop ((i-lo)*r.len)).take r.len:=by
      apply aua;intro k;rw[atJ,atJ,atN,atN];by_cases hkr:k<r.len
      .rw[if_pos hkr,if_pos hkr,hnew,if_neg (by omega),if_pos (by omega)];congr 1;omega
      .rw[if_neg hkr,if_neg hkr]
     rw[this];exact aZ.mono (λc hc=>le.bP _ c hc) _ _ x hR
    .next hhi=>
     refine old x hi λk hk=>?_;rw[hnew];have:lo*r.len+news.length*r.len<=i*r.len:=by rw[← at1];exact atf _ (by omega)
     rw[if_neg (by omega),if_neg (by omega)]
theorem Jo{α:Type}(l:List α)(lo:Nat):qc l lo []=l:=by
 unfold qc
 simp_all
theorem XV{o:Nat}{x:aB}(h:st.ah o=some x):st.add o x=st:=by
 simp only[St.add]at h ⊢;congr 1
 grind [Nat.eq_of_beq_eq_true]
theorem aeF(h:Rel w0 M T γ st a w){o:Nat}{e:TypeId}{r:ak}{l:List r.den}{fr:Bool}(ho:st.ah o=some (.arr e r l fr)){b m cap:Nat}(hγ:γ o=.slice (some ⟨b,0,none⟩) m cap):
 ∃cur:Array Value,w.heap[b]? =some (.cells cur e (0,0))/\cur.size=cap*r.len/\0<r.len/\cap<=maxLen/\l.length<=cap/\
  ∀i x,l[i]? =some x->aZ w.heap ((aj w0 T γ st w).bP fr) r ((cur.toList.drop (i*r.len)).take r.len) x:=by
 obtain⟨xs,⟨h1,h2⟩,hpos,hfr,hrow⟩:=h.ah o _ ho;rcases h2 with⟨hnil,_⟩|⟨g,cap',cur',hg,_,hh,hlc,hmax,hsz,htake⟩
 · grind
 .have zY:γ o=.slice (some ⟨g,0,none⟩) l.length cap':=hg;rw[hγ]at zY;obtain⟨rfl,hn,rfl⟩:=zY;refine⟨cur',hh,hsz,hpos,hmax,hlc,λi x hi=>?_⟩;have hlt:i<l.length:=(ath.1 hi).1;have hmul:i*r.len+r.len<=l.length*r.len:=by
   have:(i+1)*r.len<=l.length*r.len:=atf _ hlt
   grind
  grind [fH]
theorem agB{h:Array Obj}{S:Nat->Prop}:∀(r:ak)(vs:List Value)(x:r.den),aZ h S r vs x->∀v∈vs,v.oneCell'=true
 |.nil,vs,_,H,v,hv=>by grind [aZ]
 |.cons c r,vs,(x,y),H,v,hv=>by
  obtain⟨u,vs',rfl,h1,h2⟩:=H;rcases atw.1 hv with rfl|hv
  .cases c with
   |int k=>rw[h1.1];rfl
   |bool=>rw[show _=_ from h1];rfl
   |str=>rw[h1.1];rfl
   |sl e s=>rcases h1.2 with⟨_,a,c,hv⟩|⟨b,off,cap,cs,t,fz,hv,_⟩<;>rw[hv]<;>rfl
  .exact agB r vs' y h2 v hv
theorem aeG{h:Array Obj}{S:Nat->Prop}{r:ak}(hpos:0<r.len){news:List r.den}{ns:List Value}(hnl:ns.length=news.length*r.len)(hrows:∀i x,news[i]? =some x->aZ h S r ((ns.drop (i*r.len)).take r.len) x):∀u∈ns,u.oneCell'=true:=by
 intro u hu;obtain⟨j,hj⟩:=auu hu;have hil:j / r.len<news.length:=Nat.div_lt_of_lt_mul (by grind);have hR:=hrows (j / r.len) _ (as5 hil);refine agB _ _ _ hR u ?_;have hdm:=Nat.div_add_mod j r.len;have hml:=au7 j hpos;refine atB (i:=j%r.len) ?_
 grind
theorem VJ(hΘ:∀t ti,Θ t=some ti->jS P t ti)(h:Rel w0 M T γ st a w){t ty:TypeId}{ti:TI}(ht:Θ t=some ti){sx x:Operand}{o Ec n0 o2 lo2 n2:Nat}(e1:st.ev sx=.win o Ec n0)(e2:st.ev x=.win o2 lo2 n2)
 {p:Prop} {v:AV} {s:St} (hc:Sm Θ st ti o Ec n0 o2 lo2 n2=some (p,v,s)) (hp:p):
 ∃u w',(Builtin.append_ #[t,t] ty #[a.eval sx,a.eval x]).run P w=.ok u w'/\Rel w0 M T γ s a w'/\aQ (aj w0 T γ s w') v u:=by
 unfold Sm at hc;split at hc
 .next e f r l fr hb hk ho=>
  rw[as1]at hb;have hlo0:=asX hb.1;have hoo:=asX hb.2;subst hlo0 hoo;split at hc
  .next te he=>
   split at hc
   .next hbe=>
    rw[as1]at hbe;have hef:=asX hbe.2;have hte:=ak.eq_of_beq _ _ hbe.1;cases hc;subst hef;obtain⟨hp1,hp2⟩:=hp;obtain⟨g,m,cap,e',r',l',fr',hx,hγ,⟨q,hq,hv,hle⟩⟩:=SG h e1;rw[ho]at hx;cases hx;obtain⟨g2,m2,cap2,e'',r'',l'',asy,hx2,zY,⟨q2,hq2,hv2,hle2⟩⟩:=SG h e2;rw[hγ]at zY;simp at zY;obtain⟨rfl,rfl,rfl⟩:=zY;rw[ho]at hx2;cases hx2;obtain⟨cur,hh,hsz,hpos,hmax,hlc,hrow⟩:=aeF h ho hγ;obtain⟨i,z,hi,hisz,hby,hz,hzv,_⟩:=(hΘ e te he).info;have hu:=(hΘ t ti ht).und;rw[hk]at hu;rw[hte]at hisz;by_cases hn2:n2=0
    .subst hn2;refine⟨.slice (some ⟨g,q,none⟩) n0 (cap-0),w,?_,?_,?_⟩
     .rw[hv,hv2];have hnc:n0<=cap:=by omega
      rw[Nat.sub_zero];simp[Builtin.append_,ato hu.1 w,sizeOf,typeInfo,hi,Builtin.lenOf,Builtin.firstCells,hnc,storeCells,loadCells,loadCellsFrom]
     · grind [Jo,XV]
     .have:qc l n0 ((l.drop lo2).take 0)=l:=by grind [Jo]
      rw[this,XV ho];exact⟨g,m,cap,e,r,l,fr,ho,hγ,q,hq,rfl,by omega⟩
    .have hq0:q=0:=by omega
     have aqG:q2=lo2*r.len:=by omega
     subst hq0 aqG;have aso:((l.drop lo2).take n2).length=n2:=by grind
     let ns:List Value:=(cur.toList.drop (lo2*r.len)).take (n2*r.len)
     have ec:cur.toList.length=cur.size:=atW;have hm1:lo2*r.len+n2*r.len<=cap*r.len:=by rw[← at1];simp_all [atf]
     have hm0:n0*r.len+n2*r.len<=cap*r.len:=by rw[← at1];exact atf _ (by omega)
     have hnl:ns.length=n2*r.len:=by
      grind
     have hrows:∀i x,((l.drop lo2).take n2)[i]? =some x->aZ w.heap ((aj w0 T γ st w).bP fr) r ((ns.drop (i*r.len)).take r.len) x:=by
      intro i x hi;have hilt:i<n2:=by
       grind
      rw[atJ,if_pos hilt,atN]at hi;have hR:=hrow (lo2+i) x hi;have hmul:i*r.len+r.len<=n2*r.len:=by
       have:(i+1)*r.len<=n2*r.len:=atf _ hilt
       grind
      grind [fH,List.drop_drop,Nat.add_mul]
     have Iu:=aeG hpos (by grind) hrows;have hnews:∀j u,ns[j]? =some u->w.cell? ((⟨g,lo2*r.len,none⟩:Addr).add j)=some u:=by intro j u hj;rw[addr_add];exact OE hh _ j u hj
     have hroom:n0+n2<=cap:=by omega
     have hrun:=run_append_room (P:=P) (ty:=ty) (w:=w) t e i hu.1 hi g n0 cap cur hh ⟨g,lo2*r.len,none⟩ n2 (cap-lo2) ns (by grind) hnews Iu hroom (by grind);rw[hisz]at hrun;refine⟨_,_,by rw[hv,hv2];exact hrun,h.rows ho hγ hh (by grind) (by omega) hrows,?_⟩;exact⟨g,m,cap,e,r,_,fr,add_same _ _ _,hγ,0,.inl (by omega),rfl,by omega⟩
   .cases hc
  .cases hc
 .cases hc
theorem ac1{z:Array Value}{r:ak}(hz:z.toList=r.mJ)(hpos:0<r.len)(n:Nat):(Builtin.zeroCells z n).toList.length=n*r.len/\∀i,i<n->((Builtin.zeroCells z n).toList.drop (i*r.len)).take r.len=r.mJ:=by
 have hzs:z.size=r.len:=by grind [zG]
 have hlen:(Builtin.zeroCells z n).toList.length=n*r.len:=by simp[Builtin.zeroCells,hzs]
 refine⟨hlen,λi hi=>?_⟩;have hmul:i*r.len+r.len<=n*r.len:=by
  have:(i+1)*r.len<=n*r.len:=atf _ hi
  grind
 grind [List.ext_getElem,List.length_take,Nat.add_mul_mod_self_right,Nat.mod_eq_of_lt,Array.length_toList,Builtin.zeroCells]
theorem XW(hΘ:∀t ti,Θ t=some ti->jS P t ti)(h:Rel w0 M T γ st a w){t ty:TypeId}{ti:TI}(ht:Θ t=some ti){x:Operand}{o lo n:Nat}(e1:st.ev x=.win o lo n)
 {p:Prop} {v:AV} {s:St} (hc:XM Θ st ti o lo n=some (p,v,s)) (hp:p):
 ∃u w',(Builtin.clear_ #[t] ty #[a.eval x]).run P w=.ok u w'/\Rel w0 M T γ s a w'/\aQ (aj w0 T γ s w') v u:=by
 unfold XM at hc;split at hc
 .next e f r l fr hk ho=>
  split at hc
  .next te he=>
   split at hc
   .next hbe=>
    rw[as1]at hbe;have hef:=asX hbe.2;have hte:=ak.eq_of_beq _ _ hbe.1;cases hc;subst hef;obtain⟨g,m,cap,e',r',l',fr',hx,hγ,⟨q,hq,hv,hle⟩⟩:=SG h e1;rw[ho]at hx;cases hx;obtain⟨cur,hh,hsz,hpos,hmax,hlc,hrow⟩:=aeF h ho hγ;have hu:=(hΘ t ti ht).und;cases n with
    |zero=>
     refine⟨.tuple #[],w,?_,?_,⟨#[],rfl,trivial⟩⟩
     · simp_all [Builtin.clear_,ato]
     grind [Jo,XV]
    |succ k=>
     have hq0:q=lo*r.len:=by omega
     obtain⟨z,hz,hzv⟩:=Qo (P:=P) (w:=w) (hΘ e te he);rw[hte]at hzv;obtain⟨hnl,hzr⟩:=ac1 hzv hpos (k+1);have hm1:lo*r.len+(k+1)*r.len<=cap*r.len:=by rw[← at1];simp_all [atf]
     have hrl:(List.replicate (k+1) r.dflt).length=k+1:=aup;have hrows:∀i x,(List.replicate (k+1) r.dflt)[i]? =some x->aZ w.heap ((aj w0 T γ st w).bP fr) r (((Builtin.zeroCells z.cells (k+1)).toList.drop (i*r.len)).take r.len) x:=by
      grind [SB]
     have Iu:=aeG hpos (by grind) hrows;have hst:=run_storeCells_at P g (lo*r.len) e (Builtin.zeroCells z.cells (k+1)).toList 0 cur w hh (by omega) Iu;refine⟨.tuple #[],_,?_,h.rows ho hγ hh (by grind) (by omega) hrows,⟨#[],rfl,trivial⟩⟩
     simp_all [Builtin.clear_,ato]
   .cases hc
  .cases hc
 .cases hc
theorem Rel.update(h:Rel w0 M T γ st a w){K D:Nat->Bool}{H:Nat->Prop}{jX:Nat->Option aB}{γ2:Nat->Value}
 (hos:w'.os=w.os) (htape:w'.tape=w.tape) (hout:w'.output=w.output) (hsize:w.heap.size<=w'.heap.size)
 (hH:∀b,H b->∃o x,st.ah o=some x/\blk (γ o)=some b)
 (hheap:∀b,b<w.heap.size->¬H b->w'.heap[b]? =w.heap[b]?)
 (h1:∀p,D p=false->jX p=(st.kill K).ah p/\γ2 p=γ p)
 (h2:∀p x b,D p=false->K p=false->st.ah p=some x->blk (γ p)=some b->¬H b)
 (h3:∀p x,D p=true->jX p=some x->∀b,blk (γ2 p)=some b->b<w'.heap.size/\(w.heap.size<=b\/H b))
 (h3':V.lF K (aj w0 T γ st w) ⟨w',w0.heap.size,T,γ2,jX⟩->∀p x,D p=true->jX p=some x->bD ⟨w',w0.heap.size,T,γ2,jX⟩ p x)
 (h4:∀p q x y b,D p=true->D q=true->jX p=some x->jX q=some y->p≠q->blk (γ2 p)=some b->blk (γ2 q)≠some b)
 (h5:∀p cs,D p=true->K p=false->st.ah p=some (.var cs)->(∃cs',jX p=some (.var cs'))/\γ2 p=γ p)
 (h6:∀p e r l fr,D p=true->K p=false->st.ah p=some (.arr e r l fr)->(∃l' fr',jX p=some (.arr e r l' fr'))/\γ2 p=γ p)
 (h7:∀p cs,D p=true->jX p=some (.var cs)->(∃cs0,st.ah p=some (.var cs0)/\γ2 p=γ p)\/T.N p=none):
 Rel w0 M T γ2 {n:=st.n,tmps:=λt=>(st.tmps t).kill K,ah:=jX} a w'/\V.lF K (aj w0 T γ st w) ⟨w',w0.heap.size,T,γ2,jX⟩:=by
 have hHb:∀b,H b->b<w.heap.size/\(w0.heap.size<=b\/M b):=λb hb=>by obtain⟨o,x,ho,hγ⟩:=hH b hb;exact h.lt o x b ho hγ
 have Vs:∀b,(aj w0 T γ st w).foot b->¬H b:=λb hb hh=>by obtain⟨o,x,ho,hγ⟩:=hH b hh;exact hb.2.2 o x ho hγ
 have old:∀p x,D p=false->jX p=some x->∃y,st.ah p=some y/\x=y.kill K/\K p=false:=λp x hD hx=>by
  grind [tV]
 have le:V.lF K (aj w0 T γ st w) ⟨w',w0.heap.size,T,γ2,jX⟩:=by
  refine⟨as7 _,λb hb=>⟨⟨ati hb.1 hsize,hb.2.1,λo x hx e=>?_⟩,hheap b hb.1 (Vs b hb)⟩,λo cs hK ho=>?_,λo e r l fr hK ho=>?_⟩
  .cases hD:D o with
   |false=>
    obtain⟨y,hy,_,_⟩:=old o x hD hx;have e':blk (γ2 o)=some b:=e;rw[(h1 o hD).2]at e';exact hb.2.2 o y hy e'
   |true=>
    rcases(h3 o x hD hx b e).2 with h'|h'
    .have hlt:b<w.heap.size:=hb.1;omega
    grind
  .have ho':st.ah o=some (.var cs):=ho;cases hD:D o with
   |false=>
    refine⟨⟨cs.map (Cell.kill K),?_⟩,(h1 o hD).2⟩;show jX o=_;rw[(h1 o hD).1];exact lM K hK ho'
   |true=>grind
  .have ho':st.ah o=some (.arr e r l fr):=ho;cases hD:D o with
   |false=>
    refine⟨⟨l,fr,?_⟩,(h1 o hD).2⟩;show jX o=_;rw[(h1 o hD).1];exact lM K hK ho'
   |true=>grind
 refine⟨⟨h.mT,h.defers,h.size,hos.trans h.os,htape.trans h.tape,hout.trans h.output,as3 h.grow hsize,λb hb hM=>?_,λt=>aQ.lF le _ _ (h.tmps t),λo x hx=>?_,λo x b hx hb=>?_,λo x p y b hx hy hop hb=>?_,λo v cs hN hx=>?_⟩,le⟩
 .rw[hheap b (ati hb h.grow) λhh=>by
   grind]
  exact h.kept b hb hM
 .cases hD:D o with
  |false=>
   obtain⟨y,hy,rfl,hK⟩:=old o x hD hx;exact bD.lF le o y (λb hb=>hheap b (h.lt o y b hy hb).1 (h2 o y b hD hK hy hb)) (h1 o hD).2 (h.ah o y hy)
  |true=>grind
 .cases hD:D o with
  |false=>
   obtain⟨y,hy,rfl,hK⟩:=old o x hD hx;rw[(h1 o hD).2]at hb;have:=h.lt o y b hy hb
   grind
  |true=>have:=h3 o x hD hx b hb;exact⟨this.1,this.2.elim (λg=>.inl (as3 h.grow g)) λg=>(hHb b g).2⟩
 .cases hD:D o with
  |false=>
   obtain⟨y1,hy1,rfl,hK1⟩:=old o x hD hx;rw[(h1 o hD).2]at hb;have hbl:=h.lt o y1 b hy1 hb;cases hE:D p with
   |false=>
    obtain⟨y2,hy2,rfl,hK2⟩:=old p y hE hy;rw[(h1 p hE).2];exact h.sep o y1 p y2 b hy1 hy2 hop hb
   |true=>
    grind
  |true=>
   cases hE:D p with
   |false=>
    obtain⟨y2,hy2,rfl,hK2⟩:=old p y hE hy;rw[(h1 p hE).2];intro e;have hbl:=h.lt p y2 b hy2 e
    grind
   |true=>grind
 .cases hD:D o with
  |false=>
   obtain⟨y,hy,e,_⟩:=old o _ hD hx;rw[(h1 o hD).2];cases y with
   |var cs'=>exact h.pin o v cs' hN hy
   |arr _ _ _ _=>cases e
  |true=>
   rcases h7 o cs hD hx with⟨cs0,g1,g2⟩|g
   .rw[g2];exact h.pin o v cs0 hN g1
   grind
def Ee(nr:Bool)(st:St)(x:AV)(a:Arg)(o:Option Nat):Prop:=
 (o=none/\(nr=true->x.refs=[])/\mG st [x]=some [a])\/
 (∃p e r l fr,o=some p/\x=.sv (.one (.ref p))/\st.ah p=some (.arr e r l fr)/\a=.own e r l)\/
 (∃p cs,o=some p/\x=.eG p 0/\st.ah p=some (.var cs)/\cs.flatMap Cell.refs=[]/\a=.ptr (cs.map (Cell.view st)))
theorem Jp{m:Mode}{x:AV}{a:Arg}{o:Option Nat}(h:pJ st m x=some (a,o)):Ee true st x a o:=by
 cases m with
 |val=>
  simp only[pJ]at h;split at h
  .next a' hr ha=>cases h;exact .inl ⟨rfl,λ_=>hr,ha⟩
  .cases h
 |own=>
  simp only[pJ]at h;split at h
  .split at h
   .next p _ e r l fr ho=>cases h;exact .inr (.inl ⟨p,e,r,l,fr,rfl,rfl,ho,rfl⟩)
   .cases h
  .cases h
 |ptr=>
  simp only[pJ]at h;split at h
  .split at h
   .next p off _ _ cs h0 ho=>
    split at h
    .next hr=>cases h;have h0:=asX h0;subst h0;exact .inr (.inr ⟨p,cs,rfl,rfl,ho,hr,rfl⟩)
    .cases h
   .cases h
  .cases h
def oP(nr:Bool)(st:St):List AV->List Arg->List (Option Nat)->Prop
 |[],[],[]=>True
 |x::xs,a::as,o::os=>Ee nr st x a o/\oP nr st xs as os
 |_,_,_=>False
theorem OJ:∀(ms:List Mode)(xs:List AV)(as:List Arg)(os:List (Option Nat)),hands st ms xs=some (as,os)->oP true st xs as os
 |_,[],as,os,h=>by cases h;trivial
 |ms,x::xs,as,os,h=>by
  unfold hands at h;split at h
  .next a o as' os' h1 h2=>cases h;exact⟨Jp h1,OJ ms.tail xs as' os' h2⟩
  .cases h
variable {nr:Bool}
theorem oP.get:∀{xs:List AV}{as:List Arg}{os:List (Option Nat)},oP nr st xs as os->∀(i:Nat)(a:Arg),as[i]? =some a->∃x o,xs[i]? =some x/\os[i]? =some o/\Ee nr st x a o
 |[],[],[],_,i,a,h=>by simp at h
 |x::xs,b::as,o::os,⟨h1,h2⟩,0,a,h=>by grind
 |x::xs,b::as,o::os,⟨h1,h2⟩,i+1,a,h=>by
  obtain⟨y,q,g1,g2,g3⟩:=h2.get i a (by simpa using h)
  grind
 |[],[],_::_,H,_,_,_|[],_::_,_,H,_,_,_|_::_,[],_,H,_,_,_|_::_,_::_,[],H,_,_,_=>H.elim
theorem oP.length:∀{xs:List AV}{as:List Arg}{os:List (Option Nat)},oP nr st xs as os->as.length=xs.length/\os.length=xs.length
 |[],[],[],_=>⟨rfl,rfl⟩
 |x::xs,b::as,o::os,⟨_,h2⟩=>by simp[h2.length.1,h2.length.2]
 |[],[],_::_,H|[],_::_,_,H|_::_,[],_,H|_::_,_::_,[],H=>H.elim
def γE(os:List (Option Nat))(γ:Nat->Value)(p:Nat):Value:=match os[p / 64]? with|some (some o)=>γ o|_=>undef
theorem SI{xs:List AV}{as:List Arg}{os:List (Option Nat)}(hh:oP nr st xs as os){q:Nat}{X:aB}(hq:eX as q=some X):
 ∃o Y,os[q / 64]? =some (some o)/\st.ah o=some Y/\((∃e r l fr,X=.arr e r l false/\Y=.arr e r l fr/\q%64=49)\/(∃cs,X=.var (cs.map (Cell.view st))/\Y=.var cs/\cs.flatMap Cell.refs=[]/\q%64=48)):=by
 unfold eX at hq;split at hq
 .next e r l ha=>
  split at hq
  .next hm=>
   have hm:=asX hm;obtain⟨x,o,_,ho,h1⟩:=hh.get _ _ ha;rcases h1 with⟨_,_,h3⟩|⟨p,e',r',l',fr,rfl,_,hp,h4⟩|⟨p,cs,_,_,_,_,h4⟩
   .unfold mG at h3;split at h3
    .split at h3<;>simp at h3
    .split at h3<;>simp at h3
    .split at h3<;>simp at h3
    .cases h3
   · grind
   .cases h4
  .cases hq
 .next cs0 ha=>
  split at hq
  .next hm=>
   have hm:=asX hm;obtain⟨x,o,_,ho,h1⟩:=hh.get _ _ ha;rcases h1 with⟨_,_,h3⟩|⟨p,e',r',l',fr,_,_,_,h4⟩|⟨p,cs,rfl,_,hp,hr,h4⟩
   .unfold mG at h3;split at h3
    .split at h3<;>simp at h3
    .split at h3<;>simp at h3
    .split at h3<;>simp at h3
    .cases h3
   .cases h4
   grind
  .cases hq
 .cases hq
theorem Md:∀{os:List (Option Nat)},vU os=true->∀(i j:Nat)(o:Nat),os[i]? =some (some o)->os[j]? =some (some o)->i=j:=by
 have mem:∀(os:List (Option Nat))(i o:Nat),os[i]? =some (some o)->Sl o os=true:=by
  intro os
  induction os with
  |nil=>grind
  |cons x os ih=>
   intro i o h;cases i with
   |zero=>simp_all [Sl]
   |succ i=>
    cases x with
    |none=>grind [Sl]
    |some p=>grind [Sl]
 intro os
 induction os with
 |nil=>grind
 |cons x os ih=>
  cases x with
  |none=>
   grind [vU]
  |some p=>
   grind [vU]
theorem bD.ac2{Y Z:V}{q p:Nat}{e:TypeId}{r:ak}{l:List r.den}{fr fr':Bool}(H:bD Y q (.arr e r l fr))(hγ:Z.γ p=Y.γ q)(hw:Z.w=Y.w)
 (hf:∀b,Y.bP fr b->Z.bP fr' b) (hn:∀b,blk (Y.γ q)=some b->fr'=true->Z.n0<=b):bD Z p (.arr e r l fr'):=by
 obtain⟨xs,hown,hr,_,hx⟩:=H;refine⟨xs,?_,hr,λb hb hfr=>hn b (by grind) hfr,λi x hi=>?_⟩
 · grind
 grind [aZ.mono]
theorem D7{Y Z:V}(hw:Z.w=Y.w)(hf:∀fr b,Y.bP fr b->Z.bP fr b):∀(cs:List Cell)(vs:List Value),cs.flatMap Cell.refs=[]->ai Y cs vs->ai Z cs vs
 |[],[],_,H=>H
 |c::cs,v::vs,hr,⟨h1,h2⟩=>by
  rw[atG,aty]at hr;refine⟨?_,D7 hw hf cs vs hr.2 h2⟩;cases c with
  |ref o=>cases hr.1
  |sl e r l fr=>
   show dW Z.w.heap (Z.bP fr) (.sl e r) v l;rw[hw];exact dW.mono (λb hb=>⟨hf fr b hb,rfl⟩) (.sl e r) v l h1
  |_=>exact h1
 |[],_::_,_,H|_::_,[],_,H=>by cases H
theorem XY{X:V}:∀(as:List Arg)(us:List Value)(i:Nat),as.length=us.length->(∀j a u,as[j]? =some a->us[j]? =some u->Jl X (i+j) a u)->xC X i as us
 |[],[],_,_,_=>trivial
 |a::as,u::us,i,hl,h=>⟨h 0 a u rfl rfl,XY as us (i+1) (by simpa using hl) λj b v hb hv=>by
   have:=h (j+1) b v (by simpa using hb) (by simpa using hv)
   grind⟩
 |[],_::_,_,hl,_|_::_,[],_,hl,_=>by simp at hl
theorem lT.get{X:V}:∀(xs:List AV)(us:List Value),lT X xs us->xs.length=us.length/\∀(i:Nat)(x:AV)(u:Value),xs[i]? =some x->us[i]? =some u->aQ X x u
 |[],[],_=>⟨rfl,λi x u h=>by simp at h⟩
 |x::xs,u::us,⟨h1,h2⟩=>by
  obtain⟨g1,g2⟩:=lT.get xs us h2;refine⟨by simp[g1],λi y v hy hv=>?_⟩;cases i with
  |zero=>simp at hy hv;subst hy hv;exact h1
  |succ i=>exact g2 i y v (by simpa using hy) (by simpa using hv)
 |[],_::_,H|_::_,[],H=>by cases H
theorem Iw:∀{os:List (Option Nat)}{aJ:List Eff}{δ:List (Nat×aB)},lX st os aJ=some δ->∀(p:Nat),
 (∀(x:aB),Fw.look δ p=some x->∃i:Nat,os[i]? =some (some p)/\
   ((∃(e:TypeId)(r:ak)(l l0:List r.den)(fr:Bool),aJ[i]? =some (.arr e r l)/\st.ah p=some (.arr e r l0 fr)/\x=.arr e r l false)\/(∃(cs cs0:List Cell),aJ[i]? =some (.var cs)/\st.ah p=some (.var cs0)/\cs.flatMap Cell.refs=[]/\x=.var cs)))/\
 (∀i:Nat,os[i]? =some (some p)->Fw.look δ p=none->ig os aJ p=true)
 |[],aJ,δ,h,p=>by
  cases h;exact⟨(λx hx=>by cases hx),(λi hi=>by simp at hi)⟩
 |none::os,aJ,δ,h,p=>by
  rw[lX]at h;obtain⟨h1,h2⟩:=Iw h p
  grind [ig]
 |some o::os,aJ,δ,h,p=>by
  unfold lX at h;have XZ:∀{δ'}(_:lX st os aJ.tail=some δ'),(∀(x:aB),Fw.look δ' p=some x->∃i:Nat,(some o::os)[i]? =some (some p)/\
   ((∃(e:TypeId)(r:ak)(l l0:List r.den)(fr:Bool),aJ[i]? =some (.arr e r l)/\st.ah p=some (.arr e r l0 fr)/\x=.arr e r l false)\/(∃(cs cs0:List Cell),aJ[i]? =some (.var cs)/\st.ah p=some (.var cs0)/\cs.flatMap Cell.refs=[]/\x=.var cs)))/\
   (∀i:Nat,os[i]? =some (some p)->Fw.look δ' p=none->ig os aJ.tail p=true):=by
   intro δ' hδ;obtain⟨h1,h2⟩:=Iw hδ p
   grind
  have ape:∀{y:Eff},aJ.head?=some y->aJ[0]? =some y:=λhy=>by cases aJ<;>simp at hy ⊢;exact hy
  have aqH:∀(_:ig os aJ.tail p=true),ig (some o::os) aJ p=true:=λg=>by
   grind [ig]
  split at h
  .next δ' hh hδ=>
   cases h;obtain⟨h1,h2⟩:=XZ hδ;refine⟨h1,λi hi hn=>?_⟩;cases i with
   |zero=>
    simp_all [ig]
   |succ i=>grind
  .next e r l f s l0 fr0 δ' hh ho hδ=>
   split at h
   .next hb=>
    cases h;rw[as1]at hb;have he:=asX hb.1;have hr:=ak.eq_of_beq r s hb.2;subst he hr;obtain⟨h1,h2⟩:=XZ hδ;refine⟨λx hx=>?_,λi hi hn=>?_⟩
    · grind [Fw.look,Nat.eq_of_beq_eq_true]
    .rw[Fw.look]at hn;split at hn
     .cases hn
     .next hln=>
      split at hn
      .cases hn
      .next hpo=>
       cases i with
       |zero=>simp_all
       |succ i=>grind
   .cases h
  .next cs cs0 δ' hh ho hδ=>
   split at h
   .next hr=>
    cases h;obtain⟨h1,h2⟩:=XZ hδ;refine⟨λx hx=>?_,λi hi hn=>?_⟩
    · grind [Fw.look,Nat.eq_of_beq_eq_true]
    .rw[Fw.look]at hn;split at hn
     .cases hn
     .next hln=>
      split at hn
      .cases hn
      .next hpo=>
       cases i with
       |zero=>simp_all
       |succ i=>grind
   .cases h
  .cases h
theorem EO:∀{os:List (Option Nat)}{aJ:List Eff}{δ:List (Nat×aB)},lX st os aJ=some δ->∀(i p:Nat),os[i]? =some (some p)->
 aJ[i]? =some .lose\/(∃(e:TypeId)(r:ak)(l:List r.den),aJ[i]? =some (.arr e r l)/\∃x:aB,Fw.look δ p=some x)\/(∃(cs:List Cell),aJ[i]? =some (.var cs)/\∃x:aB,Fw.look δ p=some x)
 |[],aJ,δ,h,i,p,hi=>by simp at hi
 |none::os,aJ,δ,h,i,p,hi=>by
  rw[lX]at h;cases i with
  |zero=>simp at hi
  |succ i=>
   have:=EO h i p (by simpa using hi)
   grind
 |some o::os,aJ,δ,h,i,p,hi=>by
  unfold lX at h;have ape:∀{y:Eff},aJ.head?=some y->aJ[0]? =some y:=λhy=>by cases aJ<;>simp at hy ⊢;exact hy
  have lk:∀{δ':List (Nat×aB)}{z:aB},(∃x:aB,Fw.look δ' p=some x)->∃x:aB,Fw.look ((o,z)::δ') p=some x:=λ⟨x,hx⟩=>⟨x,by rw[Fw.look,hx]⟩;have lk0:∀{δ':List (Nat×aB)}{z:aB},∃x:aB,Fw.look ((o,z)::δ') o=some x:=by
   intro δ' z;rw[Fw.look];cases Fw.look δ' o with
   |some y=>grind
   |none=>simp
  split at h
  .next δ' hh hδ=>
   cases i with
   |zero=>grind
   |succ i=>have:=EO hδ i p (by simpa using hi);grind
  .next e r l f s l0 fr0 δ' hh ho hδ=>
   split at h
   .cases h;cases i with
    |zero=>simp_all
    |succ i=>have:=EO hδ i p (by simpa using hi);rw[List.getElem?_tail]at this;exact this.imp id λg=>g.imp (λ⟨e,r,l,g1,g2⟩=>⟨e,r,l,g1,lk g2⟩) λ⟨cs,g1,g2⟩=>⟨cs,g1,lk g2⟩
   .cases h
  .next cs cs0 δ' hh ho hδ=>
   split at h
   .cases h;cases i with
    |zero=>simp_all
    |succ i=>have:=EO hδ i p (by simpa using hi);rw[List.getElem?_tail]at this;exact this.imp id λg=>g.imp (λ⟨e,r,l,g1,g2⟩=>⟨e,r,l,g1,lk g2⟩) λ⟨cs,g1,g2⟩=>⟨cs,g1,lk g2⟩
   .cases h
  .cases h
theorem WW{aJ:List Eff}{δ:List (Nat×aB)}(h:G5 aJ δ=true){o:Nat}{x:aB}(hl:Fw.look δ o=some x):nX aJ o=none:=by
 have:=atq.1 h _ (uG δ o x hl)
 simp_all
theorem aiA{aJ:List Eff}{i:Nat}:(∀(e:TypeId)(r:ak)(l:List r.den),aJ[i]? =some (.arr e r l)->nX aJ (i*64+49)=some (.arr e r l false))/\
 (∀cs:List Cell,aJ[i]? =some (.var cs)->nX aJ (i*64+48)=some (.var cs)):=by
 have h1:(i*64+49) / 64=i:=by omega
 have h3:(i*64+48) / 64=i:=by omega
 simp_all [nX]
theorem KI{aJ:List Eff}{q:Nat}{X:aB}(h:nX aJ q=some X):(∃(e:TypeId)(r:ak)(l:List r.den),aJ[q / 64]? =some (.arr e r l)/\X=.arr e r l false/\q=q / 64*64+49)\/
 (∃cs:List Cell,aJ[q / 64]? =some (.var cs)/\X=.var cs/\q=q / 64*64+48):=by
 unfold nX at h;split at h
 · grind [Nat.eq_of_beq_eq_true]
 · grind [Nat.eq_of_beq_eq_true]
 .cases h
theorem Rel.SK(h:Rel w0 M T γ st a w){xs:List AV}{as:List Arg}{os:List (Option Nat)}
 (hh:oP nr st xs as os) {out:Out} {aJ:List Eff} {k:Nat} (agC:k%64=1) {δ:List (Nat×aB)}
 (hb:lX st os aJ=some δ) (hfr:iP (st.kill (ig os aJ)) (out.take k).2=true) {e:Ending}
 (hpost:KF (aj w0 T γ st w).foot as (γE os γ) w k out aJ e w'):
 ∃v γ',e=.returned v/\Rel w0 M T γ' (((st.kill (ig os aJ)).adds δ).adds (out.take k).2) a w'/\aQ (aj w0 T γ' (((st.kill (ig os aJ)).adds δ).adds (out.take k).2) w') (out.take k).1 v:=by
 let S:=(aj w0 T γ st w).foot
 let E:=eX as
 let ge:=γE os γ
 let XE:V:=⟨w,w.heap.size,S,ge,E⟩
 have hge:∀{q o:Nat},os[q / 64]? =some (some o)->ge q=γ o:=λhq=>by show(match os[_ / 64]? with|some (some o)=>γ o|_=>undef)=_;rw[hq]
 have hEs:∀{q:Nat}{X:aB},E q=some X->_:=λhq=>SI hh hq;have SL:∀b,S b->XE.foot b:=λb hb=>⟨hb.1,λ_=>hb,λq X hq=>by obtain⟨o,Y,ho,hY,_⟩:=hEs hq;show blk (ge q)≠some b;rw[hge ho];exact hb.2.2 o Y hY⟩;have hbl:∀{q:Nat}{X:aB},E q=some X->∀b,blk (ge q)=some b->b<w.heap.size/\(w0.heap.size<=b\/M b):=λhq b hb=>by obtain⟨o,Y,ho,hY,_⟩:=hEs hq;rw[hge ho]at hb;exact h.lt o Y b hY hb
 obtain⟨v,γ',rfl,h1,h2,h3,h4,h5,h6,h7,h8,h9⟩:=hpost
 let δ2:=(out.take k).2
 let K:=ig os aJ
 let H:Nat->Prop:=xE E ge
 let γ2:Nat->Value:=λq=>match Fw.look δ2 q with|some _=>γ' q|none=>γ q
 let D:Nat->Bool:=λq=>(Fw.look δ q).isSome||(Fw.look δ2 q).isSome
 let jX:Nat->Option aB:=(((st.kill K).adds δ).adds δ2).ah
 have KJ:∀q,jX q=match Fw.look δ2 q with|some y=>some y|none=>match Fw.look δ q with|some y=>some y|none=>(st.kill K).ah q:=λq=>by
  grind [qK]
 have X0:∀{q:Nat}{y:aB},Fw.look δ2 q=some y->γ2 q=γ' q:=λhq=>by grind
 have OL:∀{q:Nat},Fw.look δ2 q=none->γ2 q=γ q:=λhq=>by grind
 have hH:∀b,H b->∃o x,st.ah o=some x/\blk (γ o)=some b:=by
  rintro b ⟨q,X,hq,hb⟩
  grind
 have hback:∀{q:Nat}{x:aB},Fw.look δ q=some x->∃c,nX aJ c=some x/\ge c=γ q/\os[c / 64]? =some (some q)/\
  ((∃(e:TypeId)(r:ak)(l l0:List r.den)(fr:Bool),st.ah q=some (.arr e r l0 fr)/\x=.arr e r l false)\/(∃(cs cs0:List Cell),st.ah q=some (.var cs0)/\cs.flatMap Cell.refs=[]/\x=.var cs)):=by
  intro q x hq;obtain⟨i,hi,hk⟩:=(Iw hb q).1 x hq;have d1:(i*64+49) / 64=i:=by omega
  have d3:(i*64+48) / 64=i:=by omega
  rcases hk with⟨e,r,l,l0,fr,g1,g2,rfl⟩|⟨cs,cs0,g1,g2,g3,rfl⟩
  .exact⟨i*64+49,aiA.1 e r l g1,hge (by grind),by grind,.inl ⟨e,r,l,l0,fr,g2,rfl⟩⟩
  .exact⟨i*64+48,aiA.2 cs g1,hge (by grind),by grind,.inr ⟨cs,cs0,g2,g3,rfl⟩⟩
 have amY:∀{q:Nat}{y:aB},nX aJ q=some y->∀b,blk (ge q)=some b->b<w.heap.size:=by
  intro q y hq b hbk;have hbk0:=hbk;show b<w.heap.size;have:∃o,os[q / 64]? =some (some o):=by
   have hbk':blk (match os[q / 64]? with|some (some o)=>γ o|_=>undef)=some b:=hbk;cases ho:os[q / 64]? with
   |none=>rw[ho]at hbk';cases hbk'
   |some z=>cases z with
    |none=>rw[ho]at hbk';cases hbk'
    |some o=>grind
  obtain⟨o,ho⟩:=this;rw[hge ho]at hbk;have hex:∃Y,st.ah o=some Y:=by
   rcases EO hb _ _ ho with g|⟨e,r,l,g,x,hx⟩|⟨cs,g,x,hx⟩
   .rcases KI hq with⟨e,r,l,g',_⟩|⟨cs,g',_⟩<;>(rw[g]at g';cases g')
   .obtain⟨c,_,_,_,hk⟩:=hback hx;rcases hk with⟨_,_,_,_,_,g,_⟩|⟨_,_,g,_⟩<;>exact⟨_,g⟩
   .obtain⟨c,_,_,_,hk⟩:=hback hx;rcases hk with⟨_,_,_,_,_,g,_⟩|⟨_,_,g,_⟩<;>exact⟨_,g⟩
  obtain⟨Y,hY⟩:=hex;exact(h.lt o Y b hY hbk).1
 let Y2:V:=⟨w',w.heap.size,qi S as aJ ge,γ',Fw.look δ2⟩
 have hKH:∀q x b,D q=false->K q=false->st.ah q=some x->blk (γ q)=some b->¬H b:=by
  rintro q x b hD hK hq hbq ⟨c,X,hc,hbc⟩;obtain⟨o,Y,ho,hY,_⟩:=hEs hc;rw[hge ho]at hbc;by_cases hoq:o=q
  .subst hoq;have hD':Fw.look δ o=none:=by
    have:(Fw.look δ o).isSome=false:=by
     grind
    simp_all
   have:=(Iw hb o).2 _ ho hD'
   grind
  .exact h.sep o Y q x b hY hq hoq hbc hbq
 have akC:∀b,Y2.foot b->V.foot ⟨w',w0.heap.size,T,γ2,jX⟩ b:=by
  intro b hbf;refine⟨hbf.1,λhlt=>?_,λq x hq e=>?_⟩
  .have hlt0:b<w0.heap.size:=hlt;have hlt':b<w.heap.size:=ati hlt0 h.grow;rcases(hbf.2.1 hlt').1 with g|⟨c,X,hc,hbc⟩
   .exact g.2.1 hlt
   .exact h.mT b ((hbl hc b hbc).2.resolve_left (by omega))
  .have hq':jX q=some x:=hq;have e':blk (γ2 q)=some b:=e;rw[KJ]at hq';cases hl2:Fw.look δ2 q with
   |some y=>
    rw[X0 hl2]at e';exact hbf.2.2 q y hl2 e'
   |none=>
    rw[OL hl2]at e';rw[hl2]at hq';cases hl:Fw.look δ q with
    |some y=>
     obtain⟨c,WX,hcg,hco,_⟩:=hback hl;rw[← hcg]at e';have hlt:b<w.heap.size:=amY WX b e';exact(hbf.2.1 hlt).2 c y WX e'
    |none=>
     rw[hl]at hq';obtain⟨z,hz,_,hKq⟩:=tV K hq';have hlt:=(h.lt q z b hz e').1;rcases(hbf.2.1 hlt).1 with g|g
     .exact g.2.2 q z hz e'
     grind
 have aiB:∀fr b,Y2.bP fr b->V.bP ⟨w',w0.heap.size,T,γ2,jX⟩ fr b:=λfr b hbf=>⟨akC b hbf.1,λe=>⟨as3 h.grow (hbf.2 e).1,(hbf.2 e).2⟩⟩;have hle2:V.le Y2 ⟨w',w0.heap.size,T,γ2,jX⟩:=by
  have hin:∀{o:Nat}{x:aB},Fw.look δ2 o=some x->jX o=some x:=λhl=>by rw[KJ,hl]
  exact⟨h.grow,λb hbf=>⟨akC b hbf,rfl⟩,λo cs hl=>⟨⟨cs,hin hl⟩,X0 hl⟩,λo e r l fr hl=>⟨⟨l,fr,hin hl⟩,X0 hl⟩⟩
 have hmain:=h.update (w':=w') (K:=K) (D:=D) (H:=H) (jX:=jX) (γ2:=γ2) h1 h2 h3 h4 hH h5
  (λq hD=>by
    grind)
  hKH
  (λq x hD hq b hbq=>by
    rw[KJ]at hq;cases hl2:Fw.look δ2 q with
    |some y=>
     grind
    |none=>
     rw[OL hl2]at hbq;rw[hl2]at hq;cases hl:Fw.look δ q with
     |some y=>
      obtain⟨c,WX,hcg,hco,hk⟩:=hback hl;rw[← hcg]at hbq;have hlt:=amY WX b hbq;refine⟨ati hlt h4,.inr ?_⟩;have hcE:∃X,E c=some X:=by
       obtain⟨x',o',hx',ho',hone⟩:=hh.get (c / 64) (as[c / 64]'(by have:=ath.1 hco;rw[hh.length.1,← hh.length.2];exact this.1)) (as5 _);rw[hco]at ho';cases ho';rcases hone with⟨g,_⟩|⟨q',e,r,l,fr,g1,_,g2,g3⟩|⟨q',cs,g1,_,g2,_,g3⟩
       .cases g
       .cases g1;rcases hk with⟨e1,r1,l1,l0,fr1,g4,rfl⟩|⟨cs1,cs0,g4,_⟩
        .rcases KI WX with⟨_,_,_,_,_,hcq⟩|⟨_,_,g,_⟩
         .refine⟨.arr e r l false,?_⟩;show eX as c=_;have hm:c%64=49:=by omega
          unfold eX;rw[as5 (by have:=ath.1 hco;rw[hh.length.1,← hh.length.2];exact this.1),g3,hm]
         .cases g
        grind
       .cases g1;rcases hk with⟨e1,r1,l1,l0,fr1,g4,rfl⟩|⟨cs1,cs0,g4,_,rfl⟩
        .rw[g2]at g4;cases g4
        .rcases KI WX with⟨_,_,_,_,g,_⟩|⟨_,_,_,hcq⟩
         .cases g
         .refine⟨.var (cs.map (Cell.view st)),?_⟩;show eX as c=_;have hm:c%64=48:=by omega
          unfold eX;rw[as5 (by have:=ath.1 hco;rw[hh.length.1,← hh.length.2];exact this.1),g3,hm]
      obtain⟨X,hX⟩:=hcE;exact⟨c,X,hX,hbq⟩
     |none=>have h0:((Fw.look δ q).isSome||(Fw.look δ2 q).isSome)=true:=hD;rw[hl,hl2]at h0;cases h0)
  (λ_ q x hD hq=>by
    rw[KJ]at hq;cases hl2:Fw.look δ2 q with
    |some y=>
     rw[hl2]at hq;cases hq;exact bD.mono hle2 q x (λ_ _=>rfl) (X0 hl2) (h7 q x hl2).1
    |none=>
     rw[hl2]at hq;cases hl:Fw.look δ q with
     |some y=>
      rw[hl]at hq;cases hq;obtain⟨c,WX,hcg,hco,hk⟩:=hback hl;obtain⟨g1,g2⟩:=h9 c x WX;have hγq:γ2 q=γ' c:=by rw[OL hl2,g1];exact hcg.symm
      rcases hk with⟨e,r,l,l0,fr,_,rfl⟩|⟨cs,cs0,_,hr,rfl⟩
      .exact bD.ac2 (Y:=Y2) g2 hγq rfl (λb hbf=>aiB false b hbf) (λb _ e=>by cases e)
      .obtain⟨b,arr,t,k1,k2,k3⟩:=g2;exact⟨b,arr,t,hγq.trans k1,k2,D7 (Y:=Y2) (Z:=⟨w',w0.heap.size,T,γ2,jX⟩) rfl aiB _ _ hr k3⟩
     |none=>have h0:((Fw.look δ q).isSome||(Fw.look δ2 q).isSome)=true:=hD;rw[hl,hl2]at h0;cases h0)
  (λp1 p2 x y b hD1 hD2 hq1 hq2 hne hb1=>by
    rw[KJ]at hq1 hq2;cases l1:Fw.look δ2 p1 with
    |some y1=>
     rw[X0 l1]at hb1;cases l2:Fw.look δ2 p2 with
     |some y2=>rw[X0 l2];exact h8 p1 y1 p2 y2 b l1 l2 hne hb1
     |none=>
      rw[OL l2];cases m2:Fw.look δ p2 with
      |some y2=>
       obtain⟨c,WX,hcg,hco,hk⟩:=hback m2;rw[← hcg];exact((h7 p1 y1 l1).2 b hb1).2.2 c y2 WX
      |none=>
       have h0:((Fw.look δ p2).isSome||(Fw.look δ2 p2).isSome)=true:=hD2;rw[m2,l2]at h0;cases h0
    |none=>
     rw[OL l1]at hb1;cases m1:Fw.look δ p1 with
     |none=>
      have h0:((Fw.look δ p1).isSome||(Fw.look δ2 p1).isSome)=true:=hD1;rw[m1,l1]at h0;cases h0
     |some y1=>
      obtain⟨c1,aqI,aqJ,asz,hk1⟩:=hback m1;cases l2:Fw.look δ2 p2 with
      |some y2=>
       rw[X0 l2];intro e;rw[← aqJ]at hb1;exact((h7 p2 y2 l2).2 b e).2.2 c1 y1 aqI hb1
      |none=>
       rw[OL l2];cases m2:Fw.look δ p2 with
       |none=>
        have h0:((Fw.look δ p2).isSome||(Fw.look δ2 p2).isSome)=true:=hD2;rw[m2,l2]at h0;cases h0
       |some y2=>
        obtain⟨c2,asA,asB,asC,hk2⟩:=hback m2;have e1:∃z,st.ah p1=some z:=by rcases hk1 with⟨_,_,_,_,_,g,_⟩|⟨_,_,g,_⟩<;>exact⟨_,g⟩
        have e2:∃z,st.ah p2=some z:=by rcases hk2 with⟨_,_,_,_,_,g,_⟩|⟨_,_,g,_⟩<;>exact⟨_,g⟩
        obtain⟨z1,e1⟩:=e1;obtain⟨z2,e2⟩:=e2;exact h.sep p1 z1 p2 z2 b e1 e2 hne hb1)
  (λq cs hD hK hq=>by
    cases l2:Fw.look δ2 q with
    |some y=>have:=EL hfr l2;rw[lM K hK hq]at this;cases this
    |none=>
     refine⟨?_,OL l2⟩;cases m2:Fw.look δ q with
     |none=>
      have h0:((Fw.look δ q).isSome||(Fw.look δ2 q).isSome)=true:=hD;rw[m2,l2]at h0;cases h0
     |some y=>
      obtain⟨c,_,_,_,hk⟩:=hback m2;rcases hk with⟨_,_,_,_,_,g,_⟩|⟨cs',_,g,_,rfl⟩
      .rw[hq]at g;cases g
      .exact⟨cs',by rw[KJ,l2,m2]⟩)
  (λq e r l fr hD hK hq=>by
    cases l2:Fw.look δ2 q with
    |some y=>have:=EL hfr l2;rw[lM K hK hq]at this;cases this
    |none=>
     refine⟨?_,OL l2⟩;cases m2:Fw.look δ q with
     |none=>
      have h0:((Fw.look δ q).isSome||(Fw.look δ2 q).isSome)=true:=hD;rw[m2,l2]at h0;cases h0
     |some y=>
      obtain⟨c,_,_,_,hk⟩:=hback m2;rcases hk with⟨e',r',l',l0,fr',g,rfl⟩|⟨_,_,g,_⟩
      .rw[hq]at g;cases g;exact⟨l',false,by rw[KJ,l2,m2]⟩
      .rw[hq]at g;cases g)
  (λq cs hD hq=>by
    rw[KJ]at hq;cases l2:Fw.look δ2 q with
    |some y=>
     rw[l2]at hq;cases hq;have h0:=out.agn k agC l2;refine .inr ?_;cases hT:T.N q with
     |none=>rfl
     |some v'=>have:=T.n48 q v' hT;omega
    |none=>
     rw[l2]at hq;cases m2:Fw.look δ q with
     |none=>
      have h0:((Fw.look δ q).isSome||(Fw.look δ2 q).isSome)=true:=hD;rw[m2,l2]at h0;cases h0
     |some y=>
      rw[m2]at hq;cases hq;obtain⟨c,_,_,_,hk⟩:=hback m2;rcases hk with⟨_,_,_,_,_,_,g⟩|⟨_,cs0,g,_,_⟩
      .cases g
      .exact .inl ⟨cs0,g,OL l2⟩)
 refine⟨v,γ2,rfl,?_,aQ.mono hle2 _ _ h6⟩;have hst:(((st.kill K).adds δ).adds δ2)={n:=st.n,tmps:=λt=>(st.tmps t).kill K,ah:=jX}:=by
  have e1:=Ed δ2 ((st.kill K).adds δ);have e2:=Ed δ (st.kill K);have gen:∀(s:St)(n:Nat)(t:Nat->AV),s.n=n->s.tmps=t->s={n:=n,tmps:=t,ah:=s.ah}:=λs n t g1 g2=>by cases s;subst g1 g2;rfl
  exact gen _ _ _ (e1.2.trans e2.2) (e1.1.trans e2.1)
 grind
theorem Rel.aiC{G:iV}(hE:pK P G Θ Γ w0 M)(h:Rel w0 M T γ st a w){xs:List AV}{us:Array Value}{as:List Arg}{os:List (Option Nat)}(hx:lT (aj w0 T γ st w) xs us.toList)
 (hh:oP true st xs as os) (hnd:vU os=true) {f:FuncId} {con:RV} {p:Prop} {ρ:L8} {k:Nat} (agC:k%64=1) (hok:CO P G f con) (hc:con as=some (p,ρ)) (hp:p)
 (hch:∀t,ρ.R t->∃δ,lX st os (ρ.aJ t)=some δ/\iP (st.kill (ig os (ρ.aJ t))) ((ρ.out t).take k).2=true/\G5 (ρ.aJ t) ((ρ.out t).take k).2=true):
 Calls P f us w λe w'=>∃t δ,ρ.R t/\lX st os (ρ.aJ t)=some δ/\∃v γ',e=.returned v/\
  Rel w0 M T γ' (((st.kill (ig os (ρ.aJ t))).adds δ).adds ((ρ.out t).take k).2) a w'/\aQ (aj w0 T γ' (((st.kill (ig os (ρ.aJ t))).adds δ).adds ((ρ.out t).take k).2) w') ((ρ.out t).take k).1 v:=by
 let S:=(aj w0 T γ st w).foot
 let E:=eX as
 let ge:=γE os γ
 let XE:V:=⟨w,w.heap.size,S,ge,E⟩
 have hge:∀{q o:Nat},os[q / 64]? =some (some o)->ge q=γ o:=λhq=>by show(match os[_ / 64]? with|some (some o)=>γ o|_=>undef)=_;rw[hq]
 have hEs:∀{q:Nat}{X:aB},E q=some X->_:=λhq=>SI hh hq;have SL:∀b,S b->XE.foot b:=λb hb=>⟨hb.1,λ_=>hb,λq X hq=>by obtain⟨o,Y,ho,hY,_⟩:=hEs hq;show blk (ge q)≠some b;rw[hge ho];exact hb.2.2 o Y hY⟩;have hbl:∀{q:Nat}{X:aB},E q=some X->∀b,blk (ge q)=some b->b<w.heap.size/\(w0.heap.size<=b\/M b):=λhq b hb=>by obtain⟨o,Y,ho,hY,_⟩:=hEs hq;rw[hge ho]at hb;exact h.lt o Y b hY hb
 have ajm:∀o x,E o=some x->bD XE o x/\∀b,blk (ge o)=some b->b<w.heap.size/\G.n<=b:=by
  intro q X hq;refine⟨?_,λb hb=>⟨(hbl hq b hb).1,?_⟩⟩
  .obtain⟨o,Y,ho,hY,hk⟩:=hEs hq;have hO:=h.ah o Y hY;rcases hk with⟨e,r,l,fr,rfl,rfl,_⟩|⟨cs,rfl,rfl,hr,_⟩
   .exact bD.ac2 (Z:=XE) hO (hge ho) rfl (λb hb=>⟨SL b hb.1,λe=>by cases e⟩) (λb _ e=>by cases e)
   .obtain⟨b,arr,t,hγ,hheap,hcs⟩:=hO;refine⟨b,arr,t,(hge ho).trans hγ,hheap,?_⟩;have:=Cells.qL h (γ0:=λ_=>undef) cs _ hr hcs;exact D7 (Y:=⟨w,w.heap.size,S,λ_=>undef,λ_=>none⟩) (Z:=XE) rfl (λfr b hb=>⟨⟨hb.1.1,λhlt=>hb.1.2.1 hlt,λq' X' hq'=>by obtain⟨o',Y',ho',WY,_⟩:=hEs hq';show blk (ge q')≠some b;rw[hge ho'];exact(hb.1.2.1 hb.1.1).2.2 o' Y' WY⟩,hb.2⟩) _ _ (by rw[List.flatMap_map];rw[List.flatMap_eq_nil_iff]at hr ⊢;intro c hc;have:=hr c hc;cases c<;>first|rfl|(cases this;done)) this
  .rcases(hbl hq b hb).2 with g|g
   .exact as3 (G.low w0 hE.ok) g
   .exact hE.low b g
 have hsep:∀o x q y b,E o=some x->E q=some y->o≠q->blk (ge o)=some b->blk (ge q)≠some b:=by
  intro q1 X1 q2 X2 b h1 h2 hne hb;obtain⟨o1,Y1,ho1,hY1,_⟩:=hEs h1;obtain⟨o2,Y2,ho2,hY2,_⟩:=hEs h2;rw[hge ho1]at hb;rw[hge ho2];refine h.sep o1 Y1 o2 Y2 b hY1 hY2 ?_ hb
  grind [Md]
 have hargs:xC XE 0 as us.toList:=by
  obtain⟨hl,hget⟩:=lT.get xs us.toList hx;refine XY as us.toList 0 (by rw[hh.length.1,hl]) λj b u hb hu=>?_;rw[atS];obtain⟨x,o,hxj,hoj,hone⟩:=hh.get j b hb;have hrep:=hget j x u hxj hu;have d1:(j*64+49) / 64=j:=by omega
  have d2:(j*64+49)%64=49:=by omega
  have d3:(j*64+48) / 64=j:=by omega
  have d4:(j*64+48)%64=48:=by omega
  rcases hone with⟨rfl,hr,ha⟩|⟨q,e,r,l,fr,rfl,rfl,hq,rfl⟩|⟨q,cs,rfl,rfl,hq,hr,rfl⟩
  .have hr:=hr rfl;have hr2:=yE h (γ0:=λ_=>undef) [x] [u] [b] ha (by show x.refs++[]=[];rw[hr];rfl) ⟨hrep,trivial⟩;have hle:V.le ⟨w,w.heap.size,S,λ_=>undef,λ_=>none⟩ XE:=⟨as7 _,λc hcc=>⟨SL c (hcc.2.1 hcc.1),rfl⟩,(λ_ _ hcc=>by cases hcc),(λ_ _ _ _ _ hcc=>by cases hcc)⟩;have hA:=hr2.1;cases b with
   |sv v=>exact dw.mono hle v u hA
   |kp cs=>exact aQ.mono hle (.dA cs 0) u hA
   |fn g caps=>exact aQ.mono hle (.fn g caps) u hA
   |own _ _ _=>exact hA.elim
   |ptr _=>exact hA.elim
  .obtain⟨_,hu2,hone⟩:=hrep;refine⟨⟨e,r,l,false,?_⟩,?_,hone⟩
   .show eX as (j*64+49)=_
    simp_all [eX]
   grind
  .obtain⟨c,cs',_,hγ,hv⟩:=hrep;refine⟨c,cs.map (Cell.view st),?_,?_,hv⟩
   .show eX as (j*64+48)=_
    simp_all [eX]
   grind
 refine((hok as p ρ hc hp).2 k S ge us w (hE.at h) hargs ajm hsep λt ht o x hl=>?_).mono ?_
 · grind [WW]
 .rintro e w' ⟨t,ht,hpost⟩;obtain⟨δ,g1,g2,_⟩:=hch t ht;obtain⟨v,γ',rfl,g3,g4⟩:=h.SK hh agC g1 g2 hpost
  grind
def Jq(aJ:List Eff):Bool:=aJ.all λ|.lose=>true|.arr _ _ _=>false|.var cs=>cs.all Cell.made
theorem agD{aJ:List Eff}(h:Jq aJ=true){q:Nat}{X:aB}(hq:nX aJ q=some X):Vr X:=by
 rcases KI hq with⟨e,r,l,g,_⟩|⟨cs,g,rfl,_⟩
 .have:=atq.1 h _ (atB g);cases this
 .exact atq.1 h _ (atB g)
theorem KF.made{S S':Nat->Prop}{args:List Arg}{k:Nat}{out:Out}{aJ:List Eff}{e:Ending}(h:KF S args γ w k out aJ e w')(hm:out.made=true)(hf:Jq aJ=true):KF S' args γ w k out aJ e w':=by
 obtain⟨v,γ',rfl,h1,h2,h3,h4,h5,h6,h7,h8,h9⟩:=h;refine⟨v,γ',rfl,h1,h2,h3,h4,h5,(out.SC k hm _ (qi S' args aJ γ) v).1 h6,λo x hl=>⟨?_,(h7 o x hl).2⟩,h8,λo x hq=>⟨(h9 o x hq).1,?_⟩⟩
 .exact bD.made (qi S' args aJ γ) o x ((out.SC k hm ⟨w',w.heap.size,S,γ',look (out.take k).2⟩ (qi S' args aJ γ) v).2 _ (uG _ _ _ hl)) (h7 o x hl).1
 .exact bD.made (qi S' args aJ γ) o x (agD hf hq) (h9 o x hq).2
theorem Rel.agE{G:iV}(hE:pK P G Θ Γ w0 M)(h:Rel w0 M T γ st a w){xs:List AV}{us:Array Value}{as:List Arg}{os:List (Option Nat)}(hx:lT (aj w0 T γ st w) xs us.toList)
 (hh:oP false st xs as os) (hnd:vU os=true) {f:FuncId} {con:RV} {p:Prop} {ρ:L8} {k:Nat} (agC:k%64=1) (hok:CO P G f con) (hc:con as=some (p,ρ)) (hp:p)
 (hown:∀(q:Nat)(e:TypeId)(r:ak)(l:List r.den),eX as q≠some (.arr e r l false)) (am0:∀t,ρ.R t->(ρ.out t).made=true/\Jq (ρ.aJ t)=true)
 (hch:∀t,ρ.R t->∃δ,lX st os (ρ.aJ t)=some δ/\iP (st.kill (ig os (ρ.aJ t))) ((ρ.out t).take k).2=true/\G5 (ρ.aJ t) ((ρ.out t).take k).2=true):
 Calls P f us w λe w'=>∃t δ,ρ.R t/\lX st os (ρ.aJ t)=some δ/\∃v γ',e=.returned v/\
  Rel w0 M T γ' (((st.kill (ig os (ρ.aJ t))).adds δ).adds ((ρ.out t).take k).2) a w'/\aQ (aj w0 T γ' (((st.kill (ig os (ρ.aJ t))).adds δ).adds ((ρ.out t).take k).2) w') ((ρ.out t).take k).1 v:=by
 let E:=eX as
 let ge:=γE os γ
 let S:Nat->Prop:=λb=>b<w.heap.size/\∀q X,E q=some X->blk (ge q)≠some b
 let XE:V:=⟨w,w.heap.size,S,ge,E⟩
 have hge:∀{q o:Nat},os[q / 64]? =some (some o)->ge q=γ o:=λhq=>by show(match os[_ / 64]? with|some (some o)=>γ o|_=>undef)=_;rw[hq]
 have hEs:∀{q:Nat}{X:aB},E q=some X->_:=λhq=>SI hh hq;have SL:∀b,S b->XE.foot b:=λb hb=>⟨hb.1,λ_=>hb,hb.2⟩;have hS1:∀b,(aj w0 T γ st w).foot b->S b:=λb hb=>⟨hb.1,λq X hq=>by obtain⟨o,Y,ho,hY,_⟩:=hEs hq;rw[hge ho];exact hb.2.2 o Y hY⟩;have hS2:∀o e r l fr b,st.ah o=some (.arr e r l fr)->blk (γ o)=some b->S b:=λo e r l fr b ho hb=>⟨(h.lt o _ b ho hb).1,λq X hq=>by
  obtain⟨o',Y,ho',hY,hk⟩:=hEs hq;rw[hge ho'];rcases hk with⟨e',r',l',fr',rfl,_,_⟩|⟨cs,_,rfl,_,_⟩
  · grind
  .exact h.sep o _ o' _ b ho hY (λe=>by grind) hb⟩
 have hbl:∀{q:Nat}{X:aB},E q=some X->∀b,blk (ge q)=some b->b<w.heap.size/\(w0.heap.size<=b\/M b):=λhq b hb=>by obtain⟨o,Y,ho,hY,_⟩:=hEs hq;rw[hge ho]at hb;exact h.lt o Y b hY hb
 have ajm:∀o x,E o=some x->bD XE o x/\∀b,blk (ge o)=some b->b<w.heap.size/\G.n<=b:=by
  intro q X hq;refine⟨?_,λb hb=>⟨(hbl hq b hb).1,?_⟩⟩
  .obtain⟨o,Y,ho,hY,hk⟩:=hEs hq;have hO:=h.ah o Y hY;rcases hk with⟨e,r,l,fr,rfl,rfl,_⟩|⟨cs,rfl,rfl,hr,_⟩
   · grind
   .obtain⟨b,arr,t,hγ,hheap,hcs⟩:=hO;refine⟨b,arr,t,(hge ho).trans hγ,hheap,?_⟩;have:=Cells.qL h (γ0:=λ_=>undef) cs _ hr hcs;exact D7 (Y:=⟨w,w.heap.size,(aj w0 T γ st w).foot,λ_=>undef,λ_=>none⟩) (Z:=XE) rfl (λfr b hb=>⟨⟨hb.1.1,λhlt=>hS1 b (hb.1.2.1 hlt),(hS1 b (hb.1.2.1 hb.1.1)).2⟩,hb.2⟩) _ _ (by rw[List.flatMap_map];rw[List.flatMap_eq_nil_iff]at hr ⊢;intro c hc;have:=hr c hc;cases c<;>first|rfl|(cases this;done)) this
  .rcases(hbl hq b hb).2 with g|g
   .exact as3 (G.low w0 hE.ok) g
   .exact hE.low b g
 have hsep:∀o x q y b,E o=some x->E q=some y->o≠q->blk (ge o)=some b->blk (ge q)≠some b:=by
  intro q1 X1 q2 X2 b h1 h2 hne hb;obtain⟨o1,Y1,ho1,hY1,_⟩:=hEs h1;obtain⟨o2,Y2,ho2,hY2,_⟩:=hEs h2;rw[hge ho1]at hb;rw[hge ho2];refine h.sep o1 Y1 o2 Y2 b hY1 hY2 ?_ hb
  grind [Md]
 have hargs:xC XE 0 as us.toList:=by
  obtain⟨hl,hget⟩:=lT.get xs us.toList hx;refine XY as us.toList 0 (by rw[hh.length.1,hl]) λj b u hb hu=>?_;rw[atS];obtain⟨x,o,hxj,hoj,hone⟩:=hh.get j b hb;have hrep:=hget j x u hxj hu;have d1:(j*64+49) / 64=j:=by omega
  have d2:(j*64+49)%64=49:=by omega
  have d3:(j*64+48) / 64=j:=by omega
  have d4:(j*64+48)%64=48:=by omega
  rcases hone with⟨rfl,hr,ha⟩|⟨q,e,r,l,fr,rfl,rfl,hq,rfl⟩|⟨q,cs,rfl,rfl,hq,hr,rfl⟩
  .have hr2:=EM h (γ0:=λ_=>undef) hS1 hS2 [x] [u] [b] ha ⟨hrep,trivial⟩;have hle:V.le ⟨w,w.heap.size,S,λ_=>undef,λ_=>none⟩ XE:=⟨as7 _,λc hcc=>⟨SL c (hcc.2.1 hcc.1),rfl⟩,(λ_ _ hcc=>by cases hcc),(λ_ _ _ _ _ hcc=>by cases hcc)⟩;have hA:=hr2.1;cases b with
   |sv v=>exact dw.mono hle v u hA
   |kp cs=>exact aQ.mono hle (.dA cs 0) u hA
   |fn g caps=>exact aQ.mono hle (.fn g caps) u hA
   |own _ _ _=>exact hA.elim
   |ptr _=>exact hA.elim
  .obtain⟨_,hu2,hone⟩:=hrep;refine⟨⟨e,r,l,false,?_⟩,?_,hone⟩
   .show eX as (j*64+49)=_;unfold eX;rw[d1,hb,d2]
   grind
  .obtain⟨c,cs',_,hγ,hv⟩:=hrep;refine⟨c,cs.map (Cell.view st),?_,?_,hv⟩
   .show eX as (j*64+48)=_;unfold eX;rw[d3,hb,d4]
   grind
 refine((hok as p ρ hc hp).2 k S ge us w (hE.at h) hargs ajm hsep λt ht o x hl=>?_).mono ?_
 · grind [WW]
 .rintro e w' ⟨t,ht,hpost⟩;obtain⟨δ,g1,g2,_⟩:=hch t ht;obtain⟨v,γ',rfl,g3,g4⟩:=h.SK hh agC g1 g2 (hpost.made (am0 t ht).1 (am0 t ht).2)
  grind
theorem aeH{base size n:Nat}{e:TypeId}{v:Value}{xs:List Value}(hown:w.ownsRow base e size v n xs):v.oneCell'=true/\(∀ad,v≠ .pointer (some ad)):=by rcases hown.2 with⟨h1,_⟩|⟨g,cap,cur,h1,_⟩<;>rw[h1]<;>exact⟨rfl,λ_ e=>by cases e⟩
theorem VK(hΘ:∀t ti,Θ t=some ti->jS P t ti)(h:Rel w0 M T γ st a w){t ty e:TypeId}{ti te:TI}(ht:Θ t=some ti)(hk:ti.kind=.slice e)(he:Θ e=some te)(k:Nat)(hpos:0<te.cells.len)
 {y:Cell} {news:List te.cells.den} {src:Value} (hy:aK (aj w0 T γ st w) y src)
 (hget:y.get st (.sl e te.cells)=some news) (hbig:news.length<=big):
 ∃u w' γ',(Builtin.append_ #[t,t] ty #[.slice none 0 0,src]).run P w=.ok u w'/\Rel w0 M T γ' ((st.kill (Nat.beq k ·)).add k (.arr e te.cells news (y.tN te.cells st))) a w'/\
  aQ (aj w0 T γ' ((st.kill (Nat.beq k ·)).add k (.arr e te.cells news (y.tN te.cells st))) w') (.sv (.one (.ref k))) u:=by
 obtain⟨v',w',ns,hrun,hown',hg,hnr,hgb⟩:=KH (P:=P) (ty:=ty) (hΘ t ti ht) hk (hΘ e te he) hpos (World.ownsRow_nil w 0 e te.cells.len) (Cell.agy h hy hget) (by omega);have ho:=aeH hown';have hnb:∀g,blk v'=some g->(some g=none\/w.heap.size<=g)/\g<w'.heap.size:=by
  intro g hb;refine⟨.inr ?_,aeE hown' g hb⟩;rcases hgb g (by grind [Jm])with h1|h1
  .cases h1
  .exact h1
 obtain⟨hR,_⟩:=h.replace (w':=w') (o:=k) (v':=v') (x':=.arr e te.cells news (y.tN te.cells st)) none (.inl rfl) hg.os hg.tape hg.output hg.size
  (λb hb hne=>hg.block b hb (by intro e1;cases e1)) hnb (λ_ e=>by cases e) (λle=>by
    refine⟨ns,?_,hpos,?_,λi x hi=>?_⟩
    · grind [upd_same]
    .intro b hb hf;have hb:blk (upd γ k v' k)=some b:=hb;rw[upd_same]at hb;rcases(hnb b hb).1 with h1|h1
     .cases h1
     .exact as3 h.grow h1
    .exact aZ.mono (λc hc=>le.bP _ c hc) _ _ x (hnr i x hi))
 exact⟨v',w',_,hrun,hR,⟨e,te.cells,_,_,add_same _ _ _⟩,(upd_same _ _ _).symm,ho.1⟩
theorem agF(hΘ:∀t ti,Θ t=some ti->jS P t ti)(h:Rel w0 M T γ st a w){t f e:TypeId}{ti te:TI}(ht:Θ t=some ti)(hk:ti.kind=.slice f)(he:Θ f=some te){o:Nat}{r:ak}{l:List r.den}{fr:Bool}
 (ho:st.ah o=some (.arr e r l fr)) {v:Value} (hv:aK (aj w0 T γ st w) (.ref o) v) {hi:Option Operand} {p:Prop} {x y:Nat} (hb:kL st l.length none hi=some (p,x,y)) (hp:p):
 ∃u γ',(Instr.sliceAt t v none (hi.map a.eval) none).run P w=.ok u w/\Rel w0 M T γ' ((st.kill (Nat.beq o ·)).add o (.arr e r (l.take y) fr)) a w/\
  aQ (aj w0 T γ' ((st.kill (Nat.beq o ·)).add o (.arr e r (l.take y) fr)) w) (.sv (.one (.ref o))) u:=by
 obtain⟨_,hvγ,_⟩:=hv;have hvγ:v=γ o:=hvγ;subst hvγ;obtain⟨xs,hown,hpos,hfr,hrow⟩:=h.ah o _ ho;have hown:w.ownsRow 0 e r.len (γ o) l.length xs:=hown;have hx0:x=0:=by
  cases hi with
  |none=>grind [kL]
  |some hh=>
   grind [kL]
 subst hx0;have hu:=(hΘ t ti ht).und;rw[hk]at hu;obtain⟨h1,h2⟩:=hown;have key:∃u,(Instr.sliceAt t (γ o) none (hi.map a.eval) none).run P w=.ok u w/\w.ownsRow 0 e r.len u y (xs.take (y*r.len))/\blk u=blk (γ o)/\y<=l.length:=by
  rcases h2 with⟨hn,hl0⟩|⟨g,cap,cur,hg,hg0,hh,hle,hmax,hsz,htake⟩
  .have hn:γ o=.slice none 0 0:=hn;obtain⟨hr,h3,h4⟩:=qf (P:=P) h (len:=l.length) (cap:=0) (by omega) hb hp true;have hy:y=0:=by omega
   refine⟨.slice none 0 0,?_,?_,by rw[hn],h4⟩
   .rw[hn];simp only[aul]at hr;rw[hl0]at hr;simp[Instr.sliceAt,Instr.slice,atx,ato hu.1 w,hr,(hΘ f te he).run_sizeOf,hy]
   grind
  .have hg:γ o=.slice (some ⟨g,0,none⟩) l.length cap:=hg;obtain⟨hr,h3,h4⟩:=qf (P:=P) h (len:=l.length) (cap:=cap) hle hb hp true;have hmul:y*r.len<=l.length*r.len:=atf _ h4;refine⟨.slice (some ⟨g,0,none⟩) y cap,?_,⟨?_,.inr ⟨g,cap,cur,rfl,hg0,hh,as3 h4 hle,hmax,hsz,?_⟩⟩,by rw[hg];rfl,h4⟩
   .rw[hg];simp only[aul]at hr;simp only[Instr.sliceAt,Instr.slice,atx,ato hu.1 w,atT,hr,(hΘ f te he).run_sizeOf];simp[addr_add]
   · grind
   grind
 obtain⟨u,hrun,hown',hblk,hyl⟩:=key;have hone:=aeH hown';obtain⟨hR,_⟩:=h.replace (w':=w) (o:=o) (v':=u) (x':=.arr e r (l.take y) fr) (blk (γ o)) (.inr ⟨_,ho,rfl⟩) rfl rfl rfl (as7 _) (λ_ _ _=>rfl)
  (λg hg=>⟨.inl (by grind),(h.lt o _ g ho (by grind)).1⟩) (λ_ e=>by cases e) (λle=>by
    have hlen:(l.take y).length=y:=by grind
    refine⟨xs.take (y*r.len),?_,hpos,?_,λi z hi=>?_⟩
    · grind [upd_same]
    · grind [upd_same]
    .have hil:i<y:=by grind
     have hmul:i*r.len+r.len<=y*r.len:=by
      have:(i+1)*r.len<=y*r.len:=atf _ hil
      grind
     rw[atJ,if_pos hil]at hi;rw[fH _ _ _ _ hmul];exact aZ.mono (λc hc=>le.bP _ c hc) _ _ z (hrow i z hi))
 exact⟨u,_,hrun,hR,⟨e,r,_,_,add_same _ _ _⟩,(upd_same _ _ _).symm,hone.1⟩
theorem aeI{G:iV}(hE:pK P G Θ Γ w0 M)(h:Rel w0 M T γ st a w)(o:Oper){d:Nat}{p:Prop}{v:AV}{s:St}
 (hc:eff Θ Γ d st o.op=some (p,v,s)) (hp:p) {next:Act->World->Prop} {Q:Exit->Act->World->Prop}
 (hn:∀u γ' w',Rel w0 M T γ' s a w'->aQ (aj w0 T γ' s w') v u->next (a.put o.dst u) w'):o.wp P a w next Q:=by
 cases hop:o.op<;>rw[hop]at hc<;>try (simp only[eff,reduceCtorEq]at hc;done)
 case store t x y=>
  simp only[eff]at hc;split at hc
  .next sv ti hev ht=>
   split at hc
   .next hlen=>
    split at hc
    .next q s' hs=>
     cases hc;have hF:=h.freeze (zX (st.ev x) sv);have hy:=gU h y;rw[hev]at hy;have hpv:=aQ.freeze (zX (st.ev x) sv) h _ _ (gU h x);have hyv:=dw.freeze (zX (st.ev x) sv) h _ _ hy;have hl2:(sv.freeze st (zX (st.ev x) sv)).cells.length=ti.cells.len:=by
      have h1:=ai.length _ _ (dw.cells _ _ hyv);have h2:=ai.length _ _ (dw.cells _ _ hy)
      simp_all
     obtain⟨w',hr,hR⟩:=aeD (P:=P) hE.types hF ht hs hp hpv hyv hl2;have hr2:(execOp a.eval o).run P w=.ok .skip w':=by
      simp_all [execOp]
     unfold Oper.wp;rw[hr2];exact hn undef γ w' hR trivial
    .cases hc
   .cases hc
  .cases hc
 case buildSlice t len parts=>
  simp only[eff]at hc;split at hc
  .next q v' δ hcalm=>
   split at hc
   .next hfr=>cases hc;exact Ir hE (h.freeze ((kK st parts.toList).contains ·)) o (by rw[hop];exact hcalm) hp hfr hn
   .cases hc
  .cases hc
 case slice t x lo hi mx=>
  cases mx with
  |some m=>grind [eff]
  |none=>
   cases lo with
   |none=>
    simp only[eff]at hc;split at hc
    .next ti r ht hev=>
     have hx:=lN h hev;split at hc
     .next f e rr l fr hk ho=>
      split at hc
      .next te q i j he hb=>
       split at hc
       .next hbeq=>
        cases hc;obtain⟨u,γ',hr,hR,hv⟩:=agF (P:=P) hE.types h ht hk he ho hx hb hp;refine Oper.kD (u:=u) (w':=w) ?_ (hn u γ' w hR hv)
        simp_all [execOp]
       .cases hc
      .cases hc
     .cases hc
    .cases hc
   |some l0=>
    simp only[eff]at hc;split at hc
    .next ti r ht hev=>
     split at hc
     .next f e rr l fr hk ho=>
      split at hc
      .next te q i j he hb=>
       split at hc
       .next hbeq=>
        split at hc
        .next q' v' hq=>cases hc;exact Ir (δ:=[]) hE (h.freeze (Nat.beq r ·)) o (by rw[hop];exact hq) hp rfl hn
        .cases hc
       .cases hc
      .cases hc
     .cases hc
    .cases hc
 case call c=>
  obtain⟨callee,args,ny⟩:=c;cases callee with
  |invoke r m=>grind [eff]
  |builtin b=>
   cases b<;>try (simp only[eff,reduceCtorEq]at hc;done)
   case append=>
    simp only[eff]at hc;split at hc
    .next sx x t u hargs acZ=>
     split at hc
     .next ti c y htu ht hes hex=>
      have htu:=asX htu;subst htu;have ha:args.map a.eval=#[a.eval sx,a.eval x]:=by apply auU;simp[hargs]
      have ht':ny=#[t,t]:=by grind
      have hrun:execOp a.eval o=(do pure (Next.value (← Builtin.append_ #[t,t] o.type #[a.eval sx,a.eval x]))):=by rw[vW hop,ha,ht'];rfl
      have h1:=lN h hes;have h2:=lN h hex;split at hc
      .next e hk=>
       split at hc
       .next te he=>
        split at hc
        .next news r hget=>
         split at hc
         .next f rr l fr ho=>
          split at hc
          .next hbeq=>
           split at hc
           .next hef=>cases hc;have hef:=asX hef;subst hef;obtain⟨v',w',γ',hr,hR,hv⟩:=afq (P:=P) (ty:=o.type) hE.types h ht hk he ho hbeq h1 h2 hget hp;exact Oper.kD (by simp_all) (hn v' γ' w' hR hv)
           .cases hc
          .cases hc
         .cases hc
        .next news hget=>
         split at hc
         .next OI=>cases hc;have hs0:a.eval sx=.slice none 0 0:=h1;obtain⟨v',w',γ',hr,hR,hv⟩:=VK (P:=P) (ty:=o.type) hE.types h ht hk he (d*64+1) (atL OI) h2 hget hp;exact Oper.kD (by simp_all) (hn v' γ' w' hR hv)
         .cases hc
        .cases hc
       .cases hc
      .cases hc
     .next ti o1 Ec n0 o2 lo2 n2 htu ht hes hex=>
      have htu:=asX htu;subst htu;have ha:args.map a.eval=#[a.eval sx,a.eval x]:=by apply auU;simp[hargs]
      have ht':ny=#[t,t]:=by grind
      have hrun:execOp a.eval o=(do pure (Next.value (← Builtin.append_ #[t,t] o.type #[a.eval sx,a.eval x]))):=by rw[vW hop,ha,ht'];rfl
      obtain⟨v',w',hr,hR,hv⟩:=VJ (P:=P) (ty:=o.type) hE.types h ht hes hex hc hp;exact Oper.kD (by simp_all) (hn v' γ w' hR hv)
     .cases hc
    .cases hc
   case clear=>
    simp only[eff]at hc;split at hc
    .next x t hargs acZ=>
     split at hc
     .next ti o1 lo n ht hev=>
      have ha:args.map a.eval=#[a.eval x]:=by apply auU;simp[hargs]
      have ht':ny=#[t]:=by grind
      have hrun:execOp a.eval o=(do pure (Next.value (← Builtin.clear_ #[t] o.type #[a.eval x]))):=by rw[vW hop,ha,ht'];rfl
      obtain⟨v',w',hr,hR,hv⟩:=XW (P:=P) (ty:=o.type) hE.types h ht hev hc hp;exact Oper.kD (by simp_all) (hn v' γ w' hR hv)
     .cases hc
    .cases hc
  |value x=>
   simp only[eff]at hc;split at hc
   .next f caps hx=>
    have hv:=gU h x;rw[hx]at hv;obtain⟨us,ZV,hkx⟩:=hv;split at hc
    .next con hcon=>
     split at hc
     .next vs hargs hrefs=>
      split at hc
      .next q out hq=>
       split at hc
       .next hfr=>cases hc;have hF:=h.freeze (agh st args.toList caps);obtain⟨hok,hcall⟩:=hE.cons f con hcon;unfold Oper.wp;rw[KG hop ZV hcall,auV];have hrep:=yE hF (γ0:=λ_=>undef) _ _ vs hargs hrefs (lT.freeze _ h _ _ (EN h hkx args.toList));rw[← aut,← auA]at hrep;refine(hok vs _ out (d*64+1) _ (args.map a.eval++us) w hq hp (hE.at h) hrep).mono ?_;rintro e w' ⟨u,vals,rfl,h1,h2,h3,h4,h5,h6,h7,h8⟩;obtain⟨γ',g1,g2⟩:=hF.called (by omega) hfr h1 h2 h3 h4 h5 (.inr rfl) h6 h7 h8;exact hn u γ' w' g1 g2
       .cases hc
      .cases hc
     .cases hc
    .cases hc
   .cases hc
theorem akD{G:iV}(hE:pK P G Θ Γ w0 M)(h:Rel w0 M T γ st a w)(o:Oper){d:Nat}{p:Prop}{ρ:L8}{os:List (Option Nat)}{s0:St}
 (hc:ZP Γ st o.op=some (p,ρ,os,s0)) (hp:p) (hch:∀t,ρ.R t->∃r,Vm d s0 os (ρ.out t) (ρ.aJ t)=some r) {next:Act->World->Prop} {Q:Exit->Act->World->Prop}
 (hn:∀t v s u γ' w',ρ.R t->Vm d s0 os (ρ.out t) (ρ.aJ t)=some (v,s)->Rel w0 M T γ' s a w'->aQ (aj w0 T γ' s w') v u->next (a.put o.dst u) w'):o.wp P a w next Q:=by
 unfold ZP at hc;split at hc
 case h_2=>cases hc
 next x args ny hop=>
 split at hc
 case h_2=>cases hc
 next f caps hx=>
 have hv:=gU h x;rw[hx]at hv;obtain⟨us,ZV,hkx⟩:=hv;split at hc
 case h_2=>cases hc
 next ms con hcon=>
 split at hc
 case h_2=>cases hc
 next vs os' SN=>
 split at hc
 case h_2=>cases hc
 next q ρ' hq=>
 cases hc;have hF:=h.freeze (Vl st ms args.toList caps);obtain⟨hok,hcall⟩:=hE.afW f ms con hcon;unfold Oper.wp;rw[KG hop ZV hcall,auV];have hxs:lT (aj w0 T γ (Jj st ms args.toList caps) w) (aky st ms args.toList caps) (args.map a.eval++us).toList:=by rw[auA,aut];exact lT.freeze (Vl st ms args.toList caps) h _ _ (EN h hkx args.toList)
 have hk:(d*64+1)%64=1:=by omega
 have hspec:∀t,ρ.R t->∃δ,(vU os=true/\G5 (ρ.aJ t) ((ρ.out t).take (d*64+1)).2=true)/\lX (Jj st ms args.toList caps) os (ρ.aJ t)=some δ/\iP ((Jj st ms args.toList caps).kill (ig os (ρ.aJ t))) ((ρ.out t).take (d*64+1)).2=true/\
  Vm d (Jj st ms args.toList caps) os (ρ.out t) (ρ.aJ t)=some (((ρ.out t).take (d*64+1)).1,(((Jj st ms args.toList caps).kill (ig os (ρ.aJ t))).adds δ).adds ((ρ.out t).take (d*64+1)).2):=by
  grind [Vm]
 obtain⟨t0,ht0⟩:=(hok vs _ ρ hq hp).1;obtain⟨_,⟨hnd,_⟩,_⟩:=hspec t0 ht0;refine(hF.aiC hE hxs (OJ ms _ vs os SN) hnd hk hok hq hp λt ht=>?_).mono ?_
 .obtain⟨δ,g1,g2,g3,_⟩:=hspec t ht;exact⟨δ,g2,g3,g1.2⟩
 .rintro e w' ⟨t,δ,ht,hb,u,γ',rfl,g1,g2⟩;obtain⟨δ',_,g3,_,g4⟩:=hspec t ht;have hδ:δ'=δ:=Option.some.inj (g3.symm.trans hb);subst hδ;exact hn t _ _ u γ' w' ht g4 g1 g2
theorem ajn{G:iV}(hE:pK P G Θ Γ w0 M)(h:Rel w0 M T γ st a w)(o:Oper){d:Nat}{p:Prop}{v:AV}{s:St}
 (hc:oper Θ Γ d st o.op=some (p,v,s)) (hp:p) {next:Act->World->Prop} {Q:Exit->Act->World->Prop}
 (hn:∀u γ' w',Rel w0 M T γ' s a w'->aQ (aj w0 T γ' s w') v u->next (a.put o.dst u) w'):o.wp P a w next Q:=by
 grind [oper,Ir,aeI]
end Go.Fw
namespace Go.Fw
open Go
structure St.more(st s:St):Prop where
 tmps:∀t,st.tmps t=.undef\/s.tmps t=st.tmps t
 ah:∀o x,st.ah o=some x->s.ah o=some x
variable {st s:St} {Θ:gY} {Γ:je}
theorem I8(h:st.more s)(x:Operand):st.ev x=.undef\/s.ev x=st.ev x:=by
 cases x with
 |tmp t=>exact h.tmps t
 |const v=>exact .inr rfl
 |global g=>exact .inr rfl
 |func f=>exact .inr rfl
theorem bG(h:st.more s){x:Operand}{v:AV}(e:st.ev x=v)(hv:v≠ .undef):s.ev x=v:=by
 grind [I8]
theorem oD(h:st.more s){x:Operand}{n:Int}(e:qX (st.ev x)=some n):qX (s.ev x)=some n:=by
 rcases I8 h x with h1|h1
 .rw[h1]at e;cases e
 grind
theorem X3(h:st.more s):∀(c:CT)(x:Cell)(d:c.den),x.get st c=some d->x.get s c=some d:=by
 intro c x d hg;cases c<;>cases x<;>simp only[Cell.get]at hg ⊢<;>try exact hg
 case sl.ref e r o=>
  split at hg
  .next e' r' l fr ho=>rw[h.ah o _ ho];exact hg
  .cases hg
theorem WZ(h:st.more s):∀(r:ak)(cs:List Cell)(d:r.den),yg st r cs=some d->yg s r cs=some d
 |.nil,[],_,hg=>hg
 |.nil,_::_,_,hg=>by grind [yg]
 |.cons _ _,[],_,hg=>by grind [yg]
 |.cons c r,x::xs,d,hg=>by
  rw[yg]at hg ⊢;split at hg
  .next a b ha hb=>rw[X3 h c x a ha,WZ h r xs b hb];exact hg
  .cases hg
theorem SQ(h:st.more s)(fs:List (Nat×TypeId)):∀(ps:List (Nat×Operand))(cs ds:List Cell),F6 Θ st fs ps cs=some ds->F6 Θ s fs ps cs=some ds
 |[],_,_,hb=>hb
 |(i,x)::r,cs,ds,hb=>by
  rw[F6]at hb ⊢;split at hb
  .next off t v hf hev=>
   rw[hf,bG h hev (by simp)];dsimp only;split at hb
   .next ti ht=>
    split at hb
    .next hle=>exact SQ h fs r _ ds hb
    .cases hb
   .cases hb
  .cases hb
theorem W9(h:st.more s)(r:ak):∀(ps:List (Nat×Operand))(k:Nat)(l:List r.den),CB st r k ps=some l->CB s r k ps=some l
 |[],_,_,hb=>hb
 |(i,x)::ps,k,l,hb=>by
  rw[CB]at hb ⊢;split at hb
  .next v l' hik hev hl=>
   rw[hik,bG h hev (by simp),W9 h r ps (k+1) l' hl]
   grind [WZ]
  .cases hb
theorem SS(r:ak):∀(ps:List (Nat×Operand))(k:Nat)(l:List r.den),CB st r k ps=some l->∀x∈ps,∃v,st.ev x.2=.sv v
 |[],_,_,_,x,hx=>by cases hx
 |(i,y)::ps,k,l,hb,x,hx=>by
  rw[CB]at hb;split at hb
  .next v l' hik hev hl=>
   rcases atw.1 hx with rfl|hx
   .exact⟨v,hev⟩
   .exact SS r ps (k+1) l' hl x hx
  .cases hb
theorem Nq(h:st.more s):∀(ps:List (Nat×Operand)),(∀x∈ps,∃v,st.ev x.2=.sv v)->kK s ps=kK st ps
 |[],_=>rfl
 |(i,x)::ps,hk=>by obtain⟨v,hv⟩:=hk (i,x) as9;rw[kK,kK,Nq h ps (λy hy=>hk y (as8 _ hy)),bG h hv (by simp),hv]
theorem ah6:∀(c:Cell),c.refs=[]->c.fresh s=c.fresh st
 |.int _ _,_|.bool _,_|.str _,_|.nil,_|.sl _ _ _ _,_|.junk,_=>rfl
 |.ref _,h=>by cases h
theorem aeJ:∀(cs:List Cell),cs.flatMap Cell.refs=[]->cs.all (Cell.fresh s)=cs.all (Cell.fresh st)
 |[],_=>rfl
 |c::cs,h=>by rw[atG,aty]at h;rw[atQ,atQ,ah6 c h.1,aeJ cs h.2]
theorem KL(h:st.more s):∀(ps:List (Nat×Operand)),(∀x∈ps,∃v,st.ev x.2=.sv v)->kK st ps=[]->lD s ps=lD st ps
 |[],_,_=>rfl
 |(i,x)::ps,hk,hr=>by obtain⟨v,hv⟩:=hk (i,x) as9;rw[kK,aty,hv]at hr;rw[lD,lD,KL h ps (λy hy=>hk y (as8 _ hy)) hr.2,bG h hv (by simp),hv];dsimp only;rw[aeJ v.cells hr.1]
theorem akE(h:st.more s):∀(c:Cell),c.ok st=true->c.view s=c.view st/\c.ok s=true
 |.int _ _,_|.bool _,_|.str _,_|.nil,_|.sl _ _ _ _,_|.junk,_=>⟨rfl,rfl⟩
 |.ref o,hk=>by
  simp only[Cell.ok]at hk;split at hk
  .next e r l fr ho=>exact⟨by simp only[Cell.view,ho,h.ah o _ ho],by simp only[Cell.ok,h.ah o _ ho]⟩
  .cases hk
theorem Iy(h:st.more s):∀(cs:List Cell),cs.all (Cell.ok st)=true->cs.map (Cell.view s)=cs.map (Cell.view st)/\cs.all (Cell.ok s)=true
 |[],_=>⟨rfl,rfl⟩
 |c::cs,hk=>by rw[atQ,as1]at hk;obtain⟨h1,h2⟩:=akE h c hk.1;obtain⟨h3,h4⟩:=Iy h cs hk.2;exact⟨by rw[att,att,h1,h3],by rw[atQ,h2,h4];rfl⟩
theorem ah7(h:st.more s)(v:SV)(hk:v.cells.all (Cell.ok st)=true):v.view s=v.view st/\v.cells.all (Cell.ok s)=true:=by
 obtain⟨h1,h2⟩:=Iy h v.cells hk;cases v with
 |one c=>grind [SV.cells,SV.view]
 |agg cs=>grind [SV.cells,SV.view]
theorem yF(h:st.more s):∀(xs:List AV)(vs:List Arg),mG st xs=some vs->mG s xs=some vs
 |[],_,hv=>hv
 |x::xs,vs,hv=>by
  unfold mG at hv ⊢;split at hv
  .next v us hu=>
   rw[yF h xs us hu];split at hv
   .next hk=>obtain⟨h1,h2⟩:=ah7 h v hk;dsimp only;rw[h2,h1];exact hv
   .cases hv
  .next cs off us hu=>
   rw[yF h xs us hu];split at hv
   .next hk=>
    rw[as1]at hk;obtain⟨h1,h2⟩:=Iy h cs hk.2
    grind
   .cases hv
  .next f caps us hu=>
   rw[yF h xs us hu];split at hv
   .next hk=>
    have key:∀(caps:List (List Cell)),caps.all (List.all · (Cell.ok st))=true->caps.map (List.map (Cell.view s))=caps.map (List.map (Cell.view st))/\caps.all (List.all · (Cell.ok s))=true:=by
     intro caps
     induction caps with
     |nil=>grind
     |cons cs l ih=>
      grind [Iy]
    grind
   .cases hv
  .cases hv
theorem EP:∀(xs:List AV)(vs:List Arg),mG st xs=some vs->∀x∈xs,x≠ .undef
 |[],_,_,x,hx=>by cases hx
 |y::xs,vs,hv,x,hx=>by
  unfold mG at hv;split at hv
  .next v us hu=>
   rcases atw.1 hx with rfl|hx
   .simp
   .exact EP xs us hu x hx
  .next cs off us hu=>
   rcases atw.1 hx with rfl|hx
   .simp
   .exact EP xs us hu x hx
  .next f caps us hu=>
   rcases atw.1 hx with rfl|hx
   .simp
   .exact EP xs us hu x hx
  .cases hv
theorem Me(h:st.more s)(caps:List (List Cell)):∀(xs:List Operand),(∀x∈handed st xs caps,x≠ .undef)->handed s xs caps=handed st xs caps
 |[],_=>rfl
 |x::xs,hk=>by have h1:s.ev x=st.ev x:=bG h rfl (hk _ as9);have h2:=Me h caps xs λy hy=>hk y (as8 _ hy);show s.ev x::handed s xs caps=st.ev x::handed st xs caps;rw[h1,h2]
theorem Xa(h:st.more s):∀(xs:List Operand)(l:List (List Cell)),heldBy st xs=some l->heldBy s xs=some l
 |[],_,hl=>hl
 |x::xs,l,hl=>by
  rw[heldBy]at hl ⊢;split at hl
  .next cs off l' hx hl'=>rw[bG h hx (by simp),Xa h xs l' hl'];exact hl
  .cases hl
theorem OM(h:st.more s)(len:Nat)(lo hi:Option Operand){r:Prop×Nat×Nat}(hb:kL st len lo hi=some r):kL s len lo hi=some r:=by
 cases lo<;>cases hi<;>simp only[kL]at hb ⊢
 .exact hb
 · grind [oD]
 · grind [oD]
 grind [oD]
def AV.less(v v':AV):Prop:=v=.undef\/v'=v
theorem ah8(h:st.more s){n room:Nat}{lo hi:Option Operand}{r:Prop×Nat×Nat}(hb:Sj st n room lo hi=some r):Sj s n room lo hi=some r:=by cases hi<;>simp only[Sj]at hb ⊢<;>exact OM h _ _ _ hb
theorem akF(h:st.more s)(d:Nat)(o:Op){p:Prop}{v:AV}{δ:List (Nat×aB)}(hc:calm Θ Γ d st o=some (p,v,δ)):
 ∃v',calm Θ Γ d s o=some (p,v',δ)/\v.less v':=by
 have same:∀{r:Option (Prop×AV×List (Nat×aB))},r=some (p,v,δ)->calm Θ Γ d s o=r->∃v',calm Θ Γ d s o=some (p,v',δ)/\v.less v':=
  λh1 h2=>⟨v,h2.trans h1,.inr rfl⟩
 cases o<;>try (simp only[calm,reduceCtorEq]at hc;done)
 case move x=>simp only[calm]at hc ⊢;cases hc;exact⟨_,rfl,I8 h x⟩
 case assign x=>simp only[calm]at hc ⊢;cases hc;exact⟨_,rfl,I8 h x⟩
 case pick c x y=>
  simp only[calm]at hc ⊢;split at hc
  .next g hg=>
   cases hc;rw[bG h hg (by simp)];refine⟨_,rfl,?_⟩;cases g
   .exact I8 h y
   .exact I8 h x
  .cases hc
 case nilCheck x=>
  simp only[calm]at hc ⊢;split at hc
  .next a b e=>rw[bG h e (by simp)];exact⟨v,hc,.inr rfl⟩
  .next a b c e=>rw[bG h e (by simp)];exact⟨v,hc,.inr rfl⟩
  .next a b c d e=>rw[bG h e (by simp)];exact⟨v,hc,.inr rfl⟩
  .next a b e=>rw[bG h e (by simp)];exact⟨v,hc,.inr rfl⟩
  .next a b e=>rw[bG h e (by simp)];exact⟨v,hc,.inr rfl⟩
  .cases hc
 case makeFunc fn first captured=>
  cases fn<;>try (simp only[calm,reduceCtorEq]at hc;done)
  case func f=>
   simp only[calm]at hc ⊢;split at hc
   .next l hfirst hl=>rw[Xa h _ _ hl,hfirst];exact⟨v,hc,.inr rfl⟩
   .cases hc
 case alloc t=>exact⟨v,hc,.inr rfl⟩
 case box t x=>
  simp only[calm]at hc ⊢;split at hc
  .next a e=>rw[bG h e (by simp)];exact⟨v,hc,.inr rfl⟩
  .cases hc
 case build t parts=>
  simp only[calm]at hc ⊢;split at hc
  .next ti ht=>
   split at hc
   .next fs hk=>
    split at hc
    .next cs hb=>rw[SQ h _ _ _ _ hb];exact⟨v,hc,.inr rfl⟩
    .cases hc
   .cases hc
  .cases hc
 case buildSlice t len parts=>
  simp only[calm]at hc ⊢;split at hc
  .next ti ht=>
   split at hc
   .next e hk=>
    split at hc
    .next te he=>
     split at hc
     .next l hb hrefs hrows=>have hkn:=SS _ _ _ _ hrows;rw[hb,Nq h _ hkn,hrefs,W9 h _ _ _ _ hrows,KL h _ hkn hrefs];exact⟨v,hc,.inr rfl⟩
     .cases hc
    .cases hc
   .cases hc
  .cases hc
 case makeSlice t x y=>
  simp only[calm]at hc ⊢;split at hc
  .next ti n c ht hn hcc=>rw[ht,oD h hn,oD h hcc];exact⟨v,hc,.inr rfl⟩
  .cases hc
 case load t x=>
  simp only[calm]at hc ⊢;split at hc
  .next ti o off ht he=>
   rw[ht,bG h he (by simp)];split at hc
   .next cs ho=>dsimp only;rw[h.ah o _ ho];exact⟨v,hc,.inr rfl⟩
   .cases hc
  .next ti o i off ht he=>
   rw[ht,bG h he (by simp)];split at hc
   .next e r l fr ho=>dsimp only;rw[h.ah o _ ho];exact⟨v,hc,.inr rfl⟩
   .cases hc
  .next ti r y off fr ht he=>rw[ht,bG h he (by simp)];exact⟨v,hc,.inr rfl⟩
  .next ti cs off ht he=>rw[ht,bG h he (by simp)];exact⟨v,hc,.inr rfl⟩
  .cases hc
 case fieldAddr t x f=>
  simp only[calm]at hc ⊢;split at hc
  .next ti ht=>
   split at hc
   .next fs hk=>
    split at hc
    .next k t hf=>
     split at hc
     .next te hte=>
      split at hc
      .cases hc
      .next a b e hne=>rw[bG h e (by simp)];cases hcell:te.cells with|nil=>grind|cons _ _=>exact⟨v,hc,.inr rfl⟩
      .next a b c e hne=>rw[bG h e (by simp)];cases hcell:te.cells with|nil=>grind|cons _ _=>exact⟨v,hc,.inr rfl⟩
      .next a b c d e hne=>rw[bG h e (by simp)];cases hcell:te.cells with|nil=>grind|cons _ _=>exact⟨v,hc,.inr rfl⟩
      .next a b e hne=>rw[bG h e (by simp)];cases hcell:te.cells with|nil=>grind|cons _ _=>exact⟨v,hc,.inr rfl⟩
      .cases hc
     .cases hc
    .cases hc
   .cases hc
  .cases hc
 case field t x f=>
  simp only[calm]at hc ⊢;split at hc
  .next ti ht=>
   split at hc
   .next fs hk=>
    split at hc
    .next k t cs hf e=>rw[hf,bG h e (by simp)];exact⟨v,hc,.inr rfl⟩
    .cases hc
   .cases hc
  .cases hc
 case indexAddr t x ix=>
  simp only[calm]at hc ⊢;split at hc
  .next ti n ht hn=>
   rw[ht,oD h hn]
   try dsimp only
   split at hc
   .next e hk=>
    split at hc
    .next te e' r l fr he hev=>rw[he,bG h hev (by simp)];exact⟨v,hc,.inr rfl⟩
    .next te o he hev=>
     rw[he,bG h hev (by simp)]
     try dsimp only
     split at hc
     .next a b c d ho=>rw[h.ah o _ ho];exact⟨v,hc,.inr rfl⟩
     .cases hc
    .next te he hev=>rw[he,bG h hev (by simp)];exact⟨v,hc,.inr rfl⟩
    .cases hc
   .cases hc
  .cases hc
 case index t x ix=>
  simp only[calm]at hc ⊢;split at hc
  .next ti n b ht hn hev=>rw[ht,oD h hn,bG h hev (by simp)];exact⟨v,hc,.inr rfl⟩
  .cases hc
 case binOp op t x y t'=>
  simp only[calm]at hc ⊢;split at hc
  .next a b e1 e2=>rw[bG h e1 (by simp),bG h e2 (by simp)];exact⟨v,hc,.inr rfl⟩
  .next a b e1 e2=>rw[bG h e1 (by simp),bG h e2 (by simp)];exact⟨v,hc,.inr rfl⟩
  .cases hc
 case unOp op t x=>
  simp only[calm]at hc ⊢;split at hc
  .next b e=>rw[bG h e (by simp)];exact⟨v,hc,.inr rfl⟩
  .next k n e=>rw[bG h e (by simp)];exact⟨v,hc,.inr rfl⟩
  .cases hc
 case convert a b x=>
  simp only[calm]at hc ⊢;split at hc
  .next ts td c hs hd e=>
   rw[hs,hd,bG h e (by simp)]
   try dsimp only
   split at hc
   .cases hc
   .next hagg=>
    rw[if_neg hagg];split at hc
    .exact⟨v,hc,.inr rfl⟩
    .exact⟨v,hc,.inr rfl⟩
    .exact⟨v,hc,.inr rfl⟩
    .next e' c' e1 e2=>
     split at hc
     .next l te hl hte=>rw[X3 h _ _ _ hl,hte];exact⟨v,hc,.inr rfl⟩
     .cases hc
    .cases hc
  .cases hc
 case extract x i=>
  simp only[calm]at hc ⊢;split at hc
  .next a e=>rw[bG h e (by simp)];exact⟨v,hc,.inr rfl⟩
  .cases hc
 case slice t x lo hi mx=>
  cases mx with
  |some m=>
   cases lo with
   |none=>simp only[calm,reduceCtorEq]at hc
   |some lo=>
    cases hi with
    |none=>simp only[calm,reduceCtorEq]at hc
    |some hi=>
     simp only[calm]at hc ⊢;split at hc
     .next ti o ht e=>
      rw[ht,bG h e (by simp)]
      try dsimp only
      split at hc
      .next f e' r l fr hk ho=>
       split at hc
       .next te n1 n2 n3 he h1 h2 h3=>rw[hk,h.ah o _ ho];dsimp only;rw[he,oD h h1,oD h h2,oD h h3];exact⟨v,hc,.inr rfl⟩
       .cases hc
      .cases hc
     .cases hc
  |none=>
   simp only[calm]at hc ⊢;split at hc
   .next ti b ht e=>
    rw[ht,bG h e (by simp)]
    try dsimp only
    split at hc
    .next p' x' y' hk hb=>rw[hk,OM h _ _ _ hb];exact⟨v,hc,.inr rfl⟩
    .cases hc
   .next ti e' r l fr ht e=>
    rw[ht,bG h e (by simp)]
    try dsimp only
    split at hc
    .next f p' x' y' hk hb=>rw[hk,OM h _ _ _ hb];exact⟨v,hc,.inr rfl⟩
    .cases hc
   .next ti ht e=>
    rw[ht,bG h e (by simp)]
    try dsimp only
    split at hc
    .next f p' x' y' hk hb=>rw[hk,OM h _ _ _ hb];exact⟨v,hc,.inr rfl⟩
    .cases hc
   .next ti o Ec n0 ht e=>
    rw[ht,bG h e (by simp)]
    try dsimp only
    split at hc
    .next f e' r l fr hk ho=>
     split at hc
     .next te p' x' y' he hb=>rw[hk,h.ah o _ ho];dsimp only;rw[he,ah8 h hb];exact⟨v,hc,.inr rfl⟩
     .cases hc
    .cases hc
   .cases hc
 case call c=>
  obtain⟨callee,args,ny⟩:=c;cases callee with
  |invoke r m=>simp only[calm,reduceCtorEq]at hc
  |builtin b=>
   cases b<;>try (simp only[calm,reduceCtorEq]at hc;done)
   case len=>
    simp only[calm]at hc ⊢;split at hc
    .next x t hargs acZ=>
     split at hc
     .next ti c ht e=>
      rw[ht,bG h e (by simp)]
      try dsimp only
      split at hc
      .next b hk=>exact⟨v,hc,.inr rfl⟩
      .next a b c d e hk=>exact⟨v,hc,.inr rfl⟩
      .next a hk=>exact⟨v,hc,.inr rfl⟩
      .next a o hk=>
       split at hc
       .next e' r l fr ho=>rw[h.ah o _ ho];exact⟨v,hc,.inr rfl⟩
       .cases hc
      .cases hc
     .next ti o lo n ht e=>rw[ht,bG h e (by simp)];exact⟨v,hc,.inr rfl⟩
     .cases hc
    .cases hc
   case min=>
    simp only[calm]at hc ⊢;split at hc
    .next x y hargs=>
     split at hc
     .next a b c d e1 e2=>rw[bG h e1 (by simp),bG h e2 (by simp)];exact⟨v,hc,.inr rfl⟩
     .cases hc
    .cases hc
   case max=>
    simp only[calm]at hc ⊢;split at hc
    .next x y hargs=>
     split at hc
     .next a b c d e1 e2=>rw[bG h e1 (by simp),bG h e2 (by simp)];exact⟨v,hc,.inr rfl⟩
     .cases hc
    .cases hc
  |value x=>
   simp only[calm]at hc ⊢;split at hc
   .next f caps hx=>
    rw[bG h hx (by simp)];dsimp only;split at hc
    .next con vs hcon hargs=>rw[hcon,Me h caps _ (EP _ _ hargs),yF h _ _ hargs];exact⟨v,hc,.inr rfl⟩
    .cases hc
   .cases hc
end Go.Fw
namespace Go.Fw
open Go
variable {P:Program} {w0:World} {M:Nat->Prop} {T:Ext} {γ γ':Nat->Value} {st:St} {a:Act} {w w':World} {Θ:gY} {Γ:je}
def numOf(st:St)(o:Oper):Nat:=match o.dst with|some d=>d|none=>st.n
def am1(d o:Nat):Bool:=Nat.beq (o / 64) d
def aob(d o:Nat):Bool:=Nat.beq (o / 64) d&&!(Nat.beq (o%64) 0)
def makes:Op->Bool
 |.alloc _|.box _ _|.buildSlice _ _ _|.makeSlice _ _ _=>true
 |.call {callee:=.value _,.. }=>true
 |_=>false
def agG:Op->Bool
 |.buildSlice _ _ _|.makeSlice _ _ _=>true
 |.call {callee:=.value _,.. }=>true
 |_=>false
def ajo(Θ:gY)(Γ:je)(d:Nat)(st:St)(op:Op):Option (Prop×AV×St):=
 match oper Θ Γ d st op with
 |some r=>some r
 |none=>match makes op with
  |true=>oper Θ Γ d (st.kill (am1 d)) op
  |false=>none
def quiet(st:St):Op->Bool
 |.move _|.assign _|.nilCheck _|.pick _ _ _|.alloc _|.box _ _|.build _ _|.buildSlice _ _ _|.fieldAddr _ _ _|.field _ _ _|.unOp _ _ _|.convert _ _ _|.extract _ _|.makeFunc _ _ _=>true
 |.call {callee:=.builtin .len,.. }|.call {callee:=.builtin .min,.. }|.call {callee:=.builtin .max,.. }=>true
 |.load _ p=>match st.ev p with|.lI _ _ _=>false|_=>true
 |.store _ p _=>match st.ev p with|.eG _ _=>true|_=>false
 |.binOp op _ x _ _=>match op with
  |.quo|.rem|.shl|.shr=>false
  |.add=>match st.ev x with|.sv (.one (.str _))=>false|_=>true
  |_=>true
 |_=>false
theorem agH{op:BinOp}{k:IntKind}{x y:Int}{p:Prop}{c:Cell}(h:Nc op k x y=some (p,c))(h1:op≠ .quo)(h2:op≠ .rem):p:=by cases op<;>simp only[Nc,reduceCtorEq]at h<;>first|(cases h;trivial)|exact(h1 rfl).elim|exact(h2 rfl).elim
theorem agI{op:BinOp}{x y:Bytes}{p:Prop}{c:Cell}(h:RZ op x y=some (p,c))(h1:op≠ .add):p:=by cases op<;>simp only[RZ,reduceCtorEq]at h<;>first|(cases h;trivial)|exact(h1 rfl).elim
theorem afr{op:BinOp}{x y:Cell}{p:Prop}{c:Cell}(h:Nh op x y=some (p,c))(h1:op≠ .quo)(h2:op≠ .rem)(h3:op≠ .shl)(h4:op≠ .shr)
 (h5:op=.add->∀s,x≠ .str s):p:=by
 unfold Nh at h;split at h
 .split at h
  · grind
  · grind
  grind [agH]
 · grind [agI]
 .split at h
  · grind
  · grind
  .cases h
 .cases h
theorem OO{d:Nat}{op:Op}{p:Prop}{v:AV}{δ:List (Nat×aB)}(hc:calm Θ Γ d st op=some (p,v,δ))(hq:quiet st op=true):p:=by
 cases op<;>try (simp only[calm,reduceCtorEq]at hc;done)
 case binOp op t x y t'=>
  simp only[calm]at hc;split at hc
  .next a b e1 e2=>
   split at hc
   .split at hc
    .next q c hb=>
     cases hc;refine afr hb ?_ ?_ ?_ ?_ ?_
     · grind [quiet]
     · grind [quiet]
     · grind [quiet]
     · grind [quiet]
     grind [quiet]
    .cases hc
   .cases hc
  · grind
  .cases hc
 case load t x=>
  simp only[calm]at hc;split at hc
  · grind
  · grind [quiet]
  · grind
  · grind
  .cases hc
 case call c=>
  obtain⟨callee,args,ny⟩:=c;cases callee with
  |invoke r m=>simp only[calm,reduceCtorEq]at hc
  |builtin b=>
   cases b<;>first
    |(simp only[calm,reduceCtorEq]at hc;done)
    |(simp only[calm]at hc
      grind)
  |value x=>grind [quiet]
 all_goals first
  |(simp[quiet]at hq;done)
  |(simp only[calm]at hc
    repeat' (first|(cases hc;done)|(cases hc;trivial)|(split at hc)))
theorem ah9{pt:AV}{v:SV}{q:Prop}{s:St}(h:store st pt v=some (q,s))(hv:∀o i off,pt≠ .lI o i off):q:=by
 unfold store at h;split at h
 · grind
 · grind
 .cases h
theorem akG{d:Nat}{op:Op}{p:Prop}{v:AV}{s:St}(hc:eff Θ Γ d st op=some (p,v,s))(hq:quiet st op=true):p:=by
 cases op<;>try (simp only[eff,reduceCtorEq]at hc;done)
 case store t pt x=>
  grind [eff,ah9,AV.freeze,quiet]
 case buildSlice t n parts=>
  simp only[eff]at hc;split at hc
  .next q v' δ hcalm=>
   split at hc
   .cases hc;exact OO hcalm rfl
   .cases hc
  .cases hc
 case slice t x lo hi mx=>grind [quiet]
 case call c=>
  obtain⟨callee,args,ny⟩:=c;cases callee with
  |invoke r m=>grind [eff]
  |builtin b=>cases b<;>first|(simp only[eff,reduceCtorEq]at hc;done)|grind [quiet]
  |value x=>grind [quiet]
theorem Z7{d:Nat}{op:Op}{p:Prop}{v:AV}{s:St}(hc:oper Θ Γ d st op=some (p,v,s))(hq:quiet st op=true):p:=by
 grind [oper,OO,akG]
def apf:Op->Bool|.box _ _=>true|_=>false
def aiD(own:Nat->Bool)(d:Nat)(o:Oper)(v:AV)(s:St):St:=
 match agG o.op&&!(own d)&&((s.ah (d*64+1)).isSome||(s.ah (d*64+2)).isSome||(s.ah (d*64+3)).isSome)with
 |true=>(s.put o.dst v).freeze (aob d)
 |false=>s.put o.dst v
def AV.fixed(o:Nat)(cs:List Cell):AV->AV
 |.eG p off=>match Nat.beq o p with|true=>.dA (cs.map (Cell.kill (Nat.beq o ·))) off|false=>.eG p off
 |v=>v.kill (Nat.beq o ·)
def St.fix(st:St)(o:Nat):St:=
 match st.ah o with
 |some (.var cs)=>{st.kill (Nat.beq o ·)with tmps:=λt=>(st.tmps t).fixed o cs}
 |_=>st
theorem Rel.fix(h:Rel w0 M T γ st a w)(o:Nat):Rel w0 M T γ (st.fix o) a w:=by
 unfold St.fix;split
 .next cs ho=>
  have hk:=h.kill (Nat.beq o ·);refine⟨hk.mT,hk.defers,hk.size,hk.os,hk.tape,hk.output,hk.grow,hk.kept,λt=>?_,hk.ah,hk.lt,hk.sep,hk.pin⟩;have hv:=h.tmps t;have hkv:=aQ.kill (Nat.beq o ·) h _ _ hv;show aQ (aj w0 T γ (st.kill (Nat.beq o ·)) w) ((st.tmps t).fixed o cs) _;cases hst:st.tmps t with
  |eG p off=>
   rw[hst]at hv hkv;simp only[AV.fixed];cases hb:Nat.beq o p with
   |false=>grind [AV.kill]
   |true=>
    have hop:=asX hb;obtain⟨b,cs',_,hγ,hval⟩:=hv;obtain⟨b',arr,t',hγ',hh,hr⟩:=h.ah o _ ho;have hbb:b'=b:=by
     grind
    subst hbb;have hbl:blk (γ o)=some b':=by have h2:γ o=.pointer (some ⟨b',0,none⟩):=hγ';rw[h2];rfl
    refine⟨b',hval,arr,t',(0,0),⟨(h.lt o _ b' ho hbl).1,λhlt=>h.mT b' ((h.lt o _ b' ho hbl).2.resolve_left (by grind)),λq y hq=>?_⟩,hh,ai.kill _ h cs _ hr⟩;obtain⟨z,hz,_,hqS⟩:=tV (Nat.beq o ·) hq;exact h.sep o _ q z b' ho hz (λe=>by grind) hbl
  |_=>rw[hst]at hkv;exact hkv
 .exact h
def land(own:Nat->Bool)(d:Nat)(o:Oper)(v:AV)(s:St):St:=
 match apf o.op&&!(own d)with
 |true=>(s.put o.dst v).fix (d*64)
 |false=>aiD own d o v s
def Vt(st:St)(o:Oper):Bool:=match o.dst with|some d=>Nat.blt d st.n|none=>true
def roomy(d:Nat)(st:St):St:=
 match (st.ah (d*64)).isSome||(st.ah (d*64+1)).isSome||(st.ah (d*64+2)).isSome||(st.ah (d*64+3)).isSome with
 |true=>st.kill (am1 d)
 |false=>st
def akH(Γ:je)(d:Nat)(st:St)(op:Op):Option (Prop×L8×List (Option Nat)×St):=
 match ZP Γ (roomy d st) op with
 |some r=>some r
 |none=>ZP Γ st op
def akI:BinOp->Option Bool
 |.eql=>some false
 |.neq=>some true
 |_=>none
def Z8:Bool->Bool->Bool
 |true,g=>!g
 |false,g=>g
def aiE(st:St):AV->Option (Bool->Prop)
 |.sv (.one (.sl _ _ l _))=>some λg=>g=true->l.length=0
 |.sv (.one (.ref o))=>match st.ah o with
  |some (.arr _ _ l _)=>some λg=>g=true->l.length=0
  |_=>none
 |.sv (.one .nil)=>some λg=>g=true
 |_=>none
def am2(Θ:gY)(st:St)(t:TypeId)(x:Operand)(s:Option Bool):Option (Bool×(Bool->Prop)):=match s,Θ t with
 |some neg,some ti=>match ti.kind with
  |.slice _=>match aiE st (st.ev x)with
   |some R=>some (neg,R)
   |none=>none
  |_=>none
 |_,_=>none
def ajp(Θ:gY)(st:St):Op->Option (Bool×(Bool->Prop))
 |.binOp op t x (.const (.slice none 0 0)) _=>am2 Θ st t x (akI op)
 |_=>none
def agJ(Θ:gY)(Γ:je)(own:Nat->Bool)(o:Oper)(K:St->Prop)(st:St):Prop:=
 match Vt st o with
 |true=>match akH Γ (numOf st o) st o.op with
  |some (p,ρ,os,s0)=>p/\∀t,ρ.R t->match Vm (numOf st o) s0 os (ρ.out t) (ρ.aJ t)with
   |some (v,s)=>K (land own (numOf st o) o v s)
   |none=>False
  |none=>match ajp Θ st o.op with
   |some (neg,R)=>∀g:Bool,R g->K (land own (numOf st o) o (.sv (.one (.bool (Z8 neg g)))) st)
   |none=>match ajo Θ Γ (numOf st o) st o.op,quiet st o.op with
    |some (p,v,s),q=>match q with
     |true=>K (land own (numOf st o) o v s)
     |false=>p/\K (land own (numOf st o) o v s)
    |none,_=>False
 |false=>False
def guarded(ops:List Oper)(o:Oper)(one:St->Prop)(skip:St->Prop)(st:St):Prop:=
 match o.guard with
 |none=>one st
 |some (g,b)=>match ops[g]? with
  |some og=>match og.dst with
   |some t=>match Vt st o,Nat.blt t st.n,st.tmps t with
    |true,true,.sv (.one (.bool x))=>cond x
     (match b with|true=>one (st.set t (.sv (.one (.bool true))))|false=>skip ((st.set t (.sv (.one (.bool true)))).put o.dst (.kZ [])))
     (match b with|false=>one (st.set t (.sv (.one (.bool false))))|true=>skip ((st.set t (.sv (.one (.bool false)))).put o.dst (.kZ [])))
    |true,true,.kZ _=>skip (st.put o.dst (.kZ []))
    |_,_,_=>False
   |none=>False
  |none=>False
def runs(Θ:gY)(Γ:je)(own:Nat->Bool)(ops:List Oper)(K:St->Prop):List Oper->St->Prop
 |[],st=>K st
 |o::r,st=>guarded ops o (agJ Θ Γ own o (runs Θ Γ own ops K r)) (runs Θ Γ own ops K r) st
theorem set_self{t:Nat}{v:AV}(h:st.tmps t=v):st.set t v=st:=by
 cases st with
 |mk n tm ob=>
  grind [St.set,St.mk.injEq,Nat.eq_of_beq_eq_true]
theorem akJ{G:iV}(hE:pK P G Θ Γ w0 M)(h:Rel w0 M T γ st a w)(o:Oper){neg:Bool}{R:Bool->Prop}(hc:ajp Θ st o.op=some (neg,R)){next:Act->World->Prop}{Q:Exit->Act->World->Prop}
 (hn:∀g:Bool,R g->next (a.put o.dst (.bool (Z8 neg g))) w):o.wp P a w next Q:=by
 unfold ajp at hc;split at hc
 case h_2=>cases hc
 next op t x _ hop=>
 unfold am2 at hc;split at hc
 case h_2=>cases hc
 next asD ti hs ht=>
 split at hc
 case h_2=>cases hc
 next e hk=>
 split at hc
 case h_2=>cases hc
 next R' hR=>
 cases hc;have hu:P.underlying t=some (.slice e):=by
  have:=(hE.types t ti ht).und
  grind
 have hop':op=.eql/\neg=false\/op=.neq/\neg=true:=by cases op<;>simp[akI]at hs<;>simp[hs]
 have run:∀(ad:Option Addr)(n c:Nat),a.eval x=.slice ad n c->R ad.isNone->o.wp P a w next Q:=by
  intro ad n c hx hR;have hev:a.eval (.const (.slice none 0 0))=.slice none 0 0:=rfl;refine Oper.kD (u:=.bool (Z8 neg ad.isNone)) (w':=w) ?_ (hn _ hR);have hs:execOp a.eval o=(do pure (Next.value (← (do eqGuard op t x (.const (.slice none 0 0)) (a.eval x) (a.eval (.const (.slice none 0 0)));binOp op t (a.eval x) (a.eval (.const (.slice none 0 0))))))):=by simp[execOp,hop]
  rw[hs];refine an7 ?_;rw[hx,hev];rcases hop' with⟨rfl,rfl⟩|⟨rfl,rfl⟩
  .exact Lib.run_eql_slice_nil w t e ad n c 0 0 hu
  .exact run_neq_slice_nil_any w t e ad n c 0 0 hu
 unfold aiE at hR;split at hR
 .next ee rr l _ hx=>
  cases hR;have hv:=lN h hx;obtain⟨ad,c,hv1,_⟩:=agk hv;refine run ad l.length c hv1 λhnone=>?_;have hv':dW w.heap _ (.sl ee rr) (a.eval x) l:=hv;rcases hv'.2 with⟨hl,_⟩|⟨b,off,cap,cs,t',fz,hv2,_⟩
  .rw[hl];rfl
  grind
 .next o' hx=>
  split at hR
  .next _ _ l _ ho=>
   have hv:=lN h hx;obtain⟨_,hv2,_⟩:=hv;obtain⟨xs,hown,hr,_⟩:=h.ah o' _ ho;obtain⟨_,hown⟩:=hown
   grind
  .cases hR
 .next hx=>
  have hv:a.eval x=.slice none 0 0:=lN h hx
  grind
 .cases hR
theorem agK{G:iV}(hE:pK P G Θ Γ w0 M){own:Nat->Bool}{o:Oper}{K:St->Prop}(h:Rel w0 M T γ st a w)(hr:agJ Θ Γ own o K st)
 {next:Act->World->Prop} {Q:Exit->Act->World->Prop} (hn:∀s γ' a' w',K s->Rel w0 M T γ' s a' w'->next a' w'):o.wp P a w next Q:=by
 unfold agJ at hr;split at hr
 .next hd=>
  have apg:∀(s:St)(v:AV)(u:Value)(γ':Nat->Value)(w':World),Rel w0 M T γ' s a w'->aQ (aj w0 T γ' s w') v u->K (land own (numOf st o) o v s)->next (a.put o.dst u) w':=by
   intro s v u γ' w' hR hv hK;have hsz:s.n=st.n:=by rw[← hR.size,h.size]
   have hput:Rel w0 M T γ' (s.put o.dst v) (a.put o.dst u) w':=by
    cases hdst:o.dst with
    |none=>exact hR
    |some d=>
     rw[Vt,hdst]at hd;refine hR.set d ?_ v u hv
     simp_all
   unfold land at hK;split at hK
   .exact hn _ γ' _ _ hK (hput.fix _)
   .unfold aiD at hK;split at hK
    .exact hn _ γ' _ _ hK (hput.freeze _)
    grind
  have main:∀(st1:St)(_:Rel w0 M T γ st1 a w)(_:st1.n=st.n)(p:Prop)(v:AV)(s:St),oper Θ Γ (numOf st o) st1 o.op=some (p,v,s)->p->K (land own (numOf st o) o v s)->o.wp P a w next Q:=by
   grind [ajn]
  have asE:∀(st1:St)(_:Rel w0 M T γ st1 a w)(p:Prop)(ρ:L8)(os:List (Option Nat))(s0:St),ZP Γ st1 o.op=some (p,ρ,os,s0)->
   (p/\∀t,ρ.R t->match Vm (numOf st o) s0 os (ρ.out t) (ρ.aJ t)with|some (v,s)=>K (land own (numOf st o) o v s)|none=>False)->o.wp P a w next Q:=by
   intro st1 h1 p ρ os s0 hrel ⟨hp,hall⟩;refine akD hE h1 o (d:=numOf st o) hrel hp (λt ht=>?_) λt v s u γ' w' ht hs hR hv=>?_
   · grind
   grind
  split at hr
  .next p ρ os s0 hrel=>
   unfold akH at hrel;split at hrel
   .next r hr0=>
    have hroom:Rel w0 M T γ (roomy (numOf st o) st) a w:=by
     unfold roomy;split
     .exact h.kill _
     .exact h
    grind
   grind
  split at hr
  .next neg R hnil=>exact akJ hE h o hnil λg hg=>apg st (.sv (.one (.bool (Z8 neg g)))) (.bool (Z8 neg g)) γ w h rfl (hr g hg)
  cases ho:ajo Θ Γ (numOf st o) st o.op with
  |none=>grind
  |some res=>
   obtain⟨p,v,s⟩:=res;have hq1:quiet st o.op=true->K (land own (numOf st o) o v s):=λe=>by grind
   have hq2:quiet st o.op=false->p/\K (land own (numOf st o) o v s):=λe=>by grind
   unfold ajo at ho;cases hop1:oper Θ Γ (numOf st o) st o.op with
   |some r=>
    grind [Z7]
   |none=>
    rw[hop1]at ho;cases hm:makes o.op with
    |false=>grind
    |true=>
     rw[hm]at ho;cases hqq:quiet st o.op with
     |true=>
      refine main _ (h.kill _) rfl p v s ho (Z7 ho ?_) (hq1 hqq);cases hop2:o.op<;>rw[hop2]at hm hqq<;>simp only[makes,au2]at hm<;>first|rfl|(simp[quiet]at hqq;done)|skip
      rename_i c
      obtain⟨callee,args,ny⟩:=c;cases callee<;>simp only[au2]at hm;exact hqq
     |false=>exact main _ (h.kill _) rfl p v s ho (hq2 hqq).1 (hq2 hqq).2
 grind
theorem Rel.anD(h:Rel w0 M T γ st a w)(d:Option Nat)(hd:∀t,d=some t->t<st.n):Rel w0 M T γ (st.put d (.kZ [])) (a.put d undef) w:=by
 cases d with
 |none=>exact h
 |some d=>exact h.set d (hd d rfl) (.kZ []) undef ⟨#[],rfl,trivial⟩
theorem afs{ops:Array Oper}{o:Oper}{one skip:St->Prop}(h:Rel w0 M T γ st a w)(hr:guarded ops.toList o one skip st){Y Z:Prop}
 (h1:one st->Y) (h2:skip (st.put o.dst (.kZ []))->Z):
 (Region.wanted o (yielded ops a.tmps)=true/\Y)\/(Region.wanted o (yielded ops a.tmps)=false/\Vt st o=true/\Z):=by
 unfold guarded at hr;split at hr
 · grind [Region.wanted]
 .next g b hg=>
  split at hr
  .next og hog=>
   split at hr
   .next t ht=>
    split at hr
    .next x hok hlt htm=>
     have hy:yielded ops a.tmps g=some x:=by
      have hr1:=h.tmps t;rw[htm]at hr1;have hv:a.tmps.getD t undef=.bool x:=hr1;have hsz:t<a.tmps.size:=by rw[h.size];simp_all
      simp_all [yielded]
     grind [set_self,Region.wanted]
    .next xs hok hlt htm=>
     have hy:yielded ops a.tmps g=none:=by
      have hr1:=h.tmps t;rw[htm]at hr1;obtain⟨vs,hv,_⟩:=hr1;have hsz:t<a.tmps.size:=by rw[h.size];simp_all
      simp_all [yielded]
     grind [Region.wanted]
    grind
   grind
  grind
theorem Iz{G:iV}(hE:pK P G Θ Γ w0 M){own:Nat->Bool}{ops:Array Oper}{K:St->Prop}{Q:Exit->Act->World->Prop}
 (hn:∀s γ' a' w',K s->Rel w0 M T γ' s a' w'->Q .normal a' w'):∀(l:List Oper)(st:St)(γ:Nat->Value)(a:Act)(w:World),
 Rel w0 M T γ st a w->runs Θ Γ own ops.toList K l st->wpList P ops Q l a w
 |[],st,γ,a,w,h,hr=>hn st γ a w hr h
 |o::r,st,γ,a,w,h,hr=>by
  unfold wpList;have:=afs (ops:=ops) (o:=o) (Y:=o.wp P a w (wpList P ops Q r) Q) (Z:=Vt st o=true->wpList P ops Q r (a.put o.dst undef) w) h hr
   (λh1=>agK hE h h1 λs γ' a' w' hK hR=>Iz hE hn r s γ' a' w' hR hK)
   (λh2 hok=>Iz hE hn r _ γ _ w (h.anD o.dst (λt ht=>by rw[Vt,ht]at hok;simpa[Nat.blt_eq]using hok)) h2)
  rcases this with⟨e,hy⟩|⟨e,hok,hz⟩
  .rw[if_pos e];exact .inl hy
  .rw[if_neg (by rw[e];simp)];exact hz hok
theorem agM{G:iV}(hE:pK P G Θ Γ w0 M){own:Nat->Bool}{id:Nat}{ops:Array Oper}{K:St->Prop}{Q:Exit->Act->World->Prop}(h:Rel w0 M T γ st a w)
 (hr:runs Θ Γ own ops.toList K ops.toList st) (hn:∀s γ' a' w',K s->Rel w0 M T γ' s a' w'->Q .normal a' w'):(Code.region id ops false).wp P Q a w:=
 wp_region_list (Iz hE hn _ _ _ _ _ h hr)
inductive Pre where
 |still (o:Nat)
 |opens (t:Nat)
 |closes (t:Nat)
 |aoc (o:Nat)
def aiF(st:St)(t o:Nat)(e:TypeId)(r:ak)(l:List r.den)(fr:Bool):St:=((st.kill (Nat.beq o ·)).add o (.arr e r l fr)).set t (.sv (.one (.ref o)))
def OQ:List Pre->(St->Prop)->St->Prop
 |[],K,st=>K st
 |.still o::z,K,st=>OQ z K (st.freeze (Nat.beq o ·))
 |.aoc o::z,K,st=>OQ z K (st.fix o)
 |.opens t::z,K,st=>match st.tmps t with
  |.sv (.one (.ref o))=>match st.ah o with
   |some (.arr _ _ l _)=>0<l.length/\OQ z K (st.set t (.win o 0 l.length))
   |_=>False
  |_=>False
 |.closes t::z,K,st=>match st.tmps t with
  |.win o lo n=>match Nat.beq lo 0,st.ah o with
   |true,some (.arr e r l fr)=>(0<l.length/\n<=l.length)/\OQ z K (aiF st t o e r (l.take n) fr)
   |_,_=>False
  |_=>False
theorem Rel.akK(h:Rel w0 M T γ st a w)(t:Nat)(v:AV)(hv:aQ (aj w0 T γ st w) v (a.tmps.getD t undef)):Rel w0 M T γ (st.set t v) a w:=by
 refine⟨h.mT,h.defers,h.size,h.os,h.tape,h.output,h.grow,h.kept,λk=>?_,h.ah,h.lt,h.sep,h.pin⟩;show aQ _ (match Nat.beq k t with|true=>v|false=>st.tmps k) (a.tmps.getD k undef);cases hb:Nat.beq k t with
 |false=>exact h.tmps k
 |true=>rw[asX hb];exact hv
theorem Rel.close(h:Rel w0 M T γ st a w){t o n:Nat}{e:TypeId}{r:ak}{l:List r.den}{fr:Bool}(ht:st.tmps t=.win o 0 n)(ho:st.ah o=some (.arr e r l fr))(hl:0<l.length)(hn:n<=l.length):∃γ',Rel w0 M T γ' (aiF st t o e r (l.take n) fr) a w:=by
 have htv:=h.tmps t;rw[ht]at htv;obtain⟨g,m,cap,e',r',l',fr',hx,hγ,⟨q,hq,hv,hle⟩⟩:=htv;have hγ:γ o=.slice (some ⟨g,0,none⟩) m cap:=hγ;obtain⟨xs,⟨h1,h2⟩,hpos,hfr,hrow⟩:=h.ah o _ ho;rcases h2 with⟨hnil,_⟩|⟨g',cap',cur,hg,hg0,hh,hlc,hmax,hsz,htake⟩
 .omega
 .have zY:γ o=.slice (some ⟨g',0,none⟩) l.length cap':=hg;rw[hγ]at zY;obtain⟨rfl,rfl,rfl⟩:=zY;have hq0:q=0:=by omega
  subst hq0;have hmul:n*r.len<=l.length*r.len:=atf _ hn;have hblk:blk (Value.slice (some ⟨g,0,none⟩) n cap)=blk (γ o):=by rw[hγ];rfl
  obtain⟨hR,_⟩:=h.replace (w':=w) (o:=o) (v':=.slice (some ⟨g,0,none⟩) n cap) (x':=.arr e r (l.take n) fr) (blk (γ o)) (.inr ⟨_,ho,rfl⟩) rfl rfl rfl (as7 _) (λ_ _ _=>rfl)
   (λc hc=>⟨.inl (by grind),(h.lt o _ c ho (by grind)).1⟩) (λ_ e=>by cases e) (λle=>by
     have hlen:(l.take n).length=n:=by grind
     refine⟨xs.take (n*r.len),?_,hpos,?_,λi z hi=>?_⟩
     .rw[hlen];show w.ownsRow 0 e r.len (upd γ o _ o) _ _;rw[upd_same];refine⟨by grind,.inr ⟨g,cap,cur,rfl,atl _,hh,by omega,hmax,hsz,?_⟩⟩
      grind
     · grind [upd_same]
     .have hil:i<n:=by grind
      have hmul:i*r.len+r.len<=n*r.len:=by
       have:(i+1)*r.len<=n*r.len:=atf _ hil
       grind
      rw[atJ,if_pos hil]at hi;rw[fH _ _ _ _ hmul];exact aZ.mono (λc hc=>le.bP _ c hc) _ _ z (hrow i z hi))
  refine⟨_,hR.akK t _ ?_⟩;have hv':a.tmps.getD t undef=.slice (some ⟨g,0,none⟩) n cap:=hv;rw[hv'];exact⟨⟨e,r,_,_,add_same _ _ _⟩,(upd_same _ _ _).symm,rfl⟩
theorem Bv{K:St->Prop}:∀(z:List Pre)(st:St)(γ:Nat->Value),Rel w0 M T γ st a w->OQ z K st->∃s γ',Rel w0 M T γ' s a w/\K s
 |[],st,γ,h,hk=>⟨st,γ,h,hk⟩
 |.still o::z,st,γ,h,hk=>Bv z _ γ (h.freeze _) hk
 |.aoc o::z,st,γ,h,hk=>Bv z _ γ (h.fix o) hk
 |.opens t::z,st,γ,h,hk=>by
  rw[OQ]at hk;split at hk
  .next o ht=>
   split at hk
   .next e r l fr ho=>
    refine Bv z _ γ (h.akK t _ ?_) hk.2;have htv:=h.tmps t;rw[ht]at htv;obtain⟨_,hv,_⟩:=htv;obtain⟨xs,⟨_,h2⟩,_⟩:=h.ah o _ ho;rcases h2 with⟨_,h4⟩|⟨g,cap,cur,h3,_,_,h4,h5,_⟩
    .omega
    .refine⟨g,l.length,cap,e,r,l,fr,ho,h3,0,.inl (by omega),by grind,by omega⟩
   grind
  grind
 |.closes t::z,st,γ,h,hk=>by
  rw[OQ]at hk;split at hk
  .next o lo n ht=>
   split at hk
   .next e r l fr hb ho=>have hlo:=asX hb;subst hlo;obtain⟨γ',hR⟩:=h.close ht ho hk.1.1 hk.1.2;exact Bv z _ γ' hR hk.2
   grind
  grind
inductive eY where
 |int (k:IntKind)
 |bool
 |str
 |nil
 |sl (e:TypeId) (r:ak) (fr:Bool)
 |ref (o:Nat)
 |junk
@[reducible] def eY.den:eY->Type
  |.int _=>Int
  |.bool=>Bool
  |.str=>Bytes
  |.sl _ r _=>List r.den
  |.nil|.ref _|.junk=>Unit
def eY.cell:(c:eY)->c.den->Cell
 |.int k,n=>.int k n
 |.bool,b=>.bool b
 |.str,s=>.str s
 |.sl e r fr,l=>.sl e r l fr
 |.nil,_=>.nil
 |.ref o,_=>.ref o
 |.junk,_=>.junk
def Jr:Bool->Bool->Bool
 |true,b=>b
 |false,_=>true
def eY.read:(c:eY)->Cell->Option c.den
 |.int k,.int l n=>match decide (k=l)with|true=>some n|false=>none
 |.bool,.bool b=>some b
 |.str,.str s=>some s
 |.sl e r fr,.sl f s l gr=>match Nat.beq e f&&Jr fr gr with
  |true=>if h:s.beq r=true then some (qR h l)else none
  |false=>none
 |.sl _ _ _,.nil=>some []
 |.nil,.nil=>some ()
 |.ref o,.ref p=>match Nat.beq o p with|true=>some ()|false=>none
 |.junk,_=>some ()
 |_,_=>none
theorem aod(X:V)(e:TypeId)(r:ak)(fr:Bool):aK X (.sl e r [] fr) (.slice none 0 0):=by refine⟨by simp,.inl ⟨rfl,none,0,rfl⟩⟩
theorem eY.weak{X:V}:∀(c:eY)(x:Cell)(d:c.den)(v:Value),c.read x=some d->aK X x v->aK X (c.cell d) v:=by
 intro c x d v hr hv;cases c<;>cases x<;>simp only[eY.read,reduceCtorEq,Option.some.injEq]at hr<;>try (subst hr;exact hv)
 case int.int k l n=>
  split at hr
  .next e=>cases hr;rw[show k=l by simpa using e];exact hv
  .cases hr
 case sl.sl e r fr f s l gr=>
  split at hr
  .next hb=>
   split at hr
   .next hs=>
    cases hr;have hsr:=ak.eq_of_beq s r hs;subst hsr;have hv':dW X.w.heap (X.bP gr) (.sl e s) v l:=hv;refine dW.mono (λb hb'=>⟨⟨hb'.1,λhfr=>hb'.2 ?_⟩,rfl⟩) (.sl e s) v l hv'
    grind [Jr]
   .cases hr
  .cases hr
 case sl.nil e r fr=>subst hr;rw[show v=_ from hv];exact aod X e r fr
 case nil.nil=>exact hv
 case ref.ref o p=>
  grind [eY.cell,Nat.eq_of_beq_eq_true]
 all_goals exact aK.one _ _ hv
@[reducible] def jY:List eY->Type
  |[]=>Unit
  |c::r=>c.den×jY r
def gu:(l:List eY)->jY l->List Cell
 |[],_=>[]
 |c::r,x=>c.cell x.1::gu r x.2
def iZ:(l:List eY)->List Cell->Option (jY l)
 |[],[]=>some ()
 |c::r,x::xs=>match c.read x,iZ r xs with
  |some a,some b=>some (a,b)
  |_,_=>none
 |_,_=>none
theorem CP{X:V}:∀(l:List eY)(xs:List Cell)(d:jY l)(vs:List Value),iZ l xs=some d->ai X xs vs->ai X (gu l d) vs
 |[],[],_,_,_,hv=>hv
 |c::r,x::xs,d,vs,hr,hv=>by
  rw[iZ]at hr;split at hr
  .next a b h1 h2=>
   cases hr;cases vs with
   |nil=>cases hv
   |cons v vs=>exact⟨eY.weak c x a v h1 hv.1,CP r xs b vs h2 hv.2⟩
  .cases hr
 |[],_::_,_,_,hr,_=>by grind [iZ]
 |_::_,[],_,_,hr,_=>by grind [iZ]
@[reducible] def yG:List (List eY)->Type
  |[]=>Unit
  |l::r=>jY l×yG r
def G7:(l:List (List eY))->yG l->List (List Cell)
 |[],_=>[]
 |c::r,x=>gu c x.1::G7 r x.2
def D8:(l:List (List eY))->List (List Cell)->Option (yG l)
 |[],[]=>some ()
 |c::r,x::xs=>match iZ c x,D8 r xs with
  |some a,some b=>some (a,b)
  |_,_=>none
 |_,_=>none
theorem aeK{X:V}{l:List eY}{xs:List Cell}{d:jY l}{b:Nat}(hr:iZ l xs=some d)(h:fG X xs b):fG X (gu l d) b:=by obtain⟨arr,t,fz,hf,hh,hc⟩:=h;exact⟨arr,t,fz,hf,hh,CP _ _ _ _ hr hc⟩
theorem SX{X:V}:∀(l:List (List eY))(xs:List (List Cell))(d:yG l)(us:List Value),D8 l xs=some d->dS X xs us->dS X (G7 l d) us
 |[],[],_,us,_,h=>h
 |c::r,x::xs,d,us,hr,h=>by
  rw[D8]at hr;split at hr
  .next a b h1 h2=>
   cases hr;cases us with
   |nil=>cases h
   |cons u us=>obtain⟨⟨b',hu,hk⟩,h3⟩:=h;exact⟨⟨b',hu,aeK h1 hk⟩,SX r xs b us h2 h3⟩
  .cases hr
 |[],_::_,_,_,hr,_=>by grind [D8]
 |_::_,[],_,_,hr,_=>by grind [D8]
inductive FQ where
 |one (c:eY)
 |agg (l:List eY)
 |eG (o off:Nat)
 |dA (l:List eY) (off:Nat)
 |fn (f:FuncId) (l:List (List eY))
@[reducible] def FQ.den:FQ->Type
  |.one c=>c.den
  |.agg l=>jY l
  |.eG _ _=>Unit
  |.dA l _=>jY l
  |.fn _ l=>yG l
def FQ.val:(s:FQ)->s.den->AV
 |.one c,x=>.sv (.one (c.cell x))
 |.agg l,x=>.sv (.agg (gu l x))
 |.eG o off,_=>.eG o off
 |.dA l off,x=>.dA (gu l x) off
 |.fn f l,x=>.fn f (G7 l x)
def FQ.read:(s:FQ)->AV->Option s.den
 |.one c,.sv (.one x)=>c.read x
 |.agg l,.sv (.agg xs)=>iZ l xs
 |.eG o off,.eG p k=>match Nat.beq o p&&Nat.beq off k with|true=>some ()|false=>none
 |.dA l off,.dA xs k=>match Nat.beq off k with|true=>iZ l xs|false=>none
 |.fn f l,.fn g xs=>match Nat.beq f g with|true=>D8 l xs|false=>none
 |_,_=>none
theorem FQ.weak{X:V}(s:FQ)(x:AV)(d:s.den)(v:Value)(hr:s.read x=some d)(hv:aQ X x v):aQ X (s.val d) v:=by
 unfold FQ.read at hr;split at hr
 .exact eY.weak _ _ _ _ hr hv
 .obtain⟨vs,e,h⟩:=hv;exact⟨vs,e,CP _ _ _ _ hr h⟩
 · grind [FQ.val,Nat.eq_of_beq_eq_true]
 .split at hr
  .next hb=>obtain⟨b,e,arr,t,fz,hf,hh,hc⟩:=hv;rw[FQ.val,asX hb];exact⟨b,e,arr,t,fz,hf,hh,CP _ _ _ _ hr hc⟩
  .cases hr
 .split at hr
  .next hb=>obtain⟨us,e,hk⟩:=hv;rw[FQ.val,asX hb];exact⟨us,e,SX _ _ _ _ hr hk⟩
  .cases hr
 .cases hr
inductive Ih where
 |var (l:List eY)
 |arr (e:TypeId) (r:ak) (fr:Bool)
@[reducible] def Ih.den:Ih->Type
  |.var l=>jY l
  |.arr _ r _=>List r.den
def Ih.obj:(s:Ih)->s.den->aB
 |.var l,x=>.var (gu l x)
 |.arr e r fr,l=>.arr e r l fr
def Ih.read:(s:Ih)->aB->Option s.den
 |.var l,.var xs=>iZ l xs
 |.arr e r fr,.arr f s l gr=>match Nat.beq e f&&Jr fr gr with
  |true=>if h:s.beq r=true then some (qR h l)else none
  |false=>none
 |_,_=>none
def F8(x x':aB):Prop:=
 (∃cs cs',x=.var cs/\x'=.var cs'/\∀(X:V) vs,ai X cs vs->ai X cs' vs)\/∃e r l fr gr,x=.arr e r l gr/\x'=.arr e r l fr/\(fr=true->gr=true)
theorem Ih.weak(s:Ih)(x:aB)(d:s.den)(hr:s.read x=some d):F8 x (s.obj d):=by
 unfold Ih.read at hr;split at hr
 .exact .inl ⟨_,_,rfl,rfl,λX vs h=>CP _ _ _ _ hr h⟩
 .next e r fr f s l gr=>
  split at hr
  .next hb=>
   split at hr
   .next hs=>
    cases hr;rw[as1]at hb;have he:=asX hb.1;have hg:fr=true->gr=true:=λe=>by have hb2:=hb.2;rw[e]at hb2;exact hb2
    subst he;have hsr:=ak.eq_of_beq s r hs;subst hsr;exact .inr ⟨e,s,l,fr,gr,rfl,rfl,hg⟩
   .cases hr
  .cases hr
 .cases hr
structure Covers(J st:St):Prop where
 n:J.n=st.n
 tmps:∀t(X:V) v,aQ X (st.tmps t) v->aQ X (J.tmps t) v
 ah:∀o,(J.ah o=none/\st.ah o=none)\/∃x x',st.ah o=some x/\J.ah o=some x'/\F8 x x'
theorem Rel.covers{J:St}(h:Rel w0 M T γ st a w)(hc:Covers J st):Rel w0 M T γ J a w:=by
 have key:∀o x',J.ah o=some x'->∃x,st.ah o=some x/\F8 x x':=by
  intro o x' hx';rcases hc.ah o with⟨e,_⟩|⟨x,y,hx,hy,hw⟩
  · grind
  grind
 have yek:∀o x,st.ah o=some x->∃x',J.ah o=some x'/\F8 x x':=by
  intro o x hx;rcases hc.ah o with⟨_,e⟩|⟨y,x',hy,hx',hw⟩
  · grind
  grind
 have hle:(aj w0 T γ st w).le (aj w0 T γ J w):=by
  refine⟨as7 _,λb hb=>⟨⟨hb.1,hb.2.1,λo x hx=>?_⟩,rfl⟩,λo cs hx=>⟨?_,rfl⟩,λo e r l fr hx=>⟨?_,rfl⟩⟩
  .obtain⟨y,hy,_⟩:=key o x hx;exact hb.2.2 o y hy
  .obtain⟨x',hx',hw⟩:=yek o _ hx;rcases hw with⟨cs1,cs2,e1,e2,_⟩|⟨e,r,l,fr,gr,e1,e2,_⟩
   · grind
   .cases e1
  .obtain⟨x',hx',hw⟩:=yek o _ hx;rcases hw with⟨cs1,cs2,e1,e2,_⟩|⟨e,r,l,fr,gr,e1,e2,_⟩
   .cases e1
   grind
 refine⟨h.mT,h.defers,h.size.trans hc.n.symm,h.os,h.tape,h.output,h.grow,h.kept,λt=>hc.tmps t _ _ (aQ.mono hle _ _ (h.tmps t)),λo x' hx'=>?_,λo x' b hx' hb=>?_,λo x' p y' b hx' hy' hop hb=>?_,λo v cs hN hx'=>?_⟩
 .obtain⟨x,hx,hw⟩:=key o x' hx';have ho:=h.ah o x hx;rcases hw with⟨cs1,cs2,e1,e2,hcs⟩|⟨e,r,l,fr,gr,e1,e2,hfg⟩
  .subst e1 e2;obtain⟨b,arr,t,g1,g2,g3⟩:=ho;exact⟨b,arr,t,g1,g2,hcs _ _ (ai.mono hle _ _ g3)⟩
  .subst e1 e2;obtain⟨xs,g1,g2,g3,g4⟩:=ho;exact⟨xs,g1,g2,λb hb hf=>g3 b hb (hfg hf),λi x hi=>aZ.mono (λb hb=>hle.bP fr b ⟨hb.1,λe=>hb.2 (hfg e)⟩) r _ x (g4 i x hi)⟩
 .obtain⟨x,hx,_⟩:=key o x' hx';exact h.lt o x b hx hb
 .obtain⟨x,hx,_⟩:=key o x' hx';obtain⟨y,hy,_⟩:=key p y' hy';exact h.sep o x p y b hx hy hop hb
 .obtain⟨x,hx,hw⟩:=key o _ hx';rcases hw with⟨cs1,cs2,e1,e2,_⟩|⟨e,r,l,fr,gr,e1,e2,_⟩
  .subst e1;exact h.pin o v cs1 hN hx
  .cases e2
structure Shape where
 tmps:List (Nat×FQ)
 ah:List (Nat×Ih)
@[reducible] def Z9:List (Nat×FQ)->Type
  |[]=>Unit
  |x::r=>x.2.den×Z9 r
@[reducible] def aac:List (Nat×Ih)->Type
  |[]=>Unit
  |x::r=>x.2.den×aac r
@[reducible] def Shape.den (s:Shape):Type:=Z9 s.tmps×aac s.ah
def SY:(l:List (Nat×FQ))->Z9 l->(Nat->AV)->Nat->AV
 |[],_,f=>f
 |s::r,x,f=>λi=>match Nat.beq i s.1 with|true=>s.2.val x.1|false=>SY r x.2 f i
def G8:(l:List (Nat×Ih))->aac l->(Nat->Option aB)->Nat->Option aB
 |[],_,f=>f
 |s::r,x,f=>λi=>match Nat.beq i s.1 with|true=>some (s.2.obj x.1)|false=>G8 r x.2 f i
def aad(st:St):(l:List (Nat×FQ))->Option (Z9 l)
 |[]=>some ()
 |s::r=>match s.2.read (st.tmps s.1),aad st r with
  |some a,some b=>some (a,b)
  |_,_=>none
def aae(st:St):(l:List (Nat×Ih))->Option (aac l)
 |[]=>some ()
 |s::r=>match st.ah s.1,aae st r with
  |some x,some b=>match s.2.read x with
   |some a=>some (a,b)
   |none=>none
  |_,_=>none
def aO:List Nat->Nat->Bool
 |[],_=>false
 |x::r,o=>match Nat.beq o x with|true=>true|false=>aO r o
def names:List (Nat×Ih)->List Nat
 |[]=>[]
 |x::r=>x.1::names r
def joint(n:Nat)(c v:Shape)(x:c.den)(y:v.den):St:=
 {n:=n,tmps:=SY c.tmps x.1 (SY v.tmps y.1 (λ_=>.undef)),ah:=G8 c.ah x.2 (G8 v.ah y.2 (λ_=>none))}
def only(c v:Shape)(st:St):St:=st.freeze λo=>!(aO (names c.ah) o||aO (names v.ah) o)
def Shape.read(s:Shape)(st:St):Option s.den:=
 match aad st s.tmps,aae st s.ah with
 |some a,some b=>some (a,b)
 |_,_=>none
theorem MB{X:V}(t:Nat)(u:Value)(hu:aQ X (st.tmps t) u):∀(l:List (Nat×FQ))(x:Z9 l)(f:Nat->AV),aad st l=some x->aQ X (f t) u->aQ X (SY l x f t) u
 |[],_,_,_,hf=>hf
 |s::r,x,f,hr,hf=>by
  rw[aad]at hr;split at hr
  .next a b h1 h2=>
   cases hr;simp only[SY];cases hb:Nat.beq t s.1 with
   |true=>
    rw[asX hb]at hu;exact FQ.weak s.2 _ a u h1 hu
   |false=>exact MB t u hu r b f h2 hf
  .cases hr
theorem Gv(o:Nat):∀(l:List (Nat×Ih))(x:aac l)(f:Nat->Option aB),aae st l=some x->
 (f o=none\/∃y y',st.ah o=some y/\f o=some y'/\F8 y y')->
 ((G8 l x f o=none/\aO (names l) o=false/\f o=none)\/∃y y',st.ah o=some y/\G8 l x f o=some y'/\F8 y y')
 |[],_,f,_,hf=>by
  rcases hf with e|h
  .exact .inl ⟨e,rfl,e⟩
  .exact .inr h
 |s::r,x,f,hr,hf=>by
  rw[aae]at hr;split at hr
  .next y b h1 h2=>
   split at hr
   .next a h3=>
    cases hr;simp only[G8,names,aO];cases hb:Nat.beq o s.1 with
    |true=>
     rw[asX hb];exact .inr ⟨y,_,h1,rfl,Ih.weak s.2 y a h3⟩
    |false=>exact Gv o r b f h2 hf
   .cases hr
  .cases hr
theorem agN{c v:Shape}{x:c.den}{y:v.den}(hc:c.read (only c v st)=some x)(hv:v.read (only c v st)=some y):Covers (joint st.n c v x y) (only c v st):=by
 unfold Shape.read at hc hv;split at hc
 .next a b h1 h2=>
  cases hc;split at hv
  .next a' b' h3 h4=>
   cases hv;refine⟨rfl,λt X u hu=>MB t u hu _ _ _ h1 (MB t u hu _ _ _ h3 trivial),λo=>?_⟩;rcases Gv o v.ah b' (λ_=>none) h4 (.inl rfl)with⟨e1,e2,_⟩|h
   .rcases Gv o c.ah b (G8 v.ah b' (λ_=>none)) h2 (.inl e1)with⟨g1,g2,_⟩|h
    .refine .inl ⟨g1,?_⟩
     grind [only,St.freeze]
    .exact .inr h
   .rcases Gv o c.ah b (G8 v.ah b' (λ_=>none)) h2 (.inr h)with⟨g1,g2,g3⟩|h'
    · grind
    .exact .inr h'
  .cases hv
 .cases hc
theorem Rel.joint(h:Rel w0 M T γ st a w){c v:Shape}{x:c.den}{y:v.den}(hc:c.read (only c v st)=some x)(hv:v.read (only c v st)=some y):
 Rel w0 M T γ (joint st.n c v x y) a w:=(h.freeze _).covers (agN hc hv)
end Go.Fw
namespace Go.Fw
open Go
variable {P:Program} {w0:World} {M:Nat->Prop} {T:Ext} {γ γ':Nat->Value} {st:St} {a:Act} {w w':World}
def Cell.ren(f:Nat->Nat):Cell->Cell
 |.ref q=>.ref (f q)
 |c=>c
def SV.ren(f:Nat->Nat):SV->SV
 |.one c=>.one (c.ren f)
 |.agg cs=>.agg (cs.map (Cell.ren f))
def AV.ren(f:Nat->Nat):AV->AV
 |.undef=>.undef
 |.sv v=>.sv (v.ren f)
 |.kZ vs=>.kZ (vs.map (SV.ren f))
 |.eG o off=>.eG (f o) off
 |.lI o i off=>.lI (f o) i off
 |.win o i off=>.win (f o) i off
 |.nH r x off fr=>.nH r x off fr
 |.dA cs off=>.dA (cs.map (Cell.ren f)) off
 |.fn g caps=>.fn g (caps.map (List.map (Cell.ren f)))
def aB.ren(f:Nat->Nat):aB->aB
 |.var cs=>.var (cs.map (Cell.ren f))
 |.arr e r l fr=>.arr e r l fr
def xH(o p q:Nat):Nat:=match Nat.beq q o with|true=>p|false=>q
def St.ren(st:St)(o p:Nat):St:=
 {n:=st.n,tmps:=λt=>(st.tmps t).ren (xH o p),ah:=λq=>match Nat.beq q p with
  |true=>(st.ah o).map (aB.ren (xH o p))
  |false=>match Nat.beq q o with|true=>none|false=>(st.ah q).map (aB.ren (xH o p))}
structure V.oQ(f:Nat->Nat)(X Y:V):Prop where
 n0:Y.n0<=X.n0
 foot:∀b,X.foot b->Y.foot b/\Y.w.heap[b]? =X.w.heap[b]?
 var:∀o cs,X.ah o=some (.var cs)->(∃cs',Y.ah (f o)=some (.var cs'))/\Y.γ (f o)=X.γ o
 arr:∀o e r l fr,X.ah o=some (.arr e r l fr)->(∃l' fr',Y.ah (f o)=some (.arr e r l' fr'))/\Y.γ (f o)=X.γ o
variable {f:Nat->Nat}
theorem V.oQ.bP{X Y:V}(h:X.oQ f Y)(fr:Bool)(b:Nat)(hb:X.bP fr b):Y.bP fr b/\Y.w.heap[b]? =X.w.heap[b]? :=
 ⟨⟨(h.foot b hb.1).1,λe=>⟨as3 h.n0 (hb.2 e).1,(hb.2 e).2.keep (h.foot b hb.1).2⟩⟩,(h.foot b hb.1).2⟩
theorem aK.oQ{X Y:V}(h:X.oQ f Y):∀(c:Cell)(v:Value),aK X c v->aK Y (c.ren f) v
 |.int _ _,_,H|.bool _,_,H|.str _,_,H|.nil,_,H|.junk,_,H=>H
 |.sl e r l fr,v,H=>dW.mono (λb hb=>h.bP fr b hb) (.sl e r) v l H
 |.ref o,v,⟨⟨e,r,l,fr,hx⟩,hv,h1⟩=>by obtain⟨⟨l',fr',hy⟩,hγ⟩:=h.arr o e r l fr hx;exact⟨⟨e,r,l',fr',hy⟩,hv.trans hγ.symm,h1⟩
theorem ai.oQ{X Y:V}(h:X.oQ f Y):∀(cs:List Cell)(vs:List Value),ai X cs vs->ai Y (cs.map (Cell.ren f)) vs
 |[],[],H=>H
 |c::cs,v::vs,⟨h1,h2⟩=>⟨aK.oQ h c v h1,ai.oQ h cs vs h2⟩
 |[],_::_,H|_::_,[],H=>by cases H
theorem dw.oQ{X Y:V}(h:X.oQ f Y):∀(c:SV)(v:Value),dw X c v->dw Y (c.ren f) v
 |.one c,v,H=>aK.oQ h c v H
 |.agg cs,_,⟨vs,hv,H⟩=>⟨vs,hv,ai.oQ h cs _ H⟩
theorem dB.oQ{X Y:V}(h:X.oQ f Y):∀(cs:List SV)(vs:List Value),dB X cs vs->dB Y (cs.map (SV.ren f)) vs
 |[],[],H=>H
 |c::cs,v::vs,⟨h1,h2⟩=>⟨dw.oQ h c v h1,dB.oQ h cs vs h2⟩
 |[],_::_,H|_::_,[],H=>by cases H
theorem fG.oQ{X Y:V}(h:X.oQ f Y){cs:List Cell}{b:Nat}(H:fG X cs b):fG Y (cs.map (Cell.ren f)) b:=by obtain⟨arr,t,fz,hb,hh,hr⟩:=H;exact⟨arr,t,fz,(h.foot b hb).1,(h.foot b hb).2.trans hh,ai.oQ h cs _ hr⟩
theorem dS.oQ{X Y:V}(h:X.oQ f Y):∀(l:List (List Cell))(us:List Value),dS X l us->dS Y (l.map (List.map (Cell.ren f))) us
 |[],[],H=>H
 |cs::l,u::us,⟨⟨b,hu,hk⟩,h2⟩=>⟨⟨b,hu,fG.oQ h hk⟩,dS.oQ h l us h2⟩
 |[],_::_,H|_::_,[],H=>by cases H
theorem aQ.oQ{X Y:V}(h:X.oQ f Y):∀(c:AV)(v:Value),aQ X c v->aQ Y (c.ren f) v
 |.undef,_,_=>trivial
 |.sv x,v,H=>dw.oQ h x v H
 |.kZ xs,_,⟨vs,hv,H⟩=>⟨vs,hv,dB.oQ h xs _ H⟩
 |.eG o off,v,⟨b,cs,hx,hγ,hv⟩=>by
  obtain⟨⟨cs',hy⟩,he⟩:=h.var o cs hx;exact⟨b,cs',hy,he.trans hγ,hv⟩
 |.lI o i off,v,⟨b,n,cap,e,r,l,fr,hx,hγ,hv⟩=>by
  obtain⟨⟨l',fr',hy⟩,he⟩:=h.arr o e r l fr hx;exact⟨b,n,cap,e,r,l',fr',hy,he.trans hγ,hv⟩
 |.win o i off,v,⟨b,n,cap,e,r,l,fr,hx,hγ,hv⟩=>by
  obtain⟨⟨l',fr',hy⟩,he⟩:=h.arr o e r l fr hx;exact⟨b,n,cap,e,r,l',fr',hy,he.trans hγ,hv⟩
 |.nH r x off fr,v,⟨b,base,cs,t,fz,hv,hf,hb,hr⟩=>
  ⟨b,base,cs,t,fz,hv,(h.bP fr b hf).1,(h.bP fr b hf).2.trans hb,aZ.mono (λb hb=>h.bP fr b hb) r _ x hr⟩
 |.dA cs off,v,⟨b,hv,hk⟩=>⟨b,hv,fG.oQ h hk⟩
 |.fn g caps,v,⟨us,hv,hk⟩=>⟨us,hv,dS.oQ h caps _ hk⟩
theorem bD.oQ{X Y:V}(h:X.oQ f Y)(o p:Nat):∀(x:aB),(∀b,blk (X.γ o)=some b->Y.w.heap[b]? =X.w.heap[b]?)->Y.γ p=X.γ o->bD X o x->bD Y p (x.ren f)
 |.var cs,hb,hγ,⟨b,arr,t,e,hh,hr⟩=>⟨b,arr,t,hγ.trans e,(hb b (by rw[e];rfl)).trans hh,ai.oQ h cs _ hr⟩
 |.arr e r l fr,hb,hγ,⟨xs,hown,hr,hf,hx⟩=>by
  refine⟨xs,?_,hr,λb hb' hfr=>as3 h.n0 (hf b (hγ▸hb') hfr),λi x hi=>aZ.mono (λb hb=>h.bP fr b hb) r _ x (hx i x hi)⟩;obtain⟨h1,h2⟩:=hown;refine⟨h1,?_⟩;rcases h2 with h2|⟨g,cap,cur,hv,hg,hh,hrest⟩
  · grind
  .exact .inr ⟨g,cap,cur,hγ.trans hv,hg,(hb g (by rw[hv];rfl)).trans hh,hrest⟩
theorem aiG(o p:Nat):xH o p o=p:=by unfold xH;simp_all
theorem OT{o p q:Nat}(h:q≠o):xH o p q=q:=by grind [xH,G6]
theorem Rel.ren(h:Rel w0 M T γ st a w){o p:Nat}{e:TypeId}{r:ak}{l:List r.den}{fr:Bool}(ho:st.ah o=some (.arr e r l fr))(hp:st.ah p=none):
 Rel w0 M T (λq=>match Nat.beq q p with|true=>γ o|false=>γ q) (st.ren o p) a w:=by
 have old:∀q x,(st.ren o p).ah q=some x->∃q0 x0,st.ah q0=some x0/\x=x0.ren (xH o p)/\q=xH o p q0/\(match Nat.beq q p with|true=>γ o|false=>γ q)=γ q0:=by
  intro q x hx;simp only[St.ren]at hx;cases hqp:Nat.beq q p with
  |true=>
   grind [aiG,Nat.eq_of_beq_eq_true]
  |false=>
   cases hqo:Nat.beq q o with
   |true=>grind
   |false=>
    cases hs:st.ah q with
    |none=>grind
    |some x0=>
     grind [OT,Nat.beq_refl]
 have new:∀q x,st.ah q=some x->(st.ren o p).ah (xH o p q)=some (x.ren (xH o p))/\(match Nat.beq (xH o p q) p with|true=>γ o|false=>γ (xH o p q))=γ q:=by
  grind [aiG,Nat.beq_refl,St.ren,OT,G6]
 have le:V.oQ (xH o p) (aj w0 T γ st w) ⟨w,w0.heap.size,T,λq=>match Nat.beq q p with|true=>γ o|false=>γ q,(st.ren o p).ah⟩:=by
  refine⟨as7 _,λb hb=>⟨⟨hb.1,hb.2.1,λq x hx=>?_⟩,rfl⟩,λq cs hx=>?_,λq e' r' l' fr' hx=>?_⟩
  .obtain⟨q0,x0,h1,_,_,h4⟩:=old q x hx;show blk (match Nat.beq q p with|true=>γ o|false=>γ q)≠some b;rw[h4];exact hb.2.2 q0 x0 h1
  .obtain⟨h1,h2⟩:=new q _ hx;exact⟨⟨_,h1⟩,h2⟩
  .obtain⟨h1,h2⟩:=new q _ hx;exact⟨⟨_,_,h1⟩,h2⟩
 refine⟨h.mT,h.defers,h.size,h.os,h.tape,h.output,h.grow,h.kept,λt=>aQ.oQ le _ _ (h.tmps t),λq x hx=>?_,λq x b hx hb=>?_,λq x q' y b hx hy hne hb=>?_,λq v cs hN hx=>?_⟩
 .obtain⟨q0,x0,h1,rfl,h3,h4⟩:=old q x hx;exact bD.oQ le q0 q x0 (λ_ _=>rfl) h4 (h.ah q0 x0 h1)
 .obtain⟨q0,x0,h1,_,_,h4⟩:=old q x hx;exact h.lt q0 x0 b h1 (h4▸hb)
 .obtain⟨q0,x0,h1,_,h3,h4⟩:=old q x hx;obtain⟨q1,x1,g1,_,g3,g4⟩:=old q' y hy;rw[h4]at hb;rw[g4];refine h.sep q0 x0 q1 x1 b h1 g1 (λe=>hne ?_) hb;rw[h3,g3,e]
 .obtain⟨q0,x0,h1,h2,h3,h4⟩:=old q _ hx;cases x0 with
  |arr _ _ _ _=>cases h2
  |var cs0=>
   have:q0≠o:=λe=>by grind
   rw[OT this]at h3;subst h3;rw[h4];exact h.pin q v cs0 hN h1
theorem Rel.aph(h:Rel w0 M T γ st a w){o:Nat}{cs cs':List Cell}(ho:st.ah o=some (.var cs))(hc:∀vs,ai (aj w0 T γ st w) cs vs->ai (aj w0 T γ st w) cs' vs):
 Rel w0 M T γ (st.add o (.var cs')) a w:=by
 have hother:∀p,p≠o->(st.add o (.var cs')).ah p=st.ah p:=λp hp=>lQ st _ hp;have hsome:∀p y,(st.add o (.var cs')).ah p=some y->∃z,st.ah p=some z:=by
  grind
 have le:(aj w0 T γ st w).le ⟨w,w0.heap.size,T,γ,(st.add o (.var cs')).ah⟩:=by
  refine⟨as7 _,λc hb=>⟨⟨hb.1,hb.2.1,λp y hp=>?_⟩,rfl⟩,λp ds hp=>⟨?_,rfl⟩,λp e r l fr hp=>⟨?_,rfl⟩⟩
  .obtain⟨z,hz⟩:=hsome p y hp;exact hb.2.2 p z hz
  · grind [add_same]
  grind
 refine⟨h.mT,h.defers,h.size,h.os,h.tape,h.output,h.grow,h.kept,λt=>aQ.mono le _ _ (h.tmps t),λp y hp=>?_,λp y c hp hb=>?_,λp y q z c hp hq hpq hb=>?_,λp v ds hN hp=>?_⟩
 .by_cases e:p=o
  .subst e;rw[add_same]at hp;cases hp;obtain⟨b,arr,t,g1,g2,g3⟩:=h.ah p _ ho;exact⟨b,arr,t,g1,g2,ai.mono le _ _ (hc _ g3)⟩
  .rw[hother p e]at hp;exact bD.mono le p y (λ_ _=>rfl) rfl (h.ah p y hp)
 .obtain⟨z,hz⟩:=hsome p y hp;exact h.lt p z c hz hb
 .obtain⟨z1,hz1⟩:=hsome p y hp;obtain⟨z2,hz2⟩:=hsome q z hq;exact h.sep p z1 q z2 c hz1 hz2 hpq hb
 .by_cases e:p=o
  .subst e;exact h.pin p v cs hN ho
  .rw[hother p e]at hp;exact h.pin p v ds hN hp
inductive Place where
 |slot (t k:Nat)
 |obj (o k:Nat)
def cellAt(st:St):Place->Option Cell
 |.slot t k=>match st.tmps t with|.sv v=>v.cells[k]? |_=>none
 |.obj o k=>match st.ah o with|some (.var cs)=>cs[k]? |_=>none
def SV.put(k:Nat)(c:Cell):SV->SV
 |.one _=>.one c
 |.agg cs=>.agg (cs.set k c)
def setCell(st:St)(c:Cell):Place->St
 |.slot t k=>match st.tmps t with|.sv v=>st.set t (.sv (v.put k c))|_=>st
 |.obj o k=>match st.ah o with|some (.var cs)=>st.add o (.var (cs.set k c))|_=>st
abbrev S9:=Place×Nat×TypeId×ak×Bool
def settle(st:St)(x:S9):Option St:=
 match cellAt st x.1 with
 |some (.ref o)=>match Nat.beq o x.2.1 with
  |true=>some st
  |false=>match (st.kill (Nat.beq x.2.1 ·)).ah o with
   |some (.arr _ _ _ _)=>some ((st.kill (Nat.beq x.2.1 ·)).ren o x.2.1)
   |_=>none
 |some .nil=>match Nat.ble 1 x.2.2.2.1.len,cellAt ((st.kill (Nat.beq x.2.1 ·)).add x.2.1 (.arr x.2.2.1 x.2.2.2.1 [] x.2.2.2.2)) x.1 with
  |true,some .nil=>some (setCell ((st.kill (Nat.beq x.2.1 ·)).add x.2.1 (.arr x.2.2.1 x.2.2.2.1 [] x.2.2.2.2)) (.ref x.2.1) x.1)
  |_,_=>none
 |_=>none
def settles(st:St):List S9->Option St
 |[]=>some st
 |x::l=>match settle st x with
  |some s=>settles s l
  |none=>none
theorem ai.set{X:V}:∀(cs:List Cell)(vs:List Value)(k:Nat)(c:Cell),(∀v,aK X .nil v->aK X c v)->cs[k]? =some .nil->ai X cs vs->ai X (cs.set k c) vs
 |[],_,_,_,_,h,_=>by simp at h
 |x::cs,v::vs,0,c,hc,h,⟨h1,h2⟩=>by simp at h;subst h;exact⟨hc v h1,h2⟩
 |x::cs,v::vs,k+1,c,hc,h,⟨h1,h2⟩=>⟨h1,ai.set cs vs k c hc (by simpa using h) h2⟩
 |_::_,[],_,_,_,_,H=>by cases H
theorem Rel.setCell(h:Rel w0 M T γ st a w){c:Cell}{pl:Place}(hn:cellAt st pl=some .nil)(hc:∀v,aK (aj w0 T γ st w) .nil v->aK (aj w0 T γ st w) c v):Rel w0 M T γ (setCell st c pl) a w:=by
 cases pl with
 |slot t k=>
  simp only[cellAt]at hn;simp only[Fw.setCell];split at hn
  .next v hv=>
   have hcov:aQ (aj w0 T γ st w) (.sv (v.put k c)) (a.tmps.getD t undef):=by
    have h0:=h.tmps t;rw[hv]at h0;cases v with
    |one x=>
     have hx:x=.nil/\k=0:=by
      grind [SV.cells]
     obtain⟨rfl,rfl⟩:=hx;exact hc _ h0
    |agg cs=>obtain⟨vs,hvs,hr⟩:=h0;exact⟨vs,hvs,ai.set cs _ k c hc hn hr⟩
   refine⟨h.mT,h.defers,h.size,h.os,h.tape,h.output,h.grow,h.kept,λt'=>?_,h.ah,h.lt,h.sep,h.pin⟩;by_cases e':t'=t
   · grind [St.set,Nat.beq_refl]
   .simp only[St.set,G6 e'];exact h.tmps t'
  .cases hn
 |obj o k=>
  simp only[cellAt]at hn;simp only[Fw.setCell];split at hn
  .next cs hcs=>exact h.aph hcs λvs hvs=>ai.set cs vs k c hc hn hvs
  .cases hn
theorem Rel.aoe(h:Rel w0 M T γ st a w){o:Nat}(ho:st.ah o=none)(e:TypeId)(r:ak)(fr:Bool)(hr:1<=r.len):
 Rel w0 M T (upd γ o (.slice none 0 0)) (st.add o (.arr e r [] fr)) a w:=by
 refine(h.grown (γ':=upd γ o (.slice none 0 0)) (w':=w) (st.add o (.arr e r [] fr)).ah
  (λp x hp=>by grind [lQ])
  (λp x hp=>by rw[ni];grind)
  rfl rfl rfl (as7 _) (λ_ _=>rfl)
  (λp x hp hn=>by
    by_cases e':p=o
    .subst e';rw[add_same]at hp;cases hp;refine⟨⟨[],⟨by simp,.inl ⟨upd_same _ _ _,rfl⟩⟩,hr,(λb hb=>by grind [blk,upd_same]),λi x hi=>by simp at hi⟩,λb hb=>by rw[upd_same]at hb;cases hb⟩
    grind [lQ])
  (λp cs hp hn=>by
    grind [add_same,lQ])
  (λp x q y b hp hpn hq hqn hpq hb=>by
    grind [lQ])).1
theorem aeL(st:St)(p:Nat):(st.kill (Nat.beq p ·)).ah p=none:=by simp[St.kill]
theorem Rel.settle(h:Rel w0 M T γ st a w){x:S9}{s:St}(hs:Fw.settle st x=some s):∃γ',Rel w0 M T γ' s a w:=by
 obtain⟨pl,p,e,r,fr⟩:=x;unfold Fw.settle at hs;split at hs
 .next o ho=>
  split at hs
  · grind
  .split at hs
   .next hk=>cases hs;exact⟨_,(h.kill _).ren hk (aeL st p)⟩
   .cases hs
 .next ho=>
  split at hs
  .next hr hn=>cases hs;have hR:=(h.kill (Nat.beq p ·)).aoe (aeL st p) e r fr (by simp_all);refine⟨_,hR.setCell hn λv hv=>?_⟩;subst hv;exact⟨⟨e,r,[],fr,add_same _ _ _⟩,(upd_same _ _ _).symm,rfl⟩
  .cases hs
 .cases hs
theorem Rel.settles:∀(l:List S9){γ:Nat->Value}{st s:St}(_:Rel w0 M T γ st a w)(_:Fw.settles st l=some s),∃γ',Rel w0 M T γ' s a w
 |[],γ,st,s,h,hs=>by cases hs;grind
 |x::l,γ,st,s,h,hs=>by
  rw[Fw.settles]at hs;split at hs
  .next s1 h1=>obtain⟨γ1,hR⟩:=h.settle h1;exact Rel.settles l hR hs
  .cases hs
end Go.Fw
namespace Go.Fw
open Go
variable {P:Program} {w0:World} {M:Nat->Prop} {T:Ext} {γ γ':Nat->Value} {st s:St} {a:Act} {w w':World} {Θ:gY} {Γ:je}
def CQ(Θ:gY)(st:St)(o:Op):Option (Prop×Nat×aB):=match o with
 |.call {callee:=.builtin .append,args,argTypes}=>match args.toList,argTypes.toList with
  |[s,x],[t,u]=>match Nat.beq t u,Θ t,st.ev s,st.ev x with
   |true,some ti,.sv (.one (.ref o)),.sv (.one y)=>match ti.kind with
    |.slice e=>match Θ e with
     |some te=>match y.get st (.sl e te.cells)with
      |some news=>match st.ah o with
       |some (.arr f r l fr)=>if h:te.cells.beq r=true then
         match Nat.beq e f with
         |true=>some (l.length+news.length<=big,o,.arr e r (l++qR h news) (fr&&y.tN te.cells st))
         |false=>none
        else none
       |_=>none
      |none=>none
     |none=>none
    |_=>none
   |_,_,_,_=>none
  |_,_=>none
 |_=>none
theorem akM(h:st.more s){e:TypeId}{r:ak}{y:Cell}{news:List r.den}(hg:y.get st (.sl e r)=some news):y.fresh s=y.fresh st:=by
 cases y<;>try rfl
 case ref o=>
  simp only[Cell.get]at hg;split at hg
  .next e' r' l fr ho=>simp only[Cell.fresh];rw[h.ah o _ ho,ho]
  .cases hg
theorem ajq(h:st.more s){e:TypeId}{r:ak}{y:Cell}{news:List r.den}(hg:y.get st (.sl e r)=some news):y.tN r s=y.tN r st:=by
 grind [Cell.tN,akM]
theorem aia(h:st.more s){o:Op}{x:Prop×Nat×aB}(hc:CQ Θ st o=some x):CQ Θ s o=some x:=by
 unfold CQ at hc;split at hc
 case h_2=>cases hc
 next args ny=>
 split at hc
 case h_2=>cases hc
 next s1 x1 t u hargs acZ=>
 split at hc
 case h_2=>cases hc
 next ti o y hb ht hs hx=>
 split at hc
 case h_2=>cases hc
 next e hk=>
 split at hc
 case h_2=>cases hc
 next te hte=>
 split at hc
 case h_2=>cases hc
 next news hnews=>
 split at hc
 case h_2=>cases hc
 next f r l fr ho=>
 split at hc
 case isFalse=>cases hc
 next hbr=>
 split at hc
 case h_2=>cases hc
 next hef=>
 cases hc;have h1:=bG h hs (by simp);have h2:=bG h hx (by simp);unfold CQ;simp only[hargs,acZ,hb,ht,h1,h2,hk,hte,X3 h _ _ _ hnews,h.ah o _ ho,hbr,hef,dif_pos,ajq h hnews]
theorem ajr{o:Op}{p:Prop}{q:Nat}{x:aB}(d:Nat)(hc:CQ Θ st o=some (p,q,x)):
 eff Θ Γ d st o=some (p,.sv (.one (.ref q)),(st.kill (Nat.beq q ·)).add q x)/\(∃e r l fr,x=.arr e r l fr)/\∃e r l fr,st.ah q=some (.arr e r l fr):=by
 unfold CQ at hc;split at hc
 case h_2=>cases hc
 next args ny=>
 split at hc
 case h_2=>cases hc
 next s1 x1 t u hargs acZ=>
 split at hc
 case h_2=>cases hc
 next ti o y hb ht hs hx=>
 split at hc
 case h_2=>cases hc
 next e hk=>
 split at hc
 case h_2=>cases hc
 next te hte=>
 split at hc
 case h_2=>cases hc
 next news hnews=>
 split at hc
 case h_2=>cases hc
 next f r l fr ho=>
 split at hc
 case isFalse=>cases hc
 grind [eff]
theorem Cell.xI{S:Nat->Bool}{f:Nat->Nat}(h:∀o,S o=false->f o=o):∀(c:Cell),(c.kill S).ren f=c.kill S
 |.int _ _|.bool _|.str _|.nil|.sl _ _ _ _|.junk=>rfl
 |.ref o=>by
  grind [Cell.kill,Cell.ren]
theorem Bz{S:Nat->Bool}{f:Nat->Nat}(h:∀o,S o=false->f o=o)(cs:List Cell):(cs.map (Cell.kill S)).map (Cell.ren f)=cs.map (Cell.kill S):=by
 grind [List.map_congr_left,Cell.xI]
theorem SV.xI{S:Nat->Bool}{f:Nat->Nat}(h:∀o,S o=false->f o=o):∀(c:SV),(c.kill S).ren f=c.kill S
 |.one c=>by grind [SV.kill,SV.ren,Cell.xI]
 |.agg cs=>by grind [SV.kill,SV.ren,Bz]
theorem AV.xI{S:Nat->Bool}{f:Nat->Nat}(h:∀o,S o=false->f o=o):∀(c:AV),(c.kill S).ren f=c.kill S
 |.undef=>rfl
 |.sv v=>by grind [AV.kill,AV.ren,SV.xI]
 |.kZ vs=>by
  grind [AV.kill,AV.ren,List.map_congr_left,SV.xI]
 |.eG o off=>by
  grind [AV.kill,AV.ren]
 |.lI o i off=>by
  grind [AV.kill,AV.ren]
 |.win o i off=>by
  grind [AV.kill,AV.ren]
 |.nH _ _ _ _=>rfl
 |.dA cs off=>by grind [AV.kill,AV.ren,Bz]
 |.fn g caps=>by
  grind [AV.kill,AV.ren,List.map_congr_left,Bz]
theorem aB.xI{S:Nat->Bool}{f:Nat->Nat}(h:∀o,S o=false->f o=o):∀(c:aB),(c.kill S).ren f=c.kill S
 |.var cs=>by grind [aB.kill,aB.ren,Bz]
 |.arr _ _ _ _=>rfl
theorem akN{G:iV}(hE:pK P G Θ Γ w0 M)(h:Rel w0 M T γ st a w)(o:Oper){p:Prop}{n q:Nat}{x:aB}
 (hc:CQ Θ st o.op=some (p,q,x)) (hp:p) (hn0:st.ah n=none) {next:Act->World->Prop} {Q:Exit->Act->World->Prop}
 (hn:∀u γ' w',Rel w0 M T γ' ((st.kill (Nat.beq q ·)).add n x) a w'->aQ (aj w0 T γ' ((st.kill (Nat.beq q ·)).add n x) w') (.sv (.one (.ref n))) u->next (a.put o.dst u) w'):o.wp P a w next Q:=by
 obtain⟨he,⟨e,r,l,fr,rfl⟩,⟨e',r',l',fr',hq⟩⟩:=ajr (Γ:=Γ) 0 hc;have hnq:n≠q:=λe=>by grind
 have hqn:∀t,Nat.beq q t=false->xH q n t=t:=λt ht=>OT λe=>by simp_all
 refine aeI hE h o he hp λu γ1 w1 hR hv=>?_;have hS:(((st.kill (Nat.beq q ·)).add q (.arr e r l fr)).ren q n)=(st.kill (Nat.beq q ·)).add n (.arr e r l fr):=by
  simp only[St.ren,St.add,St.kill,St.mk.injEq,auZ];refine⟨funext λt=>AV.xI hqn _,funext λt=>?_⟩;cases hb:Nat.beq t n with
  |true=>simp[atX,aB.ren]
  |false=>
   cases hb2:Nat.beq t q with
   |true=>
    simp_all
   |false=>
    have hb3:Nat.beq q t=false:=by
     grind [Nat.eq_of_beq_eq_true]
    simp only[hb3];cases st.ah t with
    |none=>rfl
    |some y=>grind [aB.xI]
 have aof:=hR.ren (o:=q) (p:=n) (e:=e) (r:=r) (l:=l) (fr:=fr) (by simp[St.add,atX]) (by simp only[St.add,St.kill,G6 hnq,hn0,aul];cases Nat.beq q n<;>rfl);rw[hS]at aof;refine hn u _ _ aof ?_;obtain⟨_,h2,h3⟩:aK _ (.ref q) u:=hv;have xG:((st.kill (Nat.beq q ·)).add n (.arr e r l fr)).ah n=some (.arr e r l fr):=by simp[St.add,atX]
 have hval:u=(match Nat.beq n n with|true=>γ1 q|false=>γ1 n):=by simp_all
 exact⟨⟨e,r,l,fr,xG⟩,hval,h3⟩
end Go.Fw
