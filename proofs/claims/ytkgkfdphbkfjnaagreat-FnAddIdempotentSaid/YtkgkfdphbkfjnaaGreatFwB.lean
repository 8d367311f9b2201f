import Derived.Test.YtkgkfdphbkfjnaaGreatFwA
import Derived.Lib.SliceRun
import Derived.WalkSpells
namespace Go.Fw
open Go
variable {P:Program} {w0:World} {M:Nat->Prop} {T:Ext} {γ γ':Nat->Value} {st:St} {a:Act} {w w':World} {Θ:jT} {Γ:lC}
theorem afU{α:Type}{l:List α}{lo:Nat}{news:List α}(h:lo+news.length<=l.length):(dF l lo news).length=l.length:=by unfold dF;simp only[awW,awT,axt];omega
theorem alK{α:Type}{l:List α}{lo:Nat}{news:List α}(h:lo+news.length<=l.length)(k:Nat):
 (dF l lo news)[k]? =if k<lo then l[k]? else if k<lo+news.length then news[k-lo]? else l[k]? :=by
 unfold dF;have ht:(l.take lo).length=lo:=by rw[awT];omega
 by_cases h1:k<lo
 .rw[if_pos h1,axA,axq (by omega),axa,if_pos h1]
 .rw[if_neg h1];by_cases h2:k<lo+news.length
  .rw[if_pos h2,axA,axl (by omega),ht,axq (by omega)]
  .rw[if_neg h2,axl (by rw[awW];omega),awW,ht,axs];congr 1;omega
theorem Rel.rows(h:Rel w0 M T γ st a w){o:Nat}{e:TypeId}{r:aK}{l:List r.den}{fr:Bool}(ho:st.ah o=some (.arr e r l fr)){b m cap:Nat}(hγ:γ o=.slice (some ⟨b,0,none⟩) m cap){cur:Array Value}(hb:w.heap[b]? =some (.cells cur e (0,0)))
 {lo:Nat} {news:List r.den} {ns:List Value} (hnl:ns.length=news.length*r.len) (hle:lo+news.length<=l.length)
 (hrows:∀i x,news[i]? =some x->bQ w.heap ((aA w0 T γ st w).dJ fr) r ((ns.drop (i*r.len)).take r.len) x):
 Rel w0 M T γ (st.add o (.arr e r (dF l lo news) fr)) a (w.setRow b (cur.toList.take (lo*r.len)++ns++cur.toList.drop (lo*r.len+ns.length)).toArray):=by
 obtain⟨xs,⟨h1,h2⟩,hpos,hfr,hrow⟩:=h.ah o _ ho;rcases h2 with⟨hnil,_⟩|⟨g,cap',cur',hg,_,hh,hlc,hmax,hsz,htake⟩
 .have nV:γ o=.slice none 0 0:=hnil;rw[hγ]at nV;cases nV
 .have nV:γ o=.slice (some ⟨g,0,none⟩) l.length cap':=hg;rw[hγ]at nV;simp at nV;obtain⟨rfl,hn,hcap⟩:=nV;have hcur:cur'=cur:=by have hh':w.heap[b]? =some (.cells cur' e (0,0)):=hh;rw[hb]at hh';simp at hh';exact hh'.symm
  subst hcur;have awo:lo*r.len+news.length*r.len<=l.length*r.len:=by rw[← axw];exact axg _ hle
  have atY:l.length*r.len<=cap'*r.len:=axg _ hlc;have e1:cur'.toList.length=cur'.size:=axd;refine h.write (x':=.arr e r (dF l lo news) fr) ho (by rw[hγ];rfl) ⟨rfl,rfl⟩ _ (λle=>?_);have hnew:∀k,(cur'.toList.take (lo*r.len)++ns++cur'.toList.drop (lo*r.len+ns.length))[k]? =if k<lo*r.len then cur'.toList[k]? else if k<lo*r.len+ns.length then ns[k-lo*r.len]? else cur'.toList[k]? :=λk=>aiu _ _ _ k (by omega)
  have aoE:(cur'.toList.take (lo*r.len)++ns++cur'.toList.drop (lo*r.len+ns.length)).length=cur'.size:=by simp only[awW,awT,axt];omega
  generalize hnd:cur'.toList.take (lo*r.len)++ns++cur'.toList.drop (lo*r.len+ns.length)=new at hnew aoE le ⊢;have hol:=afU hle;refine⟨new.take (l.length*r.len),⟨?_,.inr ⟨b,cap,new.toArray,?_,axp _,DT hh,?_,?_,?_,?_⟩⟩,hpos,?_,?_⟩
  .rw[awT,aoE,hol];omega
  .rw[hol];show γ o=_;rw[hγ,hn]
  .rw[hol];omega
  .omega
  .rw[ayF,aoE,hsz,hcap]
  .rw[hol,azc]
  .intro c hc hf;exact hfr c hc hf
  .intro i x hi;have hlt:i<l.length:=by have:=(aw3.1 hi).1;rw[hol]at this;exact this
   have hmul:i*r.len+r.len<=l.length*r.len:=by have:(i+1)*r.len<=l.length*r.len:=axg _ hlt;rw[axw]at this;simpa using this
   rw[iK _ _ _ _ hmul];rw[alK hle]at hi;have old:∀y,l[i]? =some y->(∀k,k<r.len->new[i*r.len+k]? =cur'.toList[i*r.len+k]?)->bQ (w.setRow b new.toArray).heap (V.dJ ⟨w.setRow b new.toArray,w0.heap.size,T.S,γ,(st.add o (.arr e r (dF l lo news) fr)).ah⟩ fr) r ((new.drop (i*r.len)).take r.len) y:=by
    intro y hy hk;have hR:=hrow i y hy;have:(new.drop (i*r.len)).take r.len=(xs.drop (i*r.len)).take r.len:=by
     rw[← htake,iK _ _ _ _ hmul];apply ayf;intro k;rw[axa,axa,axs,axs];by_cases hkr:k<r.len
     .rw[if_pos hkr,if_pos hkr,hk k hkr]
     .rw[if_neg hkr,if_neg hkr]
    rw[this];exact bQ.mono (λc hc=>le.dJ _ c hc) _ _ y hR
   split at hi
   .next hlo=>
    refine old x hi λk hk=>?_;rw[hnew];have:i*r.len+r.len<=lo*r.len:=by have:(i+1)*r.len<=lo*r.len:=axg _ hlo;rw[axw]at this;simpa using this
    rw[if_pos (by omega)]
   .next hlo=>
    split at hi
    .next hhi=>
     have hR:=hrows _ x hi;have e2:i*r.len=lo*r.len+(i-lo)*r.len:=by rw[← axw];congr 1;omega
     have hm3:(i-lo)*r.len+r.len<=news.length*r.len:=by have:(i-lo+1)*r.len<=news.length*r.len:=axg _ (by omega);rw[axw]at this;simpa using this
     have:(new.drop (i*r.len)).take r.len=(ns.drop ((i-lo)*r.len)).take r.len:=by
      apply ayf;intro k;rw[axa,axa,axs,axs];by_cases hkr:k<r.len
      .rw[if_pos hkr,if_pos hkr,hnew,if_neg (by omega),if_pos (by omega)];congr 1;omega
      .rw[if_neg hkr,if_neg hkr]
     rw[this];exact bQ.mono (λc hc=>le.dJ _ c hc) _ _ x hR
    .next hhi=>
     refine old x hi λk hk=>?_;rw[hnew];have:lo*r.len+news.length*r.len<=i*r.len:=by rw[← axw];exact axg _ (by omega)
     rw[if_neg (by omega),if_neg (by omega)]
theorem Qn{α:Type}(l:List α)(lo:Nat):dF l lo []=l:=by unfold dF;rw[axK,awY,ayd,ayh]
theorem aem{o:Nat}{x:aX}(h:st.ah o=some x):st.add o x=st:=by
 cases st;simp only[St.add]at h ⊢;congr 1
 funext i
 cases hb:Nat.beq i o with
 |false=>rfl
 |true=>rw[awQ hb,h]
theorem ajT(h:Rel w0 M T γ st a w){o:Nat}{e:TypeId}{r:aK}{l:List r.den}{fr:Bool}(ho:st.ah o=some (.arr e r l fr)){b m cap:Nat}(hγ:γ o=.slice (some ⟨b,0,none⟩) m cap):
 ∃cur:Array Value,w.heap[b]? =some (.cells cur e (0,0))/\cur.size=cap*r.len/\0<r.len/\cap<=maxLen/\l.length<=cap/\
  ∀i x,l[i]? =some x->bQ w.heap ((aA w0 T γ st w).dJ fr) r ((cur.toList.drop (i*r.len)).take r.len) x:=by
 obtain⟨xs,⟨h1,h2⟩,hpos,hfr,hrow⟩:=h.ah o _ ho;rcases h2 with⟨hnil,_⟩|⟨g,cap',cur',hg,_,hh,hlc,hmax,hsz,htake⟩
 .have nV:γ o=.slice none 0 0:=hnil;rw[hγ]at nV;cases nV
 .have nV:γ o=.slice (some ⟨g,0,none⟩) l.length cap':=hg;rw[hγ]at nV;simp at nV;obtain⟨rfl,hn,rfl⟩:=nV;refine⟨cur',hh,hsz,hpos,hmax,hlc,λi x hi=>?_⟩;have hlt:i<l.length:=(aw3.1 hi).1;have hmul:i*r.len+r.len<=l.length*r.len:=by have:(i+1)*r.len<=l.length*r.len:=axg _ hlt;rw[axw]at this;simpa using this
  have:=hrow i x hi;rw[← htake,iK _ _ _ _ hmul]at this;exact this
theorem alL{h:Array Obj}{S:Nat->Prop}:∀(r:aK)(vs:List Value)(x:r.den),bQ h S r vs x->∀v∈vs,v.oneCell'=true
 |.nil,vs,_,H,v,hv=>by rw[bQ]at H;subst H;cases hv
 |.cons c r,vs,(x,y),H,v,hv=>by
  rw[bQ]at H;obtain⟨u,vs',rfl,h1,h2⟩:=H;rcases axi.1 hv with rfl|hv
  .cases c with
   |int k=>rw[h1.1];rfl
   |bool=>rw[show _=_ from h1];rfl
   |str=>rw[h1.1];rfl
   |sl e s=>have h1:wO _ _ _ _ v x:=h1;rcases h1.2 with⟨_,a,c,hv⟩|⟨b,off,cap,cs,t,fz,hv,_⟩<;>rw[hv]<;>rfl
  .exact alL r vs' y h2 v hv
theorem ajU{h:Array Obj}{S:Nat->Prop}{r:aK}(hpos:0<r.len){news:List r.den}{ns:List Value}(hnl:ns.length=news.length*r.len)(hrows:∀i x,news[i]? =some x->bQ h S r ((ns.drop (i*r.len)).take r.len) x):∀u∈ns,u.oneCell'=true:=by intro u hu;obtain⟨j,hj⟩:=ayu hu;have hjl:j<ns.length:=(aw3.1 hj).1;rw[hnl]at hjl;have hil:j / r.len<news.length:=Nat.div_lt_of_lt_mul (by rw[azy];exact hjl);have hR:=hrows (j / r.len) _ (awV hil);refine alL _ _ _ hR u ?_;have hdm:=azW j r.len;have hml:=azN j hpos;refine axD (i:=j%r.len) ?_;rw[axa,if_pos hml,axs,← hj];congr 1;rw[azy]at hdm;omega
theorem acz(hΘ:∀t ti,Θ t=some ti->mM P t ti)(h:Rel w0 M T γ st a w){t ty:TypeId}{ti:TI}(ht:Θ t=some ti){sx x:Operand}{o DR n0 o2 lo2 n2:Nat}(e1:st.ev sx=.win o DR n0)(e2:st.ev x=.win o2 lo2 n2)
 {p:Prop} {v:AV} {s:St} (hc:ZQ Θ st ti o DR n0 o2 lo2 n2=some (p,v,s)) (hp:p):
 ∃u w',(Builtin.append_ #[t,t] ty #[a.eval sx,a.eval x]).run P w=.ok u w'/\Rel w0 M T γ s a w'/\bK (aA w0 T γ s w') v u:=by
 unfold ZQ at hc;split at hc
 .next e f r l fr hb hk ho=>
  rw[awP]at hb;have hlo0:=awQ hb.1;have hoo:=awQ hb.2;subst hlo0 hoo;split at hc
  .next te he=>
   split at hc
   .next hbe=>
    rw[awP]at hbe;have hef:=awQ hbe.2;have hte:=aK.eq_of_beq _ _ hbe.1;cases hc;subst hef;obtain⟨hp1,hp2⟩:=hp;obtain⟨g,m,cap,e',r',l',fr',hx,hγ,⟨q,hq,hv,hle⟩⟩:=Z4 h e1;rw[ho]at hx;cases hx;obtain⟨g2,m2,cap2,e'',r'',l'',awt,hx2,nV,⟨q2,hq2,hv2,hle2⟩⟩:=Z4 h e2;rw[hγ]at nV;simp at nV;obtain⟨rfl,rfl,rfl⟩:=nV;rw[ho]at hx2;cases hx2;obtain⟨cur,hh,hsz,hpos,hmax,hlc,hrow⟩:=ajT h ho hγ;obtain⟨i,z,hi,hisz,hby,hz,hzv,_⟩:=(hΘ e te he).info;have hu:=(hΘ t ti ht).und;rw[hk]at hu;rw[hte]at hisz;by_cases hn2:n2=0
    .subst hn2;refine⟨.slice (some ⟨g,q,none⟩) n0 (cap-0),w,?_,?_,?_⟩
     .rw[hv,hv2];have hnc:n0<=cap:=by omega
      rw[Nat.sub_zero];simp[Builtin.append_,axo hu.1 w,sizeOf,typeInfo,hi,Builtin.lenOf,Builtin.firstCells,hnc,storeCells,loadCells,loadCellsFrom]
     .have:dF l n0 ((l.drop lo2).take 0)=l:=by rw[az4,Qn]
      rw[this,aem ho];exact h
     .have:dF l n0 ((l.drop lo2).take 0)=l:=by rw[az4,Qn]
      rw[this,aem ho];exact⟨g,m,cap,e,r,l,fr,ho,hγ,q,hq,rfl,by omega⟩
    .have hq0:q=0:=by
      rcases hq with e3|e3
      .rw[e3,ayI]
      .omega
     have au5:q2=lo2*r.len:=by
      rcases hq2 with e3|e3
      .exact e3
      .omega
     subst hq0 au5;have alf:((l.drop lo2).take n2).length=n2:=by rw[awT,axt];omega
     let ns:List Value:=(cur.toList.drop (lo2*r.len)).take (n2*r.len)
     have ec:cur.toList.length=cur.size:=axd;have hm1:lo2*r.len+n2*r.len<=cap*r.len:=by rw[← axw];exact axg _ (by omega)
     have hm0:n0*r.len+n2*r.len<=cap*r.len:=by rw[← axw];exact axg _ (by omega)
     have hnl:ns.length=n2*r.len:=by simp only[ns,awT,axt];omega
     have hrows:∀i x,((l.drop lo2).take n2)[i]? =some x->bQ w.heap ((aA w0 T γ st w).dJ fr) r ((ns.drop (i*r.len)).take r.len) x:=by
      intro i x hi;have hilt:i<n2:=by have:=(aw3.1 hi).1;rw[alf]at this;exact this
      rw[axa,if_pos hilt,axs]at hi;have hR:=hrow (lo2+i) x hi;have hmul:i*r.len+r.len<=n2*r.len:=by have:(i+1)*r.len<=n2*r.len:=axg _ hilt;rw[axw]at this;simpa using this
      have:(ns.drop (i*r.len)).take r.len=(cur.toList.drop ((lo2+i)*r.len)).take r.len:=by simp only[ns];rw[iK _ _ _ _ hmul,ayj,axw]
      rw[this];exact hR
     have O3:=ajU hpos (by rw[alf];exact hnl) hrows;have hnews:∀j u,ns[j]? =some u->w.cell? ((⟨g,lo2*r.len,none⟩:Addr).add j)=some u:=by intro j u hj;rw[addr_add];exact WE hh _ j u hj
     have hroom:n0+n2<=cap:=by omega
     have hrun:=run_append_room (P:=P) (ty:=ty) (w:=w) t e i hu.1 hi g n0 cap cur hh ⟨g,lo2*r.len,none⟩ n2 (cap-lo2) ns (by rw[hisz];exact hnl) hnews O3 hroom (by rw[hisz];omega);rw[hisz]at hrun;refine⟨_,_,by rw[hv,hv2];exact hrun,h.rows ho hγ hh (by rw[alf];exact hnl) (by rw[alf];exact hp1) hrows,?_⟩;exact⟨g,m,cap,e,r,_,fr,add_same _ _ _,hγ,0,.inl (by rw[ayI]),rfl,by omega⟩
   .cases hc
  .cases hc
 .cases hc
theorem aiv{z:Array Value}{r:aK}(hz:z.toList=r.lN)(hpos:0<r.len)(n:Nat):(Builtin.zeroCells z n).toList.length=n*r.len/\∀i,i<n->((Builtin.zeroCells z n).toList.drop (i*r.len)).take r.len=r.lN:=by
 have hzs:z.size=r.len:=by rw[← axd,hz,nZ]
 have hlen:(Builtin.zeroCells z n).toList.length=n*r.len:=by simp[Builtin.zeroCells,hzs]
 refine⟨hlen,λi hi=>?_⟩;have hmul:i*r.len+r.len<=n*r.len:=by have:(i+1)*r.len<=n*r.len:=axg _ hi;rw[axw]at this;simpa using this
 apply ay3
 .rw[awT,axt,hlen,nZ];omega
 .intro k h1 h2;rw[List.getElem_take,List.getElem_drop];have hk:k<r.len:=by rw[nZ]at h2;exact h2
  have hmod:(i*r.len+k)%r.len=k:=by rw[azm,azH,Nat.mod_eq_of_lt hk]
  have hzk:r.lN[k]=z[k]'(by omega):=by
   have:z.toList[k]'(by rw[axd];omega)=r.lN[k]:=by simp only[hz]
   rw[← this,Array.getElem_toList]
  rw[hzk];simp[Builtin.zeroCells,hzs,hmod,hk]
theorem aen(hΘ:∀t ti,Θ t=some ti->mM P t ti)(h:Rel w0 M T γ st a w){t ty:TypeId}{ti:TI}(ht:Θ t=some ti){x:Operand}{o lo n:Nat}(e1:st.ev x=.win o lo n)
 {p:Prop} {v:AV} {s:St} (hc:aef Θ st ti o lo n=some (p,v,s)) (hp:p):
 ∃u w',(Builtin.clear_ #[t] ty #[a.eval x]).run P w=.ok u w'/\Rel w0 M T γ s a w'/\bK (aA w0 T γ s w') v u:=by
 unfold aef at hc;split at hc
 .next e f r l fr hk ho=>
  split at hc
  .next te he=>
   split at hc
   .next hbe=>
    rw[awP]at hbe;have hef:=awQ hbe.2;have hte:=aK.eq_of_beq _ _ hbe.1;cases hc;subst hef;obtain⟨g,m,cap,e',r',l',fr',hx,hγ,⟨q,hq,hv,hle⟩⟩:=Z4 h e1;rw[ho]at hx;cases hx;obtain⟨cur,hh,hsz,hpos,hmax,hlc,hrow⟩:=ajT h ho hγ;have hu:=(hΘ t ti ht).und;rw[hk]at hu;cases n with
    |zero=>
     refine⟨.tuple #[],w,?_,?_,⟨#[],rfl,trivial⟩⟩
     .rw[hv];simp[Builtin.clear_,axo hu.1 w]
     .have:dF l lo (List.replicate 0 r.dflt)=l:=Qn l lo;rw[this,aem ho];exact h
    |succ k=>
     have hq0:q=lo*r.len:=by
      rcases hq with e3|e3
      .exact e3
      .omega
     subst hq0;obtain⟨z,hz,hzv⟩:=Yz (P:=P) (w:=w) (hΘ e te he);rw[hte]at hzv;obtain⟨hnl,hzr⟩:=aiv hzv hpos (k+1);have ec:cur.toList.length=cur.size:=axd;have hm1:lo*r.len+(k+1)*r.len<=cap*r.len:=by rw[← axw];exact axg _ (by omega)
     have hrl:(List.replicate (k+1) r.dflt).length=k+1:=ayZ;have hrows:∀i x,(List.replicate (k+1) r.dflt)[i]? =some x->bQ w.heap ((aA w0 T γ st w).dJ fr) r (((Builtin.zeroCells z.cells (k+1)).toList.drop (i*r.len)).take r.len) x:=by
      intro i x hi;have hilt:i<k+1:=by have:=(aw3.1 hi).1;rw[hrl]at this;exact this
      have hx:x=r.dflt:=by rw[ayL,if_pos hilt]at hi;exact(Option.some.inj hi).symm
      rw[hzr i hilt,hx];exact ZW _ _ r
     have O3:=ajU hpos (by rw[hrl];exact hnl) hrows;have hst:=azK P g (lo*r.len) e (Builtin.zeroCells z.cells (k+1)).toList 0 cur w hh (by rw[hnl];omega) O3;simp only[ayd]at hst;refine⟨.tuple #[],_,?_,h.rows ho hγ hh (by rw[hrl];exact hnl) (by rw[hrl];exact hp) hrows,⟨#[],rfl,trivial⟩⟩;rw[hv];simp[Builtin.clear_,axo hu.1 w,hz,hst]
   .cases hc
  .cases hc
 .cases hc
theorem Rel.update(h:Rel w0 M T γ st a w){K D:Nat->Bool}{H:Nat->Prop}{mY:Nat->Option aX}{γ2:Nat->Value}
 (hos:w'.os=w.os) (htape:w'.tape=w.tape) (hout:w'.output=w.output) (hsize:w.heap.size<=w'.heap.size)
 (hH:∀b,H b->∃o x,st.ah o=some x/\blk (γ o)=some b)
 (hheap:∀b,b<w.heap.size->¬H b->w'.heap[b]? =w.heap[b]?)
 (h1:∀p,D p=false->mY p=(st.kill K).ah p/\γ2 p=γ p)
 (h2:∀p x b,D p=false->K p=false->st.ah p=some x->blk (γ p)=some b->¬H b)
 (h3:∀p x,D p=true->mY p=some x->∀b,blk (γ2 p)=some b->b<w'.heap.size/\(w.heap.size<=b\/H b))
 (h3':V.oV K (aA w0 T γ st w) ⟨w',w0.heap.size,T,γ2,mY⟩->∀p x,D p=true->mY p=some x->dh ⟨w',w0.heap.size,T,γ2,mY⟩ p x)
 (h4:∀p q x y b,D p=true->D q=true->mY p=some x->mY q=some y->p≠q->blk (γ2 p)=some b->blk (γ2 q)≠some b)
 (h5:∀p cs,D p=true->K p=false->st.ah p=some (.var cs)->(∃cs',mY p=some (.var cs'))/\γ2 p=γ p)
 (h6:∀p e r l fr,D p=true->K p=false->st.ah p=some (.arr e r l fr)->(∃l' fr',mY p=some (.arr e r l' fr'))/\γ2 p=γ p)
 (h7:∀p cs,D p=true->mY p=some (.var cs)->(∃cs0,st.ah p=some (.var cs0)/\γ2 p=γ p)\/T.N p=none):
 Rel w0 M T γ2 {n:=st.n,tmps:=λt=>(st.tmps t).kill K,ah:=mY} a w'/\V.oV K (aA w0 T γ st w) ⟨w',w0.heap.size,T,γ2,mY⟩:=by
 have hHb:∀b,H b->b<w.heap.size/\(w0.heap.size<=b\/M b):=λb hb=>by obtain⟨o,x,ho,hγ⟩:=hH b hb;exact h.lt o x b ho hγ
 have KF:∀b,(aA w0 T γ st w).foot b->¬H b:=λb hb hh=>by obtain⟨o,x,ho,hγ⟩:=hH b hh;exact hb.2.2 o x ho hγ
 have old:∀p x,D p=false->mY p=some x->∃y,st.ah p=some y/\x=y.kill K/\K p=false:=λp x hD hx=>by rw[(h1 p hD).1]at hx;exact Au K hx
 have le:V.oV K (aA w0 T γ st w) ⟨w',w0.heap.size,T,γ2,mY⟩:=by
  refine⟨aw7 _,λb hb=>⟨⟨axI hb.1 hsize,hb.2.1,λo x hx e=>?_⟩,hheap b hb.1 (KF b hb)⟩,λo cs hK ho=>?_,λo e r l fr hK ho=>?_⟩
  .cases hD:D o with
   |false=>
    obtain⟨y,hy,_,_⟩:=old o x hD hx;have e':blk (γ2 o)=some b:=e;rw[(h1 o hD).2]at e';exact hb.2.2 o y hy e'
   |true=>
    rcases(h3 o x hD hx b e).2 with h'|h'
    .have hlt:b<w.heap.size:=hb.1;omega
    .exact KF b hb h'
  .have ho':st.ah o=some (.var cs):=ho;cases hD:D o with
   |false=>
    refine⟨⟨cs.map (Cell.kill K),?_⟩,(h1 o hD).2⟩;show mY o=_;rw[(h1 o hD).1];exact pO K hK ho'
   |true=>exact h5 o cs hD hK ho'
  .have ho':st.ah o=some (.arr e r l fr):=ho;cases hD:D o with
   |false=>
    refine⟨⟨l,fr,?_⟩,(h1 o hD).2⟩;show mY o=_;rw[(h1 o hD).1];exact pO K hK ho'
   |true=>exact h6 o e r l fr hD hK ho'
 refine⟨⟨h.mT,h.defers,h.size,hos.trans h.os,htape.trans h.tape,hout.trans h.output,aw2 h.grow hsize,λb hb hM=>?_,λt=>bK.oV le _ _ (h.tmps t),λo x hx=>?_,λo x b hx hb=>?_,λo x p y b hx hy hop hb=>?_,λo v cs hN hx=>?_⟩,le⟩
 .rw[hheap b (axI hb h.grow) λhh=>by
   rcases(hHb b hh).2 with h'|h'
   .omega
   .exact hM h']
  exact h.kept b hb hM
 .cases hD:D o with
  |false=>
   obtain⟨y,hy,rfl,hK⟩:=old o x hD hx;exact dh.oV le o y (λb hb=>hheap b (h.lt o y b hy hb).1 (h2 o y b hD hK hy hb)) (h1 o hD).2 (h.ah o y hy)
  |true=>exact h3' le o x hD hx
 .cases hD:D o with
  |false=>
   obtain⟨y,hy,rfl,hK⟩:=old o x hD hx;rw[(h1 o hD).2]at hb;have:=h.lt o y b hy hb;exact⟨axI this.1 hsize,this.2⟩
  |true=>have:=h3 o x hD hx b hb;exact⟨this.1,this.2.elim (λg=>.inl (aw2 h.grow g)) λg=>(hHb b g).2⟩
 .cases hD:D o with
  |false=>
   obtain⟨y1,hy1,rfl,hK1⟩:=old o x hD hx;rw[(h1 o hD).2]at hb;have hbl:=h.lt o y1 b hy1 hb;cases hE:D p with
   |false=>
    obtain⟨y2,hy2,rfl,hK2⟩:=old p y hE hy;rw[(h1 p hE).2];exact h.sep o y1 p y2 b hy1 hy2 hop hb
   |true=>
    intro e;rcases(h3 p y hE hy b e).2 with h'|h'
    .omega
    .exact h2 o y1 b hD hK1 hy1 hb h'
  |true=>
   cases hE:D p with
   |false=>
    obtain⟨y2,hy2,rfl,hK2⟩:=old p y hE hy;rw[(h1 p hE).2];intro e;have hbl:=h.lt p y2 b hy2 e;rcases(h3 o x hD hx b hb).2 with h'|h'
    .omega
    .exact h2 p y2 b hE hK2 hy2 e h'
   |true=>exact h4 o p x y b hD hE hx hy hop hb
 .cases hD:D o with
  |false=>
   obtain⟨y,hy,e,_⟩:=old o _ hD hx;rw[(h1 o hD).2];cases y with
   |var cs'=>exact h.pin o v cs' hN hy
   |arr _ _ _ _=>cases e
  |true=>
   rcases h7 o cs hD hx with⟨cs0,g1,g2⟩|g
   .rw[g2];exact h.pin o v cs0 hN g1
   .rw[g]at hN;cases hN
def JO(nr:Bool)(st:St)(x:AV)(a:Arg)(o:Option Nat):Prop:=
 (o=none/\(nr=true->x.refs=[])/\qH st [x]=some [a])\/
 (∃p e r l fr,o=some p/\x=.sv (.one (.ref p))/\st.ah p=some (.arr e r l fr)/\a=.own e r l)\/
 (∃p cs,o=some p/\x=.bC p 0/\st.ah p=some (.var cs)/\cs.flatMap Cell.refs=[]/\a=.ptr (cs.map (Cell.view st)))
theorem Qo{m:Mode}{x:AV}{a:Arg}{o:Option Nat}(h:qU st m x=some (a,o)):JO true st x a o:=by
 cases m with
 |val=>
  simp only[qU]at h;split at h
  .next a' hr ha=>cases h;exact .inl ⟨rfl,λ_=>hr,ha⟩
  .cases h
 |own=>
  simp only[qU]at h;split at h
  .split at h
   .next p _ e r l fr ho=>cases h;exact .inr (.inl ⟨p,e,r,l,fr,rfl,rfl,ho,rfl⟩)
   .cases h
  .cases h
 |ptr=>
  simp only[qU]at h;split at h
  .split at h
   .next p off _ _ cs h0 ho=>
    split at h
    .next hr=>cases h;have h0:=awQ h0;subst h0;exact .inr (.inr ⟨p,cs,rfl,rfl,ho,hr,rfl⟩)
    .cases h
   .cases h
  .cases h
def uj(nr:Bool)(st:St):List AV->List Arg->List (Option Nat)->Prop
 |[],[],[]=>True
 |x::xs,a::as,o::os=>JO nr st x a o/\uj nr st xs as os
 |_,_,_=>False
theorem WL:∀(ms:List Mode)(xs:List AV)(as:List Arg)(os:List (Option Nat)),hands st ms xs=some (as,os)->uj true st xs as os
 |_,[],as,os,h=>by unfold hands at h;cases h;trivial
 |ms,x::xs,as,os,h=>by
  unfold hands at h;split at h
  .next a o as' os' h1 h2=>cases h;exact⟨Qo h1,WL ms.tail xs as' os' h2⟩
  .cases h
variable {nr:Bool}
theorem uj.get:∀{xs:List AV}{as:List Arg}{os:List (Option Nat)},uj nr st xs as os->∀(i:Nat)(a:Arg),as[i]? =some a->∃x o,xs[i]? =some x/\os[i]? =some o/\JO nr st x a o
 |[],[],[],_,i,a,h=>by simp at h
 |x::xs,b::as,o::os,⟨h1,h2⟩,0,a,h=>by simp at h;subst h;exact⟨x,o,rfl,rfl,h1⟩
 |x::xs,b::as,o::os,⟨h1,h2⟩,i+1,a,h=>by
  obtain⟨y,q,g1,g2,g3⟩:=h2.get i a (by simpa using h);exact⟨y,q,by simpa using g1,by simpa using g2,g3⟩
 |[],[],_::_,H,_,_,_|[],_::_,_,H,_,_,_|_::_,[],_,H,_,_,_|_::_,_::_,[],H,_,_,_=>H.elim
theorem uj.length:∀{xs:List AV}{as:List Arg}{os:List (Option Nat)},uj nr st xs as os->as.length=xs.length/\os.length=xs.length
 |[],[],[],_=>⟨rfl,rfl⟩
 |x::xs,b::as,o::os,⟨_,h2⟩=>by simp[h2.length.1,h2.length.2]
 |[],[],_::_,H|[],_::_,_,H|_::_,[],_,H|_::_,_::_,[],H=>H.elim
def γE(os:List (Option Nat))(γ:Nat->Value)(p:Nat):Value:=match os[p / 64]? with|some (some o)=>γ o|_=>undef
theorem Z7{xs:List AV}{as:List Arg}{os:List (Option Nat)}(hh:uj nr st xs as os){q:Nat}{X:aX}(hq:dO as q=some X):
 ∃o Y,os[q / 64]? =some (some o)/\st.ah o=some Y/\((∃e r l fr,X=.arr e r l false/\Y=.arr e r l fr/\q%64=49)\/(∃cs,X=.var (cs.map (Cell.view st))/\Y=.var cs/\cs.flatMap Cell.refs=[]/\q%64=48)):=by
 unfold dO at hq;split at hq
 .next e r l ha=>
  split at hq
  .next hm=>
   cases hq;have hm:=awQ hm;obtain⟨x,o,_,ho,h1⟩:=hh.get _ _ ha;rcases h1 with⟨_,_,h3⟩|⟨p,e',r',l',fr,rfl,_,hp,h4⟩|⟨p,cs,_,_,_,_,h4⟩
   .exfalso;unfold qH at h3;split at h3
    .split at h3<;>simp at h3
    .split at h3<;>simp at h3
    .split at h3<;>simp at h3
    .cases h3
   .cases h4;exact⟨p,_,ho,hp,.inl ⟨e,r,l,fr,rfl,rfl,hm⟩⟩
   .cases h4
  .cases hq
 .next cs0 ha=>
  split at hq
  .next hm=>
   cases hq;have hm:=awQ hm;obtain⟨x,o,_,ho,h1⟩:=hh.get _ _ ha;rcases h1 with⟨_,_,h3⟩|⟨p,e',r',l',fr,_,_,_,h4⟩|⟨p,cs,rfl,_,hp,hr,h4⟩
   .exfalso;unfold qH at h3;split at h3
    .split at h3<;>simp at h3
    .split at h3<;>simp at h3
    .split at h3<;>simp at h3
    .cases h3
   .cases h4
   .cases h4;exact⟨p,_,ho,hp,.inr ⟨cs,rfl,rfl,hr,hm⟩⟩
  .cases hq
 .cases hq
theorem Ue:∀{os:List (Option Nat)},Df os=true->∀(i j:Nat)(o:Nat),os[i]? =some (some o)->os[j]? =some (some o)->i=j:=by
 have mem:∀(os:List (Option Nat))(i o:Nat),os[i]? =some (some o)->ZP o os=true:=by
  intro os
  induction os with
  |nil=>intro i o h;simp at h
  |cons x os ih=>
   intro i o h;cases i with
   |zero=>simp at h;subst h;simp[ZP]
   |succ i=>
    have:=ih i o (by simpa using h);cases x with
    |none=>rw[ZP];exact this
    |some p=>rw[ZP];split<;>first|rfl|exact this
 intro os
 induction os with
 |nil=>intro _ i j o h;simp at h
 |cons x os ih=>
  intro h i j o hi hj;cases x with
  |none=>
   rw[Df]at h;cases i with
   |zero=>simp at hi
   |succ i=>
    cases j with
    |zero=>simp at hj
    |succ j=>rw[ih h i j o (by simpa using hi) (by simpa using hj)]
  |some p=>
   rw[Df,awP]at h;cases i with
   |zero=>
    cases j with
    |zero=>rfl
    |succ j=>
     simp at hi;subst hi;have:=mem os j _ (by simpa using hj);rw[this]at h;simp at h
   |succ i=>
    cases j with
    |zero=>
     simp at hj;subst hj;have:=mem os i _ (by simpa using hi);rw[this]at h;simp at h
    |succ j=>rw[ih h.2 i j o (by simpa using hi) (by simpa using hj)]
theorem dh.acd{Y Z:V}{q p:Nat}{e:TypeId}{r:aK}{l:List r.den}{fr fr':Bool}(H:dh Y q (.arr e r l fr))(hγ:Z.γ p=Y.γ q)(hw:Z.w=Y.w)
 (hf:∀b,Y.dJ fr b->Z.dJ fr' b) (hn:∀b,blk (Y.γ q)=some b->fr'=true->Z.n0<=b):dh Z p (.arr e r l fr'):=by
 obtain⟨xs,hown,hr,_,hx⟩:=H;refine⟨xs,?_,hr,λb hb hfr=>hn b (by rw[← hγ];exact hb) hfr,λi x hi=>?_⟩
 .rw[hγ,hw];exact hown
 .rw[hw];exact bQ.mono (λb hb=>⟨hf b hb,rfl⟩) r _ x (hx i x hi)
theorem Ju{Y Z:V}(hw:Z.w=Y.w)(hf:∀fr b,Y.dJ fr b->Z.dJ fr b):∀(cs:List Cell)(vs:List Value),cs.flatMap Cell.refs=[]->ak Y cs vs->ak Z cs vs
 |[],[],_,H=>H
 |c::cs,v::vs,hr,⟨h1,h2⟩=>by
  rw[axY,axG]at hr;refine⟨?_,Ju hw hf cs vs hr.2 h2⟩;cases c with
  |ref o=>cases hr.1
  |sl e r l fr=>
   show jO Z.w.heap (Z.dJ fr) (.sl e r) v l;rw[hw];exact jO.mono (λb hb=>⟨hf fr b hb,rfl⟩) (.sl e r) v l h1
  |_=>exact h1
 |[],_::_,_,H|_::_,[],_,H=>by cases H
theorem aeo{X:V}:∀(as:List Arg)(us:List Value)(i:Nat),as.length=us.length->(∀j a u,as[j]? =some a->us[j]? =some u->Qk X (i+j) a u)->Aw X i as us
 |[],[],_,_,_=>trivial
 |a::as,u::us,i,hl,h=>⟨h 0 a u rfl rfl,aeo as us (i+1) (by simpa using hl) λj b v hb hv=>by
   have:=h (j+1) b v (by simpa using hb) (by simpa using hv);rw[show i+1+j=i+(j+1) by omega];exact this⟩
 |[],_::_,_,hl,_|_::_,[],_,hl,_=>by simp at hl
theorem pV.get{X:V}:∀(xs:List AV)(us:List Value),pV X xs us->xs.length=us.length/\∀(i:Nat)(x:AV)(u:Value),xs[i]? =some x->us[i]? =some u->bK X x u
 |[],[],_=>⟨rfl,λi x u h=>by simp at h⟩
 |x::xs,u::us,⟨h1,h2⟩=>by
  obtain⟨g1,g2⟩:=pV.get xs us h2;refine⟨by simp[g1],λi y v hy hv=>?_⟩;cases i with
  |zero=>simp at hy hv;subst hy hv;exact h1
  |succ i=>exact g2 i y v (by simpa using hy) (by simpa using hv)
 |[],_::_,H|_::_,[],H=>by cases H
theorem O4:∀{os:List (Option Nat)}{bD:List Eff}{δ:List (Nat×aX)},oP st os bD=some δ->∀(p:Nat),
 (∀(x:aX),Fw.look δ p=some x->∃i:Nat,os[i]? =some (some p)/\
   ((∃(e:TypeId)(r:aK)(l l0:List r.den)(fr:Bool),bD[i]? =some (.arr e r l)/\st.ah p=some (.arr e r l0 fr)/\x=.arr e r l false)\/(∃(cs cs0:List Cell),bD[i]? =some (.var cs)/\st.ah p=some (.var cs0)/\cs.flatMap Cell.refs=[]/\x=.var cs)))/\
 (∀i:Nat,os[i]? =some (some p)->Fw.look δ p=none->ji os bD p=true)
 |[],bD,δ,h,p=>by
  cases h;exact⟨(λx hx=>by cases hx),(λi hi=>by simp at hi)⟩
 |none::os,bD,δ,h,p=>by
  rw[oP]at h;obtain⟨h1,h2⟩:=O4 h p;refine⟨λx hx=>?_,λi hi hn=>?_⟩
  .obtain⟨i,g1,g2⟩:=h1 x hx;refine⟨i+1,by simpa using g1,?_⟩;simpa[ayC]using g2
  .cases i with
   |zero=>simp at hi
   |succ i=>rw[ji];exact h2 i (by simpa using hi) hn
 |some o::os,bD,δ,h,p=>by
  unfold oP at h;have aep:∀{δ'}(_:oP st os bD.tail=some δ'),(∀(x:aX),Fw.look δ' p=some x->∃i:Nat,(some o::os)[i]? =some (some p)/\
   ((∃(e:TypeId)(r:aK)(l l0:List r.den)(fr:Bool),bD[i]? =some (.arr e r l)/\st.ah p=some (.arr e r l0 fr)/\x=.arr e r l false)\/(∃(cs cs0:List Cell),bD[i]? =some (.var cs)/\st.ah p=some (.var cs0)/\cs.flatMap Cell.refs=[]/\x=.var cs)))/\
   (∀i:Nat,os[i]? =some (some p)->Fw.look δ' p=none->ji os bD.tail p=true):=by
   intro δ' hδ;obtain⟨h1,h2⟩:=O4 hδ p;refine⟨λx hx=>?_,h2⟩;obtain⟨i,g1,g2⟩:=h1 x hx;exact⟨i+1,by simpa using g1,by simpa[ayC]using g2⟩
  have ace:∀{y:Eff},bD.head?=some y->bD[0]? =some y:=λhy=>by cases bD<;>simp at hy ⊢;exact hy
  have aer:∀(_:ji os bD.tail p=true),ji (some o::os) bD p=true:=λg=>by
   rw[ji];split
   .split
    .rfl
    .exact g
   .exact g
  split at h
  .next δ' hh hδ=>
   cases h;obtain⟨h1,h2⟩:=aep hδ;refine⟨h1,λi hi hn=>?_⟩;cases i with
   |zero=>
    simp at hi;subst hi;rw[ji,hh];simp
   |succ i=>exact aer (h2 i (by simpa using hi) hn)
  .next e r l f s l0 fr0 δ' hh ho hδ=>
   split at h
   .next hb=>
    cases h;rw[awP]at hb;have he:=awQ hb.1;have hr:=aK.eq_of_beq r s hb.2;subst he hr;obtain⟨h1,h2⟩:=aep hδ;refine⟨λx hx=>?_,λi hi hn=>?_⟩
    .rw[Fw.look]at hx;split at hx
     .next y hy=>cases hx;exact h1 _ hy
     .split at hx
      .next hpo=>cases hx;have hpo:=awQ hpo;subst hpo;exact⟨0,rfl,.inl ⟨e,r,l,l0,fr0,ace hh,ho,rfl⟩⟩
      .cases hx
    .rw[Fw.look]at hn;split at hn
     .cases hn
     .next hln=>
      split at hn
      .cases hn
      .next hpo=>
       cases i with
       |zero=>simp at hi;subst hi;simp at hpo
       |succ i=>exact aer (h2 i (by simpa using hi) hln)
   .cases h
  .next cs cs0 δ' hh ho hδ=>
   split at h
   .next hr=>
    cases h;obtain⟨h1,h2⟩:=aep hδ;refine⟨λx hx=>?_,λi hi hn=>?_⟩
    .rw[Fw.look]at hx;split at hx
     .next y hy=>cases hx;exact h1 _ hy
     .split at hx
      .next hpo=>cases hx;have hpo:=awQ hpo;subst hpo;exact⟨0,rfl,.inr ⟨cs,cs0,ace hh,ho,hr,rfl⟩⟩
      .cases hx
    .rw[Fw.look]at hn;split at hn
     .cases hn
     .next hln=>
      split at hn
      .cases hn
      .next hpo=>
       cases i with
       |zero=>simp at hi;subst hi;simp at hpo
       |succ i=>exact aer (h2 i (by simpa using hi) hln)
   .cases h
  .cases h
theorem KG:∀{os:List (Option Nat)}{bD:List Eff}{δ:List (Nat×aX)},oP st os bD=some δ->∀(i p:Nat),os[i]? =some (some p)->
 bD[i]? =some .lose\/(∃(e:TypeId)(r:aK)(l:List r.den),bD[i]? =some (.arr e r l)/\∃x:aX,Fw.look δ p=some x)\/(∃(cs:List Cell),bD[i]? =some (.var cs)/\∃x:aX,Fw.look δ p=some x)
 |[],bD,δ,h,i,p,hi=>by simp at hi
 |none::os,bD,δ,h,i,p,hi=>by
  rw[oP]at h;cases i with
  |zero=>simp at hi
  |succ i=>
   have:=KG h i p (by simpa using hi);simpa[ayC]using this
 |some o::os,bD,δ,h,i,p,hi=>by
  unfold oP at h;have ace:∀{y:Eff},bD.head?=some y->bD[0]? =some y:=λhy=>by cases bD<;>simp at hy ⊢;exact hy
  have lk:∀{δ':List (Nat×aX)}{z:aX},(∃x:aX,Fw.look δ' p=some x)->∃x:aX,Fw.look ((o,z)::δ') p=some x:=λ⟨x,hx⟩=>⟨x,by rw[Fw.look,hx]⟩;have lk0:∀{δ':List (Nat×aX)}{z:aX},∃x:aX,Fw.look ((o,z)::δ') o=some x:=by
   intro δ' z;rw[Fw.look];cases Fw.look δ' o with
   |some y=>exact⟨y,rfl⟩
   |none=>simp
  split at h
  .next δ' hh hδ=>
   cases h;cases i with
   |zero=>exact .inl (ace hh)
   |succ i=>have:=KG hδ i p (by simpa using hi);simpa[ayC]using this
  .next e r l f s l0 fr0 δ' hh ho hδ=>
   split at h
   .cases h;cases i with
    |zero=>simp at hi;subst hi;exact .inr (.inl ⟨e,r,l,ace hh,lk0⟩)
    |succ i=>have:=KG hδ i p (by simpa using hi);rw[ayC]at this;exact this.imp id λg=>g.imp (λ⟨e,r,l,g1,g2⟩=>⟨e,r,l,g1,lk g2⟩) λ⟨cs,g1,g2⟩=>⟨cs,g1,lk g2⟩
   .cases h
  .next cs cs0 δ' hh ho hδ=>
   split at h
   .cases h;cases i with
    |zero=>simp at hi;subst hi;exact .inr (.inr ⟨cs,ace hh,lk0⟩)
    |succ i=>have:=KG hδ i p (by simpa using hi);rw[ayC]at this;exact this.imp id λg=>g.imp (λ⟨e,r,l,g1,g2⟩=>⟨e,r,l,g1,lk g2⟩) λ⟨cs,g1,g2⟩=>⟨cs,g1,lk g2⟩
   .cases h
  .cases h
theorem adx{bD:List Eff}{δ:List (Nat×aX)}(h:NM bD δ=true){o:Nat}{x:aX}(hl:Fw.look δ o=some x):l9 bD o=none:=by have:=axk.1 h _ (yc δ o x hl);simpa using this
theorem anM{bD:List Eff}{i:Nat}:(∀(e:TypeId)(r:aK)(l:List r.den),bD[i]? =some (.arr e r l)->l9 bD (i*64+49)=some (.arr e r l false))/\
 (∀cs:List Cell,bD[i]? =some (.var cs)->l9 bD (i*64+48)=some (.var cs)):=by
 have h1:(i*64+49) / 64=i:=by omega
 have h2:(i*64+49)%64=49:=by omega
 have h3:(i*64+48) / 64=i:=by omega
 have h4:(i*64+48)%64=48:=by omega
 refine⟨λe r l h=>?_,λcs h=>?_⟩
 .unfold l9;rw[h1,h,h2]
 .unfold l9;rw[h3,h,h4]
theorem SK{bD:List Eff}{q:Nat}{X:aX}(h:l9 bD q=some X):(∃(e:TypeId)(r:aK)(l:List r.den),bD[q / 64]? =some (.arr e r l)/\X=.arr e r l false/\q=q / 64*64+49)\/
 (∃cs:List Cell,bD[q / 64]? =some (.var cs)/\X=.var cs/\q=q / 64*64+48):=by
 unfold l9 at h;split at h
 .next e r l he=>
  split at h
  .next hm=>cases h;have:=awQ hm;exact .inl ⟨e,r,l,he,rfl,by omega⟩
  .cases h
 .next cs he=>
  split at h
  .next hm=>cases h;have:=awQ hm;exact .inr ⟨cs,he,rfl,by omega⟩
  .cases h
 .cases h
theorem Rel.Z8(h:Rel w0 M T γ st a w){xs:List AV}{as:List Arg}{os:List (Option Nat)}
 (hh:uj nr st xs as os) {out:Out} {bD:List Eff} {k:Nat} (alM:k%64=1) {δ:List (Nat×aX)}
 (hb:oP st os bD=some δ) (hfr:kL (st.kill (ji os bD)) (out.take k).2=true) {e:Ending}
 (hpost:SG (aA w0 T γ st w).foot as (γE os γ) w k out bD e w'):
 ∃v γ',e=.returned v/\Rel w0 M T γ' (((st.kill (ji os bD)).adds δ).adds (out.take k).2) a w'/\bK (aA w0 T γ' (((st.kill (ji os bD)).adds δ).adds (out.take k).2) w') (out.take k).1 v:=by
 let S:=(aA w0 T γ st w).foot
 let E:=dO as
 let ge:=γE os γ
 let XE:V:=⟨w,w.heap.size,S,ge,E⟩
 have hge:∀{q o:Nat},os[q / 64]? =some (some o)->ge q=γ o:=λhq=>by show(match os[_ / 64]? with|some (some o)=>γ o|_=>undef)=_;rw[hq]
 have hEs:∀{q:Nat}{X:aX},E q=some X->_:=λhq=>Z7 hh hq;have U9:∀b,S b->XE.foot b:=λb hb=>⟨hb.1,λ_=>hb,λq X hq=>by obtain⟨o,Y,ho,hY,_⟩:=hEs hq;show blk (ge q)≠some b;rw[hge ho];exact hb.2.2 o Y hY⟩;have hbl:∀{q:Nat}{X:aX},E q=some X->∀b,blk (ge q)=some b->b<w.heap.size/\(w0.heap.size<=b\/M b):=λhq b hb=>by obtain⟨o,Y,ho,hY,_⟩:=hEs hq;rw[hge ho]at hb;exact h.lt o Y b hY hb
 obtain⟨v,γ',rfl,h1,h2,h3,h4,h5,h6,h7,h8,h9⟩:=hpost
 let δ2:=(out.take k).2
 let K:=ji os bD
 let H:Nat->Prop:=yg E ge
 let γ2:Nat->Value:=λq=>match Fw.look δ2 q with|some _=>γ' q|none=>γ q
 let D:Nat->Bool:=λq=>(Fw.look δ q).isSome||(Fw.look δ2 q).isSome
 let mY:Nat->Option aX:=(((st.kill K).adds δ).adds δ2).ah
 have O5:∀q,mY q=match Fw.look δ2 q with|some y=>some y|none=>match Fw.look δ q with|some y=>some y|none=>(st.kill K).ah q:=λq=>by show(((st.kill K).adds δ).adds δ2).ah q=_;rw[nY,nY];cases Fw.look δ2 q<;>cases Fw.look δ q<;>rfl
 have Z9:∀{q:Nat}{y:aX},Fw.look δ2 q=some y->γ2 q=γ' q:=λhq=>by show(match Fw.look δ2 _ with|some _=>_|none=>_)=_;rw[hq]
 have Uf:∀{q:Nat},Fw.look δ2 q=none->γ2 q=γ q:=λhq=>by show(match Fw.look δ2 _ with|some _=>_|none=>_)=_;rw[hq]
 have hH:∀b,H b->∃o x,st.ah o=some x/\blk (γ o)=some b:=by rintro b ⟨q,X,hq,hb⟩;obtain⟨o,Y,ho,hY,_⟩:=hEs hq;rw[hge ho]at hb;exact⟨o,Y,hY,hb⟩
 have hback:∀{q:Nat}{x:aX},Fw.look δ q=some x->∃c,l9 bD c=some x/\ge c=γ q/\os[c / 64]? =some (some q)/\
  ((∃(e:TypeId)(r:aK)(l l0:List r.den)(fr:Bool),st.ah q=some (.arr e r l0 fr)/\x=.arr e r l false)\/(∃(cs cs0:List Cell),st.ah q=some (.var cs0)/\cs.flatMap Cell.refs=[]/\x=.var cs)):=by
  intro q x hq;obtain⟨i,hi,hk⟩:=(O4 hb q).1 x hq;have d1:(i*64+49) / 64=i:=by omega
  have d3:(i*64+48) / 64=i:=by omega
  rcases hk with⟨e,r,l,l0,fr,g1,g2,rfl⟩|⟨cs,cs0,g1,g2,g3,rfl⟩
  .exact⟨i*64+49,anM.1 e r l g1,hge (by rw[d1];exact hi),by rw[d1];exact hi,.inl ⟨e,r,l,l0,fr,g2,rfl⟩⟩
  .exact⟨i*64+48,anM.2 cs g1,hge (by rw[d3];exact hi),by rw[d3];exact hi,.inr ⟨cs,cs0,g2,g3,rfl⟩⟩
 have ar2:∀{q:Nat}{y:aX},l9 bD q=some y->∀b,blk (ge q)=some b->b<w.heap.size:=by
  intro q y hq b hbk;have hbk0:=hbk;show b<w.heap.size;have:∃o,os[q / 64]? =some (some o):=by
   have hbk':blk (match os[q / 64]? with|some (some o)=>γ o|_=>undef)=some b:=hbk;cases ho:os[q / 64]? with
   |none=>rw[ho]at hbk';cases hbk'
   |some z=>cases z with
    |none=>rw[ho]at hbk';cases hbk'
    |some o=>exact⟨o,rfl⟩
  obtain⟨o,ho⟩:=this;rw[hge ho]at hbk;have hex:∃Y,st.ah o=some Y:=by
   rcases KG hb _ _ ho with g|⟨e,r,l,g,x,hx⟩|⟨cs,g,x,hx⟩
   .rcases SK hq with⟨e,r,l,g',_⟩|⟨cs,g',_⟩<;>(rw[g]at g';cases g')
   .obtain⟨c,_,_,_,hk⟩:=hback hx;rcases hk with⟨_,_,_,_,_,g,_⟩|⟨_,_,g,_⟩<;>exact⟨_,g⟩
   .obtain⟨c,_,_,_,hk⟩:=hback hx;rcases hk with⟨_,_,_,_,_,g,_⟩|⟨_,_,g,_⟩<;>exact⟨_,g⟩
  obtain⟨Y,hY⟩:=hex;exact(h.lt o Y b hY hbk).1
 let Y2:V:=⟨w',w.heap.size,qI S as bD ge,γ',Fw.look δ2⟩
 have hKH:∀q x b,D q=false->K q=false->st.ah q=some x->blk (γ q)=some b->¬H b:=by
  rintro q x b hD hK hq hbq ⟨c,X,hc,hbc⟩;obtain⟨o,Y,ho,hY,_⟩:=hEs hc;rw[hge ho]at hbc;by_cases hoq:o=q
  .subst hoq;have hD':Fw.look δ o=none:=by
    have:(Fw.look δ o).isSome=false:=by have h0:((Fw.look δ o).isSome||(Fw.look δ2 o).isSome)=false:=hD;rw[ayk]at h0;exact h0.1
    cases hl:Fw.look δ o with|none=>rfl|some _=>rw[hl]at this;cases this
   have:=(O4 hb o).2 _ ho hD';have hK':ji os bD o=false:=hK;rw[this]at hK';cases hK'
  .exact h.sep o Y q x b hY hq hoq hbc hbq
 have apK:∀b,Y2.foot b->V.foot ⟨w',w0.heap.size,T,γ2,mY⟩ b:=by
  intro b hbf;refine⟨hbf.1,λhlt=>?_,λq x hq e=>?_⟩
  .have hlt0:b<w0.heap.size:=hlt;have hlt':b<w.heap.size:=axI hlt0 h.grow;rcases(hbf.2.1 hlt').1 with g|⟨c,X,hc,hbc⟩
   .exact g.2.1 hlt
   .exact h.mT b ((hbl hc b hbc).2.resolve_left (by omega))
  .have hq':mY q=some x:=hq;have e':blk (γ2 q)=some b:=e;rw[O5]at hq';cases hl2:Fw.look δ2 q with
   |some y=>
    rw[Z9 hl2]at e';exact hbf.2.2 q y hl2 e'
   |none=>
    rw[Uf hl2]at e';rw[hl2]at hq';cases hl:Fw.look δ q with
    |some y=>
     obtain⟨c,hcF,hcg,hco,_⟩:=hback hl;rw[← hcg]at e';have hlt:b<w.heap.size:=ar2 hcF b e';exact(hbf.2.1 hlt).2 c y hcF e'
    |none=>
     rw[hl]at hq';obtain⟨z,hz,_,hKq⟩:=Au K hq';have hlt:=(h.lt q z b hz e').1;rcases(hbf.2.1 hlt).1 with g|g
     .exact g.2.2 q z hz e'
     .exact hKH q z b (by show((Fw.look δ q).isSome||(Fw.look δ2 q).isSome)=false;rw[hl,hl2];rfl) hKq hz e' g
 have anN:∀fr b,Y2.dJ fr b->V.dJ ⟨w',w0.heap.size,T,γ2,mY⟩ fr b:=λfr b hbf=>⟨apK b hbf.1,λe=>aw2 h.grow (hbf.2 e)⟩;have hle2:V.le Y2 ⟨w',w0.heap.size,T,γ2,mY⟩:=by
  have hin:∀{o:Nat}{x:aX},Fw.look δ2 o=some x->mY o=some x:=λhl=>by rw[O5,hl]
  exact⟨h.grow,λb hbf=>⟨apK b hbf,rfl⟩,λo cs hl=>⟨⟨cs,hin hl⟩,Z9 hl⟩,λo e r l fr hl=>⟨⟨l,fr,hin hl⟩,Z9 hl⟩⟩
 have hmain:=h.update (w':=w') (K:=K) (D:=D) (H:=H) (mY:=mY) (γ2:=γ2) h1 h2 h3 h4 hH h5
  (λq hD=>by
    have h0:((Fw.look δ q).isSome||(Fw.look δ2 q).isSome)=false:=hD;rw[ayk]at h0;have l1:Fw.look δ q=none:=by cases hl:Fw.look δ q with|none=>rfl|some _=>rw[hl]at h0;cases h0.1
    have l2:Fw.look δ2 q=none:=by cases hl:Fw.look δ2 q with|none=>rfl|some _=>rw[hl]at h0;cases h0.2
    exact⟨by rw[O5,l2,l1],Uf l2⟩)
  hKH
  (λq x hD hq b hbq=>by
    rw[O5]at hq;cases hl2:Fw.look δ2 q with
    |some y=>
     rw[Z9 hl2]at hbq;have:=(h7 q y hl2).2 b hbq;exact⟨this.1,this.2.1⟩
    |none=>
     rw[Uf hl2]at hbq;rw[hl2]at hq;cases hl:Fw.look δ q with
     |some y=>
      obtain⟨c,hcF,hcg,hco,hk⟩:=hback hl;rw[← hcg]at hbq;have hlt:=ar2 hcF b hbq;refine⟨axI hlt h4,.inr ?_⟩;have hcE:∃X,E c=some X:=by
       obtain⟨x',o',hx',ho',hone⟩:=hh.get (c / 64) (as[c / 64]'(by have:=aw3.1 hco;rw[hh.length.1,← hh.length.2];exact this.1)) (awV _);rw[hco]at ho';cases ho';rcases hone with⟨g,_⟩|⟨q',e,r,l,fr,g1,_,g2,g3⟩|⟨q',cs,g1,_,g2,_,g3⟩
       .cases g
       .cases g1;rcases hk with⟨e1,r1,l1,l0,fr1,g4,rfl⟩|⟨cs1,cs0,g4,_⟩
        .rcases SK hcF with⟨_,_,_,_,_,hcq⟩|⟨_,_,g,_⟩
         .refine⟨.arr e r l false,?_⟩;show dO as c=_;have hm:c%64=49:=by omega
          unfold dO;rw[awV (by have:=aw3.1 hco;rw[hh.length.1,← hh.length.2];exact this.1),g3,hm]
         .cases g
        .rw[g2]at g4;cases g4
       .cases g1;rcases hk with⟨e1,r1,l1,l0,fr1,g4,rfl⟩|⟨cs1,cs0,g4,_,rfl⟩
        .rw[g2]at g4;cases g4
        .rcases SK hcF with⟨_,_,_,_,g,_⟩|⟨_,_,_,hcq⟩
         .cases g
         .refine⟨.var (cs.map (Cell.view st)),?_⟩;show dO as c=_;have hm:c%64=48:=by omega
          unfold dO;rw[awV (by have:=aw3.1 hco;rw[hh.length.1,← hh.length.2];exact this.1),g3,hm]
      obtain⟨X,hX⟩:=hcE;exact⟨c,X,hX,hbq⟩
     |none=>have h0:((Fw.look δ q).isSome||(Fw.look δ2 q).isSome)=true:=hD;rw[hl,hl2]at h0;cases h0)
  (λ_ q x hD hq=>by
    rw[O5]at hq;cases hl2:Fw.look δ2 q with
    |some y=>
     rw[hl2]at hq;cases hq;exact dh.mono hle2 q x (λ_ _=>rfl) (Z9 hl2) (h7 q x hl2).1
    |none=>
     rw[hl2]at hq;cases hl:Fw.look δ q with
     |some y=>
      rw[hl]at hq;cases hq;obtain⟨c,hcF,hcg,hco,hk⟩:=hback hl;obtain⟨g1,g2⟩:=h9 c x hcF;have hγq:γ2 q=γ' c:=by rw[Uf hl2,g1];exact hcg.symm
      rcases hk with⟨e,r,l,l0,fr,_,rfl⟩|⟨cs,cs0,_,hr,rfl⟩
      .exact dh.acd (Y:=Y2) g2 hγq rfl (λb hbf=>anN false b hbf) (λb _ e=>by cases e)
      .obtain⟨b,arr,t,k1,k2,k3⟩:=g2;exact⟨b,arr,t,hγq.trans k1,k2,Ju (Y:=Y2) (Z:=⟨w',w0.heap.size,T,γ2,mY⟩) rfl anN _ _ hr k3⟩
     |none=>have h0:((Fw.look δ q).isSome||(Fw.look δ2 q).isSome)=true:=hD;rw[hl,hl2]at h0;cases h0)
  (λp1 p2 x y b hD1 hD2 hq1 hq2 hne hb1=>by
    rw[O5]at hq1 hq2;cases l1:Fw.look δ2 p1 with
    |some y1=>
     rw[Z9 l1]at hb1;cases l2:Fw.look δ2 p2 with
     |some y2=>rw[Z9 l2];exact h8 p1 y1 p2 y2 b l1 l2 hne hb1
     |none=>
      rw[Uf l2];cases m2:Fw.look δ p2 with
      |some y2=>
       obtain⟨c,hcF,hcg,hco,hk⟩:=hback m2;rw[← hcg];exact((h7 p1 y1 l1).2 b hb1).2.2 c y2 hcF
      |none=>
       have h0:((Fw.look δ p2).isSome||(Fw.look δ2 p2).isSome)=true:=hD2;rw[m2,l2]at h0;cases h0
    |none=>
     rw[Uf l1]at hb1;cases m1:Fw.look δ p1 with
     |none=>
      have h0:((Fw.look δ p1).isSome||(Fw.look δ2 p1).isSome)=true:=hD1;rw[m1,l1]at h0;cases h0
     |some y1=>
      obtain⟨c1,au6,au7,awu,hk1⟩:=hback m1;cases l2:Fw.look δ2 p2 with
      |some y2=>
       rw[Z9 l2];intro e;rw[← au7]at hb1;exact((h7 p2 y2 l2).2 b e).2.2 c1 y1 au6 hb1
      |none=>
       rw[Uf l2];cases m2:Fw.look δ p2 with
       |none=>
        have h0:((Fw.look δ p2).isSome||(Fw.look δ2 p2).isSome)=true:=hD2;rw[m2,l2]at h0;cases h0
       |some y2=>
        obtain⟨c2,awv,aww,awx,hk2⟩:=hback m2;have e1:∃z,st.ah p1=some z:=by rcases hk1 with⟨_,_,_,_,_,g,_⟩|⟨_,_,g,_⟩<;>exact⟨_,g⟩
        have e2:∃z,st.ah p2=some z:=by rcases hk2 with⟨_,_,_,_,_,g,_⟩|⟨_,_,g,_⟩<;>exact⟨_,g⟩
        obtain⟨z1,e1⟩:=e1;obtain⟨z2,e2⟩:=e2;exact h.sep p1 z1 p2 z2 b e1 e2 hne hb1)
  (λq cs hD hK hq=>by
    cases l2:Fw.look δ2 q with
    |some y=>have:=KC hfr l2;rw[pO K hK hq]at this;cases this
    |none=>
     refine⟨?_,Uf l2⟩;cases m2:Fw.look δ q with
     |none=>
      have h0:((Fw.look δ q).isSome||(Fw.look δ2 q).isSome)=true:=hD;rw[m2,l2]at h0;cases h0
     |some y=>
      obtain⟨c,_,_,_,hk⟩:=hback m2;rcases hk with⟨_,_,_,_,_,g,_⟩|⟨cs',_,g,_,rfl⟩
      .rw[hq]at g;cases g
      .exact⟨cs',by rw[O5,l2,m2]⟩)
  (λq e r l fr hD hK hq=>by
    cases l2:Fw.look δ2 q with
    |some y=>have:=KC hfr l2;rw[pO K hK hq]at this;cases this
    |none=>
     refine⟨?_,Uf l2⟩;cases m2:Fw.look δ q with
     |none=>
      have h0:((Fw.look δ q).isSome||(Fw.look δ2 q).isSome)=true:=hD;rw[m2,l2]at h0;cases h0
     |some y=>
      obtain⟨c,_,_,_,hk⟩:=hback m2;rcases hk with⟨e',r',l',l0,fr',g,rfl⟩|⟨_,_,g,_⟩
      .rw[hq]at g;cases g;exact⟨l',false,by rw[O5,l2,m2]⟩
      .rw[hq]at g;cases g)
  (λq cs hD hq=>by
    rw[O5]at hq;cases l2:Fw.look δ2 q with
    |some y=>
     rw[l2]at hq;cases hq;have h0:=out.alx k alM l2;refine .inr ?_;cases hT:T.N q with
     |none=>rfl
     |some v'=>have:=T.n48 q v' hT;omega
    |none=>
     rw[l2]at hq;cases m2:Fw.look δ q with
     |none=>
      have h0:((Fw.look δ q).isSome||(Fw.look δ2 q).isSome)=true:=hD;rw[m2,l2]at h0;cases h0
     |some y=>
      rw[m2]at hq;cases hq;obtain⟨c,_,_,_,hk⟩:=hback m2;rcases hk with⟨_,_,_,_,_,_,g⟩|⟨_,cs0,g,_,_⟩
      .cases g
      .exact .inl ⟨cs0,g,Uf l2⟩)
 refine⟨v,γ2,rfl,?_,bK.mono hle2 _ _ h6⟩;have hst:(((st.kill K).adds δ).adds δ2)={n:=st.n,tmps:=λt=>(st.tmps t).kill K,ah:=mY}:=by
  have e1:=JM δ2 ((st.kill K).adds δ);have e2:=JM δ (st.kill K);have gen:∀(s:St)(n:Nat)(t:Nat->AV),s.n=n->s.tmps=t->s={n:=n,tmps:=t,ah:=s.ah}:=λs n t g1 g2=>by cases s;subst g1 g2;rfl
  exact gen _ _ _ (e1.2.trans e2.2) (e1.1.trans e2.1)
 show Rel w0 M T γ2 (((st.kill K).adds δ).adds δ2) a w';rw[hst];exact hmain.1
theorem Rel.anO{G:kR}(hE:vw P G Θ Γ w0 M)(h:Rel w0 M T γ st a w){xs:List AV}{us:Array Value}{as:List Arg}{os:List (Option Nat)}(hx:pV (aA w0 T γ st w) xs us.toList)
 (hh:uj true st xs as os) (hnd:Df os=true) {f:FuncId} {con:Cm} {p:Prop} {ρ:Oq} {k:Nat} (alM:k%64=1) (hok:iP P G f con) (hc:con as=some (p,ρ)) (hp:p)
 (hch:∀t,ρ.R t->∃δ,oP st os (ρ.bD t)=some δ/\kL (st.kill (ji os (ρ.bD t))) ((ρ.out t).take k).2=true/\NM (ρ.bD t) ((ρ.out t).take k).2=true):
 Calls P f us w λe w'=>∃t δ,ρ.R t/\oP st os (ρ.bD t)=some δ/\∃v γ',e=.returned v/\
  Rel w0 M T γ' (((st.kill (ji os (ρ.bD t))).adds δ).adds ((ρ.out t).take k).2) a w'/\bK (aA w0 T γ' (((st.kill (ji os (ρ.bD t))).adds δ).adds ((ρ.out t).take k).2) w') ((ρ.out t).take k).1 v:=by
 let S:=(aA w0 T γ st w).foot
 let E:=dO as
 let ge:=γE os γ
 let XE:V:=⟨w,w.heap.size,S,ge,E⟩
 have hge:∀{q o:Nat},os[q / 64]? =some (some o)->ge q=γ o:=λhq=>by show(match os[_ / 64]? with|some (some o)=>γ o|_=>undef)=_;rw[hq]
 have hEs:∀{q:Nat}{X:aX},E q=some X->_:=λhq=>Z7 hh hq;have U9:∀b,S b->XE.foot b:=λb hb=>⟨hb.1,λ_=>hb,λq X hq=>by obtain⟨o,Y,ho,hY,_⟩:=hEs hq;show blk (ge q)≠some b;rw[hge ho];exact hb.2.2 o Y hY⟩;have hbl:∀{q:Nat}{X:aX},E q=some X->∀b,blk (ge q)=some b->b<w.heap.size/\(w0.heap.size<=b\/M b):=λhq b hb=>by obtain⟨o,Y,ho,hY,_⟩:=hEs hq;rw[hge ho]at hb;exact h.lt o Y b hY hb
 have aoF:∀o x,E o=some x->dh XE o x/\∀b,blk (ge o)=some b->b<w.heap.size/\G.n<=b:=by
  intro q X hq;refine⟨?_,λb hb=>⟨(hbl hq b hb).1,?_⟩⟩
  .obtain⟨o,Y,ho,hY,hk⟩:=hEs hq;have hO:=h.ah o Y hY;rcases hk with⟨e,r,l,fr,rfl,rfl,_⟩|⟨cs,rfl,rfl,hr,_⟩
   .exact dh.acd (Z:=XE) hO (hge ho) rfl (λb hb=>⟨U9 b hb.1,λe=>by cases e⟩) (λb _ e=>by cases e)
   .obtain⟨b,arr,t,hγ,hheap,hcs⟩:=hO;refine⟨b,arr,t,(hge ho).trans hγ,hheap,?_⟩;have:=Cells.xg h (γ0:=λ_=>undef) cs _ hr hcs;exact Ju (Y:=⟨w,w.heap.size,S,λ_=>undef,λ_=>none⟩) (Z:=XE) rfl (λfr b hb=>⟨⟨hb.1.1,λhlt=>hb.1.2.1 hlt,λq' X' hq'=>by obtain⟨o',Y',ho',hY',_⟩:=hEs hq';show blk (ge q')≠some b;rw[hge ho'];exact(hb.1.2.1 hb.1.1).2.2 o' Y' hY'⟩,hb.2⟩) _ _ (by rw[List.flatMap_map];rw[azp]at hr ⊢;intro c hc;have:=hr c hc;cases c<;>first|rfl|(cases this;done)) this
  .rcases(hbl hq b hb).2 with g|g
   .exact aw2 (G.low w0 hE.ok) g
   .exact hE.low b g
 have hidx:∀{q q':Nat}{X X':aX},E q=some X->E q'=some X'->q / 64=q' / 64->q=q':=by
  intro q q' X X' hq hq' hi;have key:∀{q:Nat}{X:aX},E q=some X->∃a,as[q / 64]? =some a/\((∃(e:TypeId)(r:aK)(l:List r.den),a=.own e r l/\q%64=49)\/∃cs,a=.ptr cs/\q%64=48):=by
   intro q X hq;have hq:dO as q=some X:=hq;unfold dO at hq;split at hq
   .next e r l ha=>
    split at hq
    .next hm=>exact⟨_,ha,.inl ⟨e,r,l,rfl,awQ hm⟩⟩
    .cases hq
   .next cs ha=>
    split at hq
    .next hm=>exact⟨_,ha,.inr ⟨cs,rfl,awQ hm⟩⟩
    .cases hq
   .cases hq
  obtain⟨a1,h1,k1⟩:=key hq;obtain⟨a2,h2,k2⟩:=key hq';rw[hi,h2]at h1;cases h1;rcases k1 with⟨e,r,l,rfl,m1⟩|⟨cs,rfl,m1⟩<;>rcases k2 with⟨e',r',l',k3,m2⟩|⟨cs',k3,m2⟩<;>first|(cases k3;done)|omega
 have hsep:∀o x q y b,E o=some x->E q=some y->o≠q->blk (ge o)=some b->blk (ge q)≠some b:=by intro q1 X1 q2 X2 b h1 h2 hne hb;obtain⟨o1,Y1,ho1,hY1,_⟩:=hEs h1;obtain⟨o2,Y2,ho2,hY2,_⟩:=hEs h2;rw[hge ho1]at hb;rw[hge ho2];refine h.sep o1 Y1 o2 Y2 b hY1 hY2 ?_ hb;rintro rfl;exact hne (hidx h1 h2 (Ue hnd _ _ _ ho1 ho2))
 have hargs:Aw XE 0 as us.toList:=by
  obtain⟨hl,hget⟩:=pV.get xs us.toList hx;refine aeo as us.toList 0 (by rw[hh.length.1,hl]) λj b u hb hu=>?_;rw[axn];obtain⟨x,o,hxj,hoj,hone⟩:=hh.get j b hb;have hrep:=hget j x u hxj hu;have d1:(j*64+49) / 64=j:=by omega
  have d2:(j*64+49)%64=49:=by omega
  have d3:(j*64+48) / 64=j:=by omega
  have d4:(j*64+48)%64=48:=by omega
  rcases hone with⟨rfl,hr,ha⟩|⟨q,e,r,l,fr,rfl,rfl,hq,rfl⟩|⟨q,cs,rfl,rfl,hq,hr,rfl⟩
  .have hr:=hr rfl;have hr2:=EZ h (γ0:=λ_=>undef) [x] [u] [b] ha (by show x.refs++[]=[];rw[hr];rfl) ⟨hrep,trivial⟩;have hle:V.le ⟨w,w.heap.size,S,λ_=>undef,λ_=>none⟩ XE:=⟨aw7 _,λc hcc=>⟨U9 c (hcc.2.1 hcc.1),rfl⟩,(λ_ _ hcc=>by cases hcc),(λ_ _ _ _ _ hcc=>by cases hcc)⟩;have hA:=hr2.1;cases b with
   |sv v=>exact eU.mono hle v u hA
   |kp cs=>exact bK.mono hle (.cO cs 0) u hA
   |fn g caps=>exact bK.mono hle (.fn g caps) u hA
   |own _ _ _=>exact hA.elim
   |ptr _=>exact hA.elim
  .obtain⟨_,hu2,hone⟩:=hrep;refine⟨⟨e,r,l,false,?_⟩,?_,hone⟩
   .show dO as (j*64+49)=_;unfold dO;rw[d1,hb,d2]
   .rw[hu2];show _=ge (j*64+49);exact(hge (by rw[d1];exact hoj)).symm
  .obtain⟨c,cs',_,hγ,hv⟩:=hrep;refine⟨c,cs.map (Cell.view st),?_,?_,hv⟩
   .show dO as (j*64+48)=_;unfold dO;rw[d3,hb,d4]
   .exact(hge (by rw[d3];exact hoj)).trans hγ
 refine((hok as p ρ hc hp).2 k S ge us w (hE.at h) hargs aoF hsep λt ht o x hl=>?_).mono ?_
 .obtain⟨δ,_,_,h3⟩:=hch t ht;exact adx h3 hl
 .rintro e w' ⟨t,ht,hpost⟩;obtain⟨δ,g1,g2,_⟩:=hch t ht;obtain⟨v,γ',rfl,g3,g4⟩:=h.Z8 hh alM g1 g2 hpost;exact⟨t,δ,ht,g1,v,γ',rfl,g3,g4⟩
def Qp(bD:List Eff):Bool:=bD.all λ|.lose=>true|.arr _ _ _=>false|.var cs=>cs.all Cell.made
theorem alN{bD:List Eff}(h:Qp bD=true){q:Nat}{X:aX}(hq:l9 bD q=some X):ab9 X:=by
 rcases SK hq with⟨e,r,l,g,_⟩|⟨cs,g,rfl,_⟩
 .have:=axk.1 h _ (axD g);cases this
 .exact axk.1 h _ (axD g)
theorem SG.made{S S':Nat->Prop}{args:List Arg}{k:Nat}{out:Out}{bD:List Eff}{e:Ending}(h:SG S args γ w k out bD e w')(hm:out.made=true)(hf:Qp bD=true):SG S' args γ w k out bD e w':=by
 obtain⟨v,γ',rfl,h1,h2,h3,h4,h5,h6,h7,h8,h9⟩:=h;refine⟨v,γ',rfl,h1,h2,h3,h4,h5,(out.ZX k hm _ (qI S' args bD γ) v).1 h6,λo x hl=>⟨?_,(h7 o x hl).2⟩,h8,λo x hq=>⟨(h9 o x hq).1,?_⟩⟩
 .exact dh.made (qI S' args bD γ) o x ((out.ZX k hm ⟨w',w.heap.size,S,γ',look (out.take k).2⟩ (qI S' args bD γ) v).2 _ (yc _ _ _ hl)) (h7 o x hl).1
 .exact dh.made (qI S' args bD γ) o x (alN hf hq) (h9 o x hq).2
theorem Rel.alO{G:kR}(hE:vw P G Θ Γ w0 M)(h:Rel w0 M T γ st a w){xs:List AV}{us:Array Value}{as:List Arg}{os:List (Option Nat)}(hx:pV (aA w0 T γ st w) xs us.toList)
 (hh:uj false st xs as os) (hnd:Df os=true) {f:FuncId} {con:Cm} {p:Prop} {ρ:Oq} {k:Nat} (alM:k%64=1) (hok:iP P G f con) (hc:con as=some (p,ρ)) (hp:p)
 (hown:∀(q:Nat)(e:TypeId)(r:aK)(l:List r.den),dO as q≠some (.arr e r l false)) (ar5:∀t,ρ.R t->(ρ.out t).made=true/\Qp (ρ.bD t)=true)
 (hch:∀t,ρ.R t->∃δ,oP st os (ρ.bD t)=some δ/\kL (st.kill (ji os (ρ.bD t))) ((ρ.out t).take k).2=true/\NM (ρ.bD t) ((ρ.out t).take k).2=true):
 Calls P f us w λe w'=>∃t δ,ρ.R t/\oP st os (ρ.bD t)=some δ/\∃v γ',e=.returned v/\
  Rel w0 M T γ' (((st.kill (ji os (ρ.bD t))).adds δ).adds ((ρ.out t).take k).2) a w'/\bK (aA w0 T γ' (((st.kill (ji os (ρ.bD t))).adds δ).adds ((ρ.out t).take k).2) w') ((ρ.out t).take k).1 v:=by
 let E:=dO as
 let ge:=γE os γ
 let S:Nat->Prop:=λb=>b<w.heap.size/\∀q X,E q=some X->blk (ge q)≠some b
 let XE:V:=⟨w,w.heap.size,S,ge,E⟩
 have hge:∀{q o:Nat},os[q / 64]? =some (some o)->ge q=γ o:=λhq=>by show(match os[_ / 64]? with|some (some o)=>γ o|_=>undef)=_;rw[hq]
 have hEs:∀{q:Nat}{X:aX},E q=some X->_:=λhq=>Z7 hh hq;have U9:∀b,S b->XE.foot b:=λb hb=>⟨hb.1,λ_=>hb,hb.2⟩;have hS1:∀b,(aA w0 T γ st w).foot b->S b:=λb hb=>⟨hb.1,λq X hq=>by obtain⟨o,Y,ho,hY,_⟩:=hEs hq;rw[hge ho];exact hb.2.2 o Y hY⟩;have hS2:∀o e r l fr b,st.ah o=some (.arr e r l fr)->blk (γ o)=some b->S b:=λo e r l fr b ho hb=>⟨(h.lt o _ b ho hb).1,λq X hq=>by
  obtain⟨o',Y,ho',hY,hk⟩:=hEs hq;rw[hge ho'];rcases hk with⟨e',r',l',fr',rfl,_,_⟩|⟨cs,_,rfl,_,_⟩
  .exact(hown q e' r' l' hq).elim
  .exact h.sep o _ o' _ b ho hY (λe=>by subst e;rw[ho]at hY;cases hY) hb⟩
 have hbl:∀{q:Nat}{X:aX},E q=some X->∀b,blk (ge q)=some b->b<w.heap.size/\(w0.heap.size<=b\/M b):=λhq b hb=>by obtain⟨o,Y,ho,hY,_⟩:=hEs hq;rw[hge ho]at hb;exact h.lt o Y b hY hb
 have aoF:∀o x,E o=some x->dh XE o x/\∀b,blk (ge o)=some b->b<w.heap.size/\G.n<=b:=by
  intro q X hq;refine⟨?_,λb hb=>⟨(hbl hq b hb).1,?_⟩⟩
  .obtain⟨o,Y,ho,hY,hk⟩:=hEs hq;have hO:=h.ah o Y hY;rcases hk with⟨e,r,l,fr,rfl,rfl,_⟩|⟨cs,rfl,rfl,hr,_⟩
   .exact dh.acd (Z:=XE) hO (hge ho) rfl (λb hb=>⟨U9 b (hS1 b hb.1),λe=>by cases e⟩) (λb _ e=>by cases e)
   .obtain⟨b,arr,t,hγ,hheap,hcs⟩:=hO;refine⟨b,arr,t,(hge ho).trans hγ,hheap,?_⟩;have:=Cells.xg h (γ0:=λ_=>undef) cs _ hr hcs;exact Ju (Y:=⟨w,w.heap.size,(aA w0 T γ st w).foot,λ_=>undef,λ_=>none⟩) (Z:=XE) rfl (λfr b hb=>⟨⟨hb.1.1,λhlt=>hS1 b (hb.1.2.1 hlt),(hS1 b (hb.1.2.1 hb.1.1)).2⟩,hb.2⟩) _ _ (by rw[List.flatMap_map];rw[azp]at hr ⊢;intro c hc;have:=hr c hc;cases c<;>first|rfl|(cases this;done)) this
  .rcases(hbl hq b hb).2 with g|g
   .exact aw2 (G.low w0 hE.ok) g
   .exact hE.low b g
 have hidx:∀{q q':Nat}{X X':aX},E q=some X->E q'=some X'->q / 64=q' / 64->q=q':=by
  intro q q' X X' hq hq' hi;have key:∀{q:Nat}{X:aX},E q=some X->∃a,as[q / 64]? =some a/\((∃(e:TypeId)(r:aK)(l:List r.den),a=.own e r l/\q%64=49)\/∃cs,a=.ptr cs/\q%64=48):=by
   intro q X hq;have hq:dO as q=some X:=hq;unfold dO at hq;split at hq
   .next e r l ha=>
    split at hq
    .next hm=>exact⟨_,ha,.inl ⟨e,r,l,rfl,awQ hm⟩⟩
    .cases hq
   .next cs ha=>
    split at hq
    .next hm=>exact⟨_,ha,.inr ⟨cs,rfl,awQ hm⟩⟩
    .cases hq
   .cases hq
  obtain⟨a1,h1,k1⟩:=key hq;obtain⟨a2,h2,k2⟩:=key hq';rw[hi,h2]at h1;cases h1;rcases k1 with⟨e,r,l,rfl,m1⟩|⟨cs,rfl,m1⟩<;>rcases k2 with⟨e',r',l',k3,m2⟩|⟨cs',k3,m2⟩<;>first|(cases k3;done)|omega
 have hsep:∀o x q y b,E o=some x->E q=some y->o≠q->blk (ge o)=some b->blk (ge q)≠some b:=by intro q1 X1 q2 X2 b h1 h2 hne hb;obtain⟨o1,Y1,ho1,hY1,_⟩:=hEs h1;obtain⟨o2,Y2,ho2,hY2,_⟩:=hEs h2;rw[hge ho1]at hb;rw[hge ho2];refine h.sep o1 Y1 o2 Y2 b hY1 hY2 ?_ hb;rintro rfl;exact hne (hidx h1 h2 (Ue hnd _ _ _ ho1 ho2))
 have hargs:Aw XE 0 as us.toList:=by
  obtain⟨hl,hget⟩:=pV.get xs us.toList hx;refine aeo as us.toList 0 (by rw[hh.length.1,hl]) λj b u hb hu=>?_;rw[axn];obtain⟨x,o,hxj,hoj,hone⟩:=hh.get j b hb;have hrep:=hget j x u hxj hu;have d1:(j*64+49) / 64=j:=by omega
  have d2:(j*64+49)%64=49:=by omega
  have d3:(j*64+48) / 64=j:=by omega
  have d4:(j*64+48)%64=48:=by omega
  rcases hone with⟨rfl,hr,ha⟩|⟨q,e,r,l,fr,rfl,rfl,hq,rfl⟩|⟨q,cs,rfl,rfl,hq,hr,rfl⟩
  .have hr2:=KD h (γ0:=λ_=>undef) hS1 hS2 [x] [u] [b] ha ⟨hrep,trivial⟩;have hle:V.le ⟨w,w.heap.size,S,λ_=>undef,λ_=>none⟩ XE:=⟨aw7 _,λc hcc=>⟨U9 c (hcc.2.1 hcc.1),rfl⟩,(λ_ _ hcc=>by cases hcc),(λ_ _ _ _ _ hcc=>by cases hcc)⟩;have hA:=hr2.1;cases b with
   |sv v=>exact eU.mono hle v u hA
   |kp cs=>exact bK.mono hle (.cO cs 0) u hA
   |fn g caps=>exact bK.mono hle (.fn g caps) u hA
   |own _ _ _=>exact hA.elim
   |ptr _=>exact hA.elim
  .obtain⟨_,hu2,hone⟩:=hrep;refine⟨⟨e,r,l,false,?_⟩,?_,hone⟩
   .show dO as (j*64+49)=_;unfold dO;rw[d1,hb,d2]
   .rw[hu2];show _=ge (j*64+49);exact(hge (by rw[d1];exact hoj)).symm
  .obtain⟨c,cs',_,hγ,hv⟩:=hrep;refine⟨c,cs.map (Cell.view st),?_,?_,hv⟩
   .show dO as (j*64+48)=_;unfold dO;rw[d3,hb,d4]
   .exact(hge (by rw[d3];exact hoj)).trans hγ
 refine((hok as p ρ hc hp).2 k S ge us w (hE.at h) hargs aoF hsep λt ht o x hl=>?_).mono ?_
 .obtain⟨δ,_,_,h3⟩:=hch t ht;exact adx h3 hl
 .rintro e w' ⟨t,ht,hpost⟩;obtain⟨δ,g1,g2,_⟩:=hch t ht;obtain⟨v,γ',rfl,g3,g4⟩:=h.Z8 hh alM g1 g2 (hpost.made (ar5 t ht).1 (ar5 t ht).2);exact⟨t,δ,ht,g1,v,γ',rfl,g3,g4⟩
theorem ajV{base size n:Nat}{e:TypeId}{v:Value}{xs:List Value}(hown:w.ownsRow base e size v n xs):v.oneCell'=true/\(∀ad,v≠ .pointer (some ad)):=by rcases hown.2 with⟨h1,_⟩|⟨g,cap,cur,h1,_⟩<;>rw[h1]<;>exact⟨rfl,λ_ e=>by cases e⟩
theorem acA(hΘ:∀t ti,Θ t=some ti->mM P t ti)(h:Rel w0 M T γ st a w){t ty e:TypeId}{ti te:TI}(ht:Θ t=some ti)(hk:ti.kind=.slice e)(he:Θ e=some te)(k:Nat)(hpos:0<te.cells.len)
 {y:Cell} {news:List te.cells.den} {src:Value} (hy:bJ (aA w0 T γ st w) y src)
 (hget:y.get st (.sl e te.cells)=some news) (hbig:news.length<=big):
 ∃u w' γ',(Builtin.append_ #[t,t] ty #[.slice none 0 0,src]).run P w=.ok u w'/\Rel w0 M T γ' ((st.kill (Nat.beq k ·)).add k (.arr e te.cells news (y.Ar te.cells st))) a w'/\
  bK (aA w0 T γ' ((st.kill (Nat.beq k ·)).add k (.arr e te.cells news (y.Ar te.cells st))) w') (.sv (.one (.ref k))) u:=by
 obtain⟨v',w',ns,hrun,hown',hg,hnr,hgb⟩:=SI (P:=P) (ty:=ty) (hΘ t ti ht) hk (hΘ e te he) hpos (azL w 0 e te.cells.len) (Cell.alI h hy hget) (by omega);rw[axn,ayg]at hown';have ho:=ajV hown';have hnb:∀g,blk v'=some g->(some g=none\/w.heap.size<=g)/\g<w'.heap.size:=by
  intro g hb;refine⟨.inr ?_,ajS hown' g hb⟩;rcases hgb g (by rw[Qm ho.2];exact hb)with h1|h1
  .cases h1
  .exact h1
 obtain⟨hR,_⟩:=h.replace (w':=w') (o:=k) (v':=v') (x':=.arr e te.cells news (y.Ar te.cells st)) none (.inl rfl) hg.os hg.tape hg.output hg.size
  (λb hb hne=>hg.block b hb (by intro e1;cases e1)) hnb (λ_ e=>by cases e) (λle=>by
    refine⟨ns,?_,hpos,?_,λi x hi=>?_⟩
    .show w'.ownsRow 0 e te.cells.len (upd γ k v' k) _ _;rw[upd_same];exact hown'
    .intro b hb hf;have hb:blk (upd γ k v' k)=some b:=hb;rw[upd_same]at hb;rcases(hnb b hb).1 with h1|h1
     .cases h1
     .exact aw2 h.grow h1
    .exact bQ.mono (λc hc=>le.dJ _ c hc) _ _ x (hnr i x hi))
 exact⟨v',w',_,hrun,hR,⟨e,te.cells,_,_,add_same _ _ _⟩,(upd_same _ _ _).symm,ho.1⟩
theorem alP(hΘ:∀t ti,Θ t=some ti->mM P t ti)(h:Rel w0 M T γ st a w){t f e:TypeId}{ti te:TI}(ht:Θ t=some ti)(hk:ti.kind=.slice f)(he:Θ f=some te){o:Nat}{r:aK}{l:List r.den}{fr:Bool}
 (ho:st.ah o=some (.arr e r l fr)) {v:Value} (hv:bJ (aA w0 T γ st w) (.ref o) v) {hi:Option Operand} {p:Prop} {x y:Nat} (hb:nU st l.length none hi=some (p,x,y)) (hp:p):
 ∃u γ',(Instr.sliceAt t v none (hi.map a.eval) none).run P w=.ok u w/\Rel w0 M T γ' ((st.kill (Nat.beq o ·)).add o (.arr e r (l.take y) fr)) a w/\
  bK (aA w0 T γ' ((st.kill (Nat.beq o ·)).add o (.arr e r (l.take y) fr)) w) (.sv (.one (.ref o))) u:=by
 obtain⟨_,hvγ,_⟩:=hv;have hvγ:v=γ o:=hvγ;subst hvγ;obtain⟨xs,hown,hpos,hfr,hrow⟩:=h.ah o _ ho;have hown:w.ownsRow 0 e r.len (γ o) l.length xs:=hown;have hx0:x=0:=by
  cases hi with
  |none=>simp only[nU]at hb;cases hb;rfl
  |some hh=>
   simp only[nU]at hb;split at hb
   .cases hb;rfl
   .cases hb
 subst hx0;have hu:=(hΘ t ti ht).und;rw[hk]at hu;obtain⟨h1,h2⟩:=hown;have key:∃u,(Instr.sliceAt t (γ o) none (hi.map a.eval) none).run P w=.ok u w/\w.ownsRow 0 e r.len u y (xs.take (y*r.len))/\blk u=blk (γ o)/\y<=l.length:=by
  rcases h2 with⟨hn,hl0⟩|⟨g,cap,cur,hg,hg0,hh,hle,hmax,hsz,htake⟩
  .have hn:γ o=.slice none 0 0:=hn;obtain⟨hr,h3,h4⟩:=vN (P:=P) h (len:=l.length) (cap:=0) (by omega) hb hp true;have hy:y=0:=by omega
   refine⟨.slice none 0 0,?_,?_,by rw[hn],h4⟩
   .rw[hn];simp only[ays]at hr;rw[hl0]at hr;simp[Instr.sliceAt,Instr.slice,axc,axo hu.1 w,hr,(hΘ f te he).run_sizeOf,hy]
   .rw[hy,ayI,az4];exact azL w 0 e r.len
  .have hg:γ o=.slice (some ⟨g,0,none⟩) l.length cap:=hg;obtain⟨hr,h3,h4⟩:=vN (P:=P) h (len:=l.length) (cap:=cap) hle hb hp true;have hmul:y*r.len<=l.length*r.len:=axg _ h4;refine⟨.slice (some ⟨g,0,none⟩) y cap,?_,⟨?_,.inr ⟨g,cap,cur,rfl,hg0,hh,aw2 h4 hle,hmax,hsz,?_⟩⟩,by rw[hg];rfl,h4⟩
   .rw[hg];simp only[ays]at hr;simp only[Instr.sliceAt,Instr.slice,axc,axo hu.1 w,axC,hr,(hΘ f te he).run_sizeOf];simp[addr_add]
   .rw[awT,h1];omega
   .rw[← htake,ayy,ayt hmul]
 obtain⟨u,hrun,hown',hblk,hyl⟩:=key;have hone:=ajV hown';obtain⟨hR,_⟩:=h.replace (w':=w) (o:=o) (v':=u) (x':=.arr e r (l.take y) fr) (blk (γ o)) (.inr ⟨_,ho,rfl⟩) rfl rfl rfl (aw7 _) (λ_ _ _=>rfl)
  (λg hg=>⟨.inl (by rw[← hblk,hg]),(h.lt o _ g ho (by rw[← hblk,hg])).1⟩) (λ_ e=>by cases e) (λle=>by
    have hlen:(l.take y).length=y:=by rw[awT];omega
    refine⟨xs.take (y*r.len),?_,hpos,?_,λi z hi=>?_⟩
    .rw[hlen];show w.ownsRow 0 e r.len (upd γ o u o) _ _;rw[upd_same];exact hown'
    .intro b hb hf;have hb:blk (upd γ o u o)=some b:=hb;rw[upd_same,hblk]at hb;exact hfr b hb hf
    .have hil:i<y:=by rw[← hlen];exact(aw3.1 hi).1
     have hmul:i*r.len+r.len<=y*r.len:=by have:(i+1)*r.len<=y*r.len:=axg _ hil;rw[axw]at this;simpa using this
     rw[axa,if_pos hil]at hi;rw[iK _ _ _ _ hmul];exact bQ.mono (λc hc=>le.dJ _ c hc) _ _ z (hrow i z hi))
 exact⟨u,_,hrun,hR,⟨e,r,_,_,add_same _ _ _⟩,(upd_same _ _ _).symm,hone.1⟩
theorem ajW{G:kR}(hE:vw P G Θ Γ w0 M)(h:Rel w0 M T γ st a w)(o:Oper){d:Nat}{p:Prop}{v:AV}{s:St}
 (hc:eff Θ Γ d st o.op=some (p,v,s)) (hp:p) {next:Act->World->Prop} {Q:Exit->Act->World->Prop}
 (hn:∀u γ' w',Rel w0 M T γ' s a w'->bK (aA w0 T γ' s w') v u->next (a.put o.dst u) w'):o.wp P a w next Q:=by
 cases hop:o.op<;>rw[hop]at hc<;>try (simp only[eff,reduceCtorEq]at hc;done)
 case store t x y=>
  simp only[eff]at hc;split at hc
  .next sv ti hev ht=>
   split at hc
   .next hlen=>
    split at hc
    .next q s' hs=>
     cases hc;have hF:=h.freeze (F6 (st.ev x) sv);have hy:=jA h y;rw[hev]at hy;have hpv:=bK.freeze (F6 (st.ev x) sv) h _ _ (jA h x);have hyv:=eU.freeze (F6 (st.ev x) sv) h _ _ hy;have hl2:(sv.freeze st (F6 (st.ev x) sv)).cells.length=ti.cells.len:=by have h1:=ak.length _ _ (eU.cells _ _ hyv);have h2:=ak.length _ _ (eU.cells _ _ hy);have h3:=awQ hlen;omega
     obtain⟨w',hr,hR⟩:=ajR (P:=P) hE.types hF ht hs hp hpv hyv hl2;have hr2:(execOp a.eval o).run P w=.ok .skip w':=by simp[execOp,hop,hr]
     unfold Oper.wp;rw[hr2];exact hn undef γ w' hR trivial
    .cases hc
   .cases hc
  .cases hc
 case buildSlice t len parts=>
  simp only[eff]at hc;split at hc
  .next q v' δ hcalm=>
   split at hc
   .next hfr=>cases hc;exact O1 hE (h.freeze ((nT st parts.toList).contains ·)) o (by rw[hop];exact hcalm) hp hfr hn
   .cases hc
  .cases hc
 case slice t x lo hi mx=>
  cases mx with
  |some m=>simp only[eff,reduceCtorEq]at hc
  |none=>
   cases lo with
   |none=>
    simp only[eff]at hc;split at hc
    .next ti r ht hev=>
     have hx:=pR h hev;split at hc
     .next f e rr l fr hk ho=>
      split at hc
      .next te q i j he hb=>
       split at hc
       .next hbeq=>cases hc;obtain⟨u,γ',hr,hR,hv⟩:=alP (P:=P) hE.types h ht hk he ho hx hb hp;refine Oper.nH (u:=u) (w':=w) ?_ (hn u γ' w hR hv);simp[execOp,hop,hr]
       .cases hc
      .cases hc
     .cases hc
    .cases hc
   |some l0=>
    simp only[eff]at hc;split at hc
    .next ti r ht hev=>
     split at hc
     .next f e rr l fr hk ho=>
      split at hc
      .next te q i j he hb=>
       split at hc
       .next hbeq=>
        split at hc
        .next q' v' hq=>cases hc;exact O1 (δ:=[]) hE (h.freeze (Nat.beq r ·)) o (by rw[hop];exact hq) hp rfl hn
        .cases hc
       .cases hc
      .cases hc
     .cases hc
    .cases hc
 case call c=>
  obtain⟨callee,args,qX⟩:=c;cases callee with
  |invoke r m=>simp only[eff,reduceCtorEq]at hc
  |builtin b=>
   cases b<;>try (simp only[eff,reduceCtorEq]at hc;done)
   case append=>
    simp only[eff]at hc;split at hc
    .next sx x t u hargs Ql=>
     split at hc
     .next ti c y htu ht hes hex=>
      have htu:=awQ htu;subst htu;have ha:args.map a.eval=#[a.eval sx,a.eval x]:=by apply ayo;simp[hargs]
      have ht':qX=#[t,t]:=by apply ayo;simp[Ql]
      have hrun:execOp a.eval o=(do pure (Next.value (← Builtin.append_ #[t,t] o.type #[a.eval sx,a.eval x]))):=by rw[Dj hop,ha,ht'];rfl
      have h1:=pR h hes;have h2:=pR h hex;split at hc
      .next e hk=>
       split at hc
       .next te he=>
        split at hc
        .next news r hget=>
         split at hc
         .next f rr l fr ho=>
          split at hc
          .next hbeq=>
           split at hc
           .next hef=>cases hc;have hef:=awQ hef;subst hef;obtain⟨v',w',γ',hr,hR,hv⟩:=akF (P:=P) (ty:=o.type) hE.types h ht hk he ho hbeq h1 h2 hget hp;exact Oper.nH (by rw[hrun];exact U5 hr) (hn v' γ' w' hR hv)
           .cases hc
          .cases hc
         .cases hc
        .next news hget=>
         split at hc
         .next WJ=>cases hc;have hs0:a.eval sx=.slice none 0 0:=h1;obtain⟨v',w',γ',hr,hR,hv⟩:=acA (P:=P) (ty:=o.type) hE.types h ht hk he (d*64+1) (ax4 WJ) h2 hget hp;exact Oper.nH (by rw[hrun,hs0];exact U5 hr) (hn v' γ' w' hR hv)
         .cases hc
        .cases hc
       .cases hc
      .cases hc
     .next ti o1 DR n0 o2 lo2 n2 htu ht hes hex=>
      have htu:=awQ htu;subst htu;have ha:args.map a.eval=#[a.eval sx,a.eval x]:=by apply ayo;simp[hargs]
      have ht':qX=#[t,t]:=by apply ayo;simp[Ql]
      have hrun:execOp a.eval o=(do pure (Next.value (← Builtin.append_ #[t,t] o.type #[a.eval sx,a.eval x]))):=by rw[Dj hop,ha,ht'];rfl
      obtain⟨v',w',hr,hR,hv⟩:=acz (P:=P) (ty:=o.type) hE.types h ht hes hex hc hp;exact Oper.nH (by rw[hrun];exact U5 hr) (hn v' γ w' hR hv)
     .cases hc
    .cases hc
   case clear=>
    simp only[eff]at hc;split at hc
    .next x t hargs Ql=>
     split at hc
     .next ti o1 lo n ht hev=>
      have ha:args.map a.eval=#[a.eval x]:=by apply ayo;simp[hargs]
      have ht':qX=#[t]:=by apply ayo;simp[Ql]
      have hrun:execOp a.eval o=(do pure (Next.value (← Builtin.clear_ #[t] o.type #[a.eval x]))):=by rw[Dj hop,ha,ht'];rfl
      obtain⟨v',w',hr,hR,hv⟩:=aen (P:=P) (ty:=o.type) hE.types h ht hev hc hp;exact Oper.nH (by rw[hrun];exact U5 hr) (hn v' γ w' hR hv)
     .cases hc
    .cases hc
  |value x=>
   simp only[eff]at hc;split at hc
   .next f caps hx=>
    have hv:=jA h x;rw[hx]at hv;obtain⟨us,hvx,hkx⟩:=hv;split at hc
    .next con hcon=>
     split at hc
     .next vs hargs hrefs=>
      split at hc
      .next q out hq=>
       split at hc
       .next hfr=>cases hc;have hF:=h.freeze (alq st args.toList caps);obtain⟨hok,hcall⟩:=hE.cons f con hcon;unfold Oper.wp;rw[SH hop hvx hcall,azx];have hrep:=EZ hF (γ0:=λ_=>undef) _ _ vs hargs hrefs (pV.freeze _ h _ _ (KE h hkx args.toList));rw[← ayJ,← ayw]at hrep;refine(hok vs _ out (d*64+1) _ (args.map a.eval++us) w hq hp (hE.at h) hrep).mono ?_;rintro e w' ⟨u,vals,rfl,h1,h2,h3,h4,h5,h6,h7,h8⟩;obtain⟨γ',g1,g2⟩:=hF.called (by omega) hfr h1 h2 h3 h4 h5 (.inr rfl) h6 h7 h8;exact hn u γ' w' g1 g2
       .cases hc
      .cases hc
     .cases hc
    .cases hc
   .cases hc
theorem apL{G:kR}(hE:vw P G Θ Γ w0 M)(h:Rel w0 M T γ st a w)(o:Oper){d:Nat}{p:Prop}{ρ:Oq}{os:List (Option Nat)}{s0:St}
 (hc:afN Γ st o.op=some (p,ρ,os,s0)) (hp:p) (hch:∀t,ρ.R t->∃r,WC d s0 os (ρ.out t) (ρ.bD t)=some r) {next:Act->World->Prop} {Q:Exit->Act->World->Prop}
 (hn:∀t v s u γ' w',ρ.R t->WC d s0 os (ρ.out t) (ρ.bD t)=some (v,s)->Rel w0 M T γ' s a w'->bK (aA w0 T γ' s w') v u->next (a.put o.dst u) w'):o.wp P a w next Q:=by
 unfold afN at hc;split at hc
 case h_2=>cases hc
 next x args qX hop=>
 split at hc
 case h_2=>cases hc
 next f caps hx=>
 have hv:=jA h x;rw[hx]at hv;obtain⟨us,hvx,hkx⟩:=hv;split at hc
 case h_2=>cases hc
 next ms con hcon=>
 split at hc
 case h_2=>cases hc
 next vs os' aad=>
 split at hc
 case h_2=>cases hc
 next q ρ' hq=>
 cases hc;have hF:=h.freeze (ab5 st ms args.toList caps);obtain⟨hok,hcall⟩:=hE.ale f ms con hcon;unfold Oper.wp;rw[SH hop hvx hcall,azx];have hxs:pV (aA w0 T γ (Qi st ms args.toList caps) w) (apH st ms args.toList caps) (args.map a.eval++us).toList:=by rw[ayw,ayJ];exact pV.freeze (ab5 st ms args.toList caps) h _ _ (KE h hkx args.toList)
 have hk:(d*64+1)%64=1:=by omega
 have hspec:∀t,ρ.R t->∃δ,(Df os=true/\NM (ρ.bD t) ((ρ.out t).take (d*64+1)).2=true)/\oP (Qi st ms args.toList caps) os (ρ.bD t)=some δ/\kL ((Qi st ms args.toList caps).kill (ji os (ρ.bD t))) ((ρ.out t).take (d*64+1)).2=true/\
  WC d (Qi st ms args.toList caps) os (ρ.out t) (ρ.bD t)=some (((ρ.out t).take (d*64+1)).1,(((Qi st ms args.toList caps).kill (ji os (ρ.bD t))).adds δ).adds ((ρ.out t).take (d*64+1)).2):=by
  intro t ht;obtain⟨r,hr⟩:=hch t ht;unfold WC at hr;split at hr
  .next δ hnd hb hfr=>rw[awP]at hnd;refine⟨δ,hnd,hb,hfr,?_⟩;unfold WC;rw[hnd.1,hnd.2,hb,hfr];rfl
  .cases hr
 obtain⟨t0,ht0⟩:=(hok vs _ ρ hq hp).1;obtain⟨_,⟨hnd,_⟩,_⟩:=hspec t0 ht0;refine(hF.anO hE hxs (WL ms _ vs os aad) hnd hk hok hq hp λt ht=>?_).mono ?_
 .obtain⟨δ,g1,g2,g3,_⟩:=hspec t ht;exact⟨δ,g2,g3,g1.2⟩
 .rintro e w' ⟨t,δ,ht,hb,u,γ',rfl,g1,g2⟩;obtain⟨δ',_,g3,_,g4⟩:=hspec t ht;have hδ:δ'=δ:=Option.some.inj (g3.symm.trans hb);subst hδ;exact hn t _ _ u γ' w' ht g4 g1 g2
theorem aoG{G:kR}(hE:vw P G Θ Γ w0 M)(h:Rel w0 M T γ st a w)(o:Oper){d:Nat}{p:Prop}{v:AV}{s:St}
 (hc:oper Θ Γ d st o.op=some (p,v,s)) (hp:p) {next:Act->World->Prop} {Q:Exit->Act->World->Prop}
 (hn:∀u γ' w',Rel w0 M T γ' s a w'->bK (aA w0 T γ' s w') v u->next (a.put o.dst u) w'):o.wp P a w next Q:=by
 unfold oper at hc;split at hc
 .next q v' δ hcalm=>
  split at hc
  .next hfr=>cases hc;exact O1 hE h o hcalm hp hfr hn
  .cases hc
 .exact ajW hE h o hc hp hn
end Go.Fw
namespace Go.Fw
open Go
structure St.more(st s:St):Prop where
 tmps:∀t,st.tmps t=.undef\/s.tmps t=st.tmps t
 ah:∀o x,st.ah o=some x->s.ah o=some x
variable {st s:St} {Θ:jT} {Γ:lC}
theorem Qb(h:st.more s)(x:Operand):st.ev x=.undef\/s.ev x=st.ev x:=by
 cases x with
 |tmp t=>exact h.tmps t
 |const v=>exact .inr rfl
 |global g=>exact .inr rfl
 |func f=>exact .inr rfl
theorem dB(h:st.more s){x:Operand}{v:AV}(e:st.ev x=v)(hv:v≠ .undef):s.ev x=v:=by
 rcases Qb h x with h1|h1
 .rw[e]at h1;exact absurd h1 hv
 .rw[h1,e]
theorem qJ(h:st.more s){x:Operand}{n:Int}(e:xZ (st.ev x)=some n):xZ (s.ev x)=some n:=by
 rcases Qb h x with h1|h1
 .rw[h1]at e;cases e
 .rw[h1];exact e
theorem aes(h:st.more s):∀(c:CT)(x:Cell)(d:c.den),x.get st c=some d->x.get s c=some d:=by
 intro c x d hg;cases c<;>cases x<;>simp only[Cell.get]at hg ⊢<;>try exact hg
 case sl.ref e r o=>
  split at hg
  .next e' r' l fr ho=>rw[h.ah o _ ho];exact hg
  .cases hg
theorem adz(h:st.more s):∀(r:aK)(cs:List Cell)(d:r.den),EH st r cs=some d->EH s r cs=some d
 |.nil,[],_,hg=>hg
 |.nil,_::_,_,hg=>by simp[EH]at hg
 |.cons _ _,[],_,hg=>by simp[EH]at hg
 |.cons c r,x::xs,d,hg=>by
  rw[EH]at hg ⊢;split at hg
  .next a b ha hb=>rw[aes h c x a ha,adz h r xs b hb];exact hg
  .cases hg
theorem aae(h:st.more s)(fs:List (Nat×TypeId)):∀(ps:List (Nat×Operand))(cs ds:List Cell),JL Θ st fs ps cs=some ds->JL Θ s fs ps cs=some ds
 |[],_,_,hb=>hb
 |(i,x)::r,cs,ds,hb=>by
  rw[JL]at hb ⊢;split at hb
  .next off t v hf hev=>
   rw[hf,dB h hev (by simp)];dsimp only;split at hb
   .next ti ht=>
    split at hb
    .next hle=>exact aae h fs r _ ds hb
    .cases hb
   .cases hb
  .cases hb
theorem adA(h:st.more s)(r:aK):∀(ps:List (Nat×Operand))(k:Nat)(l:List r.den),Iw st r k ps=some l->Iw s r k ps=some l
 |[],_,_,hb=>hb
 |(i,x)::ps,k,l,hb=>by
  rw[Iw]at hb ⊢;split at hb
  .next v l' hik hev hl=>
   rw[hik,dB h hev (by simp),adA h r ps (k+1) l' hl];dsimp only;split at hb
   .next y hy=>rw[adz h r _ y hy];exact hb
   .cases hb
  .cases hb
theorem aaf(r:aK):∀(ps:List (Nat×Operand))(k:Nat)(l:List r.den),Iw st r k ps=some l->∀x∈ps,∃v,st.ev x.2=.sv v
 |[],_,_,_,x,hx=>by cases hx
 |(i,y)::ps,k,l,hb,x,hx=>by
  rw[Iw]at hb;split at hb
  .next v l' hik hev hl=>
   rcases axi.1 hx with rfl|hx
   .exact⟨v,hev⟩
   .exact aaf r ps (k+1) l' hl x hx
  .cases hb
theorem Va(h:st.more s):∀(ps:List (Nat×Operand)),(∀x∈ps,∃v,st.ev x.2=.sv v)->nT s ps=nT st ps
 |[],_=>rfl
 |(i,x)::ps,hk=>by obtain⟨v,hv⟩:=hk (i,x) aw5;rw[nT,nT,Va h ps (λy hy=>hk y (aw6 _ hy)),dB h hv (by simp),hv]
theorem ana:∀(c:Cell),c.refs=[]->c.fresh s=c.fresh st
 |.int _ _,_|.bool _,_|.str _,_|.nil,_|.sl _ _ _ _,_|.junk,_=>rfl
 |.ref _,h=>by cases h
theorem ajX:∀(cs:List Cell),cs.flatMap Cell.refs=[]->cs.all (Cell.fresh s)=cs.all (Cell.fresh st)
 |[],_=>rfl
 |c::cs,h=>by rw[axY,axG]at h;rw[ax0,ax0,ana c h.1,ajX cs h.2]
theorem SL(h:st.more s):∀(ps:List (Nat×Operand)),(∀x∈ps,∃v,st.ev x.2=.sv v)->nT st ps=[]->oO s ps=oO st ps
 |[],_,_=>rfl
 |(i,x)::ps,hk,hr=>by obtain⟨v,hv⟩:=hk (i,x) aw5;rw[nT,axG,hv]at hr;rw[oO,oO,SL h ps (λy hy=>hk y (aw6 _ hy)) hr.2,dB h hv (by simp),hv];dsimp only;rw[ajX v.cells hr.1]
theorem apM(h:st.more s):∀(c:Cell),c.ok st=true->c.view s=c.view st/\c.ok s=true
 |.int _ _,_|.bool _,_|.str _,_|.nil,_|.sl _ _ _ _,_|.junk,_=>⟨rfl,rfl⟩
 |.ref o,hk=>by
  simp only[Cell.ok]at hk;split at hk
  .next e r l fr ho=>exact⟨by simp only[Cell.view,ho,h.ah o _ ho],by simp only[Cell.ok,h.ah o _ ho]⟩
  .cases hk
theorem O6(h:st.more s):∀(cs:List Cell),cs.all (Cell.ok st)=true->cs.map (Cell.view s)=cs.map (Cell.view st)/\cs.all (Cell.ok s)=true
 |[],_=>⟨rfl,rfl⟩
 |c::cs,hk=>by rw[ax0,awP]at hk;obtain⟨h1,h2⟩:=apM h c hk.1;obtain⟨h3,h4⟩:=O6 h cs hk.2;exact⟨by rw[axm,axm,h1,h3],by rw[ax0,h2,h4];rfl⟩
theorem anb(h:st.more s)(v:SV)(hk:v.cells.all (Cell.ok st)=true):v.view s=v.view st/\v.cells.all (Cell.ok s)=true:=by
 obtain⟨h1,h2⟩:=O6 h v.cells hk;refine⟨?_,h2⟩;cases v with
 |one c=>simp only[SV.cells,axm,List.map_nil,List.cons.injEq,azE]at h1;simp only[SV.view,h1]
 |agg cs=>simp only[SV.cells]at h1;simp only[SV.view,h1]
theorem E5(h:st.more s):∀(xs:List AV)(vs:List Arg),qH st xs=some vs->qH s xs=some vs
 |[],_,hv=>hv
 |x::xs,vs,hv=>by
  unfold qH at hv ⊢;split at hv
  .next v us hu=>
   rw[E5 h xs us hu];split at hv
   .next hk=>obtain⟨h1,h2⟩:=anb h v hk;dsimp only;rw[h2,h1];exact hv
   .cases hv
  .next cs off us hu=>
   rw[E5 h xs us hu];split at hv
   .next hk=>rw[awP]at hk;obtain⟨h1,h2⟩:=O6 h cs hk.2;dsimp only;rw[hk.1,h2,h1];exact hv
   .cases hv
  .next f caps us hu=>
   rw[E5 h xs us hu];split at hv
   .next hk=>
    have key:∀(caps:List (List Cell)),caps.all (List.all · (Cell.ok st))=true->caps.map (List.map (Cell.view s))=caps.map (List.map (Cell.view st))/\caps.all (List.all · (Cell.ok s))=true:=by
     intro caps
     induction caps with
     |nil=>intro _;exact⟨rfl,rfl⟩
     |cons cs l ih=>intro hk;rw[ax0,awP]at hk;obtain⟨h1,h2⟩:=O6 h cs hk.1;obtain⟨h3,h4⟩:=ih hk.2;exact⟨by rw[axm,axm,h1,h3],by rw[ax0,h2,h4];rfl⟩
    obtain⟨h1,h2⟩:=key caps hk;dsimp only;rw[h2,h1];exact hv
   .cases hv
  .cases hv
theorem KH:∀(xs:List AV)(vs:List Arg),qH st xs=some vs->∀x∈xs,x≠ .undef
 |[],_,_,x,hx=>by cases hx
 |y::xs,vs,hv,x,hx=>by
  unfold qH at hv;split at hv
  .next v us hu=>
   rcases axi.1 hx with rfl|hx
   .simp
   .exact KH xs us hu x hx
  .next cs off us hu=>
   rcases axi.1 hx with rfl|hx
   .simp
   .exact KH xs us hu x hx
  .next f caps us hu=>
   rcases axi.1 hx with rfl|hx
   .simp
   .exact KH xs us hu x hx
  .cases hv
theorem Ug(h:st.more s)(caps:List (List Cell)):∀(xs:List Operand),(∀x∈handed st xs caps,x≠ .undef)->handed s xs caps=handed st xs caps
 |[],_=>rfl
 |x::xs,hk=>by have h1:s.ev x=st.ev x:=dB h rfl (hk _ aw5);have h2:=Ug h caps xs λy hy=>hk y (aw6 _ hy);show s.ev x::handed s xs caps=st.ev x::handed st xs caps;rw[h1,h2]
theorem adB(h:st.more s):∀(xs:List Operand)(l:List (List Cell)),heldBy st xs=some l->heldBy s xs=some l
 |[],_,hl=>hl
 |x::xs,l,hl=>by
  rw[heldBy]at hl ⊢;split at hl
  .next cs off l' hx hl'=>rw[dB h hx (by simp),adB h xs l' hl'];exact hl
  .cases hl
theorem WM(h:st.more s)(len:Nat)(lo hi:Option Operand){r:Prop×Nat×Nat}(hb:nU st len lo hi=some r):nU s len lo hi=some r:=by
 cases lo<;>cases hi<;>simp only[nU]at hb ⊢
 .exact hb
 .split at hb
  .next b e=>rw[qJ h e];exact hb
  .cases hb
 .split at hb
  .next b e=>rw[qJ h e];exact hb
  .cases hb
 .split at hb
  .next b c e1 e2=>rw[qJ h e1,qJ h e2];exact hb
  .cases hb
def AV.less(v v':AV):Prop:=v=.undef\/v'=v
theorem anc(h:st.more s){n room:Nat}{lo hi:Option Operand}{r:Prop×Nat×Nat}(hb:ZO st n room lo hi=some r):ZO s n room lo hi=some r:=by cases hi<;>simp only[ZO]at hb ⊢<;>exact WM h _ _ _ hb
theorem apN(h:st.more s)(d:Nat)(o:Op){p:Prop}{v:AV}{δ:List (Nat×aX)}(hc:calm Θ Γ d st o=some (p,v,δ)):
 ∃v',calm Θ Γ d s o=some (p,v',δ)/\v.less v':=by
 have same:∀{r:Option (Prop×AV×List (Nat×aX))},r=some (p,v,δ)->calm Θ Γ d s o=r->∃v',calm Θ Γ d s o=some (p,v',δ)/\v.less v':=
  λh1 h2=>⟨v,h2.trans h1,.inr rfl⟩
 cases o<;>try (simp only[calm,reduceCtorEq]at hc;done)
 case move x=>simp only[calm]at hc ⊢;cases hc;exact⟨_,rfl,Qb h x⟩
 case assign x=>simp only[calm]at hc ⊢;cases hc;exact⟨_,rfl,Qb h x⟩
 case pick c x y=>
  simp only[calm]at hc ⊢;split at hc
  .next g hg=>
   cases hc;rw[dB h hg (by simp)];refine⟨_,rfl,?_⟩;cases g
   .exact Qb h y
   .exact Qb h x
  .cases hc
 case nilCheck x=>
  simp only[calm]at hc ⊢;split at hc
  .next a b e=>rw[dB h e (by simp)];exact⟨v,hc,.inr rfl⟩
  .next a b c e=>rw[dB h e (by simp)];exact⟨v,hc,.inr rfl⟩
  .next a b c d e=>rw[dB h e (by simp)];exact⟨v,hc,.inr rfl⟩
  .next a b e=>rw[dB h e (by simp)];exact⟨v,hc,.inr rfl⟩
  .next a b e=>rw[dB h e (by simp)];exact⟨v,hc,.inr rfl⟩
  .cases hc
 case makeFunc fn first captured=>
  cases fn<;>try (simp only[calm,reduceCtorEq]at hc;done)
  case func f=>
   simp only[calm]at hc ⊢;split at hc
   .next l hfirst hl=>rw[adB h _ _ hl,hfirst];exact⟨v,hc,.inr rfl⟩
   .cases hc
 case alloc t=>exact⟨v,hc,.inr rfl⟩
 case box t x=>
  simp only[calm]at hc ⊢;split at hc
  .next a e=>rw[dB h e (by simp)];exact⟨v,hc,.inr rfl⟩
  .cases hc
 case build t parts=>
  simp only[calm]at hc ⊢;split at hc
  .next ti ht=>
   split at hc
   .next fs hk=>
    split at hc
    .next cs hb=>rw[aae h _ _ _ _ hb];exact⟨v,hc,.inr rfl⟩
    .cases hc
   .cases hc
  .cases hc
 case buildSlice t len parts=>
  simp only[calm]at hc ⊢;split at hc
  .next ti ht=>
   split at hc
   .next e hk=>
    split at hc
    .next te he=>
     split at hc
     .next l hb hrefs hrows=>have hkn:=aaf _ _ _ _ hrows;rw[hb,Va h _ hkn,hrefs,adA h _ _ _ _ hrows,SL h _ hkn hrefs];exact⟨v,hc,.inr rfl⟩
     .cases hc
    .cases hc
   .cases hc
  .cases hc
 case makeSlice t x y=>
  simp only[calm]at hc ⊢;split at hc
  .next ti n c ht hn hcc=>rw[ht,qJ h hn,qJ h hcc];exact⟨v,hc,.inr rfl⟩
  .cases hc
 case load t x=>
  simp only[calm]at hc ⊢;split at hc
  .next ti o off ht he=>
   rw[ht,dB h he (by simp)];split at hc
   .next cs ho=>dsimp only;rw[h.ah o _ ho];exact⟨v,hc,.inr rfl⟩
   .cases hc
  .next ti o i off ht he=>
   rw[ht,dB h he (by simp)];split at hc
   .next e r l fr ho=>dsimp only;rw[h.ah o _ ho];exact⟨v,hc,.inr rfl⟩
   .cases hc
  .next ti r y off fr ht he=>rw[ht,dB h he (by simp)];exact⟨v,hc,.inr rfl⟩
  .next ti cs off ht he=>rw[ht,dB h he (by simp)];exact⟨v,hc,.inr rfl⟩
  .cases hc
 case fieldAddr t x f=>
  simp only[calm]at hc ⊢;split at hc
  .next ti ht=>
   split at hc
   .next fs hk=>
    split at hc
    .next k t hf=>
     split at hc
     .next te hte=>
      split at hc
      .cases hc
      .next a b e hne=>rw[dB h e (by simp)];cases hcell:te.cells with|nil=>exact(hne hcell).elim|cons _ _=>exact⟨v,hc,.inr rfl⟩
      .next a b c e hne=>rw[dB h e (by simp)];cases hcell:te.cells with|nil=>exact(hne hcell).elim|cons _ _=>exact⟨v,hc,.inr rfl⟩
      .next a b c d e hne=>rw[dB h e (by simp)];cases hcell:te.cells with|nil=>exact(hne hcell).elim|cons _ _=>exact⟨v,hc,.inr rfl⟩
      .next a b e hne=>rw[dB h e (by simp)];cases hcell:te.cells with|nil=>exact(hne hcell).elim|cons _ _=>exact⟨v,hc,.inr rfl⟩
      .cases hc
     .cases hc
    .cases hc
   .cases hc
  .cases hc
 case field t x f=>
  simp only[calm]at hc ⊢;split at hc
  .next ti ht=>
   split at hc
   .next fs hk=>
    split at hc
    .next k t cs hf e=>rw[hf,dB h e (by simp)];exact⟨v,hc,.inr rfl⟩
    .cases hc
   .cases hc
  .cases hc
 case indexAddr t x ix=>
  simp only[calm]at hc ⊢;split at hc
  .next ti n ht hn=>
   rw[ht,qJ h hn]
   try dsimp only
   split at hc
   .next e hk=>
    split at hc
    .next te e' r l fr he hev=>rw[he,dB h hev (by simp)];exact⟨v,hc,.inr rfl⟩
    .next te o he hev=>
     rw[he,dB h hev (by simp)]
     try dsimp only
     split at hc
     .next a b c d ho=>rw[h.ah o _ ho];exact⟨v,hc,.inr rfl⟩
     .cases hc
    .next te he hev=>rw[he,dB h hev (by simp)];exact⟨v,hc,.inr rfl⟩
    .cases hc
   .cases hc
  .cases hc
 case index t x ix=>
  simp only[calm]at hc ⊢;split at hc
  .next ti n b ht hn hev=>rw[ht,qJ h hn,dB h hev (by simp)];exact⟨v,hc,.inr rfl⟩
  .cases hc
 case binOp op t x y t'=>
  simp only[calm]at hc ⊢;split at hc
  .next a b e1 e2=>rw[dB h e1 (by simp),dB h e2 (by simp)];exact⟨v,hc,.inr rfl⟩
  .next a b e1 e2=>rw[dB h e1 (by simp),dB h e2 (by simp)];exact⟨v,hc,.inr rfl⟩
  .cases hc
 case unOp op t x=>
  simp only[calm]at hc ⊢;split at hc
  .next b e=>rw[dB h e (by simp)];exact⟨v,hc,.inr rfl⟩
  .next k n e=>rw[dB h e (by simp)];exact⟨v,hc,.inr rfl⟩
  .cases hc
 case convert a b x=>
  simp only[calm]at hc ⊢;split at hc
  .next ts td c hs hd e=>
   rw[hs,hd,dB h e (by simp)]
   try dsimp only
   split at hc
   .cases hc
   .next hagg=>
    rw[if_neg hagg];split at hc
    .exact⟨v,hc,.inr rfl⟩
    .exact⟨v,hc,.inr rfl⟩
    .exact⟨v,hc,.inr rfl⟩
    .next e' c' e1 e2=>
     split at hc
     .next l te hl hte=>rw[aes h _ _ _ hl,hte];exact⟨v,hc,.inr rfl⟩
     .cases hc
    .cases hc
  .cases hc
 case extract x i=>
  simp only[calm]at hc ⊢;split at hc
  .next a e=>rw[dB h e (by simp)];exact⟨v,hc,.inr rfl⟩
  .cases hc
 case slice t x lo hi mx=>
  cases mx with
  |some m=>
   cases lo with
   |none=>simp only[calm,reduceCtorEq]at hc
   |some lo=>
    cases hi with
    |none=>simp only[calm,reduceCtorEq]at hc
    |some hi=>
     simp only[calm]at hc ⊢;split at hc
     .next ti o ht e=>
      rw[ht,dB h e (by simp)]
      try dsimp only
      split at hc
      .next f e' r l fr hk ho=>
       split at hc
       .next te n1 n2 n3 he h1 h2 h3=>rw[hk,h.ah o _ ho];dsimp only;rw[he,qJ h h1,qJ h h2,qJ h h3];exact⟨v,hc,.inr rfl⟩
       .cases hc
      .cases hc
     .cases hc
  |none=>
   simp only[calm]at hc ⊢;split at hc
   .next ti b ht e=>
    rw[ht,dB h e (by simp)]
    try dsimp only
    split at hc
    .next p' x' y' hk hb=>rw[hk,WM h _ _ _ hb];exact⟨v,hc,.inr rfl⟩
    .cases hc
   .next ti e' r l fr ht e=>
    rw[ht,dB h e (by simp)]
    try dsimp only
    split at hc
    .next f p' x' y' hk hb=>rw[hk,WM h _ _ _ hb];exact⟨v,hc,.inr rfl⟩
    .cases hc
   .next ti ht e=>
    rw[ht,dB h e (by simp)]
    try dsimp only
    split at hc
    .next f p' x' y' hk hb=>rw[hk,WM h _ _ _ hb];exact⟨v,hc,.inr rfl⟩
    .cases hc
   .next ti o DR n0 ht e=>
    rw[ht,dB h e (by simp)]
    try dsimp only
    split at hc
    .next f e' r l fr hk ho=>
     split at hc
     .next te p' x' y' he hb=>rw[hk,h.ah o _ ho];dsimp only;rw[he,anc h hb];exact⟨v,hc,.inr rfl⟩
     .cases hc
    .cases hc
   .cases hc
 case call c=>
  obtain⟨callee,args,qX⟩:=c;cases callee with
  |invoke r m=>simp only[calm,reduceCtorEq]at hc
  |builtin b=>
   cases b<;>try (simp only[calm,reduceCtorEq]at hc;done)
   case len=>
    simp only[calm]at hc ⊢;split at hc
    .next x t hargs Ql=>
     split at hc
     .next ti c ht e=>
      rw[ht,dB h e (by simp)]
      try dsimp only
      split at hc
      .next b hk=>exact⟨v,hc,.inr rfl⟩
      .next a b c d e hk=>exact⟨v,hc,.inr rfl⟩
      .next a hk=>exact⟨v,hc,.inr rfl⟩
      .next a o hk=>
       split at hc
       .next e' r l fr ho=>rw[h.ah o _ ho];exact⟨v,hc,.inr rfl⟩
       .cases hc
      .cases hc
     .next ti o lo n ht e=>rw[ht,dB h e (by simp)];exact⟨v,hc,.inr rfl⟩
     .cases hc
    .cases hc
   case min=>
    simp only[calm]at hc ⊢;split at hc
    .next x y hargs=>
     split at hc
     .next a b c d e1 e2=>rw[dB h e1 (by simp),dB h e2 (by simp)];exact⟨v,hc,.inr rfl⟩
     .cases hc
    .cases hc
   case max=>
    simp only[calm]at hc ⊢;split at hc
    .next x y hargs=>
     split at hc
     .next a b c d e1 e2=>rw[dB h e1 (by simp),dB h e2 (by simp)];exact⟨v,hc,.inr rfl⟩
     .cases hc
    .cases hc
  |value x=>
   simp only[calm]at hc ⊢;split at hc
   .next f caps hx=>
    rw[dB h hx (by simp)];dsimp only;split at hc
    .next con vs hcon hargs=>rw[hcon,Ug h caps _ (KH _ _ hargs),E5 h _ _ hargs];exact⟨v,hc,.inr rfl⟩
    .cases hc
   .cases hc
end Go.Fw
namespace Go.Fw
open Go
variable {P:Program} {w0:World} {M:Nat->Prop} {T:Ext} {γ γ':Nat->Value} {st:St} {a:Act} {w w':World} {Θ:jT} {Γ:lC}
def numOf(st:St)(o:Oper):Nat:=match o.dst with|some d=>d|none=>st.n
def ar6(d o:Nat):Bool:=Nat.beq (o / 64) d
def ate(d o:Nat):Bool:=Nat.beq (o / 64) d&&!(Nat.beq (o%64) 0)
def makes:Op->Bool
 |.alloc _|.box _ _|.buildSlice _ _ _|.makeSlice _ _ _=>true
 |.call {callee:=.value _,.. }=>true
 |_=>false
def alQ:Op->Bool
 |.buildSlice _ _ _|.makeSlice _ _ _=>true
 |.call {callee:=.value _,.. }=>true
 |_=>false
def aoH(Θ:jT)(Γ:lC)(d:Nat)(st:St)(op:Op):Option (Prop×AV×St):=
 match oper Θ Γ d st op with
 |some r=>some r
 |none=>match makes op with
  |true=>oper Θ Γ d (st.kill (ar6 d)) op
  |false=>none
def quiet(st:St):Op->Bool
 |.move _|.assign _|.nilCheck _|.pick _ _ _|.alloc _|.box _ _|.build _ _|.buildSlice _ _ _|.fieldAddr _ _ _|.field _ _ _|.unOp _ _ _|.convert _ _ _|.extract _ _|.makeFunc _ _ _=>true
 |.call {callee:=.builtin .len,.. }|.call {callee:=.builtin .min,.. }|.call {callee:=.builtin .max,.. }=>true
 |.load _ p=>match st.ev p with|.oZ _ _ _=>false|_=>true
 |.store _ p _=>match st.ev p with|.bC _ _=>true|_=>false
 |.binOp op _ x _ _=>match op with
  |.quo|.rem|.shl|.shr=>false
  |.add=>match st.ev x with|.sv (.one (.str _))=>false|_=>true
  |_=>true
 |_=>false
theorem alR{op:BinOp}{k:IntKind}{x y:Int}{p:Prop}{c:Cell}(h:U1 op k x y=some (p,c))(h1:op≠ .quo)(h2:op≠ .rem):p:=by cases op<;>simp only[U1,reduceCtorEq]at h<;>first|(cases h;trivial)|exact(h1 rfl).elim|exact(h2 rfl).elim
theorem alS{op:BinOp}{x y:Bytes}{p:Prop}{c:Cell}(h:ZM op x y=some (p,c))(h1:op≠ .add):p:=by cases op<;>simp only[ZM,reduceCtorEq]at h<;>first|(cases h;trivial)|exact(h1 rfl).elim
theorem akG{op:BinOp}{x y:Cell}{p:Prop}{c:Cell}(h:U2 op x y=some (p,c))(h1:op≠ .quo)(h2:op≠ .rem)(h3:op≠ .shl)(h4:op≠ .shr)
 (h5:op=.add->∀s,x≠ .str s):p:=by
 unfold U2 at h;split at h
 .split at h
  .exact(h3 rfl).elim
  .exact(h4 rfl).elim
  .split at h
   .exact alR h h1 h2
   .cases h
 .exact alS h λe=>h5 e _ rfl
 .split at h
  .cases h;trivial
  .cases h;trivial
  .cases h
 .cases h
theorem WN{d:Nat}{op:Op}{p:Prop}{v:AV}{δ:List (Nat×aX)}(hc:calm Θ Γ d st op=some (p,v,δ))(hq:quiet st op=true):p:=by
 cases op<;>try (simp only[calm,reduceCtorEq]at hc;done)
 case binOp op t x y t'=>
  simp only[calm]at hc;split at hc
  .next a b e1 e2=>
   split at hc
   .split at hc
    .next q c hb=>
     cases hc;refine akG hb ?_ ?_ ?_ ?_ ?_
     .rintro rfl;simp[quiet]at hq
     .rintro rfl;simp[quiet]at hq
     .rintro rfl;simp[quiet]at hq
     .rintro rfl;simp[quiet]at hq
     .rintro rfl s rfl;simp[quiet,e1]at hq
    .cases hc
   .cases hc
  .split at hc
   .split at hc
    .split at hc
     .cases hc;trivial
     .cases hc
    .split at hc
     .cases hc;trivial
     .cases hc
    .cases hc
   .cases hc
  .cases hc
 case load t x=>
  simp only[calm]at hc;split at hc
  .split at hc
   .split at hc
    .cases hc;trivial
    .cases hc
   .cases hc
  .next e=>simp[quiet,e]at hq
  .split at hc
   .cases hc;trivial
   .cases hc
  .split at hc
   .cases hc;trivial
   .cases hc
  .cases hc
 case call c=>
  obtain⟨callee,args,qX⟩:=c;cases callee with
  |invoke r m=>simp only[calm,reduceCtorEq]at hc
  |builtin b=>
   cases b<;>first
    |(simp only[calm,reduceCtorEq]at hc;done)
    |(simp only[calm]at hc
      repeat' (first|(cases hc;done)|(cases hc;trivial)|(split at hc)))
  |value x=>simp[quiet]at hq
 all_goals first
  |(simp[quiet]at hq;done)
  |(simp only[calm]at hc
    repeat' (first|(cases hc;done)|(cases hc;trivial)|(split at hc)))
theorem ane{pt:AV}{v:SV}{q:Prop}{s:St}(h:store st pt v=some (q,s))(hv:∀o i off,pt≠ .oZ o i off):q:=by
 unfold store at h;split at h
 .split at h
  .split at h
   .cases h;trivial
   .cases h
  .cases h
 .exact(hv _ _ _ rfl).elim
 .cases h
theorem apO{d:Nat}{op:Op}{p:Prop}{v:AV}{s:St}(hc:eff Θ Γ d st op=some (p,v,s))(hq:quiet st op=true):p:=by
 cases op<;>try (simp only[eff,reduceCtorEq]at hc;done)
 case store t pt x=>
  simp only[eff]at hc;split at hc
  .split at hc
   .split at hc
    .next q s' hs=>
     cases hc;refine ane hs ?_;intro o i off e;cases hp:st.ev pt<;>rw[hp]at e<;>simp only[AV.freeze,reduceCtorEq]at e
     .split at e<;>cases e
     .simp[quiet,hp]at hq
     .split at e<;>cases e
    .cases hc
   .cases hc
  .cases hc
 case buildSlice t n parts=>
  simp only[eff]at hc;split at hc
  .next q v' δ hcalm=>
   split at hc
   .cases hc;exact WN hcalm rfl
   .cases hc
  .cases hc
 case slice t x lo hi mx=>simp[quiet]at hq
 case call c=>
  obtain⟨callee,args,qX⟩:=c;cases callee with
  |invoke r m=>simp only[eff,reduceCtorEq]at hc
  |builtin b=>cases b<;>first|(simp only[eff,reduceCtorEq]at hc;done)|(simp[quiet]at hq;done)
  |value x=>simp[quiet]at hq
theorem afV{d:Nat}{op:Op}{p:Prop}{v:AV}{s:St}(hc:oper Θ Γ d st op=some (p,v,s))(hq:quiet st op=true):p:=by
 unfold oper at hc;split at hc
 .next q v' δ hcalm=>
  split at hc
  .cases hc;exact WN hcalm hq
  .cases hc
 .exact apO hc hq
def atZ:Op->Bool|.box _ _=>true|_=>false
def anP(own:Nat->Bool)(d:Nat)(o:Oper)(v:AV)(s:St):St:=
 match alQ o.op&&!(own d)&&((s.ah (d*64+1)).isSome||(s.ah (d*64+2)).isSome||(s.ah (d*64+3)).isSome)with
 |true=>(s.put o.dst v).freeze (ate d)
 |false=>s.put o.dst v
def AV.fixed(o:Nat)(cs:List Cell):AV->AV
 |.bC p off=>match Nat.beq o p with|true=>.cO (cs.map (Cell.kill (Nat.beq o ·))) off|false=>.bC p off
 |v=>v.kill (Nat.beq o ·)
def St.fix(st:St)(o:Nat):St:=
 match st.ah o with
 |some (.var cs)=>{st.kill (Nat.beq o ·)with tmps:=λt=>(st.tmps t).fixed o cs}
 |_=>st
theorem Rel.fix(h:Rel w0 M T γ st a w)(o:Nat):Rel w0 M T γ (st.fix o) a w:=by
 unfold St.fix;split
 .next cs ho=>
  have hk:=h.kill (Nat.beq o ·);refine⟨hk.mT,hk.defers,hk.size,hk.os,hk.tape,hk.output,hk.grow,hk.kept,λt=>?_,hk.ah,hk.lt,hk.sep,hk.pin⟩;have hv:=h.tmps t;have hkv:=bK.kill (Nat.beq o ·) h _ _ hv;show bK (aA w0 T γ (st.kill (Nat.beq o ·)) w) ((st.tmps t).fixed o cs) _;cases hst:st.tmps t with
  |bC p off=>
   rw[hst]at hv hkv;simp only[AV.fixed];cases hb:Nat.beq o p with
   |false=>simp only[AV.kill,hb]at hkv;exact hkv
   |true=>
    have hop:=awQ hb;subst hop;obtain⟨b,cs',_,hγ,hval⟩:=hv;obtain⟨b',arr,t',U6,hh,hr⟩:=h.ah o _ ho;have hbb:b'=b:=by have h1:γ o=.pointer (some ⟨b,0,none⟩):=hγ;have h2:γ o=.pointer (some ⟨b',0,none⟩):=U6;rw[h1]at h2;simpa using h2.symm
    subst hbb;have hbl:blk (γ o)=some b':=by have h2:γ o=.pointer (some ⟨b',0,none⟩):=U6;rw[h2];rfl
    refine⟨b',hval,arr,t',(0,0),⟨(h.lt o _ b' ho hbl).1,λhlt=>h.mT b' ((h.lt o _ b' ho hbl).2.resolve_left (by have hlt':b'<w0.heap.size:=hlt;omega)),λq y hq=>?_⟩,hh,ak.kill _ h cs _ hr⟩;obtain⟨z,hz,_,hqS⟩:=Au (Nat.beq o ·) hq;exact h.sep o _ q z b' ho hz (λe=>by rw[← e]at hqS;simp at hqS) hbl
  |_=>rw[hst]at hkv;exact hkv
 .exact h
def land(own:Nat->Bool)(d:Nat)(o:Oper)(v:AV)(s:St):St:=
 match atZ o.op&&!(own d)with
 |true=>(s.put o.dst v).fix (d*64)
 |false=>anP own d o v s
def acf(st:St)(o:Oper):Bool:=match o.dst with|some d=>Nat.blt d st.n|none=>true
def roomy(d:Nat)(st:St):St:=
 match (st.ah (d*64)).isSome||(st.ah (d*64+1)).isSome||(st.ah (d*64+2)).isSome||(st.ah (d*64+3)).isSome with
 |true=>st.kill (ar6 d)
 |false=>st
def apP(Γ:lC)(d:Nat)(st:St)(op:Op):Option (Prop×Oq×List (Option Nat)×St):=
 match afN Γ (roomy d st) op with
 |some r=>some r
 |none=>afN Γ st op
def apQ:BinOp->Option Bool
 |.eql=>some false
 |.neq=>some true
 |_=>none
def afW:Bool->Bool->Bool
 |true,g=>!g
 |false,g=>g
def anQ(st:St):AV->Option (Bool->Prop)
 |.sv (.one (.sl _ _ l _))=>some λg=>g=true->l.length=0
 |.sv (.one (.ref o))=>match st.ah o with
  |some (.arr _ _ l _)=>some λg=>g=true->l.length=0
  |_=>none
 |.sv (.one .nil)=>some λg=>g=true
 |_=>none
def ar7(Θ:jT)(st:St)(t:TypeId)(x:Operand)(s:Option Bool):Option (Bool×(Bool->Prop)):=match s,Θ t with
 |some neg,some ti=>match ti.kind with
  |.slice _=>match anQ st (st.ev x)with
   |some R=>some (neg,R)
   |none=>none
  |_=>none
 |_,_=>none
def aoI(Θ:jT)(st:St):Op->Option (Bool×(Bool->Prop))
 |.binOp op t x (.const (.slice none 0 0)) _=>ar7 Θ st t x (apQ op)
 |_=>none
def alT(Θ:jT)(Γ:lC)(own:Nat->Bool)(o:Oper)(K:St->Prop)(st:St):Prop:=
 match acf st o with
 |true=>match apP Γ (numOf st o) st o.op with
  |some (p,ρ,os,s0)=>p/\∀t,ρ.R t->match WC (numOf st o) s0 os (ρ.out t) (ρ.bD t)with
   |some (v,s)=>K (land own (numOf st o) o v s)
   |none=>False
  |none=>match aoI Θ st o.op with
   |some (neg,R)=>∀g:Bool,R g->K (land own (numOf st o) o (.sv (.one (.bool (afW neg g)))) st)
   |none=>match aoH Θ Γ (numOf st o) st o.op,quiet st o.op with
    |some (p,v,s),q=>match q with
     |true=>K (land own (numOf st o) o v s)
     |false=>p/\K (land own (numOf st o) o v s)
    |none,_=>False
 |false=>False
def guarded(ops:List Oper)(o:Oper)(one:St->Prop)(skip:St->Prop)(st:St):Prop:=
 match o.guard with
 |none=>one st
 |some (g,b)=>match ops[g]? with
  |some og=>match og.dst with
   |some t=>match acf st o,Nat.blt t st.n,st.tmps t with
    |true,true,.sv (.one (.bool x))=>cond x
     (match b with|true=>one (st.set t (.sv (.one (.bool true))))|false=>skip ((st.set t (.sv (.one (.bool true)))).put o.dst (.nS [])))
     (match b with|false=>one (st.set t (.sv (.one (.bool false))))|true=>skip ((st.set t (.sv (.one (.bool false)))).put o.dst (.nS [])))
    |true,true,.nS _=>skip (st.put o.dst (.nS []))
    |_,_,_=>False
   |none=>False
  |none=>False
def runs(Θ:jT)(Γ:lC)(own:Nat->Bool)(ops:List Oper)(K:St->Prop):List Oper->St->Prop
 |[],st=>K st
 |o::r,st=>guarded ops o (alT Θ Γ own o (runs Θ Γ own ops K r)) (runs Θ Γ own ops K r) st
theorem set_self{t:Nat}{v:AV}(h:st.tmps t=v):st.set t v=st:=by
 cases st with
 |mk n tm ob=>
  simp only[St.set,St.mk.injEq,azl,azE]
  funext x
  cases hb:Nat.beq x t with
  |true=>rw[awQ hb];exact h.symm
  |false=>rfl
theorem apR{G:kR}(hE:vw P G Θ Γ w0 M)(h:Rel w0 M T γ st a w)(o:Oper){neg:Bool}{R:Bool->Prop}(hc:aoI Θ st o.op=some (neg,R)){next:Act->World->Prop}{Q:Exit->Act->World->Prop}
 (hn:∀g:Bool,R g->next (a.put o.dst (.bool (afW neg g))) w):o.wp P a w next Q:=by
 unfold aoI at hc;split at hc
 case h_2=>cases hc
 next op t x _ hop=>
 unfold ar7 at hc;split at hc
 case h_2=>cases hc
 next awy ti hs ht=>
 split at hc
 case h_2=>cases hc
 next e hk=>
 split at hc
 case h_2=>cases hc
 next R' hR=>
 cases hc;have hu:P.underlying t=some (.slice e):=by have:=(hE.types t ti ht).und;rw[hk]at this;exact this.1
 have hop':op=.eql/\neg=false\/op=.neq/\neg=true:=by cases op<;>simp[apQ]at hs<;>simp[hs]
 have run:∀(ad:Option Addr)(n c:Nat),a.eval x=.slice ad n c->R ad.isNone->o.wp P a w next Q:=by
  intro ad n c hx hR;have hev:a.eval (.const (.slice none 0 0))=.slice none 0 0:=rfl;refine Oper.nH (u:=.bool (afW neg ad.isNone)) (w':=w) ?_ (hn _ hR);have hs:execOp a.eval o=(do pure (Next.value (← (do eqGuard op t x (.const (.slice none 0 0)) (a.eval x) (a.eval (.const (.slice none 0 0)));binOp op t (a.eval x) (a.eval (.const (.slice none 0 0))))))):=by simp[execOp,hop]
  rw[hs];refine U5 ?_;rw[hx,hev];rcases hop' with⟨rfl,rfl⟩|⟨rfl,rfl⟩
  .have hg:(eqGuard .eql t x (.const (.slice none 0 0)) (.slice ad n c) (.slice none 0 0)).run P w=.ok () w:=by simp[eqGuard]
   rw[axc,hg];exact Lib.run_eql_slice_nil w t e ad n c 0 0 hu
  .have hg:(eqGuard .neq t x (.const (.slice none 0 0)) (.slice ad n c) (.slice none 0 0)).run P w=.ok () w:=by simp[eqGuard]
   rw[axc,hg];exact run_neq_slice_nil_any w t e ad n c 0 0 hu
 unfold anQ at hR;split at hR
 .next ee rr l _ hx=>
  cases hR;have hv:=pR h hx;obtain⟨ad,c,hv1,_⟩:=als hv;refine run ad l.length c hv1 λhnone=>?_;have hv':jO w.heap _ (.sl ee rr) (a.eval x) l:=hv;rw[jO]at hv';rcases hv'.2 with⟨hl,_⟩|⟨b,off,cap,cs,t',fz,hv2,_⟩
  .rw[hl];rfl
  .rw[hv1]at hv2;cases hv2;cases hnone
 .next o' hx=>
  split at hR
  .next _ _ l _ ho=>
   cases hR;have hv:=pR h hx;obtain⟨ad,c,hv1,_⟩:=anK h hv ho;refine run ad l.length c hv1 λhnone=>?_;obtain⟨_,hv2,_⟩:=hv;obtain⟨xs,hown,hr,_⟩:=h.ah o' _ ho;obtain⟨_,hown⟩:=hown;have hv2:a.eval x=γ o':=hv2;rw[hv1]at hv2;rcases hown with⟨_,hl⟩|⟨g,cap,cur,hg,_⟩
   .omega
   .have hg:γ o'=_:=hg;rw[hg]at hv2;cases hv2;cases hnone
  .cases hR
 .next hx=>cases hR;have hv:a.eval x=.slice none 0 0:=pR h hx;exact run none 0 0 hv rfl
 .cases hR
theorem alU{G:kR}(hE:vw P G Θ Γ w0 M){own:Nat->Bool}{o:Oper}{K:St->Prop}(h:Rel w0 M T γ st a w)(hr:alT Θ Γ own o K st)
 {next:Act->World->Prop} {Q:Exit->Act->World->Prop} (hn:∀s γ' a' w',K s->Rel w0 M T γ' s a' w'->next a' w'):o.wp P a w next Q:=by
 unfold alT at hr;split at hr
 .next hd=>
  have aoJ:∀(s:St)(v:AV)(u:Value)(γ':Nat->Value)(w':World),Rel w0 M T γ' s a w'->bK (aA w0 T γ' s w') v u->K (land own (numOf st o) o v s)->next (a.put o.dst u) w':=by
   intro s v u γ' w' hR hv hK;have hsz:s.n=st.n:=by rw[← hR.size,h.size]
   have hput:Rel w0 M T γ' (s.put o.dst v) (a.put o.dst u) w':=by
    cases hdst:o.dst with
    |none=>exact hR
    |some d=>rw[acf,hdst]at hd;refine hR.set d ?_ v u hv;rw[hsz];simpa[azo]using hd
   unfold land at hK;split at hK
   .exact hn _ γ' _ _ hK (hput.fix _)
   .unfold anP at hK;split at hK
    .exact hn _ γ' _ _ hK (hput.freeze _)
    .exact hn _ γ' _ _ hK hput
  have main:∀(st1:St)(_:Rel w0 M T γ st1 a w)(_:st1.n=st.n)(p:Prop)(v:AV)(s:St),oper Θ Γ (numOf st o) st1 o.op=some (p,v,s)->p->K (land own (numOf st o) o v s)->o.wp P a w next Q:=by intro st1 h1 hn1 p v s hop hp hK;exact aoG hE h1 o hop hp λu γ' w' hR hv=>aoJ s v u γ' w' hR hv hK
  have atf:∀(st1:St)(_:Rel w0 M T γ st1 a w)(p:Prop)(ρ:Oq)(os:List (Option Nat))(s0:St),afN Γ st1 o.op=some (p,ρ,os,s0)->
   (p/\∀t,ρ.R t->match WC (numOf st o) s0 os (ρ.out t) (ρ.bD t)with|some (v,s)=>K (land own (numOf st o) o v s)|none=>False)->o.wp P a w next Q:=by
   intro st1 h1 p ρ os s0 hrel ⟨hp,hall⟩;refine apL hE h1 o (d:=numOf st o) hrel hp (λt ht=>?_) λt v s u γ' w' ht hs hR hv=>?_
   .have:=hall t ht;split at this
    .next v s hs=>exact⟨_,hs⟩
    .exact this.elim
   .have:=hall t ht;rw[hs]at this;exact aoJ s v u γ' w' hR hv this
  split at hr
  .next p ρ os s0 hrel=>
   unfold apP at hrel;split at hrel
   .next r hr0=>
    cases hrel;have hroom:Rel w0 M T γ (roomy (numOf st o) st) a w:=by
     unfold roomy;split
     .exact h.kill _
     .exact h
    exact atf _ hroom p ρ os s0 hr0 hr
   .exact atf _ h p ρ os s0 hrel hr
  split at hr
  .next neg R hnil=>exact apR hE h o hnil λg hg=>aoJ st (.sv (.one (.bool (afW neg g)))) (.bool (afW neg g)) γ w h rfl (hr g hg)
  cases ho:aoH Θ Γ (numOf st o) st o.op with
  |none=>rw[ho]at hr;exact hr.elim
  |some res=>
   obtain⟨p,v,s⟩:=res;rw[ho]at hr;have hq1:quiet st o.op=true->K (land own (numOf st o) o v s):=λe=>by simp only[e]at hr;exact hr
   have hq2:quiet st o.op=false->p/\K (land own (numOf st o) o v s):=λe=>by simp only[e]at hr;exact hr
   unfold aoH at ho;cases hop1:oper Θ Γ (numOf st o) st o.op with
   |some r=>
    rw[hop1]at ho;cases ho;cases hqq:quiet st o.op with
    |true=>exact main st h rfl p v s hop1 (afV hop1 hqq) (hq1 hqq)
    |false=>exact main st h rfl p v s hop1 (hq2 hqq).1 (hq2 hqq).2
   |none=>
    rw[hop1]at ho;cases hm:makes o.op with
    |false=>rw[hm]at ho;cases ho
    |true=>
     rw[hm]at ho;cases hqq:quiet st o.op with
     |true=>
      refine main _ (h.kill _) rfl p v s ho (afV ho ?_) (hq1 hqq);cases hop2:o.op<;>rw[hop2]at hm hqq<;>simp only[makes,ayq]at hm<;>first|rfl|(simp[quiet]at hqq;done)|skip
      rename_i c
      obtain⟨callee,args,qX⟩:=c;cases callee<;>simp only[ayq]at hm;exact hqq
     |false=>exact main _ (h.kill _) rfl p v s ho (hq2 hqq).1 (hq2 hqq).2
 .exact hr.elim
theorem Rel.asH(h:Rel w0 M T γ st a w)(d:Option Nat)(hd:∀t,d=some t->t<st.n):Rel w0 M T γ (st.put d (.nS [])) (a.put d undef) w:=by
 cases d with
 |none=>exact h
 |some d=>exact h.set d (hd d rfl) (.nS []) undef ⟨#[],rfl,trivial⟩
theorem akH{ops:Array Oper}{o:Oper}{one skip:St->Prop}(h:Rel w0 M T γ st a w)(hr:guarded ops.toList o one skip st){Y Z:Prop}
 (h1:one st->Y) (h2:skip (st.put o.dst (.nS []))->Z):
 (Region.wanted o (yielded ops a.tmps)=true/\Y)\/(Region.wanted o (yielded ops a.tmps)=false/\acf st o=true/\Z):=by
 unfold guarded at hr;split at hr
 .next hg=>exact .inl ⟨by simp[Region.wanted,hg],h1 hr⟩
 .next g b hg=>
  split at hr
  .next og hog=>
   split at hr
   .next t ht=>
    split at hr
    .next x hok hlt htm=>
     have hy:yielded ops a.tmps g=some x:=by
      have hr1:=h.tmps t;rw[htm]at hr1;have hv:a.tmps.getD t undef=.bool x:=hr1;have hsz:t<a.tmps.size:=by rw[h.size];simpa[azo]using hlt
      have ara:ops[g]? =some og:=by simpa using hog
      have hget:a.tmps[t]? =some (.bool x):=by rw[azO hsz];simp[Array.getD,hsz]at hv;rw[hv]
      simp[yielded,ara,ht,hget]
     cases x
     .simp only[ay4,set_self htm]at hr;cases b
      .exact .inl ⟨by simp[Region.wanted,hg,hy],h1 hr⟩
      .exact .inr ⟨by simp[Region.wanted,hg,hy],hok,h2 hr⟩
     .simp only[azF,set_self htm]at hr;cases b
      .exact .inr ⟨by simp[Region.wanted,hg,hy],hok,h2 hr⟩
      .exact .inl ⟨by simp[Region.wanted,hg,hy],h1 hr⟩
    .next xs hok hlt htm=>
     have hy:yielded ops a.tmps g=none:=by
      have hr1:=h.tmps t;rw[htm]at hr1;obtain⟨vs,hv,_⟩:=hr1;have hsz:t<a.tmps.size:=by rw[h.size];simpa[azo]using hlt
      have ara:ops[g]? =some og:=by simpa using hog
      have hget:a.tmps[t]? =some (.tuple vs):=by rw[azO hsz];simp[Array.getD,hsz]at hv;rw[hv]
      simp[yielded,ara,ht,hget]
     exact .inr ⟨by simp[Region.wanted,hg,hy],hok,h2 hr⟩
    .exact hr.elim
   .exact hr.elim
  .exact hr.elim
theorem O7{G:kR}(hE:vw P G Θ Γ w0 M){own:Nat->Bool}{ops:Array Oper}{K:St->Prop}{Q:Exit->Act->World->Prop}
 (hn:∀s γ' a' w',K s->Rel w0 M T γ' s a' w'->Q .normal a' w'):∀(l:List Oper)(st:St)(γ:Nat->Value)(a:Act)(w:World),
 Rel w0 M T γ st a w->runs Θ Γ own ops.toList K l st->wpList P ops Q l a w
 |[],st,γ,a,w,h,hr=>hn st γ a w hr h
 |o::r,st,γ,a,w,h,hr=>by
  unfold wpList;have:=akH (ops:=ops) (o:=o) (Y:=o.wp P a w (wpList P ops Q r) Q) (Z:=acf st o=true->wpList P ops Q r (a.put o.dst undef) w) h hr
   (λh1=>alU hE h h1 λs γ' a' w' hK hR=>O7 hE hn r s γ' a' w' hR hK)
   (λh2 hok=>O7 hE hn r _ γ _ w (h.asH o.dst (λt ht=>by rw[acf,ht]at hok;simpa[azo]using hok)) h2)
  rcases this with⟨e,hy⟩|⟨e,hok,hz⟩
  .rw[if_pos e];exact .inl hy
  .rw[if_neg (by rw[e];simp)];exact hz hok
theorem alV{G:kR}(hE:vw P G Θ Γ w0 M){own:Nat->Bool}{id:Nat}{ops:Array Oper}{K:St->Prop}{Q:Exit->Act->World->Prop}(h:Rel w0 M T γ st a w)
 (hr:runs Θ Γ own ops.toList K ops.toList st) (hn:∀s γ' a' w',K s->Rel w0 M T γ' s a' w'->Q .normal a' w'):(Code.region id ops false).wp P Q a w:=
 wp_region_list (O7 hE hn _ _ _ _ _ h hr)
inductive Pre where
 |still (o:Nat)
 |opens (t:Nat)
 |closes (t:Nat)
 |aoK (o:Nat)
def anR(st:St)(t o:Nat)(e:TypeId)(r:aK)(l:List r.den)(fr:Bool):St:=((st.kill (Nat.beq o ·)).add o (.arr e r l fr)).set t (.sv (.one (.ref o)))
def WO:List Pre->(St->Prop)->St->Prop
 |[],K,st=>K st
 |.still o::z,K,st=>WO z K (st.freeze (Nat.beq o ·))
 |.aoK o::z,K,st=>WO z K (st.fix o)
 |.opens t::z,K,st=>match st.tmps t with
  |.sv (.one (.ref o))=>match st.ah o with
   |some (.arr _ _ l _)=>0<l.length/\WO z K (st.set t (.win o 0 l.length))
   |_=>False
  |_=>False
 |.closes t::z,K,st=>match st.tmps t with
  |.win o lo n=>match Nat.beq lo 0,st.ah o with
   |true,some (.arr e r l fr)=>(0<l.length/\n<=l.length)/\WO z K (anR st t o e r (l.take n) fr)
   |_,_=>False
  |_=>False
theorem Rel.apS(h:Rel w0 M T γ st a w)(t:Nat)(v:AV)(hv:bK (aA w0 T γ st w) v (a.tmps.getD t undef)):Rel w0 M T γ (st.set t v) a w:=by
 refine⟨h.mT,h.defers,h.size,h.os,h.tape,h.output,h.grow,h.kept,λk=>?_,h.ah,h.lt,h.sep,h.pin⟩;show bK _ (match Nat.beq k t with|true=>v|false=>st.tmps k) (a.tmps.getD k undef);cases hb:Nat.beq k t with
 |false=>exact h.tmps k
 |true=>rw[awQ hb];exact hv
theorem Rel.close(h:Rel w0 M T γ st a w){t o n:Nat}{e:TypeId}{r:aK}{l:List r.den}{fr:Bool}(ht:st.tmps t=.win o 0 n)(ho:st.ah o=some (.arr e r l fr))(hl:0<l.length)(hn:n<=l.length):∃γ',Rel w0 M T γ' (anR st t o e r (l.take n) fr) a w:=by
 have htv:=h.tmps t;rw[ht]at htv;obtain⟨g,m,cap,e',r',l',fr',hx,hγ,⟨q,hq,hv,hle⟩⟩:=htv;have hx:st.ah o=some (.arr e' r' l' fr'):=hx;rw[ho]at hx;cases hx;have hγ:γ o=.slice (some ⟨g,0,none⟩) m cap:=hγ;obtain⟨xs,⟨h1,h2⟩,hpos,hfr,hrow⟩:=h.ah o _ ho;rcases h2 with⟨hnil,_⟩|⟨g',cap',cur,hg,hg0,hh,hlc,hmax,hsz,htake⟩
 .have nV:γ o=.slice none 0 0:=hnil;rw[hγ]at nV;cases nV
 .have nV:γ o=.slice (some ⟨g',0,none⟩) l.length cap':=hg;rw[hγ]at nV;simp at nV;obtain⟨rfl,rfl,rfl⟩:=nV;have hq0:q=0:=by
   rcases hq with e1|e1
   .rw[e1,ayI]
   .omega
  subst hq0;have hmul:n*r.len<=l.length*r.len:=axg _ hn;have hblk:blk (Value.slice (some ⟨g,0,none⟩) n cap)=blk (γ o):=by rw[hγ];rfl
  obtain⟨hR,_⟩:=h.replace (w':=w) (o:=o) (v':=.slice (some ⟨g,0,none⟩) n cap) (x':=.arr e r (l.take n) fr) (blk (γ o)) (.inr ⟨_,ho,rfl⟩) rfl rfl rfl (aw7 _) (λ_ _ _=>rfl)
   (λc hc=>⟨.inl (by rw[← hblk,hc]),(h.lt o _ c ho (by rw[← hblk,hc])).1⟩) (λ_ e=>by cases e) (λle=>by
     have hlen:(l.take n).length=n:=by rw[awT];omega
     refine⟨xs.take (n*r.len),?_,hpos,?_,λi z hi=>?_⟩
     .rw[hlen];show w.ownsRow 0 e r.len (upd γ o _ o) _ _;rw[upd_same];refine⟨by rw[awT,h1];omega,.inr ⟨g,cap,cur,rfl,axp _,hh,by omega,hmax,hsz,?_⟩⟩;rw[← htake,ayy,ayt hmul]
     .intro c hc hf;have hc:blk (upd γ o (Value.slice (some ⟨g,0,none⟩) n cap) o)=some c:=hc;rw[upd_same,hblk]at hc;exact hfr c hc hf
     .have hil:i<n:=by rw[← hlen];exact(aw3.1 hi).1
      have hmul:i*r.len+r.len<=n*r.len:=by have:(i+1)*r.len<=n*r.len:=axg _ hil;rw[axw]at this;simpa using this
      rw[axa,if_pos hil]at hi;rw[iK _ _ _ _ hmul];exact bQ.mono (λc hc=>le.dJ _ c hc) _ _ z (hrow i z hi))
  refine⟨_,hR.apS t _ ?_⟩;have hv':a.tmps.getD t undef=.slice (some ⟨g,0,none⟩) n cap:=hv;rw[hv'];exact⟨⟨e,r,_,_,add_same _ _ _⟩,(upd_same _ _ _).symm,rfl⟩
theorem G7{K:St->Prop}:∀(z:List Pre)(st:St)(γ:Nat->Value),Rel w0 M T γ st a w->WO z K st->∃s γ',Rel w0 M T γ' s a w/\K s
 |[],st,γ,h,hk=>⟨st,γ,h,hk⟩
 |.still o::z,st,γ,h,hk=>G7 z _ γ (h.freeze _) hk
 |.aoK o::z,st,γ,h,hk=>G7 z _ γ (h.fix o) hk
 |.opens t::z,st,γ,h,hk=>by
  rw[WO]at hk;split at hk
  .next o ht=>
   split at hk
   .next e r l fr ho=>
    refine G7 z _ γ (h.apS t _ ?_) hk.2;have htv:=h.tmps t;rw[ht]at htv;obtain⟨_,hv,_⟩:=htv;obtain⟨xs,⟨_,h2⟩,_⟩:=h.ah o _ ho;rcases h2 with⟨_,h4⟩|⟨g,cap,cur,h3,_,_,h4,h5,_⟩
    .have:=hk.1;omega
    .have hv:a.tmps.getD t undef=γ o:=hv;have h3:γ o=.slice (some ⟨g,0,none⟩) l.length cap:=h3;refine⟨g,l.length,cap,e,r,l,fr,ho,h3,0,.inl (by rw[ayI]),by rw[hv,h3];rfl,by omega⟩
   .exact hk.elim
  .exact hk.elim
 |.closes t::z,st,γ,h,hk=>by
  rw[WO]at hk;split at hk
  .next o lo n ht=>
   split at hk
   .next e r l fr hb ho=>have hlo:=awQ hb;subst hlo;obtain⟨γ',hR⟩:=h.close ht ho hk.1.1 hk.1.2;exact G7 z _ γ' hR hk.2
   .exact hk.elim
  .exact hk.elim
inductive iG where
 |int (k:IntKind)
 |bool
 |str
 |nil
 |sl (e:TypeId) (r:aK) (fr:Bool)
 |ref (o:Nat)
 |junk
@[reducible] def iG.den:iG->Type
  |.int _=>Int
  |.bool=>Bool
  |.str=>Bytes
  |.sl _ r _=>List r.den
  |.nil|.ref _|.junk=>Unit
def iG.cell:(c:iG)->c.den->Cell
 |.int k,n=>.int k n
 |.bool,b=>.bool b
 |.str,s=>.str s
 |.sl e r fr,l=>.sl e r l fr
 |.nil,_=>.nil
 |.ref o,_=>.ref o
 |.junk,_=>.junk
def Qq:Bool->Bool->Bool
 |true,b=>b
 |false,_=>true
def iG.read:(c:iG)->Cell->Option c.den
 |.int k,.int l n=>match decide (k=l)with|true=>some n|false=>none
 |.bool,.bool b=>some b
 |.str,.str s=>some s
 |.sl e r fr,.sl f s l gr=>match Nat.beq e f&&Qq fr gr with
  |true=>if h:s.beq r=true then some (xB h l)else none
  |false=>none
 |.sl _ _ _,.nil=>some []
 |.nil,.nil=>some ()
 |.ref o,.ref p=>match Nat.beq o p with|true=>some ()|false=>none
 |.junk,_=>some ()
 |_,_=>none
theorem atg(X:V)(e:TypeId)(r:aK)(fr:Bool):bJ X (.sl e r [] fr) (.slice none 0 0):=by refine⟨by simp,.inl ⟨rfl,none,0,rfl⟩⟩
theorem iG.weak{X:V}:∀(c:iG)(x:Cell)(d:c.den)(v:Value),c.read x=some d->bJ X x v->bJ X (c.cell d) v:=by
 intro c x d v hr hv;cases c<;>cases x<;>simp only[iG.read,reduceCtorEq,Option.some.injEq]at hr<;>try (subst hr;exact hv)
 case int.int k l n=>
  split at hr
  .next e=>cases hr;rw[show k=l by simpa using e];exact hv
  .cases hr
 case sl.sl e r fr f s l gr=>
  split at hr
  .next hb=>
   split at hr
   .next hs=>
    cases hr;rw[awP]at hb;have he:=awQ hb.1;subst he;have hsr:=aK.eq_of_beq s r hs;subst hsr;have hv':jO X.w.heap (X.dJ gr) (.sl e s) v l:=hv;refine jO.mono (λb hb'=>⟨⟨hb'.1,λhfr=>hb'.2 ?_⟩,rfl⟩) (.sl e s) v l hv';subst hfr;cases gr
    .simp[Qq]at hb
    .rfl
   .cases hr
  .cases hr
 case sl.nil e r fr=>subst hr;rw[show v=_ from hv];exact atg X e r fr
 case nil.nil=>exact hv
 case ref.ref o p=>
  split at hr
  .next hb=>rw[iG.cell,awQ hb];exact hv
  .cases hr
 all_goals exact bJ.one _ _ hv
@[reducible] def mZ:List iG->Type
  |[]=>Unit
  |c::r=>c.den×mZ r
def iT:(l:List iG)->mZ l->List Cell
 |[],_=>[]
 |c::r,x=>c.cell x.1::iT r x.2
def kV:(l:List iG)->List Cell->Option (mZ l)
 |[],[]=>some ()
 |c::r,x::xs=>match c.read x,kV r xs with
  |some a,some b=>some (a,b)
  |_,_=>none
 |_,_=>none
theorem IA{X:V}:∀(l:List iG)(xs:List Cell)(d:mZ l)(vs:List Value),kV l xs=some d->ak X xs vs->ak X (iT l d) vs
 |[],[],_,_,_,hv=>hv
 |c::r,x::xs,d,vs,hr,hv=>by
  rw[kV]at hr;split at hr
  .next a b h1 h2=>
   cases hr;cases vs with
   |nil=>cases hv
   |cons v vs=>exact⟨iG.weak c x a v h1 hv.1,IA r xs b vs h2 hv.2⟩
  .cases hr
 |[],_::_,_,_,hr,_=>by simp[kV]at hr
 |_::_,[],_,_,hr,_=>by simp[kV]at hr
@[reducible] def E8:List (List iG)->Type
  |[]=>Unit
  |l::r=>mZ l×E8 r
def NP:(l:List (List iG))->E8 l->List (List Cell)
 |[],_=>[]
 |c::r,x=>iT c x.1::NP r x.2
def Jv:(l:List (List iG))->List (List Cell)->Option (E8 l)
 |[],[]=>some ()
 |c::r,x::xs=>match kV c x,Jv r xs with
  |some a,some b=>some (a,b)
  |_,_=>none
 |_,_=>none
theorem ajY{X:V}{l:List iG}{xs:List Cell}{d:mZ l}{b:Nat}(hr:kV l xs=some d)(h:iJ X xs b):iJ X (iT l d) b:=by obtain⟨arr,t,fz,hf,hh,hc⟩:=h;exact⟨arr,t,fz,hf,hh,IA _ _ _ _ hr hc⟩
theorem aah{X:V}:∀(l:List (List iG))(xs:List (List Cell))(d:E8 l)(us:List Value),Jv l xs=some d->fZ X xs us->fZ X (NP l d) us
 |[],[],_,us,_,h=>h
 |c::r,x::xs,d,us,hr,h=>by
  rw[Jv]at hr;split at hr
  .next a b h1 h2=>
   cases hr;cases us with
   |nil=>cases h
   |cons u us=>obtain⟨⟨b',hu,hk⟩,h3⟩:=h;exact⟨⟨b',hu,ajY h1 hk⟩,aah r xs b us h2 h3⟩
  .cases hr
 |[],_::_,_,_,hr,_=>by simp[Jv]at hr
 |_::_,[],_,_,hr,_=>by simp[Jv]at hr
inductive L9 where
 |one (c:iG)
 |agg (l:List iG)
 |bC (o off:Nat)
 |cO (l:List iG) (off:Nat)
 |fn (f:FuncId) (l:List (List iG))
@[reducible] def L9.den:L9->Type
  |.one c=>c.den
  |.agg l=>mZ l
  |.bC _ _=>Unit
  |.cO l _=>mZ l
  |.fn _ l=>E8 l
def L9.val:(s:L9)->s.den->AV
 |.one c,x=>.sv (.one (c.cell x))
 |.agg l,x=>.sv (.agg (iT l x))
 |.bC o off,_=>.bC o off
 |.cO l off,x=>.cO (iT l x) off
 |.fn f l,x=>.fn f (NP l x)
def L9.read:(s:L9)->AV->Option s.den
 |.one c,.sv (.one x)=>c.read x
 |.agg l,.sv (.agg xs)=>kV l xs
 |.bC o off,.bC p k=>match Nat.beq o p&&Nat.beq off k with|true=>some ()|false=>none
 |.cO l off,.cO xs k=>match Nat.beq off k with|true=>kV l xs|false=>none
 |.fn f l,.fn g xs=>match Nat.beq f g with|true=>Jv l xs|false=>none
 |_,_=>none
theorem L9.weak{X:V}(s:L9)(x:AV)(d:s.den)(v:Value)(hr:s.read x=some d)(hv:bK X x v):bK X (s.val d) v:=by
 unfold L9.read at hr;split at hr
 .exact iG.weak _ _ _ _ hr hv
 .obtain⟨vs,e,h⟩:=hv;exact⟨vs,e,IA _ _ _ _ hr h⟩
 .split at hr
  .next hb=>rw[awP]at hb;rw[L9.val,awQ hb.1,awQ hb.2];exact hv
  .cases hr
 .split at hr
  .next hb=>obtain⟨b,e,arr,t,fz,hf,hh,hc⟩:=hv;rw[L9.val,awQ hb];exact⟨b,e,arr,t,fz,hf,hh,IA _ _ _ _ hr hc⟩
  .cases hr
 .split at hr
  .next hb=>obtain⟨us,e,hk⟩:=hv;rw[L9.val,awQ hb];exact⟨us,e,aah _ _ _ _ hr hk⟩
  .cases hr
 .cases hr
inductive OM where
 |var (l:List iG)
 |arr (e:TypeId) (r:aK) (fr:Bool)
@[reducible] def OM.den:OM->Type
  |.var l=>mZ l
  |.arr _ r _=>List r.den
def OM.obj:(s:OM)->s.den->aX
 |.var l,x=>.var (iT l x)
 |.arr e r fr,l=>.arr e r l fr
def OM.read:(s:OM)->aX->Option s.den
 |.var l,.var xs=>kV l xs
 |.arr e r fr,.arr f s l gr=>match Nat.beq e f&&Qq fr gr with
  |true=>if h:s.beq r=true then some (xB h l)else none
  |false=>none
 |_,_=>none
def MP(x x':aX):Prop:=
 (∃cs cs',x=.var cs/\x'=.var cs'/\∀(X:V) vs,ak X cs vs->ak X cs' vs)\/∃e r l fr gr,x=.arr e r l gr/\x'=.arr e r l fr/\(fr=true->gr=true)
theorem OM.weak(s:OM)(x:aX)(d:s.den)(hr:s.read x=some d):MP x (s.obj d):=by
 unfold OM.read at hr;split at hr
 .exact .inl ⟨_,_,rfl,rfl,λX vs h=>IA _ _ _ _ hr h⟩
 .next e r fr f s l gr=>
  split at hr
  .next hb=>
   split at hr
   .next hs=>
    cases hr;rw[awP]at hb;have he:=awQ hb.1;have hg:fr=true->gr=true:=λe=>by have hb2:=hb.2;rw[e]at hb2;exact hb2
    subst he;have hsr:=aK.eq_of_beq s r hs;subst hsr;exact .inr ⟨e,s,l,fr,gr,rfl,rfl,hg⟩
   .cases hr
  .cases hr
 .cases hr
structure Covers(J st:St):Prop where
 n:J.n=st.n
 tmps:∀t(X:V) v,bK X (st.tmps t) v->bK X (J.tmps t) v
 ah:∀o,(J.ah o=none/\st.ah o=none)\/∃x x',st.ah o=some x/\J.ah o=some x'/\MP x x'
theorem Rel.covers{J:St}(h:Rel w0 M T γ st a w)(hc:Covers J st):Rel w0 M T γ J a w:=by
 have key:∀o x',J.ah o=some x'->∃x,st.ah o=some x/\MP x x':=by
  intro o x' hx';rcases hc.ah o with⟨e,_⟩|⟨x,y,hx,hy,hw⟩
  .rw[e]at hx';cases hx'
  .rw[hy]at hx';cases hx';exact⟨x,hx,hw⟩
 have yek:∀o x,st.ah o=some x->∃x',J.ah o=some x'/\MP x x':=by
  intro o x hx;rcases hc.ah o with⟨_,e⟩|⟨y,x',hy,hx',hw⟩
  .rw[e]at hx;cases hx
  .rw[hy]at hx;cases hx;exact⟨x',hx',hw⟩
 have hle:(aA w0 T γ st w).le (aA w0 T γ J w):=by
  refine⟨aw7 _,λb hb=>⟨⟨hb.1,hb.2.1,λo x hx=>?_⟩,rfl⟩,λo cs hx=>⟨?_,rfl⟩,λo e r l fr hx=>⟨?_,rfl⟩⟩
  .obtain⟨y,hy,_⟩:=key o x hx;exact hb.2.2 o y hy
  .obtain⟨x',hx',hw⟩:=yek o _ hx;rcases hw with⟨cs1,cs2,e1,e2,_⟩|⟨e,r,l,fr,gr,e1,e2,_⟩
   .exact⟨cs2,hx'.trans (by rw[e2])⟩
   .cases e1
  .obtain⟨x',hx',hw⟩:=yek o _ hx;rcases hw with⟨cs1,cs2,e1,e2,_⟩|⟨e,r,l,fr,gr,e1,e2,_⟩
   .cases e1
   .cases e1;exact⟨l,fr,hx'.trans (by rw[e2])⟩
 refine⟨h.mT,h.defers,h.size.trans hc.n.symm,h.os,h.tape,h.output,h.grow,h.kept,λt=>hc.tmps t _ _ (bK.mono hle _ _ (h.tmps t)),λo x' hx'=>?_,λo x' b hx' hb=>?_,λo x' p y' b hx' hy' hop hb=>?_,λo v cs hN hx'=>?_⟩
 .obtain⟨x,hx,hw⟩:=key o x' hx';have ho:=h.ah o x hx;rcases hw with⟨cs1,cs2,e1,e2,hcs⟩|⟨e,r,l,fr,gr,e1,e2,hfg⟩
  .subst e1 e2;obtain⟨b,arr,t,g1,g2,g3⟩:=ho;exact⟨b,arr,t,g1,g2,hcs _ _ (ak.mono hle _ _ g3)⟩
  .subst e1 e2;obtain⟨xs,g1,g2,g3,g4⟩:=ho;exact⟨xs,g1,g2,λb hb hf=>g3 b hb (hfg hf),λi x hi=>bQ.mono (λb hb=>hle.dJ fr b ⟨hb.1,λe=>hb.2 (hfg e)⟩) r _ x (g4 i x hi)⟩
 .obtain⟨x,hx,_⟩:=key o x' hx';exact h.lt o x b hx hb
 .obtain⟨x,hx,_⟩:=key o x' hx';obtain⟨y,hy,_⟩:=key p y' hy';exact h.sep o x p y b hx hy hop hb
 .obtain⟨x,hx,hw⟩:=key o _ hx';rcases hw with⟨cs1,cs2,e1,e2,_⟩|⟨e,r,l,fr,gr,e1,e2,_⟩
  .subst e1;exact h.pin o v cs1 hN hx
  .cases e2
structure Shape where
 tmps:List (Nat×L9)
 ah:List (Nat×OM)
@[reducible] def afX:List (Nat×L9)->Type
  |[]=>Unit
  |x::r=>x.2.den×afX r
@[reducible] def afY:List (Nat×OM)->Type
  |[]=>Unit
  |x::r=>x.2.den×afY r
@[reducible] def Shape.den (s:Shape):Type:=afX s.tmps×afY s.ah
def aai:(l:List (Nat×L9))->afX l->(Nat->AV)->Nat->AV
 |[],_,f=>f
 |s::r,x,f=>λi=>match Nat.beq i s.1 with|true=>s.2.val x.1|false=>aai r x.2 f i
def NQ:(l:List (Nat×OM))->afY l->(Nat->Option aX)->Nat->Option aX
 |[],_,f=>f
 |s::r,x,f=>λi=>match Nat.beq i s.1 with|true=>some (s.2.obj x.1)|false=>NQ r x.2 f i
def afZ(st:St):(l:List (Nat×L9))->Option (afX l)
 |[]=>some ()
 |s::r=>match s.2.read (st.tmps s.1),afZ st r with
  |some a,some b=>some (a,b)
  |_,_=>none
def af0(st:St):(l:List (Nat×OM))->Option (afY l)
 |[]=>some ()
 |s::r=>match st.ah s.1,af0 st r with
  |some x,some b=>match s.2.read x with
   |some a=>some (a,b)
   |none=>none
  |_,_=>none
def bH:List Nat->Nat->Bool
 |[],_=>false
 |x::r,o=>match Nat.beq o x with|true=>true|false=>bH r o
def names:List (Nat×OM)->List Nat
 |[]=>[]
 |x::r=>x.1::names r
def joint(n:Nat)(c v:Shape)(x:c.den)(y:v.den):St:=
 {n:=n,tmps:=aai c.tmps x.1 (aai v.tmps y.1 (λ_=>.undef)),ah:=NQ c.ah x.2 (NQ v.ah y.2 (λ_=>none))}
def only(c v:Shape)(st:St):St:=st.freeze λo=>!(bH (names c.ah) o||bH (names v.ah) o)
def Shape.read(s:Shape)(st:St):Option s.den:=
 match afZ st s.tmps,af0 st s.ah with
 |some a,some b=>some (a,b)
 |_,_=>none
theorem Uh{X:V}(t:Nat)(u:Value)(hu:bK X (st.tmps t) u):∀(l:List (Nat×L9))(x:afX l)(f:Nat->AV),afZ st l=some x->bK X (f t) u->bK X (aai l x f t) u
 |[],_,_,_,hf=>hf
 |s::r,x,f,hr,hf=>by
  rw[afZ]at hr;split at hr
  .next a b h1 h2=>
   cases hr;simp only[aai];cases hb:Nat.beq t s.1 with
   |true=>
    rw[awQ hb]at hu;exact L9.weak s.2 _ a u h1 hu
   |false=>exact Uh t u hu r b f h2 hf
  .cases hr
theorem Nv(o:Nat):∀(l:List (Nat×OM))(x:afY l)(f:Nat->Option aX),af0 st l=some x->
 (f o=none\/∃y y',st.ah o=some y/\f o=some y'/\MP y y')->
 ((NQ l x f o=none/\bH (names l) o=false/\f o=none)\/∃y y',st.ah o=some y/\NQ l x f o=some y'/\MP y y')
 |[],_,f,_,hf=>by
  rcases hf with e|h
  .exact .inl ⟨e,rfl,e⟩
  .exact .inr h
 |s::r,x,f,hr,hf=>by
  rw[af0]at hr;split at hr
  .next y b h1 h2=>
   split at hr
   .next a h3=>
    cases hr;simp only[NQ,names,bH];cases hb:Nat.beq o s.1 with
    |true=>
     rw[awQ hb];exact .inr ⟨y,_,h1,rfl,OM.weak s.2 y a h3⟩
    |false=>exact Nv o r b f h2 hf
   .cases hr
  .cases hr
theorem alW{c v:Shape}{x:c.den}{y:v.den}(hc:c.read (only c v st)=some x)(hv:v.read (only c v st)=some y):Covers (joint st.n c v x y) (only c v st):=by
 unfold Shape.read at hc hv;split at hc
 .next a b h1 h2=>
  cases hc;split at hv
  .next a' b' h3 h4=>
   cases hv;refine⟨rfl,λt X u hu=>Uh t u hu _ _ _ h1 (Uh t u hu _ _ _ h3 trivial),λo=>?_⟩;rcases Nv o v.ah b' (λ_=>none) h4 (.inl rfl)with⟨e1,e2,_⟩|h
   .rcases Nv o c.ah b (NQ v.ah b' (λ_=>none)) h2 (.inl e1)with⟨g1,g2,_⟩|h
    .refine .inl ⟨g1,?_⟩;simp[only,St.freeze,e2,g2]
    .exact .inr h
   .rcases Nv o c.ah b (NQ v.ah b' (λ_=>none)) h2 (.inr h)with⟨g1,g2,g3⟩|h'
    .obtain⟨y,y',_,h5,_⟩:=h;rw[h5]at g3;cases g3
    .exact .inr h'
  .cases hv
 .cases hc
theorem Rel.joint(h:Rel w0 M T γ st a w){c v:Shape}{x:c.den}{y:v.den}(hc:c.read (only c v st)=some x)(hv:v.read (only c v st)=some y):
 Rel w0 M T γ (joint st.n c v x y) a w:=(h.freeze _).covers (alW hc hv)
end Go.Fw
namespace Go.Fw
open Go
variable {P:Program} {w0:World} {M:Nat->Prop} {T:Ext} {γ γ':Nat->Value} {st:St} {a:Act} {w w':World}
def Cell.ren(f:Nat->Nat):Cell->Cell
 |.ref q=>.ref (f q)
 |c=>c
def SV.ren(f:Nat->Nat):SV->SV
 |.one c=>.one (c.ren f)
 |.agg cs=>.agg (cs.map (Cell.ren f))
def AV.ren(f:Nat->Nat):AV->AV
 |.undef=>.undef
 |.sv v=>.sv (v.ren f)
 |.nS vs=>.nS (vs.map (SV.ren f))
 |.bC o off=>.bC (f o) off
 |.oZ o i off=>.oZ (f o) i off
 |.win o i off=>.win (f o) i off
 |.rC r x off fr=>.rC r x off fr
 |.cO cs off=>.cO (cs.map (Cell.ren f)) off
 |.fn g caps=>.fn g (caps.map (List.map (Cell.ren f)))
def aX.ren(f:Nat->Nat):aX->aX
 |.var cs=>.var (cs.map (Cell.ren f))
 |.arr e r l fr=>.arr e r l fr
def Eh(o p q:Nat):Nat:=match Nat.beq q o with|true=>p|false=>q
def St.ren(st:St)(o p:Nat):St:=
 {n:=st.n,tmps:=λt=>(st.tmps t).ren (Eh o p),ah:=λq=>match Nat.beq q p with
  |true=>(st.ah o).map (aX.ren (Eh o p))
  |false=>match Nat.beq q o with|true=>none|false=>(st.ah q).map (aX.ren (Eh o p))}
structure V.um(f:Nat->Nat)(X Y:V):Prop where
 n0:Y.n0<=X.n0
 foot:∀b,X.foot b->Y.foot b/\Y.w.heap[b]? =X.w.heap[b]?
 var:∀o cs,X.ah o=some (.var cs)->(∃cs',Y.ah (f o)=some (.var cs'))/\Y.γ (f o)=X.γ o
 arr:∀o e r l fr,X.ah o=some (.arr e r l fr)->(∃l' fr',Y.ah (f o)=some (.arr e r l' fr'))/\Y.γ (f o)=X.γ o
variable {f:Nat->Nat}
theorem V.um.dJ{X Y:V}(h:X.um f Y)(fr:Bool)(b:Nat)(hb:X.dJ fr b):Y.dJ fr b/\Y.w.heap[b]? =X.w.heap[b]? :=
 ⟨⟨(h.foot b hb.1).1,λe=>aw2 h.n0 (hb.2 e)⟩,(h.foot b hb.1).2⟩
theorem bJ.um{X Y:V}(h:X.um f Y):∀(c:Cell)(v:Value),bJ X c v->bJ Y (c.ren f) v
 |.int _ _,_,H|.bool _,_,H|.str _,_,H|.nil,_,H|.junk,_,H=>H
 |.sl e r l fr,v,H=>jO.mono (λb hb=>h.dJ fr b hb) (.sl e r) v l H
 |.ref o,v,⟨⟨e,r,l,fr,hx⟩,hv,h1⟩=>by obtain⟨⟨l',fr',hy⟩,hγ⟩:=h.arr o e r l fr hx;exact⟨⟨e,r,l',fr',hy⟩,hv.trans hγ.symm,h1⟩
theorem ak.um{X Y:V}(h:X.um f Y):∀(cs:List Cell)(vs:List Value),ak X cs vs->ak Y (cs.map (Cell.ren f)) vs
 |[],[],H=>H
 |c::cs,v::vs,⟨h1,h2⟩=>⟨bJ.um h c v h1,ak.um h cs vs h2⟩
 |[],_::_,H|_::_,[],H=>by cases H
theorem eU.um{X Y:V}(h:X.um f Y):∀(c:SV)(v:Value),eU X c v->eU Y (c.ren f) v
 |.one c,v,H=>bJ.um h c v H
 |.agg cs,_,⟨vs,hv,H⟩=>⟨vs,hv,ak.um h cs _ H⟩
theorem eX.um{X Y:V}(h:X.um f Y):∀(cs:List SV)(vs:List Value),eX X cs vs->eX Y (cs.map (SV.ren f)) vs
 |[],[],H=>H
 |c::cs,v::vs,⟨h1,h2⟩=>⟨eU.um h c v h1,eX.um h cs vs h2⟩
 |[],_::_,H|_::_,[],H=>by cases H
theorem iJ.um{X Y:V}(h:X.um f Y){cs:List Cell}{b:Nat}(H:iJ X cs b):iJ Y (cs.map (Cell.ren f)) b:=by obtain⟨arr,t,fz,hb,hh,hr⟩:=H;exact⟨arr,t,fz,(h.foot b hb).1,(h.foot b hb).2.trans hh,ak.um h cs _ hr⟩
theorem fZ.um{X Y:V}(h:X.um f Y):∀(l:List (List Cell))(us:List Value),fZ X l us->fZ Y (l.map (List.map (Cell.ren f))) us
 |[],[],H=>H
 |cs::l,u::us,⟨⟨b,hu,hk⟩,h2⟩=>⟨⟨b,hu,iJ.um h hk⟩,fZ.um h l us h2⟩
 |[],_::_,H|_::_,[],H=>by cases H
theorem bK.um{X Y:V}(h:X.um f Y):∀(c:AV)(v:Value),bK X c v->bK Y (c.ren f) v
 |.undef,_,_=>trivial
 |.sv x,v,H=>eU.um h x v H
 |.nS xs,_,⟨vs,hv,H⟩=>⟨vs,hv,eX.um h xs _ H⟩
 |.bC o off,v,⟨b,cs,hx,hγ,hv⟩=>by
  obtain⟨⟨cs',hy⟩,he⟩:=h.var o cs hx;exact⟨b,cs',hy,he.trans hγ,hv⟩
 |.oZ o i off,v,⟨b,n,cap,e,r,l,fr,hx,hγ,hv⟩=>by
  obtain⟨⟨l',fr',hy⟩,he⟩:=h.arr o e r l fr hx;exact⟨b,n,cap,e,r,l',fr',hy,he.trans hγ,hv⟩
 |.win o i off,v,⟨b,n,cap,e,r,l,fr,hx,hγ,hv⟩=>by
  obtain⟨⟨l',fr',hy⟩,he⟩:=h.arr o e r l fr hx;exact⟨b,n,cap,e,r,l',fr',hy,he.trans hγ,hv⟩
 |.rC r x off fr,v,⟨b,base,cs,t,fz,hv,hf,hb,hr⟩=>
  ⟨b,base,cs,t,fz,hv,(h.dJ fr b hf).1,(h.dJ fr b hf).2.trans hb,bQ.mono (λb hb=>h.dJ fr b hb) r _ x hr⟩
 |.cO cs off,v,⟨b,hv,hk⟩=>⟨b,hv,iJ.um h hk⟩
 |.fn g caps,v,⟨us,hv,hk⟩=>⟨us,hv,fZ.um h caps _ hk⟩
theorem dh.um{X Y:V}(h:X.um f Y)(o p:Nat):∀(x:aX),(∀b,blk (X.γ o)=some b->Y.w.heap[b]? =X.w.heap[b]?)->Y.γ p=X.γ o->dh X o x->dh Y p (x.ren f)
 |.var cs,hb,hγ,⟨b,arr,t,e,hh,hr⟩=>⟨b,arr,t,hγ.trans e,(hb b (by rw[e];rfl)).trans hh,ak.um h cs _ hr⟩
 |.arr e r l fr,hb,hγ,⟨xs,hown,hr,hf,hx⟩=>by
  refine⟨xs,?_,hr,λb hb' hfr=>aw2 h.n0 (hf b (hγ▸hb') hfr),λi x hi=>bQ.mono (λb hb=>h.dJ fr b hb) r _ x (hx i x hi)⟩;obtain⟨h1,h2⟩:=hown;refine⟨h1,?_⟩;rcases h2 with h2|⟨g,cap,cur,hv,hg,hh,hrest⟩
  .exact .inl ⟨hγ.trans h2.1,h2.2⟩
  .exact .inr ⟨g,cap,cur,hγ.trans hv,hg,(hb g (by rw[hv];rfl)).trans hh,hrest⟩
theorem anS(o p:Nat):Eh o p o=p:=by unfold Eh;rw[axB]
theorem WQ{o p q:Nat}(h:q≠o):Eh o p q=q:=by unfold Eh;rw[EI h]
theorem Rel.ren(h:Rel w0 M T γ st a w){o p:Nat}{e:TypeId}{r:aK}{l:List r.den}{fr:Bool}(ho:st.ah o=some (.arr e r l fr))(hp:st.ah p=none):
 Rel w0 M T (λq=>match Nat.beq q p with|true=>γ o|false=>γ q) (st.ren o p) a w:=by
 have hop:o≠p:=λe=>by rw[e,hp]at ho;cases ho
 have old:∀q x,(st.ren o p).ah q=some x->∃q0 x0,st.ah q0=some x0/\x=x0.ren (Eh o p)/\q=Eh o p q0/\(match Nat.beq q p with|true=>γ o|false=>γ q)=γ q0:=by
  intro q x hx;simp only[St.ren]at hx;cases hqp:Nat.beq q p with
  |true=>
   rw[hqp]at hx;simp only[ho,axR,Option.some.injEq]at hx;exact⟨o,_,ho,hx.symm,by rw[anS];exact awQ hqp,rfl⟩
  |false=>
   rw[hqp]at hx;cases hqo:Nat.beq q o with
   |true=>rw[hqo]at hx;cases hx
   |false=>
    rw[hqo]at hx;cases hs:st.ah q with
    |none=>rw[hs]at hx;cases hx
    |some x0=>rw[hs]at hx;cases hx;exact⟨q,x0,hs,rfl,(WQ λe=>by rw[e,axB]at hqo;cases hqo).symm,rfl⟩
 have new:∀q x,st.ah q=some x->(st.ren o p).ah (Eh o p q)=some (x.ren (Eh o p))/\(match Nat.beq (Eh o p q) p with|true=>γ o|false=>γ (Eh o p q))=γ q:=by
  intro q x hx;by_cases hqo:q=o
  .subst hqo;rw[anS];refine⟨?_,by rw[axB]⟩;simp only[St.ren,axB,hx,axR]
  .have hqp:q≠p:=λe=>by rw[e,hp]at hx;cases hx
   rw[WQ hqo,EI hqp];refine⟨?_,rfl⟩;simp only[St.ren,EI hqp,EI hqo,hx,axR]
 have le:V.um (Eh o p) (aA w0 T γ st w) ⟨w,w0.heap.size,T,λq=>match Nat.beq q p with|true=>γ o|false=>γ q,(st.ren o p).ah⟩:=by
  refine⟨aw7 _,λb hb=>⟨⟨hb.1,hb.2.1,λq x hx=>?_⟩,rfl⟩,λq cs hx=>?_,λq e' r' l' fr' hx=>?_⟩
  .obtain⟨q0,x0,h1,_,_,h4⟩:=old q x hx;show blk (match Nat.beq q p with|true=>γ o|false=>γ q)≠some b;rw[h4];exact hb.2.2 q0 x0 h1
  .obtain⟨h1,h2⟩:=new q _ hx;exact⟨⟨_,h1⟩,h2⟩
  .obtain⟨h1,h2⟩:=new q _ hx;exact⟨⟨_,_,h1⟩,h2⟩
 refine⟨h.mT,h.defers,h.size,h.os,h.tape,h.output,h.grow,h.kept,λt=>bK.um le _ _ (h.tmps t),λq x hx=>?_,λq x b hx hb=>?_,λq x q' y b hx hy hne hb=>?_,λq v cs hN hx=>?_⟩
 .obtain⟨q0,x0,h1,rfl,h3,h4⟩:=old q x hx;exact dh.um le q0 q x0 (λ_ _=>rfl) h4 (h.ah q0 x0 h1)
 .obtain⟨q0,x0,h1,_,_,h4⟩:=old q x hx;exact h.lt q0 x0 b h1 (h4▸hb)
 .obtain⟨q0,x0,h1,_,h3,h4⟩:=old q x hx;obtain⟨q1,x1,g1,_,g3,g4⟩:=old q' y hy;rw[h4]at hb;rw[g4];refine h.sep q0 x0 q1 x1 b h1 g1 (λe=>hne ?_) hb;rw[h3,g3,e]
 .obtain⟨q0,x0,h1,h2,h3,h4⟩:=old q _ hx;cases x0 with
  |arr _ _ _ _=>cases h2
  |var cs0=>
   have:q0≠o:=λe=>by rw[e,ho]at h1;cases h1
   rw[WQ this]at h3;subst h3;rw[h4];exact h.pin q v cs0 hN h1
theorem Rel.at1(h:Rel w0 M T γ st a w){o:Nat}{cs cs':List Cell}(ho:st.ah o=some (.var cs))(hc:∀vs,ak (aA w0 T γ st w) cs vs->ak (aA w0 T γ st w) cs' vs):
 Rel w0 M T γ (st.add o (.var cs')) a w:=by
 have hother:∀p,p≠o->(st.add o (.var cs')).ah p=st.ah p:=λp hp=>nX st _ hp;have hsome:∀p y,(st.add o (.var cs')).ah p=some y->∃z,st.ah p=some z:=by
  intro p y hp;by_cases e:p=o
  .rw[e];exact⟨_,ho⟩
  .rw[hother p e]at hp;exact⟨y,hp⟩
 have le:(aA w0 T γ st w).le ⟨w,w0.heap.size,T,γ,(st.add o (.var cs')).ah⟩:=by
  refine⟨aw7 _,λc hb=>⟨⟨hb.1,hb.2.1,λp y hp=>?_⟩,rfl⟩,λp ds hp=>⟨?_,rfl⟩,λp e r l fr hp=>⟨?_,rfl⟩⟩
  .obtain⟨z,hz⟩:=hsome p y hp;exact hb.2.2 p z hz
  .by_cases e:p=o
   .subst e;exact⟨cs',add_same _ _ _⟩
   .exact⟨ds,(hother p e).trans hp⟩
  .by_cases e2:p=o
   .subst e2;have hp':st.ah p=some (.arr e r l fr):=hp;rw[ho]at hp';cases hp'
   .exact⟨l,fr,(hother p e2).trans hp⟩
 refine⟨h.mT,h.defers,h.size,h.os,h.tape,h.output,h.grow,h.kept,λt=>bK.mono le _ _ (h.tmps t),λp y hp=>?_,λp y c hp hb=>?_,λp y q z c hp hq hpq hb=>?_,λp v ds hN hp=>?_⟩
 .by_cases e:p=o
  .subst e;rw[add_same]at hp;cases hp;obtain⟨b,arr,t,g1,g2,g3⟩:=h.ah p _ ho;exact⟨b,arr,t,g1,g2,ak.mono le _ _ (hc _ g3)⟩
  .rw[hother p e]at hp;exact dh.mono le p y (λ_ _=>rfl) rfl (h.ah p y hp)
 .obtain⟨z,hz⟩:=hsome p y hp;exact h.lt p z c hz hb
 .obtain⟨z1,hz1⟩:=hsome p y hp;obtain⟨z2,hz2⟩:=hsome q z hq;exact h.sep p z1 q z2 c hz1 hz2 hpq hb
 .by_cases e:p=o
  .subst e;exact h.pin p v cs hN ho
  .rw[hother p e]at hp;exact h.pin p v ds hN hp
inductive Place where
 |slot (t k:Nat)
 |obj (o k:Nat)
def cellAt(st:St):Place->Option Cell
 |.slot t k=>match st.tmps t with|.sv v=>v.cells[k]? |_=>none
 |.obj o k=>match st.ah o with|some (.var cs)=>cs[k]? |_=>none
def SV.put(k:Nat)(c:Cell):SV->SV
 |.one _=>.one c
 |.agg cs=>.agg (cs.set k c)
def setCell(st:St)(c:Cell):Place->St
 |.slot t k=>match st.tmps t with|.sv v=>st.set t (.sv (v.put k c))|_=>st
 |.obj o k=>match st.ah o with|some (.var cs)=>st.add o (.var (cs.set k c))|_=>st
abbrev aaj:=Place×Nat×TypeId×aK×Bool
def settle(st:St)(x:aaj):Option St:=
 match cellAt st x.1 with
 |some (.ref o)=>match Nat.beq o x.2.1 with
  |true=>some st
  |false=>match (st.kill (Nat.beq x.2.1 ·)).ah o with
   |some (.arr _ _ _ _)=>some ((st.kill (Nat.beq x.2.1 ·)).ren o x.2.1)
   |_=>none
 |some .nil=>match Nat.ble 1 x.2.2.2.1.len,cellAt ((st.kill (Nat.beq x.2.1 ·)).add x.2.1 (.arr x.2.2.1 x.2.2.2.1 [] x.2.2.2.2)) x.1 with
  |true,some .nil=>some (setCell ((st.kill (Nat.beq x.2.1 ·)).add x.2.1 (.arr x.2.2.1 x.2.2.2.1 [] x.2.2.2.2)) (.ref x.2.1) x.1)
  |_,_=>none
 |_=>none
def settles(st:St):List aaj->Option St
 |[]=>some st
 |x::l=>match settle st x with
  |some s=>settles s l
  |none=>none
theorem ak.set{X:V}:∀(cs:List Cell)(vs:List Value)(k:Nat)(c:Cell),(∀v,bJ X .nil v->bJ X c v)->cs[k]? =some .nil->ak X cs vs->ak X (cs.set k c) vs
 |[],_,_,_,_,h,_=>by simp at h
 |x::cs,v::vs,0,c,hc,h,⟨h1,h2⟩=>by simp at h;subst h;exact⟨hc v h1,h2⟩
 |x::cs,v::vs,k+1,c,hc,h,⟨h1,h2⟩=>⟨h1,ak.set cs vs k c hc (by simpa using h) h2⟩
 |_::_,[],_,_,_,_,H=>by cases H
theorem Rel.setCell(h:Rel w0 M T γ st a w){c:Cell}{pl:Place}(hn:cellAt st pl=some .nil)(hc:∀v,bJ (aA w0 T γ st w) .nil v->bJ (aA w0 T γ st w) c v):Rel w0 M T γ (setCell st c pl) a w:=by
 cases pl with
 |slot t k=>
  simp only[cellAt]at hn;simp only[Fw.setCell];split at hn
  .next v hv=>
   try rw[hv]
   have hcov:bK (aA w0 T γ st w) (.sv (v.put k c)) (a.tmps.getD t undef):=by
    have h0:=h.tmps t;rw[hv]at h0;cases v with
    |one x=>
     have hx:x=.nil/\k=0:=by
      cases k with
      |zero=>simp[SV.cells]at hn;exact⟨hn,rfl⟩
      |succ k=>simp[SV.cells]at hn
     obtain⟨rfl,rfl⟩:=hx;exact hc _ h0
    |agg cs=>obtain⟨vs,hvs,hr⟩:=h0;exact⟨vs,hvs,ak.set cs _ k c hc hn hr⟩
   refine⟨h.mT,h.defers,h.size,h.os,h.tape,h.output,h.grow,h.kept,λt'=>?_,h.ah,h.lt,h.sep,h.pin⟩;by_cases e':t'=t
   .subst e';simp only[St.set,axB];exact hcov
   .simp only[St.set,EI e'];exact h.tmps t'
  .cases hn
 |obj o k=>
  simp only[cellAt]at hn;simp only[Fw.setCell];split at hn
  .next cs hcs=>
   try rw[hcs]
   exact h.at1 hcs λvs hvs=>ak.set cs vs k c hc hn hvs
  .cases hn
theorem Rel.ath(h:Rel w0 M T γ st a w){o:Nat}(ho:st.ah o=none)(e:TypeId)(r:aK)(fr:Bool)(hr:1<=r.len):
 Rel w0 M T (upd γ o (.slice none 0 0)) (st.add o (.arr e r [] fr)) a w:=by
 refine(h.grown (γ':=upd γ o (.slice none 0 0)) (w':=w) (st.add o (.arr e r [] fr)).ah
  (λp x hp=>by rw[nX _ _ (by rintro rfl;rw[ho]at hp;cases hp)];exact hp)
  (λp x hp=>by rw[qW];rintro rfl;rw[ho]at hp;cases hp)
  rfl rfl rfl (aw7 _) (λ_ _=>rfl)
  (λp x hp hn=>by
    by_cases e':p=o
    .subst e';rw[add_same]at hp;cases hp;refine⟨⟨[],⟨by simp,.inl ⟨upd_same _ _ _,rfl⟩⟩,hr,(λb hb=>by have hb':blk (upd γ p (.slice none 0 0) p)=some b:=hb;rw[upd_same]at hb';cases hb'),λi x hi=>by simp at hi⟩,λb hb=>by rw[upd_same]at hb;cases hb⟩
    .rw[nX _ _ e']at hp;rw[hp]at hn;cases hn)
  (λp cs hp hn=>by
    by_cases e':p=o
    .subst e';rw[add_same]at hp;cases hp
    .rw[nX _ _ e']at hp;rw[hp]at hn;cases hn)
  (λp x q y b hp hpn hq hqn hpq hb=>by
    by_cases e':p=o
    .subst e';rw[upd_same]at hb;cases hb
    .rw[nX _ _ e']at hp;rw[hp]at hpn;cases hpn)).1
theorem ajZ(st:St)(p:Nat):(st.kill (Nat.beq p ·)).ah p=none:=by simp[St.kill]
theorem Rel.settle(h:Rel w0 M T γ st a w){x:aaj}{s:St}(hs:Fw.settle st x=some s):∃γ',Rel w0 M T γ' s a w:=by
 obtain⟨pl,p,e,r,fr⟩:=x;unfold Fw.settle at hs;dsimp only at hs;split at hs
 .next o ho=>
  split at hs
  .cases hs;exact⟨γ,h⟩
  .split at hs
   .next hk=>cases hs;exact⟨_,(h.kill _).ren hk (ajZ st p)⟩
   .cases hs
 .next ho=>
  split at hs
  .next hr hn=>cases hs;have hR:=(h.kill (Nat.beq p ·)).ath (ajZ st p) e r fr (by simpa[ay1]using hr);refine⟨_,hR.setCell hn λv hv=>?_⟩;have hv:v=.slice none 0 0:=hv;subst hv;exact⟨⟨e,r,[],fr,add_same _ _ _⟩,(upd_same _ _ _).symm,rfl⟩
  .cases hs
 .cases hs
theorem Rel.settles:∀(l:List aaj){γ:Nat->Value}{st s:St}(_:Rel w0 M T γ st a w)(_:Fw.settles st l=some s),∃γ',Rel w0 M T γ' s a w
 |[],γ,st,s,h,hs=>by cases hs;exact⟨γ,h⟩
 |x::l,γ,st,s,h,hs=>by
  rw[Fw.settles]at hs;split at hs
  .next s1 h1=>obtain⟨γ1,hR⟩:=h.settle h1;exact Rel.settles l hR hs
  .cases hs
end Go.Fw
namespace Go.Fw
open Go
variable {P:Program} {w0:World} {M:Nat->Prop} {T:Ext} {γ γ':Nat->Value} {st s:St} {a:Act} {w w':World} {Θ:jT} {Γ:lC}
def IB(Θ:jT)(st:St)(o:Op):Option (Prop×Nat×aX):=match o with
 |.call {callee:=.builtin .append,args,argTypes}=>match args.toList,argTypes.toList with
  |[s,x],[t,u]=>match Nat.beq t u,Θ t,st.ev s,st.ev x with
   |true,some ti,.sv (.one (.ref o)),.sv (.one y)=>match ti.kind with
    |.slice e=>match Θ e with
     |some te=>match y.get st (.sl e te.cells)with
      |some news=>match st.ah o with
       |some (.arr f r l fr)=>if h:te.cells.beq r=true then
         match Nat.beq e f with
         |true=>some (l.length+news.length<=big,o,.arr e r (l++xB h news) (fr&&y.Ar te.cells st))
         |false=>none
        else none
       |_=>none
      |none=>none
     |none=>none
    |_=>none
   |_,_,_,_=>none
  |_,_=>none
 |_=>none
theorem apU(h:st.more s){e:TypeId}{r:aK}{y:Cell}{news:List r.den}(hg:y.get st (.sl e r)=some news):y.fresh s=y.fresh st:=by
 cases y<;>try rfl
 case ref o=>
  simp only[Cell.get]at hg;split at hg
  .next e' r' l fr ho=>simp only[Cell.fresh];rw[h.ah o _ ho,ho]
  .cases hg
theorem aoL(h:st.more s){e:TypeId}{r:aK}{y:Cell}{news:List r.den}(hg:y.get st (.sl e r)=some news):y.Ar r s=y.Ar r st:=by unfold Cell.Ar;rw[apU h hg]
theorem anf(h:st.more s){o:Op}{x:Prop×Nat×aX}(hc:IB Θ st o=some x):IB Θ s o=some x:=by
 unfold IB at hc;split at hc
 case h_2=>cases hc
 next args qX=>
 split at hc
 case h_2=>cases hc
 next s1 x1 t u hargs Ql=>
 split at hc
 case h_2=>cases hc
 next ti o y hb ht hs hx=>
 split at hc
 case h_2=>cases hc
 next e hk=>
 split at hc
 case h_2=>cases hc
 next te hte=>
 split at hc
 case h_2=>cases hc
 next news hnews=>
 split at hc
 case h_2=>cases hc
 next f r l fr ho=>
 split at hc
 case isFalse=>cases hc
 next hbr=>
 split at hc
 case h_2=>cases hc
 next hef=>
 cases hc;have h1:=dB h hs (by simp);have h2:=dB h hx (by simp);unfold IB;simp only[hargs,Ql,hb,ht,h1,h2,hk,hte,aes h _ _ _ hnews,h.ah o _ ho,hbr,hef,dif_pos,aoL h hnews]
theorem aoM{o:Op}{p:Prop}{q:Nat}{x:aX}(d:Nat)(hc:IB Θ st o=some (p,q,x)):
 eff Θ Γ d st o=some (p,.sv (.one (.ref q)),(st.kill (Nat.beq q ·)).add q x)/\(∃e r l fr,x=.arr e r l fr)/\∃e r l fr,st.ah q=some (.arr e r l fr):=by
 unfold IB at hc;split at hc
 case h_2=>cases hc
 next args qX=>
 split at hc
 case h_2=>cases hc
 next s1 x1 t u hargs Ql=>
 split at hc
 case h_2=>cases hc
 next ti o y hb ht hs hx=>
 split at hc
 case h_2=>cases hc
 next e hk=>
 split at hc
 case h_2=>cases hc
 next te hte=>
 split at hc
 case h_2=>cases hc
 next news hnews=>
 split at hc
 case h_2=>cases hc
 next f r l fr ho=>
 split at hc
 case isFalse=>cases hc
 next hbr=>
 split at hc
 case h_2=>cases hc
 next hef=>
 cases hc;refine⟨?_,⟨_,_,_,_,rfl⟩,⟨_,_,_,_,ho⟩⟩;simp only[eff,hargs,Ql,hb,ht,hs,hx,hk,hte,hnews,ho,hbr,hef,dif_pos]
theorem Cell.Ei{S:Nat->Bool}{f:Nat->Nat}(h:∀o,S o=false->f o=o):∀(c:Cell),(c.kill S).ren f=c.kill S
 |.int _ _|.bool _|.str _|.nil|.sl _ _ _ _|.junk=>rfl
 |.ref o=>by
  simp only[Cell.kill];cases hs:S o with
  |true=>rfl
  |false=>simp only[Cell.ren,h o hs]
theorem G8{S:Nat->Bool}{f:Nat->Nat}(h:∀o,S o=false->f o=o)(cs:List Cell):(cs.map (Cell.kill S)).map (Cell.ren f)=cs.map (Cell.kill S):=by rw[ayn];exact ayx λc _=>Cell.Ei h c
theorem SV.Ei{S:Nat->Bool}{f:Nat->Nat}(h:∀o,S o=false->f o=o):∀(c:SV),(c.kill S).ren f=c.kill S
 |.one c=>by simp only[SV.kill,SV.ren,Cell.Ei h]
 |.agg cs=>by simp only[SV.kill,SV.ren,G8 h]
theorem AV.Ei{S:Nat->Bool}{f:Nat->Nat}(h:∀o,S o=false->f o=o):∀(c:AV),(c.kill S).ren f=c.kill S
 |.undef=>rfl
 |.sv v=>by simp only[AV.kill,AV.ren,SV.Ei h]
 |.nS vs=>by
  simp only[AV.kill,AV.ren];rw[ayn,ayx λc _=>(show((SV.ren f) ∘ (SV.kill S)) c=SV.kill S c from SV.Ei h c)]
 |.bC o off=>by
  simp only[AV.kill];cases hs:S o with
  |true=>rfl
  |false=>simp only[AV.ren,h o hs]
 |.oZ o i off=>by
  simp only[AV.kill];cases hs:S o with
  |true=>rfl
  |false=>simp only[AV.ren,h o hs]
 |.win o i off=>by
  simp only[AV.kill];cases hs:S o with
  |true=>rfl
  |false=>simp only[AV.ren,h o hs]
 |.rC _ _ _ _=>rfl
 |.cO cs off=>by simp only[AV.kill,AV.ren,G8 h]
 |.fn g caps=>by simp only[AV.kill,AV.ren];rw[ayn,ayx λc _=>(show((List.map (Cell.ren f)) ∘ (List.map (Cell.kill S))) c=List.map (Cell.kill S) c from G8 h c)]
theorem aX.Ei{S:Nat->Bool}{f:Nat->Nat}(h:∀o,S o=false->f o=o):∀(c:aX),(c.kill S).ren f=c.kill S
 |.var cs=>by simp only[aX.kill,aX.ren,G8 h]
 |.arr _ _ _ _=>rfl
theorem apV{G:kR}(hE:vw P G Θ Γ w0 M)(h:Rel w0 M T γ st a w)(o:Oper){p:Prop}{n q:Nat}{x:aX}
 (hc:IB Θ st o.op=some (p,q,x)) (hp:p) (hn0:st.ah n=none) {next:Act->World->Prop} {Q:Exit->Act->World->Prop}
 (hn:∀u γ' w',Rel w0 M T γ' ((st.kill (Nat.beq q ·)).add n x) a w'->bK (aA w0 T γ' ((st.kill (Nat.beq q ·)).add n x) w') (.sv (.one (.ref n))) u->next (a.put o.dst u) w'):o.wp P a w next Q:=by
 obtain⟨he,⟨e,r,l,fr,rfl⟩,⟨e',r',l',fr',hq⟩⟩:=aoM (Γ:=Γ) 0 hc;have hnq:n≠q:=λe=>by rw[e,hq]at hn0;cases hn0
 have hqn:∀t,Nat.beq q t=false->Eh q n t=t:=λt ht=>WQ λe=>by rw[e,axB]at ht;cases ht
 refine ajW hE h o he hp λu γ1 w1 hR hv=>?_;have hS:(((st.kill (Nat.beq q ·)).add q (.arr e r l fr)).ren q n)=(st.kill (Nat.beq q ·)).add n (.arr e r l fr):=by
  simp only[St.ren,St.add,St.kill,St.mk.injEq,azl];refine⟨funext λt=>AV.Ei hqn _,funext λt=>?_⟩;cases hb:Nat.beq t n with
  |true=>simp[axB,aX.ren]
  |false=>
   cases hb2:Nat.beq t q with
   |true=>
    rw[awQ hb2,axB]
   |false=>
    have hb3:Nat.beq q t=false:=by
     cases hb3:Nat.beq q t with
     |false=>rfl
     |true=>rw[awQ hb3,axB]at hb2;cases hb2
    simp only[hb3];cases st.ah t with
    |none=>rfl
    |some y=>simp only[axR,aX.Ei hqn]
 have atj:=hR.ren (o:=q) (p:=n) (e:=e) (r:=r) (l:=l) (fr:=fr) (by simp[St.add,axB]) (by simp only[St.add,St.kill,EI hnq,hn0,ays];cases Nat.beq q n<;>rfl);rw[hS]at atj;refine hn u _ _ atj ?_;obtain⟨_,h2,h3⟩:bJ _ (.ref q) u:=hv;have oI:((st.kill (Nat.beq q ·)).add n (.arr e r l fr)).ah n=some (.arr e r l fr):=by simp[St.add,axB]
 have hval:u=(match Nat.beq n n with|true=>γ1 q|false=>γ1 n):=by rw[axB];exact h2
 exact⟨⟨e,r,l,fr,oI⟩,hval,h3⟩
end Go.Fw
