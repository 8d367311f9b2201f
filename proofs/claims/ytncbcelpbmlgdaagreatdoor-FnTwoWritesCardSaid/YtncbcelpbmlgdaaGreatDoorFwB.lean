import Derived.Test.YtncbcelpbmlgdaaGreatDoorFwA
import Derived.Lib.SliceRun
import Derived.WalkSpells
namespace Go.Fw
open Go
variable {P:Program} {w0:World} {M:Nat->Prop} {T:Ext} {γ γ':Nat->Value} {st:St} {a:Act} {w w':World} {Θ:iO} {Γ:jU}
theorem Xi{α:Type}{l:List α}{lo:Nat}{news:List α}(h:lo+news.length<=l.length):(nC l lo news).length=l.length:=by unfold nC;simp only[aoK,ao2,apj];omega
theorem ace{α:Type}{l:List α}{lo:Nat}{news:List α}(h:lo+news.length<=l.length)(k:Nat):
 (nC l lo news)[k]? =if k<lo then l[k]? else if k<lo+news.length then news[k-lo]? else l[k]? :=by
 unfold nC;have ht:(l.take lo).length=lo:=by rw[ao2];omega
 by_cases h1:k<lo
 .rw[if_pos h1,aoX,apt (by omega),apm,if_pos h1]
 .rw[if_neg h1];by_cases h2:k<lo+news.length
  .rw[if_pos h2,aoX,apk (by omega),ht,apt (by omega)]
  .rw[if_neg h2,apk (by rw[aoK];omega),aoK,ht,apo];congr 1;omega
theorem Rel.rows(h:Rel w0 M T γ st a w){o:Nat}{e:TypeId}{r:au}{l:List r.den}{fr:Bool}(ho:st.ah o=some (.arr e r l fr)){b m cap:Nat}(hγ:γ o=.slice (some ⟨b,0,none⟩) m cap){cur:Array Value}(hb:w.heap[b]? =some (.cells cur e (0,0)))
 {lo:Nat} {news:List r.den} {ns:List Value} (hnl:ns.length=news.length*r.len) (hle:lo+news.length<=l.length)
 (hrows:∀i x,news[i]? =some x->aG w.heap ((aj w0 T γ st w).bM fr) r ((ns.drop (i*r.len)).take r.len) x):
 Rel w0 M T γ (st.add o (.arr e r (nC l lo news) fr)) a (w.setRow b (cur.toList.take (lo*r.len)++ns++cur.toList.drop (lo*r.len+ns.length)).toArray):=by
 obtain⟨xs,⟨h1,h2⟩,hpos,hfr,hrow⟩:=h.ah o _ ho;rcases h2 with⟨hnil,_⟩|⟨g,cap',cur',hg,_,hh,hlc,hmax,hsz,htake⟩
 .have kX:γ o=.slice none 0 0:=hnil;rw[hγ]at kX;cases kX
 .have kX:γ o=.slice (some ⟨g,0,none⟩) l.length cap':=hg;rw[hγ]at kX;simp at kX;obtain⟨rfl,hn,hcap⟩:=kX;have hcur:cur'=cur:=by have hh':w.heap[b]? =some (.cells cur' e (0,0)):=hh;rw[hb]at hh';simp at hh';exact hh'.symm
  subst hcur;have aom:lo*r.len+news.length*r.len<=l.length*r.len:=by rw[← apq];exact ao8 _ hle
  have alP:l.length*r.len<=cap'*r.len:=ao8 _ hlc;have e1:cur'.toList.length=cur'.size:=apr;refine h.write (x':=.arr e r (nC l lo news) fr) ho (by rw[hγ];rfl) ⟨rfl,rfl⟩ _ (λle=>?_);have hnew:∀k,(cur'.toList.take (lo*r.len)++ns++cur'.toList.drop (lo*r.len+ns.length))[k]? =if k<lo*r.len then cur'.toList[k]? else if k<lo*r.len+ns.length then ns[k-lo*r.len]? else cur'.toList[k]? :=λk=>Y5 _ _ _ k (by omega)
  have afJ:(cur'.toList.take (lo*r.len)++ns++cur'.toList.drop (lo*r.len+ns.length)).length=cur'.size:=by simp only[aoK,ao2,apj];omega
  generalize hnd:cur'.toList.take (lo*r.len)++ns++cur'.toList.drop (lo*r.len+ns.length)=new at hnew afJ le ⊢;have hol:=Xi hle;refine⟨new.take (l.length*r.len),⟨?_,.inr ⟨b,cap,new.toArray,?_,apb _,Qn hh,?_,?_,?_,?_⟩⟩,hpos,?_,?_⟩
  .rw[ao2,afJ,hol];omega
  .rw[hol];show γ o=_;rw[hγ,hn]
  .rw[hol];omega
  .omega
  .rw[aqe,afJ,hsz,hcap]
  .rw[hol,aq5]
  .intro c hc hf;exact hfr c hc hf
  .intro i x hi;have hlt:i<l.length:=by have:=(aoY.1 hi).1;rw[hol]at this;exact this
   have hmul:i*r.len+r.len<=l.length*r.len:=by have:(i+1)*r.len<=l.length*r.len:=ao8 _ hlt;rw[apq]at this;simpa using this
   rw[fO _ _ _ _ hmul];rw[ace hle]at hi;have old:∀y,l[i]? =some y->(∀k,k<r.len->new[i*r.len+k]? =cur'.toList[i*r.len+k]?)->aG (w.setRow b new.toArray).heap (V.bM ⟨w.setRow b new.toArray,w0.heap.size,T.S,γ,(st.add o (.arr e r (nC l lo news) fr)).ah⟩ fr) r ((new.drop (i*r.len)).take r.len) y:=by
    intro y hy hk;have hR:=hrow i y hy;have:(new.drop (i*r.len)).take r.len=(xs.drop (i*r.len)).take r.len:=by
     rw[← htake,fO _ _ _ _ hmul];apply aqu;intro k;rw[apm,apm,apo,apo];by_cases hkr:k<r.len
     .rw[if_pos hkr,if_pos hkr,hk k hkr]
     .rw[if_neg hkr,if_neg hkr]
    rw[this];exact aG.mono (λc hc=>le.bM _ c hc) _ _ y hR
   split at hi
   .next hlo=>
    refine old x hi λk hk=>?_;rw[hnew];have:i*r.len+r.len<=lo*r.len:=by have:(i+1)*r.len<=lo*r.len:=ao8 _ hlo;rw[apq]at this;simpa using this
    rw[if_pos (by omega)]
   .next hlo=>
    split at hi
    .next hhi=>
     have hR:=hrows _ x hi;have e2:i*r.len=lo*r.len+(i-lo)*r.len:=by rw[← apq];congr 1;omega
     have hm3:(i-lo)*r.len+r.len<=news.length*r.len:=by have:(i-lo+1)*r.len<=news.length*r.len:=ao8 _ (by omega);rw[apq]at this;simpa using this
     have:(new.drop (i*r.len)).take r.len=(ns.drop ((i-lo)*r.len)).take r.len:=by
      apply aqu;intro k;rw[apm,apm,apo,apo];by_cases hkr:k<r.len
      .rw[if_pos hkr,if_pos hkr,hnew,if_neg (by omega),if_pos (by omega)];congr 1;omega
      .rw[if_neg hkr,if_neg hkr]
     rw[this];exact aG.mono (λc hc=>le.bM _ c hc) _ _ x hR
    .next hhi=>
     refine old x hi λk hk=>?_;rw[hnew];have:lo*r.len+news.length*r.len<=i*r.len:=by rw[← apq];exact ao8 _ (by omega)
     rw[if_neg (by omega),if_neg (by omega)]
theorem Gx{α:Type}(l:List α)(lo:Nat):nC l lo []=l:=by unfold nC;rw[ape,ao5,aqa,aqk]
theorem Vx{o:Nat}{x:aA}(h:st.ah o=some x):st.add o x=st:=by
 cases st;simp only[St.add]at h ⊢;congr 1
 funext i
 cases hb:Nat.beq i o with
 |false=>rfl
 |true=>rw[aoM hb,h]
theorem aag(h:Rel w0 M T γ st a w){o:Nat}{e:TypeId}{r:au}{l:List r.den}{fr:Bool}(ho:st.ah o=some (.arr e r l fr)){b m cap:Nat}(hγ:γ o=.slice (some ⟨b,0,none⟩) m cap):
 ∃cur:Array Value,w.heap[b]? =some (.cells cur e (0,0))/\cur.size=cap*r.len/\0<r.len/\cap<=maxLen/\l.length<=cap/\
  ∀i x,l[i]? =some x->aG w.heap ((aj w0 T γ st w).bM fr) r ((cur.toList.drop (i*r.len)).take r.len) x:=by
 obtain⟨xs,⟨h1,h2⟩,hpos,hfr,hrow⟩:=h.ah o _ ho;rcases h2 with⟨hnil,_⟩|⟨g,cap',cur',hg,_,hh,hlc,hmax,hsz,htake⟩
 .have kX:γ o=.slice none 0 0:=hnil;rw[hγ]at kX;cases kX
 .have kX:γ o=.slice (some ⟨g,0,none⟩) l.length cap':=hg;rw[hγ]at kX;simp at kX;obtain⟨rfl,hn,rfl⟩:=kX;refine⟨cur',hh,hsz,hpos,hmax,hlc,λi x hi=>?_⟩;have hlt:i<l.length:=(aoY.1 hi).1;have hmul:i*r.len+r.len<=l.length*r.len:=by have:(i+1)*r.len<=l.length*r.len:=ao8 _ hlt;rw[apq]at this;simpa using this
  have:=hrow i x hi;rw[← htake,fO _ _ _ _ hmul]at this;exact this
theorem acf{h:Array Obj}{S:Nat->Prop}:∀(r:au)(vs:List Value)(x:r.den),aG h S r vs x->∀v∈vs,v.oneCell'=true
 |.nil,vs,_,H,v,hv=>by rw[aG]at H;subst H;cases hv
 |.cons c r,vs,(x,y),H,v,hv=>by
  rw[aG]at H;obtain⟨u,vs',rfl,h1,h2⟩:=H;rcases aoU.1 hv with rfl|hv
  .cases c with
   |int k=>rw[h1.1];rfl
   |bool=>rw[show _=_ from h1];rfl
   |str=>rw[h1.1];rfl
   |sl e s=>have h1:pW _ _ _ _ v x:=h1;rcases h1.2 with⟨_,a,c,hv⟩|⟨b,off,cap,cs,t,fz,hv,_⟩<;>rw[hv]<;>rfl
  .exact acf r vs' y h2 v hv
theorem aah{h:Array Obj}{S:Nat->Prop}{r:au}(hpos:0<r.len){news:List r.den}{ns:List Value}(hnl:ns.length=news.length*r.len)(hrows:∀i x,news[i]? =some x->aG h S r ((ns.drop (i*r.len)).take r.len) x):∀u∈ns,u.oneCell'=true:=by intro u hu;obtain⟨j,hj⟩:=aq0 hu;have hjl:j<ns.length:=(aoY.1 hj).1;rw[hnl]at hjl;have hil:j / r.len<news.length:=Nat.div_lt_of_lt_mul (by rw[arz];exact hjl);have hR:=hrows (j / r.len) _ (aoQ hil);refine acf _ _ _ hR u ?_;have hdm:=Nat.div_add_mod j r.len;have hml:=arv j hpos;refine apu (i:=j%r.len) ?_;rw[apm,if_pos hml,apo,← hj];congr 1;rw[arz]at hdm;omega
theorem TL(hΘ:∀t ti,Θ t=some ti->kC P t ti)(h:Rel w0 M T γ st a w){t ty:TypeId}{ti:TI}(ht:Θ t=some ti){sx x:Operand}{o vX n0 o2 lo2 n2:Nat}(e1:st.ev sx=.win o vX n0)(e2:st.ev x=.win o2 lo2 n2)
 {p:Prop} {v:AV} {s:St} (hc:Qd Θ st ti o vX n0 o2 lo2 n2=some (p,v,s)) (hp:p):
 ∃u w',(Builtin.append_ #[t,t] ty #[a.eval sx,a.eval x]).run P w=.ok u w'/\Rel w0 M T γ s a w'/\aP (aj w0 T γ s w') v u:=by
 unfold Qd at hc;split at hc
 .next e f r l fr hb hk ho=>
  rw[aoJ]at hb;have hlo0:=aoM hb.1;have hoo:=aoM hb.2;subst hlo0 hoo;split at hc
  .next te he=>
   split at hc
   .next hbe=>
    rw[aoJ]at hbe;have hef:=aoM hbe.2;have hte:=au.eq_of_beq _ _ hbe.1;cases hc;subst hef;obtain⟨hp1,hp2⟩:=hp;obtain⟨g,m,cap,e',r',l',fr',hx,hγ,⟨q,hq,hv,hle⟩⟩:=Qm h e1;rw[ho]at hx;cases hx;obtain⟨g2,m2,cap2,e'',r'',l'',aop,hx2,kX,⟨q2,hq2,hv2,hle2⟩⟩:=Qm h e2;rw[hγ]at kX;simp at kX;obtain⟨rfl,rfl,rfl⟩:=kX;rw[ho]at hx2;cases hx2;obtain⟨cur,hh,hsz,hpos,hmax,hlc,hrow⟩:=aag h ho hγ;obtain⟨i,z,hi,hisz,hby,hz,hzv,_⟩:=(hΘ e te he).info;have hu:=(hΘ t ti ht).und;rw[hk]at hu;rw[hte]at hisz;by_cases hn2:n2=0
    .subst hn2;refine⟨.slice (some ⟨g,q,none⟩) n0 (cap-0),w,?_,?_,?_⟩
     .rw[hv,hv2];have hnc:n0<=cap:=by omega
      rw[Nat.sub_zero];simp[Builtin.append_,aph hu.1 w,sizeOf,typeInfo,hi,Builtin.lenOf,Builtin.firstCells,hnc,storeCells,loadCells,loadCellsFrom]
     .have:nC l n0 ((l.drop lo2).take 0)=l:=by rw[aqH,Gx]
      rw[this,Vx ho];exact h
     .have:nC l n0 ((l.drop lo2).take 0)=l:=by rw[aqH,Gx]
      rw[this,Vx ho];exact⟨g,m,cap,e,r,l,fr,ho,hγ,q,hq,rfl,by omega⟩
    .have hq0:q=0:=by
      rcases hq with e3|e3
      .rw[e3,aqJ]
      .omega
     have am5:q2=lo2*r.len:=by
      rcases hq2 with e3|e3
      .exact e3
      .omega
     subst hq0 am5;have abz:((l.drop lo2).take n2).length=n2:=by rw[ao2,apj];omega
     let ns:List Value:=(cur.toList.drop (lo2*r.len)).take (n2*r.len)
     have ec:cur.toList.length=cur.size:=apr;have hm1:lo2*r.len+n2*r.len<=cap*r.len:=by rw[← apq];exact ao8 _ (by omega)
     have hm0:n0*r.len+n2*r.len<=cap*r.len:=by rw[← apq];exact ao8 _ (by omega)
     have hnl:ns.length=n2*r.len:=by simp only[ns,ao2,apj];omega
     have hrows:∀i x,((l.drop lo2).take n2)[i]? =some x->aG w.heap ((aj w0 T γ st w).bM fr) r ((ns.drop (i*r.len)).take r.len) x:=by
      intro i x hi;have hilt:i<n2:=by have:=(aoY.1 hi).1;rw[abz]at this;exact this
      rw[apm,if_pos hilt,apo]at hi;have hR:=hrow (lo2+i) x hi;have hmul:i*r.len+r.len<=n2*r.len:=by have:(i+1)*r.len<=n2*r.len:=ao8 _ hilt;rw[apq]at this;simpa using this
      have:(ns.drop (i*r.len)).take r.len=(cur.toList.drop ((lo2+i)*r.len)).take r.len:=by simp only[ns];rw[fO _ _ _ _ hmul,aqF,apq]
      rw[this];exact hR
     have jb:=aah hpos (by rw[abz];exact hnl) hrows;have hnews:∀j u,ns[j]? =some u->w.cell? ((⟨g,lo2*r.len,none⟩:Addr).add j)=some u:=by intro j u hj;rw[addr_add];exact L9 hh _ j u hj
     have hroom:n0+n2<=cap:=by omega
     have hrun:=run_append_room (P:=P) (ty:=ty) (w:=w) t e i hu.1 hi g n0 cap cur hh ⟨g,lo2*r.len,none⟩ n2 (cap-lo2) ns (by rw[hisz];exact hnl) hnews jb hroom (by rw[hisz];omega);rw[hisz]at hrun;refine⟨_,_,by rw[hv,hv2];exact hrun,h.rows ho hγ hh (by rw[abz];exact hnl) (by rw[abz];exact hp1) hrows,?_⟩;exact⟨g,m,cap,e,r,_,fr,add_same _ _ _,hγ,0,.inl (by rw[aqJ]),rfl,by omega⟩
   .cases hc
  .cases hc
 .cases hc
theorem Y6{z:Array Value}{r:au}(hz:z.toList=r.jE)(hpos:0<r.len)(n:Nat):(Builtin.zeroCells z n).toList.length=n*r.len/\∀i,i<n->((Builtin.zeroCells z n).toList.drop (i*r.len)).take r.len=r.jE:=by
 have hzs:z.size=r.len:=by rw[← apr,hz,lg]
 have hlen:(Builtin.zeroCells z n).toList.length=n*r.len:=by simp[Builtin.zeroCells,hzs]
 refine⟨hlen,λi hi=>?_⟩;have hmul:i*r.len+r.len<=n*r.len:=by have:(i+1)*r.len<=n*r.len:=ao8 _ hi;rw[apq]at this;simpa using this
 apply aq1
 .rw[ao2,apj,hlen,lg];omega
 .intro k h1 h2;rw[List.getElem_take,List.getElem_drop];have hk:k<r.len:=by rw[lg]at h2;exact h2
  have hmod:(i*r.len+k)%r.len=k:=by rw[arw,arI,arP hk]
  have hzk:r.jE[k]=z[k]'(by omega):=by
   have:z.toList[k]'(by rw[apr];omega)=r.jE[k]:=by simp only[hz]
   rw[← this,Array.getElem_toList]
  rw[hzk];simp[Builtin.zeroCells,hzs,hmod,hk]
theorem Vy(hΘ:∀t ti,Θ t=some ti->kC P t ti)(h:Rel w0 M T γ st a w){t ty:TypeId}{ti:TI}(ht:Θ t=some ti){x:Operand}{o lo n:Nat}(e1:st.ev x=.win o lo n)
 {p:Prop} {v:AV} {s:St} (hc:Vp Θ st ti o lo n=some (p,v,s)) (hp:p):
 ∃u w',(Builtin.clear_ #[t] ty #[a.eval x]).run P w=.ok u w'/\Rel w0 M T γ s a w'/\aP (aj w0 T γ s w') v u:=by
 unfold Vp at hc;split at hc
 .next e f r l fr hk ho=>
  split at hc
  .next te he=>
   split at hc
   .next hbe=>
    rw[aoJ]at hbe;have hef:=aoM hbe.2;have hte:=au.eq_of_beq _ _ hbe.1;cases hc;subst hef;obtain⟨g,m,cap,e',r',l',fr',hx,hγ,⟨q,hq,hv,hle⟩⟩:=Qm h e1;rw[ho]at hx;cases hx;obtain⟨cur,hh,hsz,hpos,hmax,hlc,hrow⟩:=aag h ho hγ;have hu:=(hΘ t ti ht).und;rw[hk]at hu;cases n with
    |zero=>
     refine⟨.tuple #[],w,?_,?_,⟨#[],rfl,trivial⟩⟩
     .rw[hv];simp[Builtin.clear_,aph hu.1 w]
     .have:nC l lo (List.replicate 0 r.dflt)=l:=Gx l lo;rw[this,Vx ho];exact h
    |succ k=>
     have hq0:q=lo*r.len:=by
      rcases hq with e3|e3
      .exact e3
      .omega
     subst hq0;obtain⟨z,hz,hzv⟩:=OH (P:=P) (w:=w) (hΘ e te he);rw[hte]at hzv;obtain⟨hnl,hzr⟩:=Y6 hzv hpos (k+1);have ec:cur.toList.length=cur.size:=apr;have hm1:lo*r.len+(k+1)*r.len<=cap*r.len:=by rw[← apq];exact ao8 _ (by omega)
     have hrl:(List.replicate (k+1) r.dflt).length=k+1:=List.length_replicate;have hrows:∀i x,(List.replicate (k+1) r.dflt)[i]? =some x->aG w.heap ((aj w0 T γ st w).bM fr) r (((Builtin.zeroCells z.cells (k+1)).toList.drop (i*r.len)).take r.len) x:=by
      intro i x hi;have hilt:i<k+1:=by have:=(aoY.1 hi).1;rw[hrl]at this;exact this
      have hx:x=r.dflt:=by rw[aqO,if_pos hilt]at hi;exact(Option.some.inj hi).symm
      rw[hzr i hilt,hx];exact Qj _ _ r
     have jb:=aah hpos (by rw[hrl];exact hnl) hrows;have hst:=run_storeCells_at P g (lo*r.len) e (Builtin.zeroCells z.cells (k+1)).toList 0 cur w hh (by rw[hnl];omega) jb;simp only[aqa]at hst;refine⟨.tuple #[],_,?_,h.rows ho hγ hh (by rw[hrl];exact hnl) (by rw[hrl];exact hp) hrows,⟨#[],rfl,trivial⟩⟩;rw[hv];simp[Builtin.clear_,aph hu.1 w,hz,hst]
   .cases hc
  .cases hc
 .cases hc
theorem Rel.update(h:Rel w0 M T γ st a w){K D:Nat->Bool}{H:Nat->Prop}{kG:Nat->Option aA}{γ2:Nat->Value}
 (hos:w'.os=w.os) (htape:w'.tape=w.tape) (hout:w'.output=w.output) (hsize:w.heap.size<=w'.heap.size)
 (hH:∀b,H b->∃o x,st.ah o=some x/\blk (γ o)=some b)
 (hheap:∀b,b<w.heap.size->¬H b->w'.heap[b]? =w.heap[b]?)
 (h1:∀p,D p=false->kG p=(st.kill K).ah p/\γ2 p=γ p)
 (h2:∀p x b,D p=false->K p=false->st.ah p=some x->blk (γ p)=some b->¬H b)
 (h3:∀p x,D p=true->kG p=some x->∀b,blk (γ2 p)=some b->b<w'.heap.size/\(w.heap.size<=b\/H b))
 (h3':V.lU K (aj w0 T γ st w) ⟨w',w0.heap.size,T,γ2,kG⟩->∀p x,D p=true->kG p=some x->aV ⟨w',w0.heap.size,T,γ2,kG⟩ p x)
 (h4:∀p q x y b,D p=true->D q=true->kG p=some x->kG q=some y->p≠q->blk (γ2 p)=some b->blk (γ2 q)≠some b)
 (h5:∀p cs,D p=true->K p=false->st.ah p=some (.var cs)->(∃cs',kG p=some (.var cs'))/\γ2 p=γ p)
 (h6:∀p e r l fr,D p=true->K p=false->st.ah p=some (.arr e r l fr)->(∃l' fr',kG p=some (.arr e r l' fr'))/\γ2 p=γ p)
 (h7:∀p cs,D p=true->kG p=some (.var cs)->(∃cs0,st.ah p=some (.var cs0)/\γ2 p=γ p)\/T.N p=none):
 Rel w0 M T γ2 {n:=st.n,tmps:=λt=>(st.tmps t).kill K,ah:=kG} a w'/\V.lU K (aj w0 T γ st w) ⟨w',w0.heap.size,T,γ2,kG⟩:=by
 have hHb:∀b,H b->b<w.heap.size/\(w0.heap.size<=b\/M b):=λb hb=>by obtain⟨o,x,ho,hγ⟩:=hH b hb;exact h.lt o x b ho hγ
 have MC:∀b,(aj w0 T γ st w).foot b->¬H b:=λb hb hh=>by obtain⟨o,x,ho,hγ⟩:=hH b hh;exact hb.2.2 o x ho hγ
 have old:∀p x,D p=false->kG p=some x->∃y,st.ah p=some y/\x=y.kill K/\K p=false:=λp x hD hx=>by rw[(h1 p hD).1]at hx;exact sU K hx
 have le:V.lU K (aj w0 T γ st w) ⟨w',w0.heap.size,T,γ2,kG⟩:=by
  refine⟨aoP _,λb hb=>⟨⟨apd hb.1 hsize,hb.2.1,λo x hx e=>?_⟩,hheap b hb.1 (MC b hb)⟩,λo cs hK ho=>?_,λo e r l fr hK ho=>?_⟩
  .cases hD:D o with
   |false=>
    obtain⟨y,hy,_,_⟩:=old o x hD hx;have e':blk (γ2 o)=some b:=e;rw[(h1 o hD).2]at e';exact hb.2.2 o y hy e'
   |true=>
    rcases(h3 o x hD hx b e).2 with h'|h'
    .have hlt:b<w.heap.size:=hb.1;omega
    .exact MC b hb h'
  .have ho':st.ah o=some (.var cs):=ho;cases hD:D o with
   |false=>
    refine⟨⟨cs.map (Cell.kill K),?_⟩,(h1 o hD).2⟩;show kG o=_;rw[(h1 o hD).1];exact mF K hK ho'
   |true=>exact h5 o cs hD hK ho'
  .have ho':st.ah o=some (.arr e r l fr):=ho;cases hD:D o with
   |false=>
    refine⟨⟨l,fr,?_⟩,(h1 o hD).2⟩;show kG o=_;rw[(h1 o hD).1];exact mF K hK ho'
   |true=>exact h6 o e r l fr hD hK ho'
 refine⟨⟨h.mT,h.defers,h.size,hos.trans h.os,htape.trans h.tape,hout.trans h.output,aoW h.grow hsize,λb hb hM=>?_,λt=>aP.lU le _ _ (h.tmps t),λo x hx=>?_,λo x b hx hb=>?_,λo x p y b hx hy hop hb=>?_,λo v cs hN hx=>?_⟩,le⟩
 .rw[hheap b (apd hb h.grow) λhh=>by
   rcases(hHb b hh).2 with h'|h'
   .omega
   .exact hM h']
  exact h.kept b hb hM
 .cases hD:D o with
  |false=>
   obtain⟨y,hy,rfl,hK⟩:=old o x hD hx;exact aV.lU le o y (λb hb=>hheap b (h.lt o y b hy hb).1 (h2 o y b hD hK hy hb)) (h1 o hD).2 (h.ah o y hy)
  |true=>exact h3' le o x hD hx
 .cases hD:D o with
  |false=>
   obtain⟨y,hy,rfl,hK⟩:=old o x hD hx;rw[(h1 o hD).2]at hb;have:=h.lt o y b hy hb;exact⟨apd this.1 hsize,this.2⟩
  |true=>have:=h3 o x hD hx b hb;exact⟨this.1,this.2.elim (λg=>.inl (aoW h.grow g)) λg=>(hHb b g).2⟩
 .cases hD:D o with
  |false=>
   obtain⟨y1,hy1,rfl,hK1⟩:=old o x hD hx;rw[(h1 o hD).2]at hb;have hbl:=h.lt o y1 b hy1 hb;cases hE:D p with
   |false=>
    obtain⟨y2,hy2,rfl,hK2⟩:=old p y hE hy;rw[(h1 p hE).2];exact h.sep o y1 p y2 b hy1 hy2 hop hb
   |true=>
    intro e;rcases(h3 p y hE hy b e).2 with h'|h'
    .omega
    .exact h2 o y1 b hD hK1 hy1 hb h'
  |true=>
   cases hE:D p with
   |false=>
    obtain⟨y2,hy2,rfl,hK2⟩:=old p y hE hy;rw[(h1 p hE).2];intro e;have hbl:=h.lt p y2 b hy2 e;rcases(h3 o x hD hx b hb).2 with h'|h'
    .omega
    .exact h2 p y2 b hE hK2 hy2 e h'
   |true=>exact h4 o p x y b hD hE hx hy hop hb
 .cases hD:D o with
  |false=>
   obtain⟨y,hy,e,_⟩:=old o _ hD hx;rw[(h1 o hD).2];cases y with
   |var cs'=>exact h.pin o v cs' hN hy
   |arr _ _ _ _=>cases e
  |true=>
   rcases h7 o cs hD hx with⟨cs0,g1,g2⟩|g
   .rw[g2];exact h.pin o v cs0 hN g1
   .rw[g]at hN;cases hN
def Bd(nr:Bool)(st:St)(x:AV)(a:Arg)(o:Option Nat):Prop:=
 (o=none/\(nr=true->x.refs=[])/\ny st [x]=some [a])\/
 (∃p e r l fr,o=some p/\x=.sv (.one (.ref p))/\st.ah p=some (.arr e r l fr)/\a=.own e r l)\/
 (∃p cs,o=some p/\x=.dU p 0/\st.ah p=some (.var cs)/\cs.flatMap Cell.refs=[]/\a=.ptr (cs.map (Cell.view st)))
theorem Gy{m:Mode}{x:AV}{a:Arg}{o:Option Nat}(h:nK st m x=some (a,o)):Bd true st x a o:=by
 cases m with
 |val=>
  simp only[nK]at h;split at h
  .next a' hr ha=>cases h;exact .inl ⟨rfl,λ_=>hr,ha⟩
  .cases h
 |own=>
  simp only[nK]at h;split at h
  .split at h
   .next p _ e r l fr ho=>cases h;exact .inr (.inl ⟨p,e,r,l,fr,rfl,rfl,ho,rfl⟩)
   .cases h
  .cases h
 |ptr=>
  simp only[nK]at h;split at h
  .split at h
   .next p off _ _ cs h0 ho=>
    split at h
    .next hr=>cases h;have h0:=aoM h0;subst h0;exact .inr (.inr ⟨p,cs,rfl,rfl,ho,hr,rfl⟩)
    .cases h
   .cases h
  .cases h
def oJ(nr:Bool)(st:St):List AV->List Arg->List (Option Nat)->Prop
 |[],[],[]=>True
 |x::xs,a::as,o::os=>Bd nr st x a o/\oJ nr st xs as os
 |_,_,_=>False
theorem MF:∀(ms:List Mode)(xs:List AV)(as:List Arg)(os:List (Option Nat)),hands st ms xs=some (as,os)->oJ true st xs as os
 |_,[],as,os,h=>by unfold hands at h;cases h;trivial
 |ms,x::xs,as,os,h=>by
  unfold hands at h;split at h
  .next a o as' os' h1 h2=>cases h;exact⟨Gy h1,MF ms.tail xs as' os' h2⟩
  .cases h
variable {nr:Bool}
theorem oJ.get:∀{xs:List AV}{as:List Arg}{os:List (Option Nat)},oJ nr st xs as os->∀(i:Nat)(a:Arg),as[i]? =some a->∃x o,xs[i]? =some x/\os[i]? =some o/\Bd nr st x a o
 |[],[],[],_,i,a,h=>by simp at h
 |x::xs,b::as,o::os,⟨h1,h2⟩,0,a,h=>by simp at h;subst h;exact⟨x,o,rfl,rfl,h1⟩
 |x::xs,b::as,o::os,⟨h1,h2⟩,i+1,a,h=>by
  obtain⟨y,q,g1,g2,g3⟩:=h2.get i a (by simpa using h);exact⟨y,q,by simpa using g1,by simpa using g2,g3⟩
 |[],[],_::_,H,_,_,_|[],_::_,_,H,_,_,_|_::_,[],_,H,_,_,_|_::_,_::_,[],H,_,_,_=>H.elim
theorem oJ.length:∀{xs:List AV}{as:List Arg}{os:List (Option Nat)},oJ nr st xs as os->as.length=xs.length/\os.length=xs.length
 |[],[],[],_=>⟨rfl,rfl⟩
 |x::xs,b::as,o::os,⟨_,h2⟩=>by simp[h2.length.1,h2.length.2]
 |[],[],_::_,H|[],_::_,_,H|_::_,[],_,H|_::_,_::_,[],H=>H.elim
def γE(os:List (Option Nat))(γ:Nat->Value)(p:Nat):Value:=match os[p / 64]? with|some (some o)=>γ o|_=>undef
theorem Qo{xs:List AV}{as:List Arg}{os:List (Option Nat)}(hh:oJ nr st xs as os){q:Nat}{X:aA}(hq:dW as q=some X):
 ∃o Y,os[q / 64]? =some (some o)/\st.ah o=some Y/\((∃e r l fr,X=.arr e r l false/\Y=.arr e r l fr/\q%64=49)\/(∃cs,X=.var (cs.map (Cell.view st))/\Y=.var cs/\cs.flatMap Cell.refs=[]/\q%64=48)):=by
 unfold dW at hq;split at hq
 .next e r l ha=>
  split at hq
  .next hm=>
   cases hq;have hm:=aoM hm;obtain⟨x,o,_,ho,h1⟩:=hh.get _ _ ha;rcases h1 with⟨_,_,h3⟩|⟨p,e',r',l',fr,rfl,_,hp,h4⟩|⟨p,cs,_,_,_,_,h4⟩
   .exfalso;unfold ny at h3;split at h3
    .split at h3<;>simp at h3
    .split at h3<;>simp at h3
    .split at h3<;>simp at h3
    .cases h3
   .cases h4;exact⟨p,_,ho,hp,.inl ⟨e,r,l,fr,rfl,rfl,hm⟩⟩
   .cases h4
  .cases hq
 .next cs0 ha=>
  split at hq
  .next hm=>
   cases hq;have hm:=aoM hm;obtain⟨x,o,_,ho,h1⟩:=hh.get _ _ ha;rcases h1 with⟨_,_,h3⟩|⟨p,e',r',l',fr,_,_,_,h4⟩|⟨p,cs,rfl,_,hp,hr,h4⟩
   .exfalso;unfold ny at h3;split at h3
    .split at h3<;>simp at h3
    .split at h3<;>simp at h3
    .split at h3<;>simp at h3
    .cases h3
   .cases h4
   .cases h4;exact⟨p,_,ho,hp,.inr ⟨cs,rfl,rfl,hr,hm⟩⟩
  .cases hq
 .cases hq
theorem Jy:∀{os:List (Option Nat)},ve os=true->∀(i j:Nat)(o:Nat),os[i]? =some (some o)->os[j]? =some (some o)->i=j:=by
 have mem:∀(os:List (Option Nat))(i o:Nat),os[i]? =some (some o)->Qc o os=true:=by
  intro os
  induction os with
  |nil=>intro i o h;simp at h
  |cons x os ih=>
   intro i o h;cases i with
   |zero=>simp at h;subst h;simp[Qc]
   |succ i=>
    have:=ih i o (by simpa using h);cases x with
    |none=>rw[Qc];exact this
    |some p=>rw[Qc];split<;>first|rfl|exact this
 intro os
 induction os with
 |nil=>intro _ i j o h;simp at h
 |cons x os ih=>
  intro h i j o hi hj;cases x with
  |none=>
   rw[ve]at h;cases i with
   |zero=>simp at hi
   |succ i=>
    cases j with
    |zero=>simp at hj
    |succ j=>rw[ih h i j o (by simpa using hi) (by simpa using hj)]
  |some p=>
   rw[ve,aoJ]at h;cases i with
   |zero=>
    cases j with
    |zero=>rfl
    |succ j=>
     simp at hi;subst hi;have:=mem os j _ (by simpa using hj);rw[this]at h;simp at h
   |succ i=>
    cases j with
    |zero=>
     simp at hj;subst hj;have:=mem os i _ (by simpa using hi);rw[this]at h;simp at h
    |succ j=>rw[ih h.2 i j o (by simpa using hi) (by simpa using hj)]
theorem aV.SY{Y Z:V}{q p:Nat}{e:TypeId}{r:au}{l:List r.den}{fr fr':Bool}(H:aV Y q (.arr e r l fr))(hγ:Z.γ p=Y.γ q)(hw:Z.w=Y.w)
 (hf:∀b,Y.bM fr b->Z.bM fr' b) (hn:∀b,blk (Y.γ q)=some b->fr'=true->Z.n0<=b):aV Z p (.arr e r l fr'):=by
 obtain⟨xs,hown,hr,_,hx⟩:=H;refine⟨xs,?_,hr,λb hb hfr=>hn b (by rw[← hγ];exact hb) hfr,λi x hi=>?_⟩
 .rw[hγ,hw];exact hown
 .rw[hw];exact aG.mono (λb hb=>⟨hf b hb,rfl⟩) r _ x (hx i x hi)
theorem AL{Y Z:V}(hw:Z.w=Y.w)(hf:∀fr b,Y.bM fr b->Z.bM fr b):∀(cs:List Cell)(vs:List Value),cs.flatMap Cell.refs=[]->ai Y cs vs->ai Z cs vs
 |[],[],_,H=>H
 |c::cs,v::vs,hr,⟨h1,h2⟩=>by
  rw[apR,apz]at hr;refine⟨?_,AL hw hf cs vs hr.2 h2⟩;cases c with
  |ref o=>cases hr.1
  |sl e r l fr=>
   show dF Z.w.heap (Z.bM fr) (.sl e r) v l;rw[hw];exact dF.mono (λb hb=>⟨hf fr b hb,rfl⟩) (.sl e r) v l h1
  |_=>exact h1
 |[],_::_,_,H|_::_,[],_,H=>by cases H
theorem Vz{X:V}:∀(as:List Arg)(us:List Value)(i:Nat),as.length=us.length->(∀j a u,as[j]? =some a->us[j]? =some u->Gu X (i+j) a u)->uH X i as us
 |[],[],_,_,_=>trivial
 |a::as,u::us,i,hl,h=>⟨h 0 a u rfl rfl,Vz as us (i+1) (by simpa using hl) λj b v hb hv=>by
   have:=h (j+1) b v (by simpa using hb) (by simpa using hv);rw[show i+1+j=i+(j+1) by omega];exact this⟩
 |[],_::_,_,hl,_|_::_,[],_,hl,_=>by simp at hl
theorem mO.get{X:V}:∀(xs:List AV)(us:List Value),mO X xs us->xs.length=us.length/\∀(i:Nat)(x:AV)(u:Value),xs[i]? =some x->us[i]? =some u->aP X x u
 |[],[],_=>⟨rfl,λi x u h=>by simp at h⟩
 |x::xs,u::us,⟨h1,h2⟩=>by
  obtain⟨g1,g2⟩:=mO.get xs us h2;refine⟨by simp[g1],λi y v hy hv=>?_⟩;cases i with
  |zero=>simp at hy hv;subst hy hv;exact h1
  |succ i=>exact g2 i y v (by simpa using hy) (by simpa using hv)
 |[],_::_,H|_::_,[],H=>by cases H
theorem Fj:∀{os:List (Option Nat)}{aC:List Eff}{δ:List (Nat×aA)},lQ st os aC=some δ->∀(p:Nat),
 (∀(x:aA),Fw.look δ p=some x->∃i:Nat,os[i]? =some (some p)/\
   ((∃(e:TypeId)(r:au)(l l0:List r.den)(fr:Bool),aC[i]? =some (.arr e r l)/\st.ah p=some (.arr e r l0 fr)/\x=.arr e r l false)\/(∃(cs cs0:List Cell),aC[i]? =some (.var cs)/\st.ah p=some (.var cs0)/\cs.flatMap Cell.refs=[]/\x=.var cs)))/\
 (∀i:Nat,os[i]? =some (some p)->Fw.look δ p=none->gZ os aC p=true)
 |[],aC,δ,h,p=>by
  cases h;exact⟨(λx hx=>by cases hx),(λi hi=>by simp at hi)⟩
 |none::os,aC,δ,h,p=>by
  rw[lQ]at h;obtain⟨h1,h2⟩:=Fj h p;refine⟨λx hx=>?_,λi hi hn=>?_⟩
  .obtain⟨i,g1,g2⟩:=h1 x hx;refine⟨i+1,by simpa using g1,?_⟩;simpa[aqz]using g2
  .cases i with
   |zero=>simp at hi
   |succ i=>rw[gZ];exact h2 i (by simpa using hi) hn
 |some o::os,aC,δ,h,p=>by
  unfold lQ at h;have VA:∀{δ'}(_:lQ st os aC.tail=some δ'),(∀(x:aA),Fw.look δ' p=some x->∃i:Nat,(some o::os)[i]? =some (some p)/\
   ((∃(e:TypeId)(r:au)(l l0:List r.den)(fr:Bool),aC[i]? =some (.arr e r l)/\st.ah p=some (.arr e r l0 fr)/\x=.arr e r l false)\/(∃(cs cs0:List Cell),aC[i]? =some (.var cs)/\st.ah p=some (.var cs0)/\cs.flatMap Cell.refs=[]/\x=.var cs)))/\
   (∀i:Nat,os[i]? =some (some p)->Fw.look δ' p=none->gZ os aC.tail p=true):=by
   intro δ' hδ;obtain⟨h1,h2⟩:=Fj hδ p;refine⟨λx hx=>?_,h2⟩;obtain⟨i,g1,g2⟩:=h1 x hx;exact⟨i+1,by simpa using g1,by simpa[aqz]using g2⟩
  have S9:∀{y:Eff},aC.head?=some y->aC[0]? =some y:=λhy=>by cases aC<;>simp at hy ⊢;exact hy
  have VB:∀(_:gZ os aC.tail p=true),gZ (some o::os) aC p=true:=λg=>by
   rw[gZ];split
   .split
    .rfl
    .exact g
   .exact g
  split at h
  .next δ' hh hδ=>
   cases h;obtain⟨h1,h2⟩:=VA hδ;refine⟨h1,λi hi hn=>?_⟩;cases i with
   |zero=>
    simp at hi;subst hi;rw[gZ,hh];simp
   |succ i=>exact VB (h2 i (by simpa using hi) hn)
  .next e r l f s l0 fr0 δ' hh ho hδ=>
   split at h
   .next hb=>
    cases h;rw[aoJ]at hb;have he:=aoM hb.1;have hr:=au.eq_of_beq r s hb.2;subst he hr;obtain⟨h1,h2⟩:=VA hδ;refine⟨λx hx=>?_,λi hi hn=>?_⟩
    .rw[Fw.look]at hx;split at hx
     .next y hy=>cases hx;exact h1 _ hy
     .split at hx
      .next hpo=>cases hx;have hpo:=aoM hpo;subst hpo;exact⟨0,rfl,.inl ⟨e,r,l,l0,fr0,S9 hh,ho,rfl⟩⟩
      .cases hx
    .rw[Fw.look]at hn;split at hn
     .cases hn
     .next hln=>
      split at hn
      .cases hn
      .next hpo=>
       cases i with
       |zero=>simp at hi;subst hi;simp at hpo
       |succ i=>exact VB (h2 i (by simpa using hi) hln)
   .cases h
  .next cs cs0 δ' hh ho hδ=>
   split at h
   .next hr=>
    cases h;obtain⟨h1,h2⟩:=VA hδ;refine⟨λx hx=>?_,λi hi hn=>?_⟩
    .rw[Fw.look]at hx;split at hx
     .next y hy=>cases hx;exact h1 _ hy
     .split at hx
      .next hpo=>cases hx;have hpo:=aoM hpo;subst hpo;exact⟨0,rfl,.inr ⟨cs,cs0,S9 hh,ho,hr,rfl⟩⟩
      .cases hx
    .rw[Fw.look]at hn;split at hn
     .cases hn
     .next hln=>
      split at hn
      .cases hn
      .next hpo=>
       cases i with
       |zero=>simp at hi;subst hi;simp at hpo
       |succ i=>exact VB (h2 i (by simpa using hi) hln)
   .cases h
  .cases h
theorem BZ:∀{os:List (Option Nat)}{aC:List Eff}{δ:List (Nat×aA)},lQ st os aC=some δ->∀(i p:Nat),os[i]? =some (some p)->
 aC[i]? =some .lose\/(∃(e:TypeId)(r:au)(l:List r.den),aC[i]? =some (.arr e r l)/\∃x:aA,Fw.look δ p=some x)\/(∃(cs:List Cell),aC[i]? =some (.var cs)/\∃x:aA,Fw.look δ p=some x)
 |[],aC,δ,h,i,p,hi=>by simp at hi
 |none::os,aC,δ,h,i,p,hi=>by
  rw[lQ]at h;cases i with
  |zero=>simp at hi
  |succ i=>
   have:=BZ h i p (by simpa using hi);simpa[aqz]using this
 |some o::os,aC,δ,h,i,p,hi=>by
  unfold lQ at h;have S9:∀{y:Eff},aC.head?=some y->aC[0]? =some y:=λhy=>by cases aC<;>simp at hy ⊢;exact hy
  have lk:∀{δ':List (Nat×aA)}{z:aA},(∃x:aA,Fw.look δ' p=some x)->∃x:aA,Fw.look ((o,z)::δ') p=some x:=λ⟨x,hx⟩=>⟨x,by rw[Fw.look,hx]⟩;have lk0:∀{δ':List (Nat×aA)}{z:aA},∃x:aA,Fw.look ((o,z)::δ') o=some x:=by
   intro δ' z;rw[Fw.look];cases Fw.look δ' o with
   |some y=>exact⟨y,rfl⟩
   |none=>simp
  split at h
  .next δ' hh hδ=>
   cases h;cases i with
   |zero=>exact .inl (S9 hh)
   |succ i=>have:=BZ hδ i p (by simpa using hi);simpa[aqz]using this
  .next e r l f s l0 fr0 δ' hh ho hδ=>
   split at h
   .cases h;cases i with
    |zero=>simp at hi;subst hi;exact .inr (.inl ⟨e,r,l,S9 hh,lk0⟩)
    |succ i=>have:=BZ hδ i p (by simpa using hi);rw[aqz]at this;exact this.imp id λg=>g.imp (λ⟨e,r,l,g1,g2⟩=>⟨e,r,l,g1,lk g2⟩) λ⟨cs,g1,g2⟩=>⟨cs,g1,lk g2⟩
   .cases h
  .next cs cs0 δ' hh ho hδ=>
   split at h
   .cases h;cases i with
    |zero=>simp at hi;subst hi;exact .inr (.inr ⟨cs,S9 hh,lk0⟩)
    |succ i=>have:=BZ hδ i p (by simpa using hi);rw[aqz]at this;exact this.imp id λg=>g.imp (λ⟨e,r,l,g1,g2⟩=>⟨e,r,l,g1,lk g2⟩) λ⟨cs,g1,g2⟩=>⟨cs,g1,lk g2⟩
   .cases h
  .cases h
theorem UF{aC:List Eff}{δ:List (Nat×aA)}(h:Ei aC δ=true){o:Nat}{x:aA}(hl:Fw.look δ o=some x):lX aC o=none:=by have:=ao4.1 h _ (tY δ o x hl);simpa using this
theorem aeM{aC:List Eff}{i:Nat}:(∀(e:TypeId)(r:au)(l:List r.den),aC[i]? =some (.arr e r l)->lX aC (i*64+49)=some (.arr e r l false))/\
 (∀cs:List Cell,aC[i]? =some (.var cs)->lX aC (i*64+48)=some (.var cs)):=by
 have h1:(i*64+49) / 64=i:=by omega
 have h2:(i*64+49)%64=49:=by omega
 have h3:(i*64+48) / 64=i:=by omega
 have h4:(i*64+48)%64=48:=by omega
 refine⟨λe r l h=>?_,λcs h=>?_⟩
 .unfold lX;rw[h1,h,h2]
 .unfold lX;rw[h3,h,h4]
theorem II{aC:List Eff}{q:Nat}{X:aA}(h:lX aC q=some X):(∃(e:TypeId)(r:au)(l:List r.den),aC[q / 64]? =some (.arr e r l)/\X=.arr e r l false/\q=q / 64*64+49)\/
 (∃cs:List Cell,aC[q / 64]? =some (.var cs)/\X=.var cs/\q=q / 64*64+48):=by
 unfold lX at h;split at h
 .next e r l he=>
  split at h
  .next hm=>cases h;have:=aoM hm;exact .inl ⟨e,r,l,he,rfl,by omega⟩
  .cases h
 .next cs he=>
  split at h
  .next hm=>cases h;have:=aoM hm;exact .inr ⟨cs,he,rfl,by omega⟩
  .cases h
 .cases h
theorem Rel.Qp(h:Rel w0 M T γ st a w){xs:List AV}{as:List Arg}{os:List (Option Nat)}
 (hh:oJ nr st xs as os) {out:Out} {aC:List Eff} {k:Nat} (acg:k%64=1) {δ:List (Nat×aA)}
 (hb:lQ st os aC=some δ) (hfr:je (st.kill (gZ os aC)) (out.take k).2=true) {e:Ending}
 (hpost:IC (aj w0 T γ st w).foot as (γE os γ) w k out aC e w'):
 ∃v γ',e=.returned v/\Rel w0 M T γ' (((st.kill (gZ os aC)).adds δ).adds (out.take k).2) a w'/\aP (aj w0 T γ' (((st.kill (gZ os aC)).adds δ).adds (out.take k).2) w') (out.take k).1 v:=by
 let S:=(aj w0 T γ st w).foot
 let E:=dW as
 let ge:=γE os γ
 let XE:V:=⟨w,w.heap.size,S,ge,E⟩
 have hge:∀{q o:Nat},os[q / 64]? =some (some o)->ge q=γ o:=λhq=>by show(match os[_ / 64]? with|some (some o)=>γ o|_=>undef)=_;rw[hq]
 have hEs:∀{q:Nat}{X:aA},E q=some X->_:=λhq=>Qo hh hq;have KA:∀b,S b->XE.foot b:=λb hb=>⟨hb.1,λ_=>hb,λq X hq=>by obtain⟨o,Y,ho,hY,_⟩:=hEs hq;show blk (ge q)≠some b;rw[hge ho];exact hb.2.2 o Y hY⟩;have hbl:∀{q:Nat}{X:aA},E q=some X->∀b,blk (ge q)=some b->b<w.heap.size/\(w0.heap.size<=b\/M b):=λhq b hb=>by obtain⟨o,Y,ho,hY,_⟩:=hEs hq;rw[hge ho]at hb;exact h.lt o Y b hY hb
 obtain⟨v,γ',rfl,h1,h2,h3,h4,h5,h6,h7,h8,h9⟩:=hpost
 let δ2:=(out.take k).2
 let K:=gZ os aC
 let H:Nat->Prop:=wJ E ge
 let γ2:Nat->Value:=λq=>match Fw.look δ2 q with|some _=>γ' q|none=>γ q
 let D:Nat->Bool:=λq=>(Fw.look δ q).isSome||(Fw.look δ2 q).isSome
 let kG:Nat->Option aA:=(((st.kill K).adds δ).adds δ2).ah
 have Fp:∀q,kG q=match Fw.look δ2 q with|some y=>some y|none=>match Fw.look δ q with|some y=>some y|none=>(st.kill K).ah q:=λq=>by show(((st.kill K).adds δ).adds δ2).ah q=_;rw[kZ,kZ];cases Fw.look δ2 q<;>cases Fw.look δ q<;>rfl
 have Qq:∀{q:Nat}{y:aA},Fw.look δ2 q=some y->γ2 q=γ' q:=λhq=>by show(match Fw.look δ2 _ with|some _=>_|none=>_)=_;rw[hq]
 have Jz:∀{q:Nat},Fw.look δ2 q=none->γ2 q=γ q:=λhq=>by show(match Fw.look δ2 _ with|some _=>_|none=>_)=_;rw[hq]
 have hH:∀b,H b->∃o x,st.ah o=some x/\blk (γ o)=some b:=by rintro b ⟨q,X,hq,hb⟩;obtain⟨o,Y,ho,hY,_⟩:=hEs hq;rw[hge ho]at hb;exact⟨o,Y,hY,hb⟩
 have hback:∀{q:Nat}{x:aA},Fw.look δ q=some x->∃c,lX aC c=some x/\ge c=γ q/\os[c / 64]? =some (some q)/\
  ((∃(e:TypeId)(r:au)(l l0:List r.den)(fr:Bool),st.ah q=some (.arr e r l0 fr)/\x=.arr e r l false)\/(∃(cs cs0:List Cell),st.ah q=some (.var cs0)/\cs.flatMap Cell.refs=[]/\x=.var cs)):=by
  intro q x hq;obtain⟨i,hi,hk⟩:=(Fj hb q).1 x hq;have d1:(i*64+49) / 64=i:=by omega
  have d3:(i*64+48) / 64=i:=by omega
  rcases hk with⟨e,r,l,l0,fr,g1,g2,rfl⟩|⟨cs,cs0,g1,g2,g3,rfl⟩
  .exact⟨i*64+49,aeM.1 e r l g1,hge (by rw[d1];exact hi),by rw[d1];exact hi,.inl ⟨e,r,l,l0,fr,g2,rfl⟩⟩
  .exact⟨i*64+48,aeM.2 cs g1,hge (by rw[d3];exact hi),by rw[d3];exact hi,.inr ⟨cs,cs0,g2,g3,rfl⟩⟩
 have ajF:∀{q:Nat}{y:aA},lX aC q=some y->∀b,blk (ge q)=some b->b<w.heap.size:=by
  intro q y hq b hbk;have hbk0:=hbk;show b<w.heap.size;have:∃o,os[q / 64]? =some (some o):=by
   have hbk':blk (match os[q / 64]? with|some (some o)=>γ o|_=>undef)=some b:=hbk;cases ho:os[q / 64]? with
   |none=>rw[ho]at hbk';cases hbk'
   |some z=>cases z with
    |none=>rw[ho]at hbk';cases hbk'
    |some o=>exact⟨o,rfl⟩
  obtain⟨o,ho⟩:=this;rw[hge ho]at hbk;have hex:∃Y,st.ah o=some Y:=by
   rcases BZ hb _ _ ho with g|⟨e,r,l,g,x,hx⟩|⟨cs,g,x,hx⟩
   .rcases II hq with⟨e,r,l,g',_⟩|⟨cs,g',_⟩<;>(rw[g]at g';cases g')
   .obtain⟨c,_,_,_,hk⟩:=hback hx;rcases hk with⟨_,_,_,_,_,g,_⟩|⟨_,_,g,_⟩<;>exact⟨_,g⟩
   .obtain⟨c,_,_,_,hk⟩:=hback hx;rcases hk with⟨_,_,_,_,_,g,_⟩|⟨_,_,g,_⟩<;>exact⟨_,g⟩
  obtain⟨Y,hY⟩:=hex;exact(h.lt o Y b hY hbk).1
 let Y2:V:=⟨w',w.heap.size,pI S as aC ge,γ',Fw.look δ2⟩
 have hKH:∀q x b,D q=false->K q=false->st.ah q=some x->blk (γ q)=some b->¬H b:=by
  rintro q x b hD hK hq hbq ⟨c,X,hc,hbc⟩;obtain⟨o,Y,ho,hY,_⟩:=hEs hc;rw[hge ho]at hbc;by_cases hoq:o=q
  .subst hoq;have hD':Fw.look δ o=none:=by
    have:(Fw.look δ o).isSome=false:=by have h0:((Fw.look δ o).isSome||(Fw.look δ2 o).isSome)=false:=hD;rw[aqb]at h0;exact h0.1
    cases hl:Fw.look δ o with|none=>rfl|some _=>rw[hl]at this;cases this
   have:=(Fj hb o).2 _ ho hD';have hK':gZ os aC o=false:=hK;rw[this]at hK';cases hK'
  .exact h.sep o Y q x b hY hq hoq hbc hbq
 have ag2:∀b,Y2.foot b->V.foot ⟨w',w0.heap.size,T,γ2,kG⟩ b:=by
  intro b hbf;refine⟨hbf.1,λhlt=>?_,λq x hq e=>?_⟩
  .have hlt0:b<w0.heap.size:=hlt;have hlt':b<w.heap.size:=apd hlt0 h.grow;rcases(hbf.2.1 hlt').1 with g|⟨c,X,hc,hbc⟩
   .exact g.2.1 hlt
   .exact h.mT b ((hbl hc b hbc).2.resolve_left (by omega))
  .have hq':kG q=some x:=hq;have e':blk (γ2 q)=some b:=e;rw[Fp]at hq';cases hl2:Fw.look δ2 q with
   |some y=>
    rw[Qq hl2]at e';exact hbf.2.2 q y hl2 e'
   |none=>
    rw[Jz hl2]at e';rw[hl2]at hq';cases hl:Fw.look δ q with
    |some y=>
     obtain⟨c,UG,hcg,hco,_⟩:=hback hl;rw[← hcg]at e';have hlt:b<w.heap.size:=ajF UG b e';exact(hbf.2.1 hlt).2 c y UG e'
    |none=>
     rw[hl]at hq';obtain⟨z,hz,_,hKq⟩:=sU K hq';have hlt:=(h.lt q z b hz e').1;rcases(hbf.2.1 hlt).1 with g|g
     .exact g.2.2 q z hz e'
     .exact hKH q z b (by show((Fw.look δ q).isSome||(Fw.look δ2 q).isSome)=false;rw[hl,hl2];rfl) hKq hz e' g
 have aeN:∀fr b,Y2.bM fr b->V.bM ⟨w',w0.heap.size,T,γ2,kG⟩ fr b:=λfr b hbf=>⟨ag2 b hbf.1,λe=>aoW h.grow (hbf.2 e)⟩;have hle2:V.le Y2 ⟨w',w0.heap.size,T,γ2,kG⟩:=by
  have hin:∀{o:Nat}{x:aA},Fw.look δ2 o=some x->kG o=some x:=λhl=>by rw[Fp,hl]
  exact⟨h.grow,λb hbf=>⟨ag2 b hbf,rfl⟩,λo cs hl=>⟨⟨cs,hin hl⟩,Qq hl⟩,λo e r l fr hl=>⟨⟨l,fr,hin hl⟩,Qq hl⟩⟩
 have hmain:=h.update (w':=w') (K:=K) (D:=D) (H:=H) (kG:=kG) (γ2:=γ2) h1 h2 h3 h4 hH h5
  (λq hD=>by
    have h0:((Fw.look δ q).isSome||(Fw.look δ2 q).isSome)=false:=hD;rw[aqb]at h0;have l1:Fw.look δ q=none:=by cases hl:Fw.look δ q with|none=>rfl|some _=>rw[hl]at h0;cases h0.1
    have l2:Fw.look δ2 q=none:=by cases hl:Fw.look δ2 q with|none=>rfl|some _=>rw[hl]at h0;cases h0.2
    exact⟨by rw[Fp,l2,l1],Jz l2⟩)
  hKH
  (λq x hD hq b hbq=>by
    rw[Fp]at hq;cases hl2:Fw.look δ2 q with
    |some y=>
     rw[Qq hl2]at hbq;have:=(h7 q y hl2).2 b hbq;exact⟨this.1,this.2.1⟩
    |none=>
     rw[Jz hl2]at hbq;rw[hl2]at hq;cases hl:Fw.look δ q with
     |some y=>
      obtain⟨c,UG,hcg,hco,hk⟩:=hback hl;rw[← hcg]at hbq;have hlt:=ajF UG b hbq;refine⟨apd hlt h4,.inr ?_⟩;have hcE:∃X,E c=some X:=by
       obtain⟨x',o',hx',ho',hone⟩:=hh.get (c / 64) (as[c / 64]'(by have:=aoY.1 hco;rw[hh.length.1,← hh.length.2];exact this.1)) (aoQ _);rw[hco]at ho';cases ho';rcases hone with⟨g,_⟩|⟨q',e,r,l,fr,g1,_,g2,g3⟩|⟨q',cs,g1,_,g2,_,g3⟩
       .cases g
       .cases g1;rcases hk with⟨e1,r1,l1,l0,fr1,g4,rfl⟩|⟨cs1,cs0,g4,_⟩
        .rcases II UG with⟨_,_,_,_,_,hcq⟩|⟨_,_,g,_⟩
         .refine⟨.arr e r l false,?_⟩;show dW as c=_;have hm:c%64=49:=by omega
          unfold dW;rw[aoQ (by have:=aoY.1 hco;rw[hh.length.1,← hh.length.2];exact this.1),g3,hm]
         .cases g
        .rw[g2]at g4;cases g4
       .cases g1;rcases hk with⟨e1,r1,l1,l0,fr1,g4,rfl⟩|⟨cs1,cs0,g4,_,rfl⟩
        .rw[g2]at g4;cases g4
        .rcases II UG with⟨_,_,_,_,g,_⟩|⟨_,_,_,hcq⟩
         .cases g
         .refine⟨.var (cs.map (Cell.view st)),?_⟩;show dW as c=_;have hm:c%64=48:=by omega
          unfold dW;rw[aoQ (by have:=aoY.1 hco;rw[hh.length.1,← hh.length.2];exact this.1),g3,hm]
      obtain⟨X,hX⟩:=hcE;exact⟨c,X,hX,hbq⟩
     |none=>have h0:((Fw.look δ q).isSome||(Fw.look δ2 q).isSome)=true:=hD;rw[hl,hl2]at h0;cases h0)
  (λ_ q x hD hq=>by
    rw[Fp]at hq;cases hl2:Fw.look δ2 q with
    |some y=>
     rw[hl2]at hq;cases hq;exact aV.mono hle2 q x (λ_ _=>rfl) (Qq hl2) (h7 q x hl2).1
    |none=>
     rw[hl2]at hq;cases hl:Fw.look δ q with
     |some y=>
      rw[hl]at hq;cases hq;obtain⟨c,UG,hcg,hco,hk⟩:=hback hl;obtain⟨g1,g2⟩:=h9 c x UG;have hγq:γ2 q=γ' c:=by rw[Jz hl2,g1];exact hcg.symm
      rcases hk with⟨e,r,l,l0,fr,_,rfl⟩|⟨cs,cs0,_,hr,rfl⟩
      .exact aV.SY (Y:=Y2) g2 hγq rfl (λb hbf=>aeN false b hbf) (λb _ e=>by cases e)
      .obtain⟨b,arr,t,k1,k2,k3⟩:=g2;exact⟨b,arr,t,hγq.trans k1,k2,AL (Y:=Y2) (Z:=⟨w',w0.heap.size,T,γ2,kG⟩) rfl aeN _ _ hr k3⟩
     |none=>have h0:((Fw.look δ q).isSome||(Fw.look δ2 q).isSome)=true:=hD;rw[hl,hl2]at h0;cases h0)
  (λp1 p2 x y b hD1 hD2 hq1 hq2 hne hb1=>by
    rw[Fp]at hq1 hq2;cases l1:Fw.look δ2 p1 with
    |some y1=>
     rw[Qq l1]at hb1;cases l2:Fw.look δ2 p2 with
     |some y2=>rw[Qq l2];exact h8 p1 y1 p2 y2 b l1 l2 hne hb1
     |none=>
      rw[Jz l2];cases m2:Fw.look δ p2 with
      |some y2=>
       obtain⟨c,UG,hcg,hco,hk⟩:=hback m2;rw[← hcg];exact((h7 p1 y1 l1).2 b hb1).2.2 c y2 UG
      |none=>
       have h0:((Fw.look δ p2).isSome||(Fw.look δ2 p2).isSome)=true:=hD2;rw[m2,l2]at h0;cases h0
    |none=>
     rw[Jz l1]at hb1;cases m1:Fw.look δ p1 with
     |none=>
      have h0:((Fw.look δ p1).isSome||(Fw.look δ2 p1).isSome)=true:=hD1;rw[m1,l1]at h0;cases h0
     |some y1=>
      obtain⟨c1,am6,am7,aoq,hk1⟩:=hback m1;cases l2:Fw.look δ2 p2 with
      |some y2=>
       rw[Qq l2];intro e;rw[← am7]at hb1;exact((h7 p2 y2 l2).2 b e).2.2 c1 y1 am6 hb1
      |none=>
       rw[Jz l2];cases m2:Fw.look δ p2 with
       |none=>
        have h0:((Fw.look δ p2).isSome||(Fw.look δ2 p2).isSome)=true:=hD2;rw[m2,l2]at h0;cases h0
       |some y2=>
        obtain⟨c2,aor,aos,aot,hk2⟩:=hback m2;have e1:∃z,st.ah p1=some z:=by rcases hk1 with⟨_,_,_,_,_,g,_⟩|⟨_,_,g,_⟩<;>exact⟨_,g⟩
        have e2:∃z,st.ah p2=some z:=by rcases hk2 with⟨_,_,_,_,_,g,_⟩|⟨_,_,g,_⟩<;>exact⟨_,g⟩
        obtain⟨z1,e1⟩:=e1;obtain⟨z2,e2⟩:=e2;exact h.sep p1 z1 p2 z2 b e1 e2 hne hb1)
  (λq cs hD hK hq=>by
    cases l2:Fw.look δ2 q with
    |some y=>have:=BR hfr l2;rw[mF K hK hq]at this;cases this
    |none=>
     refine⟨?_,Jz l2⟩;cases m2:Fw.look δ q with
     |none=>
      have h0:((Fw.look δ q).isSome||(Fw.look δ2 q).isSome)=true:=hD;rw[m2,l2]at h0;cases h0
     |some y=>
      obtain⟨c,_,_,_,hk⟩:=hback m2;rcases hk with⟨_,_,_,_,_,g,_⟩|⟨cs',_,g,_,rfl⟩
      .rw[hq]at g;cases g
      .exact⟨cs',by rw[Fp,l2,m2]⟩)
  (λq e r l fr hD hK hq=>by
    cases l2:Fw.look δ2 q with
    |some y=>have:=BR hfr l2;rw[mF K hK hq]at this;cases this
    |none=>
     refine⟨?_,Jz l2⟩;cases m2:Fw.look δ q with
     |none=>
      have h0:((Fw.look δ q).isSome||(Fw.look δ2 q).isSome)=true:=hD;rw[m2,l2]at h0;cases h0
     |some y=>
      obtain⟨c,_,_,_,hk⟩:=hback m2;rcases hk with⟨e',r',l',l0,fr',g,rfl⟩|⟨_,_,g,_⟩
      .rw[hq]at g;cases g;exact⟨l',false,by rw[Fp,l2,m2]⟩
      .rw[hq]at g;cases g)
  (λq cs hD hq=>by
    rw[Fp]at hq;cases l2:Fw.look δ2 q with
    |some y=>
     rw[l2]at hq;cases hq;have h0:=out.abW k acg l2;refine .inr ?_;cases hT:T.N q with
     |none=>rfl
     |some v'=>have:=T.n48 q v' hT;omega
    |none=>
     rw[l2]at hq;cases m2:Fw.look δ q with
     |none=>
      have h0:((Fw.look δ q).isSome||(Fw.look δ2 q).isSome)=true:=hD;rw[m2,l2]at h0;cases h0
     |some y=>
      rw[m2]at hq;cases hq;obtain⟨c,_,_,_,hk⟩:=hback m2;rcases hk with⟨_,_,_,_,_,_,g⟩|⟨_,cs0,g,_,_⟩
      .cases g
      .exact .inl ⟨cs0,g,Jz l2⟩)
 refine⟨v,γ2,rfl,?_,aP.mono hle2 _ _ h6⟩;have hst:(((st.kill K).adds δ).adds δ2)={n:=st.n,tmps:=λt=>(st.tmps t).kill K,ah:=kG}:=by
  have e1:=Bc δ2 ((st.kill K).adds δ);have e2:=Bc δ (st.kill K);have gen:∀(s:St)(n:Nat)(t:Nat->AV),s.n=n->s.tmps=t->s={n:=n,tmps:=t,ah:=s.ah}:=λs n t g1 g2=>by cases s;subst g1 g2;rfl
  exact gen _ _ _ (e1.2.trans e2.2) (e1.1.trans e2.1)
 show Rel w0 M T γ2 (((st.kill K).adds δ).adds δ2) a w';rw[hst];exact hmain.1
theorem Rel.aeO{G:jo}(hE:oW P G Θ Γ w0 M)(h:Rel w0 M T γ st a w){xs:List AV}{us:Array Value}{as:List Arg}{os:List (Option Nat)}(hx:mO (aj w0 T γ st w) xs us.toList)
 (hh:oJ true st xs as os) (hnd:ve os=true) {f:FuncId} {con:P7} {p:Prop} {ρ:Ju} {k:Nat} (acg:k%64=1) (hok:zQ P G f con) (hc:con as=some (p,ρ)) (hp:p)
 (hch:∀t,ρ.R t->∃δ,lQ st os (ρ.aC t)=some δ/\je (st.kill (gZ os (ρ.aC t))) ((ρ.out t).take k).2=true/\Ei (ρ.aC t) ((ρ.out t).take k).2=true):
 Calls P f us w λe w'=>∃t δ,ρ.R t/\lQ st os (ρ.aC t)=some δ/\∃v γ',e=.returned v/\
  Rel w0 M T γ' (((st.kill (gZ os (ρ.aC t))).adds δ).adds ((ρ.out t).take k).2) a w'/\aP (aj w0 T γ' (((st.kill (gZ os (ρ.aC t))).adds δ).adds ((ρ.out t).take k).2) w') ((ρ.out t).take k).1 v:=by
 let S:=(aj w0 T γ st w).foot
 let E:=dW as
 let ge:=γE os γ
 let XE:V:=⟨w,w.heap.size,S,ge,E⟩
 have hge:∀{q o:Nat},os[q / 64]? =some (some o)->ge q=γ o:=λhq=>by show(match os[_ / 64]? with|some (some o)=>γ o|_=>undef)=_;rw[hq]
 have hEs:∀{q:Nat}{X:aA},E q=some X->_:=λhq=>Qo hh hq;have KA:∀b,S b->XE.foot b:=λb hb=>⟨hb.1,λ_=>hb,λq X hq=>by obtain⟨o,Y,ho,hY,_⟩:=hEs hq;show blk (ge q)≠some b;rw[hge ho];exact hb.2.2 o Y hY⟩;have hbl:∀{q:Nat}{X:aA},E q=some X->∀b,blk (ge q)=some b->b<w.heap.size/\(w0.heap.size<=b\/M b):=λhq b hb=>by obtain⟨o,Y,ho,hY,_⟩:=hEs hq;rw[hge ho]at hb;exact h.lt o Y b hY hb
 have afK:∀o x,E o=some x->aV XE o x/\∀b,blk (ge o)=some b->b<w.heap.size/\G.n<=b:=by
  intro q X hq;refine⟨?_,λb hb=>⟨(hbl hq b hb).1,?_⟩⟩
  .obtain⟨o,Y,ho,hY,hk⟩:=hEs hq;have hO:=h.ah o Y hY;rcases hk with⟨e,r,l,fr,rfl,rfl,_⟩|⟨cs,rfl,rfl,hr,_⟩
   .exact aV.SY (Z:=XE) hO (hge ho) rfl (λb hb=>⟨KA b hb.1,λe=>by cases e⟩) (λb _ e=>by cases e)
   .obtain⟨b,arr,t,hγ,hheap,hcs⟩:=hO;refine⟨b,arr,t,(hge ho).trans hγ,hheap,?_⟩;have:=Cells.ql h (γ0:=λ_=>undef) cs _ hr hcs;exact AL (Y:=⟨w,w.heap.size,S,λ_=>undef,λ_=>none⟩) (Z:=XE) rfl (λfr b hb=>⟨⟨hb.1.1,λhlt=>hb.1.2.1 hlt,λq' X' hq'=>by obtain⟨o',Y',ho',hY',_⟩:=hEs hq';show blk (ge q')≠some b;rw[hge ho'];exact(hb.1.2.1 hb.1.1).2.2 o' Y' hY'⟩,hb.2⟩) _ _ (by rw[List.flatMap_map];rw[arh]at hr ⊢;intro c hc;have:=hr c hc;cases c<;>first|rfl|(cases this;done)) this
  .rcases(hbl hq b hb).2 with g|g
   .exact aoW (G.low w0 hE.ok) g
   .exact hE.low b g
 have hidx:∀{q q':Nat}{X X':aA},E q=some X->E q'=some X'->q / 64=q' / 64->q=q':=by
  intro q q' X X' hq hq' hi;have key:∀{q:Nat}{X:aA},E q=some X->∃a,as[q / 64]? =some a/\((∃(e:TypeId)(r:au)(l:List r.den),a=.own e r l/\q%64=49)\/∃cs,a=.ptr cs/\q%64=48):=by
   intro q X hq;have hq:dW as q=some X:=hq;unfold dW at hq;split at hq
   .next e r l ha=>
    split at hq
    .next hm=>exact⟨_,ha,.inl ⟨e,r,l,rfl,aoM hm⟩⟩
    .cases hq
   .next cs ha=>
    split at hq
    .next hm=>exact⟨_,ha,.inr ⟨cs,rfl,aoM hm⟩⟩
    .cases hq
   .cases hq
  obtain⟨a1,h1,k1⟩:=key hq;obtain⟨a2,h2,k2⟩:=key hq';rw[hi,h2]at h1;cases h1;rcases k1 with⟨e,r,l,rfl,m1⟩|⟨cs,rfl,m1⟩<;>rcases k2 with⟨e',r',l',k3,m2⟩|⟨cs',k3,m2⟩<;>first|(cases k3;done)|omega
 have hsep:∀o x q y b,E o=some x->E q=some y->o≠q->blk (ge o)=some b->blk (ge q)≠some b:=by intro q1 X1 q2 X2 b h1 h2 hne hb;obtain⟨o1,Y1,ho1,hY1,_⟩:=hEs h1;obtain⟨o2,Y2,ho2,hY2,_⟩:=hEs h2;rw[hge ho1]at hb;rw[hge ho2];refine h.sep o1 Y1 o2 Y2 b hY1 hY2 ?_ hb;rintro rfl;exact hne (hidx h1 h2 (Jy hnd _ _ _ ho1 ho2))
 have hargs:uH XE 0 as us.toList:=by
  obtain⟨hl,hget⟩:=mO.get xs us.toList hx;refine Vz as us.toList 0 (by rw[hh.length.1,hl]) λj b u hb hu=>?_;rw[apg];obtain⟨x,o,hxj,hoj,hone⟩:=hh.get j b hb;have hrep:=hget j x u hxj hu;have d1:(j*64+49) / 64=j:=by omega
  have d2:(j*64+49)%64=49:=by omega
  have d3:(j*64+48) / 64=j:=by omega
  have d4:(j*64+48)%64=48:=by omega
  rcases hone with⟨rfl,hr,ha⟩|⟨q,e,r,l,fr,rfl,rfl,hq,rfl⟩|⟨q,cs,rfl,rfl,hq,hr,rfl⟩
  .have hr:=hr rfl;have hr2:=xu h (γ0:=λ_=>undef) [x] [u] [b] ha (by show x.refs++[]=[];rw[hr];rfl) ⟨hrep,trivial⟩;have hle:V.le ⟨w,w.heap.size,S,λ_=>undef,λ_=>none⟩ XE:=⟨aoP _,λc hcc=>⟨KA c (hcc.2.1 hcc.1),rfl⟩,(λ_ _ hcc=>by cases hcc),(λ_ _ _ _ _ hcc=>by cases hcc)⟩;have hA:=hr2.1;cases b with
   |sv v=>exact dn.mono hle v u hA
   |kp cs=>exact aP.mono hle (.dY cs 0) u hA
   |fn g caps=>exact aP.mono hle (.fn g caps) u hA
   |own _ _ _=>exact hA.elim
   |ptr _=>exact hA.elim
  .obtain⟨_,hu2,hone⟩:=hrep;refine⟨⟨e,r,l,false,?_⟩,?_,hone⟩
   .show dW as (j*64+49)=_;unfold dW;rw[d1,hb,d2]
   .rw[hu2];show _=ge (j*64+49);exact(hge (by rw[d1];exact hoj)).symm
  .obtain⟨c,cs',_,hγ,hv⟩:=hrep;refine⟨c,cs.map (Cell.view st),?_,?_,hv⟩
   .show dW as (j*64+48)=_;unfold dW;rw[d3,hb,d4]
   .exact(hge (by rw[d3];exact hoj)).trans hγ
 refine((hok as p ρ hc hp).2 k S ge us w (hE.at h) hargs afK hsep λt ht o x hl=>?_).mono ?_
 .obtain⟨δ,_,_,h3⟩:=hch t ht;exact UF h3 hl
 .rintro e w' ⟨t,ht,hpost⟩;obtain⟨δ,g1,g2,_⟩:=hch t ht;obtain⟨v,γ',rfl,g3,g4⟩:=h.Qp hh acg g1 g2 hpost;exact⟨t,δ,ht,g1,v,γ',rfl,g3,g4⟩
def Gz(aC:List Eff):Bool:=aC.all λ|.lose=>true|.arr _ _ _=>false|.var cs=>cs.all Cell.made
theorem ach{aC:List Eff}(h:Gz aC=true){q:Nat}{X:aA}(hq:lX aC q=some X):SX X:=by
 rcases II hq with⟨e,r,l,g,_⟩|⟨cs,g,rfl,_⟩
 .have:=ao4.1 h _ (apu g);cases this
 .exact ao4.1 h _ (apu g)
theorem IC.made{S S':Nat->Prop}{args:List Arg}{k:Nat}{out:Out}{aC:List Eff}{e:Ending}(h:IC S args γ w k out aC e w')(hm:out.made=true)(hf:Gz aC=true):IC S' args γ w k out aC e w':=by
 obtain⟨v,γ',rfl,h1,h2,h3,h4,h5,h6,h7,h8,h9⟩:=h;refine⟨v,γ',rfl,h1,h2,h3,h4,h5,(out.Qk k hm _ (pI S' args aC γ) v).1 h6,λo x hl=>⟨?_,(h7 o x hl).2⟩,h8,λo x hq=>⟨(h9 o x hq).1,?_⟩⟩
 .exact aV.made (pI S' args aC γ) o x ((out.Qk k hm ⟨w',w.heap.size,S,γ',look (out.take k).2⟩ (pI S' args aC γ) v).2 _ (tY _ _ _ hl)) (h7 o x hl).1
 .exact aV.made (pI S' args aC γ) o x (ach hf hq) (h9 o x hq).2
theorem Rel.aci{G:jo}(hE:oW P G Θ Γ w0 M)(h:Rel w0 M T γ st a w){xs:List AV}{us:Array Value}{as:List Arg}{os:List (Option Nat)}(hx:mO (aj w0 T γ st w) xs us.toList)
 (hh:oJ false st xs as os) (hnd:ve os=true) {f:FuncId} {con:P7} {p:Prop} {ρ:Ju} {k:Nat} (acg:k%64=1) (hok:zQ P G f con) (hc:con as=some (p,ρ)) (hp:p)
 (hown:∀(q:Nat)(e:TypeId)(r:au)(l:List r.den),dW as q≠some (.arr e r l false)) (ajH:∀t,ρ.R t->(ρ.out t).made=true/\Gz (ρ.aC t)=true)
 (hch:∀t,ρ.R t->∃δ,lQ st os (ρ.aC t)=some δ/\je (st.kill (gZ os (ρ.aC t))) ((ρ.out t).take k).2=true/\Ei (ρ.aC t) ((ρ.out t).take k).2=true):
 Calls P f us w λe w'=>∃t δ,ρ.R t/\lQ st os (ρ.aC t)=some δ/\∃v γ',e=.returned v/\
  Rel w0 M T γ' (((st.kill (gZ os (ρ.aC t))).adds δ).adds ((ρ.out t).take k).2) a w'/\aP (aj w0 T γ' (((st.kill (gZ os (ρ.aC t))).adds δ).adds ((ρ.out t).take k).2) w') ((ρ.out t).take k).1 v:=by
 let E:=dW as
 let ge:=γE os γ
 let S:Nat->Prop:=λb=>b<w.heap.size/\∀q X,E q=some X->blk (ge q)≠some b
 let XE:V:=⟨w,w.heap.size,S,ge,E⟩
 have hge:∀{q o:Nat},os[q / 64]? =some (some o)->ge q=γ o:=λhq=>by show(match os[_ / 64]? with|some (some o)=>γ o|_=>undef)=_;rw[hq]
 have hEs:∀{q:Nat}{X:aA},E q=some X->_:=λhq=>Qo hh hq;have KA:∀b,S b->XE.foot b:=λb hb=>⟨hb.1,λ_=>hb,hb.2⟩;have hS1:∀b,(aj w0 T γ st w).foot b->S b:=λb hb=>⟨hb.1,λq X hq=>by obtain⟨o,Y,ho,hY,_⟩:=hEs hq;rw[hge ho];exact hb.2.2 o Y hY⟩;have hS2:∀o e r l fr b,st.ah o=some (.arr e r l fr)->blk (γ o)=some b->S b:=λo e r l fr b ho hb=>⟨(h.lt o _ b ho hb).1,λq X hq=>by
  obtain⟨o',Y,ho',hY,hk⟩:=hEs hq;rw[hge ho'];rcases hk with⟨e',r',l',fr',rfl,_,_⟩|⟨cs,_,rfl,_,_⟩
  .exact(hown q e' r' l' hq).elim
  .exact h.sep o _ o' _ b ho hY (λe=>by subst e;rw[ho]at hY;cases hY) hb⟩
 have hbl:∀{q:Nat}{X:aA},E q=some X->∀b,blk (ge q)=some b->b<w.heap.size/\(w0.heap.size<=b\/M b):=λhq b hb=>by obtain⟨o,Y,ho,hY,_⟩:=hEs hq;rw[hge ho]at hb;exact h.lt o Y b hY hb
 have afK:∀o x,E o=some x->aV XE o x/\∀b,blk (ge o)=some b->b<w.heap.size/\G.n<=b:=by
  intro q X hq;refine⟨?_,λb hb=>⟨(hbl hq b hb).1,?_⟩⟩
  .obtain⟨o,Y,ho,hY,hk⟩:=hEs hq;have hO:=h.ah o Y hY;rcases hk with⟨e,r,l,fr,rfl,rfl,_⟩|⟨cs,rfl,rfl,hr,_⟩
   .exact aV.SY (Z:=XE) hO (hge ho) rfl (λb hb=>⟨KA b (hS1 b hb.1),λe=>by cases e⟩) (λb _ e=>by cases e)
   .obtain⟨b,arr,t,hγ,hheap,hcs⟩:=hO;refine⟨b,arr,t,(hge ho).trans hγ,hheap,?_⟩;have:=Cells.ql h (γ0:=λ_=>undef) cs _ hr hcs;exact AL (Y:=⟨w,w.heap.size,(aj w0 T γ st w).foot,λ_=>undef,λ_=>none⟩) (Z:=XE) rfl (λfr b hb=>⟨⟨hb.1.1,λhlt=>hS1 b (hb.1.2.1 hlt),(hS1 b (hb.1.2.1 hb.1.1)).2⟩,hb.2⟩) _ _ (by rw[List.flatMap_map];rw[arh]at hr ⊢;intro c hc;have:=hr c hc;cases c<;>first|rfl|(cases this;done)) this
  .rcases(hbl hq b hb).2 with g|g
   .exact aoW (G.low w0 hE.ok) g
   .exact hE.low b g
 have hidx:∀{q q':Nat}{X X':aA},E q=some X->E q'=some X'->q / 64=q' / 64->q=q':=by
  intro q q' X X' hq hq' hi;have key:∀{q:Nat}{X:aA},E q=some X->∃a,as[q / 64]? =some a/\((∃(e:TypeId)(r:au)(l:List r.den),a=.own e r l/\q%64=49)\/∃cs,a=.ptr cs/\q%64=48):=by
   intro q X hq;have hq:dW as q=some X:=hq;unfold dW at hq;split at hq
   .next e r l ha=>
    split at hq
    .next hm=>exact⟨_,ha,.inl ⟨e,r,l,rfl,aoM hm⟩⟩
    .cases hq
   .next cs ha=>
    split at hq
    .next hm=>exact⟨_,ha,.inr ⟨cs,rfl,aoM hm⟩⟩
    .cases hq
   .cases hq
  obtain⟨a1,h1,k1⟩:=key hq;obtain⟨a2,h2,k2⟩:=key hq';rw[hi,h2]at h1;cases h1;rcases k1 with⟨e,r,l,rfl,m1⟩|⟨cs,rfl,m1⟩<;>rcases k2 with⟨e',r',l',k3,m2⟩|⟨cs',k3,m2⟩<;>first|(cases k3;done)|omega
 have hsep:∀o x q y b,E o=some x->E q=some y->o≠q->blk (ge o)=some b->blk (ge q)≠some b:=by intro q1 X1 q2 X2 b h1 h2 hne hb;obtain⟨o1,Y1,ho1,hY1,_⟩:=hEs h1;obtain⟨o2,Y2,ho2,hY2,_⟩:=hEs h2;rw[hge ho1]at hb;rw[hge ho2];refine h.sep o1 Y1 o2 Y2 b hY1 hY2 ?_ hb;rintro rfl;exact hne (hidx h1 h2 (Jy hnd _ _ _ ho1 ho2))
 have hargs:uH XE 0 as us.toList:=by
  obtain⟨hl,hget⟩:=mO.get xs us.toList hx;refine Vz as us.toList 0 (by rw[hh.length.1,hl]) λj b u hb hu=>?_;rw[apg];obtain⟨x,o,hxj,hoj,hone⟩:=hh.get j b hb;have hrep:=hget j x u hxj hu;have d1:(j*64+49) / 64=j:=by omega
  have d2:(j*64+49)%64=49:=by omega
  have d3:(j*64+48) / 64=j:=by omega
  have d4:(j*64+48)%64=48:=by omega
  rcases hone with⟨rfl,hr,ha⟩|⟨q,e,r,l,fr,rfl,rfl,hq,rfl⟩|⟨q,cs,rfl,rfl,hq,hr,rfl⟩
  .have hr2:=BU h (γ0:=λ_=>undef) hS1 hS2 [x] [u] [b] ha ⟨hrep,trivial⟩;have hle:V.le ⟨w,w.heap.size,S,λ_=>undef,λ_=>none⟩ XE:=⟨aoP _,λc hcc=>⟨KA c (hcc.2.1 hcc.1),rfl⟩,(λ_ _ hcc=>by cases hcc),(λ_ _ _ _ _ hcc=>by cases hcc)⟩;have hA:=hr2.1;cases b with
   |sv v=>exact dn.mono hle v u hA
   |kp cs=>exact aP.mono hle (.dY cs 0) u hA
   |fn g caps=>exact aP.mono hle (.fn g caps) u hA
   |own _ _ _=>exact hA.elim
   |ptr _=>exact hA.elim
  .obtain⟨_,hu2,hone⟩:=hrep;refine⟨⟨e,r,l,false,?_⟩,?_,hone⟩
   .show dW as (j*64+49)=_;unfold dW;rw[d1,hb,d2]
   .rw[hu2];show _=ge (j*64+49);exact(hge (by rw[d1];exact hoj)).symm
  .obtain⟨c,cs',_,hγ,hv⟩:=hrep;refine⟨c,cs.map (Cell.view st),?_,?_,hv⟩
   .show dW as (j*64+48)=_;unfold dW;rw[d3,hb,d4]
   .exact(hge (by rw[d3];exact hoj)).trans hγ
 refine((hok as p ρ hc hp).2 k S ge us w (hE.at h) hargs afK hsep λt ht o x hl=>?_).mono ?_
 .obtain⟨δ,_,_,h3⟩:=hch t ht;exact UF h3 hl
 .rintro e w' ⟨t,ht,hpost⟩;obtain⟨δ,g1,g2,_⟩:=hch t ht;obtain⟨v,γ',rfl,g3,g4⟩:=h.Qp hh acg g1 g2 (hpost.made (ajH t ht).1 (ajH t ht).2);exact⟨t,δ,ht,g1,v,γ',rfl,g3,g4⟩
theorem aai{base size n:Nat}{e:TypeId}{v:Value}{xs:List Value}(hown:w.ownsRow base e size v n xs):v.oneCell'=true/\(∀ad,v≠ .pointer (some ad)):=by rcases hown.2 with⟨h1,_⟩|⟨g,cap,cur,h1,_⟩<;>rw[h1]<;>exact⟨rfl,λ_ e=>by cases e⟩
theorem TM(hΘ:∀t ti,Θ t=some ti->kC P t ti)(h:Rel w0 M T γ st a w){t ty e:TypeId}{ti te:TI}(ht:Θ t=some ti)(hk:ti.kind=.slice e)(he:Θ e=some te)(k:Nat)(hpos:0<te.cells.len)
 {y:Cell} {news:List te.cells.den} {src:Value} (hy:aN (aj w0 T γ st w) y src)
 (hget:y.get st (.sl e te.cells)=some news) (hbig:news.length<=big):
 ∃u w' γ',(Builtin.append_ #[t,t] ty #[.slice none 0 0,src]).run P w=.ok u w'/\Rel w0 M T γ' ((st.kill (Nat.beq k ·)).add k (.arr e te.cells news (y.sS te.cells st))) a w'/\
  aP (aj w0 T γ' ((st.kill (Nat.beq k ·)).add k (.arr e te.cells news (y.sS te.cells st))) w') (.sv (.one (.ref k))) u:=by
 obtain⟨v',w',ns,hrun,hown',hg,hnr,hgb⟩:=IG (P:=P) (ty:=ty) (hΘ t ti ht) hk (hΘ e te he) hpos (aqT w 0 e te.cells.len) (Cell.ab8 h hy hget) (by omega);rw[apg,apD]at hown';have ho:=aai hown';have hnb:∀g,blk v'=some g->(some g=none\/w.heap.size<=g)/\g<w'.heap.size:=by
  intro g hb;refine⟨.inr ?_,aaf hown' g hb⟩;rcases hgb g (by rw[Gw ho.2];exact hb)with h1|h1
  .cases h1
  .exact h1
 obtain⟨hR,_⟩:=h.replace (w':=w') (o:=k) (v':=v') (x':=.arr e te.cells news (y.sS te.cells st)) none (.inl rfl) hg.os hg.tape hg.output hg.size
  (λb hb hne=>hg.block b hb (by intro e1;cases e1)) hnb (λ_ e=>by cases e) (λle=>by
    refine⟨ns,?_,hpos,?_,λi x hi=>?_⟩
    .show w'.ownsRow 0 e te.cells.len (upd γ k v' k) _ _;rw[upd_same];exact hown'
    .intro b hb hf;have hb:blk (upd γ k v' k)=some b:=hb;rw[upd_same]at hb;rcases(hnb b hb).1 with h1|h1
     .cases h1
     .exact aoW h.grow h1
    .exact aG.mono (λc hc=>le.bM _ c hc) _ _ x (hnr i x hi))
 exact⟨v',w',_,hrun,hR,⟨e,te.cells,_,_,add_same _ _ _⟩,(upd_same _ _ _).symm,ho.1⟩
theorem acj(hΘ:∀t ti,Θ t=some ti->kC P t ti)(h:Rel w0 M T γ st a w){t f e:TypeId}{ti te:TI}(ht:Θ t=some ti)(hk:ti.kind=.slice f)(he:Θ f=some te){o:Nat}{r:au}{l:List r.den}{fr:Bool}
 (ho:st.ah o=some (.arr e r l fr)) {v:Value} (hv:aN (aj w0 T γ st w) (.ref o) v) {hi:Option Operand} {p:Prop} {x y:Nat} (hb:kW st l.length none hi=some (p,x,y)) (hp:p):
 ∃u γ',(Instr.sliceAt t v none (hi.map a.eval) none).run P w=.ok u w/\Rel w0 M T γ' ((st.kill (Nat.beq o ·)).add o (.arr e r (l.take y) fr)) a w/\
  aP (aj w0 T γ' ((st.kill (Nat.beq o ·)).add o (.arr e r (l.take y) fr)) w) (.sv (.one (.ref o))) u:=by
 obtain⟨_,hvγ,_⟩:=hv;have hvγ:v=γ o:=hvγ;subst hvγ;obtain⟨xs,hown,hpos,hfr,hrow⟩:=h.ah o _ ho;have hown:w.ownsRow 0 e r.len (γ o) l.length xs:=hown;have hx0:x=0:=by
  cases hi with
  |none=>simp only[kW]at hb;cases hb;rfl
  |some hh=>
   simp only[kW]at hb;split at hb
   .cases hb;rfl
   .cases hb
 subst hx0;have hu:=(hΘ t ti ht).und;rw[hk]at hu;obtain⟨h1,h2⟩:=hown;have key:∃u,(Instr.sliceAt t (γ o) none (hi.map a.eval) none).run P w=.ok u w/\w.ownsRow 0 e r.len u y (xs.take (y*r.len))/\blk u=blk (γ o)/\y<=l.length:=by
  rcases h2 with⟨hn,hl0⟩|⟨g,cap,cur,hg,hg0,hh,hle,hmax,hsz,htake⟩
  .have hn:γ o=.slice none 0 0:=hn;obtain⟨hr,h3,h4⟩:=o7 (P:=P) h (len:=l.length) (cap:=0) (by omega) hb hp true;have hy:y=0:=by omega
   refine⟨.slice none 0 0,?_,?_,by rw[hn],h4⟩
   .rw[hn];simp only[aqo]at hr;rw[hl0]at hr;simp[Instr.sliceAt,Instr.slice,ao9,aph hu.1 w,hr,(hΘ f te he).run_sizeOf,hy]
   .rw[hy,aqJ,aqH];exact aqT w 0 e r.len
  .have hg:γ o=.slice (some ⟨g,0,none⟩) l.length cap:=hg;obtain⟨hr,h3,h4⟩:=o7 (P:=P) h (len:=l.length) (cap:=cap) hle hb hp true;have hmul:y*r.len<=l.length*r.len:=ao8 _ h4;refine⟨.slice (some ⟨g,0,none⟩) y cap,?_,⟨?_,.inr ⟨g,cap,cur,rfl,hg0,hh,aoW h4 hle,hmax,hsz,?_⟩⟩,by rw[hg];rfl,h4⟩
   .rw[hg];simp only[aqo]at hr;simp only[Instr.sliceAt,Instr.slice,ao9,aph hu.1 w,apA,hr,(hΘ f te he).run_sizeOf];simp[addr_add]
   .rw[ao2,h1];omega
   .rw[← htake,ard,aq6 hmul]
 obtain⟨u,hrun,hown',hblk,hyl⟩:=key;have hone:=aai hown';obtain⟨hR,_⟩:=h.replace (w':=w) (o:=o) (v':=u) (x':=.arr e r (l.take y) fr) (blk (γ o)) (.inr ⟨_,ho,rfl⟩) rfl rfl rfl (aoP _) (λ_ _ _=>rfl)
  (λg hg=>⟨.inl (by rw[← hblk,hg]),(h.lt o _ g ho (by rw[← hblk,hg])).1⟩) (λ_ e=>by cases e) (λle=>by
    have hlen:(l.take y).length=y:=by rw[ao2];omega
    refine⟨xs.take (y*r.len),?_,hpos,?_,λi z hi=>?_⟩
    .rw[hlen];show w.ownsRow 0 e r.len (upd γ o u o) _ _;rw[upd_same];exact hown'
    .intro b hb hf;have hb:blk (upd γ o u o)=some b:=hb;rw[upd_same,hblk]at hb;exact hfr b hb hf
    .have hil:i<y:=by rw[← hlen];exact(aoY.1 hi).1
     have hmul:i*r.len+r.len<=y*r.len:=by have:(i+1)*r.len<=y*r.len:=ao8 _ hil;rw[apq]at this;simpa using this
     rw[apm,if_pos hil]at hi;rw[fO _ _ _ _ hmul];exact aG.mono (λc hc=>le.bM _ c hc) _ _ z (hrow i z hi))
 exact⟨u,_,hrun,hR,⟨e,r,_,_,add_same _ _ _⟩,(upd_same _ _ _).symm,hone.1⟩
theorem aaj{G:jo}(hE:oW P G Θ Γ w0 M)(h:Rel w0 M T γ st a w)(o:Oper){d:Nat}{p:Prop}{v:AV}{s:St}
 (hc:eff Θ Γ d st o.op=some (p,v,s)) (hp:p) {next:Act->World->Prop} {Q:Exit->Act->World->Prop}
 (hn:∀u γ' w',Rel w0 M T γ' s a w'->aP (aj w0 T γ' s w') v u->next (a.put o.dst u) w'):o.wp P a w next Q:=by
 cases hop:o.op<;>rw[hop]at hc<;>try (simp only[eff,reduceCtorEq]at hc;done)
 case store t x y=>
  simp only[eff]at hc;split at hc
  .next sv ti hev ht=>
   split at hc
   .next hlen=>
    split at hc
    .next q s' hs=>
     cases hc;have hF:=h.freeze (yG (st.ev x) sv);have hy:=iC h y;rw[hev]at hy;have hpv:=aP.freeze (yG (st.ev x) sv) h _ _ (iC h x);have hyv:=dn.freeze (yG (st.ev x) sv) h _ _ hy;have hl2:(sv.freeze st (yG (st.ev x) sv)).cells.length=ti.cells.len:=by have h1:=ai.length _ _ (dn.cells _ _ hyv);have h2:=ai.length _ _ (dn.cells _ _ hy);have h3:=aoM hlen;omega
     obtain⟨w',hr,hR⟩:=aae (P:=P) hE.types hF ht hs hp hpv hyv hl2;have hr2:(execOp a.eval o).run P w=.ok .skip w':=by simp[execOp,hop,hr]
     unfold Oper.wp;rw[hr2];exact hn undef γ w' hR trivial
    .cases hc
   .cases hc
  .cases hc
 case buildSlice t len parts=>
  simp only[eff]at hc;split at hc
  .next q v' δ hcalm=>
   split at hc
   .next hfr=>cases hc;exact Fh hE (h.freeze ((kV st parts.toList).contains ·)) o (by rw[hop];exact hcalm) hp hfr hn
   .cases hc
  .cases hc
 case slice t x lo hi mx=>
  cases mx with
  |some m=>simp only[eff,reduceCtorEq]at hc
  |none=>
   cases lo with
   |none=>
    simp only[eff]at hc;split at hc
    .next ti r ht hev=>
     have hx:=mG h hev;split at hc
     .next f e rr l fr hk ho=>
      split at hc
      .next te q i j he hb=>
       split at hc
       .next hbeq=>cases hc;obtain⟨u,γ',hr,hR,hv⟩:=acj (P:=P) hE.types h ht hk he ho hx hb hp;refine Oper.kP (u:=u) (w':=w) ?_ (hn u γ' w hR hv);simp[execOp,hop,hr]
       .cases hc
      .cases hc
     .cases hc
    .cases hc
   |some l0=>
    simp only[eff]at hc;split at hc
    .next ti r ht hev=>
     split at hc
     .next f e rr l fr hk ho=>
      split at hc
      .next te q i j he hb=>
       split at hc
       .next hbeq=>
        split at hc
        .next q' v' hq=>cases hc;exact Fh (δ:=[]) hE (h.freeze (Nat.beq r ·)) o (by rw[hop];exact hq) hp rfl hn
        .cases hc
       .cases hc
      .cases hc
     .cases hc
    .cases hc
 case call c=>
  obtain⟨callee,args,nO⟩:=c;cases callee with
  |invoke r m=>simp only[eff,reduceCtorEq]at hc
  |builtin b=>
   cases b<;>try (simp only[eff,reduceCtorEq]at hc;done)
   case append=>
    simp only[eff]at hc;split at hc
    .next sx x t u hargs Gv=>
     split at hc
     .next ti c y htu ht hes hex=>
      have htu:=aoM htu;subst htu;have ha:args.map a.eval=#[a.eval sx,a.eval x]:=by apply aqj;simp[hargs]
      have ht':nO=#[t,t]:=by apply aqj;simp[Gv]
      have hrun:execOp a.eval o=(do pure (Next.value (← Builtin.append_ #[t,t] o.type #[a.eval sx,a.eval x]))):=by rw[vz hop,ha,ht'];rfl
      have h1:=mG h hes;have h2:=mG h hex;split at hc
      .next e hk=>
       split at hc
       .next te he=>
        split at hc
        .next news r hget=>
         split at hc
         .next f rr l fr ho=>
          split at hc
          .next hbeq=>
           split at hc
           .next hef=>cases hc;have hef:=aoM hef;subst hef;obtain⟨v',w',γ',hr,hR,hv⟩:=aa7 (P:=P) (ty:=o.type) hE.types h ht hk he ho hbeq h1 h2 hget hp;exact Oper.kP (by rw[hrun];exact Kv hr) (hn v' γ' w' hR hv)
           .cases hc
          .cases hc
         .cases hc
        .next news hget=>
         split at hc
         .next MB=>cases hc;have hs0:a.eval sx=.slice none 0 0:=h1;obtain⟨v',w',γ',hr,hR,hv⟩:=TM (P:=P) (ty:=o.type) hE.types h ht hk he (d*64+1) (apL MB) h2 hget hp;exact Oper.kP (by rw[hrun,hs0];exact Kv hr) (hn v' γ' w' hR hv)
         .cases hc
        .cases hc
       .cases hc
      .cases hc
     .next ti o1 vX n0 o2 lo2 n2 htu ht hes hex=>
      have htu:=aoM htu;subst htu;have ha:args.map a.eval=#[a.eval sx,a.eval x]:=by apply aqj;simp[hargs]
      have ht':nO=#[t,t]:=by apply aqj;simp[Gv]
      have hrun:execOp a.eval o=(do pure (Next.value (← Builtin.append_ #[t,t] o.type #[a.eval sx,a.eval x]))):=by rw[vz hop,ha,ht'];rfl
      obtain⟨v',w',hr,hR,hv⟩:=TL (P:=P) (ty:=o.type) hE.types h ht hes hex hc hp;exact Oper.kP (by rw[hrun];exact Kv hr) (hn v' γ w' hR hv)
     .cases hc
    .cases hc
   case clear=>
    simp only[eff]at hc;split at hc
    .next x t hargs Gv=>
     split at hc
     .next ti o1 lo n ht hev=>
      have ha:args.map a.eval=#[a.eval x]:=by apply aqj;simp[hargs]
      have ht':nO=#[t]:=by apply aqj;simp[Gv]
      have hrun:execOp a.eval o=(do pure (Next.value (← Builtin.clear_ #[t] o.type #[a.eval x]))):=by rw[vz hop,ha,ht'];rfl
      obtain⟨v',w',hr,hR,hv⟩:=Vy (P:=P) (ty:=o.type) hE.types h ht hev hc hp;exact Oper.kP (by rw[hrun];exact Kv hr) (hn v' γ w' hR hv)
     .cases hc
    .cases hc
  |value x=>
   simp only[eff]at hc;split at hc
   .next f caps hx=>
    have hv:=iC h x;rw[hx]at hv;obtain⟨us,Xf,hkx⟩:=hv;split at hc
    .next con hcon=>
     split at hc
     .next vs hargs hrefs=>
      split at hc
      .next q out hq=>
       split at hc
       .next hfr=>cases hc;have hF:=h.freeze (abR st args.toList caps);obtain⟨hok,hcall⟩:=hE.cons f con hcon;unfold Oper.wp;rw[IE hop Xf hcall,arx];have hrep:=xu hF (γ0:=λ_=>undef) _ _ vs hargs hrefs (mO.freeze _ h _ _ (BV h hkx args.toList));rw[← aqK,← aqN]at hrep;refine(hok vs _ out (d*64+1) _ (args.map a.eval++us) w hq hp (hE.at h) hrep).mono ?_;rintro e w' ⟨u,vals,rfl,h1,h2,h3,h4,h5,h6,h7,h8⟩;obtain⟨γ',g1,g2⟩:=hF.called (by omega) hfr h1 h2 h3 h4 h5 (.inr rfl) h6 h7 h8;exact hn u γ' w' g1 g2
       .cases hc
      .cases hc
     .cases hc
    .cases hc
   .cases hc
theorem ag3{G:jo}(hE:oW P G Θ Γ w0 M)(h:Rel w0 M T γ st a w)(o:Oper){d:Nat}{p:Prop}{ρ:Ju}{os:List (Option Nat)}{s0:St}
 (hc:Xb Γ st o.op=some (p,ρ,os,s0)) (hp:p) (hch:∀t,ρ.R t->∃r,L8 d s0 os (ρ.out t) (ρ.aC t)=some r) {next:Act->World->Prop} {Q:Exit->Act->World->Prop}
 (hn:∀t v s u γ' w',ρ.R t->L8 d s0 os (ρ.out t) (ρ.aC t)=some (v,s)->Rel w0 M T γ' s a w'->aP (aj w0 T γ' s w') v u->next (a.put o.dst u) w'):o.wp P a w next Q:=by
 unfold Xb at hc;split at hc
 case h_2=>cases hc
 next x args nO hop=>
 split at hc
 case h_2=>cases hc
 next f caps hx=>
 have hv:=iC h x;rw[hx]at hv;obtain⟨us,Xf,hkx⟩:=hv;split at hc
 case h_2=>cases hc
 next ms con hcon=>
 split at hc
 case h_2=>cases hc
 next vs os' Qr=>
 split at hc
 case h_2=>cases hc
 next q ρ' hq=>
 cases hc;have hF:=h.freeze (SL st ms args.toList caps);obtain⟨hok,hcall⟩:=hE.aby f ms con hcon;unfold Oper.wp;rw[IE hop Xf hcall,arx];have hxs:mO (aj w0 T γ (Gs st ms args.toList caps) w) (agZ st ms args.toList caps) (args.map a.eval++us).toList:=by rw[aqN,aqK];exact mO.freeze (SL st ms args.toList caps) h _ _ (BV h hkx args.toList)
 have hk:(d*64+1)%64=1:=by omega
 have hspec:∀t,ρ.R t->∃δ,(ve os=true/\Ei (ρ.aC t) ((ρ.out t).take (d*64+1)).2=true)/\lQ (Gs st ms args.toList caps) os (ρ.aC t)=some δ/\je ((Gs st ms args.toList caps).kill (gZ os (ρ.aC t))) ((ρ.out t).take (d*64+1)).2=true/\
  L8 d (Gs st ms args.toList caps) os (ρ.out t) (ρ.aC t)=some (((ρ.out t).take (d*64+1)).1,(((Gs st ms args.toList caps).kill (gZ os (ρ.aC t))).adds δ).adds ((ρ.out t).take (d*64+1)).2):=by
  intro t ht;obtain⟨r,hr⟩:=hch t ht;unfold L8 at hr;split at hr
  .next δ hnd hb hfr=>rw[aoJ]at hnd;refine⟨δ,hnd,hb,hfr,?_⟩;unfold L8;rw[hnd.1,hnd.2,hb,hfr];rfl
  .cases hr
 obtain⟨t0,ht0⟩:=(hok vs _ ρ hq hp).1;obtain⟨_,⟨hnd,_⟩,_⟩:=hspec t0 ht0;refine(hF.aeO hE hxs (MF ms _ vs os Qr) hnd hk hok hq hp λt ht=>?_).mono ?_
 .obtain⟨δ,g1,g2,g3,_⟩:=hspec t ht;exact⟨δ,g2,g3,g1.2⟩
 .rintro e w' ⟨t,δ,ht,hb,u,γ',rfl,g1,g2⟩;obtain⟨δ',_,g3,_,g4⟩:=hspec t ht;have hδ:δ'=δ:=Option.some.inj (g3.symm.trans hb);subst hδ;exact hn t _ _ u γ' w' ht g4 g1 g2
theorem afL{G:jo}(hE:oW P G Θ Γ w0 M)(h:Rel w0 M T γ st a w)(o:Oper){d:Nat}{p:Prop}{v:AV}{s:St}
 (hc:oper Θ Γ d st o.op=some (p,v,s)) (hp:p) {next:Act->World->Prop} {Q:Exit->Act->World->Prop}
 (hn:∀u γ' w',Rel w0 M T γ' s a w'->aP (aj w0 T γ' s w') v u->next (a.put o.dst u) w'):o.wp P a w next Q:=by
 unfold oper at hc;split at hc
 .next q v' δ hcalm=>
  split at hc
  .next hfr=>cases hc;exact Fh hE h o hcalm hp hfr hn
  .cases hc
 .exact aaj hE h o hc hp hn
end Go.Fw
namespace Go.Fw
open Go
structure St.more(st s:St):Prop where
 tmps:∀t,st.tmps t=.undef\/s.tmps t=st.tmps t
 ah:∀o x,st.ah o=some x->s.ah o=some x
variable {st s:St} {Θ:iO} {Γ:jU}
theorem F8(h:st.more s)(x:Operand):st.ev x=.undef\/s.ev x=st.ev x:=by
 cases x with
 |tmp t=>exact h.tmps t
 |const v=>exact .inr rfl
 |global g=>exact .inr rfl
 |func f=>exact .inr rfl
theorem aZ(h:st.more s){x:Operand}{v:AV}(e:st.ev x=v)(hv:v≠ .undef):s.ev x=v:=by
 rcases F8 h x with h1|h1
 .rw[e]at h1;exact absurd h1 hv
 .rw[h1,e]
theorem nD(h:st.more s){x:Operand}{n:Int}(e:qB (st.ev x)=some n):qB (s.ev x)=some n:=by
 rcases F8 h x with h1|h1
 .rw[h1]at e;cases e
 .rw[h1];exact e
theorem VD(h:st.more s):∀(c:CT)(x:Cell)(d:c.den),x.get st c=some d->x.get s c=some d:=by
 intro c x d hg;cases c<;>cases x<;>simp only[Cell.get]at hg ⊢<;>try exact hg
 case sl.ref e r o=>
  split at hg
  .next e' r' l fr ho=>rw[h.ah o _ ho];exact hg
  .cases hg
theorem UH(h:st.more s):∀(r:au)(cs:List Cell)(d:r.den),wV st r cs=some d->wV s r cs=some d
 |.nil,[],_,hg=>hg
 |.nil,_::_,_,hg=>by simp[wV]at hg
 |.cons _ _,[],_,hg=>by simp[wV]at hg
 |.cons c r,x::xs,d,hg=>by
  rw[wV]at hg ⊢;split at hg
  .next a b ha hb=>rw[VD h c x a ha,UH h r xs b hb];exact hg
  .cases hg
theorem Qs(h:st.more s)(fs:List (Nat×TypeId)):∀(ps:List (Nat×Operand))(cs ds:List Cell),Ba Θ st fs ps cs=some ds->Ba Θ s fs ps cs=some ds
 |[],_,_,hb=>hb
 |(i,x)::r,cs,ds,hb=>by
  rw[Ba]at hb ⊢;split at hb
  .next off t v hf hev=>
   rw[hf,aZ h hev (by simp)];dsimp only;split at hb
   .next ti ht=>
    split at hb
    .next hle=>exact Qs h fs r _ ds hb
    .cases hb
   .cases hb
  .cases hb
theorem UI(h:st.more s)(r:au):∀(ps:List (Nat×Operand))(k:Nat)(l:List r.den),zM st r k ps=some l->zM s r k ps=some l
 |[],_,_,hb=>hb
 |(i,x)::ps,k,l,hb=>by
  rw[zM]at hb ⊢;split at hb
  .next v l' hik hev hl=>
   rw[hik,aZ h hev (by simp),UI h r ps (k+1) l' hl];dsimp only;split at hb
   .next y hy=>rw[UH h r _ y hy];exact hb
   .cases hb
  .cases hb
theorem Qu(r:au):∀(ps:List (Nat×Operand))(k:Nat)(l:List r.den),zM st r k ps=some l->∀x∈ps,∃v,st.ev x.2=.sv v
 |[],_,_,_,x,hx=>by cases hx
 |(i,y)::ps,k,l,hb,x,hx=>by
  rw[zM]at hb;split at hb
  .next v l' hik hev hl=>
   rcases aoU.1 hx with rfl|hx
   .exact⟨v,hev⟩
   .exact Qu r ps (k+1) l' hl x hx
  .cases hb
theorem KC(h:st.more s):∀(ps:List (Nat×Operand)),(∀x∈ps,∃v,st.ev x.2=.sv v)->kV s ps=kV st ps
 |[],_=>rfl
 |(i,x)::ps,hk=>by obtain⟨v,hv⟩:=hk (i,x) aoT;rw[kV,kV,KC h ps (λy hy=>hk y (aoR _ hy)),aZ h hv (by simp),hv]
theorem aeb:∀(c:Cell),c.refs=[]->c.fresh s=c.fresh st
 |.int _ _,_|.bool _,_|.str _,_|.nil,_|.sl _ _ _ _,_|.junk,_=>rfl
 |.ref _,h=>by cases h
theorem aak:∀(cs:List Cell),cs.flatMap Cell.refs=[]->cs.all (Cell.fresh s)=cs.all (Cell.fresh st)
 |[],_=>rfl
 |c::cs,h=>by rw[apR,apz]at h;rw[apS,apS,aeb c h.1,aak cs h.2]
theorem IJ(h:st.more s):∀(ps:List (Nat×Operand)),(∀x∈ps,∃v,st.ev x.2=.sv v)->kV st ps=[]->lN s ps=lN st ps
 |[],_,_=>rfl
 |(i,x)::ps,hk,hr=>by obtain⟨v,hv⟩:=hk (i,x) aoT;rw[kV,apz,hv]at hr;rw[lN,lN,IJ h ps (λy hy=>hk y (aoR _ hy)) hr.2,aZ h hv (by simp),hv];dsimp only;rw[aak v.cells hr.1]
theorem ag4(h:st.more s):∀(c:Cell),c.ok st=true->c.view s=c.view st/\c.ok s=true
 |.int _ _,_|.bool _,_|.str _,_|.nil,_|.sl _ _ _ _,_|.junk,_=>⟨rfl,rfl⟩
 |.ref o,hk=>by
  simp only[Cell.ok]at hk;split at hk
  .next e r l fr ho=>exact⟨by simp only[Cell.view,ho,h.ah o _ ho],by simp only[Cell.ok,h.ah o _ ho]⟩
  .cases hk
theorem Fq(h:st.more s):∀(cs:List Cell),cs.all (Cell.ok st)=true->cs.map (Cell.view s)=cs.map (Cell.view st)/\cs.all (Cell.ok s)=true
 |[],_=>⟨rfl,rfl⟩
 |c::cs,hk=>by rw[apS,aoJ]at hk;obtain⟨h1,h2⟩:=ag4 h c hk.1;obtain⟨h3,h4⟩:=Fq h cs hk.2;exact⟨by rw[ao3,ao3,h1,h3],by rw[apS,h2,h4];rfl⟩
theorem aec(h:st.more s)(v:SV)(hk:v.cells.all (Cell.ok st)=true):v.view s=v.view st/\v.cells.all (Cell.ok s)=true:=by
 obtain⟨h1,h2⟩:=Fq h v.cells hk;refine⟨?_,h2⟩;cases v with
 |one c=>simp only[SV.cells,ao3,arA,List.cons.injEq,and_true]at h1;simp only[SV.view,h1]
 |agg cs=>simp only[SV.cells]at h1;simp only[SV.view,h1]
theorem xw(h:st.more s):∀(xs:List AV)(vs:List Arg),ny st xs=some vs->ny s xs=some vs
 |[],_,hv=>hv
 |x::xs,vs,hv=>by
  unfold ny at hv ⊢;split at hv
  .next v us hu=>
   rw[xw h xs us hu];split at hv
   .next hk=>obtain⟨h1,h2⟩:=aec h v hk;dsimp only;rw[h2,h1];exact hv
   .cases hv
  .next cs off us hu=>
   rw[xw h xs us hu];split at hv
   .next hk=>rw[aoJ]at hk;obtain⟨h1,h2⟩:=Fq h cs hk.2;dsimp only;rw[hk.1,h2,h1];exact hv
   .cases hv
  .next f caps us hu=>
   rw[xw h xs us hu];split at hv
   .next hk=>
    have key:∀(caps:List (List Cell)),caps.all (List.all · (Cell.ok st))=true->caps.map (List.map (Cell.view s))=caps.map (List.map (Cell.view st))/\caps.all (List.all · (Cell.ok s))=true:=by
     intro caps
     induction caps with
     |nil=>intro _;exact⟨rfl,rfl⟩
     |cons cs l ih=>intro hk;rw[apS,aoJ]at hk;obtain⟨h1,h2⟩:=Fq h cs hk.1;obtain⟨h3,h4⟩:=ih hk.2;exact⟨by rw[ao3,ao3,h1,h3],by rw[apS,h2,h4];rfl⟩
    obtain⟨h1,h2⟩:=key caps hk;dsimp only;rw[h2,h1];exact hv
   .cases hv
  .cases hv
theorem Cb:∀(xs:List AV)(vs:List Arg),ny st xs=some vs->∀x∈xs,x≠ .undef
 |[],_,_,x,hx=>by cases hx
 |y::xs,vs,hv,x,hx=>by
  unfold ny at hv;split at hv
  .next v us hu=>
   rcases aoU.1 hx with rfl|hx
   .simp
   .exact Cb xs us hu x hx
  .next cs off us hu=>
   rcases aoU.1 hx with rfl|hx
   .simp
   .exact Cb xs us hu x hx
  .next f caps us hu=>
   rcases aoU.1 hx with rfl|hx
   .simp
   .exact Cb xs us hu x hx
  .cases hv
theorem JA(h:st.more s)(caps:List (List Cell)):∀(xs:List Operand),(∀x∈handed st xs caps,x≠ .undef)->handed s xs caps=handed st xs caps
 |[],_=>rfl
 |x::xs,hk=>by have h1:s.ev x=st.ev x:=aZ h rfl (hk _ aoT);have h2:=JA h caps xs λy hy=>hk y (aoR _ hy);show s.ev x::handed s xs caps=st.ev x::handed st xs caps;rw[h1,h2]
theorem UJ(h:st.more s):∀(xs:List Operand)(l:List (List Cell)),heldBy st xs=some l->heldBy s xs=some l
 |[],_,hl=>hl
 |x::xs,l,hl=>by
  rw[heldBy]at hl ⊢;split at hl
  .next cs off l' hx hl'=>rw[aZ h hx (by simp),UJ h xs l' hl'];exact hl
  .cases hl
theorem MG(h:st.more s)(len:Nat)(lo hi:Option Operand){r:Prop×Nat×Nat}(hb:kW st len lo hi=some r):kW s len lo hi=some r:=by
 cases lo<;>cases hi<;>simp only[kW]at hb ⊢
 .exact hb
 .split at hb
  .next b e=>rw[nD h e];exact hb
  .cases hb
 .split at hb
  .next b e=>rw[nD h e];exact hb
  .cases hb
 .split at hb
  .next b c e1 e2=>rw[nD h e1,nD h e2];exact hb
  .cases hb
def AV.less(v v':AV):Prop:=v=.undef\/v'=v
theorem aed(h:st.more s){n room:Nat}{lo hi:Option Operand}{r:Prop×Nat×Nat}(hb:Qb st n room lo hi=some r):Qb s n room lo hi=some r:=by cases hi<;>simp only[Qb]at hb ⊢<;>exact MG h _ _ _ hb
theorem ag5(h:st.more s)(d:Nat)(o:Op){p:Prop}{v:AV}{δ:List (Nat×aA)}(hc:calm Θ Γ d st o=some (p,v,δ)):
 ∃v',calm Θ Γ d s o=some (p,v',δ)/\v.less v':=by
 have same:∀{r:Option (Prop×AV×List (Nat×aA))},r=some (p,v,δ)->calm Θ Γ d s o=r->∃v',calm Θ Γ d s o=some (p,v',δ)/\v.less v':=
  λh1 h2=>⟨v,h2.trans h1,.inr rfl⟩
 cases o<;>try (simp only[calm,reduceCtorEq]at hc;done)
 case move x=>simp only[calm]at hc ⊢;cases hc;exact⟨_,rfl,F8 h x⟩
 case assign x=>simp only[calm]at hc ⊢;cases hc;exact⟨_,rfl,F8 h x⟩
 case pick c x y=>
  simp only[calm]at hc ⊢;split at hc
  .next g hg=>
   cases hc;rw[aZ h hg (by simp)];refine⟨_,rfl,?_⟩;cases g
   .exact F8 h y
   .exact F8 h x
  .cases hc
 case nilCheck x=>
  simp only[calm]at hc ⊢;split at hc
  .next a b e=>rw[aZ h e (by simp)];exact⟨v,hc,.inr rfl⟩
  .next a b c e=>rw[aZ h e (by simp)];exact⟨v,hc,.inr rfl⟩
  .next a b c d e=>rw[aZ h e (by simp)];exact⟨v,hc,.inr rfl⟩
  .next a b e=>rw[aZ h e (by simp)];exact⟨v,hc,.inr rfl⟩
  .next a b e=>rw[aZ h e (by simp)];exact⟨v,hc,.inr rfl⟩
  .cases hc
 case makeFunc fn first captured=>
  cases fn<;>try (simp only[calm,reduceCtorEq]at hc;done)
  case func f=>
   simp only[calm]at hc ⊢;split at hc
   .next l hfirst hl=>rw[UJ h _ _ hl,hfirst];exact⟨v,hc,.inr rfl⟩
   .cases hc
 case alloc t=>exact⟨v,hc,.inr rfl⟩
 case box t x=>
  simp only[calm]at hc ⊢;split at hc
  .next a e=>rw[aZ h e (by simp)];exact⟨v,hc,.inr rfl⟩
  .cases hc
 case build t parts=>
  simp only[calm]at hc ⊢;split at hc
  .next ti ht=>
   split at hc
   .next fs hk=>
    split at hc
    .next cs hb=>rw[Qs h _ _ _ _ hb];exact⟨v,hc,.inr rfl⟩
    .cases hc
   .cases hc
  .cases hc
 case buildSlice t len parts=>
  simp only[calm]at hc ⊢;split at hc
  .next ti ht=>
   split at hc
   .next e hk=>
    split at hc
    .next te he=>
     split at hc
     .next l hb hrefs hrows=>have hkn:=Qu _ _ _ _ hrows;rw[hb,KC h _ hkn,hrefs,UI h _ _ _ _ hrows,IJ h _ hkn hrefs];exact⟨v,hc,.inr rfl⟩
     .cases hc
    .cases hc
   .cases hc
  .cases hc
 case makeSlice t x y=>
  simp only[calm]at hc ⊢;split at hc
  .next ti n c ht hn hcc=>rw[ht,nD h hn,nD h hcc];exact⟨v,hc,.inr rfl⟩
  .cases hc
 case load t x=>
  simp only[calm]at hc ⊢;split at hc
  .next ti o off ht he=>
   rw[ht,aZ h he (by simp)];split at hc
   .next cs ho=>dsimp only;rw[h.ah o _ ho];exact⟨v,hc,.inr rfl⟩
   .cases hc
  .next ti o i off ht he=>
   rw[ht,aZ h he (by simp)];split at hc
   .next e r l fr ho=>dsimp only;rw[h.ah o _ ho];exact⟨v,hc,.inr rfl⟩
   .cases hc
  .next ti r y off fr ht he=>rw[ht,aZ h he (by simp)];exact⟨v,hc,.inr rfl⟩
  .next ti cs off ht he=>rw[ht,aZ h he (by simp)];exact⟨v,hc,.inr rfl⟩
  .cases hc
 case fieldAddr t x f=>
  simp only[calm]at hc ⊢;split at hc
  .next ti ht=>
   split at hc
   .next fs hk=>
    split at hc
    .next k t hf=>
     split at hc
     .next te hte=>
      split at hc
      .cases hc
      .next a b e hne=>rw[aZ h e (by simp)];cases hcell:te.cells with|nil=>exact(hne hcell).elim|cons _ _=>exact⟨v,hc,.inr rfl⟩
      .next a b c e hne=>rw[aZ h e (by simp)];cases hcell:te.cells with|nil=>exact(hne hcell).elim|cons _ _=>exact⟨v,hc,.inr rfl⟩
      .next a b c d e hne=>rw[aZ h e (by simp)];cases hcell:te.cells with|nil=>exact(hne hcell).elim|cons _ _=>exact⟨v,hc,.inr rfl⟩
      .next a b e hne=>rw[aZ h e (by simp)];cases hcell:te.cells with|nil=>exact(hne hcell).elim|cons _ _=>exact⟨v,hc,.inr rfl⟩
      .cases hc
     .cases hc
    .cases hc
   .cases hc
  .cases hc
 case field t x f=>
  simp only[calm]at hc ⊢;split at hc
  .next ti ht=>
   split at hc
   .next fs hk=>
    split at hc
    .next k t cs hf e=>rw[hf,aZ h e (by simp)];exact⟨v,hc,.inr rfl⟩
    .cases hc
   .cases hc
  .cases hc
 case indexAddr t x ix=>
  simp only[calm]at hc ⊢;split at hc
  .next ti n ht hn=>
   rw[ht,nD h hn]
   try dsimp only
   split at hc
   .next e hk=>
    split at hc
    .next te e' r l fr he hev=>rw[he,aZ h hev (by simp)];exact⟨v,hc,.inr rfl⟩
    .next te o he hev=>
     rw[he,aZ h hev (by simp)]
     try dsimp only
     split at hc
     .next a b c d ho=>rw[h.ah o _ ho];exact⟨v,hc,.inr rfl⟩
     .cases hc
    .next te he hev=>rw[he,aZ h hev (by simp)];exact⟨v,hc,.inr rfl⟩
    .cases hc
   .cases hc
  .cases hc
 case index t x ix=>
  simp only[calm]at hc ⊢;split at hc
  .next ti n b ht hn hev=>rw[ht,nD h hn,aZ h hev (by simp)];exact⟨v,hc,.inr rfl⟩
  .cases hc
 case binOp op t x y t'=>
  simp only[calm]at hc ⊢;split at hc
  .next a b e1 e2=>rw[aZ h e1 (by simp),aZ h e2 (by simp)];exact⟨v,hc,.inr rfl⟩
  .next a b e1 e2=>rw[aZ h e1 (by simp),aZ h e2 (by simp)];exact⟨v,hc,.inr rfl⟩
  .cases hc
 case unOp op t x=>
  simp only[calm]at hc ⊢;split at hc
  .next b e=>rw[aZ h e (by simp)];exact⟨v,hc,.inr rfl⟩
  .next k n e=>rw[aZ h e (by simp)];exact⟨v,hc,.inr rfl⟩
  .cases hc
 case convert a b x=>
  simp only[calm]at hc ⊢;split at hc
  .next ts td c hs hd e=>
   rw[hs,hd,aZ h e (by simp)]
   try dsimp only
   split at hc
   .cases hc
   .next hagg=>
    rw[if_neg hagg];split at hc
    .exact⟨v,hc,.inr rfl⟩
    .exact⟨v,hc,.inr rfl⟩
    .exact⟨v,hc,.inr rfl⟩
    .next e' c' e1 e2=>
     split at hc
     .next l te hl hte=>rw[VD h _ _ _ hl,hte];exact⟨v,hc,.inr rfl⟩
     .cases hc
    .cases hc
  .cases hc
 case extract x i=>
  simp only[calm]at hc ⊢;split at hc
  .next a e=>rw[aZ h e (by simp)];exact⟨v,hc,.inr rfl⟩
  .cases hc
 case slice t x lo hi mx=>
  cases mx with
  |some m=>
   cases lo with
   |none=>simp only[calm,reduceCtorEq]at hc
   |some lo=>
    cases hi with
    |none=>simp only[calm,reduceCtorEq]at hc
    |some hi=>
     simp only[calm]at hc ⊢;split at hc
     .next ti o ht e=>
      rw[ht,aZ h e (by simp)]
      try dsimp only
      split at hc
      .next f e' r l fr hk ho=>
       split at hc
       .next te n1 n2 n3 he h1 h2 h3=>rw[hk,h.ah o _ ho];dsimp only;rw[he,nD h h1,nD h h2,nD h h3];exact⟨v,hc,.inr rfl⟩
       .cases hc
      .cases hc
     .cases hc
  |none=>
   simp only[calm]at hc ⊢;split at hc
   .next ti b ht e=>
    rw[ht,aZ h e (by simp)]
    try dsimp only
    split at hc
    .next p' x' y' hk hb=>rw[hk,MG h _ _ _ hb];exact⟨v,hc,.inr rfl⟩
    .cases hc
   .next ti e' r l fr ht e=>
    rw[ht,aZ h e (by simp)]
    try dsimp only
    split at hc
    .next f p' x' y' hk hb=>rw[hk,MG h _ _ _ hb];exact⟨v,hc,.inr rfl⟩
    .cases hc
   .next ti ht e=>
    rw[ht,aZ h e (by simp)]
    try dsimp only
    split at hc
    .next f p' x' y' hk hb=>rw[hk,MG h _ _ _ hb];exact⟨v,hc,.inr rfl⟩
    .cases hc
   .next ti o vX n0 ht e=>
    rw[ht,aZ h e (by simp)]
    try dsimp only
    split at hc
    .next f e' r l fr hk ho=>
     split at hc
     .next te p' x' y' he hb=>rw[hk,h.ah o _ ho];dsimp only;rw[he,aed h hb];exact⟨v,hc,.inr rfl⟩
     .cases hc
    .cases hc
   .cases hc
 case call c=>
  obtain⟨callee,args,nO⟩:=c;cases callee with
  |invoke r m=>simp only[calm,reduceCtorEq]at hc
  |builtin b=>
   cases b<;>try (simp only[calm,reduceCtorEq]at hc;done)
   case len=>
    simp only[calm]at hc ⊢;split at hc
    .next x t hargs Gv=>
     split at hc
     .next ti c ht e=>
      rw[ht,aZ h e (by simp)]
      try dsimp only
      split at hc
      .next b hk=>exact⟨v,hc,.inr rfl⟩
      .next a b c d e hk=>exact⟨v,hc,.inr rfl⟩
      .next a hk=>exact⟨v,hc,.inr rfl⟩
      .next a o hk=>
       split at hc
       .next e' r l fr ho=>rw[h.ah o _ ho];exact⟨v,hc,.inr rfl⟩
       .cases hc
      .cases hc
     .next ti o lo n ht e=>rw[ht,aZ h e (by simp)];exact⟨v,hc,.inr rfl⟩
     .cases hc
    .cases hc
   case min=>
    simp only[calm]at hc ⊢;split at hc
    .next x y hargs=>
     split at hc
     .next a b c d e1 e2=>rw[aZ h e1 (by simp),aZ h e2 (by simp)];exact⟨v,hc,.inr rfl⟩
     .cases hc
    .cases hc
   case max=>
    simp only[calm]at hc ⊢;split at hc
    .next x y hargs=>
     split at hc
     .next a b c d e1 e2=>rw[aZ h e1 (by simp),aZ h e2 (by simp)];exact⟨v,hc,.inr rfl⟩
     .cases hc
    .cases hc
  |value x=>
   simp only[calm]at hc ⊢;split at hc
   .next f caps hx=>
    rw[aZ h hx (by simp)];dsimp only;split at hc
    .next con vs hcon hargs=>rw[hcon,JA h caps _ (Cb _ _ hargs),xw h _ _ hargs];exact⟨v,hc,.inr rfl⟩
    .cases hc
   .cases hc
end Go.Fw
namespace Go.Fw
open Go
variable {P:Program} {w0:World} {M:Nat->Prop} {T:Ext} {γ γ':Nat->Value} {st:St} {a:Act} {w w':World} {Θ:iO} {Γ:jU}
def numOf(st:St)(o:Oper):Nat:=match o.dst with|some d=>d|none=>st.n
def ajI(d o:Nat):Bool:=Nat.beq (o / 64) d
def akV(d o:Nat):Bool:=Nat.beq (o / 64) d&&!(Nat.beq (o%64) 0)
def makes:Op->Bool
 |.alloc _|.box _ _|.buildSlice _ _ _|.makeSlice _ _ _=>true
 |.call {callee:=.value _,.. }=>true
 |_=>false
def ack:Op->Bool
 |.buildSlice _ _ _|.makeSlice _ _ _=>true
 |.call {callee:=.value _,.. }=>true
 |_=>false
def afM(Θ:iO)(Γ:jU)(d:Nat)(st:St)(op:Op):Option (Prop×AV×St):=
 match oper Θ Γ d st op with
 |some r=>some r
 |none=>match makes op with
  |true=>oper Θ Γ d (st.kill (ajI d)) op
  |false=>none
def quiet(st:St):Op->Bool
 |.move _|.assign _|.nilCheck _|.pick _ _ _|.alloc _|.box _ _|.build _ _|.buildSlice _ _ _|.fieldAddr _ _ _|.field _ _ _|.unOp _ _ _|.convert _ _ _|.extract _ _|.makeFunc _ _ _=>true
 |.call {callee:=.builtin .len,.. }|.call {callee:=.builtin .min,.. }|.call {callee:=.builtin .max,.. }=>true
 |.load _ p=>match st.ev p with|.lW _ _ _=>false|_=>true
 |.store _ p _=>match st.ev p with|.dU _ _=>true|_=>false
 |.binOp op _ x _ _=>match op with
  |.quo|.rem|.shl|.shr=>false
  |.add=>match st.ev x with|.sv (.one (.str _))=>false|_=>true
  |_=>true
 |_=>false
theorem acn{op:BinOp}{k:IntKind}{x y:Int}{p:Prop}{c:Cell}(h:Kq op k x y=some (p,c))(h1:op≠ .quo)(h2:op≠ .rem):p:=by cases op<;>simp only[Kq,reduceCtorEq]at h<;>first|(cases h;trivial)|exact(h1 rfl).elim|exact(h2 rfl).elim
theorem aco{op:BinOp}{x y:Bytes}{p:Prop}{c:Cell}(h:P9 op x y=some (p,c))(h1:op≠ .add):p:=by cases op<;>simp only[P9,reduceCtorEq]at h<;>first|(cases h;trivial)|exact(h1 rfl).elim
theorem aa8{op:BinOp}{x y:Cell}{p:Prop}{c:Cell}(h:Kr op x y=some (p,c))(h1:op≠ .quo)(h2:op≠ .rem)(h3:op≠ .shl)(h4:op≠ .shr)
 (h5:op=.add->∀s,x≠ .str s):p:=by
 unfold Kr at h;split at h
 .split at h
  .exact(h3 rfl).elim
  .exact(h4 rfl).elim
  .split at h
   .exact acn h h1 h2
   .cases h
 .exact aco h λe=>h5 e _ rfl
 .split at h
  .cases h;trivial
  .cases h;trivial
  .cases h
 .cases h
theorem MH{d:Nat}{op:Op}{p:Prop}{v:AV}{δ:List (Nat×aA)}(hc:calm Θ Γ d st op=some (p,v,δ))(hq:quiet st op=true):p:=by
 cases op<;>try (simp only[calm,reduceCtorEq]at hc;done)
 case binOp op t x y t'=>
  simp only[calm]at hc;split at hc
  .next a b e1 e2=>
   split at hc
   .split at hc
    .next q c hb=>
     cases hc;refine aa8 hb ?_ ?_ ?_ ?_ ?_
     .rintro rfl;simp[quiet]at hq
     .rintro rfl;simp[quiet]at hq
     .rintro rfl;simp[quiet]at hq
     .rintro rfl;simp[quiet]at hq
     .rintro rfl s rfl;simp[quiet,e1]at hq
    .cases hc
   .cases hc
  .split at hc
   .split at hc
    .split at hc
     .cases hc;trivial
     .cases hc
    .split at hc
     .cases hc;trivial
     .cases hc
    .cases hc
   .cases hc
  .cases hc
 case load t x=>
  simp only[calm]at hc;split at hc
  .split at hc
   .split at hc
    .cases hc;trivial
    .cases hc
   .cases hc
  .next e=>simp[quiet,e]at hq
  .split at hc
   .cases hc;trivial
   .cases hc
  .split at hc
   .cases hc;trivial
   .cases hc
  .cases hc
 case call c=>
  obtain⟨callee,args,nO⟩:=c;cases callee with
  |invoke r m=>simp only[calm,reduceCtorEq]at hc
  |builtin b=>
   cases b<;>first
    |(simp only[calm,reduceCtorEq]at hc;done)
    |(simp only[calm]at hc
      repeat' (first|(cases hc;done)|(cases hc;trivial)|(split at hc)))
  |value x=>simp[quiet]at hq
 all_goals first
  |(simp[quiet]at hq;done)
  |(simp only[calm]at hc
    repeat' (first|(cases hc;done)|(cases hc;trivial)|(split at hc)))
theorem aee{pt:AV}{v:SV}{q:Prop}{s:St}(h:store st pt v=some (q,s))(hv:∀o i off,pt≠ .lW o i off):q:=by
 unfold store at h;split at h
 .split at h
  .split at h
   .cases h;trivial
   .cases h
  .cases h
 .exact(hv _ _ _ rfl).elim
 .cases h
theorem ag6{d:Nat}{op:Op}{p:Prop}{v:AV}{s:St}(hc:eff Θ Γ d st op=some (p,v,s))(hq:quiet st op=true):p:=by
 cases op<;>try (simp only[eff,reduceCtorEq]at hc;done)
 case store t pt x=>
  simp only[eff]at hc;split at hc
  .split at hc
   .split at hc
    .next q s' hs=>
     cases hc;refine aee hs ?_;intro o i off e;cases hp:st.ev pt<;>rw[hp]at e<;>simp only[AV.freeze,reduceCtorEq]at e
     .split at e<;>cases e
     .simp[quiet,hp]at hq
     .split at e<;>cases e
    .cases hc
   .cases hc
  .cases hc
 case buildSlice t n parts=>
  simp only[eff]at hc;split at hc
  .next q v' δ hcalm=>
   split at hc
   .cases hc;exact MH hcalm rfl
   .cases hc
  .cases hc
 case slice t x lo hi mx=>simp[quiet]at hq
 case call c=>
  obtain⟨callee,args,nO⟩:=c;cases callee with
  |invoke r m=>simp only[eff,reduceCtorEq]at hc
  |builtin b=>cases b<;>first|(simp only[eff,reduceCtorEq]at hc;done)|(simp[quiet]at hq;done)
  |value x=>simp[quiet]at hq
theorem Xj{d:Nat}{op:Op}{p:Prop}{v:AV}{s:St}(hc:oper Θ Γ d st op=some (p,v,s))(hq:quiet st op=true):p:=by
 unfold oper at hc;split at hc
 .next q v' δ hcalm=>
  split at hc
  .cases hc;exact MH hcalm hq
  .cases hc
 .exact ag6 hc hq
def alQ:Op->Bool|.box _ _=>true|_=>false
def aeP(own:Nat->Bool)(d:Nat)(o:Oper)(v:AV)(s:St):St:=
 match ack o.op&&!(own d)&&((s.ah (d*64+1)).isSome||(s.ah (d*64+2)).isSome||(s.ah (d*64+3)).isSome)with
 |true=>(s.put o.dst v).freeze (akV d)
 |false=>s.put o.dst v
def AV.fixed(o:Nat)(cs:List Cell):AV->AV
 |.dU p off=>match Nat.beq o p with|true=>.dY (cs.map (Cell.kill (Nat.beq o ·))) off|false=>.dU p off
 |v=>v.kill (Nat.beq o ·)
def St.fix(st:St)(o:Nat):St:=
 match st.ah o with
 |some (.var cs)=>{st.kill (Nat.beq o ·)with tmps:=λt=>(st.tmps t).fixed o cs}
 |_=>st
theorem Rel.fix(h:Rel w0 M T γ st a w)(o:Nat):Rel w0 M T γ (st.fix o) a w:=by
 unfold St.fix;split
 .next cs ho=>
  have hk:=h.kill (Nat.beq o ·);refine⟨hk.mT,hk.defers,hk.size,hk.os,hk.tape,hk.output,hk.grow,hk.kept,λt=>?_,hk.ah,hk.lt,hk.sep,hk.pin⟩;have hv:=h.tmps t;have hkv:=aP.kill (Nat.beq o ·) h _ _ hv;show aP (aj w0 T γ (st.kill (Nat.beq o ·)) w) ((st.tmps t).fixed o cs) _;cases hst:st.tmps t with
  |dU p off=>
   rw[hst]at hv hkv;simp only[AV.fixed];cases hb:Nat.beq o p with
   |false=>simp only[AV.kill,hb]at hkv;exact hkv
   |true=>
    have hop:=aoM hb;subst hop;obtain⟨b,cs',_,hγ,hval⟩:=hv;obtain⟨b',arr,t',Kw,hh,hr⟩:=h.ah o _ ho;have hbb:b'=b:=by have h1:γ o=.pointer (some ⟨b,0,none⟩):=hγ;have h2:γ o=.pointer (some ⟨b',0,none⟩):=Kw;rw[h1]at h2;simpa using h2.symm
    subst hbb;have hbl:blk (γ o)=some b':=by have h2:γ o=.pointer (some ⟨b',0,none⟩):=Kw;rw[h2];rfl
    refine⟨b',hval,arr,t',(0,0),⟨(h.lt o _ b' ho hbl).1,λhlt=>h.mT b' ((h.lt o _ b' ho hbl).2.resolve_left (by have hlt':b'<w0.heap.size:=hlt;omega)),λq y hq=>?_⟩,hh,ai.kill _ h cs _ hr⟩;obtain⟨z,hz,_,hqS⟩:=sU (Nat.beq o ·) hq;exact h.sep o _ q z b' ho hz (λe=>by rw[← e]at hqS;simp at hqS) hbl
  |_=>rw[hst]at hkv;exact hkv
 .exact h
def land(own:Nat->Bool)(d:Nat)(o:Oper)(v:AV)(s:St):St:=
 match alQ o.op&&!(own d)with
 |true=>(s.put o.dst v).fix (d*64)
 |false=>aeP own d o v s
def Tc(st:St)(o:Oper):Bool:=match o.dst with|some d=>Nat.blt d st.n|none=>true
def roomy(d:Nat)(st:St):St:=
 match (st.ah (d*64)).isSome||(st.ah (d*64+1)).isSome||(st.ah (d*64+2)).isSome||(st.ah (d*64+3)).isSome with
 |true=>st.kill (ajI d)
 |false=>st
def ag7(Γ:jU)(d:Nat)(st:St)(op:Op):Option (Prop×Ju×List (Option Nat)×St):=
 match Xb Γ (roomy d st) op with
 |some r=>some r
 |none=>Xb Γ st op
def ag8:BinOp->Option Bool
 |.eql=>some false
 |.neq=>some true
 |_=>none
def Xk:Bool->Bool->Bool
 |true,g=>!g
 |false,g=>g
def aeQ(st:St):AV->Option (Bool->Prop)
 |.sv (.one (.sl _ _ l _))=>some λg=>g=true->l.length=0
 |.sv (.one (.ref o))=>match st.ah o with
  |some (.arr _ _ l _)=>some λg=>g=true->l.length=0
  |_=>none
 |.sv (.one .nil)=>some λg=>g=true
 |_=>none
def ajJ(Θ:iO)(st:St)(t:TypeId)(x:Operand)(s:Option Bool):Option (Bool×(Bool->Prop)):=match s,Θ t with
 |some neg,some ti=>match ti.kind with
  |.slice _=>match aeQ st (st.ev x)with
   |some R=>some (neg,R)
   |none=>none
  |_=>none
 |_,_=>none
def afN(Θ:iO)(st:St):Op->Option (Bool×(Bool->Prop))
 |.binOp op t x (.const (.slice none 0 0)) _=>ajJ Θ st t x (ag8 op)
 |_=>none
def acp(Θ:iO)(Γ:jU)(own:Nat->Bool)(o:Oper)(K:St->Prop)(st:St):Prop:=
 match Tc st o with
 |true=>match ag7 Γ (numOf st o) st o.op with
  |some (p,ρ,os,s0)=>p/\∀t,ρ.R t->match L8 (numOf st o) s0 os (ρ.out t) (ρ.aC t)with
   |some (v,s)=>K (land own (numOf st o) o v s)
   |none=>False
  |none=>match afN Θ st o.op with
   |some (neg,R)=>∀g:Bool,R g->K (land own (numOf st o) o (.sv (.one (.bool (Xk neg g)))) st)
   |none=>match afM Θ Γ (numOf st o) st o.op,quiet st o.op with
    |some (p,v,s),q=>match q with
     |true=>K (land own (numOf st o) o v s)
     |false=>p/\K (land own (numOf st o) o v s)
    |none,_=>False
 |false=>False
def guarded(ops:List Oper)(o:Oper)(one:St->Prop)(skip:St->Prop)(st:St):Prop:=
 match o.guard with
 |none=>one st
 |some (g,b)=>match ops[g]? with
  |some og=>match og.dst with
   |some t=>match Tc st o,Nat.blt t st.n,st.tmps t with
    |true,true,.sv (.one (.bool x))=>cond x
     (match b with|true=>one (st.set t (.sv (.one (.bool true))))|false=>skip ((st.set t (.sv (.one (.bool true)))).put o.dst (.kU [])))
     (match b with|false=>one (st.set t (.sv (.one (.bool false))))|true=>skip ((st.set t (.sv (.one (.bool false)))).put o.dst (.kU [])))
    |true,true,.kU _=>skip (st.put o.dst (.kU []))
    |_,_,_=>False
   |none=>False
  |none=>False
def runs(Θ:iO)(Γ:jU)(own:Nat->Bool)(ops:List Oper)(K:St->Prop):List Oper->St->Prop
 |[],st=>K st
 |o::r,st=>guarded ops o (acp Θ Γ own o (runs Θ Γ own ops K r)) (runs Θ Γ own ops K r) st
theorem set_self{t:Nat}{v:AV}(h:st.tmps t=v):st.set t v=st:=by
 cases st with
 |mk n tm ob=>
  simp only[St.set,St.mk.injEq,arb,and_true]
  funext x
  cases hb:Nat.beq x t with
  |true=>rw[aoM hb];exact h.symm
  |false=>rfl
theorem ag9{G:jo}(hE:oW P G Θ Γ w0 M)(h:Rel w0 M T γ st a w)(o:Oper){neg:Bool}{R:Bool->Prop}(hc:afN Θ st o.op=some (neg,R)){next:Act->World->Prop}{Q:Exit->Act->World->Prop}
 (hn:∀g:Bool,R g->next (a.put o.dst (.bool (Xk neg g))) w):o.wp P a w next Q:=by
 unfold afN at hc;split at hc
 case h_2=>cases hc
 next op t x _ hop=>
 unfold ajJ at hc;split at hc
 case h_2=>cases hc
 next aou ti hs ht=>
 split at hc
 case h_2=>cases hc
 next e hk=>
 split at hc
 case h_2=>cases hc
 next R' hR=>
 cases hc;have hu:P.underlying t=some (.slice e):=by have:=(hE.types t ti ht).und;rw[hk]at this;exact this.1
 have hop':op=.eql/\neg=false\/op=.neq/\neg=true:=by cases op<;>simp[ag8]at hs<;>simp[hs]
 have run:∀(ad:Option Addr)(n c:Nat),a.eval x=.slice ad n c->R ad.isNone->o.wp P a w next Q:=by
  intro ad n c hx hR;have hev:a.eval (.const (.slice none 0 0))=.slice none 0 0:=rfl;refine Oper.kP (u:=.bool (Xk neg ad.isNone)) (w':=w) ?_ (hn _ hR);have hs:execOp a.eval o=(do pure (Next.value (← (do eqGuard op t x (.const (.slice none 0 0)) (a.eval x) (a.eval (.const (.slice none 0 0)));binOp op t (a.eval x) (a.eval (.const (.slice none 0 0))))))):=by simp[execOp,hop]
  rw[hs];refine Kv ?_;rw[hx,hev];rcases hop' with⟨rfl,rfl⟩|⟨rfl,rfl⟩
  .have hg:(eqGuard .eql t x (.const (.slice none 0 0)) (.slice ad n c) (.slice none 0 0)).run P w=.ok () w:=by simp[eqGuard]
   rw[ao9,hg];exact Lib.run_eql_slice_nil w t e ad n c 0 0 hu
  .have hg:(eqGuard .neq t x (.const (.slice none 0 0)) (.slice ad n c) (.slice none 0 0)).run P w=.ok () w:=by simp[eqGuard]
   rw[ao9,hg];exact run_neq_slice_nil_any w t e ad n c 0 0 hu
 unfold aeQ at hR;split at hR
 .next ee rr l _ hx=>
  cases hR;have hv:=mG h hx;obtain⟨ad,c,hv1,_⟩:=abT hv;refine run ad l.length c hv1 λhnone=>?_;have hv':dF w.heap _ (.sl ee rr) (a.eval x) l:=hv;rw[dF]at hv';rcases hv'.2 with⟨hl,_⟩|⟨b,off,cap,cs,t',fz,hv2,_⟩
  .rw[hl];rfl
  .rw[hv1]at hv2;cases hv2;cases hnone
 .next o' hx=>
  split at hR
  .next _ _ l _ ho=>
   cases hR;have hv:=mG h hx;obtain⟨ad,c,hv1,_⟩:=aeK h hv ho;refine run ad l.length c hv1 λhnone=>?_;obtain⟨_,hv2,_⟩:=hv;obtain⟨xs,hown,hr,_⟩:=h.ah o' _ ho;obtain⟨_,hown⟩:=hown;have hv2:a.eval x=γ o':=hv2;rw[hv1]at hv2;rcases hown with⟨_,hl⟩|⟨g,cap,cur,hg,_⟩
   .omega
   .have hg:γ o'=_:=hg;rw[hg]at hv2;cases hv2;cases hnone
  .cases hR
 .next hx=>cases hR;have hv:a.eval x=.slice none 0 0:=mG h hx;exact run none 0 0 hv rfl
 .cases hR
theorem acr{G:jo}(hE:oW P G Θ Γ w0 M){own:Nat->Bool}{o:Oper}{K:St->Prop}(h:Rel w0 M T γ st a w)(hr:acp Θ Γ own o K st)
 {next:Act->World->Prop} {Q:Exit->Act->World->Prop} (hn:∀s γ' a' w',K s->Rel w0 M T γ' s a' w'->next a' w'):o.wp P a w next Q:=by
 unfold acp at hr;split at hr
 .next hd=>
  have afO:∀(s:St)(v:AV)(u:Value)(γ':Nat->Value)(w':World),Rel w0 M T γ' s a w'->aP (aj w0 T γ' s w') v u->K (land own (numOf st o) o v s)->next (a.put o.dst u) w':=by
   intro s v u γ' w' hR hv hK;have hsz:s.n=st.n:=by rw[← hR.size,h.size]
   have hput:Rel w0 M T γ' (s.put o.dst v) (a.put o.dst u) w':=by
    cases hdst:o.dst with
    |none=>exact hR
    |some d=>rw[Tc,hdst]at hd;refine hR.set d ?_ v u hv;rw[hsz];simpa[arf]using hd
   unfold land at hK;split at hK
   .exact hn _ γ' _ _ hK (hput.fix _)
   .unfold aeP at hK;split at hK
    .exact hn _ γ' _ _ hK (hput.freeze _)
    .exact hn _ γ' _ _ hK hput
  have main:∀(st1:St)(_:Rel w0 M T γ st1 a w)(_:st1.n=st.n)(p:Prop)(v:AV)(s:St),oper Θ Γ (numOf st o) st1 o.op=some (p,v,s)->p->K (land own (numOf st o) o v s)->o.wp P a w next Q:=by intro st1 h1 hn1 p v s hop hp hK;exact afL hE h1 o hop hp λu γ' w' hR hv=>afO s v u γ' w' hR hv hK
  have akW:∀(st1:St)(_:Rel w0 M T γ st1 a w)(p:Prop)(ρ:Ju)(os:List (Option Nat))(s0:St),Xb Γ st1 o.op=some (p,ρ,os,s0)->
   (p/\∀t,ρ.R t->match L8 (numOf st o) s0 os (ρ.out t) (ρ.aC t)with|some (v,s)=>K (land own (numOf st o) o v s)|none=>False)->o.wp P a w next Q:=by
   intro st1 h1 p ρ os s0 hrel ⟨hp,hall⟩;refine ag3 hE h1 o (d:=numOf st o) hrel hp (λt ht=>?_) λt v s u γ' w' ht hs hR hv=>?_
   .have:=hall t ht;split at this
    .next v s hs=>exact⟨_,hs⟩
    .exact this.elim
   .have:=hall t ht;rw[hs]at this;exact afO s v u γ' w' hR hv this
  split at hr
  .next p ρ os s0 hrel=>
   unfold ag7 at hrel;split at hrel
   .next r hr0=>
    cases hrel;have hroom:Rel w0 M T γ (roomy (numOf st o) st) a w:=by
     unfold roomy;split
     .exact h.kill _
     .exact h
    exact akW _ hroom p ρ os s0 hr0 hr
   .exact akW _ h p ρ os s0 hrel hr
  split at hr
  .next neg R hnil=>exact ag9 hE h o hnil λg hg=>afO st (.sv (.one (.bool (Xk neg g)))) (.bool (Xk neg g)) γ w h rfl (hr g hg)
  cases ho:afM Θ Γ (numOf st o) st o.op with
  |none=>rw[ho]at hr;exact hr.elim
  |some res=>
   obtain⟨p,v,s⟩:=res;rw[ho]at hr;have hq1:quiet st o.op=true->K (land own (numOf st o) o v s):=λe=>by simp only[e]at hr;exact hr
   have hq2:quiet st o.op=false->p/\K (land own (numOf st o) o v s):=λe=>by simp only[e]at hr;exact hr
   unfold afM at ho;cases hop1:oper Θ Γ (numOf st o) st o.op with
   |some r=>
    rw[hop1]at ho;cases ho;cases hqq:quiet st o.op with
    |true=>exact main st h rfl p v s hop1 (Xj hop1 hqq) (hq1 hqq)
    |false=>exact main st h rfl p v s hop1 (hq2 hqq).1 (hq2 hqq).2
   |none=>
    rw[hop1]at ho;cases hm:makes o.op with
    |false=>rw[hm]at ho;cases ho
    |true=>
     rw[hm]at ho;cases hqq:quiet st o.op with
     |true=>
      refine main _ (h.kill _) rfl p v s ho (Xj ho ?_) (hq1 hqq);cases hop2:o.op<;>rw[hop2]at hm hqq<;>simp only[makes,ap9]at hm<;>first|rfl|(simp[quiet]at hqq;done)|skip
      rename_i c
      obtain⟨callee,args,nO⟩:=c;cases callee<;>simp only[ap9]at hm;exact hqq
     |false=>exact main _ (h.kill _) rfl p v s ho (hq2 hqq).1 (hq2 hqq).2
 .exact hr.elim
theorem Rel.akd(h:Rel w0 M T γ st a w)(d:Option Nat)(hd:∀t,d=some t->t<st.n):Rel w0 M T γ (st.put d (.kU [])) (a.put d undef) w:=by
 cases d with
 |none=>exact h
 |some d=>exact h.set d (hd d rfl) (.kU []) undef ⟨#[],rfl,trivial⟩
theorem aa9{ops:Array Oper}{o:Oper}{one skip:St->Prop}(h:Rel w0 M T γ st a w)(hr:guarded ops.toList o one skip st){Y Z:Prop}
 (h1:one st->Y) (h2:skip (st.put o.dst (.kU []))->Z):
 (Region.wanted o (yielded ops a.tmps)=true/\Y)\/(Region.wanted o (yielded ops a.tmps)=false/\Tc st o=true/\Z):=by
 unfold guarded at hr;split at hr
 .next hg=>exact .inl ⟨by simp[Region.wanted,hg],h1 hr⟩
 .next g b hg=>
  split at hr
  .next og hog=>
   split at hr
   .next t ht=>
    split at hr
    .next x hok hlt Xl=>
     have hy:yielded ops a.tmps g=some x:=by
      have hr1:=h.tmps t;rw[Xl]at hr1;have hv:a.tmps.getD t undef=.bool x:=hr1;have hsz:t<a.tmps.size:=by rw[h.size];simpa[arf]using hlt
      have aiC:ops[g]? =some og:=by simpa using hog
      have hget:a.tmps[t]? =some (.bool x):=by rw[arN hsz];simp[Array.getD,hsz]at hv;rw[hv]
      simp[yielded,aiC,ht,hget]
     cases x
     .simp only[aq2,set_self Xl]at hr;cases b
      .exact .inl ⟨by simp[Region.wanted,hg,hy],h1 hr⟩
      .exact .inr ⟨by simp[Region.wanted,hg,hy],hok,h2 hr⟩
     .simp only[arG,set_self Xl]at hr;cases b
      .exact .inr ⟨by simp[Region.wanted,hg,hy],hok,h2 hr⟩
      .exact .inl ⟨by simp[Region.wanted,hg,hy],h1 hr⟩
    .next xs hok hlt Xl=>
     have hy:yielded ops a.tmps g=none:=by
      have hr1:=h.tmps t;rw[Xl]at hr1;obtain⟨vs,hv,_⟩:=hr1;have hsz:t<a.tmps.size:=by rw[h.size];simpa[arf]using hlt
      have aiC:ops[g]? =some og:=by simpa using hog
      have hget:a.tmps[t]? =some (.tuple vs):=by rw[arN hsz];simp[Array.getD,hsz]at hv;rw[hv]
      simp[yielded,aiC,ht,hget]
     exact .inr ⟨by simp[Region.wanted,hg,hy],hok,h2 hr⟩
    .exact hr.elim
   .exact hr.elim
  .exact hr.elim
theorem Fv{G:jo}(hE:oW P G Θ Γ w0 M){own:Nat->Bool}{ops:Array Oper}{K:St->Prop}{Q:Exit->Act->World->Prop}
 (hn:∀s γ' a' w',K s->Rel w0 M T γ' s a' w'->Q .normal a' w'):∀(l:List Oper)(st:St)(γ:Nat->Value)(a:Act)(w:World),
 Rel w0 M T γ st a w->runs Θ Γ own ops.toList K l st->wpList P ops Q l a w
 |[],st,γ,a,w,h,hr=>hn st γ a w hr h
 |o::r,st,γ,a,w,h,hr=>by
  unfold wpList;have:=aa9 (ops:=ops) (o:=o) (Y:=o.wp P a w (wpList P ops Q r) Q) (Z:=Tc st o=true->wpList P ops Q r (a.put o.dst undef) w) h hr
   (λh1=>acr hE h h1 λs γ' a' w' hK hR=>Fv hE hn r s γ' a' w' hR hK)
   (λh2 hok=>Fv hE hn r _ γ _ w (h.akd o.dst (λt ht=>by rw[Tc,ht]at hok;simpa[arf]using hok)) h2)
  rcases this with⟨e,hy⟩|⟨e,hok,hz⟩
  .rw[if_pos e];exact .inl hy
  .rw[if_neg (by rw[e];simp)];exact hz hok
theorem acs{G:jo}(hE:oW P G Θ Γ w0 M){own:Nat->Bool}{id:Nat}{ops:Array Oper}{K:St->Prop}{Q:Exit->Act->World->Prop}(h:Rel w0 M T γ st a w)
 (hr:runs Θ Γ own ops.toList K ops.toList st) (hn:∀s γ' a' w',K s->Rel w0 M T γ' s a' w'->Q .normal a' w'):(Code.region id ops false).wp P Q a w:=
 wp_region_list (Fv hE hn _ _ _ _ _ h hr)
inductive Pre where
 |still (o:Nat)
 |opens (t:Nat)
 |closes (t:Nat)
 |akX (o:Nat)
def aeR(st:St)(t o:Nat)(e:TypeId)(r:au)(l:List r.den)(fr:Bool):St:=((st.kill (Nat.beq o ·)).add o (.arr e r l fr)).set t (.sv (.one (.ref o)))
def MI:List Pre->(St->Prop)->St->Prop
 |[],K,st=>K st
 |.still o::z,K,st=>MI z K (st.freeze (Nat.beq o ·))
 |.akX o::z,K,st=>MI z K (st.fix o)
 |.opens t::z,K,st=>match st.tmps t with
  |.sv (.one (.ref o))=>match st.ah o with
   |some (.arr _ _ l _)=>0<l.length/\MI z K (st.set t (.win o 0 l.length))
   |_=>False
  |_=>False
 |.closes t::z,K,st=>match st.tmps t with
  |.win o lo n=>match Nat.beq lo 0,st.ah o with
   |true,some (.arr e r l fr)=>(0<l.length/\n<=l.length)/\MI z K (aeR st t o e r (l.take n) fr)
   |_,_=>False
  |_=>False
theorem Rel.aha(h:Rel w0 M T γ st a w)(t:Nat)(v:AV)(hv:aP (aj w0 T γ st w) v (a.tmps.getD t undef)):Rel w0 M T γ (st.set t v) a w:=by
 refine⟨h.mT,h.defers,h.size,h.os,h.tape,h.output,h.grow,h.kept,λk=>?_,h.ah,h.lt,h.sep,h.pin⟩;show aP _ (match Nat.beq k t with|true=>v|false=>st.tmps k) (a.tmps.getD k undef);cases hb:Nat.beq k t with
 |false=>exact h.tmps k
 |true=>rw[aoM hb];exact hv
theorem Rel.close(h:Rel w0 M T γ st a w){t o n:Nat}{e:TypeId}{r:au}{l:List r.den}{fr:Bool}(ht:st.tmps t=.win o 0 n)(ho:st.ah o=some (.arr e r l fr))(hl:0<l.length)(hn:n<=l.length):∃γ',Rel w0 M T γ' (aeR st t o e r (l.take n) fr) a w:=by
 have htv:=h.tmps t;rw[ht]at htv;obtain⟨g,m,cap,e',r',l',fr',hx,hγ,⟨q,hq,hv,hle⟩⟩:=htv;have hx:st.ah o=some (.arr e' r' l' fr'):=hx;rw[ho]at hx;cases hx;have hγ:γ o=.slice (some ⟨g,0,none⟩) m cap:=hγ;obtain⟨xs,⟨h1,h2⟩,hpos,hfr,hrow⟩:=h.ah o _ ho;rcases h2 with⟨hnil,_⟩|⟨g',cap',cur,hg,hg0,hh,hlc,hmax,hsz,htake⟩
 .have kX:γ o=.slice none 0 0:=hnil;rw[hγ]at kX;cases kX
 .have kX:γ o=.slice (some ⟨g',0,none⟩) l.length cap':=hg;rw[hγ]at kX;simp at kX;obtain⟨rfl,rfl,rfl⟩:=kX;have hq0:q=0:=by
   rcases hq with e1|e1
   .rw[e1,aqJ]
   .omega
  subst hq0;have hmul:n*r.len<=l.length*r.len:=ao8 _ hn;have hblk:blk (Value.slice (some ⟨g,0,none⟩) n cap)=blk (γ o):=by rw[hγ];rfl
  obtain⟨hR,_⟩:=h.replace (w':=w) (o:=o) (v':=.slice (some ⟨g,0,none⟩) n cap) (x':=.arr e r (l.take n) fr) (blk (γ o)) (.inr ⟨_,ho,rfl⟩) rfl rfl rfl (aoP _) (λ_ _ _=>rfl)
   (λc hc=>⟨.inl (by rw[← hblk,hc]),(h.lt o _ c ho (by rw[← hblk,hc])).1⟩) (λ_ e=>by cases e) (λle=>by
     have hlen:(l.take n).length=n:=by rw[ao2];omega
     refine⟨xs.take (n*r.len),?_,hpos,?_,λi z hi=>?_⟩
     .rw[hlen];show w.ownsRow 0 e r.len (upd γ o _ o) _ _;rw[upd_same];refine⟨by rw[ao2,h1];omega,.inr ⟨g,cap,cur,rfl,apb _,hh,by omega,hmax,hsz,?_⟩⟩;rw[← htake,ard,aq6 hmul]
     .intro c hc hf;have hc:blk (upd γ o (Value.slice (some ⟨g,0,none⟩) n cap) o)=some c:=hc;rw[upd_same,hblk]at hc;exact hfr c hc hf
     .have hil:i<n:=by rw[← hlen];exact(aoY.1 hi).1
      have hmul:i*r.len+r.len<=n*r.len:=by have:(i+1)*r.len<=n*r.len:=ao8 _ hil;rw[apq]at this;simpa using this
      rw[apm,if_pos hil]at hi;rw[fO _ _ _ _ hmul];exact aG.mono (λc hc=>le.bM _ c hc) _ _ z (hrow i z hi))
  refine⟨_,hR.aha t _ ?_⟩;have hv':a.tmps.getD t undef=.slice (some ⟨g,0,none⟩) n cap:=hv;rw[hv'];exact⟨⟨e,r,_,_,add_same _ _ _⟩,(upd_same _ _ _).symm,rfl⟩
theorem y7{K:St->Prop}:∀(z:List Pre)(st:St)(γ:Nat->Value),Rel w0 M T γ st a w->MI z K st->∃s γ',Rel w0 M T γ' s a w/\K s
 |[],st,γ,h,hk=>⟨st,γ,h,hk⟩
 |.still o::z,st,γ,h,hk=>y7 z _ γ (h.freeze _) hk
 |.akX o::z,st,γ,h,hk=>y7 z _ γ (h.fix o) hk
 |.opens t::z,st,γ,h,hk=>by
  rw[MI]at hk;split at hk
  .next o ht=>
   split at hk
   .next e r l fr ho=>
    refine y7 z _ γ (h.aha t _ ?_) hk.2;have htv:=h.tmps t;rw[ht]at htv;obtain⟨_,hv,_⟩:=htv;obtain⟨xs,⟨_,h2⟩,_⟩:=h.ah o _ ho;rcases h2 with⟨_,h4⟩|⟨g,cap,cur,h3,_,_,h4,h5,_⟩
    .have:=hk.1;omega
    .have hv:a.tmps.getD t undef=γ o:=hv;have h3:γ o=.slice (some ⟨g,0,none⟩) l.length cap:=h3;refine⟨g,l.length,cap,e,r,l,fr,ho,h3,0,.inl (by rw[aqJ]),by rw[hv,h3];rfl,by omega⟩
   .exact hk.elim
  .exact hk.elim
 |.closes t::z,st,γ,h,hk=>by
  rw[MI]at hk;split at hk
  .next o lo n ht=>
   split at hk
   .next e r l fr hb ho=>have hlo:=aoM hb;subst hlo;obtain⟨γ',hR⟩:=h.close ht ho hk.1.1 hk.1.2;exact y7 z _ γ' hR hk.2
   .exact hk.elim
  .exact hk.elim
inductive fQ where
 |int (k:IntKind)
 |bool
 |str
 |nil
 |sl (e:TypeId) (r:au) (fr:Bool)
 |ref (o:Nat)
 |junk
@[reducible] def fQ.den:fQ->Type
  |.int _=>Int
  |.bool=>Bool
  |.str=>Bytes
  |.sl _ r _=>List r.den
  |.nil|.ref _|.junk=>Unit
def fQ.cell:(c:fQ)->c.den->Cell
 |.int k,n=>.int k n
 |.bool,b=>.bool b
 |.str,s=>.str s
 |.sl e r fr,l=>.sl e r l fr
 |.nil,_=>.nil
 |.ref o,_=>.ref o
 |.junk,_=>.junk
def GH:Bool->Bool->Bool
 |true,b=>b
 |false,_=>true
def fQ.read:(c:fQ)->Cell->Option c.den
 |.int k,.int l n=>match decide (k=l)with|true=>some n|false=>none
 |.bool,.bool b=>some b
 |.str,.str s=>some s
 |.sl e r fr,.sl f s l gr=>match Nat.beq e f&&GH fr gr with
  |true=>if h:s.beq r=true then some (qm h l)else none
  |false=>none
 |.sl _ _ _,.nil=>some []
 |.nil,.nil=>some ()
 |.ref o,.ref p=>match Nat.beq o p with|true=>some ()|false=>none
 |.junk,_=>some ()
 |_,_=>none
theorem akY(X:V)(e:TypeId)(r:au)(fr:Bool):aN X (.sl e r [] fr) (.slice none 0 0):=by refine⟨by simp,.inl ⟨rfl,none,0,rfl⟩⟩
theorem fQ.weak{X:V}:∀(c:fQ)(x:Cell)(d:c.den)(v:Value),c.read x=some d->aN X x v->aN X (c.cell d) v:=by
 intro c x d v hr hv;cases c<;>cases x<;>simp only[fQ.read,reduceCtorEq,Option.some.injEq]at hr<;>try (subst hr;exact hv)
 case int.int k l n=>
  split at hr
  .next e=>cases hr;rw[show k=l by simpa using e];exact hv
  .cases hr
 case sl.sl e r fr f s l gr=>
  split at hr
  .next hb=>
   split at hr
   .next hs=>
    cases hr;rw[aoJ]at hb;have he:=aoM hb.1;subst he;have hsr:=au.eq_of_beq s r hs;subst hsr;have hv':dF X.w.heap (X.bM gr) (.sl e s) v l:=hv;refine dF.mono (λb hb'=>⟨⟨hb'.1,λhfr=>hb'.2 ?_⟩,rfl⟩) (.sl e s) v l hv';subst hfr;cases gr
    .simp[GH]at hb
    .rfl
   .cases hr
  .cases hr
 case sl.nil e r fr=>subst hr;rw[show v=_ from hv];exact akY X e r fr
 case nil.nil=>exact hv
 case ref.ref o p=>
  split at hr
  .next hb=>rw[fQ.cell,aoM hb];exact hv
  .cases hr
 all_goals exact aN.one _ _ hv
@[reducible] def kH:List fQ->Type
  |[]=>Unit
  |c::r=>c.den×kH r
def gy:(l:List fQ)->kH l->List Cell
 |[],_=>[]
 |c::r,x=>c.cell x.1::gy r x.2
def jk:(l:List fQ)->List Cell->Option (kH l)
 |[],[]=>some ()
 |c::r,x::xs=>match c.read x,jk r xs with
  |some a,some b=>some (a,b)
  |_,_=>none
 |_,_=>none
theorem zS{X:V}:∀(l:List fQ)(xs:List Cell)(d:kH l)(vs:List Value),jk l xs=some d->ai X xs vs->ai X (gy l d) vs
 |[],[],_,_,_,hv=>hv
 |c::r,x::xs,d,vs,hr,hv=>by
  rw[jk]at hr;split at hr
  .next a b h1 h2=>
   cases hr;cases vs with
   |nil=>cases hv
   |cons v vs=>exact⟨fQ.weak c x a v h1 hv.1,zS r xs b vs h2 hv.2⟩
  .cases hr
 |[],_::_,_,_,hr,_=>by simp[jk]at hr
 |_::_,[],_,_,hr,_=>by simp[jk]at hr
@[reducible] def xA:List (List fQ)->Type
  |[]=>Unit
  |l::r=>kH l×xA r
def Ej:(l:List (List fQ))->xA l->List (List Cell)
 |[],_=>[]
 |c::r,x=>gy c x.1::Ej r x.2
def AO:(l:List (List fQ))->List (List Cell)->Option (xA l)
 |[],[]=>some ()
 |c::r,x::xs=>match jk c x,AO r xs with
  |some a,some b=>some (a,b)
  |_,_=>none
 |_,_=>none
theorem aal{X:V}{l:List fQ}{xs:List Cell}{d:kH l}{b:Nat}(hr:jk l xs=some d)(h:fM X xs b):fM X (gy l d) b:=by obtain⟨arr,t,fz,hf,hh,hc⟩:=h;exact⟨arr,t,fz,hf,hh,zS _ _ _ _ hr hc⟩
theorem Qv{X:V}:∀(l:List (List fQ))(xs:List (List Cell))(d:xA l)(us:List Value),AO l xs=some d->dS X xs us->dS X (Ej l d) us
 |[],[],_,us,_,h=>h
 |c::r,x::xs,d,us,hr,h=>by
  rw[AO]at hr;split at hr
  .next a b h1 h2=>
   cases hr;cases us with
   |nil=>cases h
   |cons u us=>obtain⟨⟨b',hu,hk⟩,h3⟩:=h;exact⟨⟨b',hu,aal h1 hk⟩,Qv r xs b us h2 h3⟩
  .cases hr
 |[],_::_,_,_,hr,_=>by simp[AO]at hr
 |_::_,[],_,_,hr,_=>by simp[AO]at hr
inductive Dk where
 |one (c:fQ)
 |agg (l:List fQ)
 |dU (o off:Nat)
 |dY (l:List fQ) (off:Nat)
 |fn (f:FuncId) (l:List (List fQ))
@[reducible] def Dk.den:Dk->Type
  |.one c=>c.den
  |.agg l=>kH l
  |.dU _ _=>Unit
  |.dY l _=>kH l
  |.fn _ l=>xA l
def Dk.val:(s:Dk)->s.den->AV
 |.one c,x=>.sv (.one (c.cell x))
 |.agg l,x=>.sv (.agg (gy l x))
 |.dU o off,_=>.dU o off
 |.dY l off,x=>.dY (gy l x) off
 |.fn f l,x=>.fn f (Ej l x)
def Dk.read:(s:Dk)->AV->Option s.den
 |.one c,.sv (.one x)=>c.read x
 |.agg l,.sv (.agg xs)=>jk l xs
 |.dU o off,.dU p k=>match Nat.beq o p&&Nat.beq off k with|true=>some ()|false=>none
 |.dY l off,.dY xs k=>match Nat.beq off k with|true=>jk l xs|false=>none
 |.fn f l,.fn g xs=>match Nat.beq f g with|true=>AO l xs|false=>none
 |_,_=>none
theorem Dk.weak{X:V}(s:Dk)(x:AV)(d:s.den)(v:Value)(hr:s.read x=some d)(hv:aP X x v):aP X (s.val d) v:=by
 unfold Dk.read at hr;split at hr
 .exact fQ.weak _ _ _ _ hr hv
 .obtain⟨vs,e,h⟩:=hv;exact⟨vs,e,zS _ _ _ _ hr h⟩
 .split at hr
  .next hb=>rw[aoJ]at hb;rw[Dk.val,aoM hb.1,aoM hb.2];exact hv
  .cases hr
 .split at hr
  .next hb=>obtain⟨b,e,arr,t,fz,hf,hh,hc⟩:=hv;rw[Dk.val,aoM hb];exact⟨b,e,arr,t,fz,hf,hh,zS _ _ _ _ hr hc⟩
  .cases hr
 .split at hr
  .next hb=>obtain⟨us,e,hk⟩:=hv;rw[Dk.val,aoM hb];exact⟨us,e,Qv _ _ _ _ hr hk⟩
  .cases hr
 .cases hr
inductive E8 where
 |var (l:List fQ)
 |arr (e:TypeId) (r:au) (fr:Bool)
@[reducible] def E8.den:E8->Type
  |.var l=>kH l
  |.arr _ r _=>List r.den
def E8.obj:(s:E8)->s.den->aA
 |.var l,x=>.var (gy l x)
 |.arr e r fr,l=>.arr e r l fr
def E8.read:(s:E8)->aA->Option s.den
 |.var l,.var xs=>jk l xs
 |.arr e r fr,.arr f s l gr=>match Nat.beq e f&&GH fr gr with
  |true=>if h:s.beq r=true then some (qm h l)else none
  |false=>none
 |_,_=>none
def Dy(x x':aA):Prop:=
 (∃cs cs',x=.var cs/\x'=.var cs'/\∀(X:V) vs,ai X cs vs->ai X cs' vs)\/∃e r l fr gr,x=.arr e r l gr/\x'=.arr e r l fr/\(fr=true->gr=true)
theorem E8.weak(s:E8)(x:aA)(d:s.den)(hr:s.read x=some d):Dy x (s.obj d):=by
 unfold E8.read at hr;split at hr
 .exact .inl ⟨_,_,rfl,rfl,λX vs h=>zS _ _ _ _ hr h⟩
 .next e r fr f s l gr=>
  split at hr
  .next hb=>
   split at hr
   .next hs=>
    cases hr;rw[aoJ]at hb;have he:=aoM hb.1;have hg:fr=true->gr=true:=λe=>by have hb2:=hb.2;rw[e]at hb2;exact hb2
    subst he;have hsr:=au.eq_of_beq s r hs;subst hsr;exact .inr ⟨e,s,l,fr,gr,rfl,rfl,hg⟩
   .cases hr
  .cases hr
 .cases hr
structure Covers(J st:St):Prop where
 n:J.n=st.n
 tmps:∀t(X:V) v,aP X (st.tmps t) v->aP X (J.tmps t) v
 ah:∀o,(J.ah o=none/\st.ah o=none)\/∃x x',st.ah o=some x/\J.ah o=some x'/\Dy x x'
theorem Rel.covers{J:St}(h:Rel w0 M T γ st a w)(hc:Covers J st):Rel w0 M T γ J a w:=by
 have key:∀o x',J.ah o=some x'->∃x,st.ah o=some x/\Dy x x':=by
  intro o x' hx';rcases hc.ah o with⟨e,_⟩|⟨x,y,hx,hy,hw⟩
  .rw[e]at hx';cases hx'
  .rw[hy]at hx';cases hx';exact⟨x,hx,hw⟩
 have yek:∀o x,st.ah o=some x->∃x',J.ah o=some x'/\Dy x x':=by
  intro o x hx;rcases hc.ah o with⟨_,e⟩|⟨y,x',hy,hx',hw⟩
  .rw[e]at hx;cases hx
  .rw[hy]at hx;cases hx;exact⟨x',hx',hw⟩
 have hle:(aj w0 T γ st w).le (aj w0 T γ J w):=by
  refine⟨aoP _,λb hb=>⟨⟨hb.1,hb.2.1,λo x hx=>?_⟩,rfl⟩,λo cs hx=>⟨?_,rfl⟩,λo e r l fr hx=>⟨?_,rfl⟩⟩
  .obtain⟨y,hy,_⟩:=key o x hx;exact hb.2.2 o y hy
  .obtain⟨x',hx',hw⟩:=yek o _ hx;rcases hw with⟨cs1,cs2,e1,e2,_⟩|⟨e,r,l,fr,gr,e1,e2,_⟩
   .exact⟨cs2,hx'.trans (by rw[e2])⟩
   .cases e1
  .obtain⟨x',hx',hw⟩:=yek o _ hx;rcases hw with⟨cs1,cs2,e1,e2,_⟩|⟨e,r,l,fr,gr,e1,e2,_⟩
   .cases e1
   .cases e1;exact⟨l,fr,hx'.trans (by rw[e2])⟩
 refine⟨h.mT,h.defers,h.size.trans hc.n.symm,h.os,h.tape,h.output,h.grow,h.kept,λt=>hc.tmps t _ _ (aP.mono hle _ _ (h.tmps t)),λo x' hx'=>?_,λo x' b hx' hb=>?_,λo x' p y' b hx' hy' hop hb=>?_,λo v cs hN hx'=>?_⟩
 .obtain⟨x,hx,hw⟩:=key o x' hx';have ho:=h.ah o x hx;rcases hw with⟨cs1,cs2,e1,e2,hcs⟩|⟨e,r,l,fr,gr,e1,e2,hfg⟩
  .subst e1 e2;obtain⟨b,arr,t,g1,g2,g3⟩:=ho;exact⟨b,arr,t,g1,g2,hcs _ _ (ai.mono hle _ _ g3)⟩
  .subst e1 e2;obtain⟨xs,g1,g2,g3,g4⟩:=ho;exact⟨xs,g1,g2,λb hb hf=>g3 b hb (hfg hf),λi x hi=>aG.mono (λb hb=>hle.bM fr b ⟨hb.1,λe=>hb.2 (hfg e)⟩) r _ x (g4 i x hi)⟩
 .obtain⟨x,hx,_⟩:=key o x' hx';exact h.lt o x b hx hb
 .obtain⟨x,hx,_⟩:=key o x' hx';obtain⟨y,hy,_⟩:=key p y' hy';exact h.sep o x p y b hx hy hop hb
 .obtain⟨x,hx,hw⟩:=key o _ hx';rcases hw with⟨cs1,cs2,e1,e2,_⟩|⟨e,r,l,fr,gr,e1,e2,_⟩
  .subst e1;exact h.pin o v cs1 hN hx
  .cases e2
structure Shape where
 tmps:List (Nat×Dk)
 ah:List (Nat×E8)
@[reducible] def Xm:List (Nat×Dk)->Type
  |[]=>Unit
  |x::r=>x.2.den×Xm r
@[reducible] def Xn:List (Nat×E8)->Type
  |[]=>Unit
  |x::r=>x.2.den×Xn r
@[reducible] def Shape.den (s:Shape):Type:=Xm s.tmps×Xn s.ah
def Qw:(l:List (Nat×Dk))->Xm l->(Nat->AV)->Nat->AV
 |[],_,f=>f
 |s::r,x,f=>λi=>match Nat.beq i s.1 with|true=>s.2.val x.1|false=>Qw r x.2 f i
def Em:(l:List (Nat×E8))->Xn l->(Nat->Option aA)->Nat->Option aA
 |[],_,f=>f
 |s::r,x,f=>λi=>match Nat.beq i s.1 with|true=>some (s.2.obj x.1)|false=>Em r x.2 f i
def Xo(st:St):(l:List (Nat×Dk))->Option (Xm l)
 |[]=>some ()
 |s::r=>match s.2.read (st.tmps s.1),Xo st r with
  |some a,some b=>some (a,b)
  |_,_=>none
def Xp(st:St):(l:List (Nat×E8))->Option (Xn l)
 |[]=>some ()
 |s::r=>match st.ah s.1,Xp st r with
  |some x,some b=>match s.2.read x with
   |some a=>some (a,b)
   |none=>none
  |_,_=>none
def aJ:List Nat->Nat->Bool
 |[],_=>false
 |x::r,o=>match Nat.beq o x with|true=>true|false=>aJ r o
def names:List (Nat×E8)->List Nat
 |[]=>[]
 |x::r=>x.1::names r
def joint(n:Nat)(c v:Shape)(x:c.den)(y:v.den):St:=
 {n:=n,tmps:=Qw c.tmps x.1 (Qw v.tmps y.1 (λ_=>.undef)),ah:=Em c.ah x.2 (Em v.ah y.2 (λ_=>none))}
def only(c v:Shape)(st:St):St:=st.freeze λo=>!(aJ (names c.ah) o||aJ (names v.ah) o)
def Shape.read(s:Shape)(st:St):Option s.den:=
 match Xo st s.tmps,Xp st s.ah with
 |some a,some b=>some (a,b)
 |_,_=>none
theorem JB{X:V}(t:Nat)(u:Value)(hu:aP X (st.tmps t) u):∀(l:List (Nat×Dk))(x:Xm l)(f:Nat->AV),Xo st l=some x->aP X (f t) u->aP X (Qw l x f t) u
 |[],_,_,_,hf=>hf
 |s::r,x,f,hr,hf=>by
  rw[Xo]at hr;split at hr
  .next a b h1 h2=>
   cases hr;simp only[Qw];cases hb:Nat.beq t s.1 with
   |true=>
    rw[aoM hb]at hu;exact Dk.weak s.2 _ a u h1 hu
   |false=>exact JB t u hu r b f h2 hf
  .cases hr
theorem D5(o:Nat):∀(l:List (Nat×E8))(x:Xn l)(f:Nat->Option aA),Xp st l=some x->
 (f o=none\/∃y y',st.ah o=some y/\f o=some y'/\Dy y y')->
 ((Em l x f o=none/\aJ (names l) o=false/\f o=none)\/∃y y',st.ah o=some y/\Em l x f o=some y'/\Dy y y')
 |[],_,f,_,hf=>by
  rcases hf with e|h
  .exact .inl ⟨e,rfl,e⟩
  .exact .inr h
 |s::r,x,f,hr,hf=>by
  rw[Xp]at hr;split at hr
  .next y b h1 h2=>
   split at hr
   .next a h3=>
    cases hr;simp only[Em,names,aJ];cases hb:Nat.beq o s.1 with
    |true=>
     rw[aoM hb];exact .inr ⟨y,_,h1,rfl,E8.weak s.2 y a h3⟩
    |false=>exact D5 o r b f h2 hf
   .cases hr
  .cases hr
theorem acu{c v:Shape}{x:c.den}{y:v.den}(hc:c.read (only c v st)=some x)(hv:v.read (only c v st)=some y):Covers (joint st.n c v x y) (only c v st):=by
 unfold Shape.read at hc hv;split at hc
 .next a b h1 h2=>
  cases hc;split at hv
  .next a' b' h3 h4=>
   cases hv;refine⟨rfl,λt X u hu=>JB t u hu _ _ _ h1 (JB t u hu _ _ _ h3 trivial),λo=>?_⟩;rcases D5 o v.ah b' (λ_=>none) h4 (.inl rfl)with⟨e1,e2,_⟩|h
   .rcases D5 o c.ah b (Em v.ah b' (λ_=>none)) h2 (.inl e1)with⟨g1,g2,_⟩|h
    .refine .inl ⟨g1,?_⟩;simp[only,St.freeze,e2,g2]
    .exact .inr h
   .rcases D5 o c.ah b (Em v.ah b' (λ_=>none)) h2 (.inr h)with⟨g1,g2,g3⟩|h'
    .obtain⟨y,y',_,h5,_⟩:=h;rw[h5]at g3;cases g3
    .exact .inr h'
  .cases hv
 .cases hc
theorem Rel.joint(h:Rel w0 M T γ st a w){c v:Shape}{x:c.den}{y:v.den}(hc:c.read (only c v st)=some x)(hv:v.read (only c v st)=some y):
 Rel w0 M T γ (joint st.n c v x y) a w:=(h.freeze _).covers (acu hc hv)
end Go.Fw
namespace Go.Fw
open Go
variable {P:Program} {w0:World} {M:Nat->Prop} {T:Ext} {γ γ':Nat->Value} {st:St} {a:Act} {w w':World}
def Cell.ren(f:Nat->Nat):Cell->Cell
 |.ref q=>.ref (f q)
 |c=>c
def SV.ren(f:Nat->Nat):SV->SV
 |.one c=>.one (c.ren f)
 |.agg cs=>.agg (cs.map (Cell.ren f))
def AV.ren(f:Nat->Nat):AV->AV
 |.undef=>.undef
 |.sv v=>.sv (v.ren f)
 |.kU vs=>.kU (vs.map (SV.ren f))
 |.dU o off=>.dU (f o) off
 |.lW o i off=>.lW (f o) i off
 |.win o i off=>.win (f o) i off
 |.nS r x off fr=>.nS r x off fr
 |.dY cs off=>.dY (cs.map (Cell.ren f)) off
 |.fn g caps=>.fn g (caps.map (List.map (Cell.ren f)))
def aA.ren(f:Nat->Nat):aA->aA
 |.var cs=>.var (cs.map (Cell.ren f))
 |.arr e r l fr=>.arr e r l fr
def wK(o p q:Nat):Nat:=match Nat.beq q o with|true=>p|false=>q
def St.ren(st:St)(o p:Nat):St:=
 {n:=st.n,tmps:=λt=>(st.tmps t).ren (wK o p),ah:=λq=>match Nat.beq q p with
  |true=>(st.ah o).map (aA.ren (wK o p))
  |false=>match Nat.beq q o with|true=>none|false=>(st.ah q).map (aA.ren (wK o p))}
structure V.oK(f:Nat->Nat)(X Y:V):Prop where
 n0:Y.n0<=X.n0
 foot:∀b,X.foot b->Y.foot b/\Y.w.heap[b]? =X.w.heap[b]?
 var:∀o cs,X.ah o=some (.var cs)->(∃cs',Y.ah (f o)=some (.var cs'))/\Y.γ (f o)=X.γ o
 arr:∀o e r l fr,X.ah o=some (.arr e r l fr)->(∃l' fr',Y.ah (f o)=some (.arr e r l' fr'))/\Y.γ (f o)=X.γ o
variable {f:Nat->Nat}
theorem V.oK.bM{X Y:V}(h:X.oK f Y)(fr:Bool)(b:Nat)(hb:X.bM fr b):Y.bM fr b/\Y.w.heap[b]? =X.w.heap[b]? :=
 ⟨⟨(h.foot b hb.1).1,λe=>aoW h.n0 (hb.2 e)⟩,(h.foot b hb.1).2⟩
theorem aN.oK{X Y:V}(h:X.oK f Y):∀(c:Cell)(v:Value),aN X c v->aN Y (c.ren f) v
 |.int _ _,_,H|.bool _,_,H|.str _,_,H|.nil,_,H|.junk,_,H=>H
 |.sl e r l fr,v,H=>dF.mono (λb hb=>h.bM fr b hb) (.sl e r) v l H
 |.ref o,v,⟨⟨e,r,l,fr,hx⟩,hv,h1⟩=>by obtain⟨⟨l',fr',hy⟩,hγ⟩:=h.arr o e r l fr hx;exact⟨⟨e,r,l',fr',hy⟩,hv.trans hγ.symm,h1⟩
theorem ai.oK{X Y:V}(h:X.oK f Y):∀(cs:List Cell)(vs:List Value),ai X cs vs->ai Y (cs.map (Cell.ren f)) vs
 |[],[],H=>H
 |c::cs,v::vs,⟨h1,h2⟩=>⟨aN.oK h c v h1,ai.oK h cs vs h2⟩
 |[],_::_,H|_::_,[],H=>by cases H
theorem dn.oK{X Y:V}(h:X.oK f Y):∀(c:SV)(v:Value),dn X c v->dn Y (c.ren f) v
 |.one c,v,H=>aN.oK h c v H
 |.agg cs,_,⟨vs,hv,H⟩=>⟨vs,hv,ai.oK h cs _ H⟩
theorem dA.oK{X Y:V}(h:X.oK f Y):∀(cs:List SV)(vs:List Value),dA X cs vs->dA Y (cs.map (SV.ren f)) vs
 |[],[],H=>H
 |c::cs,v::vs,⟨h1,h2⟩=>⟨dn.oK h c v h1,dA.oK h cs vs h2⟩
 |[],_::_,H|_::_,[],H=>by cases H
theorem fM.oK{X Y:V}(h:X.oK f Y){cs:List Cell}{b:Nat}(H:fM X cs b):fM Y (cs.map (Cell.ren f)) b:=by obtain⟨arr,t,fz,hb,hh,hr⟩:=H;exact⟨arr,t,fz,(h.foot b hb).1,(h.foot b hb).2.trans hh,ai.oK h cs _ hr⟩
theorem dS.oK{X Y:V}(h:X.oK f Y):∀(l:List (List Cell))(us:List Value),dS X l us->dS Y (l.map (List.map (Cell.ren f))) us
 |[],[],H=>H
 |cs::l,u::us,⟨⟨b,hu,hk⟩,h2⟩=>⟨⟨b,hu,fM.oK h hk⟩,dS.oK h l us h2⟩
 |[],_::_,H|_::_,[],H=>by cases H
theorem aP.oK{X Y:V}(h:X.oK f Y):∀(c:AV)(v:Value),aP X c v->aP Y (c.ren f) v
 |.undef,_,_=>trivial
 |.sv x,v,H=>dn.oK h x v H
 |.kU xs,_,⟨vs,hv,H⟩=>⟨vs,hv,dA.oK h xs _ H⟩
 |.dU o off,v,⟨b,cs,hx,hγ,hv⟩=>by
  obtain⟨⟨cs',hy⟩,he⟩:=h.var o cs hx;exact⟨b,cs',hy,he.trans hγ,hv⟩
 |.lW o i off,v,⟨b,n,cap,e,r,l,fr,hx,hγ,hv⟩=>by
  obtain⟨⟨l',fr',hy⟩,he⟩:=h.arr o e r l fr hx;exact⟨b,n,cap,e,r,l',fr',hy,he.trans hγ,hv⟩
 |.win o i off,v,⟨b,n,cap,e,r,l,fr,hx,hγ,hv⟩=>by
  obtain⟨⟨l',fr',hy⟩,he⟩:=h.arr o e r l fr hx;exact⟨b,n,cap,e,r,l',fr',hy,he.trans hγ,hv⟩
 |.nS r x off fr,v,⟨b,base,cs,t,fz,hv,hf,hb,hr⟩=>
  ⟨b,base,cs,t,fz,hv,(h.bM fr b hf).1,(h.bM fr b hf).2.trans hb,aG.mono (λb hb=>h.bM fr b hb) r _ x hr⟩
 |.dY cs off,v,⟨b,hv,hk⟩=>⟨b,hv,fM.oK h hk⟩
 |.fn g caps,v,⟨us,hv,hk⟩=>⟨us,hv,dS.oK h caps _ hk⟩
theorem aV.oK{X Y:V}(h:X.oK f Y)(o p:Nat):∀(x:aA),(∀b,blk (X.γ o)=some b->Y.w.heap[b]? =X.w.heap[b]?)->Y.γ p=X.γ o->aV X o x->aV Y p (x.ren f)
 |.var cs,hb,hγ,⟨b,arr,t,e,hh,hr⟩=>⟨b,arr,t,hγ.trans e,(hb b (by rw[e];rfl)).trans hh,ai.oK h cs _ hr⟩
 |.arr e r l fr,hb,hγ,⟨xs,hown,hr,hf,hx⟩=>by
  refine⟨xs,?_,hr,λb hb' hfr=>aoW h.n0 (hf b (hγ▸hb') hfr),λi x hi=>aG.mono (λb hb=>h.bM fr b hb) r _ x (hx i x hi)⟩;obtain⟨h1,h2⟩:=hown;refine⟨h1,?_⟩;rcases h2 with h2|⟨g,cap,cur,hv,hg,hh,hrest⟩
  .exact .inl ⟨hγ.trans h2.1,h2.2⟩
  .exact .inr ⟨g,cap,cur,hγ.trans hv,hg,(hb g (by rw[hv];rfl)).trans hh,hrest⟩
theorem aeS(o p:Nat):wK o p o=p:=by unfold wK;rw[apy]
theorem MJ{o p q:Nat}(h:q≠o):wK o p q=q:=by unfold wK;rw[wW h]
theorem Rel.ren(h:Rel w0 M T γ st a w){o p:Nat}{e:TypeId}{r:au}{l:List r.den}{fr:Bool}(ho:st.ah o=some (.arr e r l fr))(hp:st.ah p=none):
 Rel w0 M T (λq=>match Nat.beq q p with|true=>γ o|false=>γ q) (st.ren o p) a w:=by
 have hop:o≠p:=λe=>by rw[e,hp]at ho;cases ho
 have old:∀q x,(st.ren o p).ah q=some x->∃q0 x0,st.ah q0=some x0/\x=x0.ren (wK o p)/\q=wK o p q0/\(match Nat.beq q p with|true=>γ o|false=>γ q)=γ q0:=by
  intro q x hx;simp only[St.ren]at hx;cases hqp:Nat.beq q p with
  |true=>
   rw[hqp]at hx;simp only[ho,apF,Option.some.injEq]at hx;exact⟨o,_,ho,hx.symm,by rw[aeS];exact aoM hqp,rfl⟩
  |false=>
   rw[hqp]at hx;cases hqo:Nat.beq q o with
   |true=>rw[hqo]at hx;cases hx
   |false=>
    rw[hqo]at hx;cases hs:st.ah q with
    |none=>rw[hs]at hx;cases hx
    |some x0=>rw[hs]at hx;cases hx;exact⟨q,x0,hs,rfl,(MJ λe=>by rw[e,apy]at hqo;cases hqo).symm,rfl⟩
 have new:∀q x,st.ah q=some x->(st.ren o p).ah (wK o p q)=some (x.ren (wK o p))/\(match Nat.beq (wK o p q) p with|true=>γ o|false=>γ (wK o p q))=γ q:=by
  intro q x hx;by_cases hqo:q=o
  .subst hqo;rw[aeS];refine⟨?_,by rw[apy]⟩;simp only[St.ren,apy,hx,apF]
  .have hqp:q≠p:=λe=>by rw[e,hp]at hx;cases hx
   rw[MJ hqo,wW hqp];refine⟨?_,rfl⟩;simp only[St.ren,wW hqp,wW hqo,hx,apF]
 have le:V.oK (wK o p) (aj w0 T γ st w) ⟨w,w0.heap.size,T,λq=>match Nat.beq q p with|true=>γ o|false=>γ q,(st.ren o p).ah⟩:=by
  refine⟨aoP _,λb hb=>⟨⟨hb.1,hb.2.1,λq x hx=>?_⟩,rfl⟩,λq cs hx=>?_,λq e' r' l' fr' hx=>?_⟩
  .obtain⟨q0,x0,h1,_,_,h4⟩:=old q x hx;show blk (match Nat.beq q p with|true=>γ o|false=>γ q)≠some b;rw[h4];exact hb.2.2 q0 x0 h1
  .obtain⟨h1,h2⟩:=new q _ hx;exact⟨⟨_,h1⟩,h2⟩
  .obtain⟨h1,h2⟩:=new q _ hx;exact⟨⟨_,_,h1⟩,h2⟩
 refine⟨h.mT,h.defers,h.size,h.os,h.tape,h.output,h.grow,h.kept,λt=>aP.oK le _ _ (h.tmps t),λq x hx=>?_,λq x b hx hb=>?_,λq x q' y b hx hy hne hb=>?_,λq v cs hN hx=>?_⟩
 .obtain⟨q0,x0,h1,rfl,h3,h4⟩:=old q x hx;exact aV.oK le q0 q x0 (λ_ _=>rfl) h4 (h.ah q0 x0 h1)
 .obtain⟨q0,x0,h1,_,_,h4⟩:=old q x hx;exact h.lt q0 x0 b h1 (h4▸hb)
 .obtain⟨q0,x0,h1,_,h3,h4⟩:=old q x hx;obtain⟨q1,x1,g1,_,g3,g4⟩:=old q' y hy;rw[h4]at hb;rw[g4];refine h.sep q0 x0 q1 x1 b h1 g1 (λe=>hne ?_) hb;rw[h3,g3,e]
 .obtain⟨q0,x0,h1,h2,h3,h4⟩:=old q _ hx;cases x0 with
  |arr _ _ _ _=>cases h2
  |var cs0=>
   have:q0≠o:=λe=>by rw[e,ho]at h1;cases h1
   rw[MJ this]at h3;subst h3;rw[h4];exact h.pin q v cs0 hN h1
theorem Rel.alR(h:Rel w0 M T γ st a w){o:Nat}{cs cs':List Cell}(ho:st.ah o=some (.var cs))(hc:∀vs,ai (aj w0 T γ st w) cs vs->ai (aj w0 T γ st w) cs' vs):
 Rel w0 M T γ (st.add o (.var cs')) a w:=by
 have hother:∀p,p≠o->(st.add o (.var cs')).ah p=st.ah p:=λp hp=>kY st _ hp;have hsome:∀p y,(st.add o (.var cs')).ah p=some y->∃z,st.ah p=some z:=by
  intro p y hp;by_cases e:p=o
  .rw[e];exact⟨_,ho⟩
  .rw[hother p e]at hp;exact⟨y,hp⟩
 have le:(aj w0 T γ st w).le ⟨w,w0.heap.size,T,γ,(st.add o (.var cs')).ah⟩:=by
  refine⟨aoP _,λc hb=>⟨⟨hb.1,hb.2.1,λp y hp=>?_⟩,rfl⟩,λp ds hp=>⟨?_,rfl⟩,λp e r l fr hp=>⟨?_,rfl⟩⟩
  .obtain⟨z,hz⟩:=hsome p y hp;exact hb.2.2 p z hz
  .by_cases e:p=o
   .subst e;exact⟨cs',add_same _ _ _⟩
   .exact⟨ds,(hother p e).trans hp⟩
  .by_cases e2:p=o
   .subst e2;have hp':st.ah p=some (.arr e r l fr):=hp;rw[ho]at hp';cases hp'
   .exact⟨l,fr,(hother p e2).trans hp⟩
 refine⟨h.mT,h.defers,h.size,h.os,h.tape,h.output,h.grow,h.kept,λt=>aP.mono le _ _ (h.tmps t),λp y hp=>?_,λp y c hp hb=>?_,λp y q z c hp hq hpq hb=>?_,λp v ds hN hp=>?_⟩
 .by_cases e:p=o
  .subst e;rw[add_same]at hp;cases hp;obtain⟨b,arr,t,g1,g2,g3⟩:=h.ah p _ ho;exact⟨b,arr,t,g1,g2,ai.mono le _ _ (hc _ g3)⟩
  .rw[hother p e]at hp;exact aV.mono le p y (λ_ _=>rfl) rfl (h.ah p y hp)
 .obtain⟨z,hz⟩:=hsome p y hp;exact h.lt p z c hz hb
 .obtain⟨z1,hz1⟩:=hsome p y hp;obtain⟨z2,hz2⟩:=hsome q z hq;exact h.sep p z1 q z2 c hz1 hz2 hpq hb
 .by_cases e:p=o
  .subst e;exact h.pin p v cs hN ho
  .rw[hother p e]at hp;exact h.pin p v ds hN hp
inductive Place where
 |slot (t k:Nat)
 |obj (o k:Nat)
def cellAt(st:St):Place->Option Cell
 |.slot t k=>match st.tmps t with|.sv v=>v.cells[k]? |_=>none
 |.obj o k=>match st.ah o with|some (.var cs)=>cs[k]? |_=>none
def SV.put(k:Nat)(c:Cell):SV->SV
 |.one _=>.one c
 |.agg cs=>.agg (cs.set k c)
def setCell(st:St)(c:Cell):Place->St
 |.slot t k=>match st.tmps t with|.sv v=>st.set t (.sv (v.put k c))|_=>st
 |.obj o k=>match st.ah o with|some (.var cs)=>st.add o (.var (cs.set k c))|_=>st
abbrev Qx:=Place×Nat×TypeId×au×Bool
def settle(st:St)(x:Qx):Option St:=
 match cellAt st x.1 with
 |some (.ref o)=>match Nat.beq o x.2.1 with
  |true=>some st
  |false=>match (st.kill (Nat.beq x.2.1 ·)).ah o with
   |some (.arr _ _ _ _)=>some ((st.kill (Nat.beq x.2.1 ·)).ren o x.2.1)
   |_=>none
 |some .nil=>match Nat.ble 1 x.2.2.2.1.len,cellAt ((st.kill (Nat.beq x.2.1 ·)).add x.2.1 (.arr x.2.2.1 x.2.2.2.1 [] x.2.2.2.2)) x.1 with
  |true,some .nil=>some (setCell ((st.kill (Nat.beq x.2.1 ·)).add x.2.1 (.arr x.2.2.1 x.2.2.2.1 [] x.2.2.2.2)) (.ref x.2.1) x.1)
  |_,_=>none
 |_=>none
def settles(st:St):List Qx->Option St
 |[]=>some st
 |x::l=>match settle st x with
  |some s=>settles s l
  |none=>none
theorem ai.set{X:V}:∀(cs:List Cell)(vs:List Value)(k:Nat)(c:Cell),(∀v,aN X .nil v->aN X c v)->cs[k]? =some .nil->ai X cs vs->ai X (cs.set k c) vs
 |[],_,_,_,_,h,_=>by simp at h
 |x::cs,v::vs,0,c,hc,h,⟨h1,h2⟩=>by simp at h;subst h;exact⟨hc v h1,h2⟩
 |x::cs,v::vs,k+1,c,hc,h,⟨h1,h2⟩=>⟨h1,ai.set cs vs k c hc (by simpa using h) h2⟩
 |_::_,[],_,_,_,_,H=>by cases H
theorem Rel.setCell(h:Rel w0 M T γ st a w){c:Cell}{pl:Place}(hn:cellAt st pl=some .nil)(hc:∀v,aN (aj w0 T γ st w) .nil v->aN (aj w0 T γ st w) c v):Rel w0 M T γ (setCell st c pl) a w:=by
 cases pl with
 |slot t k=>
  simp only[cellAt]at hn;simp only[Fw.setCell];split at hn
  .next v hv=>
   try rw[hv]
   have hcov:aP (aj w0 T γ st w) (.sv (v.put k c)) (a.tmps.getD t undef):=by
    have h0:=h.tmps t;rw[hv]at h0;cases v with
    |one x=>
     have hx:x=.nil/\k=0:=by
      cases k with
      |zero=>simp[SV.cells]at hn;exact⟨hn,rfl⟩
      |succ k=>simp[SV.cells]at hn
     obtain⟨rfl,rfl⟩:=hx;exact hc _ h0
    |agg cs=>obtain⟨vs,hvs,hr⟩:=h0;exact⟨vs,hvs,ai.set cs _ k c hc hn hr⟩
   refine⟨h.mT,h.defers,h.size,h.os,h.tape,h.output,h.grow,h.kept,λt'=>?_,h.ah,h.lt,h.sep,h.pin⟩;by_cases e':t'=t
   .subst e';simp only[St.set,apy];exact hcov
   .simp only[St.set,wW e'];exact h.tmps t'
  .cases hn
 |obj o k=>
  simp only[cellAt]at hn;simp only[Fw.setCell];split at hn
  .next cs hcs=>
   try rw[hcs]
   exact h.alR hcs λvs hvs=>ai.set cs vs k c hc hn hvs
  .cases hn
theorem Rel.akZ(h:Rel w0 M T γ st a w){o:Nat}(ho:st.ah o=none)(e:TypeId)(r:au)(fr:Bool)(hr:1<=r.len):
 Rel w0 M T (upd γ o (.slice none 0 0)) (st.add o (.arr e r [] fr)) a w:=by
 refine(h.grown (γ':=upd γ o (.slice none 0 0)) (w':=w) (st.add o (.arr e r [] fr)).ah
  (λp x hp=>by rw[kY _ _ (by rintro rfl;rw[ho]at hp;cases hp)];exact hp)
  (λp x hp=>by rw[nN];rintro rfl;rw[ho]at hp;cases hp)
  rfl rfl rfl (aoP _) (λ_ _=>rfl)
  (λp x hp hn=>by
    by_cases e':p=o
    .subst e';rw[add_same]at hp;cases hp;refine⟨⟨[],⟨by simp,.inl ⟨upd_same _ _ _,rfl⟩⟩,hr,(λb hb=>by have hb':blk (upd γ p (.slice none 0 0) p)=some b:=hb;rw[upd_same]at hb';cases hb'),λi x hi=>by simp at hi⟩,λb hb=>by rw[upd_same]at hb;cases hb⟩
    .rw[kY _ _ e']at hp;rw[hp]at hn;cases hn)
  (λp cs hp hn=>by
    by_cases e':p=o
    .subst e';rw[add_same]at hp;cases hp
    .rw[kY _ _ e']at hp;rw[hp]at hn;cases hn)
  (λp x q y b hp hpn hq hqn hpq hb=>by
    by_cases e':p=o
    .subst e';rw[upd_same]at hb;cases hb
    .rw[kY _ _ e']at hp;rw[hp]at hpn;cases hpn)).1
theorem aam(st:St)(p:Nat):(st.kill (Nat.beq p ·)).ah p=none:=by simp[St.kill]
theorem Rel.settle(h:Rel w0 M T γ st a w){x:Qx}{s:St}(hs:Fw.settle st x=some s):∃γ',Rel w0 M T γ' s a w:=by
 obtain⟨pl,p,e,r,fr⟩:=x;unfold Fw.settle at hs;dsimp only at hs;split at hs
 .next o ho=>
  split at hs
  .cases hs;exact⟨γ,h⟩
  .split at hs
   .next hk=>cases hs;exact⟨_,(h.kill _).ren hk (aam st p)⟩
   .cases hs
 .next ho=>
  split at hs
  .next hr hn=>cases hs;have hR:=(h.kill (Nat.beq p ·)).akZ (aam st p) e r fr (by simpa[aqZ]using hr);refine⟨_,hR.setCell hn λv hv=>?_⟩;have hv:v=.slice none 0 0:=hv;subst hv;exact⟨⟨e,r,[],fr,add_same _ _ _⟩,(upd_same _ _ _).symm,rfl⟩
  .cases hs
 .cases hs
theorem Rel.settles:∀(l:List Qx){γ:Nat->Value}{st s:St}(_:Rel w0 M T γ st a w)(_:Fw.settles st l=some s),∃γ',Rel w0 M T γ' s a w
 |[],γ,st,s,h,hs=>by cases hs;exact⟨γ,h⟩
 |x::l,γ,st,s,h,hs=>by
  rw[Fw.settles]at hs;split at hs
  .next s1 h1=>obtain⟨γ1,hR⟩:=h.settle h1;exact Rel.settles l hR hs
  .cases hs
end Go.Fw
namespace Go.Fw
open Go
variable {P:Program} {w0:World} {M:Nat->Prop} {T:Ext} {γ γ':Nat->Value} {st s:St} {a:Act} {w w':World} {Θ:iO} {Γ:jU}
def zT(Θ:iO)(st:St)(o:Op):Option (Prop×Nat×aA):=match o with
 |.call {callee:=.builtin .append,args,argTypes}=>match args.toList,argTypes.toList with
  |[s,x],[t,u]=>match Nat.beq t u,Θ t,st.ev s,st.ev x with
   |true,some ti,.sv (.one (.ref o)),.sv (.one y)=>match ti.kind with
    |.slice e=>match Θ e with
     |some te=>match y.get st (.sl e te.cells)with
      |some news=>match st.ah o with
       |some (.arr f r l fr)=>if h:te.cells.beq r=true then
         match Nat.beq e f with
         |true=>some (l.length+news.length<=big,o,.arr e r (l++qm h news) (fr&&y.sS te.cells st))
         |false=>none
        else none
       |_=>none
      |none=>none
     |none=>none
    |_=>none
   |_,_,_,_=>none
  |_,_=>none
 |_=>none
theorem ahc(h:st.more s){e:TypeId}{r:au}{y:Cell}{news:List r.den}(hg:y.get st (.sl e r)=some news):y.fresh s=y.fresh st:=by
 cases y<;>try rfl
 case ref o=>
  simp only[Cell.get]at hg;split at hg
  .next e' r' l fr ho=>simp only[Cell.fresh];rw[h.ah o _ ho,ho]
  .cases hg
theorem afP(h:st.more s){e:TypeId}{r:au}{y:Cell}{news:List r.den}(hg:y.get st (.sl e r)=some news):y.sS r s=y.sS r st:=by unfold Cell.sS;rw[ahc h hg]
theorem aef(h:st.more s){o:Op}{x:Prop×Nat×aA}(hc:zT Θ st o=some x):zT Θ s o=some x:=by
 unfold zT at hc;split at hc
 case h_2=>cases hc
 next args nO=>
 split at hc
 case h_2=>cases hc
 next s1 x1 t u hargs Gv=>
 split at hc
 case h_2=>cases hc
 next ti o y hb ht hs hx=>
 split at hc
 case h_2=>cases hc
 next e hk=>
 split at hc
 case h_2=>cases hc
 next te hte=>
 split at hc
 case h_2=>cases hc
 next news hnews=>
 split at hc
 case h_2=>cases hc
 next f r l fr ho=>
 split at hc
 case isFalse=>cases hc
 next hbr=>
 split at hc
 case h_2=>cases hc
 next hef=>
 cases hc;have h1:=aZ h hs (by simp);have h2:=aZ h hx (by simp);unfold zT;simp only[hargs,Gv,hb,ht,h1,h2,hk,hte,VD h _ _ _ hnews,h.ah o _ ho,hbr,hef,dif_pos,afP h hnews]
theorem afQ{o:Op}{p:Prop}{q:Nat}{x:aA}(d:Nat)(hc:zT Θ st o=some (p,q,x)):
 eff Θ Γ d st o=some (p,.sv (.one (.ref q)),(st.kill (Nat.beq q ·)).add q x)/\(∃e r l fr,x=.arr e r l fr)/\∃e r l fr,st.ah q=some (.arr e r l fr):=by
 unfold zT at hc;split at hc
 case h_2=>cases hc
 next args nO=>
 split at hc
 case h_2=>cases hc
 next s1 x1 t u hargs Gv=>
 split at hc
 case h_2=>cases hc
 next ti o y hb ht hs hx=>
 split at hc
 case h_2=>cases hc
 next e hk=>
 split at hc
 case h_2=>cases hc
 next te hte=>
 split at hc
 case h_2=>cases hc
 next news hnews=>
 split at hc
 case h_2=>cases hc
 next f r l fr ho=>
 split at hc
 case isFalse=>cases hc
 next hbr=>
 split at hc
 case h_2=>cases hc
 next hef=>
 cases hc;refine⟨?_,⟨_,_,_,_,rfl⟩,⟨_,_,_,_,ho⟩⟩;simp only[eff,hargs,Gv,hb,ht,hs,hx,hk,hte,hnews,ho,hbr,hef,dif_pos]
theorem Cell.wL{S:Nat->Bool}{f:Nat->Nat}(h:∀o,S o=false->f o=o):∀(c:Cell),(c.kill S).ren f=c.kill S
 |.int _ _|.bool _|.str _|.nil|.sl _ _ _ _|.junk=>rfl
 |.ref o=>by
  simp only[Cell.kill];cases hs:S o with
  |true=>rfl
  |false=>simp only[Cell.ren,h o hs]
theorem zf{S:Nat->Bool}{f:Nat->Nat}(h:∀o,S o=false->f o=o)(cs:List Cell):(cs.map (Cell.kill S)).map (Cell.ren f)=cs.map (Cell.kill S):=by rw[ap4];exact aqh λc _=>Cell.wL h c
theorem SV.wL{S:Nat->Bool}{f:Nat->Nat}(h:∀o,S o=false->f o=o):∀(c:SV),(c.kill S).ren f=c.kill S
 |.one c=>by simp only[SV.kill,SV.ren,Cell.wL h]
 |.agg cs=>by simp only[SV.kill,SV.ren,zf h]
theorem AV.wL{S:Nat->Bool}{f:Nat->Nat}(h:∀o,S o=false->f o=o):∀(c:AV),(c.kill S).ren f=c.kill S
 |.undef=>rfl
 |.sv v=>by simp only[AV.kill,AV.ren,SV.wL h]
 |.kU vs=>by
  simp only[AV.kill,AV.ren];rw[ap4,aqh λc _=>(show((SV.ren f) ∘ (SV.kill S)) c=SV.kill S c from SV.wL h c)]
 |.dU o off=>by
  simp only[AV.kill];cases hs:S o with
  |true=>rfl
  |false=>simp only[AV.ren,h o hs]
 |.lW o i off=>by
  simp only[AV.kill];cases hs:S o with
  |true=>rfl
  |false=>simp only[AV.ren,h o hs]
 |.win o i off=>by
  simp only[AV.kill];cases hs:S o with
  |true=>rfl
  |false=>simp only[AV.ren,h o hs]
 |.nS _ _ _ _=>rfl
 |.dY cs off=>by simp only[AV.kill,AV.ren,zf h]
 |.fn g caps=>by simp only[AV.kill,AV.ren];rw[ap4,aqh λc _=>(show((List.map (Cell.ren f)) ∘ (List.map (Cell.kill S))) c=List.map (Cell.kill S) c from zf h c)]
theorem aA.wL{S:Nat->Bool}{f:Nat->Nat}(h:∀o,S o=false->f o=o):∀(c:aA),(c.kill S).ren f=c.kill S
 |.var cs=>by simp only[aA.kill,aA.ren,zf h]
 |.arr _ _ _ _=>rfl
theorem ahd{G:jo}(hE:oW P G Θ Γ w0 M)(h:Rel w0 M T γ st a w)(o:Oper){p:Prop}{n q:Nat}{x:aA}
 (hc:zT Θ st o.op=some (p,q,x)) (hp:p) (hn0:st.ah n=none) {next:Act->World->Prop} {Q:Exit->Act->World->Prop}
 (hn:∀u γ' w',Rel w0 M T γ' ((st.kill (Nat.beq q ·)).add n x) a w'->aP (aj w0 T γ' ((st.kill (Nat.beq q ·)).add n x) w') (.sv (.one (.ref n))) u->next (a.put o.dst u) w'):o.wp P a w next Q:=by
 obtain⟨he,⟨e,r,l,fr,rfl⟩,⟨e',r',l',fr',hq⟩⟩:=afQ (Γ:=Γ) 0 hc;have hnq:n≠q:=λe=>by rw[e,hq]at hn0;cases hn0
 have hqn:∀t,Nat.beq q t=false->wK q n t=t:=λt ht=>MJ λe=>by rw[e,apy]at ht;cases ht
 refine aaj hE h o he hp λu γ1 w1 hR hv=>?_;have hS:(((st.kill (Nat.beq q ·)).add q (.arr e r l fr)).ren q n)=(st.kill (Nat.beq q ·)).add n (.arr e r l fr):=by
  simp only[St.ren,St.add,St.kill,St.mk.injEq,arb];refine⟨funext λt=>AV.wL hqn _,funext λt=>?_⟩;cases hb:Nat.beq t n with
  |true=>simp[apy,aA.ren]
  |false=>
   cases hb2:Nat.beq t q with
   |true=>
    rw[aoM hb2,apy]
   |false=>
    have hb3:Nat.beq q t=false:=by
     cases hb3:Nat.beq q t with
     |false=>rfl
     |true=>rw[aoM hb3,apy]at hb2;cases hb2
    simp only[hb3];cases st.ah t with
    |none=>rfl
    |some y=>simp only[apF,aA.wL hqn]
 have ak1:=hR.ren (o:=q) (p:=n) (e:=e) (r:=r) (l:=l) (fr:=fr) (by simp[St.add,apy]) (by simp only[St.add,St.kill,wW hnq,hn0,aqo];cases Nat.beq q n<;>rfl);rw[hS]at ak1;refine hn u _ _ ak1 ?_;obtain⟨_,h2,h3⟩:aN _ (.ref q) u:=hv;have nX:((st.kill (Nat.beq q ·)).add n (.arr e r l fr)).ah n=some (.arr e r l fr):=by simp[St.add,apy]
 have hval:u=(match Nat.beq n n with|true=>γ1 q|false=>γ1 n):=by rw[apy];exact h2
 exact⟨⟨e,r,l,fr,nX⟩,hval,h3⟩
end Go.Fw
