import Derived.Test.YtncbcelpbmlgdaaGreatDoorFwA
import Derived.Lib.SliceRun
import Derived.WalkSpells
namespace Go.Fw
open Go
variable {P:Program} {w0:World} {M:Nat->Prop} {T:Ext} {γ γ':Nat->Value} {st:St} {a:Act} {w w':World} {Θ:jr} {Γ:kR}
theorem abx{α:Type}{l:List α}{lo:Nat}{news:List α}(h:lo+news.length<=l.length):(o5 l lo news).length=l.length:=by unfold o5;simp only[avn,avz,avW];omega
theorem ahC{α:Type}{l:List α}{lo:Nat}{news:List α}(h:lo+news.length<=l.length)(k:Nat):
 (o5 l lo news)[k]? =if k<lo then l[k]? else if k<lo+news.length then news[k-lo]? else l[k]? :=by
 unfold o5;have ht:(l.take lo).length=lo:=aiO;by_cases h1:k<lo
 .rw[if_pos h1,avE,awe abn,av4,if_pos h1]
 .rw[if_neg h1];by_cases h2:k<lo+news.length
  .rw[if_pos h2,avE,av1 abn,ht,awe abn]
  .rw[if_neg h2,av1 asV,avn,ht,av5];congr 1;omega
theorem Rel.rows(h:Rel w0 M T γ st a w){o:Nat}{e:TypeId}{r:ax}{l:List r.den}{fr:Bool}(ho:st.ah o=some (.arr e r l fr)){b m cap:Nat}(hγ:γ o=.slice (some ⟨b,0,none⟩) m cap){cur:Array Value}(hb:w.heap[b]? =some (.cells cur e (0,0)))
 {lo:Nat} {news:List r.den} {ns:List Value} (hnl:ns.length=news.length*r.len) (hle:lo+news.length<=l.length)
 (hrows:∀i x,news[i]? =some x->aJ w.heap ((aj w0 T γ st w).cu fr) r ((ns.drop (i*r.len)).take r.len) x):
 Rel w0 M T γ (st.add o (.arr e r (o5 l lo news) fr)) a (w.setRow b (cur.toList.take (lo*r.len)++ns++cur.toList.drop (lo*r.len+ns.length)).toArray):=by
 obtain⟨xs,⟨h1,h2⟩,hpos,hfr,hrow⟩:=h.ah o _ ho;rcases h2 with⟨hnil,_⟩|⟨g,cap',cur',hg,_,hh,hlc,hmax,hsz,htake⟩
 .have mP:γ o=.slice none 0 0:=hnil;rw[hγ]at mP;cases mP
 .have mP:γ o=.slice (some ⟨g,0,none⟩) l.length cap':=hg;rw[hγ]at mP;simp at mP;obtain⟨rfl,hn,hcap⟩:=mP;have hcur:cur'=cur:=by have hh':w.heap[b]? =some (.cells cur' e (0,0)):=hh;rw[hb]at hh';simp at hh';exact hh'.symm
  subst hcur;have auM:lo*r.len+news.length*r.len<=l.length*r.len:=by rw[← av8];exact avO _ hle
  have arD:l.length*r.len<=cap'*r.len:=avO _ hlc;have e1:cur'.toList.length=cur'.size:=awd;refine h.write (x':=.arr e r (o5 l lo news) fr) ho (by rw[hγ];rfl) ⟨rfl,rfl⟩ _ (λle=>?_);have hnew:∀k,(cur'.toList.take (lo*r.len)++ns++cur'.toList.drop (lo*r.len+ns.length))[k]? =if k<lo*r.len then cur'.toList[k]? else if k<lo*r.len+ns.length then ns[k-lo*r.len]? else cur'.toList[k]? :=λk=>adW _ _ _ k abn
  have ale:(cur'.toList.take (lo*r.len)++ns++cur'.toList.drop (lo*r.len+ns.length)).length=cur'.size:=by simp only[avn,avz,avW];omega
  generalize hnd:cur'.toList.take (lo*r.len)++ns++cur'.toList.drop (lo*r.len+ns.length)=new at hnew ale le ⊢;have hol:=abx hle;refine⟨new.take (l.length*r.len),⟨?_,.inr ⟨b,cap,new.toArray,?_,avM _,VE hh,?_,?_,?_,?_⟩⟩,hpos,?_,?_⟩
  .rw[avz,ale,hol];omega
  .rw[hol];show γ o=_;rw[hγ,hn]
  .rw[hol];omega
  .omega
  .rw[aw4,ale,hsz,hcap]
  .rw[hol,axS]
  .intro c hc hf;exact hfr c hc hf
  .intro i x hi;have hlt:i<l.length:=by have:=(avG.1 hi).1;rw[hol]at this;exact this
   have hmul:i*r.len+r.len<=l.length*r.len:=ahp;rw[gZ _ _ _ _ hmul];rw[ahC hle]at hi;have old:∀y,l[i]? =some y->(∀k,k<r.len->new[i*r.len+k]? =cur'.toList[i*r.len+k]?)->aJ (w.setRow b new.toArray).heap (V.cu ⟨w.setRow b new.toArray,w0.heap.size,T.S,γ,(st.add o (.arr e r (o5 l lo news) fr)).ah⟩ fr) r ((new.drop (i*r.len)).take r.len) y:=by
    intro y hy hk;have hR:=hrow i y hy;have:(new.drop (i*r.len)).take r.len=(xs.drop (i*r.len)).take r.len:=by
     rw[← htake,gZ _ _ _ _ hmul];apply axi;intro k;rw[av4,av4,av5,av5];by_cases hkr:k<r.len
     .rw[if_pos hkr,if_pos hkr,hk k hkr]
     .rw[if_neg hkr,if_neg hkr]
    rw[this];exact aJ.mono (λc hc=>le.cu _ c hc) _ _ y hR
   split at hi
   .next hlo=>
    refine old x hi λk hk=>?_;rw[hnew];have:i*r.len+r.len<=lo*r.len:=by have:(i+1)*r.len<=lo*r.len:=avO _ hlo;rw[av8]at this;simpa using this
    rw[if_pos abn]
   .next hlo=>
    split at hi
    .next hhi=>
     have hR:=hrows _ x hi;have e2:i*r.len=lo*r.len+(i-lo)*r.len:=by rw[← av8];congr 1;omega
     have hm3:(i-lo)*r.len+r.len<=news.length*r.len:=by have:(i-lo+1)*r.len<=news.length*r.len:=avO _ abn;rw[av8]at this;simpa using this
     have:(new.drop (i*r.len)).take r.len=(ns.drop ((i-lo)*r.len)).take r.len:=by
      apply axi;intro k;rw[av4,av4,av5,av5];by_cases hkr:k<r.len
      .rw[if_pos hkr,if_pos hkr,hnew,if_neg abn,if_pos abn];congr 1;omega
      .rw[if_neg hkr,if_neg hkr]
     rw[this];exact aJ.mono (λc hc=>le.cu _ c hc) _ _ x hR
    .next hhi=>
     refine old x hi λk hk=>?_;rw[hnew];have:lo*r.len+news.length*r.len<=i*r.len:=by rw[← av8];exact avO _ abn
     rw[if_neg abn,if_neg abn]
theorem Lc{α:Type}(l:List α)(lo:Nat):o5 l lo []=l:=by unfold o5;rw[avU,avu,aw0,axa]
theorem ZW{o:Nat}{x:aB}(h:st.ah o=some x):st.add o x=st:=by
 cases st;simp only[St.add]at h ⊢;congr 1
 funext i
 cases hb:Nat.beq i o with
 |false=>rfl
 |true=>rw[avs hb,h]
theorem afp(h:Rel w0 M T γ st a w){o:Nat}{e:TypeId}{r:ax}{l:List r.den}{fr:Bool}(ho:st.ah o=some (.arr e r l fr)){b m cap:Nat}(hγ:γ o=.slice (some ⟨b,0,none⟩) m cap):
 ∃cur:Array Value,w.heap[b]? =some (.cells cur e (0,0))/\cur.size=cap*r.len/\0<r.len/\cap<=maxLen/\l.length<=cap/\
  ∀i x,l[i]? =some x->aJ w.heap ((aj w0 T γ st w).cu fr) r ((cur.toList.drop (i*r.len)).take r.len) x:=by
 obtain⟨xs,⟨h1,h2⟩,hpos,hfr,hrow⟩:=h.ah o _ ho;rcases h2 with⟨hnil,_⟩|⟨g,cap',cur',hg,_,hh,hlc,hmax,hsz,htake⟩
 .have mP:γ o=.slice none 0 0:=hnil;rw[hγ]at mP;cases mP
 .have mP:γ o=.slice (some ⟨g,0,none⟩) l.length cap':=hg;rw[hγ]at mP;simp at mP;obtain⟨rfl,hn,rfl⟩:=mP;refine⟨cur',hh,hsz,hpos,hmax,hlc,λi x hi=>?_⟩;have hlt:i<l.length:=(avG.1 hi).1;have hmul:i*r.len+r.len<=l.length*r.len:=ahp;have:=hrow i x hi;rw[← htake,gZ _ _ _ _ hmul]at this;exact this
theorem ahD{h:Array Obj}{S:Nat->Prop}:∀(r:ax)(vs:List Value)(x:r.den),aJ h S r vs x->∀v∈vs,v.oneCell'=true
 |.nil,vs,_,H,v,hv=>by rw[aJ]at H;subst H;cases hv
 |.cons c r,vs,(x,y),H,v,hv=>by
  rw[aJ]at H;obtain⟨u,vs',rfl,h1,h2⟩:=H;rcases avF.1 hv with rfl|hv
  .cases c with
   |int k=>rw[h1.1];rfl
   |bool=>rw[show _=_ from h1];rfl
   |str=>rw[h1.1];rfl
   |sl e s=>have h1:sG _ _ _ _ v x:=h1;rcases h1.2 with⟨_,a,c,hv⟩|⟨b,off,cap,cs,t,fz,hv,_⟩<;>rw[hv]<;>rfl
  .exact ahD r vs' y h2 v hv
theorem afq{h:Array Obj}{S:Nat->Prop}{r:ax}(hpos:0<r.len){news:List r.den}{ns:List Value}(hnl:ns.length=news.length*r.len)(hrows:∀i x,news[i]? =some x->aJ h S r ((ns.drop (i*r.len)).take r.len) x):∀u∈ns,u.oneCell'=true:=by intro u hu;obtain⟨j,hj⟩:=axM hu;have hjl:j<ns.length:=(avG.1 hj).1;rw[hnl]at hjl;have hil:j / r.len<news.length:=Nat.div_lt_of_lt_mul (by rw[ax0];exact hjl);have hR:=hrows (j / r.len) _ (avv hil);refine ahD _ _ _ hR u ?_;have hdm:=Nat.div_add_mod j r.len;have hml:=ayi j hpos;refine awc (i:=j%r.len) ?_;rw[av4,if_pos hml,av5,← hj];congr 1;rw[ax0]at hdm;omega
theorem Yh(hΘ:∀t ti,Θ t=some ti->lM P t ti)(h:Rel w0 M T γ st a w){t ty:TypeId}{ti:TI}(ht:Θ t=some ti){sx x:Operand}{o zy n0 o2 lo2 n2:Nat}(e1:st.ev sx=.win o zy n0)(e2:st.ev x=.win o2 lo2 n2)
 {p:Prop} {v:AV} {s:St} (hc:Vt Θ st ti o zy n0 o2 lo2 n2=some (p,v,s)) (hp:p):
 ∃u w',(Builtin.append_ #[t,t] ty #[a.eval sx,a.eval x]).run P w=.ok u w'/\Rel w0 M T γ s a w'/\aT (aj w0 T γ s w') v u:=by
 unfold Vt at hc;split at hc
 .next e f r l fr hb hk ho=>
  rw[avo]at hb;have hlo0:=avs hb.1;have hoo:=avs hb.2;subst hlo0 hoo;split at hc
  .next te he=>
   split at hc
   .next hbe=>
    rw[avo]at hbe;have hef:=avs hbe.2;have hte:=ax.eq_of_beq _ _ hbe.1;cases hc;subst hef;obtain⟨hp1,hp2⟩:=hp;obtain⟨g,m,cap,e',r',l',fr',hx,hγ,⟨q,hq,hv,hle⟩⟩:=VD h e1;rw[ho]at hx;cases hx;obtain⟨g2,m2,cap2,e'',r'',l'',auR,hx2,mP,⟨q2,hq2,hv2,hle2⟩⟩:=VD h e2;rw[hγ]at mP;simp at mP;obtain⟨rfl,rfl,rfl⟩:=mP;rw[ho]at hx2;cases hx2;obtain⟨cur,hh,hsz,hpos,hmax,hlc,hrow⟩:=afp h ho hγ;obtain⟨i,z,hi,hisz,hby,hz,hzv,_⟩:=(hΘ e te he).info;have hu:=(hΘ t ti ht).und;rw[hk]at hu;rw[hte]at hisz;by_cases hn2:n2=0
    .subst hn2;refine⟨.slice (some ⟨g,q,none⟩) n0 (cap-0),w,?_,?_,?_⟩
     .rw[hv,hv2];have hnc:n0<=cap:=abn;rw[Nat.sub_zero];simp[Builtin.append_,avY hu.1 w,sizeOf,typeInfo,hi,Builtin.lenOf,Builtin.firstCells,hnc,storeCells,loadCells,loadCellsFrom]
     .have:o5 l n0 ((l.drop lo2).take 0)=l:=by rw[axy,Lc]
      rw[this,ZW ho];exact h
     .have:o5 l n0 ((l.drop lo2).take 0)=l:=by rw[axy,Lc]
      rw[this,ZW ho];exact⟨g,m,cap,e,r,l,fr,ho,hγ,q,hq,rfl,abn⟩
    .have hq0:q=0:=by
      rcases hq with e3|e3
      .rw[e3,axz]
      .omega
     have as8:q2=lo2*r.len:=by
      rcases hq2 with e3|e3
      .exact e3
      .omega
     subst hq0 as8;have ag2:((l.drop lo2).take n2).length=n2:=by rw[avz,avW];omega
     let ns:List Value:=(cur.toList.drop (lo2*r.len)).take (n2*r.len)
     have ec:cur.toList.length=cur.size:=awd;have hm1:lo2*r.len+n2*r.len<=cap*r.len:=by rw[← av8];exact avO _ abn
     have hm0:n0*r.len+n2*r.len<=cap*r.len:=by rw[← av8];exact avO _ abn
     have hnl:ns.length=n2*r.len:=by simp only[ns,avz,avW];omega
     have hrows:∀i x,((l.drop lo2).take n2)[i]? =some x->aJ w.heap ((aj w0 T γ st w).cu fr) r ((ns.drop (i*r.len)).take r.len) x:=by
      intro i x hi;have hilt:i<n2:=by have:=(avG.1 hi).1;rw[ag2]at this;exact this
      rw[av4,if_pos hilt,av5]at hi;have hR:=hrow (lo2+i) x hi;have hmul:i*r.len+r.len<=n2*r.len:=by have:(i+1)*r.len<=n2*r.len:=avO _ hilt;rw[av8]at this;simpa using this
      have:(ns.drop (i*r.len)).take r.len=(cur.toList.drop ((lo2+i)*r.len)).take r.len:=by simp only[ns];rw[gZ _ _ _ _ hmul,aw1,av8]
      rw[this];exact hR
     have JO:=afq hpos (by rw[ag2];exact hnl) hrows;have hnews:∀j u,ns[j]? =some u->w.cell? ((⟨g,lo2*r.len,none⟩:Addr).add j)=some u:=by intro j u hj;rw[addr_add];exact Q5 hh _ j u hj
     have hroom:n0+n2<=cap:=abn;have hrun:=run_append_room (P:=P) (ty:=ty) (w:=w) t e i hu.1 hi g n0 cap cur hh ⟨g,lo2*r.len,none⟩ n2 (cap-lo2) ns (by rw[hisz];exact hnl) hnews JO hroom (by rw[hisz];omega);rw[hisz]at hrun;refine⟨_,_,by rw[hv,hv2];exact hrun,h.rows ho hγ hh (by rw[ag2];exact hnl) (by rw[ag2];exact hp1) hrows,?_⟩;exact⟨g,m,cap,e,r,_,fr,add_same _ _ _,hγ,0,.inl (by rw[axz]),rfl,abn⟩
   .cases hc
  .cases hc
 .cases hc
theorem adX{z:Array Value}{r:ax}(hz:z.toList=r.kS)(hpos:0<r.len)(n:Nat):(Builtin.zeroCells z n).toList.length=n*r.len/\∀i,i<n->((Builtin.zeroCells z n).toList.drop (i*r.len)).take r.len=r.kS:=by
 have hzs:z.size=r.len:=by rw[← awd,hz,mW]
 have hlen:(Builtin.zeroCells z n).toList.length=n*r.len:=by simp[Builtin.zeroCells,hzs]
 refine⟨hlen,λi hi=>?_⟩;have hmul:i*r.len+r.len<=n*r.len:=by have:(i+1)*r.len<=n*r.len:=avO _ hi;rw[av8]at this;simpa using this
 apply axN
 .rw[avz,avW,hlen,mW];omega
 .intro k h1 h2;rw[List.getElem_take,List.getElem_drop];have hk:k<r.len:=by rw[mW]at h2;exact h2
  have hmod:(i*r.len+k)%r.len=k:=by rw[ayj,ayu,ayA hk]
  have hzk:r.kS[k]=z[k]' abn :=by
   have:z.toList[k]'(by rw[awd];omega)=r.kS[k]:=by simp only[hz]
   rw[← this,Array.getElem_toList]
  rw[hzk];simp[Builtin.zeroCells,hzs,hmod,hk]
theorem ZX(hΘ:∀t ti,Θ t=some ti->lM P t ti)(h:Rel w0 M T γ st a w){t ty:TypeId}{ti:TI}(ht:Θ t=some ti){x:Operand}{o lo n:Nat}(e1:st.ev x=.win o lo n)
 {p:Prop} {v:AV} {s:St} (hc:ZO Θ st ti o lo n=some (p,v,s)) (hp:p):
 ∃u w',(Builtin.clear_ #[t] ty #[a.eval x]).run P w=.ok u w'/\Rel w0 M T γ s a w'/\aT (aj w0 T γ s w') v u:=by
 unfold ZO at hc;split at hc
 .next e f r l fr hk ho=>
  split at hc
  .next te he=>
   split at hc
   .next hbe=>
    rw[avo]at hbe;have hef:=avs hbe.2;have hte:=ax.eq_of_beq _ _ hbe.1;cases hc;subst hef;obtain⟨g,m,cap,e',r',l',fr',hx,hγ,⟨q,hq,hv,hle⟩⟩:=VD h e1;rw[ho]at hx;cases hx;obtain⟨cur,hh,hsz,hpos,hmax,hlc,hrow⟩:=afp h ho hγ;have hu:=(hΘ t ti ht).und;rw[hk]at hu;cases n with
    |zero=>
     refine⟨.tuple #[],w,?_,?_,⟨#[],rfl,trivial⟩⟩
     .rw[hv];simp[Builtin.clear_,avY hu.1 w]
     .have:o5 l lo (List.replicate 0 r.dflt)=l:=Lc l lo;rw[this,ZW ho];exact h
    |succ k=>
     have hq0:q=lo*r.len:=by
      rcases hq with e3|e3
      .exact e3
      .omega
     subst hq0;obtain⟨z,hz,hzv⟩:=Uk (P:=P) (w:=w) (hΘ e te he);rw[hte]at hzv;obtain⟨hnl,hzr⟩:=adX hzv hpos (k+1);have ec:cur.toList.length=cur.size:=awd;have hm1:lo*r.len+(k+1)*r.len<=cap*r.len:=by rw[← av8];exact avO _ abn
     have hrl:(List.replicate (k+1) r.dflt).length=k+1:=List.length_replicate;have hrows:∀i x,(List.replicate (k+1) r.dflt)[i]? =some x->aJ w.heap ((aj w0 T γ st w).cu fr) r (((Builtin.zeroCells z.cells (k+1)).toList.drop (i*r.len)).take r.len) x:=by
      intro i x hi;have hilt:i<k+1:=by have:=(avG.1 hi).1;rw[hrl]at this;exact this
      have hx:x=r.dflt:=by rw[axD,if_pos hilt]at hi;exact(Option.some.inj hi).symm
      rw[hzr i hilt,hx];exact Vz _ _ r
     have JO:=afq hpos (by rw[hrl];exact hnl) hrows;have hst:=run_storeCells_at P g (lo*r.len) e (Builtin.zeroCells z.cells (k+1)).toList 0 cur w hh (by rw[hnl];omega) JO;simp only[aw0]at hst;refine⟨.tuple #[],_,?_,h.rows ho hγ hh (by rw[hrl];exact hnl) (by rw[hrl];exact hp) hrows,⟨#[],rfl,trivial⟩⟩;rw[hv];simp[Builtin.clear_,avY hu.1 w,hz,hst]
   .cases hc
  .cases hc
 .cases hc
theorem Rel.update(h:Rel w0 M T γ st a w){K D:Nat->Bool}{H:Nat->Prop}{lV:Nat->Option aB}{γ2:Nat->Value}
 (hos:w'.os=w.os) (htape:w'.tape=w.tape) (hout:w'.output=w.output) (hsize:w.heap.size<=w'.heap.size)
 (hH:∀b,H b->∃o x,st.ah o=some x/\blk (γ o)=some b)
 (hheap:∀b,b<w.heap.size->¬H b->w'.heap[b]? =w.heap[b]?)
 (h1:∀p,D p=false->lV p=(st.kill K).ah p/\γ2 p=γ p)
 (h2:∀p x b,D p=false->K p=false->st.ah p=some x->blk (γ p)=some b->¬H b)
 (h3:∀p x,D p=true->lV p=some x->∀b,blk (γ2 p)=some b->b<w'.heap.size/\(w.heap.size<=b\/H b))
 (h3':V.nO K (aj w0 T γ st w) ⟨w',w0.heap.size,T,γ2,lV⟩->∀p x,D p=true->lV p=some x->bn ⟨w',w0.heap.size,T,γ2,lV⟩ p x)
 (h4:∀p q x y b,D p=true->D q=true->lV p=some x->lV q=some y->p≠q->blk (γ2 p)=some b->blk (γ2 q)≠some b)
 (h5:∀p cs,D p=true->K p=false->st.ah p=some (.var cs)->(∃cs',lV p=some (.var cs'))/\γ2 p=γ p)
 (h6:∀p e r l fr,D p=true->K p=false->st.ah p=some (.arr e r l fr)->(∃l' fr',lV p=some (.arr e r l' fr'))/\γ2 p=γ p)
 (h7:∀p cs,D p=true->lV p=some (.var cs)->(∃cs0,st.ah p=some (.var cs0)/\γ2 p=γ p)\/T.N p=none):
 Rel w0 M T γ2 {n:=st.n,tmps:=λt=>(st.tmps t).kill K,ah:=lV} a w'/\V.nO K (aj w0 T γ st w) ⟨w',w0.heap.size,T,γ2,lV⟩:=by
 have hHb:∀b,H b->b<w.heap.size/\(w0.heap.size<=b\/M b):=λb hb=>by obtain⟨o,x,ho,hγ⟩:=hH b hb;exact h.lt o x b ho hγ
 have Rh:∀b,(aj w0 T γ st w).foot b->¬H b:=λb hb hh=>by obtain⟨o,x,ho,hγ⟩:=hH b hh;exact hb.2.2 o x ho hγ
 have old:∀p x,D p=false->lV p=some x->∃y,st.ah p=some y/\x=y.kill K/\K p=false:=λp x hD hx=>by rw[(h1 p hD).1]at hx;exact wR K hx
 have le:V.nO K (aj w0 T γ st w) ⟨w',w0.heap.size,T,γ2,lV⟩:=by
  refine⟨avt _,λb hb=>⟨⟨avT hb.1 hsize,hb.2.1,λo x hx e=>?_⟩,hheap b hb.1 (Rh b hb)⟩,λo cs hK ho=>?_,λo e r l fr hK ho=>?_⟩
  .cases hD:D o with
   |false=>
    obtain⟨y,hy,_,_⟩:=old o x hD hx;have e':blk (γ2 o)=some b:=e;rw[(h1 o hD).2]at e';exact hb.2.2 o y hy e'
   |true=>
    rcases(h3 o x hD hx b e).2 with h'|h'
    .have hlt:b<w.heap.size:=hb.1;omega
    .exact Rh b hb h'
  .have ho':st.ah o=some (.var cs):=ho;cases hD:D o with
   |false=>
    refine⟨⟨cs.map (Cell.kill K),?_⟩,(h1 o hD).2⟩;show lV o=_;rw[(h1 o hD).1];exact ou K hK ho'
   |true=>exact h5 o cs hD hK ho'
  .have ho':st.ah o=some (.arr e r l fr):=ho;cases hD:D o with
   |false=>
    refine⟨⟨l,fr,?_⟩,(h1 o hD).2⟩;show lV o=_;rw[(h1 o hD).1];exact ou K hK ho'
   |true=>exact h6 o e r l fr hD hK ho'
 refine⟨⟨h.mT,h.defers,h.size,hos.trans h.os,htape.trans h.tape,hout.trans h.output,avx h.grow hsize,λb hb hM=>?_,λt=>aT.nO le _ _ (h.tmps t),λo x hx=>?_,λo x b hx hb=>?_,λo x p y b hx hy hop hb=>?_,λo v cs hN hx=>?_⟩,le⟩
 .rw[hheap b (avT hb h.grow) λhh=>by
   rcases(hHb b hh).2 with h'|h'
   .omega
   .exact hM h']
  exact h.kept b hb hM
 .cases hD:D o with
  |false=>
   obtain⟨y,hy,rfl,hK⟩:=old o x hD hx;exact bn.nO le o y (λb hb=>hheap b (h.lt o y b hy hb).1 (h2 o y b hD hK hy hb)) (h1 o hD).2 (h.ah o y hy)
  |true=>exact h3' le o x hD hx
 .cases hD:D o with
  |false=>
   obtain⟨y,hy,rfl,hK⟩:=old o x hD hx;rw[(h1 o hD).2]at hb;have:=h.lt o y b hy hb;exact⟨avT this.1 hsize,this.2⟩
  |true=>have:=h3 o x hD hx b hb;exact⟨this.1,this.2.elim (λg=>.inl (avx h.grow g)) λg=>(hHb b g).2⟩
 .cases hD:D o with
  |false=>
   obtain⟨y1,hy1,rfl,hK1⟩:=old o x hD hx;rw[(h1 o hD).2]at hb;have hbl:=h.lt o y1 b hy1 hb;cases hE:D p with
   |false=>
    obtain⟨y2,hy2,rfl,hK2⟩:=old p y hE hy;rw[(h1 p hE).2];exact h.sep o y1 p y2 b hy1 hy2 hop hb
   |true=>
    intro e;rcases(h3 p y hE hy b e).2 with h'|h'
    .omega
    .exact h2 o y1 b hD hK1 hy1 hb h'
  |true=>
   cases hE:D p with
   |false=>
    obtain⟨y2,hy2,rfl,hK2⟩:=old p y hE hy;rw[(h1 p hE).2];intro e;have hbl:=h.lt p y2 b hy2 e;rcases(h3 o x hD hx b hb).2 with h'|h'
    .omega
    .exact h2 p y2 b hE hK2 hy2 e h'
   |true=>exact h4 o p x y b hD hE hx hy hop hb
 .cases hD:D o with
  |false=>
   obtain⟨y,hy,e,_⟩:=old o _ hD hx;rw[(h1 o hD).2];cases y with
   |var cs'=>exact h.pin o v cs' hN hy
   |arr _ _ _ _=>cases e
  |true=>
   rcases h7 o cs hD hx with⟨cs0,g1,g2⟩|g
   .rw[g2];exact h.pin o v cs0 hN g1
   .rw[g]at hN;cases hN
def E8(nr:Bool)(st:St)(x:AV)(a:Arg)(o:Option Nat):Prop:=
 (o=none/\(nr=true->x.refs=[])/\oZ st [x]=some [a])\/
 (∃p e r l fr,o=some p/\x=.sv (.one (.ref p))/\st.ah p=some (.arr e r l fr)/\a=.own e r l)\/
 (∃p cs,o=some p/\x=.bM p 0/\st.ah p=some (.var cs)/\cs.flatMap Cell.refs=[]/\a=.ptr (cs.map (Cell.view st)))
theorem Ld{m:Mode}{x:AV}{a:Arg}{o:Option Nat}(h:pK st m x=some (a,o)):E8 true st x a o:=by
 cases m with
 |val=>
  simp only[pK]at h;split at h
  .next a' hr ha=>cases h;exact .inl ⟨rfl,λ_=>hr,ha⟩
  .cases h
 |own=>
  simp only[pK]at h;split at h
  .split at h
   .next p _ e r l fr ho=>cases h;exact .inr (.inl ⟨p,e,r,l,fr,rfl,rfl,ho,rfl⟩)
   .cases h
  .cases h
 |ptr=>
  simp only[pK]at h;split at h
  .split at h
   .next p off _ _ cs h0 ho=>
    split at h
    .next hr=>cases h;have h0:=avs h0;subst h0;exact .inr (.inr ⟨p,cs,rfl,rfl,ho,hr,rfl⟩)
    .cases h
   .cases h
  .cases h
def qP(nr:Bool)(st:St):List AV->List Arg->List (Option Nat)->Prop
 |[],[],[]=>True
 |x::xs,a::as,o::os=>E8 nr st x a o/\qP nr st xs as os
 |_,_,_=>False
theorem Ri:∀(ms:List Mode)(xs:List AV)(as:List Arg)(os:List (Option Nat)),hands st ms xs=some (as,os)->qP true st xs as os
 |_,[],as,os,h=>by unfold hands at h;cases h;trivial
 |ms,x::xs,as,os,h=>by
  unfold hands at h;split at h
  .next a o as' os' h1 h2=>cases h;exact⟨Ld h1,Ri ms.tail xs as' os' h2⟩
  .cases h
variable {nr:Bool}
theorem qP.get:∀{xs:List AV}{as:List Arg}{os:List (Option Nat)},qP nr st xs as os->∀(i:Nat)(a:Arg),as[i]? =some a->∃x o,xs[i]? =some x/\os[i]? =some o/\E8 nr st x a o
 |[],[],[],_,i,a,h=>amA
 |x::xs,b::as,o::os,⟨h1,h2⟩,0,a,h=>by simp at h;subst h;exact⟨x,o,rfl,rfl,h1⟩
 |x::xs,b::as,o::os,⟨h1,h2⟩,i+1,a,h=>by
  obtain⟨y,q,g1,g2,g3⟩:=h2.get i a acG;exact⟨y,q,by simpa using g1,by simpa using g2,g3⟩
 |[],[],_::_,H,_,_,_|[],_::_,_,H,_,_,_|_::_,[],_,H,_,_,_|_::_,_::_,[],H,_,_,_=>H.elim
theorem qP.length:∀{xs:List AV}{as:List Arg}{os:List (Option Nat)},qP nr st xs as os->as.length=xs.length/\os.length=xs.length
 |[],[],[],_=>⟨rfl,rfl⟩
 |x::xs,b::as,o::os,⟨_,h2⟩=>by simp[h2.length.1,h2.length.2]
 |[],[],_::_,H|[],_::_,_,H|_::_,[],_,H|_::_,_::_,[],H=>H.elim
def γE(os:List (Option Nat))(γ:Nat->Value)(p:Nat):Value:=match os[p / 64]? with|some (some o)=>γ o|_=>undef
theorem VF{xs:List AV}{as:List Arg}{os:List (Option Nat)}(hh:qP nr st xs as os){q:Nat}{X:aB}(hq:dF as q=some X):
 ∃o Y,os[q / 64]? =some (some o)/\st.ah o=some Y/\((∃e r l fr,X=.arr e r l false/\Y=.arr e r l fr/\q%64=49)\/(∃cs,X=.var (cs.map (Cell.view st))/\Y=.var cs/\cs.flatMap Cell.refs=[]/\q%64=48)):=by
 unfold dF at hq;split at hq
 .next e r l ha=>
  split at hq
  .next hm=>
   cases hq;have hm:=avs hm;obtain⟨x,o,_,ho,h1⟩:=hh.get _ _ ha;rcases h1 with⟨_,_,h3⟩|⟨p,e',r',l',fr,rfl,_,hp,h4⟩|⟨p,cs,_,_,_,_,h4⟩
   .exfalso;unfold oZ at h3;split at h3
    .split at h3<;>simp at h3
    .split at h3<;>simp at h3
    .split at h3<;>simp at h3
    .cases h3
   .cases h4;exact⟨p,_,ho,hp,.inl ⟨e,r,l,fr,rfl,rfl,hm⟩⟩
   .cases h4
  .cases hq
 .next cs0 ha=>
  split at hq
  .next hm=>
   cases hq;have hm:=avs hm;obtain⟨x,o,_,ho,h1⟩:=hh.get _ _ ha;rcases h1 with⟨_,_,h3⟩|⟨p,e',r',l',fr,_,_,_,h4⟩|⟨p,cs,rfl,_,hp,hr,h4⟩
   .exfalso;unfold oZ at h3;split at h3
    .split at h3<;>simp at h3
    .split at h3<;>simp at h3
    .split at h3<;>simp at h3
    .cases h3
   .cases h4
   .cases h4;exact⟨p,_,ho,hp,.inr ⟨cs,rfl,rfl,hr,hm⟩⟩
  .cases hq
 .cases hq
theorem Oy:∀{os:List (Option Nat)},yQ os=true->∀(i j:Nat)(o:Nat),os[i]? =some (some o)->os[j]? =some (some o)->i=j:=by
 have mem:∀(os:List (Option Nat))(i o:Nat),os[i]? =some (some o)->Vs o os=true:=by
  intro os
  induction os with
  |nil=>intro i o h;simp at h
  |cons x os ih=>
   intro i o h;cases i with
   |zero=>simp at h;subst h;simp[Vs]
   |succ i=>
    have:=ih i o acG;cases x with
    |none=>rw[Vs];exact this
    |some p=>rw[Vs];split<;>first|rfl|exact this
 intro os
 induction os with
 |nil=>intro _ i j o h;simp at h
 |cons x os ih=>
  intro h i j o hi hj;cases x with
  |none=>
   rw[yQ]at h;cases i with
   |zero=>simp at hi
   |succ i=>
    cases j with
    |zero=>simp at hj
    |succ j=>rw[ih h i j o ail ana]
  |some p=>
   rw[yQ,avo]at h;cases i with
   |zero=>
    cases j with
    |zero=>rfl
    |succ j=>
     simp at hi;subst hi;have:=mem os j _ ana;rw[this]at h;simp at h
   |succ i=>
    cases j with
    |zero=>
     simp at hj;subst hj;have:=mem os i _ ail;rw[this]at h;simp at h
    |succ j=>rw[ih h.2 i j o ail ana]
theorem bn.XP{Y Z:V}{q p:Nat}{e:TypeId}{r:ax}{l:List r.den}{fr fr':Bool}(H:bn Y q (.arr e r l fr))(hγ:Z.γ p=Y.γ q)(hw:Z.w=Y.w)
 (hf:∀b,Y.cu fr b->Z.cu fr' b) (hn:∀b,blk (Y.γ q)=some b->fr'=true->Z.n0<=b):bn Z p (.arr e r l fr'):=by
 obtain⟨xs,hown,hr,_,hx⟩:=H;refine⟨xs,?_,hr,λb hb hfr=>hn b (by rw[← hγ];exact hb) hfr,λi x hi=>?_⟩
 .rw[hγ,hw];exact hown
 .rw[hw];exact aJ.mono (λb hb=>⟨hf b hb,rfl⟩) r _ x (hx i x hi)
theorem EJ{Y Z:V}(hw:Z.w=Y.w)(hf:∀fr b,Y.cu fr b->Z.cu fr b):∀(cs:List Cell)(vs:List Value),cs.flatMap Cell.refs=[]->ai Y cs vs->ai Z cs vs
 |[],[],_,H=>H
 |c::cs,v::vs,hr,⟨h1,h2⟩=>by
  rw[awG,awj]at hr;refine⟨?_,EJ hw hf cs vs hr.2 h2⟩;cases c with
  |ref o=>cases hr.1
  |sl e r l fr=>
   show cZ Z.w.heap (Z.cu fr) (.sl e r) v l;rw[hw];exact cZ.mono (λb hb=>⟨hf fr b hb,rfl⟩) (.sl e r) v l h1
  |_=>exact h1
 |[],_::_,_,H|_::_,[],_,H=>afM
theorem ZY{X:V}:∀(as:List Arg)(us:List Value)(i:Nat),as.length=us.length->(∀j a u,as[j]? =some a->us[j]? =some u->KY X (i+j) a u)->wS X i as us
 |[],[],_,_,_=>trivial
 |a::as,u::us,i,hl,h=>⟨h 0 a u rfl rfl,ZY as us (i+1) (by simpa using hl) λj b v hb hv=>by
   have:=h (j+1) b v (by simpa using hb) (by simpa using hv);rw[show i+1+j=i+(j+1)from abn];exact this⟩
 |[],_::_,_,hl,_|_::_,[],_,hl,_=>by simp at hl
theorem oG.get{X:V}:∀(xs:List AV)(us:List Value),oG X xs us->xs.length=us.length/\∀(i:Nat)(x:AV)(u:Value),xs[i]? =some x->us[i]? =some u->aT X x u
 |[],[],_=>⟨rfl,λi x u h=>amA⟩
 |x::xs,u::us,⟨h1,h2⟩=>by
  obtain⟨g1,g2⟩:=oG.get xs us h2;refine⟨by simp[g1],λi y v hy hv=>?_⟩;cases i with
  |zero=>simp at hy hv;subst hy hv;exact h1
  |succ i=>exact g2 i y v (by simpa using hy) (by simpa using hv)
 |[],_::_,H|_::_,[],H=>afM
theorem JQ:∀{os:List (Option Nat)}{aH:List Eff}{δ:List (Nat×aB)},nJ st os aH=some δ->∀(p:Nat),
 (∀(x:aB),Fw.look δ p=some x->∃i:Nat,os[i]? =some (some p)/\
   ((∃(e:TypeId)(r:ax)(l l0:List r.den)(fr:Bool),aH[i]? =some (.arr e r l)/\st.ah p=some (.arr e r l0 fr)/\x=.arr e r l false)\/(∃(cs cs0:List Cell),aH[i]? =some (.var cs)/\st.ah p=some (.var cs0)/\cs.flatMap Cell.refs=[]/\x=.var cs)))/\
 (∀i:Nat,os[i]? =some (some p)->Fw.look δ p=none->iP os aH p=true)
 |[],aH,δ,h,p=>by
  cases h;exact⟨(λx hx=>afg),(λi hi=>arA)⟩
 |none::os,aH,δ,h,p=>by
  rw[nJ]at h;obtain⟨h1,h2⟩:=JQ h p;refine⟨λx hx=>?_,λi hi hn=>?_⟩
  .obtain⟨i,g1,g2⟩:=h1 x hx;refine⟨i+1,by simpa using g1,?_⟩;simpa[axq]using g2
  .cases i with
   |zero=>simp at hi
   |succ i=>rw[iP];exact h2 i ail hn
 |some o::os,aH,δ,h,p=>by
  unfold nJ at h;have Z4:∀{δ'}(_:nJ st os aH.tail=some δ'),(∀(x:aB),Fw.look δ' p=some x->∃i:Nat,(some o::os)[i]? =some (some p)/\
   ((∃(e:TypeId)(r:ax)(l l0:List r.den)(fr:Bool),aH[i]? =some (.arr e r l)/\st.ah p=some (.arr e r l0 fr)/\x=.arr e r l false)\/(∃(cs cs0:List Cell),aH[i]? =some (.var cs)/\st.ah p=some (.var cs0)/\cs.flatMap Cell.refs=[]/\x=.var cs)))/\
   (∀i:Nat,os[i]? =some (some p)->Fw.look δ' p=none->iP os aH.tail p=true):=by
   intro δ' hδ;obtain⟨h1,h2⟩:=JQ hδ p;refine⟨λx hx=>?_,h2⟩;obtain⟨i,g1,g2⟩:=h1 x hx;exact⟨i+1,by simpa using g1,by simpa[axq]using g2⟩
  have XQ:∀{y:Eff},aH.head?=some y->aH[0]? =some y:=λhy=>by cases aH<;>simp at hy ⊢;exact hy
  have Z5:∀(_:iP os aH.tail p=true),iP (some o::os) aH p=true:=λg=>by
   rw[iP];split
   .split
    .rfl
    .exact g
   .exact g
  split at h
  .next δ' hh hδ=>
   cases h;obtain⟨h1,h2⟩:=Z4 hδ;refine⟨h1,λi hi hn=>?_⟩;cases i with
   |zero=>
    simp at hi;subst hi;rw[iP,hh];simp
   |succ i=>exact Z5 (h2 i ail hn)
  .next e r l f s l0 fr0 δ' hh ho hδ=>
   split at h
   .next hb=>
    cases h;rw[avo]at hb;have he:=avs hb.1;have hr:=ax.eq_of_beq r s hb.2;subst he hr;obtain⟨h1,h2⟩:=Z4 hδ;refine⟨λx hx=>?_,λi hi hn=>?_⟩
    .rw[Fw.look]at hx;split at hx
     .next y hy=>cases hx;exact h1 _ hy
     .split at hx
      .next hpo=>cases hx;have hpo:=avs hpo;subst hpo;exact⟨0,rfl,.inl ⟨e,r,l,l0,fr0,XQ hh,ho,rfl⟩⟩
      .cases hx
    .rw[Fw.look]at hn;split at hn
     .cases hn
     .next hln=>
      split at hn
      .cases hn
      .next hpo=>
       cases i with
       |zero=>simp at hi;subst hi;simp at hpo
       |succ i=>exact Z5 (h2 i ail hln)
   .cases h
  .next cs cs0 δ' hh ho hδ=>
   split at h
   .next hr=>
    cases h;obtain⟨h1,h2⟩:=Z4 hδ;refine⟨λx hx=>?_,λi hi hn=>?_⟩
    .rw[Fw.look]at hx;split at hx
     .next y hy=>cases hx;exact h1 _ hy
     .split at hx
      .next hpo=>cases hx;have hpo:=avs hpo;subst hpo;exact⟨0,rfl,.inr ⟨cs,cs0,XQ hh,ho,hr,rfl⟩⟩
      .cases hx
    .rw[Fw.look]at hn;split at hn
     .cases hn
     .next hln=>
      split at hn
      .cases hn
      .next hpo=>
       cases i with
       |zero=>simp at hi;subst hi;simp at hpo
       |succ i=>exact Z5 (h2 i ail hln)
   .cases h
  .cases h
theorem F7:∀{os:List (Option Nat)}{aH:List Eff}{δ:List (Nat×aB)},nJ st os aH=some δ->∀(i p:Nat),os[i]? =some (some p)->
 aH[i]? =some .lose\/(∃(e:TypeId)(r:ax)(l:List r.den),aH[i]? =some (.arr e r l)/\∃x:aB,Fw.look δ p=some x)\/(∃(cs:List Cell),aH[i]? =some (.var cs)/\∃x:aB,Fw.look δ p=some x)
 |[],aH,δ,h,i,p,hi=>arA
 |none::os,aH,δ,h,i,p,hi=>by
  rw[nJ]at h;cases i with
  |zero=>simp at hi
  |succ i=>
   have:=F7 h i p ail;simpa[axq]using this
 |some o::os,aH,δ,h,i,p,hi=>by
  unfold nJ at h;have XQ:∀{y:Eff},aH.head?=some y->aH[0]? =some y:=λhy=>by cases aH<;>simp at hy ⊢;exact hy
  have lk:∀{δ':List (Nat×aB)}{z:aB},(∃x:aB,Fw.look δ' p=some x)->∃x:aB,Fw.look ((o,z)::δ') p=some x:=λ⟨x,hx⟩=>⟨x,by rw[Fw.look,hx]⟩;have lk0:∀{δ':List (Nat×aB)}{z:aB},∃x:aB,Fw.look ((o,z)::δ') o=some x:=by
   intro δ' z;rw[Fw.look];cases Fw.look δ' o with
   |some y=>exact⟨y,rfl⟩
   |none=>simp
  split at h
  .next δ' hh hδ=>
   cases h;cases i with
   |zero=>exact .inl (XQ hh)
   |succ i=>have:=F7 hδ i p ail;simpa[axq]using this
  .next e r l f s l0 fr0 δ' hh ho hδ=>
   split at h
   .cases h;cases i with
    |zero=>simp at hi;subst hi;exact .inr (.inl ⟨e,r,l,XQ hh,lk0⟩)
    |succ i=>have:=F7 hδ i p ail;rw[axq]at this;exact this.imp id λg=>g.imp (λ⟨e,r,l,g1,g2⟩=>⟨e,r,l,g1,lk g2⟩) λ⟨cs,g1,g2⟩=>⟨cs,g1,lk g2⟩
   .cases h
  .next cs cs0 δ' hh ho hδ=>
   split at h
   .cases h;cases i with
    |zero=>simp at hi;subst hi;exact .inr (.inr ⟨cs,XQ hh,lk0⟩)
    |succ i=>have:=F7 hδ i p ail;rw[axq]at this;exact this.imp id λg=>g.imp (λ⟨e,r,l,g1,g2⟩=>⟨e,r,l,g1,lk g2⟩) λ⟨cs,g1,g2⟩=>⟨cs,g1,lk g2⟩
   .cases h
  .cases h
theorem Y3{aH:List Eff}{δ:List (Nat×aB)}(h:IV aH δ=true){o:Nat}{x:aB}(hl:Fw.look δ o=some x):mr aH o=none:=by have:=avL.1 h _ (xH δ o x hl);simpa using this
theorem ake{aH:List Eff}{i:Nat}:(∀(e:TypeId)(r:ax)(l:List r.den),aH[i]? =some (.arr e r l)->mr aH (i*64+49)=some (.arr e r l false))/\
 (∀cs:List Cell,aH[i]? =some (.var cs)->mr aH (i*64+48)=some (.var cs)):=by
 have h1:(i*64+49) / 64=i:=abn;have h2:(i*64+49)%64=49:=abn;have h3:(i*64+48) / 64=i:=abn;have h4:(i*64+48)%64=48:=abn;refine⟨λe r l h=>?_,λcs h=>?_⟩
 .unfold mr;rw[h1,h,h2]
 .unfold mr;rw[h3,h,h4]
theorem Ny{aH:List Eff}{q:Nat}{X:aB}(h:mr aH q=some X):(∃(e:TypeId)(r:ax)(l:List r.den),aH[q / 64]? =some (.arr e r l)/\X=.arr e r l false/\q=q / 64*64+49)\/
 (∃cs:List Cell,aH[q / 64]? =some (.var cs)/\X=.var cs/\q=q / 64*64+48):=by
 unfold mr at h;split at h
 .next e r l he=>
  split at h
  .next hm=>cases h;have:=avs hm;exact .inl ⟨e,r,l,he,rfl,abn⟩
  .cases h
 .next cs he=>
  split at h
  .next hm=>cases h;have:=avs hm;exact .inr ⟨cs,he,rfl,abn⟩
  .cases h
 .cases h
theorem Rel.VG(h:Rel w0 M T γ st a w){xs:List AV}{as:List Arg}{os:List (Option Nat)}
 (hh:qP nr st xs as os) {out:Out} {aH:List Eff} {k:Nat} (ahE:k%64=1) {δ:List (Nat×aB)}
 (hb:nJ st os aH=some δ) (hfr:jJ (st.kill (iP os aH)) (out.take k).2=true) {e:Ending}
 (hpost:Nu (aj w0 T γ st w).foot as (γE os γ) w k out aH e w'):
 ∃v γ',e=.returned v/\Rel w0 M T γ' (((st.kill (iP os aH)).adds δ).adds (out.take k).2) a w'/\aT (aj w0 T γ' (((st.kill (iP os aH)).adds δ).adds (out.take k).2) w') (out.take k).1 v:=by
 let S:=(aj w0 T γ st w).foot
 let E:=dF as
 let ge:=γE os γ
 let XE:V:=⟨w,w.heap.size,S,ge,E⟩
 have hge:∀{q o:Nat},os[q / 64]? =some (some o)->ge q=γ o:=λhq=>aky;have hEs:∀{q:Nat}{X:aB},E q=some X->_:=λhq=>VF hh hq;have PD:∀b,S b->XE.foot b:=λb hb=>⟨hb.1,λ_=>hb,λq X hq=>by obtain⟨o,Y,ho,hY,_⟩:=hEs hq;show blk (ge q)≠some b;rw[hge ho];exact hb.2.2 o Y hY⟩;have hbl:∀{q:Nat}{X:aB},E q=some X->∀b,blk (ge q)=some b->b<w.heap.size/\(w0.heap.size<=b\/M b):=λhq b hb=>akx;obtain⟨v,γ',rfl,h1,h2,h3,h4,h5,h6,h7,h8,h9⟩:=hpost
 let δ2:=(out.take k).2
 let K:=iP os aH
 let H:Nat->Prop:=uy E ge
 let γ2:Nat->Value:=λq=>match Fw.look δ2 q with|some _=>γ' q|none=>γ q
 let D:Nat->Bool:=λq=>(Fw.look δ q).isSome||(Fw.look δ2 q).isSome
 let lV:Nat->Option aB:=(((st.kill K).adds δ).adds δ2).ah
 have JR:∀q,lV q=match Fw.look δ2 q with|some y=>some y|none=>match Fw.look δ q with|some y=>some y|none=>(st.kill K).ah q:=λq=>by show(((st.kill K).adds δ).adds δ2).ah q=_;rw[mV,mV];cases Fw.look δ2 q<;>cases Fw.look δ q<;>rfl
 have VH:∀{q:Nat}{y:aB},Fw.look δ2 q=some y->γ2 q=γ' q:=λhq=>by show(match Fw.look δ2 _ with|some _=>_|none=>_)=_;rw[hq]
 have Oz:∀{q:Nat},Fw.look δ2 q=none->γ2 q=γ q:=λhq=>by show(match Fw.look δ2 _ with|some _=>_|none=>_)=_;rw[hq]
 have hH:∀b,H b->∃o x,st.ah o=some x/\blk (γ o)=some b:=by rintro b ⟨q,X,hq,hb⟩;obtain⟨o,Y,ho,hY,_⟩:=hEs hq;rw[hge ho]at hb;exact⟨o,Y,hY,hb⟩
 have hback:∀{q:Nat}{x:aB},Fw.look δ q=some x->∃c,mr aH c=some x/\ge c=γ q/\os[c / 64]? =some (some q)/\
  ((∃(e:TypeId)(r:ax)(l l0:List r.den)(fr:Bool),st.ah q=some (.arr e r l0 fr)/\x=.arr e r l false)\/(∃(cs cs0:List Cell),st.ah q=some (.var cs0)/\cs.flatMap Cell.refs=[]/\x=.var cs)):=by
  intro q x hq;obtain⟨i,hi,hk⟩:=(JQ hb q).1 x hq;have d1:(i*64+49) / 64=i:=abn;have d3:(i*64+48) / 64=i:=abn;rcases hk with⟨e,r,l,l0,fr,g1,g2,rfl⟩|⟨cs,cs0,g1,g2,g3,rfl⟩
  .exact⟨i*64+49,ake.1 e r l g1,hge (by rw[d1];exact hi),by rw[d1];exact hi,.inl ⟨e,r,l,l0,fr,g2,rfl⟩⟩
  .exact⟨i*64+48,ake.2 cs g1,hge (by rw[d3];exact hi),by rw[d3];exact hi,.inr ⟨cs,cs0,g2,g3,rfl⟩⟩
 have apf:∀{q:Nat}{y:aB},mr aH q=some y->∀b,blk (ge q)=some b->b<w.heap.size:=by
  intro q y hq b hbk;have hbk0:=hbk;show b<w.heap.size;have:∃o,os[q / 64]? =some (some o):=by
   have hbk':blk (match os[q / 64]? with|some (some o)=>γ o|_=>undef)=some b:=hbk;cases ho:os[q / 64]? with
   |none=>rw[ho]at hbk';cases hbk'
   |some z=>cases z with
    |none=>rw[ho]at hbk';cases hbk'
    |some o=>exact⟨o,rfl⟩
  obtain⟨o,ho⟩:=this;rw[hge ho]at hbk;have hex:∃Y,st.ah o=some Y:=by
   rcases F7 hb _ _ ho with g|⟨e,r,l,g,x,hx⟩|⟨cs,g,x,hx⟩
   .rcases Ny hq with⟨e,r,l,g',_⟩|⟨cs,g',_⟩<;>(rw[g]at g';cases g')
   .obtain⟨c,_,_,_,hk⟩:=hback hx;rcases hk with⟨_,_,_,_,_,g,_⟩|⟨_,_,g,_⟩<;>exact⟨_,g⟩
   .obtain⟨c,_,_,_,hk⟩:=hback hx;rcases hk with⟨_,_,_,_,_,g,_⟩|⟨_,_,g,_⟩<;>exact⟨_,g⟩
  obtain⟨Y,hY⟩:=hex;exact(h.lt o Y b hY hbk).1
 let Y2:V:=⟨w',w.heap.size,qj S as aH ge,γ',Fw.look δ2⟩
 have hKH:∀q x b,D q=false->K q=false->st.ah q=some x->blk (γ q)=some b->¬H b:=by
  rintro q x b hD hK hq hbq ⟨c,X,hc,hbc⟩;obtain⟨o,Y,ho,hY,_⟩:=hEs hc;rw[hge ho]at hbc;by_cases hoq:o=q
  .subst hoq;have hD':Fw.look δ o=none:=by
    have:(Fw.look δ o).isSome=false:=by have h0:((Fw.look δ o).isSome||(Fw.look δ2 o).isSome)=false:=hD;rw[awK]at h0;exact h0.1
    cases hl:Fw.look δ o with|none=>rfl|some _=>rw[hl]at this;cases this
   have:=(JQ hb o).2 _ ho hD';have hK':iP os aH o=false:=hK;rw[this]at hK';cases hK'
  .exact h.sep o Y q x b hY hq hoq hbc hbq
 have amq:∀b,Y2.foot b->V.foot ⟨w',w0.heap.size,T,γ2,lV⟩ b:=by
  intro b hbf;refine⟨hbf.1,λhlt=>?_,λq x hq e=>?_⟩
  .have hlt0:b<w0.heap.size:=hlt;have hlt':b<w.heap.size:=avT hlt0 h.grow;rcases(hbf.2.1 hlt').1 with g|⟨c,X,hc,hbc⟩
   .exact g.2.1 hlt
   .exact h.mT b ((hbl hc b hbc).2.resolve_left abn)
  .have hq':lV q=some x:=hq;have e':blk (γ2 q)=some b:=e;rw[JR]at hq';cases hl2:Fw.look δ2 q with
   |some y=>
    rw[VH hl2]at e';exact hbf.2.2 q y hl2 e'
   |none=>
    rw[Oz hl2]at e';rw[hl2]at hq';cases hl:Fw.look δ q with
    |some y=>
     obtain⟨c,Y4,hcg,hco,_⟩:=hback hl;rw[← hcg]at e';have hlt:b<w.heap.size:=apf Y4 b e';exact(hbf.2.1 hlt).2 c y Y4 e'
    |none=>
     rw[hl]at hq';obtain⟨z,hz,_,hKq⟩:=wR K hq';have hlt:=(h.lt q z b hz e').1;rcases(hbf.2.1 hlt).1 with g|g
     .exact g.2.2 q z hz e'
     .exact hKH q z b (by show((Fw.look δ q).isSome||(Fw.look δ2 q).isSome)=false;rw[hl,hl2];rfl) hKq hz e' g
 have akf:∀fr b,Y2.cu fr b->V.cu ⟨w',w0.heap.size,T,γ2,lV⟩ fr b:=λfr b hbf=>⟨amq b hbf.1,λe=>avx h.grow (hbf.2 e)⟩;have hle2:V.le Y2 ⟨w',w0.heap.size,T,γ2,lV⟩:=by
  have hin:∀{o:Nat}{x:aB},Fw.look δ2 o=some x->lV o=some x:=λhl=>by rw[JR,hl]
  exact⟨h.grow,λb hbf=>⟨amq b hbf,rfl⟩,λo cs hl=>⟨⟨cs,hin hl⟩,VH hl⟩,λo e r l fr hl=>⟨⟨l,fr,hin hl⟩,VH hl⟩⟩
 have hmain:=h.update (w':=w') (K:=K) (D:=D) (H:=H) (lV:=lV) (γ2:=γ2) h1 h2 h3 h4 hH h5
  (λq hD=>by
    have h0:((Fw.look δ q).isSome||(Fw.look δ2 q).isSome)=false:=hD;rw[awK]at h0;have l1:Fw.look δ q=none:=by cases hl:Fw.look δ q with|none=>rfl|some _=>rw[hl]at h0;cases h0.1
    have l2:Fw.look δ2 q=none:=by cases hl:Fw.look δ2 q with|none=>rfl|some _=>rw[hl]at h0;cases h0.2
    exact⟨by rw[JR,l2,l1],Oz l2⟩)
  hKH
  (λq x hD hq b hbq=>by
    rw[JR]at hq;cases hl2:Fw.look δ2 q with
    |some y=>
     rw[VH hl2]at hbq;have:=(h7 q y hl2).2 b hbq;exact⟨this.1,this.2.1⟩
    |none=>
     rw[Oz hl2]at hbq;rw[hl2]at hq;cases hl:Fw.look δ q with
     |some y=>
      obtain⟨c,Y4,hcg,hco,hk⟩:=hback hl;rw[← hcg]at hbq;have hlt:=apf Y4 b hbq;refine⟨avT hlt h4,.inr ?_⟩;have hcE:∃X,E c=some X:=by
       obtain⟨x',o',hx',ho',hone⟩:=hh.get (c / 64) (as[c / 64]' akZ) (avv _);rw[hco]at ho';cases ho';rcases hone with⟨g,_⟩|⟨q',e,r,l,fr,g1,_,g2,g3⟩|⟨q',cs,g1,_,g2,_,g3⟩
       .cases g
       .cases g1;rcases hk with⟨e1,r1,l1,l0,fr1,g4,rfl⟩|⟨cs1,cs0,g4,_⟩
        .rcases Ny Y4 with⟨_,_,_,_,_,hcq⟩|⟨_,_,g,_⟩
         .refine⟨.arr e r l false,?_⟩;show dF as c=_;have hm:c%64=49:=abn;unfold dF;rw[avv akZ,g3,hm]
         .cases g
        .rw[g2]at g4;cases g4
       .cases g1;rcases hk with⟨e1,r1,l1,l0,fr1,g4,rfl⟩|⟨cs1,cs0,g4,_,rfl⟩
        .rw[g2]at g4;cases g4
        .rcases Ny Y4 with⟨_,_,_,_,g,_⟩|⟨_,_,_,hcq⟩
         .cases g
         .refine⟨.var (cs.map (Cell.view st)),?_⟩;show dF as c=_;have hm:c%64=48:=abn;unfold dF;rw[avv akZ,g3,hm]
      obtain⟨X,hX⟩:=hcE;exact⟨c,X,hX,hbq⟩
     |none=>have h0:((Fw.look δ q).isSome||(Fw.look δ2 q).isSome)=true:=hD;rw[hl,hl2]at h0;cases h0)
  (λ_ q x hD hq=>by
    rw[JR]at hq;cases hl2:Fw.look δ2 q with
    |some y=>
     rw[hl2]at hq;cases hq;exact bn.mono hle2 q x (λ_ _=>rfl) (VH hl2) (h7 q x hl2).1
    |none=>
     rw[hl2]at hq;cases hl:Fw.look δ q with
     |some y=>
      rw[hl]at hq;cases hq;obtain⟨c,Y4,hcg,hco,hk⟩:=hback hl;obtain⟨g1,g2⟩:=h9 c x Y4;have hγq:γ2 q=γ' c:=by rw[Oz hl2,g1];exact hcg.symm
      rcases hk with⟨e,r,l,l0,fr,_,rfl⟩|⟨cs,cs0,_,hr,rfl⟩
      .exact bn.XP (Y:=Y2) g2 hγq rfl (λb hbf=>akf false b hbf) (λb _ e=>ahB)
      .obtain⟨b,arr,t,k1,k2,k3⟩:=g2;exact⟨b,arr,t,hγq.trans k1,k2,EJ (Y:=Y2) (Z:=⟨w',w0.heap.size,T,γ2,lV⟩) rfl akf _ _ hr k3⟩
     |none=>have h0:((Fw.look δ q).isSome||(Fw.look δ2 q).isSome)=true:=hD;rw[hl,hl2]at h0;cases h0)
  (λp1 p2 x y b hD1 hD2 hq1 hq2 hne hb1=>by
    rw[JR]at hq1 hq2;cases l1:Fw.look δ2 p1 with
    |some y1=>
     rw[VH l1]at hb1;cases l2:Fw.look δ2 p2 with
     |some y2=>rw[VH l2];exact h8 p1 y1 p2 y2 b l1 l2 hne hb1
     |none=>
      rw[Oz l2];cases m2:Fw.look δ p2 with
      |some y2=>
       obtain⟨c,Y4,hcg,hco,hk⟩:=hback m2;rw[← hcg];exact((h7 p1 y1 l1).2 b hb1).2.2 c y2 Y4
      |none=>
       have h0:((Fw.look δ p2).isSome||(Fw.look δ2 p2).isSome)=true:=hD2;rw[m2,l2]at h0;cases h0
    |none=>
     rw[Oz l1]at hb1;cases m1:Fw.look δ p1 with
     |none=>
      have h0:((Fw.look δ p1).isSome||(Fw.look δ2 p1).isSome)=true:=hD1;rw[m1,l1]at h0;cases h0
     |some y1=>
      obtain⟨c1,as9,ata,auS,hk1⟩:=hback m1;cases l2:Fw.look δ2 p2 with
      |some y2=>
       rw[VH l2];intro e;rw[← ata]at hb1;exact((h7 p2 y2 l2).2 b e).2.2 c1 y1 as9 hb1
      |none=>
       rw[Oz l2];cases m2:Fw.look δ p2 with
       |none=>
        have h0:((Fw.look δ p2).isSome||(Fw.look δ2 p2).isSome)=true:=hD2;rw[m2,l2]at h0;cases h0
       |some y2=>
        obtain⟨c2,auT,auU,auV,hk2⟩:=hback m2;have e1:∃z,st.ah p1=some z:=by rcases hk1 with⟨_,_,_,_,_,g,_⟩|⟨_,_,g,_⟩<;>exact⟨_,g⟩
        have e2:∃z,st.ah p2=some z:=by rcases hk2 with⟨_,_,_,_,_,g,_⟩|⟨_,_,g,_⟩<;>exact⟨_,g⟩
        obtain⟨z1,e1⟩:=e1;obtain⟨z2,e2⟩:=e2;exact h.sep p1 z1 p2 z2 b e1 e2 hne hb1)
  (λq cs hD hK hq=>by
    cases l2:Fw.look δ2 q with
    |some y=>have:=FZ hfr l2;rw[ou K hK hq]at this;cases this
    |none=>
     refine⟨?_,Oz l2⟩;cases m2:Fw.look δ q with
     |none=>
      have h0:((Fw.look δ q).isSome||(Fw.look δ2 q).isSome)=true:=hD;rw[m2,l2]at h0;cases h0
     |some y=>
      obtain⟨c,_,_,_,hk⟩:=hback m2;rcases hk with⟨_,_,_,_,_,g,_⟩|⟨cs',_,g,_,rfl⟩
      .rw[hq]at g;cases g
      .exact⟨cs',by rw[JR,l2,m2]⟩)
  (λq e r l fr hD hK hq=>by
    cases l2:Fw.look δ2 q with
    |some y=>have:=FZ hfr l2;rw[ou K hK hq]at this;cases this
    |none=>
     refine⟨?_,Oz l2⟩;cases m2:Fw.look δ q with
     |none=>
      have h0:((Fw.look δ q).isSome||(Fw.look δ2 q).isSome)=true:=hD;rw[m2,l2]at h0;cases h0
     |some y=>
      obtain⟨c,_,_,_,hk⟩:=hback m2;rcases hk with⟨e',r',l',l0,fr',g,rfl⟩|⟨_,_,g,_⟩
      .rw[hq]at g;cases g;exact⟨l',false,by rw[JR,l2,m2]⟩
      .rw[hq]at g;cases g)
  (λq cs hD hq=>by
    rw[JR]at hq;cases l2:Fw.look δ2 q with
    |some y=>
     rw[l2]at hq;cases hq;have h0:=out.aho k ahE l2;refine .inr ?_;cases hT:T.N q with
     |none=>rfl
     |some v'=>have:=T.n48 q v' hT;omega
    |none=>
     rw[l2]at hq;cases m2:Fw.look δ q with
     |none=>
      have h0:((Fw.look δ q).isSome||(Fw.look δ2 q).isSome)=true:=hD;rw[m2,l2]at h0;cases h0
     |some y=>
      rw[m2]at hq;cases hq;obtain⟨c,_,_,_,hk⟩:=hback m2;rcases hk with⟨_,_,_,_,_,_,g⟩|⟨_,cs0,g,_,_⟩
      .cases g
      .exact .inl ⟨cs0,g,Oz l2⟩)
 refine⟨v,γ2,rfl,?_,aT.mono hle2 _ _ h6⟩;have hst:(((st.kill K).adds δ).adds δ2)={n:=st.n,tmps:=λt=>(st.tmps t).kill K,ah:=lV}:=by
  have e1:=E5 δ2 ((st.kill K).adds δ);have e2:=E5 δ (st.kill K);have gen:∀(s:St)(n:Nat)(t:Nat->AV),s.n=n->s.tmps=t->s={n:=n,tmps:=t,ah:=s.ah}:=λs n t g1 g2=>by cases s;subst g1 g2;rfl
  exact gen _ _ _ (e1.2.trans e2.2) (e1.1.trans e2.1)
 show Rel w0 M T γ2 (((st.kill K).adds δ).adds δ2) a w';rw[hst];exact hmain.1
theorem Rel.akg{G:jX}(hE:rD P G Θ Γ w0 M)(h:Rel w0 M T γ st a w){xs:List AV}{us:Array Value}{as:List Arg}{os:List (Option Nat)}(hx:oG (aj w0 T γ st w) xs us.toList)
 (hh:qP true st xs as os) (hnd:yQ os=true) {f:FuncId} {con:Dt} {p:Prop} {ρ:Jr} {k:Nat} (ahE:k%64=1) (hok:jq P G f con) (hc:con as=some (p,ρ)) (hp:p)
 (hch:∀t,ρ.R t->∃δ,nJ st os (ρ.aH t)=some δ/\jJ (st.kill (iP os (ρ.aH t))) ((ρ.out t).take k).2=true/\IV (ρ.aH t) ((ρ.out t).take k).2=true):
 Calls P f us w λe w'=>∃t δ,ρ.R t/\nJ st os (ρ.aH t)=some δ/\∃v γ',e=.returned v/\
  Rel w0 M T γ' (((st.kill (iP os (ρ.aH t))).adds δ).adds ((ρ.out t).take k).2) a w'/\aT (aj w0 T γ' (((st.kill (iP os (ρ.aH t))).adds δ).adds ((ρ.out t).take k).2) w') ((ρ.out t).take k).1 v:=by
 let S:=(aj w0 T γ st w).foot
 let E:=dF as
 let ge:=γE os γ
 let XE:V:=⟨w,w.heap.size,S,ge,E⟩
 have hge:∀{q o:Nat},os[q / 64]? =some (some o)->ge q=γ o:=λhq=>aky;have hEs:∀{q:Nat}{X:aB},E q=some X->_:=λhq=>VF hh hq;have PD:∀b,S b->XE.foot b:=λb hb=>⟨hb.1,λ_=>hb,λq X hq=>by obtain⟨o,Y,ho,hY,_⟩:=hEs hq;show blk (ge q)≠some b;rw[hge ho];exact hb.2.2 o Y hY⟩;have hbl:∀{q:Nat}{X:aB},E q=some X->∀b,blk (ge q)=some b->b<w.heap.size/\(w0.heap.size<=b\/M b):=λhq b hb=>akx;have alf:∀o x,E o=some x->bn XE o x/\∀b,blk (ge o)=some b->b<w.heap.size/\G.n<=b:=by
  intro q X hq;refine⟨?_,λb hb=>⟨(hbl hq b hb).1,?_⟩⟩
  .obtain⟨o,Y,ho,hY,hk⟩:=hEs hq;have hO:=h.ah o Y hY;rcases hk with⟨e,r,l,fr,rfl,rfl,_⟩|⟨cs,rfl,rfl,hr,_⟩
   .exact bn.XP (Z:=XE) hO (hge ho) rfl (λb hb=>⟨PD b hb.1,λe=>ahB⟩) (λb _ e=>ahB)
   .obtain⟨b,arr,t,hγ,hheap,hcs⟩:=hO;refine⟨b,arr,t,(hge ho).trans hγ,hheap,?_⟩;have:=Cells.tu h (γ0:=λ_=>undef) cs _ hr hcs;exact EJ (Y:=⟨w,w.heap.size,S,λ_=>undef,λ_=>none⟩) (Z:=XE) rfl (λfr b hb=>⟨⟨hb.1.1,λhlt=>hb.1.2.1 hlt,λq' X' hq'=>by obtain⟨o',Y',ho',hY',_⟩:=hEs hq';show blk (ge q')≠some b;rw[hge ho'];exact(hb.1.2.1 hb.1.1).2.2 o' Y' hY'⟩,hb.2⟩) _ _ (by rw[List.flatMap_map];rw[ax6]at hr ⊢;intro c hc;have:=hr c hc;cases c<;>first|rfl|(cases this;done)) this
  .rcases(hbl hq b hb).2 with g|g
   .exact avx (G.low w0 hE.ok) g
   .exact hE.low b g
 have hidx:∀{q q':Nat}{X X':aB},E q=some X->E q'=some X'->q / 64=q' / 64->q=q':=by
  intro q q' X X' hq hq' hi;have key:∀{q:Nat}{X:aB},E q=some X->∃a,as[q / 64]? =some a/\((∃(e:TypeId)(r:ax)(l:List r.den),a=.own e r l/\q%64=49)\/∃cs,a=.ptr cs/\q%64=48):=by
   intro q X hq;have hq:dF as q=some X:=hq;unfold dF at hq;split at hq
   .next e r l ha=>
    split at hq
    .next hm=>exact⟨_,ha,.inl ⟨e,r,l,rfl,avs hm⟩⟩
    .cases hq
   .next cs ha=>
    split at hq
    .next hm=>exact⟨_,ha,.inr ⟨cs,rfl,avs hm⟩⟩
    .cases hq
   .cases hq
  obtain⟨a1,h1,k1⟩:=key hq;obtain⟨a2,h2,k2⟩:=key hq';rw[hi,h2]at h1;cases h1;rcases k1 with⟨e,r,l,rfl,m1⟩|⟨cs,rfl,m1⟩<;>rcases k2 with⟨e',r',l',k3,m2⟩|⟨cs',k3,m2⟩<;>first|(cases k3;done)|omega
 have hsep:∀o x q y b,E o=some x->E q=some y->o≠q->blk (ge o)=some b->blk (ge q)≠some b:=by intro q1 X1 q2 X2 b h1 h2 hne hb;obtain⟨o1,Y1,ho1,hY1,_⟩:=hEs h1;obtain⟨o2,Y2,ho2,hY2,_⟩:=hEs h2;rw[hge ho1]at hb;rw[hge ho2];refine h.sep o1 Y1 o2 Y2 b hY1 hY2 ?_ hb;rintro rfl;exact hne (hidx h1 h2 (Oy hnd _ _ _ ho1 ho2))
 have hargs:wS XE 0 as us.toList:=by
  obtain⟨hl,hget⟩:=oG.get xs us.toList hx;refine ZY as us.toList 0 (by rw[hh.length.1,hl]) λj b u hb hu=>?_;rw[avV];obtain⟨x,o,hxj,hoj,hone⟩:=hh.get j b hb;have hrep:=hget j x u hxj hu;have d1:(j*64+49) / 64=j:=abn;have d2:(j*64+49)%64=49:=abn;have d3:(j*64+48) / 64=j:=abn;have d4:(j*64+48)%64=48:=abn;rcases hone with⟨rfl,hr,ha⟩|⟨q,e,r,l,fr,rfl,rfl,hq,rfl⟩|⟨q,cs,rfl,rfl,hq,hr,rfl⟩
  .have hr:=hr rfl;have hr2:=AA h (γ0:=λ_=>undef) [x] [u] [b] ha (by show x.refs++[]=[];rw[hr];rfl) ⟨hrep,trivial⟩;have hle:V.le ⟨w,w.heap.size,S,λ_=>undef,λ_=>none⟩ XE:=⟨avt _,λc hcc=>⟨PD c (hcc.2.1 hcc.1),rfl⟩,(λ_ _ hcc=>by cases hcc),(λ_ _ _ _ _ hcc=>by cases hcc)⟩;have hA:=hr2.1;cases b with
   |sv v=>exact dM.mono hle v u hA
   |kp cs=>exact aT.mono hle (.fF cs 0) u hA
   |fn g caps=>exact aT.mono hle (.fn g caps) u hA
   |own _ _ _=>exact hA.elim
   |ptr _=>exact hA.elim
  .obtain⟨_,hu2,hone⟩:=hrep;refine⟨⟨e,r,l,false,?_⟩,?_,hone⟩
   .show dF as (j*64+49)=_;unfold dF;rw[d1,hb,d2]
   .rw[hu2];show _=ge (j*64+49);exact(hge (by rw[d1];exact hoj)).symm
  .obtain⟨c,cs',_,hγ,hv⟩:=hrep;refine⟨c,cs.map (Cell.view st),?_,?_,hv⟩
   .show dF as (j*64+48)=_;unfold dF;rw[d3,hb,d4]
   .exact(hge (by rw[d3];exact hoj)).trans hγ
 refine((hok as p ρ hc hp).2 k S ge us w (hE.at h) hargs alf hsep λt ht o x hl=>?_).mono ?_
 .obtain⟨δ,_,_,h3⟩:=hch t ht;exact Y3 h3 hl
 .rintro e w' ⟨t,ht,hpost⟩;obtain⟨δ,g1,g2,_⟩:=hch t ht;obtain⟨v,γ',rfl,g3,g4⟩:=h.VG hh ahE g1 g2 hpost;exact⟨t,δ,ht,g1,v,γ',rfl,g3,g4⟩
def Le(aH:List Eff):Bool:=aH.all λ|.lose=>true|.arr _ _ _=>false|.var cs=>cs.all Cell.made
theorem ahF{aH:List Eff}(h:Le aH=true){q:Nat}{X:aB}(hq:mr aH q=some X):XO X:=by
 rcases Ny hq with⟨e,r,l,g,_⟩|⟨cs,g,rfl,_⟩
 .have:=avL.1 h _ (awc g);cases this
 .exact avL.1 h _ (awc g)
theorem Nu.made{S S':Nat->Prop}{args:List Arg}{k:Nat}{out:Out}{aH:List Eff}{e:Ending}(h:Nu S args γ w k out aH e w')(hm:out.made=true)(hf:Le aH=true):Nu S' args γ w k out aH e w':=by
 obtain⟨v,γ',rfl,h1,h2,h3,h4,h5,h6,h7,h8,h9⟩:=h;refine⟨v,γ',rfl,h1,h2,h3,h4,h5,(out.VA k hm _ (qj S' args aH γ) v).1 h6,λo x hl=>⟨?_,(h7 o x hl).2⟩,h8,λo x hq=>⟨(h9 o x hq).1,?_⟩⟩
 .exact bn.made (qj S' args aH γ) o x ((out.VA k hm ⟨w',w.heap.size,S,γ',look (out.take k).2⟩ (qj S' args aH γ) v).2 _ (xH _ _ _ hl)) (h7 o x hl).1
 .exact bn.made (qj S' args aH γ) o x (ahF hf hq) (h9 o x hq).2
theorem Rel.ahG{G:jX}(hE:rD P G Θ Γ w0 M)(h:Rel w0 M T γ st a w){xs:List AV}{us:Array Value}{as:List Arg}{os:List (Option Nat)}(hx:oG (aj w0 T γ st w) xs us.toList)
 (hh:qP false st xs as os) (hnd:yQ os=true) {f:FuncId} {con:Dt} {p:Prop} {ρ:Jr} {k:Nat} (ahE:k%64=1) (hok:jq P G f con) (hc:con as=some (p,ρ)) (hp:p)
 (hown:∀(q:Nat)(e:TypeId)(r:ax)(l:List r.den),dF as q≠some (.arr e r l false)) (aph:∀t,ρ.R t->(ρ.out t).made=true/\Le (ρ.aH t)=true)
 (hch:∀t,ρ.R t->∃δ,nJ st os (ρ.aH t)=some δ/\jJ (st.kill (iP os (ρ.aH t))) ((ρ.out t).take k).2=true/\IV (ρ.aH t) ((ρ.out t).take k).2=true):
 Calls P f us w λe w'=>∃t δ,ρ.R t/\nJ st os (ρ.aH t)=some δ/\∃v γ',e=.returned v/\
  Rel w0 M T γ' (((st.kill (iP os (ρ.aH t))).adds δ).adds ((ρ.out t).take k).2) a w'/\aT (aj w0 T γ' (((st.kill (iP os (ρ.aH t))).adds δ).adds ((ρ.out t).take k).2) w') ((ρ.out t).take k).1 v:=by
 let E:=dF as
 let ge:=γE os γ
 let S:Nat->Prop:=λb=>b<w.heap.size/\∀q X,E q=some X->blk (ge q)≠some b
 let XE:V:=⟨w,w.heap.size,S,ge,E⟩
 have hge:∀{q o:Nat},os[q / 64]? =some (some o)->ge q=γ o:=λhq=>aky;have hEs:∀{q:Nat}{X:aB},E q=some X->_:=λhq=>VF hh hq;have PD:∀b,S b->XE.foot b:=λb hb=>⟨hb.1,λ_=>hb,hb.2⟩;have hS1:∀b,(aj w0 T γ st w).foot b->S b:=λb hb=>⟨hb.1,λq X hq=>by obtain⟨o,Y,ho,hY,_⟩:=hEs hq;rw[hge ho];exact hb.2.2 o Y hY⟩;have hS2:∀o e r l fr b,st.ah o=some (.arr e r l fr)->blk (γ o)=some b->S b:=λo e r l fr b ho hb=>⟨(h.lt o _ b ho hb).1,λq X hq=>by
  obtain⟨o',Y,ho',hY,hk⟩:=hEs hq;rw[hge ho'];rcases hk with⟨e',r',l',fr',rfl,_,_⟩|⟨cs,_,rfl,_,_⟩
  .exact(hown q e' r' l' hq).elim
  .exact h.sep o _ o' _ b ho hY (λe=>by subst e;rw[ho]at hY;cases hY) hb⟩
 have hbl:∀{q:Nat}{X:aB},E q=some X->∀b,blk (ge q)=some b->b<w.heap.size/\(w0.heap.size<=b\/M b):=λhq b hb=>akx;have alf:∀o x,E o=some x->bn XE o x/\∀b,blk (ge o)=some b->b<w.heap.size/\G.n<=b:=by
  intro q X hq;refine⟨?_,λb hb=>⟨(hbl hq b hb).1,?_⟩⟩
  .obtain⟨o,Y,ho,hY,hk⟩:=hEs hq;have hO:=h.ah o Y hY;rcases hk with⟨e,r,l,fr,rfl,rfl,_⟩|⟨cs,rfl,rfl,hr,_⟩
   .exact bn.XP (Z:=XE) hO (hge ho) rfl (λb hb=>⟨PD b (hS1 b hb.1),λe=>ahB⟩) (λb _ e=>ahB)
   .obtain⟨b,arr,t,hγ,hheap,hcs⟩:=hO;refine⟨b,arr,t,(hge ho).trans hγ,hheap,?_⟩;have:=Cells.tu h (γ0:=λ_=>undef) cs _ hr hcs;exact EJ (Y:=⟨w,w.heap.size,(aj w0 T γ st w).foot,λ_=>undef,λ_=>none⟩) (Z:=XE) rfl (λfr b hb=>⟨⟨hb.1.1,λhlt=>hS1 b (hb.1.2.1 hlt),(hS1 b (hb.1.2.1 hb.1.1)).2⟩,hb.2⟩) _ _ (by rw[List.flatMap_map];rw[ax6]at hr ⊢;intro c hc;have:=hr c hc;cases c<;>first|rfl|(cases this;done)) this
  .rcases(hbl hq b hb).2 with g|g
   .exact avx (G.low w0 hE.ok) g
   .exact hE.low b g
 have hidx:∀{q q':Nat}{X X':aB},E q=some X->E q'=some X'->q / 64=q' / 64->q=q':=by
  intro q q' X X' hq hq' hi;have key:∀{q:Nat}{X:aB},E q=some X->∃a,as[q / 64]? =some a/\((∃(e:TypeId)(r:ax)(l:List r.den),a=.own e r l/\q%64=49)\/∃cs,a=.ptr cs/\q%64=48):=by
   intro q X hq;have hq:dF as q=some X:=hq;unfold dF at hq;split at hq
   .next e r l ha=>
    split at hq
    .next hm=>exact⟨_,ha,.inl ⟨e,r,l,rfl,avs hm⟩⟩
    .cases hq
   .next cs ha=>
    split at hq
    .next hm=>exact⟨_,ha,.inr ⟨cs,rfl,avs hm⟩⟩
    .cases hq
   .cases hq
  obtain⟨a1,h1,k1⟩:=key hq;obtain⟨a2,h2,k2⟩:=key hq';rw[hi,h2]at h1;cases h1;rcases k1 with⟨e,r,l,rfl,m1⟩|⟨cs,rfl,m1⟩<;>rcases k2 with⟨e',r',l',k3,m2⟩|⟨cs',k3,m2⟩<;>first|(cases k3;done)|omega
 have hsep:∀o x q y b,E o=some x->E q=some y->o≠q->blk (ge o)=some b->blk (ge q)≠some b:=by intro q1 X1 q2 X2 b h1 h2 hne hb;obtain⟨o1,Y1,ho1,hY1,_⟩:=hEs h1;obtain⟨o2,Y2,ho2,hY2,_⟩:=hEs h2;rw[hge ho1]at hb;rw[hge ho2];refine h.sep o1 Y1 o2 Y2 b hY1 hY2 ?_ hb;rintro rfl;exact hne (hidx h1 h2 (Oy hnd _ _ _ ho1 ho2))
 have hargs:wS XE 0 as us.toList:=by
  obtain⟨hl,hget⟩:=oG.get xs us.toList hx;refine ZY as us.toList 0 (by rw[hh.length.1,hl]) λj b u hb hu=>?_;rw[avV];obtain⟨x,o,hxj,hoj,hone⟩:=hh.get j b hb;have hrep:=hget j x u hxj hu;have d1:(j*64+49) / 64=j:=abn;have d2:(j*64+49)%64=49:=abn;have d3:(j*64+48) / 64=j:=abn;have d4:(j*64+48)%64=48:=abn;rcases hone with⟨rfl,hr,ha⟩|⟨q,e,r,l,fr,rfl,rfl,hq,rfl⟩|⟨q,cs,rfl,rfl,hq,hr,rfl⟩
  .have hr2:=F5 h (γ0:=λ_=>undef) hS1 hS2 [x] [u] [b] ha ⟨hrep,trivial⟩;have hle:V.le ⟨w,w.heap.size,S,λ_=>undef,λ_=>none⟩ XE:=⟨avt _,λc hcc=>⟨PD c (hcc.2.1 hcc.1),rfl⟩,(λ_ _ hcc=>by cases hcc),(λ_ _ _ _ _ hcc=>by cases hcc)⟩;have hA:=hr2.1;cases b with
   |sv v=>exact dM.mono hle v u hA
   |kp cs=>exact aT.mono hle (.fF cs 0) u hA
   |fn g caps=>exact aT.mono hle (.fn g caps) u hA
   |own _ _ _=>exact hA.elim
   |ptr _=>exact hA.elim
  .obtain⟨_,hu2,hone⟩:=hrep;refine⟨⟨e,r,l,false,?_⟩,?_,hone⟩
   .show dF as (j*64+49)=_;unfold dF;rw[d1,hb,d2]
   .rw[hu2];show _=ge (j*64+49);exact(hge (by rw[d1];exact hoj)).symm
  .obtain⟨c,cs',_,hγ,hv⟩:=hrep;refine⟨c,cs.map (Cell.view st),?_,?_,hv⟩
   .show dF as (j*64+48)=_;unfold dF;rw[d3,hb,d4]
   .exact(hge (by rw[d3];exact hoj)).trans hγ
 refine((hok as p ρ hc hp).2 k S ge us w (hE.at h) hargs alf hsep λt ht o x hl=>?_).mono ?_
 .obtain⟨δ,_,_,h3⟩:=hch t ht;exact Y3 h3 hl
 .rintro e w' ⟨t,ht,hpost⟩;obtain⟨δ,g1,g2,_⟩:=hch t ht;obtain⟨v,γ',rfl,g3,g4⟩:=h.VG hh ahE g1 g2 (hpost.made (aph t ht).1 (aph t ht).2);exact⟨t,δ,ht,g1,v,γ',rfl,g3,g4⟩
theorem afr{base size n:Nat}{e:TypeId}{v:Value}{xs:List Value}(hown:w.ownsRow base e size v n xs):v.oneCell'=true/\(∀ad,v≠ .pointer (some ad)):=by rcases hown.2 with⟨h1,_⟩|⟨g,cap,cur,h1,_⟩<;>rw[h1]<;>exact⟨rfl,λ_ e=>ahB⟩
theorem Yi(hΘ:∀t ti,Θ t=some ti->lM P t ti)(h:Rel w0 M T γ st a w){t ty e:TypeId}{ti te:TI}(ht:Θ t=some ti)(hk:ti.kind=.slice e)(he:Θ e=some te)(k:Nat)(hpos:0<te.cells.len)
 {y:Cell} {news:List te.cells.den} {src:Value} (hy:aS (aj w0 T γ st w) y src)
 (hget:y.get st (.sl e te.cells)=some news) (hbig:news.length<=big):
 ∃u w' γ',(Builtin.append_ #[t,t] ty #[.slice none 0 0,src]).run P w=.ok u w'/\Rel w0 M T γ' ((st.kill (Nat.beq k ·)).add k (.arr e te.cells news (y.wQ te.cells st))) a w'/\
  aT (aj w0 T γ' ((st.kill (Nat.beq k ·)).add k (.arr e te.cells news (y.wQ te.cells st))) w') (.sv (.one (.ref k))) u:=by
 obtain⟨v',w',ns,hrun,hown',hg,hnr,hgb⟩:=Nw (P:=P) (ty:=ty) (hΘ t ti ht) hk (hΘ e te he) hpos (axv w 0 e te.cells.len) (Cell.ahz h hy hget) abn;rw[avV,awo]at hown';have ho:=afr hown';have hnb:∀g,blk v'=some g->(some g=none\/w.heap.size<=g)/\g<w'.heap.size:=by
  intro g hb;refine⟨.inr ?_,afo hown' g hb⟩;rcases hgb g (by rw[La ho.2];exact hb)with h1|h1
  .cases h1
  .exact h1
 obtain⟨hR,_⟩:=h.replace (w':=w') (o:=k) (v':=v') (x':=.arr e te.cells news (y.wQ te.cells st)) none (.inl rfl) hg.os hg.tape hg.output hg.size
  (λb hb hne=>hg.block b hb (by intro e1;cases e1)) hnb (λ_ e=>ahB) (λle=>by
    refine⟨ns,?_,hpos,?_,λi x hi=>?_⟩
    .show w'.ownsRow 0 e te.cells.len (upd γ k v' k) _ _;rw[upd_same];exact hown'
    .intro b hb hf;have hb:blk (upd γ k v' k)=some b:=hb;rw[upd_same]at hb;rcases(hnb b hb).1 with h1|h1
     .cases h1
     .exact avx h.grow h1
    .exact aJ.mono (λc hc=>le.cu _ c hc) _ _ x (hnr i x hi))
 exact⟨v',w',_,hrun,hR,⟨e,te.cells,_,_,add_same _ _ _⟩,(upd_same _ _ _).symm,ho.1⟩
theorem ahH(hΘ:∀t ti,Θ t=some ti->lM P t ti)(h:Rel w0 M T γ st a w){t f e:TypeId}{ti te:TI}(ht:Θ t=some ti)(hk:ti.kind=.slice f)(he:Θ f=some te){o:Nat}{r:ax}{l:List r.den}{fr:Bool}
 (ho:st.ah o=some (.arr e r l fr)) {v:Value} (hv:aS (aj w0 T γ st w) (.ref o) v) {hi:Option Operand} {p:Prop} {x y:Nat} (hb:mO st l.length none hi=some (p,x,y)) (hp:p):
 ∃u γ',(Instr.sliceAt t v none (hi.map a.eval) none).run P w=.ok u w/\Rel w0 M T γ' ((st.kill (Nat.beq o ·)).add o (.arr e r (l.take y) fr)) a w/\
  aT (aj w0 T γ' ((st.kill (Nat.beq o ·)).add o (.arr e r (l.take y) fr)) w) (.sv (.one (.ref o))) u:=by
 obtain⟨_,hvγ,_⟩:=hv;have hvγ:v=γ o:=hvγ;subst hvγ;obtain⟨xs,hown,hpos,hfr,hrow⟩:=h.ah o _ ho;have hown:w.ownsRow 0 e r.len (γ o) l.length xs:=hown;have hx0:x=0:=by
  cases hi with
  |none=>simp only[mO]at hb;cases hb;rfl
  |some hh=>
   simp only[mO]at hb;split at hb
   .cases hb;rfl
   .cases hb
 subst hx0;have hu:=(hΘ t ti ht).und;rw[hk]at hu;obtain⟨h1,h2⟩:=hown;have key:∃u,(Instr.sliceAt t (γ o) none (hi.map a.eval) none).run P w=.ok u w/\w.ownsRow 0 e r.len u y (xs.take (y*r.len))/\blk u=blk (γ o)/\y<=l.length:=by
  rcases h2 with⟨hn,hl0⟩|⟨g,cap,cur,hg,hg0,hh,hle,hmax,hsz,htake⟩
  .have hn:γ o=.slice none 0 0:=hn;obtain⟨hr,h3,h4⟩:=rG (P:=P) h (len:=l.length) (cap:=0) abn hb hp true;have hy:y=0:=abn;refine⟨.slice none 0 0,?_,?_,by rw[hn],h4⟩
   .rw[hn];simp only[axf]at hr;rw[hl0]at hr;simp[Instr.sliceAt,Instr.slice,avQ,avY hu.1 w,hr,(hΘ f te he).run_sizeOf,hy]
   .rw[hy,axz,axy];exact axv w 0 e r.len
  .have hg:γ o=.slice (some ⟨g,0,none⟩) l.length cap:=hg;obtain⟨hr,h3,h4⟩:=rG (P:=P) h (len:=l.length) (cap:=cap) hle hb hp true;have hmul:y*r.len<=l.length*r.len:=avO _ h4;refine⟨.slice (some ⟨g,0,none⟩) y cap,?_,⟨?_,.inr ⟨g,cap,cur,rfl,hg0,hh,avx h4 hle,hmax,hsz,?_⟩⟩,by rw[hg];rfl,h4⟩
   .rw[hg];simp only[axf]at hr;simp only[Instr.sliceAt,Instr.slice,avQ,avY hu.1 w,awl,hr,(hΘ f te he).run_sizeOf];simp[addr_add]
   .rw[avz,h1];omega
   .rw[← htake,ax3,axU hmul]
 obtain⟨u,hrun,hown',hblk,hyl⟩:=key;have hone:=afr hown';obtain⟨hR,_⟩:=h.replace (w':=w) (o:=o) (v':=u) (x':=.arr e r (l.take y) fr) (blk (γ o)) (.inr ⟨_,ho,rfl⟩) rfl rfl rfl (avt _) (λ_ _ _=>rfl)
  (λg hg=>⟨.inl (by rw[← hblk,hg]),(h.lt o _ g ho (by rw[← hblk,hg])).1⟩) (λ_ e=>ahB) (λle=>by
    have hlen:(l.take y).length=y:=aiO;refine⟨xs.take (y*r.len),?_,hpos,?_,λi z hi=>?_⟩
    .rw[hlen];show w.ownsRow 0 e r.len (upd γ o u o) _ _;rw[upd_same];exact hown'
    .intro b hb hf;have hb:blk (upd γ o u o)=some b:=hb;rw[upd_same,hblk]at hb;exact hfr b hb hf
    .have hil:i<y:=arB;have hmul:i*r.len+r.len<=y*r.len:=by have:(i+1)*r.len<=y*r.len:=avO _ hil;rw[av8]at this;simpa using this
     rw[av4,if_pos hil]at hi;rw[gZ _ _ _ _ hmul];exact aJ.mono (λc hc=>le.cu _ c hc) _ _ z (hrow i z hi))
 exact⟨u,_,hrun,hR,⟨e,r,_,_,add_same _ _ _⟩,(upd_same _ _ _).symm,hone.1⟩
theorem afs{G:jX}(hE:rD P G Θ Γ w0 M)(h:Rel w0 M T γ st a w)(o:Oper){d:Nat}{p:Prop}{v:AV}{s:St}
 (hc:eff Θ Γ d st o.op=some (p,v,s)) (hp:p) {next:Act->World->Prop} {Q:Exit->Act->World->Prop}
 (hn:∀u γ' w',Rel w0 M T γ' s a w'->aT (aj w0 T γ' s w') v u->next (a.put o.dst u) w'):o.wp P a w next Q:=by
 cases hop:o.op<;>rw[hop]at hc<;>try (simp only[eff,reduceCtorEq]at hc;done)
 case store t x y=>
  simp only[eff]at hc;split at hc
  .next sv ti hev ht=>
   split at hc
   .next hlen=>
    split at hc
    .next q s' hs=>
     cases hc;have hF:=h.freeze (BQ (st.ev x) sv);have hy:=jc h y;rw[hev]at hy;have hpv:=aT.freeze (BQ (st.ev x) sv) h _ _ (jc h x);have hyv:=dM.freeze (BQ (st.ev x) sv) h _ _ hy;have hl2:(sv.freeze st (BQ (st.ev x) sv)).cells.length=ti.cells.len:=by have h1:=ai.length _ _ (dM.cells _ _ hyv);have h2:=ai.length _ _ (dM.cells _ _ hy);have h3:=avs hlen;omega
     obtain⟨w',hr,hR⟩:=afn (P:=P) hE.types hF ht hs hp hpv hyv hl2;have hr2:(execOp a.eval o).run P w=.ok .skip w':=aqZ;unfold Oper.wp;rw[hr2];exact hn undef γ w' hR trivial
    .cases hc
   .cases hc
  .cases hc
 case buildSlice t len parts=>
  simp only[eff]at hc;split at hc
  .next q v' δ hcalm=>
   split at hc
   .next hfr=>cases hc;exact JM hE (h.freeze ((mM st parts.toList).contains ·)) o (by rw[hop];exact hcalm) hp hfr hn
   .cases hc
  .cases hc
 case slice t x lo hi mx=>
  cases mx with
  |some m=>simp only[eff,reduceCtorEq]at hc
  |none=>
   cases lo with
   |none=>
    simp only[eff]at hc;split at hc
    .next ti r ht hev=>
     have hx:=oz h hev;split at hc
     .next f e rr l fr hk ho=>
      split at hc
      .next te q i j he hb=>
       split at hc
       .next hbeq=>cases hc;obtain⟨u,γ',hr,hR,hv⟩:=ahH (P:=P) hE.types h ht hk he ho hx hb hp;refine Oper.mD (u:=u) (w':=w) ?_ (hn u γ' w hR hv);simp[execOp,hop,hr]
       .cases hc
      .cases hc
     .cases hc
    .cases hc
   |some l0=>
    simp only[eff]at hc;split at hc
    .next ti r ht hev=>
     split at hc
     .next f e rr l fr hk ho=>
      split at hc
      .next te q i j he hb=>
       split at hc
       .next hbeq=>
        split at hc
        .next q' v' hq=>cases hc;exact JM (δ:=[]) hE (h.freeze (Nat.beq r ·)) o (by rw[hop];exact hq) hp rfl hn
        .cases hc
       .cases hc
      .cases hc
     .cases hc
    .cases hc
 case call c=>
  obtain⟨callee,args,pV⟩:=c;cases callee with
  |invoke r m=>simp only[eff,reduceCtorEq]at hc
  |builtin b=>
   cases b<;>try (simp only[eff,reduceCtorEq]at hc;done)
   case append=>
    simp only[eff]at hc;split at hc
    .next sx x t u hargs KZ=>
     split at hc
     .next ti c y htu ht hes hex=>
      have htu:=avs htu;subst htu;have ha:args.map a.eval=#[a.eval sx,a.eval x]:=apo;have ht':pV=#[t,t]:=asF;have hrun:execOp a.eval o=(do pure (Next.value (← Builtin.append_ #[t,t] o.type #[a.eval sx,a.eval x]))):=by rw[yT hop,ha,ht'];rfl
      have h1:=oz h hes;have h2:=oz h hex;split at hc
      .next e hk=>
       split at hc
       .next te he=>
        split at hc
        .next news r hget=>
         split at hc
         .next f rr l fr ho=>
          split at hc
          .next hbeq=>
           split at hc
           .next hef=>cases hc;have hef:=avs hef;subst hef;obtain⟨v',w',γ',hr,hR,hv⟩:=ags (P:=P) (ty:=o.type) hE.types h ht hk he ho hbeq h1 h2 hget hp;exact Oper.mD (by rw[hrun];exact Pv hr) (hn v' γ' w' hR hv)
           .cases hc
          .cases hc
         .cases hc
        .next news hget=>
         split at hc
         .next Rf=>cases hc;have hs0:a.eval sx=.slice none 0 0:=h1;obtain⟨v',w',γ',hr,hR,hv⟩:=Yi (P:=P) (ty:=o.type) hE.types h ht hk he (d*64+1) (awy Rf) h2 hget hp;exact Oper.mD (by rw[hrun,hs0];exact Pv hr) (hn v' γ' w' hR hv)
         .cases hc
        .cases hc
       .cases hc
      .cases hc
     .next ti o1 zy n0 o2 lo2 n2 htu ht hes hex=>
      have htu:=avs htu;subst htu;have ha:args.map a.eval=#[a.eval sx,a.eval x]:=apo;have ht':pV=#[t,t]:=asF;have hrun:execOp a.eval o=(do pure (Next.value (← Builtin.append_ #[t,t] o.type #[a.eval sx,a.eval x]))):=by rw[yT hop,ha,ht'];rfl
      obtain⟨v',w',hr,hR,hv⟩:=Yh (P:=P) (ty:=o.type) hE.types h ht hes hex hc hp;exact Oper.mD (by rw[hrun];exact Pv hr) (hn v' γ w' hR hv)
     .cases hc
    .cases hc
   case clear=>
    simp only[eff]at hc;split at hc
    .next x t hargs KZ=>
     split at hc
     .next ti o1 lo n ht hev=>
      have ha:args.map a.eval=#[a.eval x]:=apo;have ht':pV=#[t]:=asF;have hrun:execOp a.eval o=(do pure (Next.value (← Builtin.clear_ #[t] o.type #[a.eval x]))):=by rw[yT hop,ha,ht'];rfl
      obtain⟨v',w',hr,hR,hv⟩:=ZX (P:=P) (ty:=o.type) hE.types h ht hev hc hp;exact Oper.mD (by rw[hrun];exact Pv hr) (hn v' γ w' hR hv)
     .cases hc
    .cases hc
  |value x=>
   simp only[eff]at hc;split at hc
   .next f caps hx=>
    have hv:=jc h x;rw[hx]at hv;obtain⟨us,hvx,hkx⟩:=hv;split at hc
    .next con hcon=>
     split at hc
     .next vs hargs hrefs=>
      split at hc
      .next q out hq=>
       split at hc
       .next hfr=>cases hc;have hF:=h.freeze (ahj st args.toList caps);obtain⟨hok,hcall⟩:=hE.cons f con hcon;unfold Oper.wp;rw[Nv hop hvx hcall,ayk];have hrep:=AA hF (γ0:=λ_=>undef) _ _ vs hargs hrefs (oG.freeze _ h _ _ (F6 h hkx args.toList));rw[← axA,← axC]at hrep;refine(hok vs _ out (d*64+1) _ (args.map a.eval++us) w hq hp (hE.at h) hrep).mono ?_;rintro e w' ⟨u,vals,rfl,h1,h2,h3,h4,h5,h6,h7,h8⟩;obtain⟨γ',g1,g2⟩:=hF.called abn hfr h1 h2 h3 h4 h5 (.inr rfl) h6 h7 h8;exact hn u γ' w' g1 g2
       .cases hc
      .cases hc
     .cases hc
    .cases hc
   .cases hc
theorem amr{G:jX}(hE:rD P G Θ Γ w0 M)(h:Rel w0 M T γ st a w)(o:Oper){d:Nat}{p:Prop}{ρ:Jr}{os:List (Option Nat)}{s0:St}
 (hc:abp Γ st o.op=some (p,ρ,os,s0)) (hp:p) (hch:∀t,ρ.R t->∃r,QZ d s0 os (ρ.out t) (ρ.aH t)=some r) {next:Act->World->Prop} {Q:Exit->Act->World->Prop}
 (hn:∀t v s u γ' w',ρ.R t->QZ d s0 os (ρ.out t) (ρ.aH t)=some (v,s)->Rel w0 M T γ' s a w'->aT (aj w0 T γ' s w') v u->next (a.put o.dst u) w'):o.wp P a w next Q:=by
 unfold abp at hc;split at hc
 case h_2=>cases hc
 next x args pV hop=>
 split at hc
 case h_2=>cases hc
 next f caps hx=>
 have hv:=jc h x;rw[hx]at hv;obtain⟨us,hvx,hkx⟩:=hv;split at hc
 case h_2=>cases hc
 next ms con hcon=>
 split at hc
 case h_2=>cases hc
 next vs os' VI=>
 split at hc
 case h_2=>cases hc
 next q ρ' hq=>
 cases hc;have hF:=h.freeze (XJ st ms args.toList caps);obtain⟨hok,hcall⟩:=hE.ag1 f ms con hcon;unfold Oper.wp;rw[Nv hop hvx hcall,ayk];have hxs:oG (aj w0 T γ (KW st ms args.toList caps) w) (amm st ms args.toList caps) (args.map a.eval++us).toList:=by rw[axC,axA];exact oG.freeze (XJ st ms args.toList caps) h _ _ (F6 h hkx args.toList)
 have hk:(d*64+1)%64=1:=abn;have hspec:∀t,ρ.R t->∃δ,(yQ os=true/\IV (ρ.aH t) ((ρ.out t).take (d*64+1)).2=true)/\nJ (KW st ms args.toList caps) os (ρ.aH t)=some δ/\jJ ((KW st ms args.toList caps).kill (iP os (ρ.aH t))) ((ρ.out t).take (d*64+1)).2=true/\
  QZ d (KW st ms args.toList caps) os (ρ.out t) (ρ.aH t)=some (((ρ.out t).take (d*64+1)).1,(((KW st ms args.toList caps).kill (iP os (ρ.aH t))).adds δ).adds ((ρ.out t).take (d*64+1)).2):=by
  intro t ht;obtain⟨r,hr⟩:=hch t ht;unfold QZ at hr;split at hr
  .next δ hnd hb hfr=>rw[avo]at hnd;refine⟨δ,hnd,hb,hfr,?_⟩;unfold QZ;rw[hnd.1,hnd.2,hb,hfr];rfl
  .cases hr
 obtain⟨t0,ht0⟩:=(hok vs _ ρ hq hp).1;obtain⟨_,⟨hnd,_⟩,_⟩:=hspec t0 ht0;refine(hF.akg hE hxs (Ri ms _ vs os VI) hnd hk hok hq hp λt ht=>?_).mono ?_
 .obtain⟨δ,g1,g2,g3,_⟩:=hspec t ht;exact⟨δ,g2,g3,g1.2⟩
 .rintro e w' ⟨t,δ,ht,hb,u,γ',rfl,g1,g2⟩;obtain⟨δ',_,g3,_,g4⟩:=hspec t ht;have hδ:δ'=δ:=Option.some.inj (g3.symm.trans hb);subst hδ;exact hn t _ _ u γ' w' ht g4 g1 g2
theorem alg{G:jX}(hE:rD P G Θ Γ w0 M)(h:Rel w0 M T γ st a w)(o:Oper){d:Nat}{p:Prop}{v:AV}{s:St}
 (hc:oper Θ Γ d st o.op=some (p,v,s)) (hp:p) {next:Act->World->Prop} {Q:Exit->Act->World->Prop}
 (hn:∀u γ' w',Rel w0 M T γ' s a w'->aT (aj w0 T γ' s w') v u->next (a.put o.dst u) w'):o.wp P a w next Q:=by
 unfold oper at hc;split at hc
 .next q v' δ hcalm=>
  split at hc
  .next hfr=>cases hc;exact JM hE h o hcalm hp hfr hn
  .cases hc
 .exact afs hE h o hc hp hn
end Go.Fw
namespace Go.Fw
open Go
structure St.more(st s:St):Prop where
 tmps:∀t,st.tmps t=.undef\/s.tmps t=st.tmps t
 ah:∀o x,st.ah o=some x->s.ah o=some x
variable {st s:St} {Θ:jr} {Γ:kR}
theorem KD(h:st.more s)(x:Operand):st.ev x=.undef\/s.ev x=st.ev x:=by
 cases x with
 |tmp t=>exact h.tmps t
 |const v=>exact .inr rfl
 |global g=>exact .inr rfl
 |func f=>exact .inr rfl
theorem bH(h:st.more s){x:Operand}{v:AV}(e:st.ev x=v)(hv:v≠ .undef):s.ev x=v:=by
 rcases KD h x with h1|h1
 .rw[e]at h1;exact absurd h1 hv
 .rw[h1,e]
theorem o7(h:st.more s){x:Operand}{n:Int}(e:uq (st.ev x)=some n):uq (s.ev x)=some n:=by
 rcases KD h x with h1|h1
 .rw[h1]at e;cases e
 .rw[h1];exact e
theorem Z7(h:st.more s):∀(c:CT)(x:Cell)(d:c.den),x.get st c=some d->x.get s c=some d:=by
 intro c x d hg;cases c<;>cases x<;>simp only[Cell.get]at hg ⊢<;>try exact hg
 case sl.ref e r o=>
  split at hg
  .next e' r' l fr ho=>rw[h.ah o _ ho];exact hg
  .cases hg
theorem Y5(h:st.more s):∀(r:ax)(cs:List Cell)(d:r.den),Ai st r cs=some d->Ai s r cs=some d
 |.nil,[],_,hg=>hg
 |.nil,_::_,_,hg=>by simp[Ai]at hg
 |.cons _ _,[],_,hg=>by simp[Ai]at hg
 |.cons c r,x::xs,d,hg=>by
  rw[Ai]at hg ⊢;split at hg
  .next a b ha hb=>rw[Z7 h c x a ha,Y5 h r xs b hb];exact hg
  .cases hg
theorem VJ(h:st.more s)(fs:List (Nat×TypeId)):∀(ps:List (Nat×Operand))(cs ds:List Cell),EZ Θ st fs ps cs=some ds->EZ Θ s fs ps cs=some ds
 |[],_,_,hb=>hb
 |(i,x)::r,cs,ds,hb=>by
  rw[EZ]at hb ⊢;split at hb
  .next off t v hf hev=>
   rw[hf,bH h hev acA];dsimp only;split at hb
   .next ti ht=>
    split at hb
    .next hle=>exact VJ h fs r _ ds hb
    .cases hb
   .cases hb
  .cases hb
theorem Y6(h:st.more s)(r:ax):∀(ps:List (Nat×Operand))(k:Nat)(l:List r.den),DU st r k ps=some l->DU s r k ps=some l
 |[],_,_,hb=>hb
 |(i,x)::ps,k,l,hb=>by
  rw[DU]at hb ⊢;split at hb
  .next v l' hik hev hl=>
   rw[hik,bH h hev acA,Y6 h r ps (k+1) l' hl];dsimp only;split at hb
   .next y hy=>rw[Y5 h r _ y hy];exact hb
   .cases hb
  .cases hb
theorem VK(r:ax):∀(ps:List (Nat×Operand))(k:Nat)(l:List r.den),DU st r k ps=some l->∀x∈ps,∃v,st.ev x.2=.sv v
 |[],_,_,_,x,hx=>afg
 |(i,y)::ps,k,l,hb,x,hx=>by
  rw[DU]at hb;split at hb
  .next v l' hik hev hl=>
   rcases avF.1 hx with rfl|hx
   .exact⟨v,hev⟩
   .exact VK r ps (k+1) l' hl x hx
  .cases hb
theorem PE(h:st.more s):∀(ps:List (Nat×Operand)),(∀x∈ps,∃v,st.ev x.2=.sv v)->mM s ps=mM st ps
 |[],_=>rfl
 |(i,x)::ps,hk=>by obtain⟨v,hv⟩:=hk (i,x) avA;rw[mM,mM,PE h ps (λy hy=>hk y (avy _ hy)),bH h hv acA,hv]
theorem ajx:∀(c:Cell),c.refs=[]->c.fresh s=c.fresh st
 |.int _ _,_|.bool _,_|.str _,_|.nil,_|.sl _ _ _ _,_|.junk,_=>rfl
 |.ref _,h=>agk
theorem aft:∀(cs:List Cell),cs.flatMap Cell.refs=[]->cs.all (Cell.fresh s)=cs.all (Cell.fresh st)
 |[],_=>rfl
 |c::cs,h=>by rw[awG,awj]at h;rw[awH,awH,ajx c h.1,aft cs h.2]
theorem Nz(h:st.more s):∀(ps:List (Nat×Operand)),(∀x∈ps,∃v,st.ev x.2=.sv v)->mM st ps=[]->nI s ps=nI st ps
 |[],_,_=>rfl
 |(i,x)::ps,hk,hr=>by obtain⟨v,hv⟩:=hk (i,x) avA;rw[mM,awj,hv]at hr;rw[nI,nI,Nz h ps (λy hy=>hk y (avy _ hy)) hr.2,bH h hv acA,hv];dsimp only;rw[aft v.cells hr.1]
theorem ams(h:st.more s):∀(c:Cell),c.ok st=true->c.view s=c.view st/\c.ok s=true
 |.int _ _,_|.bool _,_|.str _,_|.nil,_|.sl _ _ _ _,_|.junk,_=>⟨rfl,rfl⟩
 |.ref o,hk=>by
  simp only[Cell.ok]at hk;split at hk
  .next e r l fr ho=>exact⟨by simp only[Cell.view,ho,h.ah o _ ho],by simp only[Cell.ok,h.ah o _ ho]⟩
  .cases hk
theorem JS(h:st.more s):∀(cs:List Cell),cs.all (Cell.ok st)=true->cs.map (Cell.view s)=cs.map (Cell.view st)/\cs.all (Cell.ok s)=true
 |[],_=>⟨rfl,rfl⟩
 |c::cs,hk=>by rw[awH,avo]at hk;obtain⟨h1,h2⟩:=ams h c hk.1;obtain⟨h3,h4⟩:=JS h cs hk.2;exact⟨by rw[avK,avK,h1,h3],by rw[awH,h2,h4];rfl⟩
theorem ajy(h:st.more s)(v:SV)(hk:v.cells.all (Cell.ok st)=true):v.view s=v.view st/\v.cells.all (Cell.ok s)=true:=by
 obtain⟨h1,h2⟩:=JS h v.cells hk;refine⟨?_,h2⟩;cases v with
 |one c=>simp only[SV.cells,avK,ayl,List.cons.injEq,ayB]at h1;simp only[SV.view,h1]
 |agg cs=>simp only[SV.cells]at h1;simp only[SV.view,h1]
theorem AB(h:st.more s):∀(xs:List AV)(vs:List Arg),oZ st xs=some vs->oZ s xs=some vs
 |[],_,hv=>hv
 |x::xs,vs,hv=>by
  unfold oZ at hv ⊢;split at hv
  .next v us hu=>
   rw[AB h xs us hu];split at hv
   .next hk=>obtain⟨h1,h2⟩:=ajy h v hk;dsimp only;rw[h2,h1];exact hv
   .cases hv
  .next cs off us hu=>
   rw[AB h xs us hu];split at hv
   .next hk=>rw[avo]at hk;obtain⟨h1,h2⟩:=JS h cs hk.2;dsimp only;rw[hk.1,h2,h1];exact hv
   .cases hv
  .next f caps us hu=>
   rw[AB h xs us hu];split at hv
   .next hk=>
    have key:∀(caps:List (List Cell)),caps.all (List.all · (Cell.ok st))=true->caps.map (List.map (Cell.view s))=caps.map (List.map (Cell.view st))/\caps.all (List.all · (Cell.ok s))=true:=by
     intro caps
     induction caps with
     |nil=>intro _;exact⟨rfl,rfl⟩
     |cons cs l ih=>intro hk;rw[awH,avo]at hk;obtain⟨h1,h2⟩:=JS h cs hk.1;obtain⟨h3,h4⟩:=ih hk.2;exact⟨by rw[avK,avK,h1,h3],by rw[awH,h2,h4];rfl⟩
    obtain⟨h1,h2⟩:=key caps hk;dsimp only;rw[h2,h1];exact hv
   .cases hv
  .cases hv
theorem F8:∀(xs:List AV)(vs:List Arg),oZ st xs=some vs->∀x∈xs,x≠ .undef
 |[],_,_,x,hx=>afg
 |y::xs,vs,hv,x,hx=>by
  unfold oZ at hv;split at hv
  .next v us hu=>
   rcases avF.1 hx with rfl|hx
   .simp
   .exact F8 xs us hu x hx
  .next cs off us hu=>
   rcases avF.1 hx with rfl|hx
   .simp
   .exact F8 xs us hu x hx
  .next f caps us hu=>
   rcases avF.1 hx with rfl|hx
   .simp
   .exact F8 xs us hu x hx
  .cases hv
theorem OA(h:st.more s)(caps:List (List Cell)):∀(xs:List Operand),(∀x∈handed st xs caps,x≠ .undef)->handed s xs caps=handed st xs caps
 |[],_=>rfl
 |x::xs,hk=>by have h1:s.ev x=st.ev x:=bH h rfl (hk _ avA);have h2:=OA h caps xs λy hy=>hk y (avy _ hy);show s.ev x::handed s xs caps=st.ev x::handed st xs caps;rw[h1,h2]
theorem Y7(h:st.more s):∀(xs:List Operand)(l:List (List Cell)),heldBy st xs=some l->heldBy s xs=some l
 |[],_,hl=>hl
 |x::xs,l,hl=>by
  rw[heldBy]at hl ⊢;split at hl
  .next cs off l' hx hl'=>rw[bH h hx acA,Y7 h xs l' hl'];exact hl
  .cases hl
theorem Rj(h:st.more s)(len:Nat)(lo hi:Option Operand){r:Prop×Nat×Nat}(hb:mO st len lo hi=some r):mO s len lo hi=some r:=by
 cases lo<;>cases hi<;>simp only[mO]at hb ⊢
 .exact hb
 .split at hb
  .next b e=>rw[o7 h e];exact hb
  .cases hb
 .split at hb
  .next b e=>rw[o7 h e];exact hb
  .cases hb
 .split at hb
  .next b c e1 e2=>rw[o7 h e1,o7 h e2];exact hb
  .cases hb
def AV.less(v v':AV):Prop:=v=.undef\/v'=v
theorem ajz(h:st.more s){n room:Nat}{lo hi:Option Operand}{r:Prop×Nat×Nat}(hb:Vr st n room lo hi=some r):Vr s n room lo hi=some r:=by cases hi<;>simp only[Vr]at hb ⊢<;>exact Rj h _ _ _ hb
theorem amu(h:st.more s)(d:Nat)(o:Op){p:Prop}{v:AV}{δ:List (Nat×aB)}(hc:calm Θ Γ d st o=some (p,v,δ)):
 ∃v',calm Θ Γ d s o=some (p,v',δ)/\v.less v':=by
 have same:∀{r:Option (Prop×AV×List (Nat×aB))},r=some (p,v,δ)->calm Θ Γ d s o=r->∃v',calm Θ Γ d s o=some (p,v',δ)/\v.less v':=
  λh1 h2=>⟨v,h2.trans h1,.inr rfl⟩
 cases o<;>try (simp only[calm,reduceCtorEq]at hc;done)
 case move x=>simp only[calm]at hc ⊢;cases hc;exact⟨_,rfl,KD h x⟩
 case assign x=>simp only[calm]at hc ⊢;cases hc;exact⟨_,rfl,KD h x⟩
 case pick c x y=>
  simp only[calm]at hc ⊢;split at hc
  .next g hg=>
   cases hc;rw[bH h hg acA];refine⟨_,rfl,?_⟩;cases g
   .exact KD h y
   .exact KD h x
  .cases hc
 case nilCheck x=>
  simp only[calm]at hc ⊢;split at hc
  .next a b e=>rw[bH h e acA];exact⟨v,hc,.inr rfl⟩
  .next a b c e=>rw[bH h e acA];exact⟨v,hc,.inr rfl⟩
  .next a b c d e=>rw[bH h e acA];exact⟨v,hc,.inr rfl⟩
  .next a b e=>rw[bH h e acA];exact⟨v,hc,.inr rfl⟩
  .next a b e=>rw[bH h e acA];exact⟨v,hc,.inr rfl⟩
  .cases hc
 case makeFunc fn first captured=>
  cases fn<;>try (simp only[calm,reduceCtorEq]at hc;done)
  case func f=>
   simp only[calm]at hc ⊢;split at hc
   .next l hfirst hl=>rw[Y7 h _ _ hl,hfirst];exact⟨v,hc,.inr rfl⟩
   .cases hc
 case alloc t=>exact⟨v,hc,.inr rfl⟩
 case box t x=>
  simp only[calm]at hc ⊢;split at hc
  .next a e=>rw[bH h e acA];exact⟨v,hc,.inr rfl⟩
  .cases hc
 case build t parts=>
  simp only[calm]at hc ⊢;split at hc
  .next ti ht=>
   split at hc
   .next fs hk=>
    split at hc
    .next cs hb=>rw[VJ h _ _ _ _ hb];exact⟨v,hc,.inr rfl⟩
    .cases hc
   .cases hc
  .cases hc
 case buildSlice t len parts=>
  simp only[calm]at hc ⊢;split at hc
  .next ti ht=>
   split at hc
   .next e hk=>
    split at hc
    .next te he=>
     split at hc
     .next l hb hrefs hrows=>have hkn:=VK _ _ _ _ hrows;rw[hb,PE h _ hkn,hrefs,Y6 h _ _ _ _ hrows,Nz h _ hkn hrefs];exact⟨v,hc,.inr rfl⟩
     .cases hc
    .cases hc
   .cases hc
  .cases hc
 case makeSlice t x y=>
  simp only[calm]at hc ⊢;split at hc
  .next ti n c ht hn hcc=>rw[ht,o7 h hn,o7 h hcc];exact⟨v,hc,.inr rfl⟩
  .cases hc
 case load t x=>
  simp only[calm]at hc ⊢;split at hc
  .next ti o off ht he=>
   rw[ht,bH h he acA];split at hc
   .next cs ho=>dsimp only;rw[h.ah o _ ho];exact⟨v,hc,.inr rfl⟩
   .cases hc
  .next ti o i off ht he=>
   rw[ht,bH h he acA];split at hc
   .next e r l fr ho=>dsimp only;rw[h.ah o _ ho];exact⟨v,hc,.inr rfl⟩
   .cases hc
  .next ti r y off fr ht he=>rw[ht,bH h he acA];exact⟨v,hc,.inr rfl⟩
  .next ti cs off ht he=>rw[ht,bH h he acA];exact⟨v,hc,.inr rfl⟩
  .cases hc
 case fieldAddr t x f=>
  simp only[calm]at hc ⊢;split at hc
  .next ti ht=>
   split at hc
   .next fs hk=>
    split at hc
    .next k t hf=>
     split at hc
     .next te hte=>
      split at hc
      .cases hc
      .next a b e hne=>rw[bH h e acA];cases hcell:te.cells with|nil=>exact(hne hcell).elim|cons _ _=>exact⟨v,hc,.inr rfl⟩
      .next a b c e hne=>rw[bH h e acA];cases hcell:te.cells with|nil=>exact(hne hcell).elim|cons _ _=>exact⟨v,hc,.inr rfl⟩
      .next a b c d e hne=>rw[bH h e acA];cases hcell:te.cells with|nil=>exact(hne hcell).elim|cons _ _=>exact⟨v,hc,.inr rfl⟩
      .next a b e hne=>rw[bH h e acA];cases hcell:te.cells with|nil=>exact(hne hcell).elim|cons _ _=>exact⟨v,hc,.inr rfl⟩
      .cases hc
     .cases hc
    .cases hc
   .cases hc
  .cases hc
 case field t x f=>
  simp only[calm]at hc ⊢;split at hc
  .next ti ht=>
   split at hc
   .next fs hk=>
    split at hc
    .next k t cs hf e=>rw[hf,bH h e acA];exact⟨v,hc,.inr rfl⟩
    .cases hc
   .cases hc
  .cases hc
 case indexAddr t x ix=>
  simp only[calm]at hc ⊢;split at hc
  .next ti n ht hn=>
   rw[ht,o7 h hn]
   try dsimp only
   split at hc
   .next e hk=>
    split at hc
    .next te e' r l fr he hev=>rw[he,bH h hev acA];exact⟨v,hc,.inr rfl⟩
    .next te o he hev=>
     rw[he,bH h hev acA]
     try dsimp only
     split at hc
     .next a b c d ho=>rw[h.ah o _ ho];exact⟨v,hc,.inr rfl⟩
     .cases hc
    .next te he hev=>rw[he,bH h hev acA];exact⟨v,hc,.inr rfl⟩
    .cases hc
   .cases hc
  .cases hc
 case index t x ix=>
  simp only[calm]at hc ⊢;split at hc
  .next ti n b ht hn hev=>rw[ht,o7 h hn,bH h hev acA];exact⟨v,hc,.inr rfl⟩
  .cases hc
 case binOp op t x y t'=>
  simp only[calm]at hc ⊢;split at hc
  .next a b e1 e2=>rw[bH h e1 acA,bH h e2 acA];exact⟨v,hc,.inr rfl⟩
  .next a b e1 e2=>rw[bH h e1 acA,bH h e2 acA];exact⟨v,hc,.inr rfl⟩
  .cases hc
 case unOp op t x=>
  simp only[calm]at hc ⊢;split at hc
  .next b e=>rw[bH h e acA];exact⟨v,hc,.inr rfl⟩
  .next k n e=>rw[bH h e acA];exact⟨v,hc,.inr rfl⟩
  .cases hc
 case convert a b x=>
  simp only[calm]at hc ⊢;split at hc
  .next ts td c hs hd e=>
   rw[hs,hd,bH h e acA]
   try dsimp only
   split at hc
   .cases hc
   .next hagg=>
    rw[if_neg hagg];split at hc
    .exact⟨v,hc,.inr rfl⟩
    .exact⟨v,hc,.inr rfl⟩
    .exact⟨v,hc,.inr rfl⟩
    .next e' c' e1 e2=>
     split at hc
     .next l te hl hte=>rw[Z7 h _ _ _ hl,hte];exact⟨v,hc,.inr rfl⟩
     .cases hc
    .cases hc
  .cases hc
 case extract x i=>
  simp only[calm]at hc ⊢;split at hc
  .next a e=>rw[bH h e acA];exact⟨v,hc,.inr rfl⟩
  .cases hc
 case slice t x lo hi mx=>
  cases mx with
  |some m=>
   cases lo with
   |none=>simp only[calm,reduceCtorEq]at hc
   |some lo=>
    cases hi with
    |none=>simp only[calm,reduceCtorEq]at hc
    |some hi=>
     simp only[calm]at hc ⊢;split at hc
     .next ti o ht e=>
      rw[ht,bH h e acA]
      try dsimp only
      split at hc
      .next f e' r l fr hk ho=>
       split at hc
       .next te n1 n2 n3 he h1 h2 h3=>rw[hk,h.ah o _ ho];dsimp only;rw[he,o7 h h1,o7 h h2,o7 h h3];exact⟨v,hc,.inr rfl⟩
       .cases hc
      .cases hc
     .cases hc
  |none=>
   simp only[calm]at hc ⊢;split at hc
   .next ti b ht e=>
    rw[ht,bH h e acA]
    try dsimp only
    split at hc
    .next p' x' y' hk hb=>rw[hk,Rj h _ _ _ hb];exact⟨v,hc,.inr rfl⟩
    .cases hc
   .next ti e' r l fr ht e=>
    rw[ht,bH h e acA]
    try dsimp only
    split at hc
    .next f p' x' y' hk hb=>rw[hk,Rj h _ _ _ hb];exact⟨v,hc,.inr rfl⟩
    .cases hc
   .next ti ht e=>
    rw[ht,bH h e acA]
    try dsimp only
    split at hc
    .next f p' x' y' hk hb=>rw[hk,Rj h _ _ _ hb];exact⟨v,hc,.inr rfl⟩
    .cases hc
   .next ti o zy n0 ht e=>
    rw[ht,bH h e acA]
    try dsimp only
    split at hc
    .next f e' r l fr hk ho=>
     split at hc
     .next te p' x' y' he hb=>rw[hk,h.ah o _ ho];dsimp only;rw[he,ajz h hb];exact⟨v,hc,.inr rfl⟩
     .cases hc
    .cases hc
   .cases hc
 case call c=>
  obtain⟨callee,args,pV⟩:=c;cases callee with
  |invoke r m=>simp only[calm,reduceCtorEq]at hc
  |builtin b=>
   cases b<;>try (simp only[calm,reduceCtorEq]at hc;done)
   case len=>
    simp only[calm]at hc ⊢;split at hc
    .next x t hargs KZ=>
     split at hc
     .next ti c ht e=>
      rw[ht,bH h e acA]
      try dsimp only
      split at hc
      .next b hk=>exact⟨v,hc,.inr rfl⟩
      .next a b c d e hk=>exact⟨v,hc,.inr rfl⟩
      .next a hk=>exact⟨v,hc,.inr rfl⟩
      .next a o hk=>
       split at hc
       .next e' r l fr ho=>rw[h.ah o _ ho];exact⟨v,hc,.inr rfl⟩
       .cases hc
      .cases hc
     .next ti o lo n ht e=>rw[ht,bH h e acA];exact⟨v,hc,.inr rfl⟩
     .cases hc
    .cases hc
   case min=>
    simp only[calm]at hc ⊢;split at hc
    .next x y hargs=>
     split at hc
     .next a b c d e1 e2=>rw[bH h e1 acA,bH h e2 acA];exact⟨v,hc,.inr rfl⟩
     .cases hc
    .cases hc
   case max=>
    simp only[calm]at hc ⊢;split at hc
    .next x y hargs=>
     split at hc
     .next a b c d e1 e2=>rw[bH h e1 acA,bH h e2 acA];exact⟨v,hc,.inr rfl⟩
     .cases hc
    .cases hc
  |value x=>
   simp only[calm]at hc ⊢;split at hc
   .next f caps hx=>
    rw[bH h hx acA];dsimp only;split at hc
    .next con vs hcon hargs=>rw[hcon,OA h caps _ (F8 _ _ hargs),AB h _ _ hargs];exact⟨v,hc,.inr rfl⟩
    .cases hc
   .cases hc
end Go.Fw
namespace Go.Fw
open Go
variable {P:Program} {w0:World} {M:Nat->Prop} {T:Ext} {γ γ':Nat->Value} {st:St} {a:Act} {w w':World} {Θ:jr} {Γ:kR}
def numOf(st:St)(o:Oper):Nat:=match o.dst with|some d=>d|none=>st.n
def apj(d o:Nat):Bool:=Nat.beq (o / 64) d
def aqz(d o:Nat):Bool:=Nat.beq (o / 64) d&&!(Nat.beq (o%64) 0)
def makes:Op->Bool
 |.alloc _|.box _ _|.buildSlice _ _ _|.makeSlice _ _ _=>true
 |.call {callee:=.value _,.. }=>true
 |_=>false
def ahI:Op->Bool
 |.buildSlice _ _ _|.makeSlice _ _ _=>true
 |.call {callee:=.value _,.. }=>true
 |_=>false
def alh(Θ:jr)(Γ:kR)(d:Nat)(st:St)(op:Op):Option (Prop×AV×St):=
 match oper Θ Γ d st op with
 |some r=>some r
 |none=>match makes op with
  |true=>oper Θ Γ d (st.kill (apj d)) op
  |false=>none
def quiet(st:St):Op->Bool
 |.move _|.assign _|.nilCheck _|.pick _ _ _|.alloc _|.box _ _|.build _ _|.buildSlice _ _ _|.fieldAddr _ _ _|.field _ _ _|.unOp _ _ _|.convert _ _ _|.extract _ _|.makeFunc _ _ _=>true
 |.call {callee:=.builtin .len,.. }|.call {callee:=.builtin .min,.. }|.call {callee:=.builtin .max,.. }=>true
 |.load _ p=>match st.ev p with|.nT _ _ _=>false|_=>true
 |.store _ p _=>match st.ev p with|.bM _ _=>true|_=>false
 |.binOp op _ x _ _=>match op with
  |.quo|.rem|.shl|.shr=>false
  |.add=>match st.ev x with|.sv (.one (.str _))=>false|_=>true
  |_=>true
 |_=>false
theorem ahJ{op:BinOp}{k:IntKind}{x y:Int}{p:Prop}{c:Cell}(h:Pm op k x y=some (p,c))(h1:op≠ .quo)(h2:op≠ .rem):p:=by cases op<;>simp only[Pm,reduceCtorEq]at h<;>first|(cases h;trivial)|exact(h1 rfl).elim|exact(h2 rfl).elim
theorem ahK{op:BinOp}{x y:Bytes}{p:Prop}{c:Cell}(h:Vp op x y=some (p,c))(h1:op≠ .add):p:=by cases op<;>simp only[Vp,reduceCtorEq]at h<;>first|(cases h;trivial)|exact(h1 rfl).elim
theorem agt{op:BinOp}{x y:Cell}{p:Prop}{c:Cell}(h:Pn op x y=some (p,c))(h1:op≠ .quo)(h2:op≠ .rem)(h3:op≠ .shl)(h4:op≠ .shr)
 (h5:op=.add->∀s,x≠ .str s):p:=by
 unfold Pn at h;split at h
 .split at h
  .exact(h3 rfl).elim
  .exact(h4 rfl).elim
  .split at h
   .exact ahJ h h1 h2
   .cases h
 .exact ahK h λe=>h5 e _ rfl
 .split at h
  .cases h;trivial
  .cases h;trivial
  .cases h
 .cases h
theorem Rk{d:Nat}{op:Op}{p:Prop}{v:AV}{δ:List (Nat×aB)}(hc:calm Θ Γ d st op=some (p,v,δ))(hq:quiet st op=true):p:=by
 cases op<;>try (simp only[calm,reduceCtorEq]at hc;done)
 case binOp op t x y t'=>
  simp only[calm]at hc;split at hc
  .next a b e1 e2=>
   split at hc
   .split at hc
    .next q c hb=>
     cases hc;refine agt hb ?_ ?_ ?_ ?_ ?_
     .rintro rfl;simp[quiet]at hq
     .rintro rfl;simp[quiet]at hq
     .rintro rfl;simp[quiet]at hq
     .rintro rfl;simp[quiet]at hq
     .rintro rfl s rfl;simp[quiet,e1]at hq
    .cases hc
   .cases hc
  .split at hc
   .split at hc
    .split at hc
     .cases hc;trivial
     .cases hc
    .split at hc
     .cases hc;trivial
     .cases hc
    .cases hc
   .cases hc
  .cases hc
 case load t x=>
  simp only[calm]at hc;split at hc
  .split at hc
   .split at hc
    .cases hc;trivial
    .cases hc
   .cases hc
  .next e=>simp[quiet,e]at hq
  .split at hc
   .cases hc;trivial
   .cases hc
  .split at hc
   .cases hc;trivial
   .cases hc
  .cases hc
 case call c=>
  obtain⟨callee,args,pV⟩:=c;cases callee with
  |invoke r m=>simp only[calm,reduceCtorEq]at hc
  |builtin b=>
   cases b<;>first
    |(simp only[calm,reduceCtorEq]at hc;done)
    |(simp only[calm]at hc
      repeat' (first|(cases hc;done)|(cases hc;trivial)|(split at hc)))
  |value x=>simp[quiet]at hq
 all_goals first
  |(simp[quiet]at hq;done)
  |(simp only[calm]at hc
    repeat' (first|(cases hc;done)|(cases hc;trivial)|(split at hc)))
theorem ajA{pt:AV}{v:SV}{q:Prop}{s:St}(h:store st pt v=some (q,s))(hv:∀o i off,pt≠ .nT o i off):q:=by
 unfold store at h;split at h
 .split at h
  .split at h
   .cases h;trivial
   .cases h
  .cases h
 .exact(hv _ _ _ rfl).elim
 .cases h
theorem amv{d:Nat}{op:Op}{p:Prop}{v:AV}{s:St}(hc:eff Θ Γ d st op=some (p,v,s))(hq:quiet st op=true):p:=by
 cases op<;>try (simp only[eff,reduceCtorEq]at hc;done)
 case store t pt x=>
  simp only[eff]at hc;split at hc
  .split at hc
   .split at hc
    .next q s' hs=>
     cases hc;refine ajA hs ?_;intro o i off e;cases hp:st.ev pt<;>rw[hp]at e<;>simp only[AV.freeze,reduceCtorEq]at e
     .split at e<;>cases e
     .simp[quiet,hp]at hq
     .split at e<;>cases e
    .cases hc
   .cases hc
  .cases hc
 case buildSlice t n parts=>
  simp only[eff]at hc;split at hc
  .next q v' δ hcalm=>
   split at hc
   .cases hc;exact Rk hcalm rfl
   .cases hc
  .cases hc
 case slice t x lo hi mx=>simp[quiet]at hq
 case call c=>
  obtain⟨callee,args,pV⟩:=c;cases callee with
  |invoke r m=>simp only[eff,reduceCtorEq]at hc
  |builtin b=>cases b<;>first|(simp only[eff,reduceCtorEq]at hc;done)|(simp[quiet]at hq;done)
  |value x=>simp[quiet]at hq
theorem aby{d:Nat}{op:Op}{p:Prop}{v:AV}{s:St}(hc:oper Θ Γ d st op=some (p,v,s))(hq:quiet st op=true):p:=by
 unfold oper at hc;split at hc
 .next q v' δ hcalm=>
  split at hc
  .cases hc;exact Rk hcalm hq
  .cases hc
 .exact amv hc hq
def arE:Op->Bool|.box _ _=>true|_=>false
def akh(own:Nat->Bool)(d:Nat)(o:Oper)(v:AV)(s:St):St:=
 match ahI o.op&&!(own d)&&((s.ah (d*64+1)).isSome||(s.ah (d*64+2)).isSome||(s.ah (d*64+3)).isSome)with
 |true=>(s.put o.dst v).freeze (aqz d)
 |false=>s.put o.dst v
def AV.fixed(o:Nat)(cs:List Cell):AV->AV
 |.bM p off=>match Nat.beq o p with|true=>.fF (cs.map (Cell.kill (Nat.beq o ·))) off|false=>.bM p off
 |v=>v.kill (Nat.beq o ·)
def St.fix(st:St)(o:Nat):St:=
 match st.ah o with
 |some (.var cs)=>{st.kill (Nat.beq o ·)with tmps:=λt=>(st.tmps t).fixed o cs}
 |_=>st
theorem Rel.fix(h:Rel w0 M T γ st a w)(o:Nat):Rel w0 M T γ (st.fix o) a w:=by
 unfold St.fix;split
 .next cs ho=>
  have hk:=h.kill (Nat.beq o ·);refine⟨hk.mT,hk.defers,hk.size,hk.os,hk.tape,hk.output,hk.grow,hk.kept,λt=>?_,hk.ah,hk.lt,hk.sep,hk.pin⟩;have hv:=h.tmps t;have hkv:=aT.kill (Nat.beq o ·) h _ _ hv;show aT (aj w0 T γ (st.kill (Nat.beq o ·)) w) ((st.tmps t).fixed o cs) _;cases hst:st.tmps t with
  |bM p off=>
   rw[hst]at hv hkv;simp only[AV.fixed];cases hb:Nat.beq o p with
   |false=>simp only[AV.kill,hb]at hkv;exact hkv
   |true=>
    have hop:=avs hb;subst hop;obtain⟨b,cs',_,hγ,hval⟩:=hv;obtain⟨b',arr,t',Px,hh,hr⟩:=h.ah o _ ho;have hbb:b'=b:=by have h1:γ o=.pointer (some ⟨b,0,none⟩):=hγ;have h2:γ o=.pointer (some ⟨b',0,none⟩):=Px;rw[h1]at h2;simpa using h2.symm
    subst hbb;have hbl:blk (γ o)=some b':=by have h2:γ o=.pointer (some ⟨b',0,none⟩):=Px;rw[h2];rfl
    refine⟨b',hval,arr,t',(0,0),⟨(h.lt o _ b' ho hbl).1,λhlt=>h.mT b' ((h.lt o _ b' ho hbl).2.resolve_left (by have hlt':b'<w0.heap.size:=hlt;omega)),λq y hq=>?_⟩,hh,ai.kill _ h cs _ hr⟩;obtain⟨z,hz,_,hqS⟩:=wR (Nat.beq o ·) hq;exact h.sep o _ q z b' ho hz (λe=>by rw[← e]at hqS;simp at hqS) hbl
  |_=>rw[hst]at hkv;exact hkv
 .exact h
def land(own:Nat->Bool)(d:Nat)(o:Oper)(v:AV)(s:St):St:=
 match arE o.op&&!(own d)with
 |true=>(s.put o.dst v).fix (d*64)
 |false=>akh own d o v s
def XR(st:St)(o:Oper):Bool:=match o.dst with|some d=>Nat.blt d st.n|none=>true
def roomy(d:Nat)(st:St):St:=
 match (st.ah (d*64)).isSome||(st.ah (d*64+1)).isSome||(st.ah (d*64+2)).isSome||(st.ah (d*64+3)).isSome with
 |true=>st.kill (apj d)
 |false=>st
def amw(Γ:kR)(d:Nat)(st:St)(op:Op):Option (Prop×Jr×List (Option Nat)×St):=
 match abp Γ (roomy d st) op with
 |some r=>some r
 |none=>abp Γ st op
def amx:BinOp->Option Bool
 |.eql=>some false
 |.neq=>some true
 |_=>none
def abz:Bool->Bool->Bool
 |true,g=>!g
 |false,g=>g
def aki(st:St):AV->Option (Bool->Prop)
 |.sv (.one (.sl _ _ l _))=>some λg=>g=true->l.length=0
 |.sv (.one (.ref o))=>match st.ah o with
  |some (.arr _ _ l _)=>some λg=>g=true->l.length=0
  |_=>none
 |.sv (.one .nil)=>some λg=>g=true
 |_=>none
def apk(Θ:jr)(st:St)(t:TypeId)(x:Operand)(s:Option Bool):Option (Bool×(Bool->Prop)):=match s,Θ t with
 |some neg,some ti=>match ti.kind with
  |.slice _=>match aki st (st.ev x)with
   |some R=>some (neg,R)
   |none=>none
  |_=>none
 |_,_=>none
def ali(Θ:jr)(st:St):Op->Option (Bool×(Bool->Prop))
 |.binOp op t x (.const (.slice none 0 0)) _=>apk Θ st t x (amx op)
 |_=>none
def ahL(Θ:jr)(Γ:kR)(own:Nat->Bool)(o:Oper)(K:St->Prop)(st:St):Prop:=
 match XR st o with
 |true=>match amw Γ (numOf st o) st o.op with
  |some (p,ρ,os,s0)=>p/\∀t,ρ.R t->match QZ (numOf st o) s0 os (ρ.out t) (ρ.aH t)with
   |some (v,s)=>K (land own (numOf st o) o v s)
   |none=>False
  |none=>match ali Θ st o.op with
   |some (neg,R)=>∀g:Bool,R g->K (land own (numOf st o) o (.sv (.one (.bool (abz neg g)))) st)
   |none=>match alh Θ Γ (numOf st o) st o.op,quiet st o.op with
    |some (p,v,s),q=>match q with
     |true=>K (land own (numOf st o) o v s)
     |false=>p/\K (land own (numOf st o) o v s)
    |none,_=>False
 |false=>False
def guarded(ops:List Oper)(o:Oper)(one:St->Prop)(skip:St->Prop)(st:St):Prop:=
 match o.guard with
 |none=>one st
 |some (g,b)=>match ops[g]? with
  |some og=>match og.dst with
   |some t=>match XR st o,Nat.blt t st.n,st.tmps t with
    |true,true,.sv (.one (.bool x))=>cond x
     (match b with|true=>one (st.set t (.sv (.one (.bool true))))|false=>skip ((st.set t (.sv (.one (.bool true)))).put o.dst (.mJ [])))
     (match b with|false=>one (st.set t (.sv (.one (.bool false))))|true=>skip ((st.set t (.sv (.one (.bool false)))).put o.dst (.mJ [])))
    |true,true,.mJ _=>skip (st.put o.dst (.mJ []))
    |_,_,_=>False
   |none=>False
  |none=>False
def runs(Θ:jr)(Γ:kR)(own:Nat->Bool)(ops:List Oper)(K:St->Prop):List Oper->St->Prop
 |[],st=>K st
 |o::r,st=>guarded ops o (ahL Θ Γ own o (runs Θ Γ own ops K r)) (runs Θ Γ own ops K r) st
theorem set_self{t:Nat}{v:AV}(h:st.tmps t=v):st.set t v=st:=by
 cases st with
 |mk n tm ob=>
  simp only[St.set,St.mk.injEq,axZ,ayB]
  funext x
  cases hb:Nat.beq x t with
  |true=>rw[avs hb];exact h.symm
  |false=>rfl
theorem amy{G:jX}(hE:rD P G Θ Γ w0 M)(h:Rel w0 M T γ st a w)(o:Oper){neg:Bool}{R:Bool->Prop}(hc:ali Θ st o.op=some (neg,R)){next:Act->World->Prop}{Q:Exit->Act->World->Prop}
 (hn:∀g:Bool,R g->next (a.put o.dst (.bool (abz neg g))) w):o.wp P a w next Q:=by
 unfold ali at hc;split at hc
 case h_2=>cases hc
 next op t x _ hop=>
 unfold apk at hc;split at hc
 case h_2=>cases hc
 next auW ti hs ht=>
 split at hc
 case h_2=>cases hc
 next e hk=>
 split at hc
 case h_2=>cases hc
 next R' hR=>
 cases hc;have hu:P.underlying t=some (.slice e):=by have:=(hE.types t ti ht).und;rw[hk]at this;exact this.1
 have hop':op=.eql/\neg=false\/op=.neq/\neg=true:=by cases op<;>simp[amx]at hs<;>simp[hs]
 have run:∀(ad:Option Addr)(n c:Nat),a.eval x=.slice ad n c->R ad.isNone->o.wp P a w next Q:=by
  intro ad n c hx hR;have hev:a.eval (.const (.slice none 0 0))=.slice none 0 0:=rfl;refine Oper.mD (u:=.bool (abz neg ad.isNone)) (w':=w) ?_ (hn _ hR);have hs:execOp a.eval o=(do pure (Next.value (← (do eqGuard op t x (.const (.slice none 0 0)) (a.eval x) (a.eval (.const (.slice none 0 0)));binOp op t (a.eval x) (a.eval (.const (.slice none 0 0))))))):=agl;rw[hs];refine Pv ?_;rw[hx,hev];rcases hop' with⟨rfl,rfl⟩|⟨rfl,rfl⟩
  .have hg:(eqGuard .eql t x (.const (.slice none 0 0)) (.slice ad n c) (.slice none 0 0)).run P w=.ok () w:=by simp[eqGuard]
   rw[avQ,hg];exact Lib.run_eql_slice_nil w t e ad n c 0 0 hu
  .have hg:(eqGuard .neq t x (.const (.slice none 0 0)) (.slice ad n c) (.slice none 0 0)).run P w=.ok () w:=by simp[eqGuard]
   rw[avQ,hg];exact run_neq_slice_nil_any w t e ad n c 0 0 hu
 unfold aki at hR;split at hR
 .next ee rr l _ hx=>
  cases hR;have hv:=oz h hx;obtain⟨ad,c,hv1,_⟩:=ahl hv;refine run ad l.length c hv1 λhnone=>?_;have hv':cZ w.heap _ (.sl ee rr) (a.eval x) l:=hv;rw[cZ]at hv';rcases hv'.2 with⟨hl,_⟩|⟨b,off,cap,cs,t',fz,hv2,_⟩
  .rw[hl];rfl
  .rw[hv1]at hv2;cases hv2;cases hnone
 .next o' hx=>
  split at hR
  .next _ _ l _ ho=>
   cases hR;have hv:=oz h hx;obtain⟨ad,c,hv1,_⟩:=akc h hv ho;refine run ad l.length c hv1 λhnone=>?_;obtain⟨_,hv2,_⟩:=hv;obtain⟨xs,hown,hr,_⟩:=h.ah o' _ ho;obtain⟨_,hown⟩:=hown;have hv2:a.eval x=γ o':=hv2;rw[hv1]at hv2;rcases hown with⟨_,hl⟩|⟨g,cap,cur,hg,_⟩
   .omega
   .have hg:γ o'=_:=hg;rw[hg]at hv2;cases hv2;cases hnone
  .cases hR
 .next hx=>cases hR;have hv:a.eval x=.slice none 0 0:=oz h hx;exact run none 0 0 hv rfl
 .cases hR
theorem ahM{G:jX}(hE:rD P G Θ Γ w0 M){own:Nat->Bool}{o:Oper}{K:St->Prop}(h:Rel w0 M T γ st a w)(hr:ahL Θ Γ own o K st)
 {next:Act->World->Prop} {Q:Exit->Act->World->Prop} (hn:∀s γ' a' w',K s->Rel w0 M T γ' s a' w'->next a' w'):o.wp P a w next Q:=by
 unfold ahL at hr;split at hr
 .next hd=>
  have alj:∀(s:St)(v:AV)(u:Value)(γ':Nat->Value)(w':World),Rel w0 M T γ' s a w'->aT (aj w0 T γ' s w') v u->K (land own (numOf st o) o v s)->next (a.put o.dst u) w':=by
   intro s v u γ' w' hR hv hK;have hsz:s.n=st.n:=by rw[← hR.size,h.size]
   have hput:Rel w0 M T γ' (s.put o.dst v) (a.put o.dst u) w':=by
    cases hdst:o.dst with
    |none=>exact hR
    |some d=>rw[XR,hdst]at hd;refine hR.set d ?_ v u hv;rw[hsz];simpa[ax4]using hd
   unfold land at hK;split at hK
   .exact hn _ γ' _ _ hK (hput.fix _)
   .unfold akh at hK;split at hK
    .exact hn _ γ' _ _ hK (hput.freeze _)
    .exact hn _ γ' _ _ hK hput
  have main:∀(st1:St)(_:Rel w0 M T γ st1 a w)(_:st1.n=st.n)(p:Prop)(v:AV)(s:St),oper Θ Γ (numOf st o) st1 o.op=some (p,v,s)->p->K (land own (numOf st o) o v s)->o.wp P a w next Q:=by intro st1 h1 hn1 p v s hop hp hK;exact alg hE h1 o hop hp λu γ' w' hR hv=>alj s v u γ' w' hR hv hK
  have aqA:∀(st1:St)(_:Rel w0 M T γ st1 a w)(p:Prop)(ρ:Jr)(os:List (Option Nat))(s0:St),abp Γ st1 o.op=some (p,ρ,os,s0)->
   (p/\∀t,ρ.R t->match QZ (numOf st o) s0 os (ρ.out t) (ρ.aH t)with|some (v,s)=>K (land own (numOf st o) o v s)|none=>False)->o.wp P a w next Q:=by
   intro st1 h1 p ρ os s0 hrel ⟨hp,hall⟩;refine amr hE h1 o (d:=numOf st o) hrel hp (λt ht=>?_) λt v s u γ' w' ht hs hR hv=>?_
   .have:=hall t ht;split at this
    .next v s hs=>exact⟨_,hs⟩
    .exact this.elim
   .have:=hall t ht;rw[hs]at this;exact alj s v u γ' w' hR hv this
  split at hr
  .next p ρ os s0 hrel=>
   unfold amw at hrel;split at hrel
   .next r hr0=>
    cases hrel;have hroom:Rel w0 M T γ (roomy (numOf st o) st) a w:=by
     unfold roomy;split
     .exact h.kill _
     .exact h
    exact aqA _ hroom p ρ os s0 hr0 hr
   .exact aqA _ h p ρ os s0 hrel hr
  split at hr
  .next neg R hnil=>exact amy hE h o hnil λg hg=>alj st (.sv (.one (.bool (abz neg g)))) (.bool (abz neg g)) γ w h rfl (hr g hg)
  cases ho:alh Θ Γ (numOf st o) st o.op with
  |none=>rw[ho]at hr;exact hr.elim
  |some res=>
   obtain⟨p,v,s⟩:=res;rw[ho]at hr;have hq1:quiet st o.op=true->K (land own (numOf st o) o v s):=λe=>by simp only[e]at hr;exact hr
   have hq2:quiet st o.op=false->p/\K (land own (numOf st o) o v s):=λe=>by simp only[e]at hr;exact hr
   unfold alh at ho;cases hop1:oper Θ Γ (numOf st o) st o.op with
   |some r=>
    rw[hop1]at ho;cases ho;cases hqq:quiet st o.op with
    |true=>exact main st h rfl p v s hop1 (aby hop1 hqq) (hq1 hqq)
    |false=>exact main st h rfl p v s hop1 (hq2 hqq).1 (hq2 hqq).2
   |none=>
    rw[hop1]at ho;cases hm:makes o.op with
    |false=>rw[hm]at ho;cases ho
    |true=>
     rw[hm]at ho;cases hqq:quiet st o.op with
     |true=>
      refine main _ (h.kill _) rfl p v s ho (aby ho ?_) (hq1 hqq);cases hop2:o.op<;>rw[hop2]at hm hqq<;>simp only[makes,awZ]at hm<;>first|rfl|(simp[quiet]at hqq;done)|skip
      rename_i c
      obtain⟨callee,args,pV⟩:=c;cases callee<;>simp only[awZ]at hm;exact hqq
     |false=>exact main _ (h.kill _) rfl p v s ho (hq2 hqq).1 (hq2 hqq).2
 .exact hr.elim
theorem Rel.apO(h:Rel w0 M T γ st a w)(d:Option Nat)(hd:∀t,d=some t->t<st.n):Rel w0 M T γ (st.put d (.mJ [])) (a.put d undef) w:=by
 cases d with
 |none=>exact h
 |some d=>exact h.set d (hd d rfl) (.mJ []) undef ⟨#[],rfl,trivial⟩
theorem agu{ops:Array Oper}{o:Oper}{one skip:St->Prop}(h:Rel w0 M T γ st a w)(hr:guarded ops.toList o one skip st){Y Z:Prop}
 (h1:one st->Y) (h2:skip (st.put o.dst (.mJ []))->Z):
 (Region.wanted o (yielded ops a.tmps)=true/\Y)\/(Region.wanted o (yielded ops a.tmps)=false/\XR st o=true/\Z):=by
 unfold guarded at hr;split at hr
 .next hg=>exact .inl ⟨by simp[Region.wanted,hg],h1 hr⟩
 .next g b hg=>
  split at hr
  .next og hog=>
   split at hr
   .next t ht=>
    split at hr
    .next x hok hlt htm=>
     have hy:yielded ops a.tmps g=some x:=by
      have hr1:=h.tmps t;rw[htm]at hr1;have hv:a.tmps.getD t undef=.bool x:=hr1;have hsz:t<a.tmps.size:=by rw[h.size];simpa[ax4]using hlt
      have anY:ops[g]? =some og:=by simpa using hog
      have hget:a.tmps[t]? =some (.bool x):=by rw[ayy hsz];simp[Array.getD,hsz]at hv;rw[hv]
      simp[yielded,anY,ht,hget]
     cases x
     .simp only[axO,set_self htm]at hr;cases b
      .exact .inl ⟨apH,h1 hr⟩
      .exact .inr ⟨apH,hok,h2 hr⟩
     .simp only[ayt,set_self htm]at hr;cases b
      .exact .inr ⟨apH,hok,h2 hr⟩
      .exact .inl ⟨apH,h1 hr⟩
    .next xs hok hlt htm=>
     have hy:yielded ops a.tmps g=none:=by
      have hr1:=h.tmps t;rw[htm]at hr1;obtain⟨vs,hv,_⟩:=hr1;have hsz:t<a.tmps.size:=by rw[h.size];simpa[ax4]using hlt
      have anY:ops[g]? =some og:=by simpa using hog
      have hget:a.tmps[t]? =some (.tuple vs):=by rw[ayy hsz];simp[Array.getD,hsz]at hv;rw[hv]
      simp[yielded,anY,ht,hget]
     exact .inr ⟨apH,hok,h2 hr⟩
    .exact hr.elim
   .exact hr.elim
  .exact hr.elim
theorem JU{G:jX}(hE:rD P G Θ Γ w0 M){own:Nat->Bool}{ops:Array Oper}{K:St->Prop}{Q:Exit->Act->World->Prop}
 (hn:∀s γ' a' w',K s->Rel w0 M T γ' s a' w'->Q .normal a' w'):∀(l:List Oper)(st:St)(γ:Nat->Value)(a:Act)(w:World),
 Rel w0 M T γ st a w->runs Θ Γ own ops.toList K l st->wpList P ops Q l a w
 |[],st,γ,a,w,h,hr=>hn st γ a w hr h
 |o::r,st,γ,a,w,h,hr=>by
  unfold wpList;have:=agu (ops:=ops) (o:=o) (Y:=o.wp P a w (wpList P ops Q r) Q) (Z:=XR st o=true->wpList P ops Q r (a.put o.dst undef) w) h hr
   (λh1=>ahM hE h h1 λs γ' a' w' hK hR=>JU hE hn r s γ' a' w' hR hK)
   (λh2 hok=>JU hE hn r _ γ _ w (h.apO o.dst (λt ht=>by rw[XR,ht]at hok;simpa[ax4]using hok)) h2)
  rcases this with⟨e,hy⟩|⟨e,hok,hz⟩
  .rw[if_pos e];exact .inl hy
  .rw[if_neg (by rw[e];simp)];exact hz hok
theorem ahN{G:jX}(hE:rD P G Θ Γ w0 M){own:Nat->Bool}{id:Nat}{ops:Array Oper}{K:St->Prop}{Q:Exit->Act->World->Prop}(h:Rel w0 M T γ st a w)
 (hr:runs Θ Γ own ops.toList K ops.toList st) (hn:∀s γ' a' w',K s->Rel w0 M T γ' s a' w'->Q .normal a' w'):(Code.region id ops false).wp P Q a w:=
 wp_region_list (JU hE hn _ _ _ _ _ h hr)
inductive Pre where
 |still (o:Nat)
 |opens (t:Nat)
 |closes (t:Nat)
 |aqB (o:Nat)
def akj(st:St)(t o:Nat)(e:TypeId)(r:ax)(l:List r.den)(fr:Bool):St:=((st.kill (Nat.beq o ·)).add o (.arr e r l fr)).set t (.sv (.one (.ref o)))
def Rl:List Pre->(St->Prop)->St->Prop
 |[],K,st=>K st
 |.still o::z,K,st=>Rl z K (st.freeze (Nat.beq o ·))
 |.aqB o::z,K,st=>Rl z K (st.fix o)
 |.opens t::z,K,st=>match st.tmps t with
  |.sv (.one (.ref o))=>match st.ah o with
   |some (.arr _ _ l _)=>0<l.length/\Rl z K (st.set t (.win o 0 l.length))
   |_=>False
  |_=>False
 |.closes t::z,K,st=>match st.tmps t with
  |.win o lo n=>match Nat.beq lo 0,st.ah o with
   |true,some (.arr e r l fr)=>(0<l.length/\n<=l.length)/\Rl z K (akj st t o e r (l.take n) fr)
   |_,_=>False
  |_=>False
theorem Rel.amz(h:Rel w0 M T γ st a w)(t:Nat)(v:AV)(hv:aT (aj w0 T γ st w) v (a.tmps.getD t undef)):Rel w0 M T γ (st.set t v) a w:=by
 refine⟨h.mT,h.defers,h.size,h.os,h.tape,h.output,h.grow,h.kept,λk=>?_,h.ah,h.lt,h.sep,h.pin⟩;show aT _ (match Nat.beq k t with|true=>v|false=>st.tmps k) (a.tmps.getD k undef);cases hb:Nat.beq k t with
 |false=>exact h.tmps k
 |true=>rw[avs hb];exact hv
theorem Rel.close(h:Rel w0 M T γ st a w){t o n:Nat}{e:TypeId}{r:ax}{l:List r.den}{fr:Bool}(ht:st.tmps t=.win o 0 n)(ho:st.ah o=some (.arr e r l fr))(hl:0<l.length)(hn:n<=l.length):∃γ',Rel w0 M T γ' (akj st t o e r (l.take n) fr) a w:=by
 have htv:=h.tmps t;rw[ht]at htv;obtain⟨g,m,cap,e',r',l',fr',hx,hγ,⟨q,hq,hv,hle⟩⟩:=htv;have hx:st.ah o=some (.arr e' r' l' fr'):=hx;rw[ho]at hx;cases hx;have hγ:γ o=.slice (some ⟨g,0,none⟩) m cap:=hγ;obtain⟨xs,⟨h1,h2⟩,hpos,hfr,hrow⟩:=h.ah o _ ho;rcases h2 with⟨hnil,_⟩|⟨g',cap',cur,hg,hg0,hh,hlc,hmax,hsz,htake⟩
 .have mP:γ o=.slice none 0 0:=hnil;rw[hγ]at mP;cases mP
 .have mP:γ o=.slice (some ⟨g',0,none⟩) l.length cap':=hg;rw[hγ]at mP;simp at mP;obtain⟨rfl,rfl,rfl⟩:=mP;have hq0:q=0:=by
   rcases hq with e1|e1
   .rw[e1,axz]
   .omega
  subst hq0;have hmul:n*r.len<=l.length*r.len:=avO _ hn;have hblk:blk (Value.slice (some ⟨g,0,none⟩) n cap)=blk (γ o):=by rw[hγ];rfl
  obtain⟨hR,_⟩:=h.replace (w':=w) (o:=o) (v':=.slice (some ⟨g,0,none⟩) n cap) (x':=.arr e r (l.take n) fr) (blk (γ o)) (.inr ⟨_,ho,rfl⟩) rfl rfl rfl (avt _) (λ_ _ _=>rfl)
   (λc hc=>⟨.inl (by rw[← hblk,hc]),(h.lt o _ c ho (by rw[← hblk,hc])).1⟩) (λ_ e=>ahB) (λle=>by
     have hlen:(l.take n).length=n:=aiO;refine⟨xs.take (n*r.len),?_,hpos,?_,λi z hi=>?_⟩
     .rw[hlen];show w.ownsRow 0 e r.len (upd γ o _ o) _ _;rw[upd_same];refine⟨by rw[avz,h1];omega,.inr ⟨g,cap,cur,rfl,avM _,hh,abn,hmax,hsz,?_⟩⟩;rw[← htake,ax3,axU hmul]
     .intro c hc hf;have hc:blk (upd γ o (Value.slice (some ⟨g,0,none⟩) n cap) o)=some c:=hc;rw[upd_same,hblk]at hc;exact hfr c hc hf
     .have hil:i<n:=arB;have hmul:i*r.len+r.len<=n*r.len:=by have:(i+1)*r.len<=n*r.len:=avO _ hil;rw[av8]at this;simpa using this
      rw[av4,if_pos hil]at hi;rw[gZ _ _ _ _ hmul];exact aJ.mono (λc hc=>le.cu _ c hc) _ _ z (hrow i z hi))
  refine⟨_,hR.amz t _ ?_⟩;have hv':a.tmps.getD t undef=.slice (some ⟨g,0,none⟩) n cap:=hv;rw[hv'];exact⟨⟨e,r,_,_,add_same _ _ _⟩,(upd_same _ _ _).symm,rfl⟩
theorem CW{K:St->Prop}:∀(z:List Pre)(st:St)(γ:Nat->Value),Rel w0 M T γ st a w->Rl z K st->∃s γ',Rel w0 M T γ' s a w/\K s
 |[],st,γ,h,hk=>⟨st,γ,h,hk⟩
 |.still o::z,st,γ,h,hk=>CW z _ γ (h.freeze _) hk
 |.aqB o::z,st,γ,h,hk=>CW z _ γ (h.fix o) hk
 |.opens t::z,st,γ,h,hk=>by
  rw[Rl]at hk;split at hk
  .next o ht=>
   split at hk
   .next e r l fr ho=>
    refine CW z _ γ (h.amz t _ ?_) hk.2;have htv:=h.tmps t;rw[ht]at htv;obtain⟨_,hv,_⟩:=htv;obtain⟨xs,⟨_,h2⟩,_⟩:=h.ah o _ ho;rcases h2 with⟨_,h4⟩|⟨g,cap,cur,h3,_,_,h4,h5,_⟩
    .have:=hk.1;omega
    .have hv:a.tmps.getD t undef=γ o:=hv;have h3:γ o=.slice (some ⟨g,0,none⟩) l.length cap:=h3;refine⟨g,l.length,cap,e,r,l,fr,ho,h3,0,.inl (by rw[axz]),by rw[hv,h3];rfl,abn⟩
   .exact hk.elim
  .exact hk.elim
 |.closes t::z,st,γ,h,hk=>by
  rw[Rl]at hk;split at hk
  .next o lo n ht=>
   split at hk
   .next e r l fr hb ho=>have hlo:=avs hb;subst hlo;obtain⟨γ',hR⟩:=h.close ht ho hk.1.1 hk.1.2;exact CW z _ γ' hR hk.2
   .exact hk.elim
  .exact hk.elim
inductive iq where
 |int (k:IntKind)
 |bool
 |str
 |nil
 |sl (e:TypeId) (r:ax) (fr:Bool)
 |ref (o:Nat)
 |junk
@[reducible] def iq.den:iq->Type
  |.int _=>Int
  |.bool=>Bool
  |.str=>Bytes
  |.sl _ r _=>List r.den
  |.nil|.ref _|.junk=>Unit
def iq.cell:(c:iq)->c.den->Cell
 |.int k,n=>.int k n
 |.bool,b=>.bool b
 |.str,s=>.str s
 |.sl e r fr,l=>.sl e r l fr
 |.nil,_=>.nil
 |.ref o,_=>.ref o
 |.junk,_=>.junk
def Lh:Bool->Bool->Bool
 |true,b=>b
 |false,_=>true
def iq.read:(c:iq)->Cell->Option c.den
 |.int k,.int l n=>match decide (k=l)with|true=>some n|false=>none
 |.bool,.bool b=>some b
 |.str,.str s=>some s
 |.sl e r fr,.sl f s l gr=>match Nat.beq e f&&Lh fr gr with
  |true=>if h:s.beq r=true then some (tV h l)else none
  |false=>none
 |.sl _ _ _,.nil=>some []
 |.nil,.nil=>some ()
 |.ref o,.ref p=>match Nat.beq o p with|true=>some ()|false=>none
 |.junk,_=>some ()
 |_,_=>none
theorem aqC(X:V)(e:TypeId)(r:ax)(fr:Bool):aS X (.sl e r [] fr) (.slice none 0 0):=by refine⟨acA,.inl ⟨rfl,none,0,rfl⟩⟩
theorem iq.weak{X:V}:∀(c:iq)(x:Cell)(d:c.den)(v:Value),c.read x=some d->aS X x v->aS X (c.cell d) v:=by
 intro c x d v hr hv;cases c<;>cases x<;>simp only[iq.read,reduceCtorEq,Option.some.injEq]at hr<;>try (subst hr;exact hv)
 case int.int k l n=>
  split at hr
  .next e=>cases hr;rw[show k=l by simpa using e];exact hv
  .cases hr
 case sl.sl e r fr f s l gr=>
  split at hr
  .next hb=>
   split at hr
   .next hs=>
    cases hr;rw[avo]at hb;have he:=avs hb.1;subst he;have hsr:=ax.eq_of_beq s r hs;subst hsr;have hv':cZ X.w.heap (X.cu gr) (.sl e s) v l:=hv;refine cZ.mono (λb hb'=>⟨⟨hb'.1,λhfr=>hb'.2 ?_⟩,rfl⟩) (.sl e s) v l hv';subst hfr;cases gr
    .simp[Lh]at hb
    .rfl
   .cases hr
  .cases hr
 case sl.nil e r fr=>subst hr;rw[show v=_ from hv];exact aqC X e r fr
 case nil.nil=>exact hv
 case ref.ref o p=>
  split at hr
  .next hb=>rw[iq.cell,avs hb];exact hv
  .cases hr
 all_goals exact aS.one _ _ hv
@[reducible] def lW:List iq->Type
  |[]=>Unit
  |c::r=>c.den×lW r
def iD:(l:List iq)->lW l->List Cell
 |[],_=>[]
 |c::r,x=>c.cell x.1::iD r x.2
def jS:(l:List iq)->List Cell->Option (lW l)
 |[],[]=>some ()
 |c::r,x::xs=>match c.read x,jS r xs with
  |some a,some b=>some (a,b)
  |_,_=>none
 |_,_=>none
theorem DX{X:V}:∀(l:List iq)(xs:List Cell)(d:lW l)(vs:List Value),jS l xs=some d->ai X xs vs->ai X (iD l d) vs
 |[],[],_,_,_,hv=>hv
 |c::r,x::xs,d,vs,hr,hv=>by
  rw[jS]at hr;split at hr
  .next a b h1 h2=>
   cases hr;cases vs with
   |nil=>cases hv
   |cons v vs=>exact⟨iq.weak c x a v h1 hv.1,DX r xs b vs h2 hv.2⟩
  .cases hr
 |[],_::_,_,_,hr,_=>by simp[jS]at hr
 |_::_,[],_,_,hr,_=>by simp[jS]at hr
@[reducible] def AL:List (List iq)->Type
  |[]=>Unit
  |l::r=>lW l×AL r
def IW:(l:List (List iq))->AL l->List (List Cell)
 |[],_=>[]
 |c::r,x=>iD c x.1::IW r x.2
def EK:(l:List (List iq))->List (List Cell)->Option (AL l)
 |[],[]=>some ()
 |c::r,x::xs=>match jS c x,EK r xs with
  |some a,some b=>some (a,b)
  |_,_=>none
 |_,_=>none
theorem afu{X:V}{l:List iq}{xs:List Cell}{d:lW l}{b:Nat}(hr:jS l xs=some d)(h:gY X xs b):gY X (iD l d) b:=by obtain⟨arr,t,fz,hf,hh,hc⟩:=h;exact⟨arr,t,fz,hf,hh,DX _ _ _ _ hr hc⟩
theorem VL{X:V}:∀(l:List (List iq))(xs:List (List Cell))(d:AL l)(us:List Value),EK l xs=some d->fA X xs us->fA X (IW l d) us
 |[],[],_,us,_,h=>h
 |c::r,x::xs,d,us,hr,h=>by
  rw[EK]at hr;split at hr
  .next a b h1 h2=>
   cases hr;cases us with
   |nil=>cases h
   |cons u us=>obtain⟨⟨b',hu,hk⟩,h3⟩:=h;exact⟨⟨b',hu,afu h1 hk⟩,VL r xs b us h2 h3⟩
  .cases hr
 |[],_::_,_,_,hr,_=>by simp[EK]at hr
 |_::_,[],_,_,hr,_=>by simp[EK]at hr
inductive He where
 |one (c:iq)
 |agg (l:List iq)
 |bM (o off:Nat)
 |fF (l:List iq) (off:Nat)
 |fn (f:FuncId) (l:List (List iq))
@[reducible] def He.den:He->Type
  |.one c=>c.den
  |.agg l=>lW l
  |.bM _ _=>Unit
  |.fF l _=>lW l
  |.fn _ l=>AL l
def He.val:(s:He)->s.den->AV
 |.one c,x=>.sv (.one (c.cell x))
 |.agg l,x=>.sv (.agg (iD l x))
 |.bM o off,_=>.bM o off
 |.fF l off,x=>.fF (iD l x) off
 |.fn f l,x=>.fn f (IW l x)
def He.read:(s:He)->AV->Option s.den
 |.one c,.sv (.one x)=>c.read x
 |.agg l,.sv (.agg xs)=>jS l xs
 |.bM o off,.bM p k=>match Nat.beq o p&&Nat.beq off k with|true=>some ()|false=>none
 |.fF l off,.fF xs k=>match Nat.beq off k with|true=>jS l xs|false=>none
 |.fn f l,.fn g xs=>match Nat.beq f g with|true=>EK l xs|false=>none
 |_,_=>none
theorem He.weak{X:V}(s:He)(x:AV)(d:s.den)(v:Value)(hr:s.read x=some d)(hv:aT X x v):aT X (s.val d) v:=by
 unfold He.read at hr;split at hr
 .exact iq.weak _ _ _ _ hr hv
 .obtain⟨vs,e,h⟩:=hv;exact⟨vs,e,DX _ _ _ _ hr h⟩
 .split at hr
  .next hb=>rw[avo]at hb;rw[He.val,avs hb.1,avs hb.2];exact hv
  .cases hr
 .split at hr
  .next hb=>obtain⟨b,e,arr,t,fz,hf,hh,hc⟩:=hv;rw[He.val,avs hb];exact⟨b,e,arr,t,fz,hf,hh,DX _ _ _ _ hr hc⟩
  .cases hr
 .split at hr
  .next hb=>obtain⟨us,e,hk⟩:=hv;rw[He.val,avs hb];exact⟨us,e,VL _ _ _ _ hr hk⟩
  .cases hr
 .cases hr
inductive JE where
 |var (l:List iq)
 |arr (e:TypeId) (r:ax) (fr:Bool)
@[reducible] def JE.den:JE->Type
  |.var l=>lW l
  |.arr _ r _=>List r.den
def JE.obj:(s:JE)->s.den->aB
 |.var l,x=>.var (iD l x)
 |.arr e r fr,l=>.arr e r l fr
def JE.read:(s:JE)->aB->Option s.den
 |.var l,.var xs=>jS l xs
 |.arr e r fr,.arr f s l gr=>match Nat.beq e f&&Lh fr gr with
  |true=>if h:s.beq r=true then some (tV h l)else none
  |false=>none
 |_,_=>none
def Hz(x x':aB):Prop:=
 (∃cs cs',x=.var cs/\x'=.var cs'/\∀(X:V) vs,ai X cs vs->ai X cs' vs)\/∃e r l fr gr,x=.arr e r l gr/\x'=.arr e r l fr/\(fr=true->gr=true)
theorem JE.weak(s:JE)(x:aB)(d:s.den)(hr:s.read x=some d):Hz x (s.obj d):=by
 unfold JE.read at hr;split at hr
 .exact .inl ⟨_,_,rfl,rfl,λX vs h=>DX _ _ _ _ hr h⟩
 .next e r fr f s l gr=>
  split at hr
  .next hb=>
   split at hr
   .next hs=>
    cases hr;rw[avo]at hb;have he:=avs hb.1;have hg:fr=true->gr=true:=λe=>by have hb2:=hb.2;rw[e]at hb2;exact hb2
    subst he;have hsr:=ax.eq_of_beq s r hs;subst hsr;exact .inr ⟨e,s,l,fr,gr,rfl,rfl,hg⟩
   .cases hr
  .cases hr
 .cases hr
structure Covers(J st:St):Prop where
 n:J.n=st.n
 tmps:∀t(X:V) v,aT X (st.tmps t) v->aT X (J.tmps t) v
 ah:∀o,(J.ah o=none/\st.ah o=none)\/∃x x',st.ah o=some x/\J.ah o=some x'/\Hz x x'
theorem Rel.covers{J:St}(h:Rel w0 M T γ st a w)(hc:Covers J st):Rel w0 M T γ J a w:=by
 have key:∀o x',J.ah o=some x'->∃x,st.ah o=some x/\Hz x x':=by
  intro o x' hx';rcases hc.ah o with⟨e,_⟩|⟨x,y,hx,hy,hw⟩
  .rw[e]at hx';cases hx'
  .rw[hy]at hx';cases hx';exact⟨x,hx,hw⟩
 have yek:∀o x,st.ah o=some x->∃x',J.ah o=some x'/\Hz x x':=by
  intro o x hx;rcases hc.ah o with⟨_,e⟩|⟨y,x',hy,hx',hw⟩
  .rw[e]at hx;cases hx
  .rw[hy]at hx;cases hx;exact⟨x',hx',hw⟩
 have hle:(aj w0 T γ st w).le (aj w0 T γ J w):=by
  refine⟨avt _,λb hb=>⟨⟨hb.1,hb.2.1,λo x hx=>?_⟩,rfl⟩,λo cs hx=>⟨?_,rfl⟩,λo e r l fr hx=>⟨?_,rfl⟩⟩
  .obtain⟨y,hy,_⟩:=key o x hx;exact hb.2.2 o y hy
  .obtain⟨x',hx',hw⟩:=yek o _ hx;rcases hw with⟨cs1,cs2,e1,e2,_⟩|⟨e,r,l,fr,gr,e1,e2,_⟩
   .exact⟨cs2,hx'.trans (by rw[e2])⟩
   .cases e1
  .obtain⟨x',hx',hw⟩:=yek o _ hx;rcases hw with⟨cs1,cs2,e1,e2,_⟩|⟨e,r,l,fr,gr,e1,e2,_⟩
   .cases e1
   .cases e1;exact⟨l,fr,hx'.trans (by rw[e2])⟩
 refine⟨h.mT,h.defers,h.size.trans hc.n.symm,h.os,h.tape,h.output,h.grow,h.kept,λt=>hc.tmps t _ _ (aT.mono hle _ _ (h.tmps t)),λo x' hx'=>?_,λo x' b hx' hb=>?_,λo x' p y' b hx' hy' hop hb=>?_,λo v cs hN hx'=>?_⟩
 .obtain⟨x,hx,hw⟩:=key o x' hx';have ho:=h.ah o x hx;rcases hw with⟨cs1,cs2,e1,e2,hcs⟩|⟨e,r,l,fr,gr,e1,e2,hfg⟩
  .subst e1 e2;obtain⟨b,arr,t,g1,g2,g3⟩:=ho;exact⟨b,arr,t,g1,g2,hcs _ _ (ai.mono hle _ _ g3)⟩
  .subst e1 e2;obtain⟨xs,g1,g2,g3,g4⟩:=ho;exact⟨xs,g1,g2,λb hb hf=>g3 b hb (hfg hf),λi x hi=>aJ.mono (λb hb=>hle.cu fr b ⟨hb.1,λe=>hb.2 (hfg e)⟩) r _ x (g4 i x hi)⟩
 .obtain⟨x,hx,_⟩:=key o x' hx';exact h.lt o x b hx hb
 .obtain⟨x,hx,_⟩:=key o x' hx';obtain⟨y,hy,_⟩:=key p y' hy';exact h.sep o x p y b hx hy hop hb
 .obtain⟨x,hx,hw⟩:=key o _ hx';rcases hw with⟨cs1,cs2,e1,e2,_⟩|⟨e,r,l,fr,gr,e1,e2,_⟩
  .subst e1;exact h.pin o v cs1 hN hx
  .cases e2
structure Shape where
 tmps:List (Nat×He)
 ah:List (Nat×JE)
@[reducible] def abB:List (Nat×He)->Type
  |[]=>Unit
  |x::r=>x.2.den×abB r
@[reducible] def abC:List (Nat×JE)->Type
  |[]=>Unit
  |x::r=>x.2.den×abC r
@[reducible] def Shape.den (s:Shape):Type:=abB s.tmps×abC s.ah
def VN:(l:List (Nat×He))->abB l->(Nat->AV)->Nat->AV
 |[],_,f=>f
 |s::r,x,f=>λi=>match Nat.beq i s.1 with|true=>s.2.val x.1|false=>VN r x.2 f i
def IX:(l:List (Nat×JE))->abC l->(Nat->Option aB)->Nat->Option aB
 |[],_,f=>f
 |s::r,x,f=>λi=>match Nat.beq i s.1 with|true=>some (s.2.obj x.1)|false=>IX r x.2 f i
def abD(st:St):(l:List (Nat×He))->Option (abB l)
 |[]=>some ()
 |s::r=>match s.2.read (st.tmps s.1),abD st r with
  |some a,some b=>some (a,b)
  |_,_=>none
def abE(st:St):(l:List (Nat×JE))->Option (abC l)
 |[]=>some ()
 |s::r=>match st.ah s.1,abE st r with
  |some x,some b=>match s.2.read x with
   |some a=>some (a,b)
   |none=>none
  |_,_=>none
def aO:List Nat->Nat->Bool
 |[],_=>false
 |x::r,o=>match Nat.beq o x with|true=>true|false=>aO r o
def names:List (Nat×JE)->List Nat
 |[]=>[]
 |x::r=>x.1::names r
def joint(n:Nat)(c v:Shape)(x:c.den)(y:v.den):St:=
 {n:=n,tmps:=VN c.tmps x.1 (VN v.tmps y.1 (λ_=>.undef)),ah:=IX c.ah x.2 (IX v.ah y.2 (λ_=>none))}
def only(c v:Shape)(st:St):St:=st.freeze λo=>!(aO (names c.ah) o||aO (names v.ah) o)
def Shape.read(s:Shape)(st:St):Option s.den:=
 match abD st s.tmps,abE st s.ah with
 |some a,some b=>some (a,b)
 |_,_=>none
theorem OB{X:V}(t:Nat)(u:Value)(hu:aT X (st.tmps t) u):∀(l:List (Nat×He))(x:abB l)(f:Nat->AV),abD st l=some x->aT X (f t) u->aT X (VN l x f t) u
 |[],_,_,_,hf=>hf
 |s::r,x,f,hr,hf=>by
  rw[abD]at hr;split at hr
  .next a b h1 h2=>
   cases hr;simp only[VN];cases hb:Nat.beq t s.1 with
   |true=>
    rw[avs hb]at hu;exact He.weak s.2 _ a u h1 hu
   |false=>exact OB t u hu r b f h2 hf
  .cases hr
theorem Iy(o:Nat):∀(l:List (Nat×JE))(x:abC l)(f:Nat->Option aB),abE st l=some x->
 (f o=none\/∃y y',st.ah o=some y/\f o=some y'/\Hz y y')->
 ((IX l x f o=none/\aO (names l) o=false/\f o=none)\/∃y y',st.ah o=some y/\IX l x f o=some y'/\Hz y y')
 |[],_,f,_,hf=>by
  rcases hf with e|h
  .exact .inl ⟨e,rfl,e⟩
  .exact .inr h
 |s::r,x,f,hr,hf=>by
  rw[abE]at hr;split at hr
  .next y b h1 h2=>
   split at hr
   .next a h3=>
    cases hr;simp only[IX,names,aO];cases hb:Nat.beq o s.1 with
    |true=>
     rw[avs hb];exact .inr ⟨y,_,h1,rfl,JE.weak s.2 y a h3⟩
    |false=>exact Iy o r b f h2 hf
   .cases hr
  .cases hr
theorem ahO{c v:Shape}{x:c.den}{y:v.den}(hc:c.read (only c v st)=some x)(hv:v.read (only c v st)=some y):Covers (joint st.n c v x y) (only c v st):=by
 unfold Shape.read at hc hv;split at hc
 .next a b h1 h2=>
  cases hc;split at hv
  .next a' b' h3 h4=>
   cases hv;refine⟨rfl,λt X u hu=>OB t u hu _ _ _ h1 (OB t u hu _ _ _ h3 trivial),λo=>?_⟩;rcases Iy o v.ah b' (λ_=>none) h4 (.inl rfl)with⟨e1,e2,_⟩|h
   .rcases Iy o c.ah b (IX v.ah b' (λ_=>none)) h2 (.inl e1)with⟨g1,g2,_⟩|h
    .refine .inl ⟨g1,?_⟩;simp[only,St.freeze,e2,g2]
    .exact .inr h
   .rcases Iy o c.ah b (IX v.ah b' (λ_=>none)) h2 (.inr h)with⟨g1,g2,g3⟩|h'
    .obtain⟨y,y',_,h5,_⟩:=h;rw[h5]at g3;cases g3
    .exact .inr h'
  .cases hv
 .cases hc
theorem Rel.joint(h:Rel w0 M T γ st a w){c v:Shape}{x:c.den}{y:v.den}(hc:c.read (only c v st)=some x)(hv:v.read (only c v st)=some y):
 Rel w0 M T γ (joint st.n c v x y) a w:=(h.freeze _).covers (ahO hc hv)
end Go.Fw
namespace Go.Fw
open Go
variable {P:Program} {w0:World} {M:Nat->Prop} {T:Ext} {γ γ':Nat->Value} {st:St} {a:Act} {w w':World}
def Cell.ren(f:Nat->Nat):Cell->Cell
 |.ref q=>.ref (f q)
 |c=>c
def SV.ren(f:Nat->Nat):SV->SV
 |.one c=>.one (c.ren f)
 |.agg cs=>.agg (cs.map (Cell.ren f))
def AV.ren(f:Nat->Nat):AV->AV
 |.undef=>.undef
 |.sv v=>.sv (v.ren f)
 |.mJ vs=>.mJ (vs.map (SV.ren f))
 |.bM o off=>.bM (f o) off
 |.nT o i off=>.nT (f o) i off
 |.win o i off=>.win (f o) i off
 |.qg r x off fr=>.qg r x off fr
 |.fF cs off=>.fF (cs.map (Cell.ren f)) off
 |.fn g caps=>.fn g (caps.map (List.map (Cell.ren f)))
def aB.ren(f:Nat->Nat):aB->aB
 |.var cs=>.var (cs.map (Cell.ren f))
 |.arr e r l fr=>.arr e r l fr
def zT(o p q:Nat):Nat:=match Nat.beq q o with|true=>p|false=>q
def St.ren(st:St)(o p:Nat):St:=
 {n:=st.n,tmps:=λt=>(st.tmps t).ren (zT o p),ah:=λq=>match Nat.beq q p with
  |true=>(st.ah o).map (aB.ren (zT o p))
  |false=>match Nat.beq q o with|true=>none|false=>(st.ah q).map (aB.ren (zT o p))}
structure V.qQ(f:Nat->Nat)(X Y:V):Prop where
 n0:Y.n0<=X.n0
 foot:∀b,X.foot b->Y.foot b/\Y.w.heap[b]? =X.w.heap[b]?
 var:∀o cs,X.ah o=some (.var cs)->(∃cs',Y.ah (f o)=some (.var cs'))/\Y.γ (f o)=X.γ o
 arr:∀o e r l fr,X.ah o=some (.arr e r l fr)->(∃l' fr',Y.ah (f o)=some (.arr e r l' fr'))/\Y.γ (f o)=X.γ o
variable {f:Nat->Nat}
theorem V.qQ.cu{X Y:V}(h:X.qQ f Y)(fr:Bool)(b:Nat)(hb:X.cu fr b):Y.cu fr b/\Y.w.heap[b]? =X.w.heap[b]? :=
 ⟨⟨(h.foot b hb.1).1,λe=>avx h.n0 (hb.2 e)⟩,(h.foot b hb.1).2⟩
theorem aS.qQ{X Y:V}(h:X.qQ f Y):∀(c:Cell)(v:Value),aS X c v->aS Y (c.ren f) v
 |.int _ _,_,H|.bool _,_,H|.str _,_,H|.nil,_,H|.junk,_,H=>H
 |.sl e r l fr,v,H=>cZ.mono (λb hb=>h.cu fr b hb) (.sl e r) v l H
 |.ref o,v,⟨⟨e,r,l,fr,hx⟩,hv,h1⟩=>by obtain⟨⟨l',fr',hy⟩,hγ⟩:=h.arr o e r l fr hx;exact⟨⟨e,r,l',fr',hy⟩,hv.trans hγ.symm,h1⟩
theorem ai.qQ{X Y:V}(h:X.qQ f Y):∀(cs:List Cell)(vs:List Value),ai X cs vs->ai Y (cs.map (Cell.ren f)) vs
 |[],[],H=>H
 |c::cs,v::vs,⟨h1,h2⟩=>⟨aS.qQ h c v h1,ai.qQ h cs vs h2⟩
 |[],_::_,H|_::_,[],H=>afM
theorem dM.qQ{X Y:V}(h:X.qQ f Y):∀(c:SV)(v:Value),dM X c v->dM Y (c.ren f) v
 |.one c,v,H=>aS.qQ h c v H
 |.agg cs,_,⟨vs,hv,H⟩=>⟨vs,hv,ai.qQ h cs _ H⟩
theorem dN.qQ{X Y:V}(h:X.qQ f Y):∀(cs:List SV)(vs:List Value),dN X cs vs->dN Y (cs.map (SV.ren f)) vs
 |[],[],H=>H
 |c::cs,v::vs,⟨h1,h2⟩=>⟨dM.qQ h c v h1,dN.qQ h cs vs h2⟩
 |[],_::_,H|_::_,[],H=>afM
theorem gY.qQ{X Y:V}(h:X.qQ f Y){cs:List Cell}{b:Nat}(H:gY X cs b):gY Y (cs.map (Cell.ren f)) b:=by obtain⟨arr,t,fz,hb,hh,hr⟩:=H;exact⟨arr,t,fz,(h.foot b hb).1,(h.foot b hb).2.trans hh,ai.qQ h cs _ hr⟩
theorem fA.qQ{X Y:V}(h:X.qQ f Y):∀(l:List (List Cell))(us:List Value),fA X l us->fA Y (l.map (List.map (Cell.ren f))) us
 |[],[],H=>H
 |cs::l,u::us,⟨⟨b,hu,hk⟩,h2⟩=>⟨⟨b,hu,gY.qQ h hk⟩,fA.qQ h l us h2⟩
 |[],_::_,H|_::_,[],H=>afM
theorem aT.qQ{X Y:V}(h:X.qQ f Y):∀(c:AV)(v:Value),aT X c v->aT Y (c.ren f) v
 |.undef,_,_=>trivial
 |.sv x,v,H=>dM.qQ h x v H
 |.mJ xs,_,⟨vs,hv,H⟩=>⟨vs,hv,dN.qQ h xs _ H⟩
 |.bM o off,v,⟨b,cs,hx,hγ,hv⟩=>by
  obtain⟨⟨cs',hy⟩,he⟩:=h.var o cs hx;exact⟨b,cs',hy,he.trans hγ,hv⟩
 |.nT o i off,v,⟨b,n,cap,e,r,l,fr,hx,hγ,hv⟩=>by
  obtain⟨⟨l',fr',hy⟩,he⟩:=h.arr o e r l fr hx;exact⟨b,n,cap,e,r,l',fr',hy,he.trans hγ,hv⟩
 |.win o i off,v,⟨b,n,cap,e,r,l,fr,hx,hγ,hv⟩=>by
  obtain⟨⟨l',fr',hy⟩,he⟩:=h.arr o e r l fr hx;exact⟨b,n,cap,e,r,l',fr',hy,he.trans hγ,hv⟩
 |.qg r x off fr,v,⟨b,base,cs,t,fz,hv,hf,hb,hr⟩=>
  ⟨b,base,cs,t,fz,hv,(h.cu fr b hf).1,(h.cu fr b hf).2.trans hb,aJ.mono (λb hb=>h.cu fr b hb) r _ x hr⟩
 |.fF cs off,v,⟨b,hv,hk⟩=>⟨b,hv,gY.qQ h hk⟩
 |.fn g caps,v,⟨us,hv,hk⟩=>⟨us,hv,fA.qQ h caps _ hk⟩
theorem bn.qQ{X Y:V}(h:X.qQ f Y)(o p:Nat):∀(x:aB),(∀b,blk (X.γ o)=some b->Y.w.heap[b]? =X.w.heap[b]?)->Y.γ p=X.γ o->bn X o x->bn Y p (x.ren f)
 |.var cs,hb,hγ,⟨b,arr,t,e,hh,hr⟩=>⟨b,arr,t,hγ.trans e,(hb b (by rw[e];rfl)).trans hh,ai.qQ h cs _ hr⟩
 |.arr e r l fr,hb,hγ,⟨xs,hown,hr,hf,hx⟩=>by
  refine⟨xs,?_,hr,λb hb' hfr=>avx h.n0 (hf b (hγ▸hb') hfr),λi x hi=>aJ.mono (λb hb=>h.cu fr b hb) r _ x (hx i x hi)⟩;obtain⟨h1,h2⟩:=hown;refine⟨h1,?_⟩;rcases h2 with h2|⟨g,cap,cur,hv,hg,hh,hrest⟩
  .exact .inl ⟨hγ.trans h2.1,h2.2⟩
  .exact .inr ⟨g,cap,cur,hγ.trans hv,hg,(hb g asZ).trans hh,hrest⟩
theorem akk(o p:Nat):zT o p o=p:=by unfold zT;rw[awi]
theorem Rn{o p q:Nat}(h:q≠o):zT o p q=q:=by unfold zT;rw[Aj h]
theorem Rel.ren(h:Rel w0 M T γ st a w){o p:Nat}{e:TypeId}{r:ax}{l:List r.den}{fr:Bool}(ho:st.ah o=some (.arr e r l fr))(hp:st.ah p=none):
 Rel w0 M T (λq=>match Nat.beq q p with|true=>γ o|false=>γ q) (st.ren o p) a w:=by
 have hop:o≠p:=λe=>by rw[e,hp]at ho;cases ho
 have old:∀q x,(st.ren o p).ah q=some x->∃q0 x0,st.ah q0=some x0/\x=x0.ren (zT o p)/\q=zT o p q0/\(match Nat.beq q p with|true=>γ o|false=>γ q)=γ q0:=by
  intro q x hx;simp only[St.ren]at hx;cases hqp:Nat.beq q p with
  |true=>
   rw[hqp]at hx;simp only[ho,awr,Option.some.injEq]at hx;exact⟨o,_,ho,hx.symm,by rw[akk];exact avs hqp,rfl⟩
  |false=>
   rw[hqp]at hx;cases hqo:Nat.beq q o with
   |true=>rw[hqo]at hx;cases hx
   |false=>
    rw[hqo]at hx;cases hs:st.ah q with
    |none=>rw[hs]at hx;cases hx
    |some x0=>rw[hs]at hx;cases hx;exact⟨q,x0,hs,rfl,(Rn λe=>by rw[e,awi]at hqo;cases hqo).symm,rfl⟩
 have new:∀q x,st.ah q=some x->(st.ren o p).ah (zT o p q)=some (x.ren (zT o p))/\(match Nat.beq (zT o p q) p with|true=>γ o|false=>γ (zT o p q))=γ q:=by
  intro q x hx;by_cases hqo:q=o
  .subst hqo;rw[akk];refine⟨?_,by rw[awi]⟩;simp only[St.ren,awi,hx,awr]
  .have hqp:q≠p:=λe=>by rw[e,hp]at hx;cases hx
   rw[Rn hqo,Aj hqp];refine⟨?_,rfl⟩;simp only[St.ren,Aj hqp,Aj hqo,hx,awr]
 have le:V.qQ (zT o p) (aj w0 T γ st w) ⟨w,w0.heap.size,T,λq=>match Nat.beq q p with|true=>γ o|false=>γ q,(st.ren o p).ah⟩:=by
  refine⟨avt _,λb hb=>⟨⟨hb.1,hb.2.1,λq x hx=>?_⟩,rfl⟩,λq cs hx=>?_,λq e' r' l' fr' hx=>?_⟩
  .obtain⟨q0,x0,h1,_,_,h4⟩:=old q x hx;show blk (match Nat.beq q p with|true=>γ o|false=>γ q)≠some b;rw[h4];exact hb.2.2 q0 x0 h1
  .obtain⟨h1,h2⟩:=new q _ hx;exact⟨⟨_,h1⟩,h2⟩
  .obtain⟨h1,h2⟩:=new q _ hx;exact⟨⟨_,_,h1⟩,h2⟩
 refine⟨h.mT,h.defers,h.size,h.os,h.tape,h.output,h.grow,h.kept,λt=>aT.qQ le _ _ (h.tmps t),λq x hx=>?_,λq x b hx hb=>?_,λq x q' y b hx hy hne hb=>?_,λq v cs hN hx=>?_⟩
 .obtain⟨q0,x0,h1,rfl,h3,h4⟩:=old q x hx;exact bn.qQ le q0 q x0 (λ_ _=>rfl) h4 (h.ah q0 x0 h1)
 .obtain⟨q0,x0,h1,_,_,h4⟩:=old q x hx;exact h.lt q0 x0 b h1 (h4▸hb)
 .obtain⟨q0,x0,h1,_,h3,h4⟩:=old q x hx;obtain⟨q1,x1,g1,_,g3,g4⟩:=old q' y hy;rw[h4]at hb;rw[g4];refine h.sep q0 x0 q1 x1 b h1 g1 (λe=>hne ?_) hb;rw[h3,g3,e]
 .obtain⟨q0,x0,h1,h2,h3,h4⟩:=old q _ hx;cases x0 with
  |arr _ _ _ _=>cases h2
  |var cs0=>
   have:q0≠o:=λe=>by rw[e,ho]at h1;cases h1
   rw[Rn this]at h3;subst h3;rw[h4];exact h.pin q v cs0 hN h1
theorem Rel.arF(h:Rel w0 M T γ st a w){o:Nat}{cs cs':List Cell}(ho:st.ah o=some (.var cs))(hc:∀vs,ai (aj w0 T γ st w) cs vs->ai (aj w0 T γ st w) cs' vs):
 Rel w0 M T γ (st.add o (.var cs')) a w:=by
 have hother:∀p,p≠o->(st.add o (.var cs')).ah p=st.ah p:=λp hp=>mQ st _ hp;have hsome:∀p y,(st.add o (.var cs')).ah p=some y->∃z,st.ah p=some z:=by
  intro p y hp;by_cases e:p=o
  .rw[e];exact⟨_,ho⟩
  .rw[hother p e]at hp;exact⟨y,hp⟩
 have le:(aj w0 T γ st w).le ⟨w,w0.heap.size,T,γ,(st.add o (.var cs')).ah⟩:=by
  refine⟨avt _,λc hb=>⟨⟨hb.1,hb.2.1,λp y hp=>?_⟩,rfl⟩,λp ds hp=>⟨?_,rfl⟩,λp e r l fr hp=>⟨?_,rfl⟩⟩
  .obtain⟨z,hz⟩:=hsome p y hp;exact hb.2.2 p z hz
  .by_cases e:p=o
   .subst e;exact⟨cs',add_same _ _ _⟩
   .exact⟨ds,(hother p e).trans hp⟩
  .by_cases e2:p=o
   .subst e2;have hp':st.ah p=some (.arr e r l fr):=hp;rw[ho]at hp';cases hp'
   .exact⟨l,fr,(hother p e2).trans hp⟩
 refine⟨h.mT,h.defers,h.size,h.os,h.tape,h.output,h.grow,h.kept,λt=>aT.mono le _ _ (h.tmps t),λp y hp=>?_,λp y c hp hb=>?_,λp y q z c hp hq hpq hb=>?_,λp v ds hN hp=>?_⟩
 .by_cases e:p=o
  .subst e;rw[add_same]at hp;cases hp;obtain⟨b,arr,t,g1,g2,g3⟩:=h.ah p _ ho;exact⟨b,arr,t,g1,g2,ai.mono le _ _ (hc _ g3)⟩
  .rw[hother p e]at hp;exact bn.mono le p y (λ_ _=>rfl) rfl (h.ah p y hp)
 .obtain⟨z,hz⟩:=hsome p y hp;exact h.lt p z c hz hb
 .obtain⟨z1,hz1⟩:=hsome p y hp;obtain⟨z2,hz2⟩:=hsome q z hq;exact h.sep p z1 q z2 c hz1 hz2 hpq hb
 .by_cases e:p=o
  .subst e;exact h.pin p v cs hN ho
  .rw[hother p e]at hp;exact h.pin p v ds hN hp
inductive Place where
 |slot (t k:Nat)
 |obj (o k:Nat)
def cellAt(st:St):Place->Option Cell
 |.slot t k=>match st.tmps t with|.sv v=>v.cells[k]? |_=>none
 |.obj o k=>match st.ah o with|some (.var cs)=>cs[k]? |_=>none
def SV.put(k:Nat)(c:Cell):SV->SV
 |.one _=>.one c
 |.agg cs=>.agg (cs.set k c)
def setCell(st:St)(c:Cell):Place->St
 |.slot t k=>match st.tmps t with|.sv v=>st.set t (.sv (v.put k c))|_=>st
 |.obj o k=>match st.ah o with|some (.var cs)=>st.add o (.var (cs.set k c))|_=>st
abbrev VO:=Place×Nat×TypeId×ax×Bool
def settle(st:St)(x:VO):Option St:=
 match cellAt st x.1 with
 |some (.ref o)=>match Nat.beq o x.2.1 with
  |true=>some st
  |false=>match (st.kill (Nat.beq x.2.1 ·)).ah o with
   |some (.arr _ _ _ _)=>some ((st.kill (Nat.beq x.2.1 ·)).ren o x.2.1)
   |_=>none
 |some .nil=>match Nat.ble 1 x.2.2.2.1.len,cellAt ((st.kill (Nat.beq x.2.1 ·)).add x.2.1 (.arr x.2.2.1 x.2.2.2.1 [] x.2.2.2.2)) x.1 with
  |true,some .nil=>some (setCell ((st.kill (Nat.beq x.2.1 ·)).add x.2.1 (.arr x.2.2.1 x.2.2.2.1 [] x.2.2.2.2)) (.ref x.2.1) x.1)
  |_,_=>none
 |_=>none
def settles(st:St):List VO->Option St
 |[]=>some st
 |x::l=>match settle st x with
  |some s=>settles s l
  |none=>none
theorem ai.set{X:V}:∀(cs:List Cell)(vs:List Value)(k:Nat)(c:Cell),(∀v,aS X .nil v->aS X c v)->cs[k]? =some .nil->ai X cs vs->ai X (cs.set k c) vs
 |[],_,_,_,_,h,_=>amA
 |x::cs,v::vs,0,c,hc,h,⟨h1,h2⟩=>by simp at h;subst h;exact⟨hc v h1,h2⟩
 |x::cs,v::vs,k+1,c,hc,h,⟨h1,h2⟩=>⟨h1,ai.set cs vs k c hc acG h2⟩
 |_::_,[],_,_,_,_,H=>afM
theorem Rel.setCell(h:Rel w0 M T γ st a w){c:Cell}{pl:Place}(hn:cellAt st pl=some .nil)(hc:∀v,aS (aj w0 T γ st w) .nil v->aS (aj w0 T γ st w) c v):Rel w0 M T γ (setCell st c pl) a w:=by
 cases pl with
 |slot t k=>
  simp only[cellAt]at hn;simp only[Fw.setCell];split at hn
  .next v hv=>
   try rw[hv]
   have hcov:aT (aj w0 T γ st w) (.sv (v.put k c)) (a.tmps.getD t undef):=by
    have h0:=h.tmps t;rw[hv]at h0;cases v with
    |one x=>
     have hx:x=.nil/\k=0:=by
      cases k with
      |zero=>simp[SV.cells]at hn;exact⟨hn,rfl⟩
      |succ k=>simp[SV.cells]at hn
     obtain⟨rfl,rfl⟩:=hx;exact hc _ h0
    |agg cs=>obtain⟨vs,hvs,hr⟩:=h0;exact⟨vs,hvs,ai.set cs _ k c hc hn hr⟩
   refine⟨h.mT,h.defers,h.size,h.os,h.tape,h.output,h.grow,h.kept,λt'=>?_,h.ah,h.lt,h.sep,h.pin⟩;by_cases e':t'=t
   .subst e';simp only[St.set,awi];exact hcov
   .simp only[St.set,Aj e'];exact h.tmps t'
  .cases hn
 |obj o k=>
  simp only[cellAt]at hn;simp only[Fw.setCell];split at hn
  .next cs hcs=>
   try rw[hcs]
   exact h.arF hcs λvs hvs=>ai.set cs vs k c hc hn hvs
  .cases hn
theorem Rel.aqD(h:Rel w0 M T γ st a w){o:Nat}(ho:st.ah o=none)(e:TypeId)(r:ax)(fr:Bool)(hr:1<=r.len):
 Rel w0 M T (upd γ o (.slice none 0 0)) (st.add o (.arr e r [] fr)) a w:=by
 refine(h.grown (γ':=upd γ o (.slice none 0 0)) (w':=w) (st.add o (.arr e r [] fr)).ah
  (λp x hp=>by rw[mQ _ _ (by rintro rfl;rw[ho]at hp;cases hp)];exact hp)
  (λp x hp=>by rw[pU];rintro rfl;rw[ho]at hp;cases hp)
  rfl rfl rfl (avt _) (λ_ _=>rfl)
  (λp x hp hn=>by
    by_cases e':p=o
    .subst e';rw[add_same]at hp;cases hp;refine⟨⟨[],⟨acA,.inl ⟨upd_same _ _ _,rfl⟩⟩,hr,(λb hb=>by have hb':blk (upd γ p (.slice none 0 0) p)=some b:=hb;rw[upd_same]at hb';cases hb'),λi x hi=>arA⟩,λb hb=>by rw[upd_same]at hb;cases hb⟩
    .rw[mQ _ _ e']at hp;rw[hp]at hn;cases hn)
  (λp cs hp hn=>by
    by_cases e':p=o
    .subst e';rw[add_same]at hp;cases hp
    .rw[mQ _ _ e']at hp;rw[hp]at hn;cases hn)
  (λp x q y b hp hpn hq hqn hpq hb=>by
    by_cases e':p=o
    .subst e';rw[upd_same]at hb;cases hb
    .rw[mQ _ _ e']at hp;rw[hp]at hpn;cases hpn)).1
theorem afv(st:St)(p:Nat):(st.kill (Nat.beq p ·)).ah p=none:=by simp[St.kill]
theorem Rel.settle(h:Rel w0 M T γ st a w){x:VO}{s:St}(hs:Fw.settle st x=some s):∃γ',Rel w0 M T γ' s a w:=by
 obtain⟨pl,p,e,r,fr⟩:=x;unfold Fw.settle at hs;dsimp only at hs;split at hs
 .next o ho=>
  split at hs
  .cases hs;exact⟨γ,h⟩
  .split at hs
   .next hk=>cases hs;exact⟨_,(h.kill _).ren hk (afv st p)⟩
   .cases hs
 .next ho=>
  split at hs
  .next hr hn=>cases hs;have hR:=(h.kill (Nat.beq p ·)).aqD (afv st p) e r fr (by simpa[axL]using hr);refine⟨_,hR.setCell hn λv hv=>?_⟩;have hv:v=.slice none 0 0:=hv;subst hv;exact⟨⟨e,r,[],fr,add_same _ _ _⟩,(upd_same _ _ _).symm,rfl⟩
  .cases hs
 .cases hs
theorem Rel.settles:∀(l:List VO){γ:Nat->Value}{st s:St}(_:Rel w0 M T γ st a w)(_:Fw.settles st l=some s),∃γ',Rel w0 M T γ' s a w
 |[],γ,st,s,h,hs=>by cases hs;exact⟨γ,h⟩
 |x::l,γ,st,s,h,hs=>by
  rw[Fw.settles]at hs;split at hs
  .next s1 h1=>obtain⟨γ1,hR⟩:=h.settle h1;exact Rel.settles l hR hs
  .cases hs
end Go.Fw
namespace Go.Fw
open Go
variable {P:Program} {w0:World} {M:Nat->Prop} {T:Ext} {γ γ':Nat->Value} {st s:St} {a:Act} {w w':World} {Θ:jr} {Γ:kR}
def DY(Θ:jr)(st:St)(o:Op):Option (Prop×Nat×aB):=match o with
 |.call {callee:=.builtin .append,args,argTypes}=>match args.toList,argTypes.toList with
  |[s,x],[t,u]=>match Nat.beq t u,Θ t,st.ev s,st.ev x with
   |true,some ti,.sv (.one (.ref o)),.sv (.one y)=>match ti.kind with
    |.slice e=>match Θ e with
     |some te=>match y.get st (.sl e te.cells)with
      |some news=>match st.ah o with
       |some (.arr f r l fr)=>if h:te.cells.beq r=true then
         match Nat.beq e f with
         |true=>some (l.length+news.length<=big,o,.arr e r (l++tV h news) (fr&&y.wQ te.cells st))
         |false=>none
        else none
       |_=>none
      |none=>none
     |none=>none
    |_=>none
   |_,_,_,_=>none
  |_,_=>none
 |_=>none
theorem amB(h:st.more s){e:TypeId}{r:ax}{y:Cell}{news:List r.den}(hg:y.get st (.sl e r)=some news):y.fresh s=y.fresh st:=by
 cases y<;>try rfl
 case ref o=>
  simp only[Cell.get]at hg;split at hg
  .next e' r' l fr ho=>simp only[Cell.fresh];rw[h.ah o _ ho,ho]
  .cases hg
theorem alk(h:st.more s){e:TypeId}{r:ax}{y:Cell}{news:List r.den}(hg:y.get st (.sl e r)=some news):y.wQ r s=y.wQ r st:=by unfold Cell.wQ;rw[amB h hg]
theorem ajB(h:st.more s){o:Op}{x:Prop×Nat×aB}(hc:DY Θ st o=some x):DY Θ s o=some x:=by
 unfold DY at hc;split at hc
 case h_2=>cases hc
 next args pV=>
 split at hc
 case h_2=>cases hc
 next s1 x1 t u hargs KZ=>
 split at hc
 case h_2=>cases hc
 next ti o y hb ht hs hx=>
 split at hc
 case h_2=>cases hc
 next e hk=>
 split at hc
 case h_2=>cases hc
 next te hte=>
 split at hc
 case h_2=>cases hc
 next news hnews=>
 split at hc
 case h_2=>cases hc
 next f r l fr ho=>
 split at hc
 case isFalse=>cases hc
 next hbr=>
 split at hc
 case h_2=>cases hc
 next hef=>
 cases hc;have h1:=bH h hs acA;have h2:=bH h hx acA;unfold DY;simp only[hargs,KZ,hb,ht,h1,h2,hk,hte,Z7 h _ _ _ hnews,h.ah o _ ho,hbr,hef,dif_pos,alk h hnews]
theorem alm{o:Op}{p:Prop}{q:Nat}{x:aB}(d:Nat)(hc:DY Θ st o=some (p,q,x)):
 eff Θ Γ d st o=some (p,.sv (.one (.ref q)),(st.kill (Nat.beq q ·)).add q x)/\(∃e r l fr,x=.arr e r l fr)/\∃e r l fr,st.ah q=some (.arr e r l fr):=by
 unfold DY at hc;split at hc
 case h_2=>cases hc
 next args pV=>
 split at hc
 case h_2=>cases hc
 next s1 x1 t u hargs KZ=>
 split at hc
 case h_2=>cases hc
 next ti o y hb ht hs hx=>
 split at hc
 case h_2=>cases hc
 next e hk=>
 split at hc
 case h_2=>cases hc
 next te hte=>
 split at hc
 case h_2=>cases hc
 next news hnews=>
 split at hc
 case h_2=>cases hc
 next f r l fr ho=>
 split at hc
 case isFalse=>cases hc
 next hbr=>
 split at hc
 case h_2=>cases hc
 next hef=>
 cases hc;refine⟨?_,⟨_,_,_,_,rfl⟩,⟨_,_,_,_,ho⟩⟩;simp only[eff,hargs,KZ,hb,ht,hs,hx,hk,hte,hnews,ho,hbr,hef,dif_pos]
theorem Cell.zU{S:Nat->Bool}{f:Nat->Nat}(h:∀o,S o=false->f o=o):∀(c:Cell),(c.kill S).ren f=c.kill S
 |.int _ _|.bool _|.str _|.nil|.sl _ _ _ _|.junk=>rfl
 |.ref o=>by
  simp only[Cell.kill];cases hs:S o with
  |true=>rfl
  |false=>simp only[Cell.ren,h o hs]
theorem CX{S:Nat->Bool}{f:Nat->Nat}(h:∀o,S o=false->f o=o)(cs:List Cell):(cs.map (Cell.kill S)).map (Cell.ren f)=cs.map (Cell.kill S):=by rw[awW];exact aw7 λc _=>Cell.zU h c
theorem SV.zU{S:Nat->Bool}{f:Nat->Nat}(h:∀o,S o=false->f o=o):∀(c:SV),(c.kill S).ren f=c.kill S
 |.one c=>by simp only[SV.kill,SV.ren,Cell.zU h]
 |.agg cs=>by simp only[SV.kill,SV.ren,CX h]
theorem AV.zU{S:Nat->Bool}{f:Nat->Nat}(h:∀o,S o=false->f o=o):∀(c:AV),(c.kill S).ren f=c.kill S
 |.undef=>rfl
 |.sv v=>by simp only[AV.kill,AV.ren,SV.zU h]
 |.mJ vs=>by
  simp only[AV.kill,AV.ren];rw[awW,aw7 λc _=>(show((SV.ren f) ∘ (SV.kill S)) c=SV.kill S c from SV.zU h c)]
 |.bM o off=>by
  simp only[AV.kill];cases hs:S o with
  |true=>rfl
  |false=>simp only[AV.ren,h o hs]
 |.nT o i off=>by
  simp only[AV.kill];cases hs:S o with
  |true=>rfl
  |false=>simp only[AV.ren,h o hs]
 |.win o i off=>by
  simp only[AV.kill];cases hs:S o with
  |true=>rfl
  |false=>simp only[AV.ren,h o hs]
 |.qg _ _ _ _=>rfl
 |.fF cs off=>by simp only[AV.kill,AV.ren,CX h]
 |.fn g caps=>by simp only[AV.kill,AV.ren];rw[awW,aw7 λc _=>(show((List.map (Cell.ren f)) ∘ (List.map (Cell.kill S))) c=List.map (Cell.kill S) c from CX h c)]
theorem aB.zU{S:Nat->Bool}{f:Nat->Nat}(h:∀o,S o=false->f o=o):∀(c:aB),(c.kill S).ren f=c.kill S
 |.var cs=>by simp only[aB.kill,aB.ren,CX h]
 |.arr _ _ _ _=>rfl
theorem amC{G:jX}(hE:rD P G Θ Γ w0 M)(h:Rel w0 M T γ st a w)(o:Oper){p:Prop}{n q:Nat}{x:aB}
 (hc:DY Θ st o.op=some (p,q,x)) (hp:p) (hn0:st.ah n=none) {next:Act->World->Prop} {Q:Exit->Act->World->Prop}
 (hn:∀u γ' w',Rel w0 M T γ' ((st.kill (Nat.beq q ·)).add n x) a w'->aT (aj w0 T γ' ((st.kill (Nat.beq q ·)).add n x) w') (.sv (.one (.ref n))) u->next (a.put o.dst u) w'):o.wp P a w next Q:=by
 obtain⟨he,⟨e,r,l,fr,rfl⟩,⟨e',r',l',fr',hq⟩⟩:=alm (Γ:=Γ) 0 hc;have hnq:n≠q:=λe=>by rw[e,hq]at hn0;cases hn0
 have hqn:∀t,Nat.beq q t=false->zT q n t=t:=λt ht=>Rn λe=>by rw[e,awi]at ht;cases ht
 refine afs hE h o he hp λu γ1 w1 hR hv=>?_;have hS:(((st.kill (Nat.beq q ·)).add q (.arr e r l fr)).ren q n)=(st.kill (Nat.beq q ·)).add n (.arr e r l fr):=by
  simp only[St.ren,St.add,St.kill,St.mk.injEq,axZ];refine⟨funext λt=>AV.zU hqn _,funext λt=>?_⟩;cases hb:Nat.beq t n with
  |true=>simp[awi,aB.ren]
  |false=>
   cases hb2:Nat.beq t q with
   |true=>
    rw[avs hb2,awi]
   |false=>
    have hb3:Nat.beq q t=false:=by
     cases hb3:Nat.beq q t with
     |false=>rfl
     |true=>rw[avs hb3,awi]at hb2;cases hb2
    simp only[hb3];cases st.ah t with
    |none=>rfl
    |some y=>simp only[awr,aB.zU hqn]
 have aqF:=hR.ren (o:=q) (p:=n) (e:=e) (r:=r) (l:=l) (fr:=fr) (by simp[St.add,awi]) (by simp only[St.add,St.kill,Aj hnq,hn0,axf];cases Nat.beq q n<;>rfl);rw[hS]at aqF;refine hn u _ _ aqF ?_;obtain⟨_,h2,h3⟩:aS _ (.ref q) u:=hv;have o6:((st.kill (Nat.beq q ·)).add n (.arr e r l fr)).ah n=some (.arr e r l fr):=by simp[St.add,awi]
 have hval:u=(match Nat.beq n n with|true=>γ1 q|false=>γ1 n):=by rw[awi];exact h2
 exact⟨⟨e,r,l,fr,o6⟩,hval,h3⟩
end Go.Fw
