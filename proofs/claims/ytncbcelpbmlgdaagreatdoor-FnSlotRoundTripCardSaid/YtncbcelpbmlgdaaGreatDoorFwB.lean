import Derived.Test.YtncbcelpbmlgdaaGreatDoorFwA
import Derived.Lib.SliceRun
import Derived.WalkSpells
namespace Go.Fw
open Go
variable {P:Program} {w0:World} {M:Nat->Prop} {T:Ext} {γ γ':Nat->Value} {st:St} {a:Act} {w w':World} {Θ:jm} {Γ:kM}
theorem aaY{α:Type}{l:List α}{lo:Nat}{news:List α}(h:lo+news.length<=l.length):(oP l lo news).length=l.length:=by unfold oP;simp only[auB,auN,au9];omega
theorem agX{α:Type}{l:List α}{lo:Nat}{news:List α}(h:lo+news.length<=l.length)(k:Nat):
 (oP l lo news)[k]? =if k<lo then l[k]? else if k<lo+news.length then news[k-lo]? else l[k]? :=by
 unfold oP;have ht:(l.take lo).length=lo:=ah8;by_cases h1:k<lo
 .rw[if_pos h1,auR,avn aaV,avf,if_pos h1]
 .rw[if_neg h1];by_cases h2:k<lo+news.length
  .rw[if_pos h2,auR,avc aaV,ht,avn aaV]
  .rw[if_neg h2,avc ar9,auB,ht,avg];congr 1;omega
theorem Rel.rows(h:Rel w0 M T γ st a w){o:Nat}{e:TypeId}{r:au}{l:List r.den}{fr:Bool}(ho:st.ah o=some (.arr e r l fr)){b m cap:Nat}(hγ:γ o=.slice (some ⟨b,0,none⟩) m cap){cur:Array Value}(hb:w.heap[b]? =some (.cells cur e (0,0)))
 {lo:Nat} {news:List r.den} {ns:List Value} (hnl:ns.length=news.length*r.len) (hle:lo+news.length<=l.length)
 (hrows:∀i x,news[i]? =some x->aH w.heap ((aj w0 T γ st w).bW fr) r ((ns.drop (i*r.len)).take r.len) x):
 Rel w0 M T γ (st.add o (.arr e r (oP l lo news) fr)) a (w.setRow b (cur.toList.take (lo*r.len)++ns++cur.toList.drop (lo*r.len+ns.length)).toArray):=by
 obtain⟨xs,⟨h1,h2⟩,hpos,hfr,hrow⟩:=h.ah o _ ho;rcases h2 with⟨hnil,_⟩|⟨g,cap',cur',hg,_,hh,hlc,hmax,hsz,htake⟩
 .have mJ:γ o=.slice none 0 0:=hnil;rw[hγ]at mJ;cases mJ
 .have mJ:γ o=.slice (some ⟨g,0,none⟩) l.length cap':=hg;rw[hγ]at mJ;simp at mJ;obtain⟨rfl,hn,hcap⟩:=mJ;have hcur:cur'=cur:=by have hh':w.heap[b]? =some (.cells cur' e (0,0)):=hh;rw[hb]at hh';simp at hh';exact hh'.symm
  subst hcur;have atS:lo*r.len+news.length*r.len<=l.length*r.len:=by rw[← avj];exact au1 _ hle
  have aqO:l.length*r.len<=cap'*r.len:=au1 _ hlc;have e1:cur'.toList.length=cur'.size:=avm;refine h.write (x':=.arr e r (oP l lo news) fr) ho (by rw[hγ];rfl) ⟨rfl,rfl⟩ _ (λle=>?_);have hnew:∀k,(cur'.toList.take (lo*r.len)++ns++cur'.toList.drop (lo*r.len+ns.length))[k]? =if k<lo*r.len then cur'.toList[k]? else if k<lo*r.len+ns.length then ns[k-lo*r.len]? else cur'.toList[k]? :=λk=>adl _ _ _ k aaV
  have akx:(cur'.toList.take (lo*r.len)++ns++cur'.toList.drop (lo*r.len+ns.length)).length=cur'.size:=by simp only[auB,auN,au9];omega
  generalize hnd:cur'.toList.take (lo*r.len)++ns++cur'.toList.drop (lo*r.len+ns.length)=new at hnew akx le ⊢;have hol:=aaY hle;refine⟨new.take (l.length*r.len),⟨?_,.inr ⟨b,cap,new.toArray,?_,auZ _,Vp hh,?_,?_,?_,?_⟩⟩,hpos,?_,?_⟩
  .rw[auN,akx,hol];omega
  .rw[hol];show γ o=_;rw[hγ,hn]
  .rw[hol];omega
  .omega
  .rw[awf,akx,hsz,hcap]
  .rw[hol,aw6]
  .intro c hc hf;exact hfr c hc hf
  .intro i x hi;have hlt:i<l.length:=by have:=(auT.1 hi).1;rw[hol]at this;exact this
   have hmul:i*r.len+r.len<=l.length*r.len:=agW;rw[gW _ _ _ _ hmul];rw[agX hle]at hi;have old:∀y,l[i]? =some y->(∀k,k<r.len->new[i*r.len+k]? =cur'.toList[i*r.len+k]?)->aH (w.setRow b new.toArray).heap (V.bW ⟨w.setRow b new.toArray,w0.heap.size,T.S,γ,(st.add o (.arr e r (oP l lo news) fr)).ah⟩ fr) r ((new.drop (i*r.len)).take r.len) y:=by
    intro y hy hk;have hR:=hrow i y hy;have:(new.drop (i*r.len)).take r.len=(xs.drop (i*r.len)).take r.len:=by
     rw[← htake,gW _ _ _ _ hmul];apply awu;intro k;rw[avf,avf,avg,avg];by_cases hkr:k<r.len
     .rw[if_pos hkr,if_pos hkr,hk k hkr]
     .rw[if_neg hkr,if_neg hkr]
    rw[this];exact aH.mono (λc hc=>le.bW _ c hc) _ _ y hR
   split at hi
   .next hlo=>
    refine old x hi λk hk=>?_;rw[hnew];have:i*r.len+r.len<=lo*r.len:=by have:(i+1)*r.len<=lo*r.len:=au1 _ hlo;rw[avj]at this;simpa using this
    rw[if_pos aaV]
   .next hlo=>
    split at hi
    .next hhi=>
     have hR:=hrows _ x hi;have e2:i*r.len=lo*r.len+(i-lo)*r.len:=by rw[← avj];congr 1;omega
     have hm3:(i-lo)*r.len+r.len<=news.length*r.len:=by have:(i-lo+1)*r.len<=news.length*r.len:=au1 _ aaV;rw[avj]at this;simpa using this
     have:(new.drop (i*r.len)).take r.len=(ns.drop ((i-lo)*r.len)).take r.len:=by
      apply awu;intro k;rw[avf,avf,avg,avg];by_cases hkr:k<r.len
      .rw[if_pos hkr,if_pos hkr,hnew,if_neg aaV,if_pos aaV];congr 1;omega
      .rw[if_neg hkr,if_neg hkr]
     rw[this];exact aH.mono (λc hc=>le.bW _ c hc) _ _ x hR
    .next hhi=>
     refine old x hi λk hk=>?_;rw[hnew];have:lo*r.len+news.length*r.len<=i*r.len:=by rw[← avj];exact au1 _ aaV
     rw[if_neg aaV,if_neg aaV]
theorem KF{α:Type}(l:List α)(lo:Nat):oP l lo []=l:=by unfold oP;rw[au7,auI,av8,awm]
theorem Zy{o:Nat}{x:ay}(h:st.ah o=some x):st.add o x=st:=by
 cases st;simp only[St.add]at h ⊢;congr 1
 funext i
 cases hb:Nat.beq i o with
 |false=>rfl
 |true=>rw[auG hb,h]
theorem aeO(h:Rel w0 M T γ st a w){o:Nat}{e:TypeId}{r:au}{l:List r.den}{fr:Bool}(ho:st.ah o=some (.arr e r l fr)){b m cap:Nat}(hγ:γ o=.slice (some ⟨b,0,none⟩) m cap):
 ∃cur:Array Value,w.heap[b]? =some (.cells cur e (0,0))/\cur.size=cap*r.len/\0<r.len/\cap<=maxLen/\l.length<=cap/\
  ∀i x,l[i]? =some x->aH w.heap ((aj w0 T γ st w).bW fr) r ((cur.toList.drop (i*r.len)).take r.len) x:=by
 obtain⟨xs,⟨h1,h2⟩,hpos,hfr,hrow⟩:=h.ah o _ ho;rcases h2 with⟨hnil,_⟩|⟨g,cap',cur',hg,_,hh,hlc,hmax,hsz,htake⟩
 .have mJ:γ o=.slice none 0 0:=hnil;rw[hγ]at mJ;cases mJ
 .have mJ:γ o=.slice (some ⟨g,0,none⟩) l.length cap':=hg;rw[hγ]at mJ;simp at mJ;obtain⟨rfl,hn,rfl⟩:=mJ;refine⟨cur',hh,hsz,hpos,hmax,hlc,λi x hi=>?_⟩;have hlt:i<l.length:=(auT.1 hi).1;have hmul:i*r.len+r.len<=l.length*r.len:=agW;have:=hrow i x hi;rw[← htake,gW _ _ _ _ hmul]at this;exact this
theorem agY{h:Array Obj}{S:Nat->Prop}:∀(r:au)(vs:List Value)(x:r.den),aH h S r vs x->∀v∈vs,v.oneCell'=true
 |.nil,vs,_,H,v,hv=>by rw[aH]at H;subst H;cases hv
 |.cons c r,vs,(x,y),H,v,hv=>by
  rw[aH]at H;obtain⟨u,vs',rfl,h1,h2⟩:=H;rcases auQ.1 hv with rfl|hv
  .cases c with
   |int k=>rw[h1.1];rfl
   |bool=>rw[show _=_ from h1];rfl
   |str=>rw[h1.1];rfl
   |sl e s=>have h1:sG _ _ _ _ v x:=h1;rcases h1.2 with⟨_,a,c,hv⟩|⟨b,off,cap,cs,t,fz,hv,_⟩<;>rw[hv]<;>rfl
  .exact agY r vs' y h2 v hv
theorem aeP{h:Array Obj}{S:Nat->Prop}{r:au}(hpos:0<r.len){news:List r.den}{ns:List Value}(hnl:ns.length=news.length*r.len)(hrows:∀i x,news[i]? =some x->aH h S r ((ns.drop (i*r.len)).take r.len) x):∀u∈ns,u.oneCell'=true:=by intro u hu;obtain⟨j,hj⟩:=aw0 hu;have hjl:j<ns.length:=(auT.1 hj).1;rw[hnl]at hjl;have hil:j / r.len<news.length:=Nat.div_lt_of_lt_mul (by rw[axf];exact hjl);have hR:=hrows (j / r.len) _ (auJ hil);refine agY _ _ _ hR u ?_;have hdm:=Nat.div_add_mod j r.len;have hml:=axx j hpos;refine avk (i:=j%r.len) ?_;rw[avf,if_pos hml,avg,← hj];congr 1;rw[axf]at hdm;omega
theorem X3(hΘ:∀t ti,Θ t=some ti->lI P t ti)(h:Rel w0 M T γ st a w){t ty:TypeId}{ti:TI}(ht:Θ t=some ti){sx x:Operand}{o zA n0 o2 lo2 n2:Nat}(e1:st.ev sx=.win o zA n0)(e2:st.ev x=.win o2 lo2 n2)
 {p:Prop} {v:AV} {s:St} (hc:Ve Θ st ti o zA n0 o2 lo2 n2=some (p,v,s)) (hp:p):
 ∃u w',(Builtin.append_ #[t,t] ty #[a.eval sx,a.eval x]).run P w=.ok u w'/\Rel w0 M T γ s a w'/\aP (aj w0 T γ s w') v u:=by
 unfold Ve at hc;split at hc
 .next e f r l fr hb hk ho=>
  rw[auC]at hb;have hlo0:=auG hb.1;have hoo:=auG hb.2;subst hlo0 hoo;split at hc
  .next te he=>
   split at hc
   .next hbe=>
    rw[auC]at hbe;have hef:=auG hbe.2;have hte:=au.eq_of_beq _ _ hbe.1;cases hc;subst hef;obtain⟨hp1,hp2⟩:=hp;obtain⟨g,m,cap,e',r',l',fr',hx,hγ,⟨q,hq,hv,hle⟩⟩:=Vo h e1;rw[ho]at hx;cases hx;obtain⟨g2,m2,cap2,e'',r'',l'',atX,hx2,mJ,⟨q2,hq2,hv2,hle2⟩⟩:=Vo h e2;rw[hγ]at mJ;simp at mJ;obtain⟨rfl,rfl,rfl⟩:=mJ;rw[ho]at hx2;cases hx2;obtain⟨cur,hh,hsz,hpos,hmax,hlc,hrow⟩:=aeO h ho hγ;obtain⟨i,z,hi,hisz,hby,hz,hzv,_⟩:=(hΘ e te he).info;have hu:=(hΘ t ti ht).und;rw[hk]at hu;rw[hte]at hisz;by_cases hn2:n2=0
    .subst hn2;refine⟨.slice (some ⟨g,q,none⟩) n0 (cap-0),w,?_,?_,?_⟩
     .rw[hv,hv2];have hnc:n0<=cap:=aaV;rw[Nat.sub_zero];simp[Builtin.append_,ava hu.1 w,sizeOf,typeInfo,hi,Builtin.lenOf,Builtin.firstCells,hnc,storeCells,loadCells,loadCellsFrom]
     .have:oP l n0 ((l.drop lo2).take 0)=l:=by rw[awM,KF]
      rw[this,Zy ho];exact h
     .have:oP l n0 ((l.drop lo2).take 0)=l:=by rw[awM,KF]
      rw[this,Zy ho];exact⟨g,m,cap,e,r,l,fr,ho,hγ,q,hq,rfl,aaV⟩
    .have hq0:q=0:=by
      rcases hq with e3|e3
      .rw[e3,awN]
      .omega
     have ash:q2=lo2*r.len:=by
      rcases hq2 with e3|e3
      .exact e3
      .omega
     subst hq0 ash;have agn:((l.drop lo2).take n2).length=n2:=by rw[auN,au9];omega
     let ns:List Value:=(cur.toList.drop (lo2*r.len)).take (n2*r.len)
     have ec:cur.toList.length=cur.size:=avm;have hm1:lo2*r.len+n2*r.len<=cap*r.len:=by rw[← avj];exact au1 _ aaV
     have hm0:n0*r.len+n2*r.len<=cap*r.len:=by rw[← avj];exact au1 _ aaV
     have hnl:ns.length=n2*r.len:=by simp only[ns,auN,au9];omega
     have hrows:∀i x,((l.drop lo2).take n2)[i]? =some x->aH w.heap ((aj w0 T γ st w).bW fr) r ((ns.drop (i*r.len)).take r.len) x:=by
      intro i x hi;have hilt:i<n2:=by have:=(auT.1 hi).1;rw[agn]at this;exact this
      rw[avf,if_pos hilt,avg]at hi;have hR:=hrow (lo2+i) x hi;have hmul:i*r.len+r.len<=n2*r.len:=by have:(i+1)*r.len<=n2*r.len:=au1 _ hilt;rw[avj]at this;simpa using this
      have:(ns.drop (i*r.len)).take r.len=(cur.toList.drop ((lo2+i)*r.len)).take r.len:=by simp only[ns];rw[gW _ _ _ _ hmul,awc,avj]
      rw[this];exact hR
     have Jv:=aeP hpos (by rw[agn];exact hnl) hrows;have hnews:∀j u,ns[j]? =some u->w.cell? ((⟨g,lo2*r.len,none⟩:Addr).add j)=some u:=by intro j u hj;rw[addr_add];exact QN hh _ j u hj
     have hroom:n0+n2<=cap:=aaV;have hrun:=run_append_room (P:=P) (ty:=ty) (w:=w) t e i hu.1 hi g n0 cap cur hh ⟨g,lo2*r.len,none⟩ n2 (cap-lo2) ns (by rw[hisz];exact hnl) hnews Jv hroom (by rw[hisz];omega);rw[hisz]at hrun;refine⟨_,_,by rw[hv,hv2];exact hrun,h.rows ho hγ hh (by rw[agn];exact hnl) (by rw[agn];exact hp1) hrows,?_⟩;exact⟨g,m,cap,e,r,_,fr,add_same _ _ _,hγ,0,.inl (by rw[awN]),rfl,aaV⟩
   .cases hc
  .cases hc
 .cases hc
theorem adn{z:Array Value}{r:au}(hz:z.toList=r.kN)(hpos:0<r.len)(n:Nat):(Builtin.zeroCells z n).toList.length=n*r.len/\∀i,i<n->((Builtin.zeroCells z n).toList.drop (i*r.len)).take r.len=r.kN:=by
 have hzs:z.size=r.len:=by rw[← avm,hz,mP]
 have hlen:(Builtin.zeroCells z n).toList.length=n*r.len:=by simp[Builtin.zeroCells,hzs]
 refine⟨hlen,λi hi=>?_⟩;have hmul:i*r.len+r.len<=n*r.len:=by have:(i+1)*r.len<=n*r.len:=au1 _ hi;rw[avj]at this;simpa using this
 apply aw1
 .rw[auN,au9,hlen,mP];omega
 .intro k h1 h2;rw[List.getElem_take,List.getElem_drop];have hk:k<r.len:=by rw[mP]at h2;exact h2
  have hmod:(i*r.len+k)%r.len=k:=by rw[axy,axJ,axQ hk]
  have hzk:r.kN[k]=z[k]' aaV :=by
   have:z.toList[k]'(by rw[avm];omega)=r.kN[k]:=by simp only[hz]
   rw[← this,Array.getElem_toList]
  rw[hzk];simp[Builtin.zeroCells,hzs,hmod,hk]
theorem Zz(hΘ:∀t ti,Θ t=some ti->lI P t ti)(h:Rel w0 M T γ st a w){t ty:TypeId}{ti:TI}(ht:Θ t=some ti){x:Operand}{o lo n:Nat}(e1:st.ev x=.win o lo n)
 {p:Prop} {v:AV} {s:St} (hc:Zq Θ st ti o lo n=some (p,v,s)) (hp:p):
 ∃u w',(Builtin.clear_ #[t] ty #[a.eval x]).run P w=.ok u w'/\Rel w0 M T γ s a w'/\aP (aj w0 T γ s w') v u:=by
 unfold Zq at hc;split at hc
 .next e f r l fr hk ho=>
  split at hc
  .next te he=>
   split at hc
   .next hbe=>
    rw[auC]at hbe;have hef:=auG hbe.2;have hte:=au.eq_of_beq _ _ hbe.1;cases hc;subst hef;obtain⟨g,m,cap,e',r',l',fr',hx,hγ,⟨q,hq,hv,hle⟩⟩:=Vo h e1;rw[ho]at hx;cases hx;obtain⟨cur,hh,hsz,hpos,hmax,hlc,hrow⟩:=aeO h ho hγ;have hu:=(hΘ t ti ht).und;rw[hk]at hu;cases n with
    |zero=>
     refine⟨.tuple #[],w,?_,?_,⟨#[],rfl,trivial⟩⟩
     .rw[hv];simp[Builtin.clear_,ava hu.1 w]
     .have:oP l lo (List.replicate 0 r.dflt)=l:=KF l lo;rw[this,Zy ho];exact h
    |succ k=>
     have hq0:q=lo*r.len:=by
      rcases hq with e3|e3
      .exact e3
      .omega
     subst hq0;obtain⟨z,hz,hzv⟩:=Ua (P:=P) (w:=w) (hΘ e te he);rw[hte]at hzv;obtain⟨hnl,hzr⟩:=adn hzv hpos (k+1);have ec:cur.toList.length=cur.size:=avm;have hm1:lo*r.len+(k+1)*r.len<=cap*r.len:=by rw[← avj];exact au1 _ aaV
     have hrl:(List.replicate (k+1) r.dflt).length=k+1:=List.length_replicate;have hrows:∀i x,(List.replicate (k+1) r.dflt)[i]? =some x->aH w.heap ((aj w0 T γ st w).bW fr) r (((Builtin.zeroCells z.cells (k+1)).toList.drop (i*r.len)).take r.len) x:=by
      intro i x hi;have hilt:i<k+1:=by have:=(auT.1 hi).1;rw[hrl]at this;exact this
      have hx:x=r.dflt:=by rw[awR,if_pos hilt]at hi;exact(Option.some.inj hi).symm
      rw[hzr i hilt,hx];exact Vk _ _ r
     have Jv:=aeP hpos (by rw[hrl];exact hnl) hrows;have hst:=run_storeCells_at P g (lo*r.len) e (Builtin.zeroCells z.cells (k+1)).toList 0 cur w hh (by rw[hnl];omega) Jv;simp only[av8]at hst;refine⟨.tuple #[],_,?_,h.rows ho hγ hh (by rw[hrl];exact hnl) (by rw[hrl];exact hp) hrows,⟨#[],rfl,trivial⟩⟩;rw[hv];simp[Builtin.clear_,ava hu.1 w,hz,hst]
   .cases hc
  .cases hc
 .cases hc
theorem Rel.update(h:Rel w0 M T γ st a w){K D:Nat->Bool}{H:Nat->Prop}{lS:Nat->Option ay}{γ2:Nat->Value}
 (hos:w'.os=w.os) (htape:w'.tape=w.tape) (hout:w'.output=w.output) (hsize:w.heap.size<=w'.heap.size)
 (hH:∀b,H b->∃o x,st.ah o=some x/\blk (γ o)=some b)
 (hheap:∀b,b<w.heap.size->¬H b->w'.heap[b]? =w.heap[b]?)
 (h1:∀p,D p=false->lS p=(st.kill K).ah p/\γ2 p=γ p)
 (h2:∀p x b,D p=false->K p=false->st.ah p=some x->blk (γ p)=some b->¬H b)
 (h3:∀p x,D p=true->lS p=some x->∀b,blk (γ2 p)=some b->b<w'.heap.size/\(w.heap.size<=b\/H b))
 (h3':V.nM K (aj w0 T γ st w) ⟨w',w0.heap.size,T,γ2,lS⟩->∀p x,D p=true->lS p=some x->aZ ⟨w',w0.heap.size,T,γ2,lS⟩ p x)
 (h4:∀p q x y b,D p=true->D q=true->lS p=some x->lS q=some y->p≠q->blk (γ2 p)=some b->blk (γ2 q)≠some b)
 (h5:∀p cs,D p=true->K p=false->st.ah p=some (.var cs)->(∃cs',lS p=some (.var cs'))/\γ2 p=γ p)
 (h6:∀p e r l fr,D p=true->K p=false->st.ah p=some (.arr e r l fr)->(∃l' fr',lS p=some (.arr e r l' fr'))/\γ2 p=γ p)
 (h7:∀p cs,D p=true->lS p=some (.var cs)->(∃cs0,st.ah p=some (.var cs0)/\γ2 p=γ p)\/T.N p=none):
 Rel w0 M T γ2 {n:=st.n,tmps:=λt=>(st.tmps t).kill K,ah:=lS} a w'/\V.nM K (aj w0 T γ st w) ⟨w',w0.heap.size,T,γ2,lS⟩:=by
 have hHb:∀b,H b->b<w.heap.size/\(w0.heap.size<=b\/M b):=λb hb=>by obtain⟨o,x,ho,hγ⟩:=hH b hb;exact h.lt o x b ho hγ
 have QW:∀b,(aj w0 T γ st w).foot b->¬H b:=λb hb hh=>by obtain⟨o,x,ho,hγ⟩:=hH b hh;exact hb.2.2 o x ho hγ
 have old:∀p x,D p=false->lS p=some x->∃y,st.ah p=some y/\x=y.kill K/\K p=false:=λp x hD hx=>by rw[(h1 p hD).1]at hx;exact wQ K hx
 have le:V.nM K (aj w0 T γ st w) ⟨w',w0.heap.size,T,γ2,lS⟩:=by
  refine⟨auH _,λb hb=>⟨⟨au6 hb.1 hsize,hb.2.1,λo x hx e=>?_⟩,hheap b hb.1 (QW b hb)⟩,λo cs hK ho=>?_,λo e r l fr hK ho=>?_⟩
  .cases hD:D o with
   |false=>
    obtain⟨y,hy,_,_⟩:=old o x hD hx;have e':blk (γ2 o)=some b:=e;rw[(h1 o hD).2]at e';exact hb.2.2 o y hy e'
   |true=>
    rcases(h3 o x hD hx b e).2 with h'|h'
    .have hlt:b<w.heap.size:=hb.1;omega
    .exact QW b hb h'
  .have ho':st.ah o=some (.var cs):=ho;cases hD:D o with
   |false=>
    refine⟨⟨cs.map (Cell.kill K),?_⟩,(h1 o hD).2⟩;show lS o=_;rw[(h1 o hD).1];exact nY K hK ho'
   |true=>exact h5 o cs hD hK ho'
  .have ho':st.ah o=some (.arr e r l fr):=ho;cases hD:D o with
   |false=>
    refine⟨⟨l,fr,?_⟩,(h1 o hD).2⟩;show lS o=_;rw[(h1 o hD).1];exact nY K hK ho'
   |true=>exact h6 o e r l fr hD hK ho'
 refine⟨⟨h.mT,h.defers,h.size,hos.trans h.os,htape.trans h.tape,hout.trans h.output,auK h.grow hsize,λb hb hM=>?_,λt=>aP.nM le _ _ (h.tmps t),λo x hx=>?_,λo x b hx hb=>?_,λo x p y b hx hy hop hb=>?_,λo v cs hN hx=>?_⟩,le⟩
 .rw[hheap b (au6 hb h.grow) λhh=>by
   rcases(hHb b hh).2 with h'|h'
   .omega
   .exact hM h']
  exact h.kept b hb hM
 .cases hD:D o with
  |false=>
   obtain⟨y,hy,rfl,hK⟩:=old o x hD hx;exact aZ.nM le o y (λb hb=>hheap b (h.lt o y b hy hb).1 (h2 o y b hD hK hy hb)) (h1 o hD).2 (h.ah o y hy)
  |true=>exact h3' le o x hD hx
 .cases hD:D o with
  |false=>
   obtain⟨y,hy,rfl,hK⟩:=old o x hD hx;rw[(h1 o hD).2]at hb;have:=h.lt o y b hy hb;exact⟨au6 this.1 hsize,this.2⟩
  |true=>have:=h3 o x hD hx b hb;exact⟨this.1,this.2.elim (λg=>.inl (auK h.grow g)) λg=>(hHb b g).2⟩
 .cases hD:D o with
  |false=>
   obtain⟨y1,hy1,rfl,hK1⟩:=old o x hD hx;rw[(h1 o hD).2]at hb;have hbl:=h.lt o y1 b hy1 hb;cases hE:D p with
   |false=>
    obtain⟨y2,hy2,rfl,hK2⟩:=old p y hE hy;rw[(h1 p hE).2];exact h.sep o y1 p y2 b hy1 hy2 hop hb
   |true=>
    intro e;rcases(h3 p y hE hy b e).2 with h'|h'
    .omega
    .exact h2 o y1 b hD hK1 hy1 hb h'
  |true=>
   cases hE:D p with
   |false=>
    obtain⟨y2,hy2,rfl,hK2⟩:=old p y hE hy;rw[(h1 p hE).2];intro e;have hbl:=h.lt p y2 b hy2 e;rcases(h3 o x hD hx b hb).2 with h'|h'
    .omega
    .exact h2 p y2 b hE hK2 hy2 e h'
   |true=>exact h4 o p x y b hD hE hx hy hop hb
 .cases hD:D o with
  |false=>
   obtain⟨y,hy,e,_⟩:=old o _ hD hx;rw[(h1 o hD).2];cases y with
   |var cs'=>exact h.pin o v cs' hN hy
   |arr _ _ _ _=>cases e
  |true=>
   rcases h7 o cs hD hx with⟨cs0,g1,g2⟩|g
   .rw[g2];exact h.pin o v cs0 hN g1
   .rw[g]at hN;cases hN
def EO(nr:Bool)(st:St)(x:AV)(a:Arg)(o:Option Nat):Prop:=
 (o=none/\(nr=true->x.refs=[])/\oO st [x]=some [a])\/
 (∃p e r l fr,o=some p/\x=.sv (.one (.ref p))/\st.ah p=some (.arr e r l fr)/\a=.own e r l)\/
 (∃p cs,o=some p/\x=.bK p 0/\st.ah p=some (.var cs)/\cs.flatMap Cell.refs=[]/\a=.ptr (cs.map (Cell.view st)))
theorem KG{m:Mode}{x:AV}{a:Arg}{o:Option Nat}(h:o9 st m x=some (a,o)):EO true st x a o:=by
 cases m with
 |val=>
  simp only[o9]at h;split at h
  .next a' hr ha=>cases h;exact .inl ⟨rfl,λ_=>hr,ha⟩
  .cases h
 |own=>
  simp only[o9]at h;split at h
  .split at h
   .next p _ e r l fr ho=>cases h;exact .inr (.inl ⟨p,e,r,l,fr,rfl,rfl,ho,rfl⟩)
   .cases h
  .cases h
 |ptr=>
  simp only[o9]at h;split at h
  .split at h
   .next p off _ _ cs h0 ho=>
    split at h
    .next hr=>cases h;have h0:=auG h0;subst h0;exact .inr (.inr ⟨p,cs,rfl,rfl,ho,hr,rfl⟩)
    .cases h
   .cases h
  .cases h
def qM(nr:Bool)(st:St):List AV->List Arg->List (Option Nat)->Prop
 |[],[],[]=>True
 |x::xs,a::as,o::os=>EO nr st x a o/\qM nr st xs as os
 |_,_,_=>False
theorem QX:∀(ms:List Mode)(xs:List AV)(as:List Arg)(os:List (Option Nat)),hands st ms xs=some (as,os)->qM true st xs as os
 |_,[],as,os,h=>by unfold hands at h;cases h;trivial
 |ms,x::xs,as,os,h=>by
  unfold hands at h;split at h
  .next a o as' os' h1 h2=>cases h;exact⟨KG h1,QX ms.tail xs as' os' h2⟩
  .cases h
variable {nr:Bool}
theorem qM.get:∀{xs:List AV}{as:List Arg}{os:List (Option Nat)},qM nr st xs as os->∀(i:Nat)(a:Arg),as[i]? =some a->∃x o,xs[i]? =some x/\os[i]? =some o/\EO nr st x a o
 |[],[],[],_,i,a,h=>amd
 |x::xs,b::as,o::os,⟨h1,h2⟩,0,a,h=>by simp at h;subst h;exact⟨x,o,rfl,rfl,h1⟩
 |x::xs,b::as,o::os,⟨h1,h2⟩,i+1,a,h=>by
  obtain⟨y,q,g1,g2,g3⟩:=h2.get i a acs;exact⟨y,q,by simpa using g1,by simpa using g2,g3⟩
 |[],[],_::_,H,_,_,_|[],_::_,_,H,_,_,_|_::_,[],_,H,_,_,_|_::_,_::_,[],H,_,_,_=>H.elim
theorem qM.length:∀{xs:List AV}{as:List Arg}{os:List (Option Nat)},qM nr st xs as os->as.length=xs.length/\os.length=xs.length
 |[],[],[],_=>⟨rfl,rfl⟩
 |x::xs,b::as,o::os,⟨_,h2⟩=>by simp[h2.length.1,h2.length.2]
 |[],[],_::_,H|[],_::_,_,H|_::_,[],_,H|_::_,_::_,[],H=>H.elim
def γE(os:List (Option Nat))(γ:Nat->Value)(p:Nat):Value:=match os[p / 64]? with|some (some o)=>γ o|_=>undef
theorem Vq{xs:List AV}{as:List Arg}{os:List (Option Nat)}(hh:qM nr st xs as os){q:Nat}{X:ay}(hq:dn as q=some X):
 ∃o Y,os[q / 64]? =some (some o)/\st.ah o=some Y/\((∃e r l fr,X=.arr e r l false/\Y=.arr e r l fr/\q%64=49)\/(∃cs,X=.var (cs.map (Cell.view st))/\Y=.var cs/\cs.flatMap Cell.refs=[]/\q%64=48)):=by
 unfold dn at hq;split at hq
 .next e r l ha=>
  split at hq
  .next hm=>
   cases hq;have hm:=auG hm;obtain⟨x,o,_,ho,h1⟩:=hh.get _ _ ha;rcases h1 with⟨_,_,h3⟩|⟨p,e',r',l',fr,rfl,_,hp,h4⟩|⟨p,cs,_,_,_,_,h4⟩
   .exfalso;unfold oO at h3;split at h3
    .split at h3<;>simp at h3
    .split at h3<;>simp at h3
    .split at h3<;>simp at h3
    .cases h3
   .cases h4;exact⟨p,_,ho,hp,.inl ⟨e,r,l,fr,rfl,rfl,hm⟩⟩
   .cases h4
  .cases hq
 .next cs0 ha=>
  split at hq
  .next hm=>
   cases hq;have hm:=auG hm;obtain⟨x,o,_,ho,h1⟩:=hh.get _ _ ha;rcases h1 with⟨_,_,h3⟩|⟨p,e',r',l',fr,_,_,_,h4⟩|⟨p,cs,rfl,_,hp,hr,h4⟩
   .exfalso;unfold oO at h3;split at h3
    .split at h3<;>simp at h3
    .split at h3<;>simp at h3
    .split at h3<;>simp at h3
    .cases h3
   .cases h4
   .cases h4;exact⟨p,_,ho,hp,.inr ⟨cs,rfl,rfl,hr,hm⟩⟩
  .cases hq
 .cases hq
theorem Oc:∀{os:List (Option Nat)},yR os=true->∀(i j:Nat)(o:Nat),os[i]? =some (some o)->os[j]? =some (some o)->i=j:=by
 have mem:∀(os:List (Option Nat))(i o:Nat),os[i]? =some (some o)->Vd o os=true:=by
  intro os
  induction os with
  |nil=>intro i o h;simp at h
  |cons x os ih=>
   intro i o h;cases i with
   |zero=>simp at h;subst h;simp[Vd]
   |succ i=>
    have:=ih i o acs;cases x with
    |none=>rw[Vd];exact this
    |some p=>rw[Vd];split<;>first|rfl|exact this
 intro os
 induction os with
 |nil=>intro _ i j o h;simp at h
 |cons x os ih=>
  intro h i j o hi hj;cases x with
  |none=>
   rw[yR]at h;cases i with
   |zero=>simp at hi
   |succ i=>
    cases j with
    |zero=>simp at hj
    |succ j=>rw[ih h i j o ah7 amH]
  |some p=>
   rw[yR,auC]at h;cases i with
   |zero=>
    cases j with
    |zero=>rfl
    |succ j=>
     simp at hi;subst hi;have:=mem os j _ amH;rw[this]at h;simp at h
   |succ i=>
    cases j with
    |zero=>
     simp at hj;subst hj;have:=mem os i _ ah7;rw[this]at h;simp at h
    |succ j=>rw[ih h.2 i j o ah7 amH]
theorem aZ.Xy{Y Z:V}{q p:Nat}{e:TypeId}{r:au}{l:List r.den}{fr fr':Bool}(H:aZ Y q (.arr e r l fr))(hγ:Z.γ p=Y.γ q)(hw:Z.w=Y.w)
 (hf:∀b,Y.bW fr b->Z.bW fr' b) (hn:∀b,blk (Y.γ q)=some b->fr'=true->Z.n0<=b):aZ Z p (.arr e r l fr'):=by
 obtain⟨xs,hown,hr,_,hx⟩:=H;refine⟨xs,?_,hr,λb hb hfr=>hn b (by rw[← hγ];exact hb) hfr,λi x hi=>?_⟩
 .rw[hγ,hw];exact hown
 .rw[hw];exact aH.mono (λb hb=>⟨hf b hb,rfl⟩) r _ x (hx i x hi)
theorem Et{Y Z:V}(hw:Z.w=Y.w)(hf:∀fr b,Y.bW fr b->Z.bW fr b):∀(cs:List Cell)(vs:List Value),cs.flatMap Cell.refs=[]->ai Y cs vs->ai Z cs vs
 |[],[],_,H=>H
 |c::cs,v::vs,hr,⟨h1,h2⟩=>by
  rw[avL,avs]at hr;refine⟨?_,Et hw hf cs vs hr.2 h2⟩;cases c with
  |ref o=>cases hr.1
  |sl e r l fr=>
   show bY Z.w.heap (Z.bW fr) (.sl e r) v l;rw[hw];exact bY.mono (λb hb=>⟨hf fr b hb,rfl⟩) (.sl e r) v l h1
  |_=>exact h1
 |[],_::_,_,H|_::_,[],_,H=>afG
theorem ZA{X:V}:∀(as:List Arg)(us:List Value)(i:Nat),as.length=us.length->(∀j a u,as[j]? =some a->us[j]? =some u->KC X (i+j) a u)->wR X i as us
 |[],[],_,_,_=>trivial
 |a::as,u::us,i,hl,h=>⟨h 0 a u rfl rfl,ZA as us (i+1) (by simpa using hl) λj b v hb hv=>by
   have:=h (j+1) b v (by simpa using hb) (by simpa using hv);rw[show i+1+j=i+(j+1)from aaV];exact this⟩
 |[],_::_,_,hl,_|_::_,[],_,hl,_=>by simp at hl
theorem ou.get{X:V}:∀(xs:List AV)(us:List Value),ou X xs us->xs.length=us.length/\∀(i:Nat)(x:AV)(u:Value),xs[i]? =some x->us[i]? =some u->aP X x u
 |[],[],_=>⟨rfl,λi x u h=>amd⟩
 |x::xs,u::us,⟨h1,h2⟩=>by
  obtain⟨g1,g2⟩:=ou.get xs us h2;refine⟨by simp[g1],λi y v hy hv=>?_⟩;cases i with
  |zero=>simp at hy hv;subst hy hv;exact h1
  |succ i=>exact g2 i y v (by simpa using hy) (by simpa using hv)
 |[],_::_,H|_::_,[],H=>afG
theorem Jw:∀{os:List (Option Nat)}{aC:List Eff}{δ:List (Nat×ay)},nH st os aC=some δ->∀(p:Nat),
 (∀(x:ay),Fw.look δ p=some x->∃i:Nat,os[i]? =some (some p)/\
   ((∃(e:TypeId)(r:au)(l l0:List r.den)(fr:Bool),aC[i]? =some (.arr e r l)/\st.ah p=some (.arr e r l0 fr)/\x=.arr e r l false)\/(∃(cs cs0:List Cell),aC[i]? =some (.var cs)/\st.ah p=some (.var cs0)/\cs.flatMap Cell.refs=[]/\x=.var cs)))/\
 (∀i:Nat,os[i]? =some (some p)->Fw.look δ p=none->iL os aC p=true)
 |[],aC,δ,h,p=>by
  cases h;exact⟨(λx hx=>aeZ),(λi hi=>arP)⟩
 |none::os,aC,δ,h,p=>by
  rw[nH]at h;obtain⟨h1,h2⟩:=Jw h p;refine⟨λx hx=>?_,λi hi hn=>?_⟩
  .obtain⟨i,g1,g2⟩:=h1 x hx;refine⟨i+1,by simpa using g1,?_⟩;simpa[awD]using g2
  .cases i with
   |zero=>simp at hi
   |succ i=>rw[iL];exact h2 i ah7 hn
 |some o::os,aC,δ,h,p=>by
  unfold nH at h;have ZB:∀{δ'}(_:nH st os aC.tail=some δ'),(∀(x:ay),Fw.look δ' p=some x->∃i:Nat,(some o::os)[i]? =some (some p)/\
   ((∃(e:TypeId)(r:au)(l l0:List r.den)(fr:Bool),aC[i]? =some (.arr e r l)/\st.ah p=some (.arr e r l0 fr)/\x=.arr e r l false)\/(∃(cs cs0:List Cell),aC[i]? =some (.var cs)/\st.ah p=some (.var cs0)/\cs.flatMap Cell.refs=[]/\x=.var cs)))/\
   (∀i:Nat,os[i]? =some (some p)->Fw.look δ' p=none->iL os aC.tail p=true):=by
   intro δ' hδ;obtain⟨h1,h2⟩:=Jw hδ p;refine⟨λx hx=>?_,h2⟩;obtain⟨i,g1,g2⟩:=h1 x hx;exact⟨i+1,by simpa using g1,by simpa[awD]using g2⟩
  have Xz:∀{y:Eff},aC.head?=some y->aC[0]? =some y:=λhy=>by cases aC<;>simp at hy ⊢;exact hy
  have ZC:∀(_:iL os aC.tail p=true),iL (some o::os) aC p=true:=λg=>by
   rw[iL];split
   .split
    .rfl
    .exact g
   .exact g
  split at h
  .next δ' hh hδ=>
   cases h;obtain⟨h1,h2⟩:=ZB hδ;refine⟨h1,λi hi hn=>?_⟩;cases i with
   |zero=>
    simp at hi;subst hi;rw[iL,hh];simp
   |succ i=>exact ZC (h2 i ah7 hn)
  .next e r l f s l0 fr0 δ' hh ho hδ=>
   split at h
   .next hb=>
    cases h;rw[auC]at hb;have he:=auG hb.1;have hr:=au.eq_of_beq r s hb.2;subst he hr;obtain⟨h1,h2⟩:=ZB hδ;refine⟨λx hx=>?_,λi hi hn=>?_⟩
    .rw[Fw.look]at hx;split at hx
     .next y hy=>cases hx;exact h1 _ hy
     .split at hx
      .next hpo=>cases hx;have hpo:=auG hpo;subst hpo;exact⟨0,rfl,.inl ⟨e,r,l,l0,fr0,Xz hh,ho,rfl⟩⟩
      .cases hx
    .rw[Fw.look]at hn;split at hn
     .cases hn
     .next hln=>
      split at hn
      .cases hn
      .next hpo=>
       cases i with
       |zero=>simp at hi;subst hi;simp at hpo
       |succ i=>exact ZC (h2 i ah7 hln)
   .cases h
  .next cs cs0 δ' hh ho hδ=>
   split at h
   .next hr=>
    cases h;obtain⟨h1,h2⟩:=ZB hδ;refine⟨λx hx=>?_,λi hi hn=>?_⟩
    .rw[Fw.look]at hx;split at hx
     .next y hy=>cases hx;exact h1 _ hy
     .split at hx
      .next hpo=>cases hx;have hpo:=auG hpo;subst hpo;exact⟨0,rfl,.inr ⟨cs,cs0,Xz hh,ho,hr,rfl⟩⟩
      .cases hx
    .rw[Fw.look]at hn;split at hn
     .cases hn
     .next hln=>
      split at hn
      .cases hn
      .next hpo=>
       cases i with
       |zero=>simp at hi;subst hi;simp at hpo
       |succ i=>exact ZC (h2 i ah7 hln)
   .cases h
  .cases h
theorem FK:∀{os:List (Option Nat)}{aC:List Eff}{δ:List (Nat×ay)},nH st os aC=some δ->∀(i p:Nat),os[i]? =some (some p)->
 aC[i]? =some .lose\/(∃(e:TypeId)(r:au)(l:List r.den),aC[i]? =some (.arr e r l)/\∃x:ay,Fw.look δ p=some x)\/(∃(cs:List Cell),aC[i]? =some (.var cs)/\∃x:ay,Fw.look δ p=some x)
 |[],aC,δ,h,i,p,hi=>arP
 |none::os,aC,δ,h,i,p,hi=>by
  rw[nH]at h;cases i with
  |zero=>simp at hi
  |succ i=>
   have:=FK h i p ah7;simpa[awD]using this
 |some o::os,aC,δ,h,i,p,hi=>by
  unfold nH at h;have Xz:∀{y:Eff},aC.head?=some y->aC[0]? =some y:=λhy=>by cases aC<;>simp at hy ⊢;exact hy
  have lk:∀{δ':List (Nat×ay)}{z:ay},(∃x:ay,Fw.look δ' p=some x)->∃x:ay,Fw.look ((o,z)::δ') p=some x:=λ⟨x,hx⟩=>⟨x,by rw[Fw.look,hx]⟩;have lk0:∀{δ':List (Nat×ay)}{z:ay},∃x:ay,Fw.look ((o,z)::δ') o=some x:=by
   intro δ' z;rw[Fw.look];cases Fw.look δ' o with
   |some y=>exact⟨y,rfl⟩
   |none=>simp
  split at h
  .next δ' hh hδ=>
   cases h;cases i with
   |zero=>exact .inl (Xz hh)
   |succ i=>have:=FK hδ i p ah7;simpa[awD]using this
  .next e r l f s l0 fr0 δ' hh ho hδ=>
   split at h
   .cases h;cases i with
    |zero=>simp at hi;subst hi;exact .inr (.inl ⟨e,r,l,Xz hh,lk0⟩)
    |succ i=>have:=FK hδ i p ah7;rw[awD]at this;exact this.imp id λg=>g.imp (λ⟨e,r,l,g1,g2⟩=>⟨e,r,l,g1,lk g2⟩) λ⟨cs,g1,g2⟩=>⟨cs,g1,lk g2⟩
   .cases h
  .next cs cs0 δ' hh ho hδ=>
   split at h
   .cases h;cases i with
    |zero=>simp at hi;subst hi;exact .inr (.inr ⟨cs,Xz hh,lk0⟩)
    |succ i=>have:=FK hδ i p ah7;rw[awD]at this;exact this.imp id λg=>g.imp (λ⟨e,r,l,g1,g2⟩=>⟨e,r,l,g1,lk g2⟩) λ⟨cs,g1,g2⟩=>⟨cs,g1,lk g2⟩
   .cases h
  .cases h
theorem YF{aC:List Eff}{δ:List (Nat×ay)}(h:Iu aC δ=true){o:Nat}{x:ay}(hl:Fw.look δ o=some x):l7 aC o=none:=by have:=auY.1 h _ (xH δ o x hl);simpa using this
theorem ajw{aC:List Eff}{i:Nat}:(∀(e:TypeId)(r:au)(l:List r.den),aC[i]? =some (.arr e r l)->l7 aC (i*64+49)=some (.arr e r l false))/\
 (∀cs:List Cell,aC[i]? =some (.var cs)->l7 aC (i*64+48)=some (.var cs)):=by
 have h1:(i*64+49) / 64=i:=aaV;have h2:(i*64+49)%64=49:=aaV;have h3:(i*64+48) / 64=i:=aaV;have h4:(i*64+48)%64=48:=aaV;refine⟨λe r l h=>?_,λcs h=>?_⟩
 .unfold l7;rw[h1,h,h2]
 .unfold l7;rw[h3,h,h4]
theorem MZ{aC:List Eff}{q:Nat}{X:ay}(h:l7 aC q=some X):(∃(e:TypeId)(r:au)(l:List r.den),aC[q / 64]? =some (.arr e r l)/\X=.arr e r l false/\q=q / 64*64+49)\/
 (∃cs:List Cell,aC[q / 64]? =some (.var cs)/\X=.var cs/\q=q / 64*64+48):=by
 unfold l7 at h;split at h
 .next e r l he=>
  split at h
  .next hm=>cases h;have:=auG hm;exact .inl ⟨e,r,l,he,rfl,aaV⟩
  .cases h
 .next cs he=>
  split at h
  .next hm=>cases h;have:=auG hm;exact .inr ⟨cs,he,rfl,aaV⟩
  .cases h
 .cases h
theorem Rel.Vr(h:Rel w0 M T γ st a w){xs:List AV}{as:List Arg}{os:List (Option Nat)}
 (hh:qM nr st xs as os) {out:Out} {aC:List Eff} {k:Nat} (agZ:k%64=1) {δ:List (Nat×ay)}
 (hb:nH st os aC=some δ) (hfr:jH (st.kill (iL os aC)) (out.take k).2=true) {e:Ending}
 (hpost:MV (aj w0 T γ st w).foot as (γE os γ) w k out aC e w'):
 ∃v γ',e=.returned v/\Rel w0 M T γ' (((st.kill (iL os aC)).adds δ).adds (out.take k).2) a w'/\aP (aj w0 T γ' (((st.kill (iL os aC)).adds δ).adds (out.take k).2) w') (out.take k).1 v:=by
 let S:=(aj w0 T γ st w).foot
 let E:=dn as
 let ge:=γE os γ
 let XE:V:=⟨w,w.heap.size,S,ge,E⟩
 have hge:∀{q o:Nat},os[q / 64]? =some (some o)->ge q=γ o:=λhq=>ajR;have hEs:∀{q:Nat}{X:ay},E q=some X->_:=λhq=>Vq hh hq;have Pm:∀b,S b->XE.foot b:=λb hb=>⟨hb.1,λ_=>hb,λq X hq=>by obtain⟨o,Y,ho,hY,_⟩:=hEs hq;show blk (ge q)≠some b;rw[hge ho];exact hb.2.2 o Y hY⟩;have hbl:∀{q:Nat}{X:ay},E q=some X->∀b,blk (ge q)=some b->b<w.heap.size/\(w0.heap.size<=b\/M b):=λhq b hb=>ajQ;obtain⟨v,γ',rfl,h1,h2,h3,h4,h5,h6,h7,h8,h9⟩:=hpost
 let δ2:=(out.take k).2
 let K:=iL os aC
 let H:Nat->Prop:=uw E ge
 let γ2:Nat->Value:=λq=>match Fw.look δ2 q with|some _=>γ' q|none=>γ q
 let D:Nat->Bool:=λq=>(Fw.look δ q).isSome||(Fw.look δ2 q).isSome
 let lS:Nat->Option ay:=(((st.kill K).adds δ).adds δ2).ah
 have Jy:∀q,lS q=match Fw.look δ2 q with|some y=>some y|none=>match Fw.look δ q with|some y=>some y|none=>(st.kill K).ah q:=λq=>by show(((st.kill K).adds δ).adds δ2).ah q=_;rw[mO,mO];cases Fw.look δ2 q<;>cases Fw.look δ q<;>rfl
 have Vs:∀{q:Nat}{y:ay},Fw.look δ2 q=some y->γ2 q=γ' q:=λhq=>by show(match Fw.look δ2 _ with|some _=>_|none=>_)=_;rw[hq]
 have Oe:∀{q:Nat},Fw.look δ2 q=none->γ2 q=γ q:=λhq=>by show(match Fw.look δ2 _ with|some _=>_|none=>_)=_;rw[hq]
 have hH:∀b,H b->∃o x,st.ah o=some x/\blk (γ o)=some b:=by rintro b ⟨q,X,hq,hb⟩;obtain⟨o,Y,ho,hY,_⟩:=hEs hq;rw[hge ho]at hb;exact⟨o,Y,hY,hb⟩
 have hback:∀{q:Nat}{x:ay},Fw.look δ q=some x->∃c,l7 aC c=some x/\ge c=γ q/\os[c / 64]? =some (some q)/\
  ((∃(e:TypeId)(r:au)(l l0:List r.den)(fr:Bool),st.ah q=some (.arr e r l0 fr)/\x=.arr e r l false)\/(∃(cs cs0:List Cell),st.ah q=some (.var cs0)/\cs.flatMap Cell.refs=[]/\x=.var cs)):=by
  intro q x hq;obtain⟨i,hi,hk⟩:=(Jw hb q).1 x hq;have d1:(i*64+49) / 64=i:=aaV;have d3:(i*64+48) / 64=i:=aaV;rcases hk with⟨e,r,l,l0,fr,g1,g2,rfl⟩|⟨cs,cs0,g1,g2,g3,rfl⟩
  .exact⟨i*64+49,ajw.1 e r l g1,hge (by rw[d1];exact hi),by rw[d1];exact hi,.inl ⟨e,r,l,l0,fr,g2,rfl⟩⟩
  .exact⟨i*64+48,ajw.2 cs g1,hge (by rw[d3];exact hi),by rw[d3];exact hi,.inr ⟨cs,cs0,g2,g3,rfl⟩⟩
 have aoz:∀{q:Nat}{y:ay},l7 aC q=some y->∀b,blk (ge q)=some b->b<w.heap.size:=by
  intro q y hq b hbk;have hbk0:=hbk;show b<w.heap.size;have:∃o,os[q / 64]? =some (some o):=by
   have hbk':blk (match os[q / 64]? with|some (some o)=>γ o|_=>undef)=some b:=hbk;cases ho:os[q / 64]? with
   |none=>rw[ho]at hbk';cases hbk'
   |some z=>cases z with
    |none=>rw[ho]at hbk';cases hbk'
    |some o=>exact⟨o,rfl⟩
  obtain⟨o,ho⟩:=this;rw[hge ho]at hbk;have hex:∃Y,st.ah o=some Y:=by
   rcases FK hb _ _ ho with g|⟨e,r,l,g,x,hx⟩|⟨cs,g,x,hx⟩
   .rcases MZ hq with⟨e,r,l,g',_⟩|⟨cs,g',_⟩<;>(rw[g]at g';cases g')
   .obtain⟨c,_,_,_,hk⟩:=hback hx;rcases hk with⟨_,_,_,_,_,g,_⟩|⟨_,_,g,_⟩<;>exact⟨_,g⟩
   .obtain⟨c,_,_,_,hk⟩:=hback hx;rcases hk with⟨_,_,_,_,_,g,_⟩|⟨_,_,g,_⟩<;>exact⟨_,g⟩
  obtain⟨Y,hY⟩:=hex;exact(h.lt o Y b hY hbk).1
 let Y2:V:=⟨w',w.heap.size,qc S as aC ge,γ',Fw.look δ2⟩
 have hKH:∀q x b,D q=false->K q=false->st.ah q=some x->blk (γ q)=some b->¬H b:=by
  rintro q x b hD hK hq hbq ⟨c,X,hc,hbc⟩;obtain⟨o,Y,ho,hY,_⟩:=hEs hc;rw[hge ho]at hbc;by_cases hoq:o=q
  .subst hoq;have hD':Fw.look δ o=none:=by
    have:(Fw.look δ o).isSome=false:=by have h0:((Fw.look δ o).isSome||(Fw.look δ2 o).isSome)=false:=hD;rw[avR]at h0;exact h0.1
    cases hl:Fw.look δ o with|none=>rfl|some _=>rw[hl]at this;cases this
   have:=(Jw hb o).2 _ ho hD';have hK':iL os aC o=false:=hK;rw[this]at hK';cases hK'
  .exact h.sep o Y q x b hY hq hoq hbc hbq
 have alK:∀b,Y2.foot b->V.foot ⟨w',w0.heap.size,T,γ2,lS⟩ b:=by
  intro b hbf;refine⟨hbf.1,λhlt=>?_,λq x hq e=>?_⟩
  .have hlt0:b<w0.heap.size:=hlt;have hlt':b<w.heap.size:=au6 hlt0 h.grow;rcases(hbf.2.1 hlt').1 with g|⟨c,X,hc,hbc⟩
   .exact g.2.1 hlt
   .exact h.mT b ((hbl hc b hbc).2.resolve_left aaV)
  .have hq':lS q=some x:=hq;have e':blk (γ2 q)=some b:=e;rw[Jy]at hq';cases hl2:Fw.look δ2 q with
   |some y=>
    rw[Vs hl2]at e';exact hbf.2.2 q y hl2 e'
   |none=>
    rw[Oe hl2]at e';rw[hl2]at hq';cases hl:Fw.look δ q with
    |some y=>
     obtain⟨c,YG,hcg,hco,_⟩:=hback hl;rw[← hcg]at e';have hlt:b<w.heap.size:=aoz YG b e';exact(hbf.2.1 hlt).2 c y YG e'
    |none=>
     rw[hl]at hq';obtain⟨z,hz,_,hKq⟩:=wQ K hq';have hlt:=(h.lt q z b hz e').1;rcases(hbf.2.1 hlt).1 with g|g
     .exact g.2.2 q z hz e'
     .exact hKH q z b (by show((Fw.look δ q).isSome||(Fw.look δ2 q).isSome)=false;rw[hl,hl2];rfl) hKq hz e' g
 have ajx:∀fr b,Y2.bW fr b->V.bW ⟨w',w0.heap.size,T,γ2,lS⟩ fr b:=λfr b hbf=>⟨alK b hbf.1,λe=>auK h.grow (hbf.2 e)⟩;have hle2:V.le Y2 ⟨w',w0.heap.size,T,γ2,lS⟩:=by
  have hin:∀{o:Nat}{x:ay},Fw.look δ2 o=some x->lS o=some x:=λhl=>by rw[Jy,hl]
  exact⟨h.grow,λb hbf=>⟨alK b hbf,rfl⟩,λo cs hl=>⟨⟨cs,hin hl⟩,Vs hl⟩,λo e r l fr hl=>⟨⟨l,fr,hin hl⟩,Vs hl⟩⟩
 have hmain:=h.update (w':=w') (K:=K) (D:=D) (H:=H) (lS:=lS) (γ2:=γ2) h1 h2 h3 h4 hH h5
  (λq hD=>by
    have h0:((Fw.look δ q).isSome||(Fw.look δ2 q).isSome)=false:=hD;rw[avR]at h0;have l1:Fw.look δ q=none:=by cases hl:Fw.look δ q with|none=>rfl|some _=>rw[hl]at h0;cases h0.1
    have l2:Fw.look δ2 q=none:=by cases hl:Fw.look δ2 q with|none=>rfl|some _=>rw[hl]at h0;cases h0.2
    exact⟨by rw[Jy,l2,l1],Oe l2⟩)
  hKH
  (λq x hD hq b hbq=>by
    rw[Jy]at hq;cases hl2:Fw.look δ2 q with
    |some y=>
     rw[Vs hl2]at hbq;have:=(h7 q y hl2).2 b hbq;exact⟨this.1,this.2.1⟩
    |none=>
     rw[Oe hl2]at hbq;rw[hl2]at hq;cases hl:Fw.look δ q with
     |some y=>
      obtain⟨c,YG,hcg,hco,hk⟩:=hback hl;rw[← hcg]at hbq;have hlt:=aoz YG b hbq;refine⟨au6 hlt h4,.inr ?_⟩;have hcE:∃X,E c=some X:=by
       obtain⟨x',o',hx',ho',hone⟩:=hh.get (c / 64) (as[c / 64]' alX) (auJ _);rw[hco]at ho';cases ho';rcases hone with⟨g,_⟩|⟨q',e,r,l,fr,g1,_,g2,g3⟩|⟨q',cs,g1,_,g2,_,g3⟩
       .cases g
       .cases g1;rcases hk with⟨e1,r1,l1,l0,fr1,g4,rfl⟩|⟨cs1,cs0,g4,_⟩
        .rcases MZ YG with⟨_,_,_,_,_,hcq⟩|⟨_,_,g,_⟩
         .refine⟨.arr e r l false,?_⟩;show dn as c=_;have hm:c%64=49:=aaV;unfold dn;rw[auJ alX,g3,hm]
         .cases g
        .rw[g2]at g4;cases g4
       .cases g1;rcases hk with⟨e1,r1,l1,l0,fr1,g4,rfl⟩|⟨cs1,cs0,g4,_,rfl⟩
        .rw[g2]at g4;cases g4
        .rcases MZ YG with⟨_,_,_,_,g,_⟩|⟨_,_,_,hcq⟩
         .cases g
         .refine⟨.var (cs.map (Cell.view st)),?_⟩;show dn as c=_;have hm:c%64=48:=aaV;unfold dn;rw[auJ alX,g3,hm]
      obtain⟨X,hX⟩:=hcE;exact⟨c,X,hX,hbq⟩
     |none=>have h0:((Fw.look δ q).isSome||(Fw.look δ2 q).isSome)=true:=hD;rw[hl,hl2]at h0;cases h0)
  (λ_ q x hD hq=>by
    rw[Jy]at hq;cases hl2:Fw.look δ2 q with
    |some y=>
     rw[hl2]at hq;cases hq;exact aZ.mono hle2 q x (λ_ _=>rfl) (Vs hl2) (h7 q x hl2).1
    |none=>
     rw[hl2]at hq;cases hl:Fw.look δ q with
     |some y=>
      rw[hl]at hq;cases hq;obtain⟨c,YG,hcg,hco,hk⟩:=hback hl;obtain⟨g1,g2⟩:=h9 c x YG;have hγq:γ2 q=γ' c:=by rw[Oe hl2,g1];exact hcg.symm
      rcases hk with⟨e,r,l,l0,fr,_,rfl⟩|⟨cs,cs0,_,hr,rfl⟩
      .exact aZ.Xy (Y:=Y2) g2 hγq rfl (λb hbf=>ajx false b hbf) (λb _ e=>ahb)
      .obtain⟨b,arr,t,k1,k2,k3⟩:=g2;exact⟨b,arr,t,hγq.trans k1,k2,Et (Y:=Y2) (Z:=⟨w',w0.heap.size,T,γ2,lS⟩) rfl ajx _ _ hr k3⟩
     |none=>have h0:((Fw.look δ q).isSome||(Fw.look δ2 q).isSome)=true:=hD;rw[hl,hl2]at h0;cases h0)
  (λp1 p2 x y b hD1 hD2 hq1 hq2 hne hb1=>by
    rw[Jy]at hq1 hq2;cases l1:Fw.look δ2 p1 with
    |some y1=>
     rw[Vs l1]at hb1;cases l2:Fw.look δ2 p2 with
     |some y2=>rw[Vs l2];exact h8 p1 y1 p2 y2 b l1 l2 hne hb1
     |none=>
      rw[Oe l2];cases m2:Fw.look δ p2 with
      |some y2=>
       obtain⟨c,YG,hcg,hco,hk⟩:=hback m2;rw[← hcg];exact((h7 p1 y1 l1).2 b hb1).2.2 c y2 YG
      |none=>
       have h0:((Fw.look δ p2).isSome||(Fw.look δ2 p2).isSome)=true:=hD2;rw[m2,l2]at h0;cases h0
    |none=>
     rw[Oe l1]at hb1;cases m1:Fw.look δ p1 with
     |none=>
      have h0:((Fw.look δ p1).isSome||(Fw.look δ2 p1).isSome)=true:=hD1;rw[m1,l1]at h0;cases h0
     |some y1=>
      obtain⟨c1,asi,asj,atY,hk1⟩:=hback m1;cases l2:Fw.look δ2 p2 with
      |some y2=>
       rw[Vs l2];intro e;rw[← asj]at hb1;exact((h7 p2 y2 l2).2 b e).2.2 c1 y1 asi hb1
      |none=>
       rw[Oe l2];cases m2:Fw.look δ p2 with
       |none=>
        have h0:((Fw.look δ p2).isSome||(Fw.look δ2 p2).isSome)=true:=hD2;rw[m2,l2]at h0;cases h0
       |some y2=>
        obtain⟨c2,atZ,at1,at6,hk2⟩:=hback m2;have e1:∃z,st.ah p1=some z:=by rcases hk1 with⟨_,_,_,_,_,g,_⟩|⟨_,_,g,_⟩<;>exact⟨_,g⟩
        have e2:∃z,st.ah p2=some z:=by rcases hk2 with⟨_,_,_,_,_,g,_⟩|⟨_,_,g,_⟩<;>exact⟨_,g⟩
        obtain⟨z1,e1⟩:=e1;obtain⟨z2,e2⟩:=e2;exact h.sep p1 z1 p2 z2 b e1 e2 hne hb1)
  (λq cs hD hK hq=>by
    cases l2:Fw.look δ2 q with
    |some y=>have:=FD hfr l2;rw[nY K hK hq]at this;cases this
    |none=>
     refine⟨?_,Oe l2⟩;cases m2:Fw.look δ q with
     |none=>
      have h0:((Fw.look δ q).isSome||(Fw.look δ2 q).isSome)=true:=hD;rw[m2,l2]at h0;cases h0
     |some y=>
      obtain⟨c,_,_,_,hk⟩:=hback m2;rcases hk with⟨_,_,_,_,_,g,_⟩|⟨cs',_,g,_,rfl⟩
      .rw[hq]at g;cases g
      .exact⟨cs',by rw[Jy,l2,m2]⟩)
  (λq e r l fr hD hK hq=>by
    cases l2:Fw.look δ2 q with
    |some y=>have:=FD hfr l2;rw[nY K hK hq]at this;cases this
    |none=>
     refine⟨?_,Oe l2⟩;cases m2:Fw.look δ q with
     |none=>
      have h0:((Fw.look δ q).isSome||(Fw.look δ2 q).isSome)=true:=hD;rw[m2,l2]at h0;cases h0
     |some y=>
      obtain⟨c,_,_,_,hk⟩:=hback m2;rcases hk with⟨e',r',l',l0,fr',g,rfl⟩|⟨_,_,g,_⟩
      .rw[hq]at g;cases g;exact⟨l',false,by rw[Jy,l2,m2]⟩
      .rw[hq]at g;cases g)
  (λq cs hD hq=>by
    rw[Jy]at hq;cases l2:Fw.look δ2 q with
    |some y=>
     rw[l2]at hq;cases hq;have h0:=out.agJ k agZ l2;refine .inr ?_;cases hT:T.N q with
     |none=>rfl
     |some v'=>have:=T.n48 q v' hT;omega
    |none=>
     rw[l2]at hq;cases m2:Fw.look δ q with
     |none=>
      have h0:((Fw.look δ q).isSome||(Fw.look δ2 q).isSome)=true:=hD;rw[m2,l2]at h0;cases h0
     |some y=>
      rw[m2]at hq;cases hq;obtain⟨c,_,_,_,hk⟩:=hback m2;rcases hk with⟨_,_,_,_,_,_,g⟩|⟨_,cs0,g,_,_⟩
      .cases g
      .exact .inl ⟨cs0,g,Oe l2⟩)
 refine⟨v,γ2,rfl,?_,aP.mono hle2 _ _ h6⟩;have hst:(((st.kill K).adds δ).adds δ2)={n:=st.n,tmps:=λt=>(st.tmps t).kill K,ah:=lS}:=by
  have e1:=EN δ2 ((st.kill K).adds δ);have e2:=EN δ (st.kill K);have gen:∀(s:St)(n:Nat)(t:Nat->AV),s.n=n->s.tmps=t->s={n:=n,tmps:=t,ah:=s.ah}:=λs n t g1 g2=>by cases s;subst g1 g2;rfl
  exact gen _ _ _ (e1.2.trans e2.2) (e1.1.trans e2.1)
 show Rel w0 M T γ2 (((st.kill K).adds δ).adds δ2) a w';rw[hst];exact hmain.1
theorem Rel.ajy{G:jT}(hE:ru P G Θ Γ w0 M)(h:Rel w0 M T γ st a w){xs:List AV}{us:Array Value}{as:List Arg}{os:List (Option Nat)}(hx:ou (aj w0 T γ st w) xs us.toList)
 (hh:qM true st xs as os) (hnd:yR os=true) {f:FuncId} {con:CZ} {p:Prop} {ρ:Ja} {k:Nat} (agZ:k%64=1) (hok:jl P G f con) (hc:con as=some (p,ρ)) (hp:p)
 (hch:∀t,ρ.R t->∃δ,nH st os (ρ.aC t)=some δ/\jH (st.kill (iL os (ρ.aC t))) ((ρ.out t).take k).2=true/\Iu (ρ.aC t) ((ρ.out t).take k).2=true):
 Calls P f us w λe w'=>∃t δ,ρ.R t/\nH st os (ρ.aC t)=some δ/\∃v γ',e=.returned v/\
  Rel w0 M T γ' (((st.kill (iL os (ρ.aC t))).adds δ).adds ((ρ.out t).take k).2) a w'/\aP (aj w0 T γ' (((st.kill (iL os (ρ.aC t))).adds δ).adds ((ρ.out t).take k).2) w') ((ρ.out t).take k).1 v:=by
 let S:=(aj w0 T γ st w).foot
 let E:=dn as
 let ge:=γE os γ
 let XE:V:=⟨w,w.heap.size,S,ge,E⟩
 have hge:∀{q o:Nat},os[q / 64]? =some (some o)->ge q=γ o:=λhq=>ajR;have hEs:∀{q:Nat}{X:ay},E q=some X->_:=λhq=>Vq hh hq;have Pm:∀b,S b->XE.foot b:=λb hb=>⟨hb.1,λ_=>hb,λq X hq=>by obtain⟨o,Y,ho,hY,_⟩:=hEs hq;show blk (ge q)≠some b;rw[hge ho];exact hb.2.2 o Y hY⟩;have hbl:∀{q:Nat}{X:ay},E q=some X->∀b,blk (ge q)=some b->b<w.heap.size/\(w0.heap.size<=b\/M b):=λhq b hb=>ajQ;have aky:∀o x,E o=some x->aZ XE o x/\∀b,blk (ge o)=some b->b<w.heap.size/\G.n<=b:=by
  intro q X hq;refine⟨?_,λb hb=>⟨(hbl hq b hb).1,?_⟩⟩
  .obtain⟨o,Y,ho,hY,hk⟩:=hEs hq;have hO:=h.ah o Y hY;rcases hk with⟨e,r,l,fr,rfl,rfl,_⟩|⟨cs,rfl,rfl,hr,_⟩
   .exact aZ.Xy (Z:=XE) hO (hge ho) rfl (λb hb=>⟨Pm b hb.1,λe=>ahb⟩) (λb _ e=>ahb)
   .obtain⟨b,arr,t,hγ,hheap,hcs⟩:=hO;refine⟨b,arr,t,(hge ho).trans hγ,hheap,?_⟩;have:=Cells.tu h (γ0:=λ_=>undef) cs _ hr hcs;exact Et (Y:=⟨w,w.heap.size,S,λ_=>undef,λ_=>none⟩) (Z:=XE) rfl (λfr b hb=>⟨⟨hb.1.1,λhlt=>hb.1.2.1 hlt,λq' X' hq'=>by obtain⟨o',Y',ho',hY',_⟩:=hEs hq';show blk (ge q')≠some b;rw[hge ho'];exact(hb.1.2.1 hb.1.1).2.2 o' Y' hY'⟩,hb.2⟩) _ _ (by rw[List.flatMap_map];rw[axl]at hr ⊢;intro c hc;have:=hr c hc;cases c<;>first|rfl|(cases this;done)) this
  .rcases(hbl hq b hb).2 with g|g
   .exact auK (G.low w0 hE.ok) g
   .exact hE.low b g
 have hidx:∀{q q':Nat}{X X':ay},E q=some X->E q'=some X'->q / 64=q' / 64->q=q':=by
  intro q q' X X' hq hq' hi;have key:∀{q:Nat}{X:ay},E q=some X->∃a,as[q / 64]? =some a/\((∃(e:TypeId)(r:au)(l:List r.den),a=.own e r l/\q%64=49)\/∃cs,a=.ptr cs/\q%64=48):=by
   intro q X hq;have hq:dn as q=some X:=hq;unfold dn at hq;split at hq
   .next e r l ha=>
    split at hq
    .next hm=>exact⟨_,ha,.inl ⟨e,r,l,rfl,auG hm⟩⟩
    .cases hq
   .next cs ha=>
    split at hq
    .next hm=>exact⟨_,ha,.inr ⟨cs,rfl,auG hm⟩⟩
    .cases hq
   .cases hq
  obtain⟨a1,h1,k1⟩:=key hq;obtain⟨a2,h2,k2⟩:=key hq';rw[hi,h2]at h1;cases h1;rcases k1 with⟨e,r,l,rfl,m1⟩|⟨cs,rfl,m1⟩<;>rcases k2 with⟨e',r',l',k3,m2⟩|⟨cs',k3,m2⟩<;>first|(cases k3;done)|omega
 have hsep:∀o x q y b,E o=some x->E q=some y->o≠q->blk (ge o)=some b->blk (ge q)≠some b:=by intro q1 X1 q2 X2 b h1 h2 hne hb;obtain⟨o1,Y1,ho1,hY1,_⟩:=hEs h1;obtain⟨o2,Y2,ho2,hY2,_⟩:=hEs h2;rw[hge ho1]at hb;rw[hge ho2];refine h.sep o1 Y1 o2 Y2 b hY1 hY2 ?_ hb;rintro rfl;exact hne (hidx h1 h2 (Oc hnd _ _ _ ho1 ho2))
 have hargs:wR XE 0 as us.toList:=by
  obtain⟨hl,hget⟩:=ou.get xs us.toList hx;refine ZA as us.toList 0 (by rw[hh.length.1,hl]) λj b u hb hu=>?_;rw[au8];obtain⟨x,o,hxj,hoj,hone⟩:=hh.get j b hb;have hrep:=hget j x u hxj hu;have d1:(j*64+49) / 64=j:=aaV;have d2:(j*64+49)%64=49:=aaV;have d3:(j*64+48) / 64=j:=aaV;have d4:(j*64+48)%64=48:=aaV;rcases hone with⟨rfl,hr,ha⟩|⟨q,e,r,l,fr,rfl,rfl,hq,rfl⟩|⟨q,cs,rfl,rfl,hq,hr,rfl⟩
  .have hr:=hr rfl;have hr2:=Ar h (γ0:=λ_=>undef) [x] [u] [b] ha (by show x.refs++[]=[];rw[hr];rfl) ⟨hrep,trivial⟩;have hle:V.le ⟨w,w.heap.size,S,λ_=>undef,λ_=>none⟩ XE:=⟨auH _,λc hcc=>⟨Pm c (hcc.2.1 hcc.1),rfl⟩,(λ_ _ hcc=>by cases hcc),(λ_ _ _ _ _ hcc=>by cases hcc)⟩;have hA:=hr2.1;cases b with
   |sv v=>exact dF.mono hle v u hA
   |kp cs=>exact aP.mono hle (.fA cs 0) u hA
   |fn g caps=>exact aP.mono hle (.fn g caps) u hA
   |own _ _ _=>exact hA.elim
   |ptr _=>exact hA.elim
  .obtain⟨_,hu2,hone⟩:=hrep;refine⟨⟨e,r,l,false,?_⟩,?_,hone⟩
   .show dn as (j*64+49)=_;unfold dn;rw[d1,hb,d2]
   .rw[hu2];show _=ge (j*64+49);exact(hge (by rw[d1];exact hoj)).symm
  .obtain⟨c,cs',_,hγ,hv⟩:=hrep;refine⟨c,cs.map (Cell.view st),?_,?_,hv⟩
   .show dn as (j*64+48)=_;unfold dn;rw[d3,hb,d4]
   .exact(hge (by rw[d3];exact hoj)).trans hγ
 refine((hok as p ρ hc hp).2 k S ge us w (hE.at h) hargs aky hsep λt ht o x hl=>?_).mono ?_
 .obtain⟨δ,_,_,h3⟩:=hch t ht;exact YF h3 hl
 .rintro e w' ⟨t,ht,hpost⟩;obtain⟨δ,g1,g2,_⟩:=hch t ht;obtain⟨v,γ',rfl,g3,g4⟩:=h.Vr hh agZ g1 g2 hpost;exact⟨t,δ,ht,g1,v,γ',rfl,g3,g4⟩
def KH(aC:List Eff):Bool:=aC.all λ|.lose=>true|.arr _ _ _=>false|.var cs=>cs.all Cell.made
theorem ag0{aC:List Eff}(h:KH aC=true){q:Nat}{X:ay}(hq:l7 aC q=some X):Xx X:=by
 rcases MZ hq with⟨e,r,l,g,_⟩|⟨cs,g,rfl,_⟩
 .have:=auY.1 h _ (avk g);cases this
 .exact auY.1 h _ (avk g)
theorem MV.made{S S':Nat->Prop}{args:List Arg}{k:Nat}{out:Out}{aC:List Eff}{e:Ending}(h:MV S args γ w k out aC e w')(hm:out.made=true)(hf:KH aC=true):MV S' args γ w k out aC e w':=by
 obtain⟨v,γ',rfl,h1,h2,h3,h4,h5,h6,h7,h8,h9⟩:=h;refine⟨v,γ',rfl,h1,h2,h3,h4,h5,(out.Vl k hm _ (qc S' args aC γ) v).1 h6,λo x hl=>⟨?_,(h7 o x hl).2⟩,h8,λo x hq=>⟨(h9 o x hq).1,?_⟩⟩
 .exact aZ.made (qc S' args aC γ) o x ((out.Vl k hm ⟨w',w.heap.size,S,γ',look (out.take k).2⟩ (qc S' args aC γ) v).2 _ (xH _ _ _ hl)) (h7 o x hl).1
 .exact aZ.made (qc S' args aC γ) o x (ag0 hf hq) (h9 o x hq).2
theorem Rel.ag1{G:jT}(hE:ru P G Θ Γ w0 M)(h:Rel w0 M T γ st a w){xs:List AV}{us:Array Value}{as:List Arg}{os:List (Option Nat)}(hx:ou (aj w0 T γ st w) xs us.toList)
 (hh:qM false st xs as os) (hnd:yR os=true) {f:FuncId} {con:CZ} {p:Prop} {ρ:Ja} {k:Nat} (agZ:k%64=1) (hok:jl P G f con) (hc:con as=some (p,ρ)) (hp:p)
 (hown:∀(q:Nat)(e:TypeId)(r:au)(l:List r.den),dn as q≠some (.arr e r l false)) (aoB:∀t,ρ.R t->(ρ.out t).made=true/\KH (ρ.aC t)=true)
 (hch:∀t,ρ.R t->∃δ,nH st os (ρ.aC t)=some δ/\jH (st.kill (iL os (ρ.aC t))) ((ρ.out t).take k).2=true/\Iu (ρ.aC t) ((ρ.out t).take k).2=true):
 Calls P f us w λe w'=>∃t δ,ρ.R t/\nH st os (ρ.aC t)=some δ/\∃v γ',e=.returned v/\
  Rel w0 M T γ' (((st.kill (iL os (ρ.aC t))).adds δ).adds ((ρ.out t).take k).2) a w'/\aP (aj w0 T γ' (((st.kill (iL os (ρ.aC t))).adds δ).adds ((ρ.out t).take k).2) w') ((ρ.out t).take k).1 v:=by
 let E:=dn as
 let ge:=γE os γ
 let S:Nat->Prop:=λb=>b<w.heap.size/\∀q X,E q=some X->blk (ge q)≠some b
 let XE:V:=⟨w,w.heap.size,S,ge,E⟩
 have hge:∀{q o:Nat},os[q / 64]? =some (some o)->ge q=γ o:=λhq=>ajR;have hEs:∀{q:Nat}{X:ay},E q=some X->_:=λhq=>Vq hh hq;have Pm:∀b,S b->XE.foot b:=λb hb=>⟨hb.1,λ_=>hb,hb.2⟩;have hS1:∀b,(aj w0 T γ st w).foot b->S b:=λb hb=>⟨hb.1,λq X hq=>by obtain⟨o,Y,ho,hY,_⟩:=hEs hq;rw[hge ho];exact hb.2.2 o Y hY⟩;have hS2:∀o e r l fr b,st.ah o=some (.arr e r l fr)->blk (γ o)=some b->S b:=λo e r l fr b ho hb=>⟨(h.lt o _ b ho hb).1,λq X hq=>by
  obtain⟨o',Y,ho',hY,hk⟩:=hEs hq;rw[hge ho'];rcases hk with⟨e',r',l',fr',rfl,_,_⟩|⟨cs,_,rfl,_,_⟩
  .exact(hown q e' r' l' hq).elim
  .exact h.sep o _ o' _ b ho hY (λe=>by subst e;rw[ho]at hY;cases hY) hb⟩
 have hbl:∀{q:Nat}{X:ay},E q=some X->∀b,blk (ge q)=some b->b<w.heap.size/\(w0.heap.size<=b\/M b):=λhq b hb=>ajQ;have aky:∀o x,E o=some x->aZ XE o x/\∀b,blk (ge o)=some b->b<w.heap.size/\G.n<=b:=by
  intro q X hq;refine⟨?_,λb hb=>⟨(hbl hq b hb).1,?_⟩⟩
  .obtain⟨o,Y,ho,hY,hk⟩:=hEs hq;have hO:=h.ah o Y hY;rcases hk with⟨e,r,l,fr,rfl,rfl,_⟩|⟨cs,rfl,rfl,hr,_⟩
   .exact aZ.Xy (Z:=XE) hO (hge ho) rfl (λb hb=>⟨Pm b (hS1 b hb.1),λe=>ahb⟩) (λb _ e=>ahb)
   .obtain⟨b,arr,t,hγ,hheap,hcs⟩:=hO;refine⟨b,arr,t,(hge ho).trans hγ,hheap,?_⟩;have:=Cells.tu h (γ0:=λ_=>undef) cs _ hr hcs;exact Et (Y:=⟨w,w.heap.size,(aj w0 T γ st w).foot,λ_=>undef,λ_=>none⟩) (Z:=XE) rfl (λfr b hb=>⟨⟨hb.1.1,λhlt=>hS1 b (hb.1.2.1 hlt),(hS1 b (hb.1.2.1 hb.1.1)).2⟩,hb.2⟩) _ _ (by rw[List.flatMap_map];rw[axl]at hr ⊢;intro c hc;have:=hr c hc;cases c<;>first|rfl|(cases this;done)) this
  .rcases(hbl hq b hb).2 with g|g
   .exact auK (G.low w0 hE.ok) g
   .exact hE.low b g
 have hidx:∀{q q':Nat}{X X':ay},E q=some X->E q'=some X'->q / 64=q' / 64->q=q':=by
  intro q q' X X' hq hq' hi;have key:∀{q:Nat}{X:ay},E q=some X->∃a,as[q / 64]? =some a/\((∃(e:TypeId)(r:au)(l:List r.den),a=.own e r l/\q%64=49)\/∃cs,a=.ptr cs/\q%64=48):=by
   intro q X hq;have hq:dn as q=some X:=hq;unfold dn at hq;split at hq
   .next e r l ha=>
    split at hq
    .next hm=>exact⟨_,ha,.inl ⟨e,r,l,rfl,auG hm⟩⟩
    .cases hq
   .next cs ha=>
    split at hq
    .next hm=>exact⟨_,ha,.inr ⟨cs,rfl,auG hm⟩⟩
    .cases hq
   .cases hq
  obtain⟨a1,h1,k1⟩:=key hq;obtain⟨a2,h2,k2⟩:=key hq';rw[hi,h2]at h1;cases h1;rcases k1 with⟨e,r,l,rfl,m1⟩|⟨cs,rfl,m1⟩<;>rcases k2 with⟨e',r',l',k3,m2⟩|⟨cs',k3,m2⟩<;>first|(cases k3;done)|omega
 have hsep:∀o x q y b,E o=some x->E q=some y->o≠q->blk (ge o)=some b->blk (ge q)≠some b:=by intro q1 X1 q2 X2 b h1 h2 hne hb;obtain⟨o1,Y1,ho1,hY1,_⟩:=hEs h1;obtain⟨o2,Y2,ho2,hY2,_⟩:=hEs h2;rw[hge ho1]at hb;rw[hge ho2];refine h.sep o1 Y1 o2 Y2 b hY1 hY2 ?_ hb;rintro rfl;exact hne (hidx h1 h2 (Oc hnd _ _ _ ho1 ho2))
 have hargs:wR XE 0 as us.toList:=by
  obtain⟨hl,hget⟩:=ou.get xs us.toList hx;refine ZA as us.toList 0 (by rw[hh.length.1,hl]) λj b u hb hu=>?_;rw[au8];obtain⟨x,o,hxj,hoj,hone⟩:=hh.get j b hb;have hrep:=hget j x u hxj hu;have d1:(j*64+49) / 64=j:=aaV;have d2:(j*64+49)%64=49:=aaV;have d3:(j*64+48) / 64=j:=aaV;have d4:(j*64+48)%64=48:=aaV;rcases hone with⟨rfl,hr,ha⟩|⟨q,e,r,l,fr,rfl,rfl,hq,rfl⟩|⟨q,cs,rfl,rfl,hq,hr,rfl⟩
  .have hr2:=FH h (γ0:=λ_=>undef) hS1 hS2 [x] [u] [b] ha ⟨hrep,trivial⟩;have hle:V.le ⟨w,w.heap.size,S,λ_=>undef,λ_=>none⟩ XE:=⟨auH _,λc hcc=>⟨Pm c (hcc.2.1 hcc.1),rfl⟩,(λ_ _ hcc=>by cases hcc),(λ_ _ _ _ _ hcc=>by cases hcc)⟩;have hA:=hr2.1;cases b with
   |sv v=>exact dF.mono hle v u hA
   |kp cs=>exact aP.mono hle (.fA cs 0) u hA
   |fn g caps=>exact aP.mono hle (.fn g caps) u hA
   |own _ _ _=>exact hA.elim
   |ptr _=>exact hA.elim
  .obtain⟨_,hu2,hone⟩:=hrep;refine⟨⟨e,r,l,false,?_⟩,?_,hone⟩
   .show dn as (j*64+49)=_;unfold dn;rw[d1,hb,d2]
   .rw[hu2];show _=ge (j*64+49);exact(hge (by rw[d1];exact hoj)).symm
  .obtain⟨c,cs',_,hγ,hv⟩:=hrep;refine⟨c,cs.map (Cell.view st),?_,?_,hv⟩
   .show dn as (j*64+48)=_;unfold dn;rw[d3,hb,d4]
   .exact(hge (by rw[d3];exact hoj)).trans hγ
 refine((hok as p ρ hc hp).2 k S ge us w (hE.at h) hargs aky hsep λt ht o x hl=>?_).mono ?_
 .obtain⟨δ,_,_,h3⟩:=hch t ht;exact YF h3 hl
 .rintro e w' ⟨t,ht,hpost⟩;obtain⟨δ,g1,g2,_⟩:=hch t ht;obtain⟨v,γ',rfl,g3,g4⟩:=h.Vr hh agZ g1 g2 (hpost.made (aoB t ht).1 (aoB t ht).2);exact⟨t,δ,ht,g1,v,γ',rfl,g3,g4⟩
theorem aeQ{base size n:Nat}{e:TypeId}{v:Value}{xs:List Value}(hown:w.ownsRow base e size v n xs):v.oneCell'=true/\(∀ad,v≠ .pointer (some ad)):=by rcases hown.2 with⟨h1,_⟩|⟨g,cap,cur,h1,_⟩<;>rw[h1]<;>exact⟨rfl,λ_ e=>ahb⟩
theorem X4(hΘ:∀t ti,Θ t=some ti->lI P t ti)(h:Rel w0 M T γ st a w){t ty e:TypeId}{ti te:TI}(ht:Θ t=some ti)(hk:ti.kind=.slice e)(he:Θ e=some te)(k:Nat)(hpos:0<te.cells.len)
 {y:Cell} {news:List te.cells.den} {src:Value} (hy:aO (aj w0 T γ st w) y src)
 (hget:y.get st (.sl e te.cells)=some news) (hbig:news.length<=big):
 ∃u w' γ',(Builtin.append_ #[t,t] ty #[.slice none 0 0,src]).run P w=.ok u w'/\Rel w0 M T γ' ((st.kill (Nat.beq k ·)).add k (.arr e te.cells news (y.wP te.cells st))) a w'/\
  aP (aj w0 T γ' ((st.kill (Nat.beq k ·)).add k (.arr e te.cells news (y.wP te.cells st))) w') (.sv (.one (.ref k))) u:=by
 obtain⟨v',w',ns,hrun,hown',hg,hnr,hgb⟩:=MX (P:=P) (ty:=ty) (hΘ t ti ht) hk (hΘ e te he) hpos (awJ w 0 e te.cells.len) (Cell.agU h hy hget) aaV;rw[au8,avx]at hown';have ho:=aeQ hown';have hnb:∀g,blk v'=some g->(some g=none\/w.heap.size<=g)/\g<w'.heap.size:=by
  intro g hb;refine⟨.inr ?_,aeN hown' g hb⟩;rcases hgb g (by rw[KE ho.2];exact hb)with h1|h1
  .cases h1
  .exact h1
 obtain⟨hR,_⟩:=h.replace (w':=w') (o:=k) (v':=v') (x':=.arr e te.cells news (y.wP te.cells st)) none (.inl rfl) hg.os hg.tape hg.output hg.size
  (λb hb hne=>hg.block b hb (by intro e1;cases e1)) hnb (λ_ e=>ahb) (λle=>by
    refine⟨ns,?_,hpos,?_,λi x hi=>?_⟩
    .show w'.ownsRow 0 e te.cells.len (upd γ k v' k) _ _;rw[upd_same];exact hown'
    .intro b hb hf;have hb:blk (upd γ k v' k)=some b:=hb;rw[upd_same]at hb;rcases(hnb b hb).1 with h1|h1
     .cases h1
     .exact auK h.grow h1
    .exact aH.mono (λc hc=>le.bW _ c hc) _ _ x (hnr i x hi))
 exact⟨v',w',_,hrun,hR,⟨e,te.cells,_,_,add_same _ _ _⟩,(upd_same _ _ _).symm,ho.1⟩
theorem ag2(hΘ:∀t ti,Θ t=some ti->lI P t ti)(h:Rel w0 M T γ st a w){t f e:TypeId}{ti te:TI}(ht:Θ t=some ti)(hk:ti.kind=.slice f)(he:Θ f=some te){o:Nat}{r:au}{l:List r.den}{fr:Bool}
 (ho:st.ah o=some (.arr e r l fr)) {v:Value} (hv:aO (aj w0 T γ st w) (.ref o) v) {hi:Option Operand} {p:Prop} {x y:Nat} (hb:mG st l.length none hi=some (p,x,y)) (hp:p):
 ∃u γ',(Instr.sliceAt t v none (hi.map a.eval) none).run P w=.ok u w/\Rel w0 M T γ' ((st.kill (Nat.beq o ·)).add o (.arr e r (l.take y) fr)) a w/\
  aP (aj w0 T γ' ((st.kill (Nat.beq o ·)).add o (.arr e r (l.take y) fr)) w) (.sv (.one (.ref o))) u:=by
 obtain⟨_,hvγ,_⟩:=hv;have hvγ:v=γ o:=hvγ;subst hvγ;obtain⟨xs,hown,hpos,hfr,hrow⟩:=h.ah o _ ho;have hown:w.ownsRow 0 e r.len (γ o) l.length xs:=hown;have hx0:x=0:=by
  cases hi with
  |none=>simp only[mG]at hb;cases hb;rfl
  |some hh=>
   simp only[mG]at hb;split at hb
   .cases hb;rfl
   .cases hb
 subst hx0;have hu:=(hΘ t ti ht).und;rw[hk]at hu;obtain⟨h1,h2⟩:=hown;have key:∃u,(Instr.sliceAt t (γ o) none (hi.map a.eval) none).run P w=.ok u w/\w.ownsRow 0 e r.len u y (xs.take (y*r.len))/\blk u=blk (γ o)/\y<=l.length:=by
  rcases h2 with⟨hn,hl0⟩|⟨g,cap,cur,hg,hg0,hh,hle,hmax,hsz,htake⟩
  .have hn:γ o=.slice none 0 0:=hn;obtain⟨hr,h3,h4⟩:=rG (P:=P) h (len:=l.length) (cap:=0) aaV hb hp true;have hy:y=0:=aaV;refine⟨.slice none 0 0,?_,?_,by rw[hn],h4⟩
   .rw[hn];simp only[awr]at hr;rw[hl0]at hr;simp[Instr.sliceAt,Instr.slice,au3,ava hu.1 w,hr,(hΘ f te he).run_sizeOf,hy]
   .rw[hy,awN,awM];exact awJ w 0 e r.len
  .have hg:γ o=.slice (some ⟨g,0,none⟩) l.length cap:=hg;obtain⟨hr,h3,h4⟩:=rG (P:=P) h (len:=l.length) (cap:=cap) hle hb hp true;have hmul:y*r.len<=l.length*r.len:=au1 _ h4;refine⟨.slice (some ⟨g,0,none⟩) y cap,?_,⟨?_,.inr ⟨g,cap,cur,rfl,hg0,hh,auK h4 hle,hmax,hsz,?_⟩⟩,by rw[hg];rfl,h4⟩
   .rw[hg];simp only[awr]at hr;simp only[Instr.sliceAt,Instr.slice,au3,ava hu.1 w,avu,hr,(hΘ f te he).run_sizeOf];simp[addr_add]
   .rw[auN,h1];omega
   .rw[← htake,axi,aw9 hmul]
 obtain⟨u,hrun,hown',hblk,hyl⟩:=key;have hone:=aeQ hown';obtain⟨hR,_⟩:=h.replace (w':=w) (o:=o) (v':=u) (x':=.arr e r (l.take y) fr) (blk (γ o)) (.inr ⟨_,ho,rfl⟩) rfl rfl rfl (auH _) (λ_ _ _=>rfl)
  (λg hg=>⟨.inl (by rw[← hblk,hg]),(h.lt o _ g ho (by rw[← hblk,hg])).1⟩) (λ_ e=>ahb) (λle=>by
    have hlen:(l.take y).length=y:=ah8;refine⟨xs.take (y*r.len),?_,hpos,?_,λi z hi=>?_⟩
    .rw[hlen];show w.ownsRow 0 e r.len (upd γ o u o) _ _;rw[upd_same];exact hown'
    .intro b hb hf;have hb:blk (upd γ o u o)=some b:=hb;rw[upd_same,hblk]at hb;exact hfr b hb hf
    .have hil:i<y:=arQ;have hmul:i*r.len+r.len<=y*r.len:=by have:(i+1)*r.len<=y*r.len:=au1 _ hil;rw[avj]at this;simpa using this
     rw[avf,if_pos hil]at hi;rw[gW _ _ _ _ hmul];exact aH.mono (λc hc=>le.bW _ c hc) _ _ z (hrow i z hi))
 exact⟨u,_,hrun,hR,⟨e,r,_,_,add_same _ _ _⟩,(upd_same _ _ _).symm,hone.1⟩
theorem aeR{G:jT}(hE:ru P G Θ Γ w0 M)(h:Rel w0 M T γ st a w)(o:Oper){d:Nat}{p:Prop}{v:AV}{s:St}
 (hc:eff Θ Γ d st o.op=some (p,v,s)) (hp:p) {next:Act->World->Prop} {Q:Exit->Act->World->Prop}
 (hn:∀u γ' w',Rel w0 M T γ' s a w'->aP (aj w0 T γ' s w') v u->next (a.put o.dst u) w'):o.wp P a w next Q:=by
 cases hop:o.op<;>rw[hop]at hc<;>try (simp only[eff,reduceCtorEq]at hc;done)
 case store t x y=>
  simp only[eff]at hc;split at hc
  .next sv ti hev ht=>
   split at hc
   .next hlen=>
    split at hc
    .next q s' hs=>
     cases hc;have hF:=h.freeze (BG (st.ev x) sv);have hy:=iW h y;rw[hev]at hy;have hpv:=aP.freeze (BG (st.ev x) sv) h _ _ (iW h x);have hyv:=dF.freeze (BG (st.ev x) sv) h _ _ hy;have hl2:(sv.freeze st (BG (st.ev x) sv)).cells.length=ti.cells.len:=by have h1:=ai.length _ _ (dF.cells _ _ hyv);have h2:=ai.length _ _ (dF.cells _ _ hy);have h3:=auG hlen;omega
     obtain⟨w',hr,hR⟩:=aeM (P:=P) hE.types hF ht hs hp hpv hyv hl2;have hr2:(execOp a.eval o).run P w=.ok .skip w':=aqm;unfold Oper.wp;rw[hr2];exact hn undef γ w' hR trivial
    .cases hc
   .cases hc
  .cases hc
 case buildSlice t len parts=>
  simp only[eff]at hc;split at hc
  .next q v' δ hcalm=>
   split at hc
   .next hfr=>cases hc;exact Ju hE (h.freeze ((mF st parts.toList).contains ·)) o (by rw[hop];exact hcalm) hp hfr hn
   .cases hc
  .cases hc
 case slice t x lo hi mx=>
  cases mx with
  |some m=>simp only[eff,reduceCtorEq]at hc
  |none=>
   cases lo with
   |none=>
    simp only[eff]at hc;split at hc
    .next ti r ht hev=>
     have hx:=nZ h hev;split at hc
     .next f e rr l fr hk ho=>
      split at hc
      .next te q i j he hb=>
       split at hc
       .next hbeq=>cases hc;obtain⟨u,γ',hr,hR,hv⟩:=ag2 (P:=P) hE.types h ht hk he ho hx hb hp;refine Oper.l9 (u:=u) (w':=w) ?_ (hn u γ' w hR hv);simp[execOp,hop,hr]
       .cases hc
      .cases hc
     .cases hc
    .cases hc
   |some l0=>
    simp only[eff]at hc;split at hc
    .next ti r ht hev=>
     split at hc
     .next f e rr l fr hk ho=>
      split at hc
      .next te q i j he hb=>
       split at hc
       .next hbeq=>
        split at hc
        .next q' v' hq=>cases hc;exact Ju (δ:=[]) hE (h.freeze (Nat.beq r ·)) o (by rw[hop];exact hq) hp rfl hn
        .cases hc
       .cases hc
      .cases hc
     .cases hc
    .cases hc
 case call c=>
  obtain⟨callee,args,pI⟩:=c;cases callee with
  |invoke r m=>simp only[eff,reduceCtorEq]at hc
  |builtin b=>
   cases b<;>try (simp only[eff,reduceCtorEq]at hc;done)
   case append=>
    simp only[eff]at hc;split at hc
    .next sx x t u hargs KD=>
     split at hc
     .next ti c y htu ht hes hex=>
      have htu:=auG htu;subst htu;have ha:args.map a.eval=#[a.eval sx,a.eval x]:=aoS;have ht':pI=#[t,t]:=arU;have hrun:execOp a.eval o=(do pure (Next.value (← Builtin.append_ #[t,t] o.type #[a.eval sx,a.eval x]))):=by rw[yU hop,ha,ht'];rfl
      have h1:=nZ h hes;have h2:=nZ h hex;split at hc
      .next e hk=>
       split at hc
       .next te he=>
        split at hc
        .next news r hget=>
         split at hc
         .next f rr l fr ho=>
          split at hc
          .next hbeq=>
           split at hc
           .next hef=>cases hc;have hef:=auG hef;subst hef;obtain⟨v',w',γ',hr,hR,hv⟩:=afN (P:=P) (ty:=o.type) hE.types h ht hk he ho hbeq h1 h2 hget hp;exact Oper.l9 (by rw[hrun];exact Pe hr) (hn v' γ' w' hR hv)
           .cases hc
          .cases hc
         .cases hc
        .next news hget=>
         split at hc
         .next QV=>cases hc;have hs0:a.eval sx=.slice none 0 0:=h1;obtain⟨v',w',γ',hr,hR,hv⟩:=X4 (P:=P) (ty:=o.type) hE.types h ht hk he (d*64+1) (avI QV) h2 hget hp;exact Oper.l9 (by rw[hrun,hs0];exact Pe hr) (hn v' γ' w' hR hv)
         .cases hc
        .cases hc
       .cases hc
      .cases hc
     .next ti o1 zA n0 o2 lo2 n2 htu ht hes hex=>
      have htu:=auG htu;subst htu;have ha:args.map a.eval=#[a.eval sx,a.eval x]:=aoS;have ht':pI=#[t,t]:=arU;have hrun:execOp a.eval o=(do pure (Next.value (← Builtin.append_ #[t,t] o.type #[a.eval sx,a.eval x]))):=by rw[yU hop,ha,ht'];rfl
      obtain⟨v',w',hr,hR,hv⟩:=X3 (P:=P) (ty:=o.type) hE.types h ht hes hex hc hp;exact Oper.l9 (by rw[hrun];exact Pe hr) (hn v' γ w' hR hv)
     .cases hc
    .cases hc
   case clear=>
    simp only[eff]at hc;split at hc
    .next x t hargs KD=>
     split at hc
     .next ti o1 lo n ht hev=>
      have ha:args.map a.eval=#[a.eval x]:=aoS;have ht':pI=#[t]:=arU;have hrun:execOp a.eval o=(do pure (Next.value (← Builtin.clear_ #[t] o.type #[a.eval x]))):=by rw[yU hop,ha,ht'];rfl
      obtain⟨v',w',hr,hR,hv⟩:=Zz (P:=P) (ty:=o.type) hE.types h ht hev hc hp;exact Oper.l9 (by rw[hrun];exact Pe hr) (hn v' γ w' hR hv)
     .cases hc
    .cases hc
  |value x=>
   simp only[eff]at hc;split at hc
   .next f caps hx=>
    have hv:=iW h x;rw[hx]at hv;obtain⟨us,hvx,hkx⟩:=hv;split at hc
    .next con hcon=>
     split at hc
     .next vs hargs hrefs=>
      split at hc
      .next q out hq=>
       split at hc
       .next hfr=>cases hc;have hF:=h.freeze (agE st args.toList caps);obtain⟨hok,hcall⟩:=hE.cons f con hcon;unfold Oper.wp;rw[MW hop hvx hcall,axz];have hrep:=Ar hF (γ0:=λ_=>undef) _ _ vs hargs hrefs (ou.freeze _ h _ _ (FI h hkx args.toList));rw[← awO,← awQ]at hrep;refine(hok vs _ out (d*64+1) _ (args.map a.eval++us) w hq hp (hE.at h) hrep).mono ?_;rintro e w' ⟨u,vals,rfl,h1,h2,h3,h4,h5,h6,h7,h8⟩;obtain⟨γ',g1,g2⟩:=hF.called aaV hfr h1 h2 h3 h4 h5 (.inr rfl) h6 h7 h8;exact hn u γ' w' g1 g2
       .cases hc
      .cases hc
     .cases hc
    .cases hc
   .cases hc
theorem alL{G:jT}(hE:ru P G Θ Γ w0 M)(h:Rel w0 M T γ st a w)(o:Oper){d:Nat}{p:Prop}{ρ:Ja}{os:List (Option Nat)}{s0:St}
 (hc:aaR Γ st o.op=some (p,ρ,os,s0)) (hp:p) (hch:∀t,ρ.R t->∃r,QM d s0 os (ρ.out t) (ρ.aC t)=some r) {next:Act->World->Prop} {Q:Exit->Act->World->Prop}
 (hn:∀t v s u γ' w',ρ.R t->QM d s0 os (ρ.out t) (ρ.aC t)=some (v,s)->Rel w0 M T γ' s a w'->aP (aj w0 T γ' s w') v u->next (a.put o.dst u) w'):o.wp P a w next Q:=by
 unfold aaR at hc;split at hc
 case h_2=>cases hc
 next x args pI hop=>
 split at hc
 case h_2=>cases hc
 next f caps hx=>
 have hv:=iW h x;rw[hx]at hv;obtain⟨us,hvx,hkx⟩:=hv;split at hc
 case h_2=>cases hc
 next ms con hcon=>
 split at hc
 case h_2=>cases hc
 next vs os' Vt=>
 split at hc
 case h_2=>cases hc
 next q ρ' hq=>
 cases hc;have hF:=h.freeze (Xt st ms args.toList caps);obtain⟨hok,hcall⟩:=hE.agm f ms con hcon;unfold Oper.wp;rw[MW hop hvx hcall,axz];have hxs:ou (aj w0 T γ (Kz st ms args.toList caps) w) (alH st ms args.toList caps) (args.map a.eval++us).toList:=by rw[awQ,awO];exact ou.freeze (Xt st ms args.toList caps) h _ _ (FI h hkx args.toList)
 have hk:(d*64+1)%64=1:=aaV;have hspec:∀t,ρ.R t->∃δ,(yR os=true/\Iu (ρ.aC t) ((ρ.out t).take (d*64+1)).2=true)/\nH (Kz st ms args.toList caps) os (ρ.aC t)=some δ/\jH ((Kz st ms args.toList caps).kill (iL os (ρ.aC t))) ((ρ.out t).take (d*64+1)).2=true/\
  QM d (Kz st ms args.toList caps) os (ρ.out t) (ρ.aC t)=some (((ρ.out t).take (d*64+1)).1,(((Kz st ms args.toList caps).kill (iL os (ρ.aC t))).adds δ).adds ((ρ.out t).take (d*64+1)).2):=by
  intro t ht;obtain⟨r,hr⟩:=hch t ht;unfold QM at hr;split at hr
  .next δ hnd hb hfr=>rw[auC]at hnd;refine⟨δ,hnd,hb,hfr,?_⟩;unfold QM;rw[hnd.1,hnd.2,hb,hfr];rfl
  .cases hr
 obtain⟨t0,ht0⟩:=(hok vs _ ρ hq hp).1;obtain⟨_,⟨hnd,_⟩,_⟩:=hspec t0 ht0;refine(hF.ajy hE hxs (QX ms _ vs os Vt) hnd hk hok hq hp λt ht=>?_).mono ?_
 .obtain⟨δ,g1,g2,g3,_⟩:=hspec t ht;exact⟨δ,g2,g3,g1.2⟩
 .rintro e w' ⟨t,δ,ht,hb,u,γ',rfl,g1,g2⟩;obtain⟨δ',_,g3,_,g4⟩:=hspec t ht;have hδ:δ'=δ:=Option.some.inj (g3.symm.trans hb);subst hδ;exact hn t _ _ u γ' w' ht g4 g1 g2
theorem akz{G:jT}(hE:ru P G Θ Γ w0 M)(h:Rel w0 M T γ st a w)(o:Oper){d:Nat}{p:Prop}{v:AV}{s:St}
 (hc:oper Θ Γ d st o.op=some (p,v,s)) (hp:p) {next:Act->World->Prop} {Q:Exit->Act->World->Prop}
 (hn:∀u γ' w',Rel w0 M T γ' s a w'->aP (aj w0 T γ' s w') v u->next (a.put o.dst u) w'):o.wp P a w next Q:=by
 unfold oper at hc;split at hc
 .next q v' δ hcalm=>
  split at hc
  .next hfr=>cases hc;exact Ju hE h o hcalm hp hfr hn
  .cases hc
 .exact aeR hE h o hc hp hn
end Go.Fw
namespace Go.Fw
open Go
structure St.more(st s:St):Prop where
 tmps:∀t,st.tmps t=.undef\/s.tmps t=st.tmps t
 ah:∀o x,st.ah o=some x->s.ah o=some x
variable {st s:St} {Θ:jm} {Γ:kM}
theorem J3(h:st.more s)(x:Operand):st.ev x=.undef\/s.ev x=st.ev x:=by
 cases x with
 |tmp t=>exact h.tmps t
 |const v=>exact .inr rfl
 |global g=>exact .inr rfl
 |func f=>exact .inr rfl
theorem bG(h:st.more s){x:Operand}{v:AV}(e:st.ev x=v)(hv:v≠ .undef):s.ev x=v:=by
 rcases J3 h x with h1|h1
 .rw[e]at h1;exact absurd h1 hv
 .rw[h1,e]
theorem oU(h:st.more s){x:Operand}{n:Int}(e:uo (st.ev x)=some n):uo (s.ev x)=some n:=by
 rcases J3 h x with h1|h1
 .rw[h1]at e;cases e
 .rw[h1];exact e
theorem ZE(h:st.more s):∀(c:CT)(x:Cell)(d:c.den),x.get st c=some d->x.get s c=some d:=by
 intro c x d hg;cases c<;>cases x<;>simp only[Cell.get]at hg ⊢<;>try exact hg
 case sl.ref e r o=>
  split at hg
  .next e' r' l fr ho=>rw[h.ah o _ ho];exact hg
  .cases hg
theorem YH(h:st.more s):∀(r:au)(cs:List Cell)(d:r.den),Af st r cs=some d->Af s r cs=some d
 |.nil,[],_,hg=>hg
 |.nil,_::_,_,hg=>by simp[Af]at hg
 |.cons _ _,[],_,hg=>by simp[Af]at hg
 |.cons c r,x::xs,d,hg=>by
  rw[Af]at hg ⊢;split at hg
  .next a b ha hb=>rw[ZE h c x a ha,YH h r xs b hb];exact hg
  .cases hg
theorem Vu(h:st.more s)(fs:List (Nat×TypeId)):∀(ps:List (Nat×Operand))(cs ds:List Cell),EM Θ st fs ps cs=some ds->EM Θ s fs ps cs=some ds
 |[],_,_,hb=>hb
 |(i,x)::r,cs,ds,hb=>by
  rw[EM]at hb ⊢;split at hb
  .next off t v hf hev=>
   rw[hf,bG h hev abZ];dsimp only;split at hb
   .next ti ht=>
    split at hb
    .next hle=>exact Vu h fs r _ ds hb
    .cases hb
   .cases hb
  .cases hb
theorem YI(h:st.more s)(r:au):∀(ps:List (Nat×Operand))(k:Nat)(l:List r.den),Dx st r k ps=some l->Dx s r k ps=some l
 |[],_,_,hb=>hb
 |(i,x)::ps,k,l,hb=>by
  rw[Dx]at hb ⊢;split at hb
  .next v l' hik hev hl=>
   rw[hik,bG h hev abZ,YI h r ps (k+1) l' hl];dsimp only;split at hb
   .next y hy=>rw[YH h r _ y hy];exact hb
   .cases hb
  .cases hb
theorem Vw(r:au):∀(ps:List (Nat×Operand))(k:Nat)(l:List r.den),Dx st r k ps=some l->∀x∈ps,∃v,st.ev x.2=.sv v
 |[],_,_,_,x,hx=>aeZ
 |(i,y)::ps,k,l,hb,x,hx=>by
  rw[Dx]at hb;split at hb
  .next v l' hik hev hl=>
   rcases auQ.1 hx with rfl|hx
   .exact⟨v,hev⟩
   .exact Vw r ps (k+1) l' hl x hx
  .cases hb
theorem Pn(h:st.more s):∀(ps:List (Nat×Operand)),(∀x∈ps,∃v,st.ev x.2=.sv v)->mF s ps=mF st ps
 |[],_=>rfl
 |(i,x)::ps,hk=>by obtain⟨v,hv⟩:=hk (i,x) auO;rw[mF,mF,Pn h ps (λy hy=>hk y (auM _ hy)),bG h hv abZ,hv]
theorem aiT:∀(c:Cell),c.refs=[]->c.fresh s=c.fresh st
 |.int _ _,_|.bool _,_|.str _,_|.nil,_|.sl _ _ _ _,_|.junk,_=>rfl
 |.ref _,h=>afH
theorem aeS:∀(cs:List Cell),cs.flatMap Cell.refs=[]->cs.all (Cell.fresh s)=cs.all (Cell.fresh st)
 |[],_=>rfl
 |c::cs,h=>by rw[avL,avs]at h;rw[avM,avM,aiT c h.1,aeS cs h.2]
theorem Na(h:st.more s):∀(ps:List (Nat×Operand)),(∀x∈ps,∃v,st.ev x.2=.sv v)->mF st ps=[]->nG s ps=nG st ps
 |[],_,_=>rfl
 |(i,x)::ps,hk,hr=>by obtain⟨v,hv⟩:=hk (i,x) auO;rw[mF,avs,hv]at hr;rw[nG,nG,Na h ps (λy hy=>hk y (auM _ hy)) hr.2,bG h hv abZ,hv];dsimp only;rw[aeS v.cells hr.1]
theorem alM(h:st.more s):∀(c:Cell),c.ok st=true->c.view s=c.view st/\c.ok s=true
 |.int _ _,_|.bool _,_|.str _,_|.nil,_|.sl _ _ _ _,_|.junk,_=>⟨rfl,rfl⟩
 |.ref o,hk=>by
  simp only[Cell.ok]at hk;split at hk
  .next e r l fr ho=>exact⟨by simp only[Cell.view,ho,h.ah o _ ho],by simp only[Cell.ok,h.ah o _ ho]⟩
  .cases hk
theorem Jz(h:st.more s):∀(cs:List Cell),cs.all (Cell.ok st)=true->cs.map (Cell.view s)=cs.map (Cell.view st)/\cs.all (Cell.ok s)=true
 |[],_=>⟨rfl,rfl⟩
 |c::cs,hk=>by rw[avM,auC]at hk;obtain⟨h1,h2⟩:=alM h c hk.1;obtain⟨h3,h4⟩:=Jz h cs hk.2;exact⟨by rw[auX,auX,h1,h3],by rw[avM,h2,h4];rfl⟩
theorem aiU(h:st.more s)(v:SV)(hk:v.cells.all (Cell.ok st)=true):v.view s=v.view st/\v.cells.all (Cell.ok s)=true:=by
 obtain⟨h1,h2⟩:=Jz h v.cells hk;refine⟨?_,h2⟩;cases v with
 |one c=>simp only[SV.cells,auX,axA,List.cons.injEq,axR]at h1;simp only[SV.view,h1]
 |agg cs=>simp only[SV.cells]at h1;simp only[SV.view,h1]
theorem Au(h:st.more s):∀(xs:List AV)(vs:List Arg),oO st xs=some vs->oO s xs=some vs
 |[],_,hv=>hv
 |x::xs,vs,hv=>by
  unfold oO at hv ⊢;split at hv
  .next v us hu=>
   rw[Au h xs us hu];split at hv
   .next hk=>obtain⟨h1,h2⟩:=aiU h v hk;dsimp only;rw[h2,h1];exact hv
   .cases hv
  .next cs off us hu=>
   rw[Au h xs us hu];split at hv
   .next hk=>rw[auC]at hk;obtain⟨h1,h2⟩:=Jz h cs hk.2;dsimp only;rw[hk.1,h2,h1];exact hv
   .cases hv
  .next f caps us hu=>
   rw[Au h xs us hu];split at hv
   .next hk=>
    have key:∀(caps:List (List Cell)),caps.all (List.all · (Cell.ok st))=true->caps.map (List.map (Cell.view s))=caps.map (List.map (Cell.view st))/\caps.all (List.all · (Cell.ok s))=true:=by
     intro caps
     induction caps with
     |nil=>intro _;exact⟨rfl,rfl⟩
     |cons cs l ih=>intro hk;rw[avM,auC]at hk;obtain⟨h1,h2⟩:=Jz h cs hk.1;obtain⟨h3,h4⟩:=ih hk.2;exact⟨by rw[auX,auX,h1,h3],by rw[avM,h2,h4];rfl⟩
    obtain⟨h1,h2⟩:=key caps hk;dsimp only;rw[h2,h1];exact hv
   .cases hv
  .cases hv
theorem FM:∀(xs:List AV)(vs:List Arg),oO st xs=some vs->∀x∈xs,x≠ .undef
 |[],_,_,x,hx=>aeZ
 |y::xs,vs,hv,x,hx=>by
  unfold oO at hv;split at hv
  .next v us hu=>
   rcases auQ.1 hx with rfl|hx
   .simp
   .exact FM xs us hu x hx
  .next cs off us hu=>
   rcases auQ.1 hx with rfl|hx
   .simp
   .exact FM xs us hu x hx
  .next f caps us hu=>
   rcases auQ.1 hx with rfl|hx
   .simp
   .exact FM xs us hu x hx
  .cases hv
theorem Og(h:st.more s)(caps:List (List Cell)):∀(xs:List Operand),(∀x∈handed st xs caps,x≠ .undef)->handed s xs caps=handed st xs caps
 |[],_=>rfl
 |x::xs,hk=>by have h1:s.ev x=st.ev x:=bG h rfl (hk _ auO);have h2:=Og h caps xs λy hy=>hk y (auM _ hy);show s.ev x::handed s xs caps=st.ev x::handed st xs caps;rw[h1,h2]
theorem YJ(h:st.more s):∀(xs:List Operand)(l:List (List Cell)),heldBy st xs=some l->heldBy s xs=some l
 |[],_,hl=>hl
 |x::xs,l,hl=>by
  rw[heldBy]at hl ⊢;split at hl
  .next cs off l' hx hl'=>rw[bG h hx abZ,YJ h xs l' hl'];exact hl
  .cases hl
theorem QY(h:st.more s)(len:Nat)(lo hi:Option Operand){r:Prop×Nat×Nat}(hb:mG st len lo hi=some r):mG s len lo hi=some r:=by
 cases lo<;>cases hi<;>simp only[mG]at hb ⊢
 .exact hb
 .split at hb
  .next b e=>rw[oU h e];exact hb
  .cases hb
 .split at hb
  .next b e=>rw[oU h e];exact hb
  .cases hb
 .split at hb
  .next b c e1 e2=>rw[oU h e1,oU h e2];exact hb
  .cases hb
def AV.less(v v':AV):Prop:=v=.undef\/v'=v
theorem aiV(h:st.more s){n room:Nat}{lo hi:Option Operand}{r:Prop×Nat×Nat}(hb:Vb st n room lo hi=some r):Vb s n room lo hi=some r:=by cases hi<;>simp only[Vb]at hb ⊢<;>exact QY h _ _ _ hb
theorem alN(h:st.more s)(d:Nat)(o:Op){p:Prop}{v:AV}{δ:List (Nat×ay)}(hc:calm Θ Γ d st o=some (p,v,δ)):
 ∃v',calm Θ Γ d s o=some (p,v',δ)/\v.less v':=by
 have same:∀{r:Option (Prop×AV×List (Nat×ay))},r=some (p,v,δ)->calm Θ Γ d s o=r->∃v',calm Θ Γ d s o=some (p,v',δ)/\v.less v':=
  λh1 h2=>⟨v,h2.trans h1,.inr rfl⟩
 cases o<;>try (simp only[calm,reduceCtorEq]at hc;done)
 case move x=>simp only[calm]at hc ⊢;cases hc;exact⟨_,rfl,J3 h x⟩
 case assign x=>simp only[calm]at hc ⊢;cases hc;exact⟨_,rfl,J3 h x⟩
 case pick c x y=>
  simp only[calm]at hc ⊢;split at hc
  .next g hg=>
   cases hc;rw[bG h hg abZ];refine⟨_,rfl,?_⟩;cases g
   .exact J3 h y
   .exact J3 h x
  .cases hc
 case nilCheck x=>
  simp only[calm]at hc ⊢;split at hc
  .next a b e=>rw[bG h e abZ];exact⟨v,hc,.inr rfl⟩
  .next a b c e=>rw[bG h e abZ];exact⟨v,hc,.inr rfl⟩
  .next a b c d e=>rw[bG h e abZ];exact⟨v,hc,.inr rfl⟩
  .next a b e=>rw[bG h e abZ];exact⟨v,hc,.inr rfl⟩
  .next a b e=>rw[bG h e abZ];exact⟨v,hc,.inr rfl⟩
  .cases hc
 case makeFunc fn first captured=>
  cases fn<;>try (simp only[calm,reduceCtorEq]at hc;done)
  case func f=>
   simp only[calm]at hc ⊢;split at hc
   .next l hfirst hl=>rw[YJ h _ _ hl,hfirst];exact⟨v,hc,.inr rfl⟩
   .cases hc
 case alloc t=>exact⟨v,hc,.inr rfl⟩
 case box t x=>
  simp only[calm]at hc ⊢;split at hc
  .next a e=>rw[bG h e abZ];exact⟨v,hc,.inr rfl⟩
  .cases hc
 case build t parts=>
  simp only[calm]at hc ⊢;split at hc
  .next ti ht=>
   split at hc
   .next fs hk=>
    split at hc
    .next cs hb=>rw[Vu h _ _ _ _ hb];exact⟨v,hc,.inr rfl⟩
    .cases hc
   .cases hc
  .cases hc
 case buildSlice t len parts=>
  simp only[calm]at hc ⊢;split at hc
  .next ti ht=>
   split at hc
   .next e hk=>
    split at hc
    .next te he=>
     split at hc
     .next l hb hrefs hrows=>have hkn:=Vw _ _ _ _ hrows;rw[hb,Pn h _ hkn,hrefs,YI h _ _ _ _ hrows,Na h _ hkn hrefs];exact⟨v,hc,.inr rfl⟩
     .cases hc
    .cases hc
   .cases hc
  .cases hc
 case makeSlice t x y=>
  simp only[calm]at hc ⊢;split at hc
  .next ti n c ht hn hcc=>rw[ht,oU h hn,oU h hcc];exact⟨v,hc,.inr rfl⟩
  .cases hc
 case load t x=>
  simp only[calm]at hc ⊢;split at hc
  .next ti o off ht he=>
   rw[ht,bG h he abZ];split at hc
   .next cs ho=>dsimp only;rw[h.ah o _ ho];exact⟨v,hc,.inr rfl⟩
   .cases hc
  .next ti o i off ht he=>
   rw[ht,bG h he abZ];split at hc
   .next e r l fr ho=>dsimp only;rw[h.ah o _ ho];exact⟨v,hc,.inr rfl⟩
   .cases hc
  .next ti r y off fr ht he=>rw[ht,bG h he abZ];exact⟨v,hc,.inr rfl⟩
  .next ti cs off ht he=>rw[ht,bG h he abZ];exact⟨v,hc,.inr rfl⟩
  .cases hc
 case fieldAddr t x f=>
  simp only[calm]at hc ⊢;split at hc
  .next ti ht=>
   split at hc
   .next fs hk=>
    split at hc
    .next k t hf=>
     split at hc
     .next te hte=>
      split at hc
      .cases hc
      .next a b e hne=>rw[bG h e abZ];cases hcell:te.cells with|nil=>exact(hne hcell).elim|cons _ _=>exact⟨v,hc,.inr rfl⟩
      .next a b c e hne=>rw[bG h e abZ];cases hcell:te.cells with|nil=>exact(hne hcell).elim|cons _ _=>exact⟨v,hc,.inr rfl⟩
      .next a b c d e hne=>rw[bG h e abZ];cases hcell:te.cells with|nil=>exact(hne hcell).elim|cons _ _=>exact⟨v,hc,.inr rfl⟩
      .next a b e hne=>rw[bG h e abZ];cases hcell:te.cells with|nil=>exact(hne hcell).elim|cons _ _=>exact⟨v,hc,.inr rfl⟩
      .cases hc
     .cases hc
    .cases hc
   .cases hc
  .cases hc
 case field t x f=>
  simp only[calm]at hc ⊢;split at hc
  .next ti ht=>
   split at hc
   .next fs hk=>
    split at hc
    .next k t cs hf e=>rw[hf,bG h e abZ];exact⟨v,hc,.inr rfl⟩
    .cases hc
   .cases hc
  .cases hc
 case indexAddr t x ix=>
  simp only[calm]at hc ⊢;split at hc
  .next ti n ht hn=>
   rw[ht,oU h hn]
   try dsimp only
   split at hc
   .next e hk=>
    split at hc
    .next te e' r l fr he hev=>rw[he,bG h hev abZ];exact⟨v,hc,.inr rfl⟩
    .next te o he hev=>
     rw[he,bG h hev abZ]
     try dsimp only
     split at hc
     .next a b c d ho=>rw[h.ah o _ ho];exact⟨v,hc,.inr rfl⟩
     .cases hc
    .next te he hev=>rw[he,bG h hev abZ];exact⟨v,hc,.inr rfl⟩
    .cases hc
   .cases hc
  .cases hc
 case index t x ix=>
  simp only[calm]at hc ⊢;split at hc
  .next ti n b ht hn hev=>rw[ht,oU h hn,bG h hev abZ];exact⟨v,hc,.inr rfl⟩
  .cases hc
 case binOp op t x y t'=>
  simp only[calm]at hc ⊢;split at hc
  .next a b e1 e2=>rw[bG h e1 abZ,bG h e2 abZ];exact⟨v,hc,.inr rfl⟩
  .next a b e1 e2=>rw[bG h e1 abZ,bG h e2 abZ];exact⟨v,hc,.inr rfl⟩
  .cases hc
 case unOp op t x=>
  simp only[calm]at hc ⊢;split at hc
  .next b e=>rw[bG h e abZ];exact⟨v,hc,.inr rfl⟩
  .next k n e=>rw[bG h e abZ];exact⟨v,hc,.inr rfl⟩
  .cases hc
 case convert a b x=>
  simp only[calm]at hc ⊢;split at hc
  .next ts td c hs hd e=>
   rw[hs,hd,bG h e abZ]
   try dsimp only
   split at hc
   .cases hc
   .next hagg=>
    rw[if_neg hagg];split at hc
    .exact⟨v,hc,.inr rfl⟩
    .exact⟨v,hc,.inr rfl⟩
    .exact⟨v,hc,.inr rfl⟩
    .next e' c' e1 e2=>
     split at hc
     .next l te hl hte=>rw[ZE h _ _ _ hl,hte];exact⟨v,hc,.inr rfl⟩
     .cases hc
    .cases hc
  .cases hc
 case extract x i=>
  simp only[calm]at hc ⊢;split at hc
  .next a e=>rw[bG h e abZ];exact⟨v,hc,.inr rfl⟩
  .cases hc
 case slice t x lo hi mx=>
  cases mx with
  |some m=>
   cases lo with
   |none=>simp only[calm,reduceCtorEq]at hc
   |some lo=>
    cases hi with
    |none=>simp only[calm,reduceCtorEq]at hc
    |some hi=>
     simp only[calm]at hc ⊢;split at hc
     .next ti o ht e=>
      rw[ht,bG h e abZ]
      try dsimp only
      split at hc
      .next f e' r l fr hk ho=>
       split at hc
       .next te n1 n2 n3 he h1 h2 h3=>rw[hk,h.ah o _ ho];dsimp only;rw[he,oU h h1,oU h h2,oU h h3];exact⟨v,hc,.inr rfl⟩
       .cases hc
      .cases hc
     .cases hc
  |none=>
   simp only[calm]at hc ⊢;split at hc
   .next ti b ht e=>
    rw[ht,bG h e abZ]
    try dsimp only
    split at hc
    .next p' x' y' hk hb=>rw[hk,QY h _ _ _ hb];exact⟨v,hc,.inr rfl⟩
    .cases hc
   .next ti e' r l fr ht e=>
    rw[ht,bG h e abZ]
    try dsimp only
    split at hc
    .next f p' x' y' hk hb=>rw[hk,QY h _ _ _ hb];exact⟨v,hc,.inr rfl⟩
    .cases hc
   .next ti ht e=>
    rw[ht,bG h e abZ]
    try dsimp only
    split at hc
    .next f p' x' y' hk hb=>rw[hk,QY h _ _ _ hb];exact⟨v,hc,.inr rfl⟩
    .cases hc
   .next ti o zA n0 ht e=>
    rw[ht,bG h e abZ]
    try dsimp only
    split at hc
    .next f e' r l fr hk ho=>
     split at hc
     .next te p' x' y' he hb=>rw[hk,h.ah o _ ho];dsimp only;rw[he,aiV h hb];exact⟨v,hc,.inr rfl⟩
     .cases hc
    .cases hc
   .cases hc
 case call c=>
  obtain⟨callee,args,pI⟩:=c;cases callee with
  |invoke r m=>simp only[calm,reduceCtorEq]at hc
  |builtin b=>
   cases b<;>try (simp only[calm,reduceCtorEq]at hc;done)
   case len=>
    simp only[calm]at hc ⊢;split at hc
    .next x t hargs KD=>
     split at hc
     .next ti c ht e=>
      rw[ht,bG h e abZ]
      try dsimp only
      split at hc
      .next b hk=>exact⟨v,hc,.inr rfl⟩
      .next a b c d e hk=>exact⟨v,hc,.inr rfl⟩
      .next a hk=>exact⟨v,hc,.inr rfl⟩
      .next a o hk=>
       split at hc
       .next e' r l fr ho=>rw[h.ah o _ ho];exact⟨v,hc,.inr rfl⟩
       .cases hc
      .cases hc
     .next ti o lo n ht e=>rw[ht,bG h e abZ];exact⟨v,hc,.inr rfl⟩
     .cases hc
    .cases hc
   case min=>
    simp only[calm]at hc ⊢;split at hc
    .next x y hargs=>
     split at hc
     .next a b c d e1 e2=>rw[bG h e1 abZ,bG h e2 abZ];exact⟨v,hc,.inr rfl⟩
     .cases hc
    .cases hc
   case max=>
    simp only[calm]at hc ⊢;split at hc
    .next x y hargs=>
     split at hc
     .next a b c d e1 e2=>rw[bG h e1 abZ,bG h e2 abZ];exact⟨v,hc,.inr rfl⟩
     .cases hc
    .cases hc
  |value x=>
   simp only[calm]at hc ⊢;split at hc
   .next f caps hx=>
    rw[bG h hx abZ];dsimp only;split at hc
    .next con vs hcon hargs=>rw[hcon,Og h caps _ (FM _ _ hargs),Au h _ _ hargs];exact⟨v,hc,.inr rfl⟩
    .cases hc
   .cases hc
end Go.Fw
namespace Go.Fw
open Go
variable {P:Program} {w0:World} {M:Nat->Prop} {T:Ext} {γ γ':Nat->Value} {st:St} {a:Act} {w w':World} {Θ:jm} {Γ:kM}
def numOf(st:St)(o:Oper):Nat:=match o.dst with|some d=>d|none=>st.n
def aoC(d o:Nat):Bool:=Nat.beq (o / 64) d
def apS(d o:Nat):Bool:=Nat.beq (o / 64) d&&!(Nat.beq (o%64) 0)
def makes:Op->Bool
 |.alloc _|.box _ _|.buildSlice _ _ _|.makeSlice _ _ _=>true
 |.call {callee:=.value _,.. }=>true
 |_=>false
def ag3:Op->Bool
 |.buildSlice _ _ _|.makeSlice _ _ _=>true
 |.call {callee:=.value _,.. }=>true
 |_=>false
def akA(Θ:jm)(Γ:kM)(d:Nat)(st:St)(op:Op):Option (Prop×AV×St):=
 match oper Θ Γ d st op with
 |some r=>some r
 |none=>match makes op with
  |true=>oper Θ Γ d (st.kill (aoC d)) op
  |false=>none
def quiet(st:St):Op->Bool
 |.move _|.assign _|.nilCheck _|.pick _ _ _|.alloc _|.box _ _|.build _ _|.buildSlice _ _ _|.fieldAddr _ _ _|.field _ _ _|.unOp _ _ _|.convert _ _ _|.extract _ _|.makeFunc _ _ _=>true
 |.call {callee:=.builtin .len,.. }|.call {callee:=.builtin .min,.. }|.call {callee:=.builtin .max,.. }=>true
 |.load _ p=>match st.ev p with|.nR _ _ _=>false|_=>true
 |.store _ p _=>match st.ev p with|.bK _ _=>true|_=>false
 |.binOp op _ x _ _=>match op with
  |.quo|.rem|.shl|.shr=>false
  |.add=>match st.ev x with|.sv (.one (.str _))=>false|_=>true
  |_=>true
 |_=>false
theorem ag4{op:BinOp}{k:IntKind}{x y:Int}{p:Prop}{c:Cell}(h:O6 op k x y=some (p,c))(h1:op≠ .quo)(h2:op≠ .rem):p:=by cases op<;>simp only[O6,reduceCtorEq]at h<;>first|(cases h;trivial)|exact(h1 rfl).elim|exact(h2 rfl).elim
theorem ag5{op:BinOp}{x y:Bytes}{p:Prop}{c:Cell}(h:U9 op x y=some (p,c))(h1:op≠ .add):p:=by cases op<;>simp only[U9,reduceCtorEq]at h<;>first|(cases h;trivial)|exact(h1 rfl).elim
theorem afO{op:BinOp}{x y:Cell}{p:Prop}{c:Cell}(h:O7 op x y=some (p,c))(h1:op≠ .quo)(h2:op≠ .rem)(h3:op≠ .shl)(h4:op≠ .shr)
 (h5:op=.add->∀s,x≠ .str s):p:=by
 unfold O7 at h;split at h
 .split at h
  .exact(h3 rfl).elim
  .exact(h4 rfl).elim
  .split at h
   .exact ag4 h h1 h2
   .cases h
 .exact ag5 h λe=>h5 e _ rfl
 .split at h
  .cases h;trivial
  .cases h;trivial
  .cases h
 .cases h
theorem QZ{d:Nat}{op:Op}{p:Prop}{v:AV}{δ:List (Nat×ay)}(hc:calm Θ Γ d st op=some (p,v,δ))(hq:quiet st op=true):p:=by
 cases op<;>try (simp only[calm,reduceCtorEq]at hc;done)
 case binOp op t x y t'=>
  simp only[calm]at hc;split at hc
  .next a b e1 e2=>
   split at hc
   .split at hc
    .next q c hb=>
     cases hc;refine afO hb ?_ ?_ ?_ ?_ ?_
     .rintro rfl;simp[quiet]at hq
     .rintro rfl;simp[quiet]at hq
     .rintro rfl;simp[quiet]at hq
     .rintro rfl;simp[quiet]at hq
     .rintro rfl s rfl;simp[quiet,e1]at hq
    .cases hc
   .cases hc
  .split at hc
   .split at hc
    .split at hc
     .cases hc;trivial
     .cases hc
    .split at hc
     .cases hc;trivial
     .cases hc
    .cases hc
   .cases hc
  .cases hc
 case load t x=>
  simp only[calm]at hc;split at hc
  .split at hc
   .split at hc
    .cases hc;trivial
    .cases hc
   .cases hc
  .next e=>simp[quiet,e]at hq
  .split at hc
   .cases hc;trivial
   .cases hc
  .split at hc
   .cases hc;trivial
   .cases hc
  .cases hc
 case call c=>
  obtain⟨callee,args,pI⟩:=c;cases callee with
  |invoke r m=>simp only[calm,reduceCtorEq]at hc
  |builtin b=>
   cases b<;>first
    |(simp only[calm,reduceCtorEq]at hc;done)
    |(simp only[calm]at hc
      repeat' (first|(cases hc;done)|(cases hc;trivial)|(split at hc)))
  |value x=>simp[quiet]at hq
 all_goals first
  |(simp[quiet]at hq;done)
  |(simp only[calm]at hc
    repeat' (first|(cases hc;done)|(cases hc;trivial)|(split at hc)))
theorem aiW{pt:AV}{v:SV}{q:Prop}{s:St}(h:store st pt v=some (q,s))(hv:∀o i off,pt≠ .nR o i off):q:=by
 unfold store at h;split at h
 .split at h
  .split at h
   .cases h;trivial
   .cases h
  .cases h
 .exact(hv _ _ _ rfl).elim
 .cases h
theorem alO{d:Nat}{op:Op}{p:Prop}{v:AV}{s:St}(hc:eff Θ Γ d st op=some (p,v,s))(hq:quiet st op=true):p:=by
 cases op<;>try (simp only[eff,reduceCtorEq]at hc;done)
 case store t pt x=>
  simp only[eff]at hc;split at hc
  .split at hc
   .split at hc
    .next q s' hs=>
     cases hc;refine aiW hs ?_;intro o i off e;cases hp:st.ev pt<;>rw[hp]at e<;>simp only[AV.freeze,reduceCtorEq]at e
     .split at e<;>cases e
     .simp[quiet,hp]at hq
     .split at e<;>cases e
    .cases hc
   .cases hc
  .cases hc
 case buildSlice t n parts=>
  simp only[eff]at hc;split at hc
  .next q v' δ hcalm=>
   split at hc
   .cases hc;exact QZ hcalm rfl
   .cases hc
  .cases hc
 case slice t x lo hi mx=>simp[quiet]at hq
 case call c=>
  obtain⟨callee,args,pI⟩:=c;cases callee with
  |invoke r m=>simp only[eff,reduceCtorEq]at hc
  |builtin b=>cases b<;>first|(simp only[eff,reduceCtorEq]at hc;done)|(simp[quiet]at hq;done)
  |value x=>simp[quiet]at hq
theorem aaZ{d:Nat}{op:Op}{p:Prop}{v:AV}{s:St}(hc:oper Θ Γ d st op=some (p,v,s))(hq:quiet st op=true):p:=by
 unfold oper at hc;split at hc
 .next q v' δ hcalm=>
  split at hc
  .cases hc;exact QZ hcalm hq
  .cases hc
 .exact alO hc hq
def aqP:Op->Bool|.box _ _=>true|_=>false
def ajz(own:Nat->Bool)(d:Nat)(o:Oper)(v:AV)(s:St):St:=
 match ag3 o.op&&!(own d)&&((s.ah (d*64+1)).isSome||(s.ah (d*64+2)).isSome||(s.ah (d*64+3)).isSome)with
 |true=>(s.put o.dst v).freeze (apS d)
 |false=>s.put o.dst v
def AV.fixed(o:Nat)(cs:List Cell):AV->AV
 |.bK p off=>match Nat.beq o p with|true=>.fA (cs.map (Cell.kill (Nat.beq o ·))) off|false=>.bK p off
 |v=>v.kill (Nat.beq o ·)
def St.fix(st:St)(o:Nat):St:=
 match st.ah o with
 |some (.var cs)=>{st.kill (Nat.beq o ·)with tmps:=λt=>(st.tmps t).fixed o cs}
 |_=>st
theorem Rel.fix(h:Rel w0 M T γ st a w)(o:Nat):Rel w0 M T γ (st.fix o) a w:=by
 unfold St.fix;split
 .next cs ho=>
  have hk:=h.kill (Nat.beq o ·);refine⟨hk.mT,hk.defers,hk.size,hk.os,hk.tape,hk.output,hk.grow,hk.kept,λt=>?_,hk.ah,hk.lt,hk.sep,hk.pin⟩;have hv:=h.tmps t;have hkv:=aP.kill (Nat.beq o ·) h _ _ hv;show aP (aj w0 T γ (st.kill (Nat.beq o ·)) w) ((st.tmps t).fixed o cs) _;cases hst:st.tmps t with
  |bK p off=>
   rw[hst]at hv hkv;simp only[AV.fixed];cases hb:Nat.beq o p with
   |false=>simp only[AV.kill,hb]at hkv;exact hkv
   |true=>
    have hop:=auG hb;subst hop;obtain⟨b,cs',_,hγ,hval⟩:=hv;obtain⟨b',arr,t',Pg,hh,hr⟩:=h.ah o _ ho;have hbb:b'=b:=by have h1:γ o=.pointer (some ⟨b,0,none⟩):=hγ;have h2:γ o=.pointer (some ⟨b',0,none⟩):=Pg;rw[h1]at h2;simpa using h2.symm
    subst hbb;have hbl:blk (γ o)=some b':=by have h2:γ o=.pointer (some ⟨b',0,none⟩):=Pg;rw[h2];rfl
    refine⟨b',hval,arr,t',(0,0),⟨(h.lt o _ b' ho hbl).1,λhlt=>h.mT b' ((h.lt o _ b' ho hbl).2.resolve_left (by have hlt':b'<w0.heap.size:=hlt;omega)),λq y hq=>?_⟩,hh,ai.kill _ h cs _ hr⟩;obtain⟨z,hz,_,hqS⟩:=wQ (Nat.beq o ·) hq;exact h.sep o _ q z b' ho hz (λe=>by rw[← e]at hqS;simp at hqS) hbl
  |_=>rw[hst]at hkv;exact hkv
 .exact h
def land(own:Nat->Bool)(d:Nat)(o:Oper)(v:AV)(s:St):St:=
 match aqP o.op&&!(own d)with
 |true=>(s.put o.dst v).fix (d*64)
 |false=>ajz own d o v s
def XB(st:St)(o:Oper):Bool:=match o.dst with|some d=>Nat.blt d st.n|none=>true
def roomy(d:Nat)(st:St):St:=
 match (st.ah (d*64)).isSome||(st.ah (d*64+1)).isSome||(st.ah (d*64+2)).isSome||(st.ah (d*64+3)).isSome with
 |true=>st.kill (aoC d)
 |false=>st
def alP(Γ:kM)(d:Nat)(st:St)(op:Op):Option (Prop×Ja×List (Option Nat)×St):=
 match aaR Γ (roomy d st) op with
 |some r=>some r
 |none=>aaR Γ st op
def alQ:BinOp->Option Bool
 |.eql=>some false
 |.neq=>some true
 |_=>none
def aa0:Bool->Bool->Bool
 |true,g=>!g
 |false,g=>g
def ajA(st:St):AV->Option (Bool->Prop)
 |.sv (.one (.sl _ _ l _))=>some λg=>g=true->l.length=0
 |.sv (.one (.ref o))=>match st.ah o with
  |some (.arr _ _ l _)=>some λg=>g=true->l.length=0
  |_=>none
 |.sv (.one .nil)=>some λg=>g=true
 |_=>none
def aoD(Θ:jm)(st:St)(t:TypeId)(x:Operand)(s:Option Bool):Option (Bool×(Bool->Prop)):=match s,Θ t with
 |some neg,some ti=>match ti.kind with
  |.slice _=>match ajA st (st.ev x)with
   |some R=>some (neg,R)
   |none=>none
  |_=>none
 |_,_=>none
def akB(Θ:jm)(st:St):Op->Option (Bool×(Bool->Prop))
 |.binOp op t x (.const (.slice none 0 0)) _=>aoD Θ st t x (alQ op)
 |_=>none
def ag6(Θ:jm)(Γ:kM)(own:Nat->Bool)(o:Oper)(K:St->Prop)(st:St):Prop:=
 match XB st o with
 |true=>match alP Γ (numOf st o) st o.op with
  |some (p,ρ,os,s0)=>p/\∀t,ρ.R t->match QM (numOf st o) s0 os (ρ.out t) (ρ.aC t)with
   |some (v,s)=>K (land own (numOf st o) o v s)
   |none=>False
  |none=>match akB Θ st o.op with
   |some (neg,R)=>∀g:Bool,R g->K (land own (numOf st o) o (.sv (.one (.bool (aa0 neg g)))) st)
   |none=>match akA Θ Γ (numOf st o) st o.op,quiet st o.op with
    |some (p,v,s),q=>match q with
     |true=>K (land own (numOf st o) o v s)
     |false=>p/\K (land own (numOf st o) o v s)
    |none,_=>False
 |false=>False
def guarded(ops:List Oper)(o:Oper)(one:St->Prop)(skip:St->Prop)(st:St):Prop:=
 match o.guard with
 |none=>one st
 |some (g,b)=>match ops[g]? with
  |some og=>match og.dst with
   |some t=>match XB st o,Nat.blt t st.n,st.tmps t with
    |true,true,.sv (.one (.bool x))=>cond x
     (match b with|true=>one (st.set t (.sv (.one (.bool true))))|false=>skip ((st.set t (.sv (.one (.bool true)))).put o.dst (.mD [])))
     (match b with|false=>one (st.set t (.sv (.one (.bool false))))|true=>skip ((st.set t (.sv (.one (.bool false)))).put o.dst (.mD [])))
    |true,true,.mD _=>skip (st.put o.dst (.mD []))
    |_,_,_=>False
   |none=>False
  |none=>False
def runs(Θ:jm)(Γ:kM)(own:Nat->Bool)(ops:List Oper)(K:St->Prop):List Oper->St->Prop
 |[],st=>K st
 |o::r,st=>guarded ops o (ag6 Θ Γ own o (runs Θ Γ own ops K r)) (runs Θ Γ own ops K r) st
theorem set_self{t:Nat}{v:AV}(h:st.tmps t=v):st.set t v=st:=by
 cases st with
 |mk n tm ob=>
  simp only[St.set,St.mk.injEq,axe,axR]
  funext x
  cases hb:Nat.beq x t with
  |true=>rw[auG hb];exact h.symm
  |false=>rfl
theorem alR{G:jT}(hE:ru P G Θ Γ w0 M)(h:Rel w0 M T γ st a w)(o:Oper){neg:Bool}{R:Bool->Prop}(hc:akB Θ st o.op=some (neg,R)){next:Act->World->Prop}{Q:Exit->Act->World->Prop}
 (hn:∀g:Bool,R g->next (a.put o.dst (.bool (aa0 neg g))) w):o.wp P a w next Q:=by
 unfold akB at hc;split at hc
 case h_2=>cases hc
 next op t x _ hop=>
 unfold aoD at hc;split at hc
 case h_2=>cases hc
 next at7 ti hs ht=>
 split at hc
 case h_2=>cases hc
 next e hk=>
 split at hc
 case h_2=>cases hc
 next R' hR=>
 cases hc;have hu:P.underlying t=some (.slice e):=by have:=(hE.types t ti ht).und;rw[hk]at this;exact this.1
 have hop':op=.eql/\neg=false\/op=.neq/\neg=true:=by cases op<;>simp[alQ]at hs<;>simp[hs]
 have run:∀(ad:Option Addr)(n c:Nat),a.eval x=.slice ad n c->R ad.isNone->o.wp P a w next Q:=by
  intro ad n c hx hR;have hev:a.eval (.const (.slice none 0 0))=.slice none 0 0:=rfl;refine Oper.l9 (u:=.bool (aa0 neg ad.isNone)) (w':=w) ?_ (hn _ hR);have hs:execOp a.eval o=(do pure (Next.value (← (do eqGuard op t x (.const (.slice none 0 0)) (a.eval x) (a.eval (.const (.slice none 0 0)));binOp op t (a.eval x) (a.eval (.const (.slice none 0 0))))))):=agK;rw[hs];refine Pe ?_;rw[hx,hev];rcases hop' with⟨rfl,rfl⟩|⟨rfl,rfl⟩
  .have hg:(eqGuard .eql t x (.const (.slice none 0 0)) (.slice ad n c) (.slice none 0 0)).run P w=.ok () w:=by simp[eqGuard]
   rw[au3,hg];exact Lib.run_eql_slice_nil w t e ad n c 0 0 hu
  .have hg:(eqGuard .neq t x (.const (.slice none 0 0)) (.slice ad n c) (.slice none 0 0)).run P w=.ok () w:=by simp[eqGuard]
   rw[au3,hg];exact run_neq_slice_nil_any w t e ad n c 0 0 hu
 unfold ajA at hR;split at hR
 .next ee rr l _ hx=>
  cases hR;have hv:=nZ h hx;obtain⟨ad,c,hv1,_⟩:=agG hv;refine run ad l.length c hv1 λhnone=>?_;have hv':bY w.heap _ (.sl ee rr) (a.eval x) l:=hv;rw[bY]at hv';rcases hv'.2 with⟨hl,_⟩|⟨b,off,cap,cs,t',fz,hv2,_⟩
  .rw[hl];rfl
  .rw[hv1]at hv2;cases hv2;cases hnone
 .next o' hx=>
  split at hR
  .next _ _ l _ ho=>
   cases hR;have hv:=nZ h hx;obtain⟨ad,c,hv1,_⟩:=aju h hv ho;refine run ad l.length c hv1 λhnone=>?_;obtain⟨_,hv2,_⟩:=hv;obtain⟨xs,hown,hr,_⟩:=h.ah o' _ ho;obtain⟨_,hown⟩:=hown;have hv2:a.eval x=γ o':=hv2;rw[hv1]at hv2;rcases hown with⟨_,hl⟩|⟨g,cap,cur,hg,_⟩
   .omega
   .have hg:γ o'=_:=hg;rw[hg]at hv2;cases hv2;cases hnone
  .cases hR
 .next hx=>cases hR;have hv:a.eval x=.slice none 0 0:=nZ h hx;exact run none 0 0 hv rfl
 .cases hR
theorem ag7{G:jT}(hE:ru P G Θ Γ w0 M){own:Nat->Bool}{o:Oper}{K:St->Prop}(h:Rel w0 M T γ st a w)(hr:ag6 Θ Γ own o K st)
 {next:Act->World->Prop} {Q:Exit->Act->World->Prop} (hn:∀s γ' a' w',K s->Rel w0 M T γ' s a' w'->next a' w'):o.wp P a w next Q:=by
 unfold ag6 at hr;split at hr
 .next hd=>
  have akC:∀(s:St)(v:AV)(u:Value)(γ':Nat->Value)(w':World),Rel w0 M T γ' s a w'->aP (aj w0 T γ' s w') v u->K (land own (numOf st o) o v s)->next (a.put o.dst u) w':=by
   intro s v u γ' w' hR hv hK;have hsz:s.n=st.n:=by rw[← hR.size,h.size]
   have hput:Rel w0 M T γ' (s.put o.dst v) (a.put o.dst u) w':=by
    cases hdst:o.dst with
    |none=>exact hR
    |some d=>rw[XB,hdst]at hd;refine hR.set d ?_ v u hv;rw[hsz];simpa[axj]using hd
   unfold land at hK;split at hK
   .exact hn _ γ' _ _ hK (hput.fix _)
   .unfold ajz at hK;split at hK
    .exact hn _ γ' _ _ hK (hput.freeze _)
    .exact hn _ γ' _ _ hK hput
  have main:∀(st1:St)(_:Rel w0 M T γ st1 a w)(_:st1.n=st.n)(p:Prop)(v:AV)(s:St),oper Θ Γ (numOf st o) st1 o.op=some (p,v,s)->p->K (land own (numOf st o) o v s)->o.wp P a w next Q:=by intro st1 h1 hn1 p v s hop hp hK;exact akz hE h1 o hop hp λu γ' w' hR hv=>akC s v u γ' w' hR hv hK
  have apT:∀(st1:St)(_:Rel w0 M T γ st1 a w)(p:Prop)(ρ:Ja)(os:List (Option Nat))(s0:St),aaR Γ st1 o.op=some (p,ρ,os,s0)->
   (p/\∀t,ρ.R t->match QM (numOf st o) s0 os (ρ.out t) (ρ.aC t)with|some (v,s)=>K (land own (numOf st o) o v s)|none=>False)->o.wp P a w next Q:=by
   intro st1 h1 p ρ os s0 hrel ⟨hp,hall⟩;refine alL hE h1 o (d:=numOf st o) hrel hp (λt ht=>?_) λt v s u γ' w' ht hs hR hv=>?_
   .have:=hall t ht;split at this
    .next v s hs=>exact⟨_,hs⟩
    .exact this.elim
   .have:=hall t ht;rw[hs]at this;exact akC s v u γ' w' hR hv this
  split at hr
  .next p ρ os s0 hrel=>
   unfold alP at hrel;split at hrel
   .next r hr0=>
    cases hrel;have hroom:Rel w0 M T γ (roomy (numOf st o) st) a w:=by
     unfold roomy;split
     .exact h.kill _
     .exact h
    exact apT _ hroom p ρ os s0 hr0 hr
   .exact apT _ h p ρ os s0 hrel hr
  split at hr
  .next neg R hnil=>exact alR hE h o hnil λg hg=>akC st (.sv (.one (.bool (aa0 neg g)))) (.bool (aa0 neg g)) γ w h rfl (hr g hg)
  cases ho:akA Θ Γ (numOf st o) st o.op with
  |none=>rw[ho]at hr;exact hr.elim
  |some res=>
   obtain⟨p,v,s⟩:=res;rw[ho]at hr;have hq1:quiet st o.op=true->K (land own (numOf st o) o v s):=λe=>by simp only[e]at hr;exact hr
   have hq2:quiet st o.op=false->p/\K (land own (numOf st o) o v s):=λe=>by simp only[e]at hr;exact hr
   unfold akA at ho;cases hop1:oper Θ Γ (numOf st o) st o.op with
   |some r=>
    rw[hop1]at ho;cases ho;cases hqq:quiet st o.op with
    |true=>exact main st h rfl p v s hop1 (aaZ hop1 hqq) (hq1 hqq)
    |false=>exact main st h rfl p v s hop1 (hq2 hqq).1 (hq2 hqq).2
   |none=>
    rw[hop1]at ho;cases hm:makes o.op with
    |false=>rw[hm]at ho;cases ho
    |true=>
     rw[hm]at ho;cases hqq:quiet st o.op with
     |true=>
      refine main _ (h.kill _) rfl p v s ho (aaZ ho ?_) (hq1 hqq);cases hop2:o.op<;>rw[hop2]at hm hqq<;>simp only[makes,av7]at hm<;>first|rfl|(simp[quiet]at hqq;done)|skip
      rename_i c
      obtain⟨callee,args,pI⟩:=c;cases callee<;>simp only[av7]at hm;exact hqq
     |false=>exact main _ (h.kill _) rfl p v s ho (hq2 hqq).1 (hq2 hqq).2
 .exact hr.elim
theorem Rel.ao6(h:Rel w0 M T γ st a w)(d:Option Nat)(hd:∀t,d=some t->t<st.n):Rel w0 M T γ (st.put d (.mD [])) (a.put d undef) w:=by
 cases d with
 |none=>exact h
 |some d=>exact h.set d (hd d rfl) (.mD []) undef ⟨#[],rfl,trivial⟩
theorem afP{ops:Array Oper}{o:Oper}{one skip:St->Prop}(h:Rel w0 M T γ st a w)(hr:guarded ops.toList o one skip st){Y Z:Prop}
 (h1:one st->Y) (h2:skip (st.put o.dst (.mD []))->Z):
 (Region.wanted o (yielded ops a.tmps)=true/\Y)\/(Region.wanted o (yielded ops a.tmps)=false/\XB st o=true/\Z):=by
 unfold guarded at hr;split at hr
 .next hg=>exact .inl ⟨by simp[Region.wanted,hg],h1 hr⟩
 .next g b hg=>
  split at hr
  .next og hog=>
   split at hr
   .next t ht=>
    split at hr
    .next x hok hlt htm=>
     have hy:yielded ops a.tmps g=some x:=by
      have hr1:=h.tmps t;rw[htm]at hr1;have hv:a.tmps.getD t undef=.bool x:=hr1;have hsz:t<a.tmps.size:=by rw[h.size];simpa[axj]using hlt
      have ani:ops[g]? =some og:=by simpa using hog
      have hget:a.tmps[t]? =some (.bool x):=by rw[axN hsz];simp[Array.getD,hsz]at hv;rw[hv]
      simp[yielded,ani,ht,hget]
     cases x
     .simp only[aw2,set_self htm]at hr;cases b
      .exact .inl ⟨ao2,h1 hr⟩
      .exact .inr ⟨ao2,hok,h2 hr⟩
     .simp only[axH,set_self htm]at hr;cases b
      .exact .inr ⟨ao2,hok,h2 hr⟩
      .exact .inl ⟨ao2,h1 hr⟩
    .next xs hok hlt htm=>
     have hy:yielded ops a.tmps g=none:=by
      have hr1:=h.tmps t;rw[htm]at hr1;obtain⟨vs,hv,_⟩:=hr1;have hsz:t<a.tmps.size:=by rw[h.size];simpa[axj]using hlt
      have ani:ops[g]? =some og:=by simpa using hog
      have hget:a.tmps[t]? =some (.tuple vs):=by rw[axN hsz];simp[Array.getD,hsz]at hv;rw[hv]
      simp[yielded,ani,ht,hget]
     exact .inr ⟨ao2,hok,h2 hr⟩
    .exact hr.elim
   .exact hr.elim
  .exact hr.elim
theorem JA{G:jT}(hE:ru P G Θ Γ w0 M){own:Nat->Bool}{ops:Array Oper}{K:St->Prop}{Q:Exit->Act->World->Prop}
 (hn:∀s γ' a' w',K s->Rel w0 M T γ' s a' w'->Q .normal a' w'):∀(l:List Oper)(st:St)(γ:Nat->Value)(a:Act)(w:World),
 Rel w0 M T γ st a w->runs Θ Γ own ops.toList K l st->wpList P ops Q l a w
 |[],st,γ,a,w,h,hr=>hn st γ a w hr h
 |o::r,st,γ,a,w,h,hr=>by
  unfold wpList;have:=afP (ops:=ops) (o:=o) (Y:=o.wp P a w (wpList P ops Q r) Q) (Z:=XB st o=true->wpList P ops Q r (a.put o.dst undef) w) h hr
   (λh1=>ag7 hE h h1 λs γ' a' w' hK hR=>JA hE hn r s γ' a' w' hR hK)
   (λh2 hok=>JA hE hn r _ γ _ w (h.ao6 o.dst (λt ht=>by rw[XB,ht]at hok;simpa[axj]using hok)) h2)
  rcases this with⟨e,hy⟩|⟨e,hok,hz⟩
  .rw[if_pos e];exact .inl hy
  .rw[if_neg (by rw[e];simp)];exact hz hok
theorem ag8{G:jT}(hE:ru P G Θ Γ w0 M){own:Nat->Bool}{id:Nat}{ops:Array Oper}{K:St->Prop}{Q:Exit->Act->World->Prop}(h:Rel w0 M T γ st a w)
 (hr:runs Θ Γ own ops.toList K ops.toList st) (hn:∀s γ' a' w',K s->Rel w0 M T γ' s a' w'->Q .normal a' w'):(Code.region id ops false).wp P Q a w:=
 wp_region_list (JA hE hn _ _ _ _ _ h hr)
inductive Pre where
 |still (o:Nat)
 |opens (t:Nat)
 |closes (t:Nat)
 |apU (o:Nat)
def ajB(st:St)(t o:Nat)(e:TypeId)(r:au)(l:List r.den)(fr:Bool):St:=((st.kill (Nat.beq o ·)).add o (.arr e r l fr)).set t (.sv (.one (.ref o)))
def Q5:List Pre->(St->Prop)->St->Prop
 |[],K,st=>K st
 |.still o::z,K,st=>Q5 z K (st.freeze (Nat.beq o ·))
 |.apU o::z,K,st=>Q5 z K (st.fix o)
 |.opens t::z,K,st=>match st.tmps t with
  |.sv (.one (.ref o))=>match st.ah o with
   |some (.arr _ _ l _)=>0<l.length/\Q5 z K (st.set t (.win o 0 l.length))
   |_=>False
  |_=>False
 |.closes t::z,K,st=>match st.tmps t with
  |.win o lo n=>match Nat.beq lo 0,st.ah o with
   |true,some (.arr e r l fr)=>(0<l.length/\n<=l.length)/\Q5 z K (ajB st t o e r (l.take n) fr)
   |_,_=>False
  |_=>False
theorem Rel.alS(h:Rel w0 M T γ st a w)(t:Nat)(v:AV)(hv:aP (aj w0 T γ st w) v (a.tmps.getD t undef)):Rel w0 M T γ (st.set t v) a w:=by
 refine⟨h.mT,h.defers,h.size,h.os,h.tape,h.output,h.grow,h.kept,λk=>?_,h.ah,h.lt,h.sep,h.pin⟩;show aP _ (match Nat.beq k t with|true=>v|false=>st.tmps k) (a.tmps.getD k undef);cases hb:Nat.beq k t with
 |false=>exact h.tmps k
 |true=>rw[auG hb];exact hv
theorem Rel.close(h:Rel w0 M T γ st a w){t o n:Nat}{e:TypeId}{r:au}{l:List r.den}{fr:Bool}(ht:st.tmps t=.win o 0 n)(ho:st.ah o=some (.arr e r l fr))(hl:0<l.length)(hn:n<=l.length):∃γ',Rel w0 M T γ' (ajB st t o e r (l.take n) fr) a w:=by
 have htv:=h.tmps t;rw[ht]at htv;obtain⟨g,m,cap,e',r',l',fr',hx,hγ,⟨q,hq,hv,hle⟩⟩:=htv;have hx:st.ah o=some (.arr e' r' l' fr'):=hx;rw[ho]at hx;cases hx;have hγ:γ o=.slice (some ⟨g,0,none⟩) m cap:=hγ;obtain⟨xs,⟨h1,h2⟩,hpos,hfr,hrow⟩:=h.ah o _ ho;rcases h2 with⟨hnil,_⟩|⟨g',cap',cur,hg,hg0,hh,hlc,hmax,hsz,htake⟩
 .have mJ:γ o=.slice none 0 0:=hnil;rw[hγ]at mJ;cases mJ
 .have mJ:γ o=.slice (some ⟨g',0,none⟩) l.length cap':=hg;rw[hγ]at mJ;simp at mJ;obtain⟨rfl,rfl,rfl⟩:=mJ;have hq0:q=0:=by
   rcases hq with e1|e1
   .rw[e1,awN]
   .omega
  subst hq0;have hmul:n*r.len<=l.length*r.len:=au1 _ hn;have hblk:blk (Value.slice (some ⟨g,0,none⟩) n cap)=blk (γ o):=by rw[hγ];rfl
  obtain⟨hR,_⟩:=h.replace (w':=w) (o:=o) (v':=.slice (some ⟨g,0,none⟩) n cap) (x':=.arr e r (l.take n) fr) (blk (γ o)) (.inr ⟨_,ho,rfl⟩) rfl rfl rfl (auH _) (λ_ _ _=>rfl)
   (λc hc=>⟨.inl (by rw[← hblk,hc]),(h.lt o _ c ho (by rw[← hblk,hc])).1⟩) (λ_ e=>ahb) (λle=>by
     have hlen:(l.take n).length=n:=ah8;refine⟨xs.take (n*r.len),?_,hpos,?_,λi z hi=>?_⟩
     .rw[hlen];show w.ownsRow 0 e r.len (upd γ o _ o) _ _;rw[upd_same];refine⟨by rw[auN,h1];omega,.inr ⟨g,cap,cur,rfl,auZ _,hh,aaV,hmax,hsz,?_⟩⟩;rw[← htake,axi,aw9 hmul]
     .intro c hc hf;have hc:blk (upd γ o (Value.slice (some ⟨g,0,none⟩) n cap) o)=some c:=hc;rw[upd_same,hblk]at hc;exact hfr c hc hf
     .have hil:i<n:=arQ;have hmul:i*r.len+r.len<=n*r.len:=by have:(i+1)*r.len<=n*r.len:=au1 _ hil;rw[avj]at this;simpa using this
      rw[avf,if_pos hil]at hi;rw[gW _ _ _ _ hmul];exact aH.mono (λc hc=>le.bW _ c hc) _ _ z (hrow i z hi))
  refine⟨_,hR.alS t _ ?_⟩;have hv':a.tmps.getD t undef=.slice (some ⟨g,0,none⟩) n cap:=hv;rw[hv'];exact⟨⟨e,r,_,_,add_same _ _ _⟩,(upd_same _ _ _).symm,rfl⟩
theorem Cj{K:St->Prop}:∀(z:List Pre)(st:St)(γ:Nat->Value),Rel w0 M T γ st a w->Q5 z K st->∃s γ',Rel w0 M T γ' s a w/\K s
 |[],st,γ,h,hk=>⟨st,γ,h,hk⟩
 |.still o::z,st,γ,h,hk=>Cj z _ γ (h.freeze _) hk
 |.apU o::z,st,γ,h,hk=>Cj z _ γ (h.fix o) hk
 |.opens t::z,st,γ,h,hk=>by
  rw[Q5]at hk;split at hk
  .next o ht=>
   split at hk
   .next e r l fr ho=>
    refine Cj z _ γ (h.alS t _ ?_) hk.2;have htv:=h.tmps t;rw[ht]at htv;obtain⟨_,hv,_⟩:=htv;obtain⟨xs,⟨_,h2⟩,_⟩:=h.ah o _ ho;rcases h2 with⟨_,h4⟩|⟨g,cap,cur,h3,_,_,h4,h5,_⟩
    .have:=hk.1;omega
    .have hv:a.tmps.getD t undef=γ o:=hv;have h3:γ o=.slice (some ⟨g,0,none⟩) l.length cap:=h3;refine⟨g,l.length,cap,e,r,l,fr,ho,h3,0,.inl (by rw[awN]),by rw[hv,h3];rfl,aaV⟩
   .exact hk.elim
  .exact hk.elim
 |.closes t::z,st,γ,h,hk=>by
  rw[Q5]at hk;split at hk
  .next o lo n ht=>
   split at hk
   .next e r l fr hb ho=>have hlo:=auG hb;subst hlo;obtain⟨γ',hR⟩:=h.close ht ho hk.1.1 hk.1.2;exact Cj z _ γ' hR hk.2
   .exact hk.elim
  .exact hk.elim
inductive gY where
 |int (k:IntKind)
 |bool
 |str
 |nil
 |sl (e:TypeId) (r:au) (fr:Bool)
 |ref (o:Nat)
 |junk
@[reducible] def gY.den:gY->Type
  |.int _=>Int
  |.bool=>Bool
  |.str=>Bytes
  |.sl _ r _=>List r.den
  |.nil|.ref _|.junk=>Unit
def gY.cell:(c:gY)->c.den->Cell
 |.int k,n=>.int k n
 |.bool,b=>.bool b
 |.str,s=>.str s
 |.sl e r fr,l=>.sl e r l fr
 |.nil,_=>.nil
 |.ref o,_=>.ref o
 |.junk,_=>.junk
def KI:Bool->Bool->Bool
 |true,b=>b
 |false,_=>true
def gY.read:(c:gY)->Cell->Option c.den
 |.int k,.int l n=>match decide (k=l)with|true=>some n|false=>none
 |.bool,.bool b=>some b
 |.str,.str s=>some s
 |.sl e r fr,.sl f s l gr=>match Nat.beq e f&&KI fr gr with
  |true=>if h:s.beq r=true then some (tV h l)else none
  |false=>none
 |.sl _ _ _,.nil=>some []
 |.nil,.nil=>some ()
 |.ref o,.ref p=>match Nat.beq o p with|true=>some ()|false=>none
 |.junk,_=>some ()
 |_,_=>none
theorem apV(X:V)(e:TypeId)(r:au)(fr:Bool):aO X (.sl e r [] fr) (.slice none 0 0):=by refine⟨abZ,.inl ⟨rfl,none,0,rfl⟩⟩
theorem gY.weak{X:V}:∀(c:gY)(x:Cell)(d:c.den)(v:Value),c.read x=some d->aO X x v->aO X (c.cell d) v:=by
 intro c x d v hr hv;cases c<;>cases x<;>simp only[gY.read,reduceCtorEq,Option.some.injEq]at hr<;>try (subst hr;exact hv)
 case int.int k l n=>
  split at hr
  .next e=>cases hr;rw[show k=l by simpa using e];exact hv
  .cases hr
 case sl.sl e r fr f s l gr=>
  split at hr
  .next hb=>
   split at hr
   .next hs=>
    cases hr;rw[auC]at hb;have he:=auG hb.1;subst he;have hsr:=au.eq_of_beq s r hs;subst hsr;have hv':bY X.w.heap (X.bW gr) (.sl e s) v l:=hv;refine bY.mono (λb hb'=>⟨⟨hb'.1,λhfr=>hb'.2 ?_⟩,rfl⟩) (.sl e s) v l hv';subst hfr;cases gr
    .simp[KI]at hb
    .rfl
   .cases hr
  .cases hr
 case sl.nil e r fr=>subst hr;rw[show v=_ from hv];exact apV X e r fr
 case nil.nil=>exact hv
 case ref.ref o p=>
  split at hr
  .next hb=>rw[gY.cell,auG hb];exact hv
  .cases hr
 all_goals exact aO.one _ _ hv
@[reducible] def lT:List gY->Type
  |[]=>Unit
  |c::r=>c.den×lT r
def iw:(l:List gY)->lT l->List Cell
 |[],_=>[]
 |c::r,x=>c.cell x.1::iw r x.2
def jO:(l:List gY)->List Cell->Option (lT l)
 |[],[]=>some ()
 |c::r,x::xs=>match c.read x,jO r xs with
  |some a,some b=>some (a,b)
  |_,_=>none
 |_,_=>none
theorem DC{X:V}:∀(l:List gY)(xs:List Cell)(d:lT l)(vs:List Value),jO l xs=some d->ai X xs vs->ai X (iw l d) vs
 |[],[],_,_,_,hv=>hv
 |c::r,x::xs,d,vs,hr,hv=>by
  rw[jO]at hr;split at hr
  .next a b h1 h2=>
   cases hr;cases vs with
   |nil=>cases hv
   |cons v vs=>exact⟨gY.weak c x a v h1 hv.1,DC r xs b vs h2 hv.2⟩
  .cases hr
 |[],_::_,_,_,hr,_=>by simp[jO]at hr
 |_::_,[],_,_,hr,_=>by simp[jO]at hr
@[reducible] def Aw:List (List gY)->Type
  |[]=>Unit
  |l::r=>lT l×Aw r
def Iw:(l:List (List gY))->Aw l->List (List Cell)
 |[],_=>[]
 |c::r,x=>iw c x.1::Iw r x.2
def Eu:(l:List (List gY))->List (List Cell)->Option (Aw l)
 |[],[]=>some ()
 |c::r,x::xs=>match jO c x,Eu r xs with
  |some a,some b=>some (a,b)
  |_,_=>none
 |_,_=>none
theorem aeT{X:V}{l:List gY}{xs:List Cell}{d:lT l}{b:Nat}(hr:jO l xs=some d)(h:gV X xs b):gV X (iw l d) b:=by obtain⟨arr,t,fz,hf,hh,hc⟩:=h;exact⟨arr,t,fz,hf,hh,DC _ _ _ _ hr hc⟩
theorem Vx{X:V}:∀(l:List (List gY))(xs:List (List Cell))(d:Aw l)(us:List Value),Eu l xs=some d->eP X xs us->eP X (Iw l d) us
 |[],[],_,us,_,h=>h
 |c::r,x::xs,d,us,hr,h=>by
  rw[Eu]at hr;split at hr
  .next a b h1 h2=>
   cases hr;cases us with
   |nil=>cases h
   |cons u us=>obtain⟨⟨b',hu,hk⟩,h3⟩:=h;exact⟨⟨b',hu,aeT h1 hk⟩,Vx r xs b us h2 h3⟩
  .cases hr
 |[],_::_,_,_,hr,_=>by simp[Eu]at hr
 |_::_,[],_,_,hr,_=>by simp[Eu]at hr
inductive GL where
 |one (c:gY)
 |agg (l:List gY)
 |bK (o off:Nat)
 |fA (l:List gY) (off:Nat)
 |fn (f:FuncId) (l:List (List gY))
@[reducible] def GL.den:GL->Type
  |.one c=>c.den
  |.agg l=>lT l
  |.bK _ _=>Unit
  |.fA l _=>lT l
  |.fn _ l=>Aw l
def GL.val:(s:GL)->s.den->AV
 |.one c,x=>.sv (.one (c.cell x))
 |.agg l,x=>.sv (.agg (iw l x))
 |.bK o off,_=>.bK o off
 |.fA l off,x=>.fA (iw l x) off
 |.fn f l,x=>.fn f (Iw l x)
def GL.read:(s:GL)->AV->Option s.den
 |.one c,.sv (.one x)=>c.read x
 |.agg l,.sv (.agg xs)=>jO l xs
 |.bK o off,.bK p k=>match Nat.beq o p&&Nat.beq off k with|true=>some ()|false=>none
 |.fA l off,.fA xs k=>match Nat.beq off k with|true=>jO l xs|false=>none
 |.fn f l,.fn g xs=>match Nat.beq f g with|true=>Eu l xs|false=>none
 |_,_=>none
theorem GL.weak{X:V}(s:GL)(x:AV)(d:s.den)(v:Value)(hr:s.read x=some d)(hv:aP X x v):aP X (s.val d) v:=by
 unfold GL.read at hr;split at hr
 .exact gY.weak _ _ _ _ hr hv
 .obtain⟨vs,e,h⟩:=hv;exact⟨vs,e,DC _ _ _ _ hr h⟩
 .split at hr
  .next hb=>rw[auC]at hb;rw[GL.val,auG hb.1,auG hb.2];exact hv
  .cases hr
 .split at hr
  .next hb=>obtain⟨b,e,arr,t,fz,hf,hh,hc⟩:=hv;rw[GL.val,auG hb];exact⟨b,e,arr,t,fz,hf,hh,DC _ _ _ _ hr hc⟩
  .cases hr
 .split at hr
  .next hb=>obtain⟨us,e,hk⟩:=hv;rw[GL.val,auG hb];exact⟨us,e,Vx _ _ _ _ hr hk⟩
  .cases hr
 .cases hr
inductive Jm where
 |var (l:List gY)
 |arr (e:TypeId) (r:au) (fr:Bool)
@[reducible] def Jm.den:Jm->Type
  |.var l=>lT l
  |.arr _ r _=>List r.den
def Jm.obj:(s:Jm)->s.den->ay
 |.var l,x=>.var (iw l x)
 |.arr e r fr,l=>.arr e r l fr
def Jm.read:(s:Jm)->ay->Option s.den
 |.var l,.var xs=>jO l xs
 |.arr e r fr,.arr f s l gr=>match Nat.beq e f&&KI fr gr with
  |true=>if h:s.beq r=true then some (tV h l)else none
  |false=>none
 |_,_=>none
def G8(x x':ay):Prop:=
 (∃cs cs',x=.var cs/\x'=.var cs'/\∀(X:V) vs,ai X cs vs->ai X cs' vs)\/∃e r l fr gr,x=.arr e r l gr/\x'=.arr e r l fr/\(fr=true->gr=true)
theorem Jm.weak(s:Jm)(x:ay)(d:s.den)(hr:s.read x=some d):G8 x (s.obj d):=by
 unfold Jm.read at hr;split at hr
 .exact .inl ⟨_,_,rfl,rfl,λX vs h=>DC _ _ _ _ hr h⟩
 .next e r fr f s l gr=>
  split at hr
  .next hb=>
   split at hr
   .next hs=>
    cases hr;rw[auC]at hb;have he:=auG hb.1;have hg:fr=true->gr=true:=λe=>by have hb2:=hb.2;rw[e]at hb2;exact hb2
    subst he;have hsr:=au.eq_of_beq s r hs;subst hsr;exact .inr ⟨e,s,l,fr,gr,rfl,rfl,hg⟩
   .cases hr
  .cases hr
 .cases hr
structure Covers(J st:St):Prop where
 n:J.n=st.n
 tmps:∀t(X:V) v,aP X (st.tmps t) v->aP X (J.tmps t) v
 ah:∀o,(J.ah o=none/\st.ah o=none)\/∃x x',st.ah o=some x/\J.ah o=some x'/\G8 x x'
theorem Rel.covers{J:St}(h:Rel w0 M T γ st a w)(hc:Covers J st):Rel w0 M T γ J a w:=by
 have key:∀o x',J.ah o=some x'->∃x,st.ah o=some x/\G8 x x':=by
  intro o x' hx';rcases hc.ah o with⟨e,_⟩|⟨x,y,hx,hy,hw⟩
  .rw[e]at hx';cases hx'
  .rw[hy]at hx';cases hx';exact⟨x,hx,hw⟩
 have yek:∀o x,st.ah o=some x->∃x',J.ah o=some x'/\G8 x x':=by
  intro o x hx;rcases hc.ah o with⟨_,e⟩|⟨y,x',hy,hx',hw⟩
  .rw[e]at hx;cases hx
  .rw[hy]at hx;cases hx;exact⟨x',hx',hw⟩
 have hle:(aj w0 T γ st w).le (aj w0 T γ J w):=by
  refine⟨auH _,λb hb=>⟨⟨hb.1,hb.2.1,λo x hx=>?_⟩,rfl⟩,λo cs hx=>⟨?_,rfl⟩,λo e r l fr hx=>⟨?_,rfl⟩⟩
  .obtain⟨y,hy,_⟩:=key o x hx;exact hb.2.2 o y hy
  .obtain⟨x',hx',hw⟩:=yek o _ hx;rcases hw with⟨cs1,cs2,e1,e2,_⟩|⟨e,r,l,fr,gr,e1,e2,_⟩
   .exact⟨cs2,hx'.trans (by rw[e2])⟩
   .cases e1
  .obtain⟨x',hx',hw⟩:=yek o _ hx;rcases hw with⟨cs1,cs2,e1,e2,_⟩|⟨e,r,l,fr,gr,e1,e2,_⟩
   .cases e1
   .cases e1;exact⟨l,fr,hx'.trans (by rw[e2])⟩
 refine⟨h.mT,h.defers,h.size.trans hc.n.symm,h.os,h.tape,h.output,h.grow,h.kept,λt=>hc.tmps t _ _ (aP.mono hle _ _ (h.tmps t)),λo x' hx'=>?_,λo x' b hx' hb=>?_,λo x' p y' b hx' hy' hop hb=>?_,λo v cs hN hx'=>?_⟩
 .obtain⟨x,hx,hw⟩:=key o x' hx';have ho:=h.ah o x hx;rcases hw with⟨cs1,cs2,e1,e2,hcs⟩|⟨e,r,l,fr,gr,e1,e2,hfg⟩
  .subst e1 e2;obtain⟨b,arr,t,g1,g2,g3⟩:=ho;exact⟨b,arr,t,g1,g2,hcs _ _ (ai.mono hle _ _ g3)⟩
  .subst e1 e2;obtain⟨xs,g1,g2,g3,g4⟩:=ho;exact⟨xs,g1,g2,λb hb hf=>g3 b hb (hfg hf),λi x hi=>aH.mono (λb hb=>hle.bW fr b ⟨hb.1,λe=>hb.2 (hfg e)⟩) r _ x (g4 i x hi)⟩
 .obtain⟨x,hx,_⟩:=key o x' hx';exact h.lt o x b hx hb
 .obtain⟨x,hx,_⟩:=key o x' hx';obtain⟨y,hy,_⟩:=key p y' hy';exact h.sep o x p y b hx hy hop hb
 .obtain⟨x,hx,hw⟩:=key o _ hx';rcases hw with⟨cs1,cs2,e1,e2,_⟩|⟨e,r,l,fr,gr,e1,e2,_⟩
  .subst e1;exact h.pin o v cs1 hN hx
  .cases e2
structure Shape where
 tmps:List (Nat×GL)
 ah:List (Nat×Jm)
@[reducible] def aa2:List (Nat×GL)->Type
  |[]=>Unit
  |x::r=>x.2.den×aa2 r
@[reducible] def aa3:List (Nat×Jm)->Type
  |[]=>Unit
  |x::r=>x.2.den×aa3 r
@[reducible] def Shape.den (s:Shape):Type:=aa2 s.tmps×aa3 s.ah
def Vy:(l:List (Nat×GL))->aa2 l->(Nat->AV)->Nat->AV
 |[],_,f=>f
 |s::r,x,f=>λi=>match Nat.beq i s.1 with|true=>s.2.val x.1|false=>Vy r x.2 f i
def Iy:(l:List (Nat×Jm))->aa3 l->(Nat->Option ay)->Nat->Option ay
 |[],_,f=>f
 |s::r,x,f=>λi=>match Nat.beq i s.1 with|true=>some (s.2.obj x.1)|false=>Iy r x.2 f i
def aa4(st:St):(l:List (Nat×GL))->Option (aa2 l)
 |[]=>some ()
 |s::r=>match s.2.read (st.tmps s.1),aa4 st r with
  |some a,some b=>some (a,b)
  |_,_=>none
def aa5(st:St):(l:List (Nat×Jm))->Option (aa3 l)
 |[]=>some ()
 |s::r=>match st.ah s.1,aa5 st r with
  |some x,some b=>match s.2.read x with
   |some a=>some (a,b)
   |none=>none
  |_,_=>none
def aK:List Nat->Nat->Bool
 |[],_=>false
 |x::r,o=>match Nat.beq o x with|true=>true|false=>aK r o
def names:List (Nat×Jm)->List Nat
 |[]=>[]
 |x::r=>x.1::names r
def joint(n:Nat)(c v:Shape)(x:c.den)(y:v.den):St:=
 {n:=n,tmps:=Vy c.tmps x.1 (Vy v.tmps y.1 (λ_=>.undef)),ah:=Iy c.ah x.2 (Iy v.ah y.2 (λ_=>none))}
def only(c v:Shape)(st:St):St:=st.freeze λo=>!(aK (names c.ah) o||aK (names v.ah) o)
def Shape.read(s:Shape)(st:St):Option s.den:=
 match aa4 st s.tmps,aa5 st s.ah with
 |some a,some b=>some (a,b)
 |_,_=>none
theorem Oh{X:V}(t:Nat)(u:Value)(hu:aP X (st.tmps t) u):∀(l:List (Nat×GL))(x:aa2 l)(f:Nat->AV),aa4 st l=some x->aP X (f t) u->aP X (Vy l x f t) u
 |[],_,_,_,hf=>hf
 |s::r,x,f,hr,hf=>by
  rw[aa4]at hr;split at hr
  .next a b h1 h2=>
   cases hr;simp only[Vy];cases hb:Nat.beq t s.1 with
   |true=>
    rw[auG hb]at hu;exact GL.weak s.2 _ a u h1 hu
   |false=>exact Oh t u hu r b f h2 hf
  .cases hr
theorem Ic(o:Nat):∀(l:List (Nat×Jm))(x:aa3 l)(f:Nat->Option ay),aa5 st l=some x->
 (f o=none\/∃y y',st.ah o=some y/\f o=some y'/\G8 y y')->
 ((Iy l x f o=none/\aK (names l) o=false/\f o=none)\/∃y y',st.ah o=some y/\Iy l x f o=some y'/\G8 y y')
 |[],_,f,_,hf=>by
  rcases hf with e|h
  .exact .inl ⟨e,rfl,e⟩
  .exact .inr h
 |s::r,x,f,hr,hf=>by
  rw[aa5]at hr;split at hr
  .next y b h1 h2=>
   split at hr
   .next a h3=>
    cases hr;simp only[Iy,names,aK];cases hb:Nat.beq o s.1 with
    |true=>
     rw[auG hb];exact .inr ⟨y,_,h1,rfl,Jm.weak s.2 y a h3⟩
    |false=>exact Ic o r b f h2 hf
   .cases hr
  .cases hr
theorem ag9{c v:Shape}{x:c.den}{y:v.den}(hc:c.read (only c v st)=some x)(hv:v.read (only c v st)=some y):Covers (joint st.n c v x y) (only c v st):=by
 unfold Shape.read at hc hv;split at hc
 .next a b h1 h2=>
  cases hc;split at hv
  .next a' b' h3 h4=>
   cases hv;refine⟨rfl,λt X u hu=>Oh t u hu _ _ _ h1 (Oh t u hu _ _ _ h3 trivial),λo=>?_⟩;rcases Ic o v.ah b' (λ_=>none) h4 (.inl rfl)with⟨e1,e2,_⟩|h
   .rcases Ic o c.ah b (Iy v.ah b' (λ_=>none)) h2 (.inl e1)with⟨g1,g2,_⟩|h
    .refine .inl ⟨g1,?_⟩;simp[only,St.freeze,e2,g2]
    .exact .inr h
   .rcases Ic o c.ah b (Iy v.ah b' (λ_=>none)) h2 (.inr h)with⟨g1,g2,g3⟩|h'
    .obtain⟨y,y',_,h5,_⟩:=h;rw[h5]at g3;cases g3
    .exact .inr h'
  .cases hv
 .cases hc
theorem Rel.joint(h:Rel w0 M T γ st a w){c v:Shape}{x:c.den}{y:v.den}(hc:c.read (only c v st)=some x)(hv:v.read (only c v st)=some y):
 Rel w0 M T γ (joint st.n c v x y) a w:=(h.freeze _).covers (ag9 hc hv)
end Go.Fw
namespace Go.Fw
open Go
variable {P:Program} {w0:World} {M:Nat->Prop} {T:Ext} {γ γ':Nat->Value} {st:St} {a:Act} {w w':World}
def Cell.ren(f:Nat->Nat):Cell->Cell
 |.ref q=>.ref (f q)
 |c=>c
def SV.ren(f:Nat->Nat):SV->SV
 |.one c=>.one (c.ren f)
 |.agg cs=>.agg (cs.map (Cell.ren f))
def AV.ren(f:Nat->Nat):AV->AV
 |.undef=>.undef
 |.sv v=>.sv (v.ren f)
 |.mD vs=>.mD (vs.map (SV.ren f))
 |.bK o off=>.bK (f o) off
 |.nR o i off=>.nR (f o) i off
 |.win o i off=>.win (f o) i off
 |.pW r x off fr=>.pW r x off fr
 |.fA cs off=>.fA (cs.map (Cell.ren f)) off
 |.fn g caps=>.fn g (caps.map (List.map (Cell.ren f)))
def ay.ren(f:Nat->Nat):ay->ay
 |.var cs=>.var (cs.map (Cell.ren f))
 |.arr e r l fr=>.arr e r l fr
def zO(o p q:Nat):Nat:=match Nat.beq q o with|true=>p|false=>q
def St.ren(st:St)(o p:Nat):St:=
 {n:=st.n,tmps:=λt=>(st.tmps t).ren (zO o p),ah:=λq=>match Nat.beq q p with
  |true=>(st.ah o).map (ay.ren (zO o p))
  |false=>match Nat.beq q o with|true=>none|false=>(st.ah q).map (ay.ren (zO o p))}
structure V.qN(f:Nat->Nat)(X Y:V):Prop where
 n0:Y.n0<=X.n0
 foot:∀b,X.foot b->Y.foot b/\Y.w.heap[b]? =X.w.heap[b]?
 var:∀o cs,X.ah o=some (.var cs)->(∃cs',Y.ah (f o)=some (.var cs'))/\Y.γ (f o)=X.γ o
 arr:∀o e r l fr,X.ah o=some (.arr e r l fr)->(∃l' fr',Y.ah (f o)=some (.arr e r l' fr'))/\Y.γ (f o)=X.γ o
variable {f:Nat->Nat}
theorem V.qN.bW{X Y:V}(h:X.qN f Y)(fr:Bool)(b:Nat)(hb:X.bW fr b):Y.bW fr b/\Y.w.heap[b]? =X.w.heap[b]? :=
 ⟨⟨(h.foot b hb.1).1,λe=>auK h.n0 (hb.2 e)⟩,(h.foot b hb.1).2⟩
theorem aO.qN{X Y:V}(h:X.qN f Y):∀(c:Cell)(v:Value),aO X c v->aO Y (c.ren f) v
 |.int _ _,_,H|.bool _,_,H|.str _,_,H|.nil,_,H|.junk,_,H=>H
 |.sl e r l fr,v,H=>bY.mono (λb hb=>h.bW fr b hb) (.sl e r) v l H
 |.ref o,v,⟨⟨e,r,l,fr,hx⟩,hv,h1⟩=>by obtain⟨⟨l',fr',hy⟩,hγ⟩:=h.arr o e r l fr hx;exact⟨⟨e,r,l',fr',hy⟩,hv.trans hγ.symm,h1⟩
theorem ai.qN{X Y:V}(h:X.qN f Y):∀(cs:List Cell)(vs:List Value),ai X cs vs->ai Y (cs.map (Cell.ren f)) vs
 |[],[],H=>H
 |c::cs,v::vs,⟨h1,h2⟩=>⟨aO.qN h c v h1,ai.qN h cs vs h2⟩
 |[],_::_,H|_::_,[],H=>afG
theorem dF.qN{X Y:V}(h:X.qN f Y):∀(c:SV)(v:Value),dF X c v->dF Y (c.ren f) v
 |.one c,v,H=>aO.qN h c v H
 |.agg cs,_,⟨vs,hv,H⟩=>⟨vs,hv,ai.qN h cs _ H⟩
theorem dG.qN{X Y:V}(h:X.qN f Y):∀(cs:List SV)(vs:List Value),dG X cs vs->dG Y (cs.map (SV.ren f)) vs
 |[],[],H=>H
 |c::cs,v::vs,⟨h1,h2⟩=>⟨dF.qN h c v h1,dG.qN h cs vs h2⟩
 |[],_::_,H|_::_,[],H=>afG
theorem gV.qN{X Y:V}(h:X.qN f Y){cs:List Cell}{b:Nat}(H:gV X cs b):gV Y (cs.map (Cell.ren f)) b:=by obtain⟨arr,t,fz,hb,hh,hr⟩:=H;exact⟨arr,t,fz,(h.foot b hb).1,(h.foot b hb).2.trans hh,ai.qN h cs _ hr⟩
theorem eP.qN{X Y:V}(h:X.qN f Y):∀(l:List (List Cell))(us:List Value),eP X l us->eP Y (l.map (List.map (Cell.ren f))) us
 |[],[],H=>H
 |cs::l,u::us,⟨⟨b,hu,hk⟩,h2⟩=>⟨⟨b,hu,gV.qN h hk⟩,eP.qN h l us h2⟩
 |[],_::_,H|_::_,[],H=>afG
theorem aP.qN{X Y:V}(h:X.qN f Y):∀(c:AV)(v:Value),aP X c v->aP Y (c.ren f) v
 |.undef,_,_=>trivial
 |.sv x,v,H=>dF.qN h x v H
 |.mD xs,_,⟨vs,hv,H⟩=>⟨vs,hv,dG.qN h xs _ H⟩
 |.bK o off,v,⟨b,cs,hx,hγ,hv⟩=>by
  obtain⟨⟨cs',hy⟩,he⟩:=h.var o cs hx;exact⟨b,cs',hy,he.trans hγ,hv⟩
 |.nR o i off,v,⟨b,n,cap,e,r,l,fr,hx,hγ,hv⟩=>by
  obtain⟨⟨l',fr',hy⟩,he⟩:=h.arr o e r l fr hx;exact⟨b,n,cap,e,r,l',fr',hy,he.trans hγ,hv⟩
 |.win o i off,v,⟨b,n,cap,e,r,l,fr,hx,hγ,hv⟩=>by
  obtain⟨⟨l',fr',hy⟩,he⟩:=h.arr o e r l fr hx;exact⟨b,n,cap,e,r,l',fr',hy,he.trans hγ,hv⟩
 |.pW r x off fr,v,⟨b,base,cs,t,fz,hv,hf,hb,hr⟩=>
  ⟨b,base,cs,t,fz,hv,(h.bW fr b hf).1,(h.bW fr b hf).2.trans hb,aH.mono (λb hb=>h.bW fr b hb) r _ x hr⟩
 |.fA cs off,v,⟨b,hv,hk⟩=>⟨b,hv,gV.qN h hk⟩
 |.fn g caps,v,⟨us,hv,hk⟩=>⟨us,hv,eP.qN h caps _ hk⟩
theorem aZ.qN{X Y:V}(h:X.qN f Y)(o p:Nat):∀(x:ay),(∀b,blk (X.γ o)=some b->Y.w.heap[b]? =X.w.heap[b]?)->Y.γ p=X.γ o->aZ X o x->aZ Y p (x.ren f)
 |.var cs,hb,hγ,⟨b,arr,t,e,hh,hr⟩=>⟨b,arr,t,hγ.trans e,(hb b (by rw[e];rfl)).trans hh,ai.qN h cs _ hr⟩
 |.arr e r l fr,hb,hγ,⟨xs,hown,hr,hf,hx⟩=>by
  refine⟨xs,?_,hr,λb hb' hfr=>auK h.n0 (hf b (hγ▸hb') hfr),λi x hi=>aH.mono (λb hb=>h.bW fr b hb) r _ x (hx i x hi)⟩;obtain⟨h1,h2⟩:=hown;refine⟨h1,?_⟩;rcases h2 with h2|⟨g,cap,cur,hv,hg,hh,hrest⟩
  .exact .inl ⟨hγ.trans h2.1,h2.2⟩
  .exact .inr ⟨g,cap,cur,hγ.trans hv,hg,(hb g atj).trans hh,hrest⟩
theorem ajC(o p:Nat):zO o p o=p:=by unfold zO;rw[avr]
theorem Q7{o p q:Nat}(h:q≠o):zO o p q=q:=by unfold zO;rw[Ag h]
theorem Rel.ren(h:Rel w0 M T γ st a w){o p:Nat}{e:TypeId}{r:au}{l:List r.den}{fr:Bool}(ho:st.ah o=some (.arr e r l fr))(hp:st.ah p=none):
 Rel w0 M T (λq=>match Nat.beq q p with|true=>γ o|false=>γ q) (st.ren o p) a w:=by
 have hop:o≠p:=λe=>by rw[e,hp]at ho;cases ho
 have old:∀q x,(st.ren o p).ah q=some x->∃q0 x0,st.ah q0=some x0/\x=x0.ren (zO o p)/\q=zO o p q0/\(match Nat.beq q p with|true=>γ o|false=>γ q)=γ q0:=by
  intro q x hx;simp only[St.ren]at hx;cases hqp:Nat.beq q p with
  |true=>
   rw[hqp]at hx;simp only[ho,avz,Option.some.injEq]at hx;exact⟨o,_,ho,hx.symm,by rw[ajC];exact auG hqp,rfl⟩
  |false=>
   rw[hqp]at hx;cases hqo:Nat.beq q o with
   |true=>rw[hqo]at hx;cases hx
   |false=>
    rw[hqo]at hx;cases hs:st.ah q with
    |none=>rw[hs]at hx;cases hx
    |some x0=>rw[hs]at hx;cases hx;exact⟨q,x0,hs,rfl,(Q7 λe=>by rw[e,avr]at hqo;cases hqo).symm,rfl⟩
 have new:∀q x,st.ah q=some x->(st.ren o p).ah (zO o p q)=some (x.ren (zO o p))/\(match Nat.beq (zO o p q) p with|true=>γ o|false=>γ (zO o p q))=γ q:=by
  intro q x hx;by_cases hqo:q=o
  .subst hqo;rw[ajC];refine⟨?_,by rw[avr]⟩;simp only[St.ren,avr,hx,avz]
  .have hqp:q≠p:=λe=>by rw[e,hp]at hx;cases hx
   rw[Q7 hqo,Ag hqp];refine⟨?_,rfl⟩;simp only[St.ren,Ag hqp,Ag hqo,hx,avz]
 have le:V.qN (zO o p) (aj w0 T γ st w) ⟨w,w0.heap.size,T,λq=>match Nat.beq q p with|true=>γ o|false=>γ q,(st.ren o p).ah⟩:=by
  refine⟨auH _,λb hb=>⟨⟨hb.1,hb.2.1,λq x hx=>?_⟩,rfl⟩,λq cs hx=>?_,λq e' r' l' fr' hx=>?_⟩
  .obtain⟨q0,x0,h1,_,_,h4⟩:=old q x hx;show blk (match Nat.beq q p with|true=>γ o|false=>γ q)≠some b;rw[h4];exact hb.2.2 q0 x0 h1
  .obtain⟨h1,h2⟩:=new q _ hx;exact⟨⟨_,h1⟩,h2⟩
  .obtain⟨h1,h2⟩:=new q _ hx;exact⟨⟨_,_,h1⟩,h2⟩
 refine⟨h.mT,h.defers,h.size,h.os,h.tape,h.output,h.grow,h.kept,λt=>aP.qN le _ _ (h.tmps t),λq x hx=>?_,λq x b hx hb=>?_,λq x q' y b hx hy hne hb=>?_,λq v cs hN hx=>?_⟩
 .obtain⟨q0,x0,h1,rfl,h3,h4⟩:=old q x hx;exact aZ.qN le q0 q x0 (λ_ _=>rfl) h4 (h.ah q0 x0 h1)
 .obtain⟨q0,x0,h1,_,_,h4⟩:=old q x hx;exact h.lt q0 x0 b h1 (h4▸hb)
 .obtain⟨q0,x0,h1,_,h3,h4⟩:=old q x hx;obtain⟨q1,x1,g1,_,g3,g4⟩:=old q' y hy;rw[h4]at hb;rw[g4];refine h.sep q0 x0 q1 x1 b h1 g1 (λe=>hne ?_) hb;rw[h3,g3,e]
 .obtain⟨q0,x0,h1,h2,h3,h4⟩:=old q _ hx;cases x0 with
  |arr _ _ _ _=>cases h2
  |var cs0=>
   have:q0≠o:=λe=>by rw[e,ho]at h1;cases h1
   rw[Q7 this]at h3;subst h3;rw[h4];exact h.pin q v cs0 hN h1
theorem Rel.aqQ(h:Rel w0 M T γ st a w){o:Nat}{cs cs':List Cell}(ho:st.ah o=some (.var cs))(hc:∀vs,ai (aj w0 T γ st w) cs vs->ai (aj w0 T γ st w) cs' vs):
 Rel w0 M T γ (st.add o (.var cs')) a w:=by
 have hother:∀p,p≠o->(st.add o (.var cs')).ah p=st.ah p:=λp hp=>mM st _ hp;have hsome:∀p y,(st.add o (.var cs')).ah p=some y->∃z,st.ah p=some z:=by
  intro p y hp;by_cases e:p=o
  .rw[e];exact⟨_,ho⟩
  .rw[hother p e]at hp;exact⟨y,hp⟩
 have le:(aj w0 T γ st w).le ⟨w,w0.heap.size,T,γ,(st.add o (.var cs')).ah⟩:=by
  refine⟨auH _,λc hb=>⟨⟨hb.1,hb.2.1,λp y hp=>?_⟩,rfl⟩,λp ds hp=>⟨?_,rfl⟩,λp e r l fr hp=>⟨?_,rfl⟩⟩
  .obtain⟨z,hz⟩:=hsome p y hp;exact hb.2.2 p z hz
  .by_cases e:p=o
   .subst e;exact⟨cs',add_same _ _ _⟩
   .exact⟨ds,(hother p e).trans hp⟩
  .by_cases e2:p=o
   .subst e2;have hp':st.ah p=some (.arr e r l fr):=hp;rw[ho]at hp';cases hp'
   .exact⟨l,fr,(hother p e2).trans hp⟩
 refine⟨h.mT,h.defers,h.size,h.os,h.tape,h.output,h.grow,h.kept,λt=>aP.mono le _ _ (h.tmps t),λp y hp=>?_,λp y c hp hb=>?_,λp y q z c hp hq hpq hb=>?_,λp v ds hN hp=>?_⟩
 .by_cases e:p=o
  .subst e;rw[add_same]at hp;cases hp;obtain⟨b,arr,t,g1,g2,g3⟩:=h.ah p _ ho;exact⟨b,arr,t,g1,g2,ai.mono le _ _ (hc _ g3)⟩
  .rw[hother p e]at hp;exact aZ.mono le p y (λ_ _=>rfl) rfl (h.ah p y hp)
 .obtain⟨z,hz⟩:=hsome p y hp;exact h.lt p z c hz hb
 .obtain⟨z1,hz1⟩:=hsome p y hp;obtain⟨z2,hz2⟩:=hsome q z hq;exact h.sep p z1 q z2 c hz1 hz2 hpq hb
 .by_cases e:p=o
  .subst e;exact h.pin p v cs hN ho
  .rw[hother p e]at hp;exact h.pin p v ds hN hp
inductive Place where
 |slot (t k:Nat)
 |obj (o k:Nat)
def cellAt(st:St):Place->Option Cell
 |.slot t k=>match st.tmps t with|.sv v=>v.cells[k]? |_=>none
 |.obj o k=>match st.ah o with|some (.var cs)=>cs[k]? |_=>none
def SV.put(k:Nat)(c:Cell):SV->SV
 |.one _=>.one c
 |.agg cs=>.agg (cs.set k c)
def setCell(st:St)(c:Cell):Place->St
 |.slot t k=>match st.tmps t with|.sv v=>st.set t (.sv (v.put k c))|_=>st
 |.obj o k=>match st.ah o with|some (.var cs)=>st.add o (.var (cs.set k c))|_=>st
abbrev Vz:=Place×Nat×TypeId×au×Bool
def settle(st:St)(x:Vz):Option St:=
 match cellAt st x.1 with
 |some (.ref o)=>match Nat.beq o x.2.1 with
  |true=>some st
  |false=>match (st.kill (Nat.beq x.2.1 ·)).ah o with
   |some (.arr _ _ _ _)=>some ((st.kill (Nat.beq x.2.1 ·)).ren o x.2.1)
   |_=>none
 |some .nil=>match Nat.ble 1 x.2.2.2.1.len,cellAt ((st.kill (Nat.beq x.2.1 ·)).add x.2.1 (.arr x.2.2.1 x.2.2.2.1 [] x.2.2.2.2)) x.1 with
  |true,some .nil=>some (setCell ((st.kill (Nat.beq x.2.1 ·)).add x.2.1 (.arr x.2.2.1 x.2.2.2.1 [] x.2.2.2.2)) (.ref x.2.1) x.1)
  |_,_=>none
 |_=>none
def settles(st:St):List Vz->Option St
 |[]=>some st
 |x::l=>match settle st x with
  |some s=>settles s l
  |none=>none
theorem ai.set{X:V}:∀(cs:List Cell)(vs:List Value)(k:Nat)(c:Cell),(∀v,aO X .nil v->aO X c v)->cs[k]? =some .nil->ai X cs vs->ai X (cs.set k c) vs
 |[],_,_,_,_,h,_=>amd
 |x::cs,v::vs,0,c,hc,h,⟨h1,h2⟩=>by simp at h;subst h;exact⟨hc v h1,h2⟩
 |x::cs,v::vs,k+1,c,hc,h,⟨h1,h2⟩=>⟨h1,ai.set cs vs k c hc acs h2⟩
 |_::_,[],_,_,_,_,H=>afG
theorem Rel.setCell(h:Rel w0 M T γ st a w){c:Cell}{pl:Place}(hn:cellAt st pl=some .nil)(hc:∀v,aO (aj w0 T γ st w) .nil v->aO (aj w0 T γ st w) c v):Rel w0 M T γ (setCell st c pl) a w:=by
 cases pl with
 |slot t k=>
  simp only[cellAt]at hn;simp only[Fw.setCell];split at hn
  .next v hv=>
   try rw[hv]
   have hcov:aP (aj w0 T γ st w) (.sv (v.put k c)) (a.tmps.getD t undef):=by
    have h0:=h.tmps t;rw[hv]at h0;cases v with
    |one x=>
     have hx:x=.nil/\k=0:=by
      cases k with
      |zero=>simp[SV.cells]at hn;exact⟨hn,rfl⟩
      |succ k=>simp[SV.cells]at hn
     obtain⟨rfl,rfl⟩:=hx;exact hc _ h0
    |agg cs=>obtain⟨vs,hvs,hr⟩:=h0;exact⟨vs,hvs,ai.set cs _ k c hc hn hr⟩
   refine⟨h.mT,h.defers,h.size,h.os,h.tape,h.output,h.grow,h.kept,λt'=>?_,h.ah,h.lt,h.sep,h.pin⟩;by_cases e':t'=t
   .subst e';simp only[St.set,avr];exact hcov
   .simp only[St.set,Ag e'];exact h.tmps t'
  .cases hn
 |obj o k=>
  simp only[cellAt]at hn;simp only[Fw.setCell];split at hn
  .next cs hcs=>
   try rw[hcs]
   exact h.aqQ hcs λvs hvs=>ai.set cs vs k c hc hn hvs
  .cases hn
theorem Rel.apW(h:Rel w0 M T γ st a w){o:Nat}(ho:st.ah o=none)(e:TypeId)(r:au)(fr:Bool)(hr:1<=r.len):
 Rel w0 M T (upd γ o (.slice none 0 0)) (st.add o (.arr e r [] fr)) a w:=by
 refine(h.grown (γ':=upd γ o (.slice none 0 0)) (w':=w) (st.add o (.arr e r [] fr)).ah
  (λp x hp=>by rw[mM _ _ (by rintro rfl;rw[ho]at hp;cases hp)];exact hp)
  (λp x hp=>by rw[pG];rintro rfl;rw[ho]at hp;cases hp)
  rfl rfl rfl (auH _) (λ_ _=>rfl)
  (λp x hp hn=>by
    by_cases e':p=o
    .subst e';rw[add_same]at hp;cases hp;refine⟨⟨[],⟨abZ,.inl ⟨upd_same _ _ _,rfl⟩⟩,hr,(λb hb=>by have hb':blk (upd γ p (.slice none 0 0) p)=some b:=hb;rw[upd_same]at hb';cases hb'),λi x hi=>arP⟩,λb hb=>by rw[upd_same]at hb;cases hb⟩
    .rw[mM _ _ e']at hp;rw[hp]at hn;cases hn)
  (λp cs hp hn=>by
    by_cases e':p=o
    .subst e';rw[add_same]at hp;cases hp
    .rw[mM _ _ e']at hp;rw[hp]at hn;cases hn)
  (λp x q y b hp hpn hq hqn hpq hb=>by
    by_cases e':p=o
    .subst e';rw[upd_same]at hb;cases hb
    .rw[mM _ _ e']at hp;rw[hp]at hpn;cases hpn)).1
theorem aeU(st:St)(p:Nat):(st.kill (Nat.beq p ·)).ah p=none:=by simp[St.kill]
theorem Rel.settle(h:Rel w0 M T γ st a w){x:Vz}{s:St}(hs:Fw.settle st x=some s):∃γ',Rel w0 M T γ' s a w:=by
 obtain⟨pl,p,e,r,fr⟩:=x;unfold Fw.settle at hs;dsimp only at hs;split at hs
 .next o ho=>
  split at hs
  .cases hs;exact⟨γ,h⟩
  .split at hs
   .next hk=>cases hs;exact⟨_,(h.kill _).ren hk (aeU st p)⟩
   .cases hs
 .next ho=>
  split at hs
  .next hr hn=>cases hs;have hR:=(h.kill (Nat.beq p ·)).apW (aeU st p) e r fr (by simpa[awZ]using hr);refine⟨_,hR.setCell hn λv hv=>?_⟩;have hv:v=.slice none 0 0:=hv;subst hv;exact⟨⟨e,r,[],fr,add_same _ _ _⟩,(upd_same _ _ _).symm,rfl⟩
  .cases hs
 .cases hs
theorem Rel.settles:∀(l:List Vz){γ:Nat->Value}{st s:St}(_:Rel w0 M T γ st a w)(_:Fw.settles st l=some s),∃γ',Rel w0 M T γ' s a w
 |[],γ,st,s,h,hs=>by cases hs;exact⟨γ,h⟩
 |x::l,γ,st,s,h,hs=>by
  rw[Fw.settles]at hs;split at hs
  .next s1 h1=>obtain⟨γ1,hR⟩:=h.settle h1;exact Rel.settles l hR hs
  .cases hs
end Go.Fw
namespace Go.Fw
open Go
variable {P:Program} {w0:World} {M:Nat->Prop} {T:Ext} {γ γ':Nat->Value} {st s:St} {a:Act} {w w':World} {Θ:jm} {Γ:kM}
def DF(Θ:jm)(st:St)(o:Op):Option (Prop×Nat×ay):=match o with
 |.call {callee:=.builtin .append,args,argTypes}=>match args.toList,argTypes.toList with
  |[s,x],[t,u]=>match Nat.beq t u,Θ t,st.ev s,st.ev x with
   |true,some ti,.sv (.one (.ref o)),.sv (.one y)=>match ti.kind with
    |.slice e=>match Θ e with
     |some te=>match y.get st (.sl e te.cells)with
      |some news=>match st.ah o with
       |some (.arr f r l fr)=>if h:te.cells.beq r=true then
         match Nat.beq e f with
         |true=>some (l.length+news.length<=big,o,.arr e r (l++tV h news) (fr&&y.wP te.cells st))
         |false=>none
        else none
       |_=>none
      |none=>none
     |none=>none
    |_=>none
   |_,_,_,_=>none
  |_,_=>none
 |_=>none
theorem alU(h:st.more s){e:TypeId}{r:au}{y:Cell}{news:List r.den}(hg:y.get st (.sl e r)=some news):y.fresh s=y.fresh st:=by
 cases y<;>try rfl
 case ref o=>
  simp only[Cell.get]at hg;split at hg
  .next e' r' l fr ho=>simp only[Cell.fresh];rw[h.ah o _ ho,ho]
  .cases hg
theorem akD(h:st.more s){e:TypeId}{r:au}{y:Cell}{news:List r.den}(hg:y.get st (.sl e r)=some news):y.wP r s=y.wP r st:=by unfold Cell.wP;rw[alU h hg]
theorem aiX(h:st.more s){o:Op}{x:Prop×Nat×ay}(hc:DF Θ st o=some x):DF Θ s o=some x:=by
 unfold DF at hc;split at hc
 case h_2=>cases hc
 next args pI=>
 split at hc
 case h_2=>cases hc
 next s1 x1 t u hargs KD=>
 split at hc
 case h_2=>cases hc
 next ti o y hb ht hs hx=>
 split at hc
 case h_2=>cases hc
 next e hk=>
 split at hc
 case h_2=>cases hc
 next te hte=>
 split at hc
 case h_2=>cases hc
 next news hnews=>
 split at hc
 case h_2=>cases hc
 next f r l fr ho=>
 split at hc
 case isFalse=>cases hc
 next hbr=>
 split at hc
 case h_2=>cases hc
 next hef=>
 cases hc;have h1:=bG h hs abZ;have h2:=bG h hx abZ;unfold DF;simp only[hargs,KD,hb,ht,h1,h2,hk,hte,ZE h _ _ _ hnews,h.ah o _ ho,hbr,hef,dif_pos,akD h hnews]
theorem akE{o:Op}{p:Prop}{q:Nat}{x:ay}(d:Nat)(hc:DF Θ st o=some (p,q,x)):
 eff Θ Γ d st o=some (p,.sv (.one (.ref q)),(st.kill (Nat.beq q ·)).add q x)/\(∃e r l fr,x=.arr e r l fr)/\∃e r l fr,st.ah q=some (.arr e r l fr):=by
 unfold DF at hc;split at hc
 case h_2=>cases hc
 next args pI=>
 split at hc
 case h_2=>cases hc
 next s1 x1 t u hargs KD=>
 split at hc
 case h_2=>cases hc
 next ti o y hb ht hs hx=>
 split at hc
 case h_2=>cases hc
 next e hk=>
 split at hc
 case h_2=>cases hc
 next te hte=>
 split at hc
 case h_2=>cases hc
 next news hnews=>
 split at hc
 case h_2=>cases hc
 next f r l fr ho=>
 split at hc
 case isFalse=>cases hc
 next hbr=>
 split at hc
 case h_2=>cases hc
 next hef=>
 cases hc;refine⟨?_,⟨_,_,_,_,rfl⟩,⟨_,_,_,_,ho⟩⟩;simp only[eff,hargs,KD,hb,ht,hs,hx,hk,hte,hnews,ho,hbr,hef,dif_pos]
theorem Cell.zQ{S:Nat->Bool}{f:Nat->Nat}(h:∀o,S o=false->f o=o):∀(c:Cell),(c.kill S).ren f=c.kill S
 |.int _ _|.bool _|.str _|.nil|.sl _ _ _ _|.junk=>rfl
 |.ref o=>by
  simp only[Cell.kill];cases hs:S o with
  |true=>rfl
  |false=>simp only[Cell.ren,h o hs]
theorem Cm{S:Nat->Bool}{f:Nat->Nat}(h:∀o,S o=false->f o=o)(cs:List Cell):(cs.map (Cell.kill S)).map (Cell.ren f)=cs.map (Cell.kill S):=by rw[av4];exact awi λc _=>Cell.zQ h c
theorem SV.zQ{S:Nat->Bool}{f:Nat->Nat}(h:∀o,S o=false->f o=o):∀(c:SV),(c.kill S).ren f=c.kill S
 |.one c=>by simp only[SV.kill,SV.ren,Cell.zQ h]
 |.agg cs=>by simp only[SV.kill,SV.ren,Cm h]
theorem AV.zQ{S:Nat->Bool}{f:Nat->Nat}(h:∀o,S o=false->f o=o):∀(c:AV),(c.kill S).ren f=c.kill S
 |.undef=>rfl
 |.sv v=>by simp only[AV.kill,AV.ren,SV.zQ h]
 |.mD vs=>by
  simp only[AV.kill,AV.ren];rw[av4,awi λc _=>(show((SV.ren f) ∘ (SV.kill S)) c=SV.kill S c from SV.zQ h c)]
 |.bK o off=>by
  simp only[AV.kill];cases hs:S o with
  |true=>rfl
  |false=>simp only[AV.ren,h o hs]
 |.nR o i off=>by
  simp only[AV.kill];cases hs:S o with
  |true=>rfl
  |false=>simp only[AV.ren,h o hs]
 |.win o i off=>by
  simp only[AV.kill];cases hs:S o with
  |true=>rfl
  |false=>simp only[AV.ren,h o hs]
 |.pW _ _ _ _=>rfl
 |.fA cs off=>by simp only[AV.kill,AV.ren,Cm h]
 |.fn g caps=>by simp only[AV.kill,AV.ren];rw[av4,awi λc _=>(show((List.map (Cell.ren f)) ∘ (List.map (Cell.kill S))) c=List.map (Cell.kill S) c from Cm h c)]
theorem ay.zQ{S:Nat->Bool}{f:Nat->Nat}(h:∀o,S o=false->f o=o):∀(c:ay),(c.kill S).ren f=c.kill S
 |.var cs=>by simp only[ay.kill,ay.ren,Cm h]
 |.arr _ _ _ _=>rfl
theorem alV{G:jT}(hE:ru P G Θ Γ w0 M)(h:Rel w0 M T γ st a w)(o:Oper){p:Prop}{n q:Nat}{x:ay}
 (hc:DF Θ st o.op=some (p,q,x)) (hp:p) (hn0:st.ah n=none) {next:Act->World->Prop} {Q:Exit->Act->World->Prop}
 (hn:∀u γ' w',Rel w0 M T γ' ((st.kill (Nat.beq q ·)).add n x) a w'->aP (aj w0 T γ' ((st.kill (Nat.beq q ·)).add n x) w') (.sv (.one (.ref n))) u->next (a.put o.dst u) w'):o.wp P a w next Q:=by
 obtain⟨he,⟨e,r,l,fr,rfl⟩,⟨e',r',l',fr',hq⟩⟩:=akE (Γ:=Γ) 0 hc;have hnq:n≠q:=λe=>by rw[e,hq]at hn0;cases hn0
 have hqn:∀t,Nat.beq q t=false->zO q n t=t:=λt ht=>Q7 λe=>by rw[e,avr]at ht;cases ht
 refine aeR hE h o he hp λu γ1 w1 hR hv=>?_;have hS:(((st.kill (Nat.beq q ·)).add q (.arr e r l fr)).ren q n)=(st.kill (Nat.beq q ·)).add n (.arr e r l fr):=by
  simp only[St.ren,St.add,St.kill,St.mk.injEq,axe];refine⟨funext λt=>AV.zQ hqn _,funext λt=>?_⟩;cases hb:Nat.beq t n with
  |true=>simp[avr,ay.ren]
  |false=>
   cases hb2:Nat.beq t q with
   |true=>
    rw[auG hb2,avr]
   |false=>
    have hb3:Nat.beq q t=false:=by
     cases hb3:Nat.beq q t with
     |false=>rfl
     |true=>rw[auG hb3,avr]at hb2;cases hb2
    simp only[hb3];cases st.ah t with
    |none=>rfl
    |some y=>simp only[avz,ay.zQ hqn]
 have apY:=hR.ren (o:=q) (p:=n) (e:=e) (r:=r) (l:=l) (fr:=fr) (by simp[St.add,avr]) (by simp only[St.add,St.kill,Ag hnq,hn0,awr];cases Nat.beq q n<;>rfl);rw[hS]at apY;refine hn u _ _ apY ?_;obtain⟨_,h2,h3⟩:aO _ (.ref q) u:=hv;have oQ:((st.kill (Nat.beq q ·)).add n (.arr e r l fr)).ah n=some (.arr e r l fr):=by simp[St.add,avr]
 have hval:u=(match Nat.beq n n with|true=>γ1 q|false=>γ1 n):=by rw[avr];exact h2
 exact⟨⟨e,r,l,fr,oQ⟩,hval,h3⟩
end Go.Fw
