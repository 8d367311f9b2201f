import Derived.Test.YtdmilcleobbphaaGreatFwA
import Derived.Lib.SliceRun
import Derived.WalkSpells
namespace Go.Fw
open Go
variable {P:Program} {w0:World} {M:Nat->Prop} {T:Ext} {γ γ':Nat->Value} {st:St} {a:Act} {w w':World} {Θ:mD} {Γ:nI}
variable {lo:Nat}
theorem aqk{α:Type}{l:List α}{s:List α}(h:lo+s.length<=l.length):(kE l lo s).length=l.length:=by
 grind [kE]
theorem azf{α:Type}{l:List α}{s:List α}(h:lo+s.length<=l.length)(k:Nat):
 (kE l lo s)[k]? =if k<lo then l[k]? else if k<lo+s.length then s[k-lo]? else l[k]? :=by
 grind [kE]
variable {o:Nat}{e:TypeId}{r:aP}{fr:Bool}
theorem Rel.rows(h:Rel w0 M T γ st a w){l:List r.den}(z:st.ak o=some (.arr e r l fr)){b m cap:Nat}(S:γ o=.slice (some ⟨b,0,none⟩) m cap){Q:Array Value}(U:w.heap[b]? =some (.cells Q e (0,0)))
  {s:List r.den} {u:List Value} (hnl:u.length=s.length*r.len) (E:lo+s.length<=l.length)
 (I:∀i x,s[i]? =some x->dD w.heap ((aI w0 T γ st w).fG fr) r ((u.drop (i*r.len)).take r.len) x):
 Rel w0 M T γ (st.add o (.arr e r (kE l lo s) fr)) a (w.setRow b (Q.toList.take (lo*r.len)++u++Q.toList.drop (lo*r.len+u.length)).toArray):=by
 obtain⟨q,⟨C,O⟩,L,hfr,R⟩:=h.ak o _ z;rcases O with⟨hnil,_⟩|⟨g,B,f,hg,_,hh,Z,hmax,hsz,J⟩
 · grind
 .have LV:γ o=.slice (some ⟨g,0,none⟩) l.length B:=hg;rw[S]at LV;simp at LV;obtain⟨rfl,H,hcap⟩:=LV;have K:f=Q:=by
   grind
  subst K;have aPs:lo*r.len+s.length*r.len<=l.length*r.len:=by rw[← aRV];exact aQy _ E
  have aMh:l.length*r.len<=B*r.len:=aQy _ Z;have e1:f.toList.length=f.size:=aRy;refine h.write (x':=.arr e r (kE l lo s) fr) z (by rw[S];rfl) ⟨rfl,rfl⟩ _ (λle=>?_);have t:∀k,(f.toList.take (lo*r.len)++u++f.toList.drop (lo*r.len+u.length))[k]? =if k<lo*r.len then f.toList[k]? else if k<lo*r.len+u.length then u[k-lo*r.len]? else f.toList[k]? :=λk=>auk _ _ _ k fC
  have X:(f.toList.take (lo*r.len)++u++f.toList.drop (lo*r.len+u.length)).length=f.size:=by
   grind
  generalize hnd:f.toList.take (lo*r.len)++u++f.toList.drop (lo*r.len+u.length)=n at t X le ⊢;have hol:=aqk E;refine⟨n.take (l.length*r.len),⟨?_,.inr ⟨b,cap,n.toArray,?_,aQx _,ah8 hh,?_,?_,?_,?_⟩⟩,L,?_,?_⟩
  · grind
  · grind
  .rw[hol];omega
  .omega
  · grind
  · grind
  .omega
  .intro i x hi;have hlt:i<l.length:=by
    grind
   have D:i*r.len+r.len<=l.length*r.len:=by
    have:(i+1)*r.len<=l.length*r.len:=aQy _ hlt
    grind
   rw[jV _ _ _ _ D];rw[azf E]at hi;have W:∀y,l[i]? =some y->(∀k,k<r.len->n[i*r.len+k]? =f.toList[i*r.len+k]?)->dD (w.setRow b n.toArray).heap (V.fG ⟨w.setRow b n.toArray,w0.heap.size,T.S,γ,(st.add o (.arr e r (kE l lo s) fr)).ak⟩ fr) r ((n.drop (i*r.len)).take r.len) y:=by
    intro y F j;have Y:=R i y F;have:(n.drop (i*r.len)).take r.len=(q.drop (i*r.len)).take r.len:=by
     rw[← J,jV _ _ _ _ D];apply aRx
     grind
    rw[this];exact dD.mono (λc N=>le.fG _ c N) _ _ y Y
   split at hi
   .next hlo=>
    refine W x hi λk j=>?_;rw[t];have:i*r.len+r.len<=lo*r.len:=by
     have:(i+1)*r.len<=lo*r.len:=aQy _ hlo
     grind
    grind
   .next hlo=>
    split at hi
    .next hhi=>
     have Y:=I _ x hi;have d:i*r.len=lo*r.len+(i-lo)*r.len:=by rw[← aRV];congr 1;omega
     have hm3:(i-lo)*r.len+r.len<=s.length*r.len:=by have:(i-lo+1)*r.len<=s.length*r.len:=aQy _ fC;rw[aRV]at this;simpa using this
     have:(n.drop (i*r.len)).take r.len=(u.drop ((i-lo)*r.len)).take r.len:=by
      apply aRx;intro k;rw[aRt,aRt,aRu,aRu];by_cases A:k<r.len
      .rw[if_pos A,if_pos A,t,if_neg fC,if_pos fC];congr 1;omega
      .rw[if_neg A,if_neg A]
     rw[this];exact dD.mono (λc N=>le.fG _ c N) _ _ x Y
    .next hhi=>
     refine W x hi λk j=>?_;rw[t];have:lo*r.len+s.length*r.len<=i*r.len:=by rw[← aRV];exact aQy _ fC
     rw[if_neg fC,if_neg fC]
theorem YN{α:Type}(l:List α)(lo:Nat):kE l lo []=l:=by
 unfold kE
 simp_all
theorem an8{x:bD}(h:st.ak o=some x):st.add o x=st:=by
 simp only[St.add]at h ⊢;congr 1
 grind [Nat.eq_of_beq_eq_true]
theorem awt(h:Rel w0 M T γ st a w){l:List r.den}(z:st.ak o=some (.arr e r l fr)){b m cap:Nat}(y:γ o=.slice (some ⟨b,0,none⟩) m cap):
 ∃Q:Array Value,w.heap[b]? =some (.cells Q e (0,0))/\Q.size=cap*r.len/\0<r.len/\cap<=maxLen/\l.length<=cap/\
  ∀i x,l[i]? =some x->dD w.heap ((aI w0 T γ st w).fG fr) r ((Q.toList.drop (i*r.len)).take r.len) x:=by
 obtain⟨q,⟨C,O⟩,k,F,E⟩:=h.ak o _ z;rcases O with⟨B,_⟩|⟨g,d,f,I,_,J,n,j,t,u⟩
 · grind
 .have LV:γ o=.slice (some ⟨g,0,none⟩) l.length d:=I;rw[y]at LV;obtain⟨rfl,H,rfl⟩:=LV;refine⟨f,J,t,k,j,n,λi x D=>?_⟩;have s:i<l.length:=(aQC.1 D).1;have A:i*r.len+r.len<=l.length*r.len:=by
   have:(i+1)*r.len<=l.length*r.len:=aQy _ s
   grind
  grind [jV]
theorem azg{h:Array Obj}{S:Nat->Prop}:∀(r:aP)(I:List Value)(x:r.den),dD h S r I x->∀v∈I,v.oneCell'=true
 |.nil,I,_,H,v,R=>by grind [dD]
 |.cons c r,I,(x,y),H,v,R=>by
  obtain⟨u,d,rfl,C,O⟩:=H;rcases aQt.1 R with rfl|R
  .cases c with
   |int k=>rw[C.1];rfl
   |bool=>rw[show _=_ from C];rfl
   |str=>rw[C.1];rfl
   |sl e s=>rcases C.2 with⟨_,a,c,R⟩|⟨b,m,f,A,t,g,R,_⟩<;>rw[R]<;>rfl
  .exact azg r d y O v R
theorem awu{h:Array Obj}{S:Nat->Prop}(d:0<r.len){s:List r.den}{g:List Value}(n:g.length=s.length*r.len)(b:∀i x,s[i]? =some x->dD h S r ((g.drop (i*r.len)).take r.len) x):∀u∈g,u.oneCell'=true:=by
 intro u q;obtain⟨j,t⟩:=aSb q;have f:j / r.len<s.length:=Nat.div_lt_of_lt_mul jv;have k:=b (j / r.len) _ (aQD f);refine azg _ _ _ k u ?_;have l:=Nat.div_add_mod j r.len;have m:=Nat.mod_lt j d;refine aQU (i:=j%r.len) ?_
 grind
variable {t ty:TypeId}{p:Prop}
theorem alr(X:∀t K,Θ t=some K->qR P t K)(h:Rel w0 M T γ st a w){K:TI}(ht:Θ t=some K){sx x:Operand}{QN F o2 b k:Nat}(e1:st.ev sx=.win o QN F)(d:st.ev x=.win o2 b k)
  {v:AV} {s:St} (N:ahZ Θ st K o QN F o2 b k=some (p,v,s)) (J:p):
 ∃u w',(Builtin.append_ #[t,t] ty #[a.eval sx,a.eval x]).run P w=.ok u w'/\Rel w0 M T γ s a w'/\dB (aI w0 T γ s w') v u:=by
 unfold ahZ at N;split at N
 .next e f r l fr hb hk ho=>
  rw[aQm]at hb;have L:=aQq hb.1;have hoo:=aQq hb.2;subst L hoo;split at N
  .next te he=>
   split at N
   .next hbe=>
    rw[aQm]at hbe;have hef:=aQq hbe.2;have hte:=aP.eq_of_beq _ _ hbe.1;cases N;subst hef;obtain⟨hp1,hp2⟩:=J;obtain⟨g,m,y,e',r',l',fr',Z,A,⟨q,hq,R,hle⟩⟩:=ah7 h e1;rw[ho]at Z;cases Z;obtain⟨g2,m2,cap2,e'',r'',l'',aPF,W,LV,⟨q2,hq2,U,hle2⟩⟩:=ah7 h d;rw[A]at LV;simp at LV;obtain⟨rfl,rfl,rfl⟩:=LV;rw[ho]at W;cases W;obtain⟨Q,hh,hsz,O,hmax,hlc,S⟩:=awt h ho A;obtain⟨i,z,D,C,hby,hz,hzv,_⟩:=(X e te he).info;have hu:=(X t K ht).und;rw[hk]at hu;rw[hte]at C;by_cases hn2:k=0
    .subst hn2;refine⟨.slice (some ⟨g,q,none⟩) F (y-0),w,?_,?_,?_⟩
     .rw[R,U];have hnc:F<=y:=fC;rw[Nat.sub_zero];simp[Builtin.append_,aQI hu.1 w,sizeOf,typeInfo,D,Builtin.lenOf,Builtin.firstCells,hnc,storeCells,loadCells,loadCellsFrom]
     · grind [YN,an8]
     .have:kE l F ((l.drop b).take 0)=l:=by grind [YN]
      rw[this,an8 ho];exact⟨g,m,y,e,r,l,fr,ho,A,q,hq,rfl,fC⟩
    .have hq0:q=0:=fC;have aNA:q2=b*r.len:=fC;subst hq0 aNA;have aPt:((l.drop b).take k).length=k:=jv
     let Y:List Value:=(Q.toList.drop (b*r.len)).take (k*r.len)
     have ec:Q.toList.length=Q.size:=aRy;have hm1:b*r.len+k*r.len<=y*r.len:=by rw[← aRV];simp_all [aQy]
     have hm0:F*r.len+k*r.len<=y*r.len:=by rw[← aRV];exact aQy _ fC
     have hnl:Y.length=k*r.len:=by
      grind
     have n:∀i x,((l.drop b).take k)[i]? =some x->dD w.heap ((aI w0 T γ st w).fG fr) r ((Y.drop (i*r.len)).take r.len) x:=by
      intro i x D;have B:i<k:=by
       grind
      rw[aRt,if_pos B,aRu]at D;have hR:=S (b+i) x D;have hmul:i*r.len+r.len<=k*r.len:=by
       have:(i+1)*r.len<=k*r.len:=aQy _ B
       grind
      grind [jV,List.drop_drop,Nat.add_mul]
     have XF:=awu O jv n;have H:∀j u,Y[j]? =some u->w.cell? ((⟨g,b*r.len,none⟩:Addr).add j)=some u:=by intro j u hj;rw[addr_add];exact aeh hh _ j u hj
     have I:F+k<=y:=fC;have E:=run_append_room (P:=P) (ty:=ty) (w:=w) t e i hu.1 D g F y Q hh ⟨g,b*r.len,none⟩ k (y-b) Y jv H XF I jv;rw[C]at E;refine⟨_,_,by rw[R,U];exact E,h.rows ho A hh jv fC n,?_⟩;exact⟨g,m,y,e,r,_,fr,add_same _ _ _,A,0,.inl fC,rfl,fC⟩
   .cases N
  .cases N
 .cases N
theorem aul{z:Array Value}(g:z.toList=r.wJ)(f:0<r.len)(n:Nat):(Builtin.zeroCells z n).toList.length=n*r.len/\∀i,i<n->((Builtin.zeroCells z n).toList.drop (i*r.len)).take r.len=r.wJ:=by
 have b:z.size=r.len:=by grind [KZ]
 have L:(Builtin.zeroCells z n).toList.length=n*r.len:=by simp[Builtin.zeroCells,b]
 refine⟨L,λi D=>?_⟩;have d:i*r.len+r.len<=n*r.len:=by
  have:(i+1)*r.len<=n*r.len:=aQy _ D
  grind
 grind [List.ext_getElem,List.length_take,Nat.add_mul_mod_self_right,Nat.mod_eq_of_lt,Array.length_toList,Builtin.zeroCells]
theorem an9(B:∀t j,Θ t=some j->qR P t j)(h:Rel w0 M T γ st a w){j:TI}(ht:Θ t=some j){x:Operand}{n:Nat}(L:st.ev x=.win o lo n)
  {v:AV} {s:St} (N:an1 Θ st j o lo n=some (p,v,s)) (J:p):
 ∃u w',(Builtin.clear_ #[t] ty #[a.eval x]).run P w=.ok u w'/\Rel w0 M T γ s a w'/\dB (aI w0 T γ s w') v u:=by
 unfold an1 at N;split at N
 .next e f r l fr hk ho=>
  split at N
  .next te he=>
   split at N
   .next hbe=>
    rw[aQm]at hbe;have D:=aQq hbe.2;have E:=aP.eq_of_beq _ _ hbe.1;cases N;subst D;obtain⟨g,m,y,e',r',l',O,Z,C,⟨q,hq,R,U⟩⟩:=ah7 h L;rw[ho]at Z;cases Z;obtain⟨Q,F,hsz,d,H,S,I⟩:=awt h ho C;have hu:=(B t j ht).und;cases n with
    |zero=>
     refine⟨.tuple #[],w,?_,?_,⟨#[],rfl,trivial⟩⟩
     · simp_all [Builtin.clear_,aQI]
     grind [YN,an8]
    |succ k=>
     have Y:q=lo*r.len:=fC;obtain⟨z,hz,A⟩:=agp (P:=P) (w:=w) (B e te he);rw[E]at A;obtain⟨X,hzr⟩:=aul A d (k+1);have W:lo*r.len+(k+1)*r.len<=y*r.len:=by rw[← aRV];simp_all [aQy]
     have hrl:(List.replicate (k+1) r.dflt).length=k+1:=List.length_replicate;have b:∀i x,(List.replicate (k+1) r.dflt)[i]? =some x->dD w.heap ((aI w0 T γ st w).fG fr) r (((Builtin.zeroCells z.cells (k+1)).toList.drop (i*r.len)).take r.len) x:=by
      grind [ah4]
     have K:=awu d jv b;have hst:=run_storeCells_at P g (lo*r.len) e (Builtin.zeroCells z.cells (k+1)).toList 0 Q w F fC K;refine⟨.tuple #[],_,?_,h.rows ho C F jv fC b,⟨#[],rfl,trivial⟩⟩
     simp_all [Builtin.clear_,aQI]
   .cases N
  .cases N
 .cases N
theorem Rel.update(h:Rel w0 M T γ st a w){K D:Nat->Bool}{H:Nat->Prop}{rq:Nat->Option bD}{γ2:Nat->Value}
 (Y:w'.os=w.os) (s:w'.tape=w.tape) (J:w'.output=w.output) (j:w.heap.size<=w'.heap.size)
 (hH:∀b,H b->∃o x,st.ak o=some x/\blk (γ o)=some b)
 (f:∀b,b<w.heap.size->¬H b->w'.heap[b]? =w.heap[b]?)
 (C:∀p,D p=false->rq p=(st.kill K).ak p/\γ2 p=γ p)
 (O:∀p x b,D p=false->K p=false->st.ak p=some x->blk (γ p)=some b->¬H b)
 (h3:∀p x,D p=true->rq p=some x->∀b,blk (γ2 p)=some b->b<w'.heap.size/\(w.heap.size<=b\/H b))
 (h3':V.uj K (aI w0 T γ st w) ⟨w',w0.heap.size,T,γ2,rq⟩->∀p x,D p=true->rq p=some x->eF ⟨w',w0.heap.size,T,γ2,rq⟩ p x)
 (h4:∀p q x y b,D p=true->D q=true->rq p=some x->rq q=some y->p≠q->blk (γ2 p)=some b->blk (γ2 q)≠some b)
 (h5:∀p A,D p=true->K p=false->st.ak p=some (.var A)->(∃k,rq p=some (.var k))/\γ2 p=γ p)
 (h6:∀p e r l fr,D p=true->K p=false->st.ak p=some (.arr e r l fr)->(∃l' Q,rq p=some (.arr e r l' Q))/\γ2 p=γ p)
 (h7:∀p A,D p=true->rq p=some (.var A)->(∃m,st.ak p=some (.var m)/\γ2 p=γ p)\/T.N p=none):
 Rel w0 M T γ2 {n:=st.n,tmps:=λt=>(st.tmps t).kill K,ak:=rq} a w'/\V.uj K (aI w0 T γ st w) ⟨w',w0.heap.size,T,γ2,rq⟩:=by
 have R:∀b,H b->b<w.heap.size/\(w0.heap.size<=b\/M b):=λb U=>by obtain⟨o,x,z,B⟩:=hH b U;exact h.lt o x b z B
 have N:∀b,(aI w0 T γ st w).foot b->¬H b:=λb U hh=>by obtain⟨o,x,z,B⟩:=hH b hh;exact U.2.2 o x z B
 have i:∀p x,D p=false->rq p=some x->∃y,st.ak p=some y/\x=y.kill K/\K p=false:=λp x d Z=>by
  grind [EJ]
 have le:V.uj K (aI w0 T γ st w) ⟨w',w0.heap.size,T,γ2,rq⟩:=by
  refine⟨aQp _,λb U=>⟨⟨aQO U.1 j,U.2.1,λo x Z e=>?_⟩,f b U.1 (N b U)⟩,λo A E z=>?_,λo e r l fr E z=>?_⟩
  .cases d:D o with
   |false=>
    obtain⟨y,F,_,_⟩:=i o x d Z;have e':blk (γ2 o)=some b:=e;rw[(C o d).2]at e';exact U.2.2 o y F e'
   |true=>
    rcases(h3 o x d Z b e).2 with h'|h'
    .have hlt:b<w.heap.size:=U.1;omega
    grind
  .have ho':st.ak o=some (.var A):=z;cases d:D o with
   |false=>
    refine⟨⟨A.map (Cell.kill K),?_⟩,(C o d).2⟩;show rq o=_;rw[(C o d).1];exact uZ K E ho'
   |true=>grind
  .have ho':st.ak o=some (.arr e r l fr):=z;cases d:D o with
   |false=>
    refine⟨⟨l,fr,?_⟩,(C o d).2⟩;show rq o=_;rw[(C o d).1];exact uZ K E ho'
   |true=>grind
 refine⟨⟨h.mT,h.defers,h.size,Y.trans h.os,s.trans h.tape,J.trans h.output,aQn h.grow j,λb U hM=>?_,λt=>dB.uj le _ _ (h.tmps t),λo x Z=>?_,λo x b Z U=>?_,λo x p y b Z F X U=>?_,λo v A hN Z=>?_⟩,le⟩
 .rw[f b (aQO U h.grow) λhh=>by
   grind]
  exact h.kept b U hM
 .cases d:D o with
  |false=>
   obtain⟨y,F,rfl,E⟩:=i o x d Z;exact eF.uj le o y (λb U=>f b (h.lt o y b F U).1 (O o y b d E F U)) (C o d).2 (h.ak o y F)
  |true=>grind
 .cases d:D o with
  |false=>
   obtain⟨y,F,rfl,E⟩:=i o x d Z;rw[(C o d).2]at U;have:=h.lt o y b F U
   grind
  |true=>have:=h3 o x d Z b U;exact⟨this.1,this.2.elim (λg=>.inl (aQn h.grow g)) λg=>(R b g).2⟩
 .cases d:D o with
  |false=>
   obtain⟨y1,L,rfl,hK1⟩:=i o x d Z;rw[(C o d).2]at U;have W:=h.lt o y1 b L U;cases I:D p with
   |false=>
    obtain⟨y2,u,rfl,S⟩:=i p y I F;rw[(C p I).2];exact h.sep o y1 p y2 b L u X U
   |true=>
    grind
  |true=>
   cases I:D p with
   |false=>
    obtain⟨y2,u,rfl,S⟩:=i p y I F;rw[(C p I).2];intro e;have W:=h.lt p y2 b u e
    grind
   |true=>grind
 .cases d:D o with
  |false=>
   obtain⟨y,F,e,_⟩:=i o _ d Z;rw[(C o d).2];cases y with
   |var k=>exact h.pin o v k hN F
   |arr _ _ _ _=>cases e
  |true=>
   rcases h7 o A d Z with⟨m,g1,g2⟩|g
   .rw[g2];exact h.pin o v m hN g1
   grind
def QS(b:Bool)(st:St)(x:AV)(a:Arg)(o:Option Nat):Prop:=
 (o=none/\(b=true->x.refs=[])/\wI st [x]=some [a])\/
 (∃p e r l fr,o=some p/\x=.sv (.one (.ref p))/\st.ak p=some (.arr e r l fr)/\a=.own e r l)\/
 (∃p A,o=some p/\x=.aZ p 0/\st.ak p=some (.var A)/\A.flatMap Cell.refs=[]/\a=.ptr (A.map (Cell.view st)))
theorem YO{m:Mode}{x:AV}{a:Arg}{o:Option Nat}(h:Ac st m x=some (a,o)):QS true st x a o:=by
 cases m with
 |val=>
  simp only[Ac]at h;split at h
  .next a' hr ha=>cases h;exact .inl ⟨rfl,λ_=>hr,ha⟩
  .cases h
 |own=>
  simp only[Ac]at h;split at h
  .split at h
   .next p _ e r l fr ho=>cases h;exact .inr (.inl ⟨p,e,r,l,fr,rfl,rfl,ho,rfl⟩)
   .cases h
  .cases h
 |ptr=>
  simp only[Ac]at h;split at h
  .split at h
   .next p off _ _ cs b ho=>
    split at h
    .next hr=>cases h;have b:=aQq b;subst b;exact .inr (.inr ⟨p,cs,rfl,rfl,ho,hr,rfl⟩)
    .cases h
   .cases h
  .cases h
def zn(b:Bool)(st:St):List AV->List Arg->List (Option Nat)->Prop
 |[],[],[]=>True
 |x::xs,a::as,o::os=>QS b st x a o/\zn b st xs as os
 |_,_,_=>False
theorem ael:∀(f:List Mode)(q:List AV)(b:List Arg)(d:List (Option Nat)),hands st f q=some (b,d)->zn true st q b d
 |_,[],b,d,h=>by cases h;trivial
 |f,x::q,b,d,h=>by
  unfold hands at h;split at h
  .next a o as' os' h1 h2=>cases h;exact⟨YO h1,ael f.tail q as' os' h2⟩
  .cases h
variable {nr:Bool}
theorem zn.get:∀{g:List AV}{d:List Arg}{f:List (Option Nat)},zn nr st g d f->∀(i:Nat)(a:Arg),d[i]? =some a->∃x o,g[i]? =some x/\f[i]? =some o/\QS nr st x a o
 |[],[],[],_,i,a,h=>yj
 |x::g,b::d,o::f,⟨h1,h2⟩,0,a,h=>jv
 |x::g,b::d,o::f,⟨h1,h2⟩,i+1,a,h=>by
  obtain⟨y,q,j,k,l⟩:=h2.get i a oQ
  grind
 |[],[],_::_,H,_,_,_|[],_::_,_,H,_,_,_|_::_,[],_,H,_,_,_|_::_,_::_,[],H,_,_,_=>H.elim
theorem zn.length:∀{q:List AV}{d:List Arg}{f:List (Option Nat)},zn nr st q d f->d.length=q.length/\f.length=q.length
 |[],[],[],_=>⟨rfl,rfl⟩
 |x::q,b::d,o::f,⟨_,h2⟩=>by simp[h2.length.1,h2.length.2]
 |[],[],_::_,H|[],_::_,_,H|_::_,[],_,H|_::_,_::_,[],H=>H.elim
def γE(os:List (Option Nat))(γ:Nat->Value)(p:Nat):Value:=match os[p / 64]? with|some (some o)=>γ o|_=>undef
variable {xs:List AV}{as:List Arg}{os:List (Option Nat)}{q:Nat}
theorem ah9(d:zn nr st xs as os){X:bD}(u:gK as q=some X):
 ∃o Y,os[q / 64]? =some (some o)/\st.ak o=some Y/\((∃e r l fr,X=.arr e r l false/\Y=.arr e r l fr/\q%64=49)\/(∃A,X=.var (A.map (Cell.view st))/\Y=.var A/\A.flatMap Cell.refs=[]/\q%64=48)):=by
 unfold gK at u;split at u
 .next e r l ha=>
  split at u
  .next k=>
   have k:=aQq k;obtain⟨x,o,_,z,C⟩:=d.get _ _ ha;rcases C with⟨_,_,K⟩|⟨p,f,h,g,fr,rfl,_,J,b⟩|⟨p,A,_,_,_,_,b⟩
   .unfold wI at K;split at K
    .split at K<;>simp at K
    .split at K<;>simp at K
    .split at K<;>simp at K
    .cases K
   · grind
   .cases b
  .cases u
 .next cs0 ha=>
  split at u
  .next k=>
   have k:=aQq k;obtain⟨x,o,_,z,C⟩:=d.get _ _ ha;rcases C with⟨_,_,K⟩|⟨p,f,h,g,fr,_,_,_,b⟩|⟨p,A,rfl,_,J,hr,b⟩
   .unfold wI at K;split at K
    .split at K<;>simp at K
    .split at K<;>simp at K
    .split at K<;>simp at K
    .cases K
   .cases b
   grind
  .cases u
 .cases u
theorem abv:∀{os:List (Option Nat)},GU os=true->∀(i j:Nat)(o:Nat),os[i]? =some (some o)->os[j]? =some (some o)->i=j:=by
 have b:∀(os:List (Option Nat))(i o:Nat),os[i]? =some (some o)->ahY o os=true:=by
  intro os
  induction os with
  |nil=>grind
  |cons x os ih=>
   intro i o h;cases i with
   |zero=>simp_all [ahY]
   |succ i=>
    cases x with
    |none=>grind [ahY]
    |some p=>grind [ahY]
 intro os
 induction os with
 |nil=>grind
 |cons x os ih=>
  cases x with
  |none=>
   grind [GU]
  |some p=>
   grind [GU]
theorem eF.aum{Y Z:V}{p:Nat}{l:List r.den}{d:Bool}(H:eF Y q (.arr e r l fr))(j:Z.γ p=Y.γ q)(k:Z.w=Y.w)
 (X:∀b,Y.fG fr b->Z.fG d b) (h:∀b,blk (Y.γ q)=some b->d=true->Z.n0<=b):eF Z p (.arr e r l d):=by
 obtain⟨xs,g,hr,_,m⟩:=H;refine⟨xs,?_,hr,λb U f=>h b jv f,λi x D=>?_⟩
 · grind
 grind [dD.mono]
theorem Qh{Y Z:V}(d:Z.w=Y.w)(X:∀fr b,Y.fG fr b->Z.fG fr b):∀(A:List Cell)(I:List Value),A.flatMap Cell.refs=[]->aC Y A I->aC Z A I
 |[],[],_,H=>H
 |c::A,v::I,hr,⟨h1,h2⟩=>by
  rw[aRf,aQV]at hr;refine⟨?_,Qh d X A I hr.2 h2⟩;cases c with
  |ref o=>cases hr.1
  |sl e r l fr=>
   show iL Z.w.heap (Z.fG fr) (.sl e r) v l;rw[d];exact iL.mono (λb U=>⟨X fr b U,rfl⟩) (.sl e r) v l h1
  |_=>exact h1
 |[],_::_,_,H|_::_,[],_,H=>o7
theorem aoa{X:V}:∀(as:List Arg)(n:List Value)(i:Nat),as.length=n.length->(∀j a u,as[j]? =some a->n[j]? =some u->YL X (i+j) a u)->F6 X i as n
 |[],[],_,_,_=>trivial
 |a::as,u::n,i,hl,h=>⟨h 0 a u rfl rfl,aoa as n (i+1) (by simpa using hl) λj b v U R=>by
   have:=h (j+1) b v (by simpa using U) (by simpa using R)
   grind⟩
 |[],_::_,_,hl,_|_::_,[],_,hl,_=>by simp at hl
theorem vC.get{X:V}:∀(xs:List AV)(n:List Value),vC X xs n->xs.length=n.length/\∀(i:Nat)(x:AV)(u:Value),xs[i]? =some x->n[i]? =some u->dB X x u
 |[],[],_=>⟨rfl,λi x u h=>yj⟩
 |x::xs,u::n,⟨h1,h2⟩=>by
  obtain⟨b,d⟩:=vC.get xs n h2;refine⟨by simp[b],λi y v F R=>?_⟩;cases i with
  |zero=>simp at F R;subst F R;exact h1
  |succ i=>exact d i y v (by simpa using F) (by simpa using R)
 |[],_::_,H|_::_,[],H=>o7
theorem XG:∀{os:List (Option Nat)}{b:List Eff}{n:List (Nat×bD)},vN st os b=some n->∀(p:Nat),
 (∀(x:bD),Fw.look n p=some x->∃i:Nat,os[i]? =some (some p)/\
   ((∃(e:TypeId)(r:aP)(l u:List r.den)(fr:Bool),b[i]? =some (.arr e r l)/\st.ak p=some (.arr e r u fr)/\x=.arr e r l false)\/(∃(A k:List Cell),b[i]? =some (.var A)/\st.ak p=some (.var k)/\A.flatMap Cell.refs=[]/\x=.var A)))/\
 (∀i:Nat,os[i]? =some (some p)->Fw.look n p=none->mJ os b p=true)
 |[],b,n,h,p=>by
  cases h;exact⟨(λx Z=>vk),(λi D=>by simp at D)⟩
 |none::os,b,n,h,p=>by
  rw[vN]at h;obtain⟨C,O⟩:=XG h p
  grind [mJ]
 |some o::os,b,n,h,p=>by
  unfold vN at h;have m:∀{j}(_:vN st os b.tail=some j),(∀(x:bD),Fw.look j p=some x->∃i:Nat,(some o::os)[i]? =some (some p)/\
   ((∃(e:TypeId)(r:aP)(l u:List r.den)(fr:Bool),b[i]? =some (.arr e r l)/\st.ak p=some (.arr e r u fr)/\x=.arr e r l false)\/(∃(A k:List Cell),b[i]? =some (.var A)/\st.ak p=some (.var k)/\A.flatMap Cell.refs=[]/\x=.var A)))/\
   (∀i:Nat,os[i]? =some (some p)->Fw.look j p=none->mJ os b.tail p=true):=by
   intro j d;obtain⟨C,O⟩:=XG d p
   grind
  have z:∀{y:Eff},b.head?=some y->b[0]? =some y:=λF=>by cases b<;>simp at F ⊢;exact F
  have B:∀(_:mJ os b.tail p=true),mJ (some o::os) b p=true:=λg=>by
   grind [mJ]
  split at h
  .next j hh d=>
   cases h;obtain⟨C,O⟩:=m d;refine⟨C,λi D H=>?_⟩;cases i with
   |zero=>
    simp_all [mJ]
   |succ i=>grind
  .next e r l f s u fr0 j hh ho d=>
   split at h
   .next hb=>
    cases h;rw[aQm]at hb;have E:=aQq hb.1;have hr:=aP.eq_of_beq r s hb.2;subst E hr;obtain⟨C,O⟩:=m d;refine⟨λx Z=>?_,λi D H=>?_⟩
    · grind [Fw.look,Nat.eq_of_beq_eq_true]
    .rw[Fw.look]at H;split at H
     .cases H
     .next hln=>
      split at H
      .cases H
      .next hpo=>
       cases i with
       |zero=>simp_all
       |succ i=>grind
   .cases h
  .next A k j hh ho d=>
   split at h
   .next hr=>
    cases h;obtain⟨C,O⟩:=m d;refine⟨λx Z=>?_,λi D H=>?_⟩
    · grind [Fw.look,Nat.eq_of_beq_eq_true]
    .rw[Fw.look]at H;split at H
     .cases H
     .next hln=>
      split at H
      .cases H
      .next hpo=>
       cases i with
       |zero=>simp_all
       |succ i=>grind
   .cases h
  .cases h
theorem Sl:∀{os:List (Option Nat)}{d:List Eff}{m:List (Nat×bD)},vN st os d=some m->∀(i p:Nat),os[i]? =some (some p)->
 d[i]? =some .lose\/(∃(e:TypeId)(r:aP)(l:List r.den),d[i]? =some (.arr e r l)/\∃x:bD,Fw.look m p=some x)\/(∃(A:List Cell),d[i]? =some (.var A)/\∃x:bD,Fw.look m p=some x)
 |[],d,m,h,i,p,hi=>by simp at hi
 |none::os,d,m,h,i,p,hi=>by
  rw[vN]at h;cases i with
  |zero=>simp at hi
  |succ i=>
   have:=Sl h i p Uy
   grind
 |some o::os,d,m,h,i,p,hi=>by
  unfold vN at h;have u:∀{y:Eff},d.head?=some y->d[0]? =some y:=λF=>by cases d<;>simp at F ⊢;exact F
  have n:∀{b:List (Nat×bD)}{z:bD},(∃x:bD,Fw.look b p=some x)->∃x:bD,Fw.look ((o,z)::b) p=some x:=λ⟨x,Z⟩=>⟨x,by rw[Fw.look,Z]⟩;have B:∀{b:List (Nat×bD)}{z:bD},∃x:bD,Fw.look ((o,z)::b) o=some x:=by
   intro b z;rw[Fw.look];cases Fw.look b o with
   |some y=>grind
   |none=>simp
  split at h
  .next b hh hδ=>
   cases i with
   |zero=>grind
   |succ i=>have:=Sl hδ i p Uy;grind
  .next e r l f s l0 fr0 b hh ho hδ=>
   split at h
   .cases h;cases i with
    |zero=>simp_all
    |succ i=>have:=Sl hδ i p Uy;rw[List.getElem?_tail]at this;exact this.imp id λg=>g.imp (λ⟨e,r,l,j,k⟩=>⟨e,r,l,j,n k⟩) λ⟨A,j,k⟩=>⟨A,j,n k⟩
   .cases h
  .next A cs0 b hh ho hδ=>
   split at h
   .cases h;cases i with
    |zero=>simp_all
    |succ i=>have:=Sl hδ i p Uy;rw[List.getElem?_tail]at this;exact this.imp id λg=>g.imp (λ⟨e,r,l,j,k⟩=>⟨e,r,l,j,n k⟩) λ⟨A,j,k⟩=>⟨A,j,n k⟩
   .cases h
  .cases h
variable {bP:List Eff}
theorem amK{δ:List (Nat×bD)}(h:VT bP δ=true){x:bD}(W:Fw.look δ o=some x):uH bP o=none:=by
 have:=aQA.1 h _ (Fv δ o x W)
 simp_all
theorem aCB{i:Nat}:(∀(e:TypeId)(r:aP)(l:List r.den),bP[i]? =some (.arr e r l)->uH bP (i*64+49)=some (.arr e r l false))/\
 (∀A:List Cell,bP[i]? =some (.var A)->uH bP (i*64+48)=some (.var A)):=by
 have C:(i*64+49) / 64=i:=fC;have K:(i*64+48) / 64=i:=fC
 simp_all [uH]
theorem aaw{X:bD}(h:uH bP q=some X):(∃(e:TypeId)(r:aP)(l:List r.den),bP[q / 64]? =some (.arr e r l)/\X=.arr e r l false/\q=q / 64*64+49)\/
 (∃A:List Cell,bP[q / 64]? =some (.var A)/\X=.var A/\q=q / 64*64+48):=by
 unfold uH at h;split at h
 · grind [Nat.eq_of_beq_eq_true]
 · grind [Nat.eq_of_beq_eq_true]
 .cases h
variable {k:Nat}
theorem Rel.aia(h:Rel w0 M T γ st a w)
 (hh:zn nr st xs as os) {out:Out}   (azh:k%64=1) {δ:List (Nat×bD)}
 (U:vN st os bP=some δ) (hfr:nR (st.kill (mJ os bP)) (out.take k).2=true) {e:Ending}
 (hpost:aau (aI w0 T γ st w).foot as (γE os γ) w k out bP e w'):
 ∃v γ',e=.returned v/\Rel w0 M T γ' (((st.kill (mJ os bP)).adds δ).adds (out.take k).2) a w'/\dB (aI w0 T γ' (((st.kill (mJ os bP)).adds δ).adds (out.take k).2) w') (out.take k).1 v:=by
 let S:=(aI w0 T γ st w).foot
 let E:=gK as
 let ge:=γE os γ
 let XE:V:=⟨w,w.heap.size,S,ge,E⟩
 have hge:∀{q o:Nat},os[q / 64]? =some (some o)->ge q=γ o:=λu=>by show(match os[_ / 64]? with|some (some o)=>γ o|_=>undef)=_;rw[u]
 have hEs:∀{q:Nat}{X:bD},E q=some X->_:=λu=>ah9 hh u;have aib:∀b,S b->XE.foot b:=λb U=>⟨U.1,λ_=>U,λq X u=>by obtain⟨o,Y,ho,hY,_⟩:=hEs u;show blk (ge q)≠some b;rw[hge ho];exact U.2.2 o Y hY⟩;have hbl:∀{q:Nat}{X:bD},E q=some X->∀b,blk (ge q)=some b->b<w.heap.size/\(w0.heap.size<=b\/M b):=λu b U=>by obtain⟨o,Y,ho,hY,_⟩:=hEs u;rw[hge ho]at U;exact h.lt o Y b hY U
 obtain⟨v,γ',rfl,C,O,h3,h4,h5,h6,h7,h8,h9⟩:=hpost
 let f:=(out.take k).2
 let K:=mJ os bP
 let H:Nat->Prop:=CW E ge
 let Q:Nat->Value:=λq=>match Fw.look f q with|some _=>γ' q|none=>γ q
 let D:Nat->Bool:=λq=>(Fw.look δ q).isSome||(Fw.look f q).isSome
 let rq:Nat->Option bD:=(((st.kill K).adds δ).adds f).ak
 have aax:∀q,rq q=match Fw.look f q with|some y=>some y|none=>match Fw.look δ q with|some y=>some y|none=>(st.kill K).ak q:=λq=>by
  grind [BL]
 have aoc:∀{q:Nat}{y:bD},Fw.look f q=some y->Q q=γ' q:=λu=>jv;have aem:∀{q:Nat},Fw.look f q=none->Q q=γ q:=λu=>jv;have hH:∀b,H b->∃o x,st.ak o=some x/\blk (γ o)=some b:=by
  rintro b ⟨q,X,u,U⟩
  grind
 have m:∀{q:Nat}{x:bD},Fw.look δ q=some x->∃c,uH bP c=some x/\ge c=γ q/\os[c / 64]? =some (some q)/\
  ((∃(e:TypeId)(r:aP)(l l0:List r.den)(fr:Bool),st.ak q=some (.arr e r l0 fr)/\x=.arr e r l false)\/(∃(A cs0:List Cell),st.ak q=some (.var cs0)/\A.flatMap Cell.refs=[]/\x=.var A)):=by
  intro q x u;obtain⟨i,hi,j⟩:=(XG U q).1 x u;have d1:(i*64+49) / 64=i:=fC;have d3:(i*64+48) / 64=i:=fC;rcases j with⟨e,r,l,l0,fr,g1,g2,rfl⟩|⟨A,cs0,g1,g2,g3,rfl⟩
  .exact⟨i*64+49,aCB.1 e r l g1,hge jv,jv,.inl ⟨e,r,l,l0,fr,g2,rfl⟩⟩
  .exact⟨i*64+48,aCB.2 A g1,hge jv,jv,.inr ⟨A,cs0,g2,g3,rfl⟩⟩
 have aJn:∀{q:Nat}{y:bD},uH bP q=some y->∀b,blk (ge q)=some b->b<w.heap.size:=by
  intro q y u b hbk;have hbk0:=hbk;show b<w.heap.size;have:∃o,os[q / 64]? =some (some o):=by
   have hbk':blk (match os[q / 64]? with|some (some o)=>γ o|_=>undef)=some b:=hbk;cases ho:os[q / 64]? with
   |none=>rw[ho]at hbk';cases hbk'
   |some z=>cases z with
    |none=>rw[ho]at hbk';cases hbk'
    |some o=>grind
  obtain⟨o,ho⟩:=this;rw[hge ho]at hbk;have hex:∃Y,st.ak o=some Y:=by
   rcases Sl U _ _ ho with g|⟨e,r,l,g,x,hx⟩|⟨A,g,x,hx⟩
   .rcases aaw u with⟨e,r,l,g',_⟩|⟨A,g',_⟩<;>(rw[g]at g';cases g')
   .obtain⟨c,_,_,_,j⟩:=m hx;rcases j with⟨_,_,_,_,_,g,_⟩|⟨_,_,g,_⟩<;>exact⟨_,g⟩
   .obtain⟨c,_,_,_,j⟩:=m hx;rcases j with⟨_,_,_,_,_,g,_⟩|⟨_,_,g,_⟩<;>exact⟨_,g⟩
  obtain⟨Y,hY⟩:=hex;exact(h.lt o Y b hY hbk).1
 let Y2:V:=⟨w',w.heap.size,xW S as bP ge,γ',Fw.look f⟩
 have hKH:∀q x b,D q=false->K q=false->st.ak q=some x->blk (γ q)=some b->¬H b:=by
  rintro q x b hD hK u hbq ⟨c,X,N,hbc⟩;obtain⟨o,Y,ho,hY,_⟩:=hEs N;rw[hge ho]at hbc;by_cases hoq:o=q
  .subst hoq;have hD':Fw.look δ o=none:=by
    have:(Fw.look δ o).isSome=false:=by
     grind
    simp_all
   have:=(XG U o).2 _ ho hD'
   grind
  .exact h.sep o Y q x b hY u hoq hbc hbq
 have aFh:∀b,Y2.foot b->V.foot ⟨w',w0.heap.size,T,Q,rq⟩ b:=by
  intro b I;refine⟨I.1,λhlt=>?_,λq x u e=>?_⟩
  .have hlt0:b<w0.heap.size:=hlt;have hlt':b<w.heap.size:=aQO hlt0 h.grow;rcases(I.2.1 hlt').1 with g|⟨c,X,N,hbc⟩
   .exact g.2.1 hlt
   .exact h.mT b ((hbl N b hbc).2.resolve_left fC)
  .have hq':rq q=some x:=u;have e':blk (Q q)=some b:=e;rw[aax]at hq';cases F:Fw.look f q with
   |some y=>
    rw[aoc F]at e';exact I.2.2 q y F e'
   |none=>
    rw[aem F]at e';rw[F]at hq';cases W:Fw.look δ q with
    |some y=>
     obtain⟨c,R,hcg,hco,_⟩:=m W;rw[← hcg]at e';have hlt:b<w.heap.size:=aJn R b e';exact(I.2.1 hlt).2 c y R e'
    |none=>
     rw[W]at hq';obtain⟨z,hz,_,hKq⟩:=EJ K hq';have hlt:=(h.lt q z b hz e').1;rcases(I.2.1 hlt).1 with g|g
     .exact g.2.2 q z hz e'
     grind
 have aCC:∀fr b,Y2.fG fr b->V.fG ⟨w',w0.heap.size,T,Q,rq⟩ fr b:=λfr b I=>⟨aFh b I.1,λe=>aQn h.grow (I.2 e)⟩;have hle2:V.le Y2 ⟨w',w0.heap.size,T,Q,rq⟩:=by
  have B:∀{o:Nat}{x:bD},Fw.look f o=some x->rq o=some x:=λW=>by rw[aax,W]
  exact⟨h.grow,λb I=>⟨aFh b I,rfl⟩,λo A W=>⟨⟨A,B W⟩,aoc W⟩,λo e r l fr W=>⟨⟨l,fr,B W⟩,aoc W⟩⟩
 have hmain:=h.update (w':=w') (K:=K) (D:=D) (H:=H) (rq:=rq) (γ2:=Q) C O h3 h4 hH h5
  (λq hD=>by
    grind)
  hKH
  (λq x hD u b hbq=>by
    rw[aax]at u;cases F:Fw.look f q with
    |some y=>
     grind
    |none=>
     rw[aem F]at hbq;rw[F]at u;cases W:Fw.look δ q with
     |some y=>
      obtain⟨c,R,hcg,hco,j⟩:=m W;rw[← hcg]at hbq;have hlt:=aJn R b hbq;refine⟨aQO hlt h4,.inr ?_⟩;have hcE:∃X,E c=some X:=by
       obtain⟨x',o',hx',ho',hone⟩:=hh.get (c / 64) (as[c / 64]' JK) (aQD _);rw[hco]at ho';cases ho';rcases hone with⟨g,_⟩|⟨q',e,r,l,fr,g1,_,g2,g3⟩|⟨q',A,g1,_,g2,_,g3⟩
       .cases g
       .cases g1;rcases j with⟨e1,r1,l1,l0,fr1,g4,rfl⟩|⟨cs1,cs0,g4,_⟩
        .rcases aaw R with⟨_,_,_,_,_,hcq⟩|⟨_,_,g,_⟩
         .refine⟨.arr e r l false,?_⟩;show gK as c=_;have hm:c%64=49:=fC;unfold gK;rw[aQD JK,g3,hm]
         .cases g
        grind
       .cases g1;rcases j with⟨e1,r1,l1,l0,fr1,g4,rfl⟩|⟨cs1,cs0,g4,_,rfl⟩
        .rw[g2]at g4;cases g4
        .rcases aaw R with⟨_,_,_,_,g,_⟩|⟨_,_,_,hcq⟩
         .cases g
         .refine⟨.var (A.map (Cell.view st)),?_⟩;show gK as c=_;have hm:c%64=48:=fC;unfold gK;rw[aQD JK,g3,hm]
      obtain⟨X,hX⟩:=hcE;exact⟨c,X,hX,hbq⟩
     |none=>have L:((Fw.look δ q).isSome||(Fw.look f q).isSome)=true:=hD;rw[W,F]at L;cases L)
  (λ_ q x hD u=>by
    rw[aax]at u;cases F:Fw.look f q with
    |some y=>
     rw[F]at u;cases u;exact eF.mono hle2 q x (λ_ _=>rfl) (aoc F) (h7 q x F).1
    |none=>
     rw[F]at u;cases W:Fw.look δ q with
     |some y=>
      rw[W]at u;cases u;obtain⟨c,R,hcg,hco,j⟩:=m W;obtain⟨g1,g2⟩:=h9 c x R;have hγq:Q q=γ' c:=by rw[aem F,g1];exact hcg.symm
      rcases j with⟨e,r,l,l0,fr,_,rfl⟩|⟨A,cs0,_,hr,rfl⟩
      .exact eF.aum (Y:=Y2) g2 hγq rfl (λb I=>aCC false b I) (λb _ e=>y5)
      .obtain⟨b,arr,t,k1,k2,k3⟩:=g2;exact⟨b,arr,t,hγq.trans k1,k2,Qh (Y:=Y2) (Z:=⟨w',w0.heap.size,T,Q,rq⟩) rfl aCC _ _ hr k3⟩
     |none=>have L:((Fw.look δ q).isSome||(Fw.look f q).isSome)=true:=hD;rw[W,F]at L;cases L)
  (λp1 p2 x y b hD1 hD2 hq1 hq2 hne hb1=>by
    rw[aax]at hq1 hq2;cases l1:Fw.look f p1 with
    |some y1=>
     rw[aoc l1]at hb1;cases J:Fw.look f p2 with
     |some y2=>rw[aoc J];exact h8 p1 y1 p2 y2 b l1 J hne hb1
     |none=>
      rw[aem J];cases m2:Fw.look δ p2 with
      |some y2=>
       obtain⟨c,R,hcg,hco,j⟩:=m m2;rw[← hcg];exact((h7 p1 y1 l1).2 b hb1).2.2 c y2 R
      |none=>
       have L:((Fw.look δ p2).isSome||(Fw.look f p2).isSome)=true:=hD2;rw[m2,J]at L;cases L
    |none=>
     rw[aem l1]at hb1;cases m1:Fw.look δ p1 with
     |none=>
      have L:((Fw.look δ p1).isSome||(Fw.look f p1).isSome)=true:=hD1;rw[m1,l1]at L;cases L
     |some y1=>
      obtain⟨c1,aNC,aND,aPG,hk1⟩:=m m1;cases J:Fw.look f p2 with
      |some y2=>
       rw[aoc J];intro e;rw[← aND]at hb1;exact((h7 p2 y2 J).2 b e).2.2 c1 y1 aNC hb1
      |none=>
       rw[aem J];cases m2:Fw.look δ p2 with
       |none=>
        have L:((Fw.look δ p2).isSome||(Fw.look f p2).isSome)=true:=hD2;rw[m2,J]at L;cases L
       |some y2=>
        obtain⟨c2,aPH,aPI,aPJ,hk2⟩:=m m2;have e1:∃z,st.ak p1=some z:=by rcases hk1 with⟨_,_,_,_,_,g,_⟩|⟨_,_,g,_⟩<;>exact⟨_,g⟩
        have d:∃z,st.ak p2=some z:=by rcases hk2 with⟨_,_,_,_,_,g,_⟩|⟨_,_,g,_⟩<;>exact⟨_,g⟩
        obtain⟨z1,e1⟩:=e1;obtain⟨z2,d⟩:=d;exact h.sep p1 z1 p2 z2 b e1 d hne hb1)
  (λq A hD hK u=>by
    cases J:Fw.look f q with
    |some y=>have:=RY hfr J;rw[uZ K hK u]at this;cases this
    |none=>
     refine⟨?_,aem J⟩;cases m2:Fw.look δ q with
     |none=>
      have L:((Fw.look δ q).isSome||(Fw.look f q).isSome)=true:=hD;rw[m2,J]at L;cases L
     |some y=>
      obtain⟨c,_,_,_,j⟩:=m m2;rcases j with⟨_,_,_,_,_,g,_⟩|⟨cs',_,g,_,rfl⟩
      .rw[u]at g;cases g
      .exact⟨cs',by rw[aax,J,m2]⟩)
  (λq e r l fr hD hK u=>by
    cases J:Fw.look f q with
    |some y=>have:=RY hfr J;rw[uZ K hK u]at this;cases this
    |none=>
     refine⟨?_,aem J⟩;cases m2:Fw.look δ q with
     |none=>
      have L:((Fw.look δ q).isSome||(Fw.look f q).isSome)=true:=hD;rw[m2,J]at L;cases L
     |some y=>
      obtain⟨c,_,_,_,j⟩:=m m2;rcases j with⟨e',r',l',l0,fr',g,rfl⟩|⟨_,_,g,_⟩
      .rw[u]at g;cases g;exact⟨l',false,by rw[aax,J,m2]⟩
      .rw[u]at g;cases g)
  (λq A hD u=>by
    rw[aax]at u;cases J:Fw.look f q with
    |some y=>
     rw[J]at u;cases u;have L:=out.ay3 k azh J;refine .inr ?_;cases hT:T.N q with
     |none=>rfl
     |some v'=>have:=T.n48 q v' hT;omega
    |none=>
     rw[J]at u;cases m2:Fw.look δ q with
     |none=>
      have L:((Fw.look δ q).isSome||(Fw.look f q).isSome)=true:=hD;rw[m2,J]at L;cases L
     |some y=>
      rw[m2]at u;cases u;obtain⟨c,_,_,_,j⟩:=m m2;rcases j with⟨_,_,_,_,_,_,g⟩|⟨_,cs0,g,_,_⟩
      .cases g
      .exact .inl ⟨cs0,g,aem J⟩)
 refine⟨v,Q,rfl,?_,dB.mono hle2 _ _ h6⟩;have hst:(((st.kill K).adds δ).adds f)={n:=st.n,tmps:=λt=>(st.tmps t).kill K,ak:=rq}:=by
  have e1:=QO f ((st.kill K).adds δ);have d:=QO δ (st.kill K);have gen:∀(s:St)(n:Nat)(t:Nat->AV),s.n=n->s.tmps=t->s={n:=n,tmps:=t,ak:=s.ak}:=λs n t g1 g2=>by cases s;subst g1 g2;rfl
  exact gen _ _ _ (e1.2.trans d.2) (e1.1.trans d.1)
 grind
variable {G:oI}
theorem Rel.aCD(hE:Ad P G Θ Γ w0 M)(h:Rel w0 M T γ st a w){n:Array Value}(hx:vC (aI w0 T γ st w) xs n.toList)
 (hh:zn true st xs as os) (hnd:GU os=true) {f:FuncId} {con:Ii}  {i:YI}  (azh:k%64=1) (hok:kM P G f con) (N:con as=some (p,i)) (J:p)
 (hch:∀t,i.R t->∃Q,vN st os (i.bP t)=some Q/\nR (st.kill (mJ os (i.bP t))) ((i.out t).take k).2=true/\VT (i.bP t) ((i.out t).take k).2=true):
 Calls P f n w λe w'=>∃t Q,i.R t/\vN st os (i.bP t)=some Q/\∃v γ',e=.returned v/\
  Rel w0 M T γ' (((st.kill (mJ os (i.bP t))).adds Q).adds ((i.out t).take k).2) a w'/\dB (aI w0 T γ' (((st.kill (mJ os (i.bP t))).adds Q).adds ((i.out t).take k).2) w') ((i.out t).take k).1 v:=by
 let S:=(aI w0 T γ st w).foot
 let E:=gK as
 let H:=γE os γ
 let L:V:=⟨w,w.heap.size,S,H,E⟩
 have d:∀{q o:Nat},os[q / 64]? =some (some o)->H q=γ o:=λB=>by show(match os[_ / 64]? with|some (some o)=>γ o|_=>undef)=_;rw[B]
 have m:∀{q:Nat}{X:bD},E q=some X->_:=λB=>ah9 hh B;have R:∀b,S b->L.foot b:=λb U=>⟨U.1,λ_=>U,λq X B=>by obtain⟨o,Y,z,hY,_⟩:=m B;show blk (H q)≠some b;rw[d z];exact U.2.2 o Y hY⟩;have hbl:∀{q:Nat}{X:bD},E q=some X->∀b,blk (H q)=some b->b<w.heap.size/\(w0.heap.size<=b\/M b):=λB b U=>by obtain⟨o,Y,z,hY,_⟩:=m B;rw[d z]at U;exact h.lt o Y b hY U
 have aDD:∀o x,E o=some x->eF L o x/\∀b,blk (H o)=some b->b<w.heap.size/\G.n<=b:=by
  intro q X B;refine⟨?_,λb U=>⟨(hbl B b U).1,?_⟩⟩
  .obtain⟨o,Y,z,hY,hk⟩:=m B;have hO:=h.ak o Y hY;rcases hk with⟨e,r,l,fr,rfl,rfl,_⟩|⟨A,rfl,rfl,hr,_⟩
   .exact eF.aum (Z:=L) hO (d z) rfl (λb U=>⟨R b U.1,λe=>y5⟩) (λb _ e=>y5)
   .obtain⟨b,arr,t,hγ,hheap,hcs⟩:=hO;refine⟨b,arr,t,(d z).trans hγ,hheap,?_⟩;have:=Cells.BM h (γ0:=λ_=>undef) A _ hr hcs;exact Qh (Y:=⟨w,w.heap.size,S,λ_=>undef,λ_=>none⟩) (Z:=L) rfl (λfr b U=>⟨⟨U.1.1,λhlt=>U.1.2.1 hlt,λq' X' hq'=>by obtain⟨o',Y',ho',hY',_⟩:=m hq';show blk (H q')≠some b;rw[d ho'];exact(U.1.2.1 U.1.1).2.2 o' Y' hY'⟩,U.2⟩) _ _ (by rw[List.flatMap_map];rw[List.flatMap_eq_nil_iff]at hr ⊢;intro c N;have:=hr c N;cases c<;>first|rfl|(cases this;done)) this
  .rcases(hbl B b U).2 with g|g
   .exact aQn (G.low w0 hE.ok) g
   .exact hE.low b g
 have hsep:∀o x q y b,E o=some x->E q=some y->o≠q->blk (H o)=some b->blk (H q)≠some b:=by
  intro q1 X1 q2 X2 b C O hne U;obtain⟨o1,Y1,ho1,hY1,_⟩:=m C;obtain⟨o2,Y2,ho2,hY2,_⟩:=m O;rw[d ho1]at U;rw[d ho2];refine h.sep o1 Y1 o2 Y2 b hY1 hY2 ?_ U
  grind [abv]
 have I:F6 L 0 as n.toList:=by
  obtain⟨W,hget⟩:=vC.get xs n.toList hx;refine aoa as n.toList 0 (by rw[hh.length.1,W]) λj b u U hu=>?_;rw[aRl];obtain⟨x,o,hxj,hoj,D⟩:=hh.get j b U;have F:=hget j x u hxj hu;have d1:(j*64+49) / 64=j:=fC;have d2:(j*64+49)%64=49:=fC;have d3:(j*64+48) / 64=j:=fC;have d4:(j*64+48)%64=48:=fC;rcases D with⟨rfl,hr,ha⟩|⟨q,e,r,l,fr,rfl,rfl,B,rfl⟩|⟨q,A,rfl,rfl,B,hr,rfl⟩
  .have hr:=hr rfl;have hr2:=JQ h (γ0:=λ_=>undef) [x] [u] [b] ha (by show x.refs++[]=[];rw[hr];rfl) ⟨F,trivial⟩;have K:V.le ⟨w,w.heap.size,S,λ_=>undef,λ_=>none⟩ L:=⟨aQp _,λc s=>⟨R c (s.2.1 s.1),rfl⟩,(λ_ _ s=>by cases s),(λ_ _ _ _ _ s=>by cases s)⟩;have hA:=hr2.1;cases b with
   |sv v=>exact ig.mono K v u hA
   |kp A=>exact dB.mono K (.cO A 0) u hA
   |fn g caps=>exact dB.mono K (.fn g caps) u hA
   |own _ _ _=>exact hA.elim
   |ptr _=>exact hA.elim
  .obtain⟨_,hu2,D⟩:=F;refine⟨⟨e,r,l,false,?_⟩,?_,D⟩
   .show gK as (j*64+49)=_
    simp_all [gK]
   grind
  .obtain⟨c,cs',_,hγ,hv⟩:=F;refine⟨c,A.map (Cell.view st),?_,?_,hv⟩
   .show gK as (j*64+48)=_
    simp_all [gK]
   grind
 refine((hok as p i N J).2 k S H n w (hE.at h) I aDD hsep λt ht o x W=>?_).mono ?_
 · grind [amK]
 .rintro e w' ⟨t,ht,hpost⟩;obtain⟨Q,g1,g2,_⟩:=hch t ht;obtain⟨v,γ',rfl,g3,g4⟩:=h.aia hh azh g1 g2 hpost
  grind
def YP(bP:List Eff):Bool:=bP.all λ|.lose=>true|.arr _ _ _=>false|.var cs=>cs.all Cell.made
theorem azi(h:YP bP=true){X:bD}(u:uH bP q=some X):akP X:=by
 rcases aaw u with⟨e,r,l,g,_⟩|⟨A,g,rfl,_⟩
 .have:=aQA.1 h _ (aQU g);cases this
 .exact aQA.1 h _ (aQU g)
theorem aau.made{S S':Nat->Prop}{args:List Arg}{out:Out}{e:Ending}(h:aau S args γ w k out bP e w')(f:out.made=true)(X:YP bP=true):aau S' args γ w k out bP e w':=by
 obtain⟨v,γ',rfl,C,O,K,g,i,j,b,l,d⟩:=h;refine⟨v,γ',rfl,C,O,K,g,i,(out.ah5 k f _ (xW S' args bP γ) v).1 j,λo x W=>⟨?_,(b o x W).2⟩,l,λo x u=>⟨(d o x u).1,?_⟩⟩
 .exact eF.made (xW S' args bP γ) o x ((out.ah5 k f ⟨w',w.heap.size,S,γ',look (out.take k).2⟩ (xW S' args bP γ) v).2 _ (Fv _ _ _ W)) (b o x W).1
 .exact eF.made (xW S' args bP γ) o x (azi X u) (d o x u).2
theorem Rel.azj(hE:Ad P G Θ Γ w0 M)(h:Rel w0 M T γ st a w){n:Array Value}(hx:vC (aI w0 T γ st w) xs n.toList)
 (hh:zn false st xs as os) (hnd:GU os=true) {f:FuncId} {con:Ii}  {d:YI}  (azh:k%64=1) (hok:kM P G f con) (N:con as=some (p,d)) (J:p)
 (hown:∀(q:Nat)(e:TypeId)(r:aP)(l:List r.den),gK as q≠some (.arr e r l false)) (aJp:∀t,d.R t->(d.out t).made=true/\YP (d.bP t)=true)
 (hch:∀t,d.R t->∃R,vN st os (d.bP t)=some R/\nR (st.kill (mJ os (d.bP t))) ((d.out t).take k).2=true/\VT (d.bP t) ((d.out t).take k).2=true):
 Calls P f n w λe w'=>∃t R,d.R t/\vN st os (d.bP t)=some R/\∃v γ',e=.returned v/\
  Rel w0 M T γ' (((st.kill (mJ os (d.bP t))).adds R).adds ((d.out t).take k).2) a w'/\dB (aI w0 T γ' (((st.kill (mJ os (d.bP t))).adds R).adds ((d.out t).take k).2) w') ((d.out t).take k).1 v:=by
 let E:=gK as
 let H:=γE os γ
 let S:Nat->Prop:=λb=>b<w.heap.size/\∀q X,E q=some X->blk (H q)≠some b
 let XE:V:=⟨w,w.heap.size,S,H,E⟩
 have B:∀{q o:Nat},os[q / 64]? =some (some o)->H q=γ o:=λi=>by show(match os[_ / 64]? with|some (some o)=>γ o|_=>undef)=_;rw[i]
 have m:∀{q:Nat}{X:bD},E q=some X->_:=λi=>ah9 hh i;have aib:∀b,S b->XE.foot b:=λb U=>⟨U.1,λ_=>U,U.2⟩;have I:∀b,(aI w0 T γ st w).foot b->S b:=λb U=>⟨U.1,λq X i=>by obtain⟨o,Y,z,K,_⟩:=m i;rw[B z];exact U.2.2 o Y K⟩;have hS2:∀o e r l fr b,st.ak o=some (.arr e r l fr)->blk (γ o)=some b->S b:=λo e r l fr b z U=>⟨(h.lt o _ b z U).1,λq X i=>by
  obtain⟨o',Y,ho',K,hk⟩:=m i;rw[B ho'];rcases hk with⟨e',r',l',fr',rfl,_,_⟩|⟨A,_,rfl,_,_⟩
  · grind
  .exact h.sep o _ o' _ b z K (λe=>jv) U⟩
 have hbl:∀{q:Nat}{X:bD},E q=some X->∀b,blk (H q)=some b->b<w.heap.size/\(w0.heap.size<=b\/M b):=λi b U=>by obtain⟨o,Y,z,K,_⟩:=m i;rw[B z]at U;exact h.lt o Y b K U
 have aDD:∀o x,E o=some x->eF XE o x/\∀b,blk (H o)=some b->b<w.heap.size/\G.n<=b:=by
  intro q X i;refine⟨?_,λb U=>⟨(hbl i b U).1,?_⟩⟩
  .obtain⟨o,Y,z,K,hk⟩:=m i;have hO:=h.ak o Y K;rcases hk with⟨e,r,l,fr,rfl,rfl,_⟩|⟨A,rfl,rfl,hr,_⟩
   · grind
   .obtain⟨b,arr,t,hγ,hheap,hcs⟩:=hO;refine⟨b,arr,t,(B z).trans hγ,hheap,?_⟩;have:=Cells.BM h (γ0:=λ_=>undef) A _ hr hcs;exact Qh (Y:=⟨w,w.heap.size,(aI w0 T γ st w).foot,λ_=>undef,λ_=>none⟩) (Z:=XE) rfl (λfr b U=>⟨⟨U.1.1,λhlt=>I b (U.1.2.1 hlt),(I b (U.1.2.1 U.1.1)).2⟩,U.2⟩) _ _ (by rw[List.flatMap_map];rw[List.flatMap_eq_nil_iff]at hr ⊢;intro c N;have:=hr c N;cases c<;>first|rfl|(cases this;done)) this
  .rcases(hbl i b U).2 with g|g
   .exact aQn (G.low w0 hE.ok) g
   .exact hE.low b g
 have hsep:∀o x q y b,E o=some x->E q=some y->o≠q->blk (H o)=some b->blk (H q)≠some b:=by
  intro q1 X1 q2 X2 b C O hne U;obtain⟨o1,Y1,ho1,hY1,_⟩:=m C;obtain⟨o2,Y2,ho2,hY2,_⟩:=m O;rw[B ho1]at U;rw[B ho2];refine h.sep o1 Y1 o2 Y2 b hY1 hY2 ?_ U
  grind [abv]
 have L:F6 XE 0 as n.toList:=by
  obtain⟨W,hget⟩:=vC.get xs n.toList hx;refine aoa as n.toList 0 (by rw[hh.length.1,W]) λj b u U hu=>?_;rw[aRl];obtain⟨x,o,hxj,hoj,D⟩:=hh.get j b U;have F:=hget j x u hxj hu;have d1:(j*64+49) / 64=j:=fC;have d2:(j*64+49)%64=49:=fC;have d3:(j*64+48) / 64=j:=fC;have d4:(j*64+48)%64=48:=fC;rcases D with⟨rfl,hr,ha⟩|⟨q,e,r,l,fr,rfl,rfl,i,rfl⟩|⟨q,A,rfl,rfl,i,hr,rfl⟩
  .have hr2:=RZ h (γ0:=λ_=>undef) I hS2 [x] [u] [b] ha ⟨F,trivial⟩;have Q:V.le ⟨w,w.heap.size,S,λ_=>undef,λ_=>none⟩ XE:=⟨aQp _,λc s=>⟨aib c (s.2.1 s.1),rfl⟩,(λ_ _ s=>by cases s),(λ_ _ _ _ _ s=>by cases s)⟩;have hA:=hr2.1;cases b with
   |sv v=>exact ig.mono Q v u hA
   |kp A=>exact dB.mono Q (.cO A 0) u hA
   |fn g caps=>exact dB.mono Q (.fn g caps) u hA
   |own _ _ _=>exact hA.elim
   |ptr _=>exact hA.elim
  .obtain⟨_,hu2,D⟩:=F;refine⟨⟨e,r,l,false,?_⟩,?_,D⟩
   .show gK as (j*64+49)=_;unfold gK;rw[d1,U,d2]
   grind
  .obtain⟨c,cs',_,hγ,hv⟩:=F;refine⟨c,A.map (Cell.view st),?_,?_,hv⟩
   .show gK as (j*64+48)=_;unfold gK;rw[d3,U,d4]
   grind
 refine((hok as p d N J).2 k S H n w (hE.at h) L aDD hsep λt ht o x W=>?_).mono ?_
 · grind [amK]
 .rintro e w' ⟨t,ht,hpost⟩;obtain⟨R,g1,g2,_⟩:=hch t ht;obtain⟨v,γ',rfl,g3,g4⟩:=h.aia hh azh g1 g2 (hpost.made (aJp t ht).1 (aJp t ht).2)
  grind
theorem awv{base size n:Nat}{v:Value}{xs:List Value}(b:w.ownsRow base e size v n xs):v.oneCell'=true/\(∀d,v≠ .pointer (some d)):=by rcases b.2 with⟨C,_⟩|⟨g,y,Q,C,_⟩<;>rw[C]<;>exact⟨rfl,λ_ e=>y5⟩
theorem als(E:∀t m,Θ t=some m->qR P t m)(h:Rel w0 M T γ st a w){m d:TI}(W:Θ t=some m)(j:m.kind=.slice e)(R:Θ e=some d)(k:Nat)(l:0<d.cells.len)
 {y:Cell} {s:List d.cells.den} {H:Value} (F:bY (aI w0 T γ st w) y H)
 (A:y.get st (.sl e d.cells)=some s) (L:s.length<=big):
 ∃u w' γ',(Builtin.append_ #[t,t] ty #[.slice none 0 0,H]).run P w=.ok u w'/\Rel w0 M T γ' ((st.kill (Nat.beq k ·)).add k (.arr e d.cells s (y.EI d.cells st))) a w'/\
  dB (aI w0 T γ' ((st.kill (Nat.beq k ·)).add k (.arr e d.cells s (y.EI d.cells st))) w') (.sv (.one (.ref k))) u:=by
 obtain⟨I,w',X,C,f,n,K,J⟩:=Sj (P:=P) (ty:=ty) (E t m W) j (E e d R) l (World.ownsRow_nil w 0 e d.cells.len) (Cell.azd h F A) fC;have z:=awv f;have B:∀g,blk I=some g->(some g=none\/w.heap.size<=g)/\g<w'.heap.size:=by
  intro g U;refine⟨.inr ?_,aws f g U⟩;rcases J g (by grind [YM])with h1|h1
  .cases h1
  .exact h1
 obtain⟨Q,_⟩:=h.replace (w':=w') (o:=k) (v':=I) (x':=.arr e d.cells s (y.EI d.cells st)) none (.inl rfl) n.os n.tape n.output n.size
  (λb U S=>n.block b U (by intro O;cases O)) B (λ_ e=>y5) (λle=>by
    refine⟨X,?_,l,?_,λi x D=>?_⟩
    · grind [upd_same]
    .intro b U hf;have U:blk (upd γ k I k)=some b:=U;rw[upd_same]at U;rcases(B b U).1 with h1|h1
     .cases h1
     .exact aQn h.grow h1
    .exact dD.mono (λc N=>le.fG _ c N) _ _ x (K i x D))
 exact⟨I,w',_,C,Q,⟨e,d.cells,_,_,add_same _ _ _⟩,(upd_same _ _ _).symm,z.1⟩
theorem azk(A:∀t B,Θ t=some B->qR P t B)(h:Rel w0 M T γ st a w){f:TypeId}{B te:TI}(ht:Θ t=some B)(j:B.kind=.slice f)(he:Θ f=some te){l:List r.den}
 (ho:st.ak o=some (.arr e r l fr)) {v:Value} (R:bY (aI w0 T γ st w) (.ref o) v) {D:Option Operand}  {x y:Nat} (U:sD st l.length none D=some (p,x,y)) (J:p):
 ∃u γ',(Instr.sliceAt t v none (D.map a.eval) none).run P w=.ok u w/\Rel w0 M T γ' ((st.kill (Nat.beq o ·)).add o (.arr e r (l.take y) fr)) a w/\
  dB (aI w0 T γ' ((st.kill (Nat.beq o ·)).add o (.arr e r (l.take y) fr)) w) (.sv (.one (.ref o))) u:=by
 obtain⟨_,m,_⟩:=R;have m:v=γ o:=m;subst m;obtain⟨xs,d,Y,hfr,Z⟩:=h.ak o _ ho;have d:w.ownsRow 0 e r.len (γ o) l.length xs:=d;have hx0:x=0:=by
  cases D with
  |none=>grind [sD]
  |some hh=>
   grind [sD]
 subst hx0;have hu:=(A t B ht).und;rw[j]at hu;obtain⟨C,O⟩:=d;have key:∃u,(Instr.sliceAt t (γ o) none (D.map a.eval) none).run P w=.ok u w/\w.ownsRow 0 e r.len u y (xs.take (y*r.len))/\blk u=blk (γ o)/\y<=l.length:=by
  rcases O with⟨H,hl0⟩|⟨g,b,Q,I,hg0,hh,S,W,hsz,htake⟩
  .have H:γ o=.slice none 0 0:=H;obtain⟨hr,K,E⟩:=AL (P:=P) h (len:=l.length) (cap:=0) fC U J true;have F:y=0:=fC;refine⟨.slice none 0 0,?_,?_,by rw[H],E⟩
   .rw[H];simp only[aR3]at hr;rw[hl0]at hr;simp[Instr.sliceAt,Instr.slice,aQS,aQI hu.1 w,hr,(A f te he).run_sizeOf,F]
   grind
  .have I:γ o=.slice (some ⟨g,0,none⟩) l.length b:=I;obtain⟨hr,K,E⟩:=AL (P:=P) h (len:=l.length) (cap:=b) S U J true;have n:y*r.len<=l.length*r.len:=aQy _ E;refine⟨.slice (some ⟨g,0,none⟩) y b,?_,⟨?_,.inr ⟨g,b,Q,rfl,hg0,hh,aQn E S,W,hsz,?_⟩⟩,by rw[I];rfl,E⟩
   .rw[I];simp only[aR3]at hr;simp only[Instr.sliceAt,Instr.slice,aQS,aQI hu.1 w,aRn,hr,(A f te he).run_sizeOf];simp[addr_add]
   · grind
   grind
 obtain⟨u,hrun,s,hblk,hyl⟩:=key;have X:=awv s;obtain⟨hR,_⟩:=h.replace (w':=w) (o:=o) (v':=u) (x':=.arr e r (l.take y) fr) (blk (γ o)) (.inr ⟨_,ho,rfl⟩) rfl rfl rfl (aQp _) (λ_ _ _=>rfl)
  (λg I=>⟨.inl jv,(h.lt o _ g ho jv).1⟩) (λ_ e=>y5) (λle=>by
    have L:(l.take y).length=y:=jv;refine⟨xs.take (y*r.len),?_,Y,?_,λi z D=>?_⟩
    · grind [upd_same]
    · grind [upd_same]
    .have hil:i<y:=jv;have n:i*r.len+r.len<=y*r.len:=by
      have:(i+1)*r.len<=y*r.len:=aQy _ hil
      grind
     rw[aRt,if_pos hil]at D;rw[jV _ _ _ _ n];exact dD.mono (λc N=>le.fG _ c N) _ _ z (Z i z D))
 exact⟨u,_,hrun,hR,⟨e,r,_,_,add_same _ _ _⟩,(upd_same _ _ _).symm,X.1⟩
variable {next:Act->World->Prop}{Q:Exit->Act->World->Prop}
theorem aww(D:Ad P G Θ Γ w0 M)(h:Rel w0 M T γ st a w)(o:Oper){d:Nat}{v:AV}{s:St}
 (N:eff Θ Γ d st o.op=some (p,v,s)) (J:p)  
 (H:∀u γ' w',Rel w0 M T γ' s a w'->dB (aI w0 T γ' s w') v u->next (a.put o.dst u) w'):o.wp P a w next Q:=by
 cases g:o.op<;>rw[g]at N<;>try (simp only[eff,reduceCtorEq]at N;done)
 case store t x y=>
  simp only[eff]at N;split at N
  .next sv ti hev ht=>
   split at N
   .next hlen=>
    split at N
    .next q s' hs=>
     cases N;have Y:=h.freeze (LU (st.ev x) sv);have F:=lQ h y;rw[hev]at F;have hpv:=dB.freeze (LU (st.ev x) sv) h _ _ (lQ h x);have X:=ig.freeze (LU (st.ev x) sv) h _ _ F;have hl2:(sv.freeze st (LU (st.ev x) sv)).cells.length=ti.cells.len:=by
      have C:=aC.length _ _ (ig.cells _ _ X);have O:=aC.length _ _ (ig.cells _ _ F)
      simp_all
     obtain⟨w',hr,A⟩:=awr (P:=P) D.types Y ht hs J hpv X hl2;have hr2:(execOp a.eval o).run P w=.ok .skip w':=by
      simp_all [execOp]
     unfold Oper.wp;rw[hr2];exact H undef γ w' A trivial
    .cases N
   .cases N
  .cases N
 case buildSlice t len parts=>
  simp only[eff]at N;split at N
  .next q E δ hcalm=>
   split at N
   .next hfr=>cases N;exact XD D (h.freeze ((su st parts.toList).contains ·)) o (by rw[g];exact hcalm) J hfr H
   .cases N
  .cases N
 case slice t x lo hi mx=>
  cases mx with
  |some m=>grind [eff]
  |none=>
   cases lo with
   |none=>
    simp only[eff]at N;split at N
    .next ti r ht hev=>
     have Z:=ve h hev;split at N
     .next f e rr l fr hk ho=>
      split at N
      .next te q i j he hb=>
       split at N
       .next hbeq=>
        cases N;obtain⟨u,γ',hr,A,R⟩:=azk (P:=P) D.types h ht hk he ho Z hb J;refine Oper.rQ (u:=u) (w':=w) ?_ (H u γ' w A R)
        simp_all [execOp]
       .cases N
      .cases N
     .cases N
    .cases N
   |some l0=>
    simp only[eff]at N;split at N
    .next ti r ht hev=>
     split at N
     .next f e rr l fr hk ho=>
      split at N
      .next te q i j he hb=>
       split at N
       .next hbeq=>
        split at N
        .next q' E hq=>cases N;exact XD (δ:=[]) D (h.freeze (Nat.beq r ·)) o (by rw[g];exact hq) J rfl H
        .cases N
       .cases N
      .cases N
     .cases N
    .cases N
 case call c=>
  obtain⟨callee,args,xq⟩:=c;cases callee with
  |invoke r m=>grind [eff]
  |builtin b=>
   cases b<;>try (simp only[eff,reduceCtorEq]at N;done)
   case append=>
    simp only[eff]at N;split at N
    .next sx x t u hargs auj=>
     split at N
     .next ti c y z ht hes hex=>
      have z:=aQq z;subst z;have W:args.map a.eval=#[a.eval sx,a.eval x]:=NJ;have B:xq=#[t,t]:=jv;have L:execOp a.eval o=(do pure (Next.value (← Builtin.append_ #[t,t] o.type #[a.eval sx,a.eval x]))):=by rw[GY g,W,B];rfl
      have C:=ve h hes;have O:=ve h hex;split at N
      .next e hk=>
       split at N
       .next te he=>
        split at N
        .next news r hget=>
         split at N
         .next f rr l fr ho=>
          split at N
          .next hbeq=>
           split at N
           .next U=>cases N;have U:=aQq U;subst U;obtain⟨E,w',γ',hr,A,R⟩:=axL (P:=P) (ty:=o.type) D.types h ht hk he ho hbeq C O hget J;exact Oper.rQ x9 (H E γ' w' A R)
           .cases N
          .cases N
         .cases N
        .next news hget=>
         split at N
         .next aek=>cases N;have hs0:a.eval sx=.slice none 0 0:=C;obtain⟨E,w',γ',hr,A,R⟩:=als (P:=P) (ty:=o.type) D.types h ht hk he (d*64+1) (aRk aek) O hget J;exact Oper.rQ x9 (H E γ' w' A R)
         .cases N
        .cases N
       .cases N
      .cases N
     .next ti o1 QN n0 o2 lo2 n2 z ht hes hex=>
      have z:=aQq z;subst z;have W:args.map a.eval=#[a.eval sx,a.eval x]:=NJ;have B:xq=#[t,t]:=jv;have L:execOp a.eval o=(do pure (Next.value (← Builtin.append_ #[t,t] o.type #[a.eval sx,a.eval x]))):=by rw[GY g,W,B];rfl
      obtain⟨E,w',hr,A,R⟩:=alr (P:=P) (ty:=o.type) D.types h ht hes hex N J;exact Oper.rQ x9 (H E γ w' A R)
     .cases N
    .cases N
   case clear=>
    simp only[eff]at N;split at N
    .next x t hargs auj=>
     split at N
     .next ti o1 lo n ht hev=>
      have W:args.map a.eval=#[a.eval x]:=NJ;have B:xq=#[t]:=jv;have L:execOp a.eval o=(do pure (Next.value (← Builtin.clear_ #[t] o.type #[a.eval x]))):=by rw[GY g,W,B];rfl
      obtain⟨E,w',hr,A,R⟩:=an9 (P:=P) (ty:=o.type) D.types h ht hev N J;exact Oper.rQ x9 (H E γ w' A R)
     .cases N
    .cases N
  |value x=>
   simp only[eff]at N;split at N
   .next f caps Z=>
    have R:=lQ h x;rw[Z]at R;obtain⟨us,hvx,hkx⟩:=R;split at N
    .next con hcon=>
     split at N
     .next vs hargs hrefs=>
      split at N
      .next q out hq=>
       split at N
       .next hfr=>cases N;have Y:=h.freeze (ayX st args.toList caps);obtain⟨hok,S⟩:=D.cons f con hcon;unfold Oper.wp;rw[aav g hvx S,aSt];have I:=JQ Y (γ0:=λ_=>undef) _ _ vs hargs hrefs (vC.freeze _ h _ _ (Si h hkx args.toList));rw[← aSa,← aSi]at I;refine(hok vs _ out (d*64+1) _ (args.map a.eval++us) w hq J (D.at h) I).mono ?_;rintro e w' ⟨u,vals,rfl,C,O,K,h4,h5,h6,h7,h8⟩;obtain⟨γ',g1,g2⟩:=Y.called fC hfr C O K h4 h5 (.inr rfl) h6 h7 h8;exact H u γ' w' g1 g2
       .cases N
      .cases N
     .cases N
    .cases N
   .cases N
theorem aFi(Y:Ad P G Θ Γ w0 M)(h:Rel w0 M T γ st a w)(o:Oper){d:Nat}{g:YI}{s0:St}
 (N:aqd Γ st o.op=some (p,g,os,s0)) (J:p) (hch:∀t,g.R t->∃r,akK d s0 os (g.out t) (g.bP t)=some r)  
 (H:∀t v s u γ' w',g.R t->akK d s0 os (g.out t) (g.bP t)=some (v,s)->Rel w0 M T γ' s a w'->dB (aI w0 T γ' s w') v u->next (a.put o.dst u) w'):o.wp P a w next Q:=by
 unfold aqd at N;split at N
 case h_2=>cases N
 next x args xq L=>
 split at N
 case h_2=>cases N
 next f b Z=>
 have R:=lQ h x;rw[Z]at R;obtain⟨n,S,F⟩:=R;split at N
 case h_2=>cases N
 next l D z=>
 split at N
 case h_2=>cases N
 next I os' C=>
 split at N
 case h_2=>cases N
 next q ρ' hq=>
 cases N;have hF:=h.freeze (akJ st l args.toList b);obtain⟨A,m⟩:=Y.ayC f l D z;unfold Oper.wp;rw[aav L S m,aSt];have U:vC (aI w0 T γ (YJ st l args.toList b) w) (aFd st l args.toList b) (args.map a.eval++n).toList:=by rw[aSi,aSa];exact vC.freeze (akJ st l args.toList b) h _ _ (Si h F args.toList)
 have j:(d*64+1)%64=1:=fC;have i:∀t,g.R t->∃y,(GU os=true/\VT (g.bP t) ((g.out t).take (d*64+1)).2=true)/\vN (YJ st l args.toList b) os (g.bP t)=some y/\nR ((YJ st l args.toList b).kill (mJ os (g.bP t))) ((g.out t).take (d*64+1)).2=true/\
  akK d (YJ st l args.toList b) os (g.out t) (g.bP t)=some (((g.out t).take (d*64+1)).1,(((YJ st l args.toList b).kill (mJ os (g.bP t))).adds y).adds ((g.out t).take (d*64+1)).2):=by
  grind [akK]
 obtain⟨t0,O⟩:=(A I _ g hq J).1;obtain⟨_,⟨K,_⟩,_⟩:=i t0 O;refine(hF.aCD Y U (ael l _ I os C) K j A hq J λt B=>?_).mono ?_
 .obtain⟨y,g1,g2,E,_⟩:=i t B;exact⟨y,g2,E,g1.2⟩
 .rintro e w' ⟨t,y,B,hb,u,γ',rfl,g1,g2⟩;obtain⟨X,_,E,_,g4⟩:=i t B;have W:X=y:=Option.some.inj (E.symm.trans hb);subst W;exact H t _ _ u γ' w' B g4 g1 g2
theorem aDE(b:Ad P G Θ Γ w0 M)(h:Rel w0 M T γ st a w)(o:Oper){d:Nat}{v:AV}{s:St}
 (N:oper Θ Γ d st o.op=some (p,v,s)) (J:p)  
 (H:∀u γ' w',Rel w0 M T γ' s a w'->dB (aI w0 T γ' s w') v u->next (a.put o.dst u) w'):o.wp P a w next Q:=by
 grind [oper,XD,aww]
end Go.Fw
namespace Go.Fw
open Go
structure St.more(st s:St):Prop where
 tmps:∀t,st.tmps t=.undef\/s.tmps t=st.tmps t
 ak:∀o x,st.ak o=some x->s.ak o=some x
variable {st s:St} {Θ:mD} {Γ:nI}
theorem Yo(h:st.more s)(x:Operand):st.ev x=.undef\/s.ev x=st.ev x:=by
 cases x with
 |tmp t=>exact h.tmps t
 |const v=>exact .inr rfl
 |global g=>exact .inr rfl
 |func f=>exact .inr rfl
theorem eY(h:st.more s){x:Operand}{v:AV}(e:st.ev x=v)(R:v≠ .undef):s.ev x=v:=by
 grind [Yo]
theorem yP(h:st.more s){x:Operand}{n:Int}(e:CU (st.ev x)=some n):CU (s.ev x)=some n:=by
 rcases Yo h x with C|C
 .rw[C]at e;cases e
 grind
theorem aod(h:st.more s):∀(c:CT)(x:Cell)(d:c.den),x.get st c=some d->x.get s c=some d:=by
 intro c x d a;cases c<;>cases x<;>simp only[Cell.get]at a ⊢<;>try exact a
 case sl.ref e r o=>
  split at a
  .next e' r' l fr ho=>rw[h.ak o _ ho];exact a
  .cases a
theorem amN(h:st.more s):∀(r:aP)(A:List Cell)(d:r.den),Jy st r A=some d->Jy s r A=some d
 |.nil,[],_,hg=>hg
 |.nil,_::_,_,hg=>by grind [Jy]
 |.cons _ _,[],_,hg=>by grind [Jy]
 |.cons c r,x::xs,d,hg=>by
  rw[Jy]at hg ⊢;split at hg
  .next a b ha hb=>rw[aod h c x a ha,amN h r xs b hb];exact hg
  .cases hg
theorem aid(h:st.more s)(fs:List (Nat×TypeId)):∀(b:List (Nat×Operand))(A a:List Cell),UK Θ st fs b A=some a->UK Θ s fs b A=some a
 |[],_,_,hb=>hb
 |(i,x)::r,A,a,hb=>by
  rw[UK]at hb ⊢;split at hb
  .next off t v hf hev=>
   rw[hf,eY h hev ni];dsimp only;split at hb
   .next ti ht=>
    split at hb
    .next hle=>exact aid h fs r _ a hb
    .cases hb
   .cases hb
  .cases hb
theorem amO(h:st.more s)(r:aP):∀(a:List (Nat×Operand))(k:Nat)(l:List r.den),OO st r k a=some l->OO s r k a=some l
 |[],_,_,hb=>hb
 |(i,x)::a,k,l,hb=>by
  rw[OO]at hb ⊢;split at hb
  .next v l' hik hev hl=>
   rw[hik,eY h hev ni,amO h r a (k+1) l' hl]
   grind [amN]
  .cases hb
theorem aie(r:aP):∀(a:List (Nat×Operand))(k:Nat)(l:List r.den),OO st r k a=some l->∀x∈a,∃v,st.ev x.2=.sv v
 |[],_,_,_,x,Z=>vk
 |(i,y)::a,k,l,hb,x,Z=>by
  rw[OO]at hb;split at hb
  .next v l' hik hev hl=>
   rcases aQt.1 Z with rfl|Z
   .exact⟨v,hev⟩
   .exact aie r a (k+1) l' hl x Z
  .cases hb
theorem acs(h:st.more s):∀(a:List (Nat×Operand)),(∀x∈a,∃v,st.ev x.2=.sv v)->su s a=su st a
 |[],_=>rfl
 |(i,x)::a,hk=>by obtain⟨v,R⟩:=hk (i,x) aQr;rw[su,su,acs h a (λy F=>hk y (aQo _ F)),eY h R ni,R]
theorem aBH:∀(c:Cell),c.refs=[]->c.fresh s=c.fresh st
 |.int _ _,_|.bool _,_|.str _,_|.nil,_|.sl _ _ _ _,_|.junk,_=>rfl
 |.ref _,h=>o5
theorem awx:∀(A:List Cell),A.flatMap Cell.refs=[]->A.all (Cell.fresh s)=A.all (Cell.fresh st)
 |[],_=>rfl
 |c::A,h=>by rw[aRf,aQV]at h;rw[aRK,aRK,aBH c h.1,awx A h.2]
theorem aay(h:st.more s):∀(a:List (Nat×Operand)),(∀x∈a,∃v,st.ev x.2=.sv v)->su st a=[]->tY s a=tY st a
 |[],_,_=>rfl
 |(i,x)::a,hk,hr=>by obtain⟨v,R⟩:=hk (i,x) aQr;rw[su,aQV,R]at hr;rw[tY,tY,aay h a (λy F=>hk y (aQo _ F)) hr.2,eY h R ni,R];dsimp only;rw[awx v.cells hr.1]
theorem aFj(h:st.more s):∀(c:Cell),c.ok st=true->c.view s=c.view st/\c.ok s=true
 |.int _ _,_|.bool _,_|.str _,_|.nil,_|.sl _ _ _ _,_|.junk,_=>⟨rfl,rfl⟩
 |.ref o,hk=>by
  simp only[Cell.ok]at hk;split at hk
  .next e r l fr ho=>exact⟨by simp only[Cell.view,ho,h.ak o _ ho],by simp only[Cell.ok,h.ak o _ ho]⟩
  .cases hk
theorem XH(h:st.more s):∀(A:List Cell),A.all (Cell.ok st)=true->A.map (Cell.view s)=A.map (Cell.view st)/\A.all (Cell.ok s)=true
 |[],_=>⟨rfl,rfl⟩
 |c::A,hk=>by rw[aRK,aQm]at hk;obtain⟨C,O⟩:=aFj h c hk.1;obtain⟨K,x⟩:=XH h A hk.2;exact⟨by rw[aQB,aQB,C,K],by rw[aRK,O,x];rfl⟩
theorem aBI(h:st.more s)(v:SV)(j:v.cells.all (Cell.ok st)=true):v.view s=v.view st/\v.cells.all (Cell.ok s)=true:=by
 obtain⟨C,O⟩:=XH h v.cells j;cases v with
 |one c=>grind [SV.cells,SV.view]
 |agg cs=>grind [SV.cells,SV.view]
theorem JR(h:st.more s):∀(q:List AV)(I:List Arg),wI st q=some I->wI s q=some I
 |[],_,hv=>hv
 |x::q,I,hv=>by
  unfold wI at hv ⊢;split at hv
  .next v us hu=>
   rw[JR h q us hu];split at hv
   .next hk=>obtain⟨C,O⟩:=aBI h v hk;dsimp only;rw[O,C];exact hv
   .cases hv
  .next cs off us hu=>
   rw[JR h q us hu];split at hv
   .next hk=>
    rw[aQm]at hk;obtain⟨C,O⟩:=XH h cs hk.2
    grind
   .cases hv
  .next f a us hu=>
   rw[JR h q us hu];split at hv
   .next hk=>
    have b:∀(a:List (List Cell)),a.all (List.all · (Cell.ok st))=true->a.map (List.map (Cell.view s))=a.map (List.map (Cell.view st))/\a.all (List.all · (Cell.ok s))=true:=by
     intro a
     induction a with
     |nil=>grind
     |cons cs l ih=>
      grind [XH]
    grind
   .cases hv
  .cases hv
theorem Sm:∀(q:List AV)(I:List Arg),wI st q=some I->∀x∈q,x≠ .undef
 |[],_,_,x,Z=>vk
 |y::q,I,hv,x,Z=>by
  unfold wI at hv;split at hv
  .next v us hu=>
   rcases aQt.1 Z with rfl|Z
   .simp
   .exact Sm q us hu x Z
  .next cs off us hu=>
   rcases aQt.1 Z with rfl|Z
   .simp
   .exact Sm q us hu x Z
  .next f caps us hu=>
   rcases aQt.1 Z with rfl|Z
   .simp
   .exact Sm q us hu x Z
  .cases hv
theorem abw(h:st.more s)(a:List (List Cell)):∀(q:List Operand),(∀x∈handed st q a,x≠ .undef)->handed s q a=handed st q a
 |[],_=>rfl
 |x::q,hk=>by have C:s.ev x=st.ev x:=eY h rfl (hk _ aQr);have O:=abw h a q λy F=>hk y (aQo _ F);show s.ev x::handed s q a=st.ev x::handed st q a;rw[C,O]
theorem amP(h:st.more s):∀(q:List Operand)(l:List (List Cell)),heldBy st q=some l->heldBy s q=some l
 |[],_,hl=>hl
 |x::q,l,hl=>by
  rw[heldBy]at hl ⊢;split at hl
  .next cs off l' hx hl'=>rw[eY h hx ni,amP h q l' hl'];exact hl
  .cases hl
theorem aen(h:st.more s)(len:Nat)(a D:Option Operand){r:Prop×Nat×Nat}(U:sD st len a D=some r):sD s len a D=some r:=by
 cases a<;>cases D<;>simp only[sD]at U ⊢
 .exact U
 · grind [yP]
 · grind [yP]
 grind [yP]
def AV.less(v v':AV):Prop:=v=.undef\/v'=v
theorem aBJ(h:st.more s){n room:Nat}{a D:Option Operand}{r:Prop×Nat×Nat}(U:ahX st n room a D=some r):ahX s n room a D=some r:=by cases D<;>simp only[ahX]at U ⊢<;>exact aen h _ _ _ U
theorem aFk(h:st.more s)(d:Nat)(o:Op){p:Prop}{v:AV}{δ:List (Nat×bD)}(hc:calm Θ Γ d st o=some (p,v,δ)):
 ∃v',calm Θ Γ d s o=some (p,v',δ)/\v.less v':=by
 have same:∀{r:Option (Prop×AV×List (Nat×bD))},r=some (p,v,δ)->calm Θ Γ d s o=r->∃v',calm Θ Γ d s o=some (p,v',δ)/\v.less v':=
  λh1 h2=>⟨v,h2.trans h1,.inr rfl⟩
 cases o<;>try (simp only[calm,reduceCtorEq]at hc;done)
 case move x=>simp only[calm]at hc ⊢;cases hc;exact⟨_,rfl,Yo h x⟩
 case assign x=>simp only[calm]at hc ⊢;cases hc;exact⟨_,rfl,Yo h x⟩
 case pick c x y=>
  simp only[calm]at hc ⊢;split at hc
  .next g hg=>
   cases hc;rw[eY h hg ni];refine⟨_,rfl,?_⟩;cases g
   .exact Yo h y
   .exact Yo h x
  .cases hc
 case nilCheck x=>
  simp only[calm]at hc ⊢;split at hc
  .next a b e=>rw[eY h e ni];exact⟨v,hc,.inr rfl⟩
  .next a b c e=>rw[eY h e ni];exact⟨v,hc,.inr rfl⟩
  .next a b c d e=>rw[eY h e ni];exact⟨v,hc,.inr rfl⟩
  .next a b e=>rw[eY h e ni];exact⟨v,hc,.inr rfl⟩
  .next a b e=>rw[eY h e ni];exact⟨v,hc,.inr rfl⟩
  .cases hc
 case makeFunc fn first captured=>
  cases fn<;>try (simp only[calm,reduceCtorEq]at hc;done)
  case func f=>
   simp only[calm]at hc ⊢;split at hc
   .next l hfirst hl=>rw[amP h _ _ hl,hfirst];exact⟨v,hc,.inr rfl⟩
   .cases hc
 case alloc t=>exact⟨v,hc,.inr rfl⟩
 case box t x=>
  simp only[calm]at hc ⊢;split at hc
  .next a e=>rw[eY h e ni];exact⟨v,hc,.inr rfl⟩
  .cases hc
 case build t parts=>
  simp only[calm]at hc ⊢;split at hc
  .next ti ht=>
   split at hc
   .next fs hk=>
    split at hc
    .next cs hb=>rw[aid h _ _ _ _ hb];exact⟨v,hc,.inr rfl⟩
    .cases hc
   .cases hc
  .cases hc
 case buildSlice t len parts=>
  simp only[calm]at hc ⊢;split at hc
  .next ti ht=>
   split at hc
   .next e hk=>
    split at hc
    .next te he=>
     split at hc
     .next l hb hrefs hrows=>have hkn:=aie _ _ _ _ hrows;rw[hb,acs h _ hkn,hrefs,amO h _ _ _ _ hrows,aay h _ hkn hrefs];exact⟨v,hc,.inr rfl⟩
     .cases hc
    .cases hc
   .cases hc
  .cases hc
 case makeSlice t x y=>
  simp only[calm]at hc ⊢;split at hc
  .next ti n c ht hn hcc=>rw[ht,yP h hn,yP h hcc];exact⟨v,hc,.inr rfl⟩
  .cases hc
 case load t x=>
  simp only[calm]at hc ⊢;split at hc
  .next ti o off ht he=>
   rw[ht,eY h he ni];split at hc
   .next cs ho=>dsimp only;rw[h.ak o _ ho];exact⟨v,hc,.inr rfl⟩
   .cases hc
  .next ti o i off ht he=>
   rw[ht,eY h he ni];split at hc
   .next e r l fr ho=>dsimp only;rw[h.ak o _ ho];exact⟨v,hc,.inr rfl⟩
   .cases hc
  .next ti r y off fr ht he=>rw[ht,eY h he ni];exact⟨v,hc,.inr rfl⟩
  .next ti cs off ht he=>rw[ht,eY h he ni];exact⟨v,hc,.inr rfl⟩
  .cases hc
 case fieldAddr t x f=>
  simp only[calm]at hc ⊢;split at hc
  .next ti ht=>
   split at hc
   .next fs hk=>
    split at hc
    .next k t hf=>
     split at hc
     .next te hte=>
      split at hc
      .cases hc
      .next a b e hne=>rw[eY h e ni];cases hcell:te.cells with|nil=>grind|cons _ _=>exact⟨v,hc,.inr rfl⟩
      .next a b c e hne=>rw[eY h e ni];cases hcell:te.cells with|nil=>grind|cons _ _=>exact⟨v,hc,.inr rfl⟩
      .next a b c d e hne=>rw[eY h e ni];cases hcell:te.cells with|nil=>grind|cons _ _=>exact⟨v,hc,.inr rfl⟩
      .next a b e hne=>rw[eY h e ni];cases hcell:te.cells with|nil=>grind|cons _ _=>exact⟨v,hc,.inr rfl⟩
      .cases hc
     .cases hc
    .cases hc
   .cases hc
  .cases hc
 case field t x f=>
  simp only[calm]at hc ⊢;split at hc
  .next ti ht=>
   split at hc
   .next fs hk=>
    split at hc
    .next k t cs hf e=>rw[hf,eY h e ni];exact⟨v,hc,.inr rfl⟩
    .cases hc
   .cases hc
  .cases hc
 case indexAddr t x ix=>
  simp only[calm]at hc ⊢;split at hc
  .next ti n ht hn=>
   rw[ht,yP h hn]
   try dsimp only
   split at hc
   .next e hk=>
    split at hc
    .next te e' r l fr he hev=>rw[he,eY h hev ni];exact⟨v,hc,.inr rfl⟩
    .next te o he hev=>
     rw[he,eY h hev ni]
     try dsimp only
     split at hc
     .next a b c d ho=>rw[h.ak o _ ho];exact⟨v,hc,.inr rfl⟩
     .cases hc
    .next te he hev=>rw[he,eY h hev ni];exact⟨v,hc,.inr rfl⟩
    .cases hc
   .cases hc
  .cases hc
 case index t x ix=>
  simp only[calm]at hc ⊢;split at hc
  .next ti n b ht hn hev=>rw[ht,yP h hn,eY h hev ni];exact⟨v,hc,.inr rfl⟩
  .cases hc
 case binOp op t x y t'=>
  simp only[calm]at hc ⊢;split at hc
  .next a b e1 e2=>rw[eY h e1 ni,eY h e2 ni];exact⟨v,hc,.inr rfl⟩
  .next a b e1 e2=>rw[eY h e1 ni,eY h e2 ni];exact⟨v,hc,.inr rfl⟩
  .cases hc
 case unOp op t x=>
  simp only[calm]at hc ⊢;split at hc
  .next b e=>rw[eY h e ni];exact⟨v,hc,.inr rfl⟩
  .next k n e=>rw[eY h e ni];exact⟨v,hc,.inr rfl⟩
  .cases hc
 case convert a b x=>
  simp only[calm]at hc ⊢;split at hc
  .next ts td c hs hd e=>
   rw[hs,hd,eY h e ni]
   try dsimp only
   split at hc
   .cases hc
   .next hagg=>
    rw[if_neg hagg];split at hc
    .exact⟨v,hc,.inr rfl⟩
    .exact⟨v,hc,.inr rfl⟩
    .exact⟨v,hc,.inr rfl⟩
    .next e' c' e1 e2=>
     split at hc
     .next l te hl hte=>rw[aod h _ _ _ hl,hte];exact⟨v,hc,.inr rfl⟩
     .cases hc
    .cases hc
  .cases hc
 case extract x i=>
  simp only[calm]at hc ⊢;split at hc
  .next a e=>rw[eY h e ni];exact⟨v,hc,.inr rfl⟩
  .cases hc
 case slice t x lo hi mx=>
  cases mx with
  |some m=>
   cases lo with
   |none=>simp only[calm,reduceCtorEq]at hc
   |some lo=>
    cases hi with
    |none=>simp only[calm,reduceCtorEq]at hc
    |some hi=>
     simp only[calm]at hc ⊢;split at hc
     .next ti o ht e=>
      rw[ht,eY h e ni]
      try dsimp only
      split at hc
      .next f e' r l fr hk ho=>
       split at hc
       .next te n1 n2 n3 he h1 h2 h3=>rw[hk,h.ak o _ ho];dsimp only;rw[he,yP h h1,yP h h2,yP h h3];exact⟨v,hc,.inr rfl⟩
       .cases hc
      .cases hc
     .cases hc
  |none=>
   simp only[calm]at hc ⊢;split at hc
   .next ti b ht e=>
    rw[ht,eY h e ni]
    try dsimp only
    split at hc
    .next p' x' y' hk hb=>rw[hk,aen h _ _ _ hb];exact⟨v,hc,.inr rfl⟩
    .cases hc
   .next ti e' r l fr ht e=>
    rw[ht,eY h e ni]
    try dsimp only
    split at hc
    .next f p' x' y' hk hb=>rw[hk,aen h _ _ _ hb];exact⟨v,hc,.inr rfl⟩
    .cases hc
   .next ti ht e=>
    rw[ht,eY h e ni]
    try dsimp only
    split at hc
    .next f p' x' y' hk hb=>rw[hk,aen h _ _ _ hb];exact⟨v,hc,.inr rfl⟩
    .cases hc
   .next ti o QN n0 ht e=>
    rw[ht,eY h e ni]
    try dsimp only
    split at hc
    .next f e' r l fr hk ho=>
     split at hc
     .next te p' x' y' he hb=>rw[hk,h.ak o _ ho];dsimp only;rw[he,aBJ h hb];exact⟨v,hc,.inr rfl⟩
     .cases hc
    .cases hc
   .cases hc
 case call c=>
  obtain⟨callee,args,xq⟩:=c;cases callee with
  |invoke r m=>simp only[calm,reduceCtorEq]at hc
  |builtin b=>
   cases b<;>try (simp only[calm,reduceCtorEq]at hc;done)
   case len=>
    simp only[calm]at hc ⊢;split at hc
    .next x t hargs auj=>
     split at hc
     .next ti c ht e=>
      rw[ht,eY h e ni]
      try dsimp only
      split at hc
      .next b hk=>exact⟨v,hc,.inr rfl⟩
      .next a b c d e hk=>exact⟨v,hc,.inr rfl⟩
      .next a hk=>exact⟨v,hc,.inr rfl⟩
      .next a o hk=>
       split at hc
       .next e' r l fr ho=>rw[h.ak o _ ho];exact⟨v,hc,.inr rfl⟩
       .cases hc
      .cases hc
     .next ti o lo n ht e=>rw[ht,eY h e ni];exact⟨v,hc,.inr rfl⟩
     .cases hc
    .cases hc
   case min=>
    simp only[calm]at hc ⊢;split at hc
    .next x y hargs=>
     split at hc
     .next a b c d e1 e2=>rw[eY h e1 ni,eY h e2 ni];exact⟨v,hc,.inr rfl⟩
     .cases hc
    .cases hc
   case max=>
    simp only[calm]at hc ⊢;split at hc
    .next x y hargs=>
     split at hc
     .next a b c d e1 e2=>rw[eY h e1 ni,eY h e2 ni];exact⟨v,hc,.inr rfl⟩
     .cases hc
    .cases hc
  |value x=>
   simp only[calm]at hc ⊢;split at hc
   .next f caps hx=>
    rw[eY h hx ni];dsimp only;split at hc
    .next con vs hcon hargs=>rw[hcon,abw h caps _ (Sm _ _ hargs),JR h _ _ hargs];exact⟨v,hc,.inr rfl⟩
    .cases hc
   .cases hc
end Go.Fw
namespace Go.Fw
open Go
variable {P:Program} {w0:World} {M:Nat->Prop} {T:Ext} {γ γ':Nat->Value} {st:St} {a:Act} {w w':World} {Θ:mD} {Γ:nI}
def numOf(st:St)(o:Oper):Nat:=match o.dst with|some d=>d|none=>st.n
def aJq(d o:Nat):Bool:=Nat.beq (o / 64) d
def aLb(d o:Nat):Bool:=Nat.beq (o / 64) d&&!(Nat.beq (o%64) 0)
def makes:Op->Bool
 |.alloc _|.box _ _|.buildSlice _ _ _|.makeSlice _ _ _=>true
 |.call {callee:=.value _,.. }=>true
 |_=>false
def azl:Op->Bool
 |.buildSlice _ _ _|.makeSlice _ _ _=>true
 |.call {callee:=.value _,.. }=>true
 |_=>false
def aDF(Θ:mD)(Γ:nI)(d:Nat)(st:St)(op:Op):Option (Prop×AV×St):=
 match oper Θ Γ d st op with
 |some r=>some r
 |none=>match makes op with
  |true=>oper Θ Γ d (st.kill (aJq d)) op
  |false=>none
def quiet(st:St):Op->Bool
 |.move _|.assign _|.nilCheck _|.pick _ _ _|.alloc _|.box _ _|.build _ _|.buildSlice _ _ _|.fieldAddr _ _ _|.field _ _ _|.unOp _ _ _|.convert _ _ _|.extract _ _|.makeFunc _ _ _=>true
 |.call {callee:=.builtin .len,.. }|.call {callee:=.builtin .min,.. }|.call {callee:=.builtin .max,.. }=>true
 |.load _ p=>match st.ev p with|.uG _ _ _=>false|_=>true
 |.store _ p _=>match st.ev p with|.aZ _ _=>true|_=>false
 |.binOp op _ x _ _=>match op with
  |.quo|.rem|.shl|.shr=>false
  |.add=>match st.ev x with|.sv (.one (.str _))=>false|_=>true
  |_=>true
 |_=>false
variable {op:BinOp}{p:Prop}
theorem azm{k:IntKind}{x y:Int}{c:Cell}(h:ack op k x y=some (p,c))(C:op≠ .quo)(O:op≠ .rem):p:=by cases op<;>simp only[ack,reduceCtorEq]at h<;>first|(cases h;trivial)|exact(C rfl).elim|exact(O rfl).elim
theorem azn{x y:Bytes}{c:Cell}(h:ahV op x y=some (p,c))(C:op≠ .add):p:=by cases op<;>simp only[ahV,reduceCtorEq]at h<;>first|(cases h;trivial)|exact(C rfl).elim
theorem axM{x y:Cell}{c:Cell}(h:acn op x y=some (p,c))(C:op≠ .quo)(O:op≠ .rem)(K:op≠ .shl)(b:op≠ .shr)
 (d:op=.add->∀s,x≠ .str s):p:=by
 unfold acn at h;split at h
 .split at h
  · grind
  · grind
  grind [azm]
 · grind [azn]
 .split at h
  · grind
  · grind
  .cases h
 .cases h
theorem aeo{d:Nat}{op:Op}{v:AV}{δ:List (Nat×bD)}(N:calm Θ Γ d st op=some (p,v,δ))(u:quiet st op=true):p:=by
 cases op<;>try (simp only[calm,reduceCtorEq]at N;done)
 case binOp op t x y t'=>
  simp only[calm]at N;split at N
  .next a b e1 e2=>
   split at N
   .split at N
    .next q c hb=>
     cases N;refine axM hb ?_ ?_ ?_ ?_ ?_
     · grind [quiet]
     · grind [quiet]
     · grind [quiet]
     · grind [quiet]
     grind [quiet]
    .cases N
   .cases N
  · grind
  .cases N
 case load t x=>
  simp only[calm]at N;split at N
  · grind
  · grind [quiet]
  · grind
  · grind
  .cases N
 case call c=>
  obtain⟨callee,args,xq⟩:=c;cases callee with
  |invoke r m=>simp only[calm,reduceCtorEq]at N
  |builtin b=>
   cases b<;>first
    |(simp only[calm,reduceCtorEq]at N;done)
    |(simp only[calm]at N
      grind)
  |value x=>grind [quiet]
 all_goals first
  |(simp[quiet]at u;done)
  |(simp only[calm]at N
    repeat' (first|(cases N;done)|(cases N;trivial)|(split at N)))
theorem aBK{b:AV}{v:SV}{q:Prop}{s:St}(h:store st b v=some (q,s))(R:∀o i m,b≠ .uG o i m):q:=by
 unfold store at h;split at h
 · grind
 · grind
 .cases h
theorem aFl{d:Nat}{op:Op}{v:AV}{s:St}(N:eff Θ Γ d st op=some (p,v,s))(u:quiet st op=true):p:=by
 cases op<;>try (simp only[eff,reduceCtorEq]at N;done)
 case store t pt x=>
  grind [eff,aBK,AV.freeze,quiet]
 case buildSlice t n parts=>
  simp only[eff]at N;split at N
  .next q v' δ hcalm=>
   split at N
   .cases N;exact aeo hcalm rfl
   .cases N
  .cases N
 case slice t x lo hi mx=>grind [quiet]
 case call c=>
  obtain⟨callee,args,xq⟩:=c;cases callee with
  |invoke r m=>grind [eff]
  |builtin b=>cases b<;>first|(simp only[eff,reduceCtorEq]at N;done)|grind [quiet]
  |value x=>grind [quiet]
theorem aql{d:Nat}{op:Op}{v:AV}{s:St}(N:oper Θ Γ d st op=some (p,v,s))(u:quiet st op=true):p:=by
 grind [oper,aeo,aFl]
def aMk:Op->Bool|.box _ _=>true|_=>false
def aCE(own:Nat->Bool)(d:Nat)(o:Oper)(v:AV)(s:St):St:=
 match azl o.op&&!(own d)&&((s.ak (d*64+1)).isSome||(s.ak (d*64+2)).isSome||(s.ak (d*64+3)).isSome)with
 |true=>(s.put o.dst v).freeze (aLb d)
 |false=>s.put o.dst v
def AV.fixed(o:Nat)(A:List Cell):AV->AV
 |.aZ p off=>match Nat.beq o p with|true=>.cO (A.map (Cell.kill (Nat.beq o ·))) off|false=>.aZ p off
 |v=>v.kill (Nat.beq o ·)
def St.fix(st:St)(o:Nat):St:=
 match st.ak o with
 |some (.var cs)=>{st.kill (Nat.beq o ·)with tmps:=λt=>(st.tmps t).fixed o cs}
 |_=>st
theorem Rel.fix(h:Rel w0 M T γ st a w)(o:Nat):Rel w0 M T γ (st.fix o) a w:=by
 unfold St.fix;split
 .next cs ho=>
  have j:=h.kill (Nat.beq o ·);refine⟨j.mT,j.defers,j.size,j.os,j.tape,j.output,j.grow,j.kept,λt=>?_,j.ak,j.lt,j.sep,j.pin⟩;have R:=h.tmps t;have g:=dB.kill (Nat.beq o ·) h _ _ R;show dB (aI w0 T γ (st.kill (Nat.beq o ·)) w) ((st.tmps t).fixed o cs) _;cases i:st.tmps t with
  |aZ p off=>
   rw[i]at R g;simp only[AV.fixed];cases U:Nat.beq o p with
   |false=>grind [AV.kill]
   |true=>
    have x:=aQq U;obtain⟨b,n,_,C,k⟩:=R;obtain⟨d,arr,D,l,r,hr⟩:=h.ak o _ ho;have m:d=b:=by
     grind
    subst m;have f:blk (γ o)=some d:=by have O:γ o=.pointer (some ⟨d,0,none⟩):=l;rw[O];rfl
    refine⟨d,k,arr,D,(0,0),⟨(h.lt o _ d ho f).1,λs=>h.mT d ((h.lt o _ d ho f).2.resolve_left jv),λq y u=>?_⟩,r,aC.kill _ h cs _ hr⟩;obtain⟨z,B,_,A⟩:=EJ (Nat.beq o ·) u;exact h.sep o _ q z d ho B (λe=>jv) f
  |_=>rw[i]at g;exact g
 .exact h
def land(own:Nat->Bool)(d:Nat)(o:Oper)(v:AV)(s:St):St:=
 match aMk o.op&&!(own d)with
 |true=>(s.put o.dst v).fix (d*64)
 |false=>aCE own d o v s
def akR(st:St)(o:Oper):Bool:=match o.dst with|some d=>Nat.blt d st.n|none=>true
def roomy(d:Nat)(st:St):St:=
 match (st.ak (d*64)).isSome||(st.ak (d*64+1)).isSome||(st.ak (d*64+2)).isSome||(st.ak (d*64+3)).isSome with
 |true=>st.kill (aJq d)
 |false=>st
def aFm(Γ:nI)(d:Nat)(st:St)(op:Op):Option (Prop×YI×List (Option Nat)×St):=
 match aqd Γ (roomy d st) op with
 |some r=>some r
 |none=>aqd Γ st op
def aFn:BinOp->Option Bool
 |.eql=>some false
 |.neq=>some true
 |_=>none
def aqm:Bool->Bool->Bool
 |true,g=>!g
 |false,g=>g
def aCF(st:St):AV->Option (Bool->Prop)
 |.sv (.one (.sl _ _ l _))=>some λg=>g=true->l.length=0
 |.sv (.one (.ref o))=>match st.ak o with
  |some (.arr _ _ l _)=>some λg=>g=true->l.length=0
  |_=>none
 |.sv (.one .nil)=>some λg=>g=true
 |_=>none
def aJr(Θ:mD)(st:St)(t:TypeId)(x:Operand)(s:Option Bool):Option (Bool×(Bool->Prop)):=match s,Θ t with
 |some neg,some ti=>match ti.kind with
  |.slice _=>match aCF st (st.ev x)with
   |some R=>some (neg,R)
   |none=>none
  |_=>none
 |_,_=>none
def aDG(Θ:mD)(st:St):Op->Option (Bool×(Bool->Prop))
 |.binOp op t x (.const (.slice none 0 0)) _=>aJr Θ st t x (aFn op)
 |_=>none
def azo(Θ:mD)(Γ:nI)(own:Nat->Bool)(o:Oper)(K:St->Prop)(st:St):Prop:=
 match akR st o with
 |true=>match aFm Γ (numOf st o) st o.op with
  |some (p,ρ,os,s0)=>p/\∀t,ρ.R t->match akK (numOf st o) s0 os (ρ.out t) (ρ.bP t)with
   |some (v,s)=>K (land own (numOf st o) o v s)
   |none=>False
  |none=>match aDG Θ st o.op with
   |some (neg,R)=>∀g:Bool,R g->K (land own (numOf st o) o (.sv (.one (.bool (aqm neg g)))) st)
   |none=>match aDF Θ Γ (numOf st o) st o.op,quiet st o.op with
    |some (p,v,s),q=>match q with
     |true=>K (land own (numOf st o) o v s)
     |false=>p/\K (land own (numOf st o) o v s)
    |none,_=>False
 |false=>False
def guarded(ops:List Oper)(o:Oper)(one:St->Prop)(skip:St->Prop)(st:St):Prop:=
 match o.guard with
 |none=>one st
 |some (g,b)=>match ops[g]? with
  |some og=>match og.dst with
   |some t=>match akR st o,Nat.blt t st.n,st.tmps t with
    |true,true,.sv (.one (.bool x))=>cond x
     (match b with|true=>one (st.set t (.sv (.one (.bool true))))|false=>skip ((st.set t (.sv (.one (.bool true)))).put o.dst (.tJ [])))
     (match b with|false=>one (st.set t (.sv (.one (.bool false))))|true=>skip ((st.set t (.sv (.one (.bool false)))).put o.dst (.tJ [])))
    |true,true,.tJ _=>skip (st.put o.dst (.tJ []))
    |_,_,_=>False
   |none=>False
  |none=>False
def runs(Θ:mD)(Γ:nI)(own:Nat->Bool)(ops:List Oper)(K:St->Prop):List Oper->St->Prop
 |[],st=>K st
 |o::r,st=>guarded ops o (azo Θ Γ own o (runs Θ Γ own ops K r)) (runs Θ Γ own ops K r) st
theorem set_self{t:Nat}{v:AV}(h:st.tmps t=v):st.set t v=st:=by
 cases st with
 |mk n tm ob=>
  grind [St.set,St.mk.injEq,Nat.eq_of_beq_eq_true]
variable {Q:Exit->Act->World->Prop}
theorem aFo{G:oI}(K:Ad P G Θ Γ w0 M)(h:Rel w0 M T γ st a w)(o:Oper){neg:Bool}{R:Bool->Prop}(N:aDG Θ st o.op=some (neg,R)){next:Act->World->Prop}
 (H:∀g:Bool,R g->next (a.put o.dst (.bool (aqm neg g))) w):o.wp P a w next Q:=by
 unfold aDG at N;split at N
 case h_2=>cases N
 next op t x _ B=>
 unfold aJr at N;split at N
 case h_2=>cases N
 next J O Y L=>
 split at N
 case h_2=>cases N
 next e j=>
 split at N
 case h_2=>cases N
 next S f=>
 cases N;have I:P.underlying t=some (.slice e):=by
  have:=(K.types t O L).und
  grind
 have k:op=.eql/\neg=false\/op=.neq/\neg=true:=by cases op<;>simp[aFn]at Y<;>simp[Y]
 have F:∀(d:Option Addr)(n c:Nat),a.eval x=.slice d n c->R d.isNone->o.wp P a w next Q:=by
  intro d n c Z f;have s:a.eval (.const (.slice none 0 0))=.slice none 0 0:=rfl;refine Oper.rQ (u:=.bool (aqm neg d.isNone)) (w':=w) ?_ (H _ f);have Y:execOp a.eval o=(do pure (Next.value (← (do eqGuard op t x (.const (.slice none 0 0)) (a.eval x) (a.eval (.const (.slice none 0 0)));binOp op t (a.eval x) (a.eval (.const (.slice none 0 0))))))):=by simp[execOp,B]
  rw[Y];refine aK6 ?_;rw[Z,s];rcases k with⟨rfl,rfl⟩|⟨rfl,rfl⟩
  .exact Lib.run_eql_slice_nil w t e d n c 0 0 I
  .exact run_neq_slice_nil_any w t e d n c 0 0 I
 unfold aCF at f;split at f
 .next ee rr l _ Z=>
  cases f;have r:=ve h Z;obtain⟨d,c,D,_⟩:=ay0 r;refine F d l.length c D λz=>?_;have C:iL w.heap _ (.sl ee rr) (a.eval x) l:=r;rcases C.2 with⟨W,_⟩|⟨b,m,y,A,X,U,E,_⟩
  .rw[W];rfl
  grind
 .next o' Z=>
  split at f
  .next _ _ l _ ho=>
   have r:=ve h Z;obtain⟨_,E,_⟩:=r;obtain⟨q,i,hr,_⟩:=h.ak o' _ ho;obtain⟨_,i⟩:=i
   grind
  .cases f
 .next Z=>
  have r:a.eval x=.slice none 0 0:=ve h Z
  grind
 .cases f
theorem azp{G:oI}(N:Ad P G Θ Γ w0 M){own:Nat->Bool}{o:Oper}{K:St->Prop}(h:Rel w0 M T γ st a w)(hr:azo Θ Γ own o K st)
 {next:Act->World->Prop}  (H:∀s γ' L w',K s->Rel w0 M T γ' s L w'->next L w'):o.wp P a w next Q:=by
 unfold azo at hr;split at hr
 .next hd=>
  have E:∀(s:St)(v:AV)(u:Value)(γ':Nat->Value)(w':World),Rel w0 M T γ' s a w'->dB (aI w0 T γ' s w') v u->K (land own (numOf st o) o v s)->next (a.put o.dst u) w':=by
   intro s v u γ' w' A S l;have X:s.n=st.n:=by rw[← A.size,h.size]
   have i:Rel w0 M T γ' (s.put o.dst v) (a.put o.dst u) w':=by
    cases n:o.dst with
    |none=>exact A
    |some d=>
     rw[akR,n]at hd;refine A.set d ?_ v u S
     simp_all
   unfold land at l;split at l
   .exact H _ γ' _ _ l (i.fix _)
   .unfold aCE at l;split at l
    .exact H _ γ' _ _ l (i.freeze _)
    grind
  have j:∀(b:St)(_:Rel w0 M T γ b a w)(_:b.n=st.n)(p:Prop)(v:AV)(s:St),oper Θ Γ (numOf st o) b o.op=some (p,v,s)->p->K (land own (numOf st o) o v s)->o.wp P a w next Q:=by
   grind [aDE]
  have U:∀(b:St)(_:Rel w0 M T γ b a w)(p:Prop)(m:YI)(B:List (Option Nat))(D:St),aqd Γ b o.op=some (p,m,B,D)->
   (p/\∀t,m.R t->match akK (numOf st o) D B (m.out t) (m.bP t)with|some (v,s)=>K (land own (numOf st o) o v s)|none=>False)->o.wp P a w next Q:=by
   intro b C p m B D hrel ⟨J,O⟩;refine aFi N C o (d:=numOf st o) hrel J (λt Z=>?_) λt v s u γ' w' Z Y A S=>?_
   · grind
   grind
  split at hr
  .next p m B D hrel=>
   unfold aFm at hrel;split at hrel
   .next r hr0=>
    have I:Rel w0 M T γ (roomy (numOf st o) st) a w:=by
     unfold roomy;split
     .exact h.kill _
     .exact h
    grind
   grind
  split at hr
  .next neg R hnil=>exact aFo N h o hnil λg W=>E st (.sv (.one (.bool (aqm neg g)))) (.bool (aqm neg g)) γ w h rfl (hr g W)
  cases z:aDF Θ Γ (numOf st o) st o.op with
  |none=>grind
  |some res=>
   obtain⟨p,v,s⟩:=res;have F:quiet st o.op=true->K (land own (numOf st o) o v s):=λe=>jv;have y:quiet st o.op=false->p/\K (land own (numOf st o) o v s):=λe=>jv;unfold aDF at z;cases q:oper Θ Γ (numOf st o) st o.op with
   |some r=>
    grind [aql]
   |none=>
    rw[q]at z;cases k:makes o.op with
    |false=>grind
    |true=>
     rw[k]at z;cases f:quiet st o.op with
     |true=>
      refine j _ (h.kill _) rfl p v s z (aql z ?_) (F f);cases x:o.op<;>rw[x]at k f<;>simp only[makes,aSA]at k<;>first|rfl|(simp[quiet]at f;done)|skip
      rename_i c
      obtain⟨callee,args,xq⟩:=c;cases callee<;>simp only[aSA]at k;exact f
     |false=>exact j _ (h.kill _) rfl p v s z (y f).1 (y f).2
 grind
theorem Rel.aJ5(h:Rel w0 M T γ st a w)(d:Option Nat)(e:∀t,d=some t->t<st.n):Rel w0 M T γ (st.put d (.tJ [])) (a.put d undef) w:=by
 cases d with
 |none=>exact h
 |some d=>exact h.set d (e d rfl) (.tJ []) undef ⟨#[],rfl,trivial⟩
theorem axN{ops:Array Oper}{o:Oper}{one skip:St->Prop}(h:Rel w0 M T γ st a w)(hr:guarded ops.toList o one skip st){Y Z:Prop}
 (C:one st->Y) (O:skip (st.put o.dst (.tJ []))->Z):
 (Region.wanted o (yielded ops a.tmps)=true/\Y)\/(Region.wanted o (yielded ops a.tmps)=false/\akR st o=true/\Z):=by
 unfold guarded at hr;split at hr
 · grind [Region.wanted]
 .next g b hg=>
  split at hr
  .next og hog=>
   split at hr
   .next t ht=>
    split at hr
    .next x hok hlt htm=>
     have F:yielded ops a.tmps g=some x:=by
      have d:=h.tmps t;rw[htm]at d;have R:a.tmps.getD t undef=.bool x:=d;have e:t<a.tmps.size:=by rw[h.size];simp_all
      simp_all [yielded]
     grind [set_self,Region.wanted]
    .next xs hok hlt htm=>
     have F:yielded ops a.tmps g=none:=by
      have d:=h.tmps t;rw[htm]at d;obtain⟨I,R,_⟩:=d;have e:t<a.tmps.size:=by rw[h.size];simp_all
      simp_all [yielded]
     grind [Region.wanted]
    grind
   grind
  grind
theorem XI{G:oI}(f:Ad P G Θ Γ w0 M){own:Nat->Bool}{ops:Array Oper}{K:St->Prop}{Q:Exit->Act->World->Prop}
 (H:∀s γ' d w',K s->Rel w0 M T γ' s d w'->Q .normal d w'):∀(l:List Oper)(st:St)(γ:Nat->Value)(a:Act)(w:World),
 Rel w0 M T γ st a w->runs Θ Γ own ops.toList K l st->wpList P ops Q l a w
 |[],st,γ,a,w,h,hr=>H st γ a w hr h
 |o::r,st,γ,a,w,h,hr=>by
  unfold wpList;have:=axN (ops:=ops) (o:=o) (Y:=o.wp P a w (wpList P ops Q r) Q) (Z:=akR st o=true->wpList P ops Q r (a.put o.dst undef) w) h hr
   (λC=>azp f h C λs γ' d w' g i=>XI f H r s γ' d w' i g)
   (λO b=>XI f H r _ γ _ w (h.aJ5 o.dst (λt j=>by rw[akR,j]at b;simpa[Nat.blt_eq]using b)) O)
  rcases this with⟨e,F⟩|⟨e,b,k⟩
  .rw[if_pos e];exact .inl F
  .rw[if_neg (by rw[e];simp)];exact k b
theorem azr{G:oI}(d:Ad P G Θ Γ w0 M){own:Nat->Bool}{id:Nat}{ops:Array Oper}{K:St->Prop}(h:Rel w0 M T γ st a w)
 (hr:runs Θ Γ own ops.toList K ops.toList st) (H:∀s γ' b w',K s->Rel w0 M T γ' s b w'->Q .normal b w'):(Code.region id ops false).wp P Q a w:=
 wp_region_list (XI d H _ _ _ _ _ h hr)
inductive Pre where
 |still (o:Nat)
 |opens (t:Nat)
 |closes (t:Nat)
 |aLc (o:Nat)
def aCG(st:St)(t o:Nat)(e:TypeId)(r:aP)(l:List r.den)(fr:Bool):St:=((st.kill (Nat.beq o ·)).add o (.arr e r l fr)).set t (.sv (.one (.ref o)))
def aep:List Pre->(St->Prop)->St->Prop
 |[],K,st=>K st
 |.still o::z,K,st=>aep z K (st.freeze (Nat.beq o ·))
 |.aLc o::z,K,st=>aep z K (st.fix o)
 |.opens t::z,K,st=>match st.tmps t with
  |.sv (.one (.ref o))=>match st.ak o with
   |some (.arr _ _ l _)=>0<l.length/\aep z K (st.set t (.win o 0 l.length))
   |_=>False
  |_=>False
 |.closes t::z,K,st=>match st.tmps t with
  |.win o lo n=>match Nat.beq lo 0,st.ak o with
   |true,some (.arr e r l fr)=>(0<l.length/\n<=l.length)/\aep z K (aCG st t o e r (l.take n) fr)
   |_,_=>False
  |_=>False
theorem Rel.aFp(h:Rel w0 M T γ st a w)(t:Nat)(v:AV)(R:dB (aI w0 T γ st w) v (a.tmps.getD t undef)):Rel w0 M T γ (st.set t v) a w:=by
 refine⟨h.mT,h.defers,h.size,h.os,h.tape,h.output,h.grow,h.kept,λk=>?_,h.ak,h.lt,h.sep,h.pin⟩;show dB _ (match Nat.beq k t with|true=>v|false=>st.tmps k) (a.tmps.getD k undef);cases U:Nat.beq k t with
 |false=>exact h.tmps k
 |true=>rw[aQq U];exact R
theorem Rel.close(h:Rel w0 M T γ st a w){t o n:Nat}{e:TypeId}{r:aP}{l:List r.den}{fr:Bool}(ht:st.tmps t=.win o 0 n)(B:st.ak o=some (.arr e r l fr))(W:0<l.length)(H:n<=l.length):∃γ',Rel w0 M T γ' (aCG st t o e r (l.take n) fr) a w:=by
 have x:=h.tmps t;rw[ht]at x;obtain⟨g,m,y,e',r',l',U,Z,b,⟨q,u,R,hle⟩⟩:=x;have b:γ o=.slice (some ⟨g,0,none⟩) m y:=b;obtain⟨xs,⟨C,O⟩,k,hfr,s⟩:=h.ak o _ B;rcases O with⟨S,_⟩|⟨X,f,A,hg,hg0,hh,hlc,j,F,I⟩
 .omega
 .have LV:γ o=.slice (some ⟨X,0,none⟩) l.length f:=hg;rw[b]at LV;obtain⟨rfl,rfl,rfl⟩:=LV;have E:q=0:=fC;subst E;have d:n*r.len<=l.length*r.len:=aQy _ H;have K:blk (Value.slice (some ⟨g,0,none⟩) n y)=blk (γ o):=by rw[b];rfl
  obtain⟨Y,_⟩:=h.replace (w':=w) (o:=o) (v':=.slice (some ⟨g,0,none⟩) n y) (x':=.arr e r (l.take n) fr) (blk (γ o)) (.inr ⟨_,B,rfl⟩) rfl rfl rfl (aQp _) (λ_ _ _=>rfl)
   (λc N=>⟨.inl jv,(h.lt o _ c B jv).1⟩) (λ_ e=>y5) (λle=>by
     have L:(l.take n).length=n:=jv;refine⟨xs.take (n*r.len),?_,k,?_,λi z D=>?_⟩
     .rw[L];show w.ownsRow 0 e r.len (upd γ o _ o) _ _;rw[upd_same];refine⟨jv,.inr ⟨g,y,A,rfl,aQx _,hh,fC,j,F,?_⟩⟩
      grind
     · grind [upd_same]
     .have hil:i<n:=jv;have d:i*r.len+r.len<=n*r.len:=by
       have:(i+1)*r.len<=n*r.len:=aQy _ hil
       grind
      rw[aRt,if_pos hil]at D;rw[jV _ _ _ _ d];exact dD.mono (λc N=>le.fG _ c N) _ _ z (s i z D))
  refine⟨_,Y.aFp t _ ?_⟩;have J:a.tmps.getD t undef=.slice (some ⟨g,0,none⟩) n y:=R;rw[J];exact⟨⟨e,r,_,_,add_same _ _ _⟩,(upd_same _ _ _).symm,rfl⟩
theorem Nu{K:St->Prop}:∀(z:List Pre)(st:St)(γ:Nat->Value),Rel w0 M T γ st a w->aep z K st->∃s γ',Rel w0 M T γ' s a w/\K s
 |[],st,γ,h,hk=>⟨st,γ,h,hk⟩
 |.still o::z,st,γ,h,hk=>Nu z _ γ (h.freeze _) hk
 |.aLc o::z,st,γ,h,hk=>Nu z _ γ (h.fix o) hk
 |.opens t::z,st,γ,h,hk=>by
  rw[aep]at hk;split at hk
  .next o ht=>
   split at hk
   .next e r l fr ho=>
    refine Nu z _ γ (h.aFp t _ ?_) hk.2;have b:=h.tmps t;rw[ht]at b;obtain⟨_,R,_⟩:=b;obtain⟨q,⟨_,O⟩,_⟩:=h.ak o _ ho;rcases O with⟨_,x⟩|⟨g,y,f,i,_,_,x,k,_⟩
    .omega
    .refine⟨g,l.length,y,e,r,l,fr,ho,i,0,.inl fC,jv,fC⟩
   grind
  grind
 |.closes t::z,st,γ,h,hk=>by
  rw[aep]at hk;split at hk
  .next o lo n ht=>
   split at hk
   .next e r l fr hb ho=>have d:=aQq hb;subst d;obtain⟨γ',j⟩:=h.close ht ho hk.1.1 hk.1.2;exact Nu z _ γ' j hk.2
   grind
  grind
inductive jr where
 |int (k:IntKind)
 |bool
 |str
 |nil
 |sl (e:TypeId) (r:aP) (fr:Bool)
 |ref (o:Nat)
 |junk
@[reducible] def jr.den:jr->Type
  |.int _=>Int
  |.bool=>Bool
  |.str=>Bytes
  |.sl _ r _=>List r.den
  |.nil|.ref _|.junk=>Unit
def jr.cell:(c:jr)->c.den->Cell
 |.int k,n=>.int k n
 |.bool,b=>.bool b
 |.str,s=>.str s
 |.sl e r fr,l=>.sl e r l fr
 |.nil,_=>.nil
 |.ref o,_=>.ref o
 |.junk,_=>.junk
def YQ:Bool->Bool->Bool
 |true,b=>b
 |false,_=>true
def jr.read:(c:jr)->Cell->Option c.den
 |.int k,.int l n=>match decide (k=l)with|true=>some n|false=>none
 |.bool,.bool b=>some b
 |.str,.str s=>some s
 |.sl e r fr,.sl f s l gr=>match Nat.beq e f&&YQ fr gr with
  |true=>if h:s.beq r=true then some (Cc h l)else none
  |false=>none
 |.sl _ _ _,.nil=>some []
 |.nil,.nil=>some ()
 |.ref o,.ref p=>match Nat.beq o p with|true=>some ()|false=>none
 |.junk,_=>some ()
 |_,_=>none
theorem aLd(X:V)(e:TypeId)(r:aP)(fr:Bool):bY X (.sl e r [] fr) (.slice none 0 0):=by refine⟨ni,.inl ⟨rfl,none,0,rfl⟩⟩
theorem jr.weak{X:V}:∀(c:jr)(x:Cell)(d:c.den)(v:Value),c.read x=some d->bY X x v->bY X (c.cell d) v:=by
 intro c x d v hr R;cases c<;>cases x<;>simp only[jr.read,reduceCtorEq,Option.some.injEq]at hr<;>try (subst hr;exact R)
 case int.int k l n=>
  split at hr
  .next e=>cases hr;rw[show k=l from WR];exact R
  .cases hr
 case sl.sl e r fr f s l gr=>
  split at hr
  .next hb=>
   split at hr
   .next hs=>
    cases hr;have h:=aP.eq_of_beq s r hs;subst h;have i:iL X.w.heap (X.fG gr) (.sl e s) v l:=R;refine iL.mono (λb g=>⟨⟨g.1,λj=>g.2 ?_⟩,rfl⟩) (.sl e s) v l i
    grind [YQ]
   .cases hr
  .cases hr
 case sl.nil e r fr=>subst hr;rw[show v=_ from R];exact aLd X e r fr
 case nil.nil=>exact R
 case ref.ref o p=>
  grind [jr.cell,Nat.eq_of_beq_eq_true]
 all_goals exact bY.one _ _ R
@[reducible] def ru:List jr->Type
  |[]=>Unit
  |c::r=>c.den×ru r
def kW:(l:List jr)->ru l->List Cell
 |[],_=>[]
 |c::r,x=>c.cell x.1::kW r x.2
def oh:(l:List jr)->List Cell->Option (ru l)
 |[],[]=>some ()
 |c::r,x::xs=>match c.read x,oh r xs with
  |some a,some b=>some (a,b)
  |_,_=>none
 |_,_=>none
theorem OU{X:V}:∀(l:List jr)(q:List Cell)(d:ru l)(I:List Value),oh l q=some d->aC X q I->aC X (kW l d) I
 |[],[],_,_,_,hv=>hv
 |c::r,x::q,d,I,hr,hv=>by
  rw[oh]at hr;split at hr
  .next a b h1 h2=>
   cases hr;cases I with
   |nil=>cases hv
   |cons v I=>exact⟨jr.weak c x a v h1 hv.1,OU r q b I h2 hv.2⟩
  .cases hr
 |[],_::_,_,_,hr,_=>by grind [oh]
 |_::_,[],_,_,hr,_=>by grind [oh]
@[reducible] def JS:List (List jr)->Type
  |[]=>Unit
  |l::r=>ru l×JS r
def VW:(l:List (List jr))->JS l->List (List Cell)
 |[],_=>[]
 |c::r,x=>kW c x.1::VW r x.2
def Qi:(l:List (List jr))->List (List Cell)->Option (JS l)
 |[],[]=>some ()
 |c::r,x::xs=>match oh c x,Qi r xs with
  |some a,some b=>some (a,b)
  |_,_=>none
 |_,_=>none
theorem awy{X:V}{l:List jr}{q:List Cell}{d:ru l}{b:Nat}(hr:oh l q=some d)(h:jU X q b):jU X (kW l d) b:=by obtain⟨arr,t,e,f,g,N⟩:=h;exact⟨arr,t,e,f,g,OU _ _ _ _ hr N⟩
theorem aif{X:V}:∀(l:List (List jr))(q:List (List Cell))(d:JS l)(n:List Value),Qi l q=some d->iV X q n->iV X (VW l d) n
 |[],[],_,n,_,h=>h
 |c::r,x::q,d,n,hr,h=>by
  rw[Qi]at hr;split at hr
  .next a b h1 h2=>
   cases hr;cases n with
   |nil=>cases h
   |cons u n=>obtain⟨⟨e,f,j⟩,K⟩:=h;exact⟨⟨e,f,awy h1 j⟩,aif r q b n h2 K⟩
  .cases hr
 |[],_::_,_,_,hr,_=>by grind [Qi]
 |_::_,[],_,_,hr,_=>by grind [Qi]
inductive Uh where
 |one (c:jr)
 |agg (l:List jr)
 |aZ (o off:Nat)
 |cO (l:List jr) (off:Nat)
 |fn (f:FuncId) (l:List (List jr))
@[reducible] def Uh.den:Uh->Type
  |.one c=>c.den
  |.agg l=>ru l
  |.aZ _ _=>Unit
  |.cO l _=>ru l
  |.fn _ l=>JS l
def Uh.val:(s:Uh)->s.den->AV
 |.one c,x=>.sv (.one (c.cell x))
 |.agg l,x=>.sv (.agg (kW l x))
 |.aZ o off,_=>.aZ o off
 |.cO l off,x=>.cO (kW l x) off
 |.fn f l,x=>.fn f (VW l x)
def Uh.read:(s:Uh)->AV->Option s.den
 |.one c,.sv (.one x)=>c.read x
 |.agg l,.sv (.agg xs)=>oh l xs
 |.aZ o off,.aZ p k=>match Nat.beq o p&&Nat.beq off k with|true=>some ()|false=>none
 |.cO l off,.cO xs k=>match Nat.beq off k with|true=>oh l xs|false=>none
 |.fn f l,.fn g xs=>match Nat.beq f g with|true=>Qi l xs|false=>none
 |_,_=>none
theorem Uh.weak{X:V}(s:Uh)(x:AV)(d:s.den)(v:Value)(hr:s.read x=some d)(R:dB X x v):dB X (s.val d) v:=by
 unfold Uh.read at hr;split at hr
 .exact jr.weak _ _ _ _ hr R
 .obtain⟨vs,e,h⟩:=R;exact⟨vs,e,OU _ _ _ _ hr h⟩
 · grind [Uh.val,Nat.eq_of_beq_eq_true]
 .split at hr
  .next hb=>obtain⟨b,e,arr,t,f,g,i,N⟩:=R;rw[Uh.val,aQq hb];exact⟨b,e,arr,t,f,g,i,OU _ _ _ _ hr N⟩
  .cases hr
 .split at hr
  .next hb=>obtain⟨n,e,j⟩:=R;rw[Uh.val,aQq hb];exact⟨n,e,aif _ _ _ _ hr j⟩
  .cases hr
 .cases hr
inductive Xu where
 |var (l:List jr)
 |arr (e:TypeId) (r:aP) (fr:Bool)
@[reducible] def Xu.den:Xu->Type
  |.var l=>ru l
  |.arr _ r _=>List r.den
def Xu.obj:(s:Xu)->s.den->bD
 |.var l,x=>.var (kW l x)
 |.arr e r fr,l=>.arr e r l fr
def Xu.read:(s:Xu)->bD->Option s.den
 |.var l,.var xs=>oh l xs
 |.arr e r fr,.arr f s l gr=>match Nat.beq e f&&YQ fr gr with
  |true=>if h:s.beq r=true then some (Cc h l)else none
  |false=>none
 |_,_=>none
def UM(x x':bD):Prop:=
 (∃A b,x=.var A/\x'=.var b/\∀(X:V) vs,aC X A vs->aC X b vs)\/∃e r l d f,x=.arr e r l f/\x'=.arr e r l d/\(d=true->f=true)
theorem Xu.weak(s:Xu)(x:bD)(d:s.den)(hr:s.read x=some d):UM x (s.obj d):=by
 unfold Xu.read at hr;split at hr
 .exact .inl ⟨_,_,rfl,rfl,λX I h=>OU _ _ _ _ hr h⟩
 .next e r fr f s l gr=>
  split at hr
  .next hb=>
   split at hr
   .next hs=>
    cases hr;rw[aQm]at hb;have g:=aQq hb.1;have j:fr=true->gr=true:=λe=>by have b:=hb.2;rw[e]at b;exact b
    subst g;have i:=aP.eq_of_beq s r hs;subst i;exact .inr ⟨e,s,l,fr,gr,rfl,rfl,j⟩
   .cases hr
  .cases hr
 .cases hr
structure Covers(J st:St):Prop where
 n:J.n=st.n
 tmps:∀t(X:V) v,dB X (st.tmps t) v->dB X (J.tmps t) v
 ak:∀o,(J.ak o=none/\st.ak o=none)\/∃x x',st.ak o=some x/\J.ak o=some x'/\UM x x'
theorem Rel.covers{J:St}(h:Rel w0 M T γ st a w)(N:Covers J st):Rel w0 M T γ J a w:=by
 have j:∀o g,J.ak o=some g->∃x,st.ak o=some x/\UM x g:=by
  intro o g f;rcases N.ak o with⟨e,_⟩|⟨x,y,Z,F,n⟩
  · grind
  grind
 have E:∀o x,st.ak o=some x->∃g,J.ak o=some g/\UM x g:=by
  intro o x Z;rcases N.ak o with⟨_,e⟩|⟨y,g,F,f,n⟩
  · grind
  grind
 have u:(aI w0 T γ st w).le (aI w0 T γ J w):=by
  refine⟨aQp _,λb U=>⟨⟨U.1,U.2.1,λo x Z=>?_⟩,rfl⟩,λo A Z=>⟨?_,rfl⟩,λo e r l B Z=>⟨?_,rfl⟩⟩
  .obtain⟨y,F,_⟩:=j o x Z;exact U.2.2 o y F
  .obtain⟨g,f,n⟩:=E o _ Z;rcases n with⟨m,s,k,d,_⟩|⟨e,r,l,B,L,k,d,_⟩
   · grind
   .cases k
  .obtain⟨g,f,n⟩:=E o _ Z;rcases n with⟨m,s,k,d,_⟩|⟨e,r,l,B,L,k,d,_⟩
   .cases k
   grind
 refine⟨h.mT,h.defers,h.size.trans N.n.symm,h.os,h.tape,h.output,h.grow,h.kept,λt=>N.tmps t _ _ (dB.mono u _ _ (h.tmps t)),λo g f=>?_,λo g b f U=>?_,λo g p y' b f S R U=>?_,λo v A Y f=>?_⟩
 .obtain⟨x,Z,n⟩:=j o g f;have z:=h.ak o x Z;rcases n with⟨m,s,k,d,O⟩|⟨e,r,l,B,L,k,d,C⟩
  .subst k d;obtain⟨b,arr,t,H,I,K⟩:=z;exact⟨b,arr,t,H,I,O _ _ (aC.mono u _ _ K)⟩
  .subst k d;obtain⟨q,H,I,K,W⟩:=z;exact⟨q,H,I,λb U X=>K b U (C X),λi x D=>dD.mono (λb U=>u.fG B b ⟨U.1,λe=>U.2 (C e)⟩) r _ x (W i x D)⟩
 .obtain⟨x,Z,_⟩:=j o g f;exact h.lt o x b Z U
 .obtain⟨x,Z,_⟩:=j o g f;obtain⟨y,F,_⟩:=j p y' S;exact h.sep o x p y b Z F R U
 .obtain⟨x,Z,n⟩:=j o _ f;rcases n with⟨m,s,k,d,_⟩|⟨e,r,l,B,L,k,d,_⟩
  .subst k;exact h.pin o v m Y Z
  .cases d
structure Shape where
 tmps:List (Nat×Uh)
 ak:List (Nat×Xu)
@[reducible] def aqn:List (Nat×Uh)->Type
  |[]=>Unit
  |x::r=>x.2.den×aqn r
@[reducible] def aqo:List (Nat×Xu)->Type
  |[]=>Unit
  |x::r=>x.2.den×aqo r
@[reducible] def Shape.den (s:Shape):Type:=aqn s.tmps×aqo s.ak
def aii:(l:List (Nat×Uh))->aqn l->(Nat->AV)->Nat->AV
 |[],_,f=>f
 |s::r,x,f=>λi=>match Nat.beq i s.1 with|true=>s.2.val x.1|false=>aii r x.2 f i
def VX:(l:List (Nat×Xu))->aqo l->(Nat->Option bD)->Nat->Option bD
 |[],_,f=>f
 |s::r,x,f=>λi=>match Nat.beq i s.1 with|true=>some (s.2.obj x.1)|false=>VX r x.2 f i
def aqp(st:St):(l:List (Nat×Uh))->Option (aqn l)
 |[]=>some ()
 |s::r=>match s.2.read (st.tmps s.1),aqp st r with
  |some a,some b=>some (a,b)
  |_,_=>none
def aqr(st:St):(l:List (Nat×Xu))->Option (aqo l)
 |[]=>some ()
 |s::r=>match st.ak s.1,aqr st r with
  |some x,some b=>match s.2.read x with
   |some a=>some (a,b)
   |none=>none
  |_,_=>none
def cZ:List Nat->Nat->Bool
 |[],_=>false
 |x::r,o=>match Nat.beq o x with|true=>true|false=>cZ r o
def names:List (Nat×Xu)->List Nat
 |[]=>[]
 |x::r=>x.1::names r
def joint(n:Nat)(c v:Shape)(x:c.den)(y:v.den):St:=
 {n:=n,tmps:=aii c.tmps x.1 (aii v.tmps y.1 (λ_=>.undef)),ak:=VX c.ak x.2 (VX v.ak y.2 (λ_=>none))}
def only(c v:Shape)(st:St):St:=st.freeze λo=>!(cZ (names c.ak) o||cZ (names v.ak) o)
def Shape.read(s:Shape)(st:St):Option s.den:=
 match aqp st s.tmps,aqr st s.ak with
 |some a,some b=>some (a,b)
 |_,_=>none
theorem abx{X:V}(t:Nat)(u:Value)(d:dB X (st.tmps t) u):∀(l:List (Nat×Uh))(x:aqn l)(f:Nat->AV),aqp st l=some x->dB X (f t) u->dB X (aii l x f t) u
 |[],_,_,_,hf=>hf
 |s::r,x,f,hr,hf=>by
  rw[aqp]at hr;split at hr
  .next a b h1 h2=>
   cases hr;simp only[aii];cases U:Nat.beq t s.1 with
   |true=>
    rw[aQq U]at d;exact Uh.weak s.2 _ a u h1 d
   |false=>exact abx t u d r b f h2 hf
  .cases hr
theorem Vt(o:Nat):∀(l:List (Nat×Xu))(x:aqo l)(f:Nat->Option bD),aqr st l=some x->
 (f o=none\/∃y d,st.ak o=some y/\f o=some d/\UM y d)->
 ((VX l x f o=none/\cZ (names l) o=false/\f o=none)\/∃y d,st.ak o=some y/\VX l x f o=some d/\UM y d)
 |[],_,f,_,hf=>by
  rcases hf with e|h
  .exact .inl ⟨e,rfl,e⟩
  .exact .inr h
 |s::r,x,f,hr,hf=>by
  rw[aqr]at hr;split at hr
  .next y b h1 h2=>
   split at hr
   .next a h3=>
    cases hr;simp only[VX,names,cZ];cases U:Nat.beq o s.1 with
    |true=>
     rw[aQq U];exact .inr ⟨y,_,h1,rfl,Xu.weak s.2 y a h3⟩
    |false=>exact Vt o r b f h2 hf
   .cases hr
  .cases hr
theorem azs{c v:Shape}{x:c.den}{y:v.den}(N:c.read (only c v st)=some x)(R:v.read (only c v st)=some y):Covers (joint st.n c v x y) (only c v st):=by
 unfold Shape.read at N R;split at N
 .next a b h1 h2=>
  cases N;split at R
  .next a' b' h3 h4=>
   cases R;refine⟨rfl,λt X u d=>abx t u d _ _ _ h1 (abx t u d _ _ _ h3 trivial),λo=>?_⟩;rcases Vt o v.ak b' (λ_=>none) h4 (.inl rfl)with⟨e1,e2,_⟩|h
   .rcases Vt o c.ak b (VX v.ak b' (λ_=>none)) h2 (.inl e1)with⟨g1,g2,_⟩|h
    .refine .inl ⟨g1,?_⟩
     grind [only,St.freeze]
    .exact .inr h
   .rcases Vt o c.ak b (VX v.ak b' (λ_=>none)) h2 (.inr h)with⟨g1,g2,g3⟩|h'
    · grind
    .exact .inr h'
  .cases R
 .cases N
theorem Rel.joint(h:Rel w0 M T γ st a w){c v:Shape}{x:c.den}{y:v.den}(N:c.read (only c v st)=some x)(R:v.read (only c v st)=some y):
 Rel w0 M T γ (joint st.n c v x y) a w:=(h.freeze _).covers (azs N R)
end Go.Fw
namespace Go.Fw
open Go
variable {P:Program} {w0:World} {M:Nat->Prop} {T:Ext} {γ γ':Nat->Value} {st:St} {a:Act} {w w':World}
def Cell.ren(f:Nat->Nat):Cell->Cell
 |.ref q=>.ref (f q)
 |c=>c
def SV.ren(f:Nat->Nat):SV->SV
 |.one c=>.one (c.ren f)
 |.agg cs=>.agg (cs.map (Cell.ren f))
def AV.ren(f:Nat->Nat):AV->AV
 |.undef=>.undef
 |.sv v=>.sv (v.ren f)
 |.tJ vs=>.tJ (vs.map (SV.ren f))
 |.aZ o off=>.aZ (f o) off
 |.uG o i off=>.uG (f o) i off
 |.win o i off=>.win (f o) i off
 |.xH r x off fr=>.xH r x off fr
 |.cO cs off=>.cO (cs.map (Cell.ren f)) off
 |.fn g caps=>.fn g (caps.map (List.map (Cell.ren f)))
def bD.ren(f:Nat->Nat):bD->bD
 |.var cs=>.var (cs.map (Cell.ren f))
 |.arr e r l fr=>.arr e r l fr
def IX(o p q:Nat):Nat:=match Nat.beq q o with|true=>p|false=>q
def St.ren(st:St)(o p:Nat):St:=
 {n:=st.n,tmps:=λt=>(st.tmps t).ren (IX o p),ak:=λq=>match Nat.beq q p with
  |true=>(st.ak o).map (bD.ren (IX o p))
  |false=>match Nat.beq q o with|true=>none|false=>(st.ak q).map (bD.ren (IX o p))}
structure V.zo(f:Nat->Nat)(X Y:V):Prop where
 n0:Y.n0<=X.n0
 foot:∀b,X.foot b->Y.foot b/\Y.w.heap[b]? =X.w.heap[b]?
 var:∀o cs,X.ak o=some (.var cs)->(∃cs',Y.ak (f o)=some (.var cs'))/\Y.γ (f o)=X.γ o
 arr:∀o e r l fr,X.ak o=some (.arr e r l fr)->(∃l' fr',Y.ak (f o)=some (.arr e r l' fr'))/\Y.γ (f o)=X.γ o
variable {f:Nat->Nat}
variable {X Y:V}
theorem V.zo.fG(h:X.zo f Y)(fr:Bool)(b:Nat)(U:X.fG fr b):Y.fG fr b/\Y.w.heap[b]? =X.w.heap[b]? :=
 ⟨⟨(h.foot b U.1).1,λe=>aQn h.n0 (U.2 e)⟩,(h.foot b U.1).2⟩
theorem bY.zo(h:X.zo f Y):∀(c:Cell)(v:Value),bY X c v->bY Y (c.ren f) v
 |.int _ _,_,H|.bool _,_,H|.str _,_,H|.nil,_,H|.junk,_,H=>H
 |.sl e r l fr,v,H=>iL.mono (λb U=>h.fG fr b U) (.sl e r) v l H
 |.ref o,v,⟨⟨e,r,l,fr,hx⟩,hv,h1⟩=>by obtain⟨⟨i,d,F⟩,g⟩:=h.arr o e r l fr hx;exact⟨⟨e,r,i,d,F⟩,hv.trans g.symm,h1⟩
theorem aC.zo{X Y:V}(h:X.zo f Y):∀(A:List Cell)(I:List Value),aC X A I->aC Y (A.map (Cell.ren f)) I
 |[],[],H=>H
 |c::A,v::I,⟨h1,h2⟩=>⟨bY.zo h c v h1,aC.zo h A I h2⟩
 |[],_::_,H|_::_,[],H=>o7
theorem ig.zo(h:X.zo f Y):∀(c:SV)(v:Value),ig X c v->ig Y (c.ren f) v
 |.one c,v,H=>bY.zo h c v H
 |.agg cs,_,⟨vs,hv,H⟩=>⟨vs,hv,aC.zo h cs _ H⟩
theorem iy.zo{X Y:V}(h:X.zo f Y):∀(A:List SV)(I:List Value),iy X A I->iy Y (A.map (SV.ren f)) I
 |[],[],H=>H
 |c::A,v::I,⟨h1,h2⟩=>⟨ig.zo h c v h1,iy.zo h A I h2⟩
 |[],_::_,H|_::_,[],H=>o7
theorem jU.zo(h:X.zo f Y){A:List Cell}{b:Nat}(H:jU X A b):jU Y (A.map (Cell.ren f)) b:=by obtain⟨arr,t,d,U,e,hr⟩:=H;exact⟨arr,t,d,(h.foot b U).1,(h.foot b U).2.trans e,aC.zo h A _ hr⟩
theorem iV.zo{X Y:V}(h:X.zo f Y):∀(l:List (List Cell))(n:List Value),iV X l n->iV Y (l.map (List.map (Cell.ren f))) n
 |[],[],H=>H
 |cs::l,u::n,⟨⟨b,hu,hk⟩,h2⟩=>⟨⟨b,hu,jU.zo h hk⟩,iV.zo h l n h2⟩
 |[],_::_,H|_::_,[],H=>o7
theorem dB.zo(h:X.zo f Y):∀(c:AV)(v:Value),dB X c v->dB Y (c.ren f) v
 |.undef,_,_=>trivial
 |.sv x,v,H=>ig.zo h x v H
 |.tJ xs,_,⟨vs,hv,H⟩=>⟨vs,hv,iy.zo h xs _ H⟩
 |.aZ o off,v,⟨b,cs,hx,hγ,hv⟩=>by
  obtain⟨⟨k,F⟩,j⟩:=h.var o cs hx;exact⟨b,k,F,j.trans hγ,hv⟩
 |.uG o i off,v,⟨b,n,cap,e,r,l,fr,hx,hγ,hv⟩=>by
  obtain⟨⟨m,d,F⟩,j⟩:=h.arr o e r l fr hx;exact⟨b,n,cap,e,r,m,d,F,j.trans hγ,hv⟩
 |.win o i off,v,⟨b,n,cap,e,r,l,fr,hx,hγ,hv⟩=>by
  obtain⟨⟨m,d,F⟩,j⟩:=h.arr o e r l fr hx;exact⟨b,n,cap,e,r,m,d,F,j.trans hγ,hv⟩
 |.xH r x off fr,v,⟨b,base,cs,t,fz,hv,hf,U,hr⟩=>
  ⟨b,base,cs,t,fz,hv,(h.fG fr b hf).1,(h.fG fr b hf).2.trans U,dD.mono (λb U=>h.fG fr b U) r _ x hr⟩
 |.cO cs off,v,⟨b,hv,hk⟩=>⟨b,hv,jU.zo h hk⟩
 |.fn g caps,v,⟨us,hv,hk⟩=>⟨us,hv,iV.zo h caps _ hk⟩
theorem eF.zo(h:X.zo f Y)(o p:Nat):∀(x:bD),(∀b,blk (X.γ o)=some b->Y.w.heap[b]? =X.w.heap[b]?)->Y.γ p=X.γ o->eF X o x->eF Y p (x.ren f)
 |.var cs,U,hγ,⟨b,arr,t,e,m,hr⟩=>⟨b,arr,t,hγ.trans e,(U b (by rw[e];rfl)).trans m,aC.zo h cs _ hr⟩
 |.arr e r l fr,U,hγ,⟨xs,hown,hr,hf,hx⟩=>by
  refine⟨xs,?_,hr,λb j k=>aQn h.n0 (hf b (hγ▸j) k),λi x D=>dD.mono (λb U=>h.fG fr b U) r _ x (hx i x D)⟩;obtain⟨C,O⟩:=hown;refine⟨C,?_⟩;rcases O with O|⟨g,y,Q,R,n,m,d⟩
  · grind
  .exact .inr ⟨g,y,Q,hγ.trans R,n,(U g afJ).trans m,d⟩
theorem aCH(o p:Nat):IX o p o=p:=by unfold IX;simp_all
variable {o:Nat}
theorem aer{p q:Nat}(h:q≠o):IX o p q=q:=by grind [IX,VU]
theorem Rel.ren(h:Rel w0 M T γ st a w){p:Nat}{e:TypeId}{r:aP}{l:List r.den}{fr:Bool}(z:st.ak o=some (.arr e r l fr))(J:st.ak p=none):
 Rel w0 M T (λq=>match Nat.beq q p with|true=>γ o|false=>γ q) (st.ren o p) a w:=by
 have g:∀q x,(st.ren o p).ak q=some x->∃d S,st.ak d=some S/\x=S.ren (IX o p)/\q=IX o p d/\(match Nat.beq q p with|true=>γ o|false=>γ q)=γ d:=by
  intro q x Z;simp only[St.ren]at Z;cases C:Nat.beq q p with
  |true=>
   grind [aCH,Nat.eq_of_beq_eq_true]
  |false=>
   cases B:Nat.beq q o with
   |true=>grind
   |false=>
    cases K:st.ak q with
    |none=>grind
    |some S=>
     grind [aer,Nat.beq_refl]
 have i:∀q x,st.ak q=some x->(st.ren o p).ak (IX o p q)=some (x.ren (IX o p))/\(match Nat.beq (IX o p q) p with|true=>γ o|false=>γ (IX o p q))=γ q:=by
  grind [aCH,Nat.beq_refl,St.ren,aer,VU]
 have le:V.zo (IX o p) (aI w0 T γ st w) ⟨w,w0.heap.size,T,λq=>match Nat.beq q p with|true=>γ o|false=>γ q,(st.ren o p).ak⟩:=by
  refine⟨aQp _,λb U=>⟨⟨U.1,U.2.1,λq x Z=>?_⟩,rfl⟩,λq A Z=>?_,λq I N L k Z=>?_⟩
  .obtain⟨d,S,h1,_,_,h4⟩:=g q x Z;show blk (match Nat.beq q p with|true=>γ o|false=>γ q)≠some b;rw[h4];exact U.2.2 d S h1
  .obtain⟨h1,h2⟩:=i q _ Z;exact⟨⟨_,h1⟩,h2⟩
  .obtain⟨h1,h2⟩:=i q _ Z;exact⟨⟨_,_,h1⟩,h2⟩
 refine⟨h.mT,h.defers,h.size,h.os,h.tape,h.output,h.grow,h.kept,λt=>dB.zo le _ _ (h.tmps t),λq x Z=>?_,λq x b Z U=>?_,λq x D y b Z F j U=>?_,λq v A u Z=>?_⟩
 .obtain⟨d,S,h1,rfl,h3,h4⟩:=g q x Z;exact eF.zo le d q S (λ_ _=>rfl) h4 (h.ak d S h1)
 .obtain⟨d,S,h1,_,_,h4⟩:=g q x Z;exact h.lt d S b h1 (h4▸U)
 .obtain⟨d,S,h1,_,h3,h4⟩:=g q x Z;obtain⟨E,H,m,_,n,s⟩:=g D y F;rw[h4]at U;rw[s];refine h.sep d S E H b h1 m (λe=>j ?_) U;rw[h3,n,e]
 .obtain⟨d,S,h1,h2,h3,h4⟩:=g q _ Z;cases S with
  |arr _ _ _ _=>cases h2
  |var cs0=>have:d≠o:=λe=>jv;rw[aer this]at h3;subst h3;rw[h4];exact h.pin q v cs0 u h1
theorem Rel.aMm(h:Rel w0 M T γ st a w){A i:List Cell}(s:st.ak o=some (.var A))(N:∀I,aC (aI w0 T γ st w) A I->aC (aI w0 T γ st w) i I):
 Rel w0 M T γ (st.add o (.var i)) a w:=by
 have g:∀p,p≠o->(st.add o (.var i)).ak p=st.ak p:=λp J=>vg st _ J;have d:∀p y,(st.add o (.var i)).ak p=some y->∃z,st.ak p=some z:=by
  grind
 have le:(aI w0 T γ st w).le ⟨w,w0.heap.size,T,γ,(st.add o (.var i)).ak⟩:=by
  refine⟨aQp _,λc U=>⟨⟨U.1,U.2.1,λp y J=>?_⟩,rfl⟩,λp m J=>⟨?_,rfl⟩,λp e r l E J=>⟨?_,rfl⟩⟩
  .obtain⟨z,hz⟩:=d p y J;exact U.2.2 p z hz
  · grind [add_same]
  grind
 refine⟨h.mT,h.defers,h.size,h.os,h.tape,h.output,h.grow,h.kept,λt=>dB.mono le _ _ (h.tmps t),λp y J=>?_,λp y c J U=>?_,λp y q z c J u j U=>?_,λp v m n J=>?_⟩
 .by_cases e:p=o
  .subst e;rw[add_same]at J;cases J;obtain⟨b,arr,t,x,B,C⟩:=h.ak p _ s;exact⟨b,arr,t,x,B,aC.mono le _ _ (N _ C)⟩
  .rw[g p e]at J;exact eF.mono le p y (λ_ _=>rfl) rfl (h.ak p y J)
 .obtain⟨z,hz⟩:=d p y J;exact h.lt p z c hz U
 .obtain⟨z1,hz1⟩:=d p y J;obtain⟨D,k⟩:=d q z u;exact h.sep p z1 q D c hz1 k j U
 .by_cases e:p=o
  .subst e;exact h.pin p v A n s
  .rw[g p e]at J;exact h.pin p v m n J
inductive Place where
 |slot (t k:Nat)
 |obj (o k:Nat)
def cellAt(st:St):Place->Option Cell
 |.slot t k=>match st.tmps t with|.sv v=>v.cells[k]? |_=>none
 |.obj o k=>match st.ak o with|some (.var cs)=>cs[k]? |_=>none
def SV.put(k:Nat)(c:Cell):SV->SV
 |.one _=>.one c
 |.agg cs=>.agg (cs.set k c)
def setCell(st:St)(c:Cell):Place->St
 |.slot t k=>match st.tmps t with|.sv v=>st.set t (.sv (v.put k c))|_=>st
 |.obj o k=>match st.ak o with|some (.var cs)=>st.add o (.var (cs.set k c))|_=>st
abbrev aij:=Place×Nat×TypeId×aP×Bool
def settle(st:St)(x:aij):Option St:=
 match cellAt st x.1 with
 |some (.ref o)=>match Nat.beq o x.2.1 with
  |true=>some st
  |false=>match (st.kill (Nat.beq x.2.1 ·)).ak o with
   |some (.arr _ _ _ _)=>some ((st.kill (Nat.beq x.2.1 ·)).ren o x.2.1)
   |_=>none
 |some .nil=>match Nat.ble 1 x.2.2.2.1.len,cellAt ((st.kill (Nat.beq x.2.1 ·)).add x.2.1 (.arr x.2.2.1 x.2.2.2.1 [] x.2.2.2.2)) x.1 with
  |true,some .nil=>some (setCell ((st.kill (Nat.beq x.2.1 ·)).add x.2.1 (.arr x.2.2.1 x.2.2.2.1 [] x.2.2.2.2)) (.ref x.2.1) x.1)
  |_,_=>none
 |_=>none
def settles(st:St):List aij->Option St
 |[]=>some st
 |x::l=>match settle st x with
  |some s=>settles s l
  |none=>none
theorem aC.set{X:V}:∀(A:List Cell)(I:List Value)(k:Nat)(c:Cell),(∀v,bY X .nil v->bY X c v)->A[k]? =some .nil->aC X A I->aC X (A.set k c) I
 |[],_,_,_,_,h,_=>yj
 |x::A,v::I,0,c,hc,h,⟨h1,h2⟩=>by simp at h;subst h;exact⟨hc v h1,h2⟩
 |x::A,v::I,k+1,c,hc,h,⟨h1,h2⟩=>⟨h1,aC.set A I k c hc oQ h2⟩
 |_::_,[],_,_,_,_,H=>o7
theorem Rel.setCell(h:Rel w0 M T γ st a w){c:Cell}{d:Place}(H:cellAt st d=some .nil)(N:∀v,bY (aI w0 T γ st w) .nil v->bY (aI w0 T γ st w) c v):Rel w0 M T γ (setCell st c d) a w:=by
 cases d with
 |slot t k=>
  simp only[cellAt]at H;simp only[Fw.setCell];split at H
  .next v hv=>
   have e:dB (aI w0 T γ st w) (.sv (v.put k c)) (a.tmps.getD t undef):=by
    have l:=h.tmps t;rw[hv]at l;cases v with
    |one x=>
     have Z:x=.nil/\k=0:=by
      grind [SV.cells]
     obtain⟨rfl,rfl⟩:=Z;exact N _ l
    |agg cs=>obtain⟨I,b,hr⟩:=l;exact⟨I,b,aC.set cs _ k c N H hr⟩
   refine⟨h.mT,h.defers,h.size,h.os,h.tape,h.output,h.grow,h.kept,λg=>?_,h.ak,h.lt,h.sep,h.pin⟩;by_cases i:g=t
   · grind [St.set,Nat.beq_refl]
   .simp only[St.set,VU i];exact h.tmps g
  .cases H
 |obj o k=>
  simp only[cellAt]at H;simp only[Fw.setCell];split at H
  .next cs hcs=>exact h.aMm hcs λI b=>aC.set cs I k c N H b
  .cases H
theorem Rel.aLe(h:Rel w0 M T γ st a w)(z:st.ak o=none)(e:TypeId)(r:aP)(fr:Bool)(hr:1<=r.len):
 Rel w0 M T (upd γ o (.slice none 0 0)) (st.add o (.arr e r [] fr)) a w:=by
 refine(h.grown (γ':=upd γ o (.slice none 0 0)) (w':=w) (st.add o (.arr e r [] fr)).ak
  (λp x J=>by grind [vg])
  (λp x J=>by rw[xk];grind)
  rfl rfl rfl (aQp _) (λ_ _=>rfl)
  (λp x J H=>by
    by_cases d:p=o
    .subst d;rw[add_same]at J;cases J;refine⟨⟨[],⟨ni,.inl ⟨upd_same _ _ _,rfl⟩⟩,hr,(λb U=>by grind [blk,upd_same]),λi x D=>by simp at D⟩,λb U=>by rw[upd_same]at U;cases U⟩
    grind [vg])
  (λp A J H=>by
    grind [add_same,vg])
  (λp x q y b J g u k j U=>by
    grind [vg])).1
theorem awz(st:St)(p:Nat):(st.kill (Nat.beq p ·)).ak p=none:=by simp[St.kill]
theorem Rel.settle(h:Rel w0 M T γ st a w){x:aij}{s:St}(b:Fw.settle st x=some s):∃γ',Rel w0 M T γ' s a w:=by
 obtain⟨i,p,e,r,d⟩:=x;unfold Fw.settle at b;split at b
 .next o ho=>
  split at b
  · grind
  .split at b
   .next hk=>cases b;exact⟨_,(h.kill _).ren hk (awz st p)⟩
   .cases b
 .next ho=>
  split at b
  .next hr hn=>cases b;have g:=(h.kill (Nat.beq p ·)).aLe (awz st p) e r d x9;refine⟨_,g.setCell hn λv R=>?_⟩;subst R;exact⟨⟨e,r,[],d,add_same _ _ _⟩,(upd_same _ _ _).symm,rfl⟩
  .cases b
 .cases b
theorem Rel.settles:∀(l:List aij){γ:Nat->Value}{st s:St}(_:Rel w0 M T γ st a w)(_:Fw.settles st l=some s),∃γ',Rel w0 M T γ' s a w
 |[],γ,st,s,h,hs=>by cases hs;grind
 |x::l,γ,st,s,h,hs=>by
  rw[Fw.settles]at hs;split at hs
  .next s1 h1=>obtain⟨d,b⟩:=h.settle h1;exact Rel.settles l b hs
  .cases hs
end Go.Fw
namespace Go.Fw
open Go
variable {P:Program} {w0:World} {M:Nat->Prop} {T:Ext} {γ γ':Nat->Value} {st s:St} {a:Act} {w w':World} {Θ:mD} {Γ:nI}
def OV(Θ:mD)(st:St)(o:Op):Option (Prop×Nat×bD):=match o with
 |.call {callee:=.builtin .append,args,argTypes}=>match args.toList,argTypes.toList with
  |[s,x],[t,u]=>match Nat.beq t u,Θ t,st.ev s,st.ev x with
   |true,some ti,.sv (.one (.ref o)),.sv (.one y)=>match ti.kind with
    |.slice e=>match Θ e with
     |some te=>match y.get st (.sl e te.cells)with
      |some news=>match st.ak o with
       |some (.arr f r l fr)=>if h:te.cells.beq r=true then
         match Nat.beq e f with
         |true=>some (l.length+news.length<=big,o,.arr e r (l++Cc h news) (fr&&y.EI te.cells st))
         |false=>none
        else none
       |_=>none
      |none=>none
     |none=>none
    |_=>none
   |_,_,_,_=>none
  |_,_=>none
 |_=>none
theorem aFr(h:st.more s){e:TypeId}{r:aP}{y:Cell}{b:List r.den}(d:y.get st (.sl e r)=some b):y.fresh s=y.fresh st:=by
 cases y<;>try rfl
 case ref o=>
  simp only[Cell.get]at d;split at d
  .next e' r' l fr ho=>simp only[Cell.fresh];rw[h.ak o _ ho,ho]
  .cases d
theorem aDH(h:st.more s){e:TypeId}{r:aP}{y:Cell}{b:List r.den}(d:y.get st (.sl e r)=some b):y.EI r s=y.EI r st:=by
 grind [Cell.EI,aFr]
theorem aBL(h:st.more s){o:Op}{x:Prop×Nat×bD}(N:OV Θ st o=some x):OV Θ s o=some x:=by
 unfold OV at N;split at N
 case h_2=>cases N
 next args xq=>
 split at N
 case h_2=>cases N
 next B F t u d g=>
 split at N
 case h_2=>cases N
 next E o y U q Y Z=>
 split at N
 case h_2=>cases N
 next e j=>
 split at N
 case h_2=>cases N
 next D m=>
 split at N
 case h_2=>cases N
 next n b=>
 split at N
 case h_2=>cases N
 next f r l A z=>
 split at N
 case isFalse=>cases N
 next i=>
 split at N
 case h_2=>cases N
 next k=>
 cases N;have C:=eY h Y ni;have O:=eY h Z ni;unfold OV;simp only[d,g,U,q,C,O,j,m,aod h _ _ _ b,h.ak o _ z,i,k,dif_pos,aDH h b]
theorem aDI{o:Op}{p:Prop}{q:Nat}{x:bD}(d:Nat)(N:OV Θ st o=some (p,q,x)):
 eff Θ Γ d st o=some (p,.sv (.one (.ref q)),(st.kill (Nat.beq q ·)).add q x)/\(∃e r l b,x=.arr e r l b)/\∃e r l b,st.ak q=some (.arr e r l b):=by
 unfold OV at N;split at N
 case h_2=>cases N
 next args xq=>
 split at N
 case h_2=>cases N
 next h D t u g m=>
 split at N
 case h_2=>cases N
 next C o y U A Y Z=>
 split at N
 case h_2=>cases N
 next e j=>
 split at N
 case h_2=>cases N
 next B n=>
 split at N
 case h_2=>cases N
 next k i=>
 split at N
 case h_2=>cases N
 next f r l b z=>
 split at N
 case isFalse=>cases N
 grind [eff]
variable {S:Nat->Bool}{f:Nat->Nat}
theorem Cell.IY(h:∀o,S o=false->f o=o):∀(c:Cell),(c.kill S).ren f=c.kill S
 |.int _ _|.bool _|.str _|.nil|.sl _ _ _ _|.junk=>rfl
 |.ref o=>by
  grind [Cell.kill,Cell.ren]
theorem Nv(h:∀o,S o=false->f o=o)(A:List Cell):(A.map (Cell.kill S)).map (Cell.ren f)=A.map (Cell.kill S):=by
 grind [List.map_congr_left,Cell.IY]
theorem SV.IY(h:∀o,S o=false->f o=o):∀(c:SV),(c.kill S).ren f=c.kill S
 |.one c=>by grind [SV.kill,SV.ren,Cell.IY]
 |.agg cs=>by grind [SV.kill,SV.ren,Nv]
theorem AV.IY(h:∀o,S o=false->f o=o):∀(c:AV),(c.kill S).ren f=c.kill S
 |.undef=>rfl
 |.sv v=>by grind [AV.kill,AV.ren,SV.IY]
 |.tJ vs=>by
  grind [AV.kill,AV.ren,List.map_congr_left,SV.IY]
 |.aZ o off=>by
  grind [AV.kill,AV.ren]
 |.uG o i off=>by
  grind [AV.kill,AV.ren]
 |.win o i off=>by
  grind [AV.kill,AV.ren]
 |.xH _ _ _ _=>rfl
 |.cO cs off=>by grind [AV.kill,AV.ren,Nv]
 |.fn g caps=>by
  grind [AV.kill,AV.ren,List.map_congr_left,Nv]
theorem bD.IY(h:∀o,S o=false->f o=o):∀(c:bD),(c.kill S).ren f=c.kill S
 |.var cs=>by grind [bD.kill,bD.ren,Nv]
 |.arr _ _ _ _=>rfl
theorem aFs{G:oI}(D:Ad P G Θ Γ w0 M)(h:Rel w0 M T γ st a w)(o:Oper){p:Prop}{n q:Nat}{x:bD}
 (N:OV Θ st o.op=some (p,q,x)) (J:p) (m:st.ak n=none) {next:Act->World->Prop} {Q:Exit->Act->World->Prop}
 (H:∀u γ' w',Rel w0 M T γ' ((st.kill (Nat.beq q ·)).add n x) a w'->dB (aI w0 T γ' ((st.kill (Nat.beq q ·)).add n x) w') (.sv (.one (.ref n))) u->next (a.put o.dst u) w'):o.wp P a w next Q:=by
 obtain⟨g,⟨e,r,l,b,rfl⟩,⟨L,Z,Y,C,W⟩⟩:=aDI (Γ:=Γ) 0 N;have z:n≠q:=λe=>jv;have A:∀t,Nat.beq q t=false->IX q n t=t:=λt X=>aer λe=>x9;refine aww D h o g J λu j w1 E R=>?_;have F:(((st.kill (Nat.beq q ·)).add q (.arr e r l b)).ren q n)=(st.kill (Nat.beq q ·)).add n (.arr e r l b):=by
  simp only[St.ren,St.add,St.kill,St.mk.injEq,aSy];refine⟨funext λt=>AV.IY A _,funext λt=>?_⟩;cases U:Nat.beq t n with
  |true=>simp[aRs,bD.ren]
  |false=>
   cases I:Nat.beq t q with
   |true=>
    simp_all
   |false=>
    have k:Nat.beq q t=false:=by
     grind [Nat.eq_of_beq_eq_true]
    simp only[k];cases st.ak t with
    |none=>rfl
    |some y=>grind [bD.IY]
 have d:=E.ren (o:=q) (p:=n) (e:=e) (r:=r) (l:=l) (fr:=b) (by simp[St.add,aRs]) (by simp only[St.add,St.kill,VU z,m,aR3];cases Nat.beq q n<;>rfl);rw[F]at d;refine H u _ _ d ?_;obtain⟨_,O,K⟩:bY _ (.ref q) u:=R;have B:((st.kill (Nat.beq q ·)).add n (.arr e r l b)).ak n=some (.arr e r l b):=by simp[St.add,aRs]
 have i:u=(match Nat.beq n n with|true=>j q|false=>j n):=x9;exact⟨⟨e,r,l,b,B⟩,i,K⟩
end Go.Fw
