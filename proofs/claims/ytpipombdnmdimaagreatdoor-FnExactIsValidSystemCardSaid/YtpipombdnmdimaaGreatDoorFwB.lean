import Derived.Test.YtpipombdnmdimaaGreatDoorFwA
import Derived.Lib.SliceRun
import Derived.WalkSpells
namespace Go.Fw
open Go
variable {P:Program} {w0:World} {M:Nat->Prop} {T:Ext} {γ γ':Nat->Value} {st:St} {a:Act} {w w':World} {Θ:jY} {Γ:kY}
variable {lo:Nat}
theorem akv{α:Type}{l:List α}{f:List α}(h:lo+f.length<=l.length):(iL l lo f).length=l.length:=by
 grind [iL]
theorem asb{α:Type}{l:List α}{f:List α}(h:lo+f.length<=l.length)(k:Nat):
 (iL l lo f)[k]? =if k<lo then l[k]? else if k<lo+f.length then f[k-lo]? else l[k]? :=by
 grind [iL]
variable {o:Nat}{e:TypeId}{r:au}{fr:Bool}
theorem Rel.rows(h:Rel w0 M T γ st a w){l:List r.den}(F:st.ah o=some (.arr e r l fr)){b m cap:Nat}(U:γ o=.slice (some ⟨b,0,none⟩) m cap){R:Array Value}(J:w.heap[b]? =some (.cells R e (0,0)))
  {f:List r.den} {s:List Value} (hnl:s.length=f.length*r.len) (D:lo+f.length<=l.length)
 (I:∀i x,f[i]? =some x->aY w.heap ((ak w0 T γ st w).dA fr) r ((s.drop (i*r.len)).take r.len) x):
 Rel w0 M T γ (st.add o (.arr e r (iL l lo f) fr)) a (w.setRow b (R.toList.take (lo*r.len)++s++R.toList.drop (lo*r.len+s.length)).toArray):=by
 obtain⟨z,⟨E,O⟩,Q,hfr,S⟩:=h.ah o _ F;rcases O with⟨hnil,_⟩|⟨g,A,j,d,_,hh,Z,hmax,hsz,K⟩
 · grind
 .have Ic:γ o=.slice (some ⟨g,0,none⟩) l.length A:=d;rw[U]at Ic;simp at Ic;obtain⟨rfl,H,hcap⟩:=Ic;have N:j=R:=by
   grind
  subst N;have aGI:lo*r.len+f.length*r.len<=l.length*r.len:=by rw[← aIP];exact aHQ _ D
  have aDi:l.length*r.len<=A*r.len:=aHQ _ Z;have e1:j.toList.length=j.size:=aIH;refine h.write (x':=.arr e r (iL l lo f) fr) F (by rw[U];rfl) ⟨rfl,rfl⟩ _ (λle=>?_);have q:∀k,(j.toList.take (lo*r.len)++s++j.toList.drop (lo*r.len+s.length))[k]? =if k<lo*r.len then j.toList[k]? else if k<lo*r.len+s.length then s[k-lo*r.len]? else j.toList[k]? :=λk=>anW _ _ _ k lu
  have X:(j.toList.take (lo*r.len)++s++j.toList.drop (lo*r.len+s.length)).length=j.size:=by
   grind
  generalize hnd:j.toList.take (lo*r.len)++s++j.toList.drop (lo*r.len+s.length)=n at q X le ⊢;have hol:=akv D;refine⟨n.take (l.length*r.len),⟨?_,.inr ⟨b,cap,n.toArray,?_,aHV _,ado hh,?_,?_,?_,?_⟩⟩,Q,?_,?_⟩
  · grind
  · grind
  .rw[hol];omega
  .omega
  · grind
  · grind
  .omega
  .intro i x hi;have hlt:i<l.length:=by
    grind
   have C:i*r.len+r.len<=l.length*r.len:=by
    have:(i+1)*r.len<=l.length*r.len:=aHQ _ hlt
    grind
   rw[jb _ _ _ _ C];rw[asb D]at hi;have W:∀y,l[i]? =some y->(∀k,k<r.len->n[i*r.len+k]? =j.toList[i*r.len+k]?)->aY (w.setRow b n.toArray).heap (V.dA ⟨w.setRow b n.toArray,w0.heap.size,T.S,γ,(st.add o (.arr e r (iL l lo f) fr)).ah⟩ fr) r ((n.drop (i*r.len)).take r.len) y:=by
    intro y B u;have Y:=S i y B;have:(n.drop (i*r.len)).take r.len=(z.drop (i*r.len)).take r.len:=by
     rw[← K,jb _ _ _ _ C];apply aIF
     grind
    rw[this];exact aY.mono (λc L=>le.dA _ c L) _ _ y Y
   split at hi
   .next hlo=>
    refine W x hi λk u=>?_;rw[q];have:i*r.len+r.len<=lo*r.len:=by
     have:(i+1)*r.len<=lo*r.len:=aHQ _ hlo
     grind
    grind
   .next hlo=>
    split at hi
    .next hhi=>
     have Y:=I _ x hi;have e2:i*r.len=lo*r.len+(i-lo)*r.len:=by rw[← aIP];congr 1;omega
     have hm3:(i-lo)*r.len+r.len<=f.length*r.len:=by have:(i-lo+1)*r.len<=f.length*r.len:=aHQ _ lu;rw[aIP]at this;simpa using this
     have:(n.drop (i*r.len)).take r.len=(s.drop ((i-lo)*r.len)).take r.len:=by
      apply aIF;intro k;rw[aIs,aIs,aIp,aIp];by_cases t:k<r.len
      .rw[if_pos t,if_pos t,q,if_neg lu,if_pos lu];congr 1;omega
      .rw[if_neg t,if_neg t]
     rw[this];exact aY.mono (λc L=>le.dA _ c L) _ _ x Y
    .next hhi=>
     refine W x hi λk u=>?_;rw[q];have:lo*r.len+f.length*r.len<=i*r.len:=by rw[← aIP];exact aHQ _ lu
     rw[if_neg lu,if_neg lu]
theorem TY{α:Type}(l:List α)(lo:Nat):iL l lo []=l:=by
 unfold iL
 simp_all
theorem ain{x:aI}(h:st.ah o=some x):st.add o x=st:=by
 simp only[St.add]at h ⊢;congr 1
 grind [Nat.eq_of_beq_eq_true]
theorem apO(h:Rel w0 M T γ st a w){l:List r.den}(F:st.ah o=some (.arr e r l fr)){b m cap:Nat}(y:γ o=.slice (some ⟨b,0,none⟩) m cap):
 ∃R:Array Value,w.heap[b]? =some (.cells R e (0,0))/\R.size=cap*r.len/\0<r.len/\cap<=maxLen/\l.length<=cap/\
  ∀i x,l[i]? =some x->aY w.heap ((ak w0 T γ st w).dA fr) r ((R.toList.drop (i*r.len)).take r.len) x:=by
 obtain⟨z,⟨E,O⟩,n,I,C⟩:=h.ah o _ F;rcases O with⟨B,_⟩|⟨g,f,j,d,_,J,q,k,t,u⟩
 · grind
 .have Ic:γ o=.slice (some ⟨g,0,none⟩) l.length f:=d;rw[y]at Ic;obtain⟨rfl,H,rfl⟩:=Ic;refine⟨j,J,t,n,k,q,λi x D=>?_⟩;have s:i<l.length:=(aHN.1 D).1;have A:i*r.len+r.len<=l.length*r.len:=by
   have:(i+1)*r.len<=l.length*r.len:=aHQ _ s
   grind
  grind [jb]
theorem ase{h:Array Obj}{S:Nat->Prop}:∀(r:au)(I:List Value)(x:r.den),aY h S r I x->∀v∈I,v.oneCell'=true
 |.nil,I,_,H,v,K=>by grind [aY]
 |.cons c r,I,(x,y),H,v,K=>by
  obtain⟨u,d,rfl,E,O⟩:=H;rcases aHH.1 K with rfl|K
  .cases c with
   |int k=>rw[E.1];rfl
   |bool=>rw[show _=_ from E];rfl
   |str=>rw[E.1];rfl
   |sl e s=>rcases E.2 with⟨_,a,c,K⟩|⟨b,m,f,A,t,g,K,_⟩<;>rw[K]<;>rfl
  .exact ase r d y O v K
theorem apP{h:Array Obj}{S:Nat->Prop}(d:0<r.len){f:List r.den}{k:List Value}(q:k.length=f.length*r.len)(b:∀i x,f[i]? =some x->aY h S r ((k.drop (i*r.len)).take r.len) x):∀u∈k,u.oneCell'=true:=by
 intro u s;obtain⟨j,t⟩:=aJq s;have g:j / r.len<f.length:=Nat.div_lt_of_lt_mul ny;have l:=b (j / r.len) _ (aHK g);refine ase _ _ _ l u ?_;have m:=Nat.div_add_mod j r.len;have n:=Nat.mod_lt j d;refine aH5 (i:=j%r.len) ?_
 grind
variable {t ty:TypeId}{p:Prop}
theorem afW(W:∀t J,Θ t=some J->nY P t J)(h:Rel w0 M T γ st a w){J:TI}(ht:Θ t=some J){sx x:Operand}{MJ F o2 b d:Nat}(e1:st.ev sx=.win o MJ F)(e2:st.ev x=.win o2 b d)
  {v:AV} {s:St} (L:adb Θ st J o MJ F o2 b d=some (p,v,s)) (C:p):
 ∃u w',(Builtin.append_ #[t,t] ty #[a.eval sx,a.eval x]).run P w=.ok u w'/\Rel w0 M T γ s a w'/\bD (ak w0 T γ s w') v u:=by
 unfold adb at L;split at L
 .next e f r l fr hb hk ho=>
  rw[aHy]at hb;have N:=aHA hb.1;have hoo:=aHA hb.2;subst N hoo;split at L
  .next te he=>
   split at L
   .next hbe=>
    rw[aHy]at hbe;have hef:=aHA hbe.2;have hte:=au.eq_of_beq _ _ hbe.1;cases L;subst hef;obtain⟨hp1,hp2⟩:=C;obtain⟨g,m,y,e',r',l',fr',Z,n,⟨q,hq,K,hle⟩⟩:=adn h e1;rw[ho]at Z;cases Z;obtain⟨g2,m2,cap2,e'',r'',l'',aGU,U,Y,⟨q2,hq2,S,hle2⟩⟩:=adn h e2;rw[n]at Y;simp at Y;obtain⟨rfl,rfl,rfl⟩:=Y;rw[ho]at U;cases U;obtain⟨R,hh,hsz,O,hmax,hlc,Q⟩:=apO h ho n;obtain⟨i,z,D,B,hby,hz,hzv,_⟩:=(W e te he).info;have hu:=(W t J ht).und;rw[hk]at hu;rw[hte]at B;by_cases hn2:d=0
    .subst hn2;refine⟨.slice (some ⟨g,q,none⟩) F (y-0),w,?_,?_,?_⟩
     .rw[K,S];have hnc:F<=y:=lu;rw[Nat.sub_zero];simp[Builtin.append_,aHZ hu.1 w,sizeOf,typeInfo,D,Builtin.lenOf,Builtin.firstCells,hnc,storeCells,loadCells,loadCellsFrom]
     · grind [TY,ain]
     .have:iL l F ((l.drop b).take 0)=l:=by grind [TY]
      rw[this,ain ho];exact⟨g,m,y,e,r,l,fr,ho,n,q,hq,rfl,lu⟩
    .have hq0:q=0:=lu;have aEV:q2=b*r.len:=lu;subst hq0 aEV;have aGJ:((l.drop b).take d).length=d:=ny
     let X:List Value:=(R.toList.drop (b*r.len)).take (d*r.len)
     have ec:R.toList.length=R.size:=aIH;have hm1:b*r.len+d*r.len<=y*r.len:=by rw[← aIP];simp_all [aHQ]
     have hm0:F*r.len+d*r.len<=y*r.len:=by rw[← aIP];exact aHQ _ lu
     have hnl:X.length=d*r.len:=by
      grind
     have k:∀i x,((l.drop b).take d)[i]? =some x->aY w.heap ((ak w0 T γ st w).dA fr) r ((X.drop (i*r.len)).take r.len) x:=by
      intro i x D;have A:i<d:=by
       grind
      rw[aIs,if_pos A,aIp]at D;have hR:=Q (b+i) x D;have hmul:i*r.len+r.len<=d*r.len:=by
       have:(i+1)*r.len<=d*r.len:=aHQ _ A
       grind
      grind [jb,List.drop_drop,Nat.add_mul]
     have RV:=apP O ny k;have H:∀j u,X[j]? =some u->w.cell? ((⟨g,b*r.len,none⟩:Addr).add j)=some u:=by intro j u hj;rw[addr_add];exact Zx hh _ j u hj
     have I:F+d<=y:=lu;have E:=run_append_room (P:=P) (ty:=ty) (w:=w) t e i hu.1 D g F y R hh ⟨g,b*r.len,none⟩ d (y-b) X ny H RV I ny;rw[B]at E;refine⟨_,_,by rw[K,S];exact E,h.rows ho n hh ny lu k,?_⟩;exact⟨g,m,y,e,r,_,fr,add_same _ _ _,n,0,.inl lu,rfl,lu⟩
   .cases L
  .cases L
 .cases L
theorem anX{z:Array Value}(g:z.toList=r.rO)(f:0<r.len)(n:Nat):(Builtin.zeroCells z n).toList.length=n*r.len/\∀i,i<n->((Builtin.zeroCells z n).toList.drop (i*r.len)).take r.len=r.rO:=by
 have b:z.size=r.len:=by grind [Ho]
 have Y:(Builtin.zeroCells z n).toList.length=n*r.len:=by simp[Builtin.zeroCells,b]
 refine⟨Y,λi D=>?_⟩;have d:i*r.len+r.len<=n*r.len:=by
  have:(i+1)*r.len<=n*r.len:=aHQ _ D
  grind
 grind [List.ext_getElem,List.length_take,Nat.add_mul_mod_self_right,Nat.mod_eq_of_lt,Array.length_toList,Builtin.zeroCells]
theorem aio(B:∀t j,Θ t=some j->nY P t j)(h:Rel w0 M T γ st a w){j:TI}(ht:Θ t=some j){x:Operand}{n:Nat}(O:st.ev x=.win o lo n)
  {v:AV} {s:St} (L:aie Θ st j o lo n=some (p,v,s)) (C:p):
 ∃u w',(Builtin.clear_ #[t] ty #[a.eval x]).run P w=.ok u w'/\Rel w0 M T γ s a w'/\bD (ak w0 T γ s w') v u:=by
 unfold aie at L;split at L
 .next e f r l fr hk ho=>
  split at L
  .next te he=>
   split at L
   .next hbe=>
    rw[aHy]at hbe;have E:=aHA hbe.2;have F:=au.eq_of_beq _ _ hbe.1;cases L;subst E;obtain⟨g,m,y,e',r',l',Q,Z,D,⟨q,hq,K,U⟩⟩:=adn h O;rw[ho]at Z;cases Z;obtain⟨R,H,hsz,d,I,S,J⟩:=apO h ho D;have hu:=(B t j ht).und;cases n with
    |zero=>
     refine⟨.tuple #[],w,?_,?_,⟨#[],rfl,trivial⟩⟩
     · simp_all [Builtin.clear_,aHZ]
     grind [TY,ain]
    |succ k=>
     have Y:q=lo*r.len:=lu;obtain⟨z,hz,A⟩:=abJ (P:=P) (w:=w) (B e te he);rw[F]at A;obtain⟨X,hzr⟩:=anX A d (k+1);have W:lo*r.len+(k+1)*r.len<=y*r.len:=by rw[← aIP];simp_all [aHQ]
     have hrl:(List.replicate (k+1) r.dflt).length=k+1:=aJm;have b:∀i x,(List.replicate (k+1) r.dflt)[i]? =some x->aY w.heap ((ak w0 T γ st w).dA fr) r (((Builtin.zeroCells z.cells (k+1)).toList.drop (i*r.len)).take r.len) x:=by
      grind [adi]
     have N:=apP d ny b;have hst:=run_storeCells_at P g (lo*r.len) e (Builtin.zeroCells z.cells (k+1)).toList 0 R w H lu N;refine⟨.tuple #[],_,?_,h.rows ho D H ny lu b,⟨#[],rfl,trivial⟩⟩
     simp_all [Builtin.clear_,aHZ]
   .cases L
  .cases L
 .cases L
theorem Rel.update(h:Rel w0 M T γ st a w){K D:Nat->Bool}{H:Nat->Prop}{oC:Nat->Option aI}{γ2:Nat->Value}
 (hos:w'.os=w.os) (u:w'.tape=w.tape) (N:w'.output=w.output) (k:w.heap.size<=w'.heap.size)
 (hH:∀b,H b->∃o x,st.ah o=some x/\blk (γ o)=some b)
 (f:∀b,b<w.heap.size->¬H b->w'.heap[b]? =w.heap[b]?)
 (E:∀p,D p=false->oC p=(st.kill K).ah p/\γ2 p=γ p)
 (O:∀p x b,D p=false->K p=false->st.ah p=some x->blk (γ p)=some b->¬H b)
 (U:∀p x,D p=true->oC p=some x->∀b,blk (γ2 p)=some b->b<w'.heap.size/\(w.heap.size<=b\/H b))
 (h3':V.pV K (ak w0 T γ st w) ⟨w',w0.heap.size,T,γ2,oC⟩->∀p x,D p=true->oC p=some x->cu ⟨w',w0.heap.size,T,γ2,oC⟩ p x)
 (j:∀p q x y b,D p=true->D q=true->oC p=some x->oC q=some y->p≠q->blk (γ2 p)=some b->blk (γ2 q)≠some b)
 (h5:∀p A,D p=true->K p=false->st.ah p=some (.var A)->(∃m,oC p=some (.var m))/\γ2 p=γ p)
 (h6:∀p e r l fr,D p=true->K p=false->st.ah p=some (.arr e r l fr)->(∃l' S,oC p=some (.arr e r l' S))/\γ2 p=γ p)
 (h7:∀p A,D p=true->oC p=some (.var A)->(∃s,st.ah p=some (.var s)/\γ2 p=γ p)\/T.N p=none):
 Rel w0 M T γ2 {n:=st.n,tmps:=λt=>(st.tmps t).kill K,ah:=oC} a w'/\V.pV K (ak w0 T γ st w) ⟨w',w0.heap.size,T,γ2,oC⟩:=by
 have W:∀b,H b->b<w.heap.size/\(w0.heap.size<=b\/M b):=λb J=>by obtain⟨o,x,F,C⟩:=hH b J;exact h.lt o x b F C
 have R:∀b,(ak w0 T γ st w).foot b->¬H b:=λb J hh=>by obtain⟨o,x,F,C⟩:=hH b hh;exact J.2.2 o x F C
 have i:∀p x,D p=false->oC p=some x->∃y,st.ah p=some y/\x=y.kill K/\K p=false:=λp x d Z=>by
  grind [AL]
 have le:V.pV K (ak w0 T γ st w) ⟨w',w0.heap.size,T,γ2,oC⟩:=by
  refine⟨aHv _,λb J=>⟨⟨aHR J.1 k,J.2.1,λo x Z e=>?_⟩,f b J.1 (R b J)⟩,λo A I F=>?_,λo e r l fr I F=>?_⟩
  .cases d:D o with
   |false=>
    obtain⟨y,B,_,_⟩:=i o x d Z;have e':blk (γ2 o)=some b:=e;rw[(E o d).2]at e';exact J.2.2 o y B e'
   |true=>
    rcases(U o x d Z b e).2 with h'|h'
    .have hlt:b<w.heap.size:=J.1;omega
    grind
  .have ho':st.ah o=some (.var A):=F;cases d:D o with
   |false=>
    refine⟨⟨A.map (Cell.kill K),?_⟩,(E o d).2⟩;show oC o=_;rw[(E o d).1];exact qE K I ho'
   |true=>grind
  .have ho':st.ah o=some (.arr e r l fr):=F;cases d:D o with
   |false=>
    refine⟨⟨l,fr,?_⟩,(E o d).2⟩;show oC o=_;rw[(E o d).1];exact qE K I ho'
   |true=>grind
 refine⟨⟨h.mT,h.defers,h.size,hos.trans h.os,u.trans h.tape,N.trans h.output,aHw h.grow k,λb J hM=>?_,λt=>bD.pV le _ _ (h.tmps t),λo x Z=>?_,λo x b Z J=>?_,λo x p y b Z B hop J=>?_,λo v A hN Z=>?_⟩,le⟩
 .rw[f b (aHR J h.grow) λhh=>by
   grind]
  exact h.kept b J hM
 .cases d:D o with
  |false=>
   obtain⟨y,B,rfl,I⟩:=i o x d Z;exact cu.pV le o y (λb J=>f b (h.lt o y b B J).1 (O o y b d I B J)) (E o d).2 (h.ah o y B)
  |true=>grind
 .cases d:D o with
  |false=>
   obtain⟨y,B,rfl,I⟩:=i o x d Z;rw[(E o d).2]at J;have:=h.lt o y b B J
   grind
  |true=>have:=U o x d Z b J;exact⟨this.1,this.2.elim (λg=>.inl (aHw h.grow g)) λg=>(W b g).2⟩
 .cases d:D o with
  |false=>
   obtain⟨y1,Q,rfl,hK1⟩:=i o x d Z;rw[(E o d).2]at J;have Y:=h.lt o y1 b Q J;cases L:D p with
   |false=>
    obtain⟨y2,z,rfl,X⟩:=i p y L B;rw[(E p L).2];exact h.sep o y1 p y2 b Q z hop J
   |true=>
    grind
  |true=>
   cases L:D p with
   |false=>
    obtain⟨y2,z,rfl,X⟩:=i p y L B;rw[(E p L).2];intro e;have Y:=h.lt p y2 b z e
    grind
   |true=>grind
 .cases d:D o with
  |false=>
   obtain⟨y,B,e,_⟩:=i o _ d Z;rw[(E o d).2];cases y with
   |var m=>exact h.pin o v m hN B
   |arr _ _ _ _=>cases e
  |true=>
   rcases h7 o A d Z with⟨s,g1,g2⟩|g
   .rw[g2];exact h.pin o v s hN g1
   grind
def ML(b:Bool)(st:St)(x:AV)(a:Arg)(o:Option Nat):Prop:=
 (o=none/\(b=true->x.refs=[])/\rJ st [x]=some [a])\/
 (∃p e r l fr,o=some p/\x=.sv (.one (.ref p))/\st.ah p=some (.arr e r l fr)/\a=.own e r l)\/
 (∃p A,o=some p/\x=.eG p 0/\st.ah p=some (.var A)/\A.flatMap Cell.refs=[]/\a=.ptr (A.map (Cell.view st)))
theorem Ua{m:Mode}{x:AV}{a:Arg}{o:Option Nat}(h:vK st m x=some (a,o)):ML true st x a o:=by
 cases m with
 |val=>
  simp only[vK]at h;split at h
  .next a' hr ha=>cases h;exact .inl ⟨rfl,λ_=>hr,ha⟩
  .cases h
 |own=>
  simp only[vK]at h;split at h
  .split at h
   .next p _ e r l fr ho=>cases h;exact .inr (.inl ⟨p,e,r,l,fr,rfl,rfl,ho,rfl⟩)
   .cases h
  .cases h
 |ptr=>
  simp only[vK]at h;split at h
  .split at h
   .next p off _ _ cs S ho=>
    split at h
    .next hr=>cases h;have S:=aHA S;subst S;exact .inr (.inr ⟨p,cs,rfl,rfl,ho,hr,rfl⟩)
    .cases h
   .cases h
  .cases h
def uX(b:Bool)(st:St):List AV->List Arg->List (Option Nat)->Prop
 |[],[],[]=>True
 |x::xs,a::as,o::os=>ML b st x a o/\uX b st xs as os
 |_,_,_=>False
theorem ZB:∀(f:List Mode)(z:List AV)(b:List Arg)(d:List (Option Nat)),hands st f z=some (b,d)->uX true st z b d
 |_,[],b,d,h=>by cases h;trivial
 |f,x::z,b,d,h=>by
  unfold hands at h;split at h
  .next a o as' os' h1 h2=>cases h;exact⟨Ua h1,ZB f.tail z as' os' h2⟩
  .cases h
variable {nr:Bool}
theorem uX.get:∀{z:List AV}{d:List Arg}{f:List (Option Nat)},uX nr st z d f->∀(i:Nat)(a:Arg),d[i]? =some a->∃x o,z[i]? =some x/\f[i]? =some o/\ML nr st x a o
 |[],[],[],_,i,a,h=>XD
 |x::z,b::d,o::f,⟨h1,h2⟩,0,a,h=>ny
 |x::z,b::d,o::f,⟨h1,h2⟩,i+1,a,h=>by
  obtain⟨y,q,g,j,k⟩:=h2.get i a y7
  grind
 |[],[],_::_,H,_,_,_|[],_::_,_,H,_,_,_|_::_,[],_,H,_,_,_|_::_,_::_,[],H,_,_,_=>H.elim
theorem uX.length:∀{z:List AV}{d:List Arg}{f:List (Option Nat)},uX nr st z d f->d.length=z.length/\f.length=z.length
 |[],[],[],_=>⟨rfl,rfl⟩
 |x::z,b::d,o::f,⟨_,h2⟩=>by simp[h2.length.1,h2.length.2]
 |[],[],_::_,H|[],_::_,_,H|_::_,[],_,H|_::_,_::_,[],H=>H.elim
def γE(os:List (Option Nat))(γ:Nat->Value)(p:Nat):Value:=match os[p / 64]? with|some (some o)=>γ o|_=>undef
variable {xs:List AV}{as:List Arg}{os:List (Option Nat)}{q:Nat}
theorem adp(d:uX nr st xs as os){X:aI}(i:gQ as q=some X):
 ∃o Y,os[q / 64]? =some (some o)/\st.ah o=some Y/\((∃e r l fr,X=.arr e r l false/\Y=.arr e r l fr/\q%64=49)\/(∃A,X=.var (A.map (Cell.view st))/\Y=.var A/\A.flatMap Cell.refs=[]/\q%64=48)):=by
 unfold gQ at i;split at i
 .next e r l ha=>
  split at i
  .next b=>
   have b:=aHA b;obtain⟨x,o,_,F,E⟩:=d.get _ _ ha;rcases E with⟨_,_,U⟩|⟨p,f,h,g,fr,rfl,_,C,j⟩|⟨p,A,_,_,_,_,j⟩
   .unfold rJ at U;split at U
    .split at U<;>simp at U
    .split at U<;>simp at U
    .split at U<;>simp at U
    .cases U
   · grind
   .cases j
  .cases i
 .next cs0 ha=>
  split at i
  .next b=>
   have b:=aHA b;obtain⟨x,o,_,F,E⟩:=d.get _ _ ha;rcases E with⟨_,_,U⟩|⟨p,f,h,g,fr,_,_,_,j⟩|⟨p,A,rfl,_,C,W,j⟩
   .unfold rJ at U;split at U
    .split at U<;>simp at U
    .split at U<;>simp at U
    .split at U<;>simp at U
    .cases U
   .cases j
   grind
  .cases i
 .cases i
theorem Xf:∀{os:List (Option Nat)},DF os=true->∀(i j:Nat)(o:Nat),os[i]? =some (some o)->os[j]? =some (some o)->i=j:=by
 have b:∀(os:List (Option Nat))(i o:Nat),os[i]? =some (some o)->ada o os=true:=by
  intro os
  induction os with
  |nil=>grind
  |cons x os ih=>
   intro i o h;cases i with
   |zero=>simp_all [ada]
   |succ i=>
    cases x with
    |none=>grind [ada]
    |some p=>grind [ada]
 intro os
 induction os with
 |nil=>grind
 |cons x os ih=>
  cases x with
  |none=>
   grind [DF]
  |some p=>
   grind [DF]
theorem cu.anY{Y Z:V}{p:Nat}{l:List r.den}{d:Bool}(H:cu Y q (.arr e r l fr))(j:Z.γ p=Y.γ q)(m:Z.w=Y.w)
 (k:∀b,Y.dA fr b->Z.dA d b) (h:∀b,blk (Y.γ q)=some b->d=true->Z.n0<=b):cu Z p (.arr e r l d):=by
 obtain⟨xs,g,W,_,n⟩:=H;refine⟨xs,?_,W,λb J f=>h b ny f,λi x D=>?_⟩
 · grind
 grind [aY.mono]
theorem LY{Y Z:V}(x:Z.w=Y.w)(d:∀fr b,Y.dA fr b->Z.dA fr b):∀(A:List Cell)(I:List Value),A.flatMap Cell.refs=[]->ai Y A I->ai Z A I
 |[],[],_,H=>H
 |c::A,v::I,hr,⟨h1,h2⟩=>by
  rw[aIr,aIc]at hr;refine⟨?_,LY x d A I hr.2 h2⟩;cases c with
  |ref o=>cases hr.1
  |sl e r l fr=>
   show dw Z.w.heap (Z.dA fr) (.sl e r) v l;rw[x];exact dw.mono (λb J=>⟨d fr b J,rfl⟩) (.sl e r) v l h1
  |_=>exact h1
 |[],_::_,_,H|_::_,[],_,H=>RS
theorem aip{X:V}:∀(as:List Arg)(s:List Value)(i:Nat),as.length=s.length->(∀j a u,as[j]? =some a->s[j]? =some u->TV X (i+j) a u)->EP X i as s
 |[],[],_,_,_=>trivial
 |a::as,u::s,i,hl,h=>⟨h 0 a u rfl rfl,aip as s (i+1) (by simpa using hl) λj b v J K=>by
   have:=h (j+1) b v (by simpa using J) (by simpa using K)
   grind⟩
 |[],_::_,_,hl,_|_::_,[],_,hl,_=>by simp at hl
theorem qJ.get{X:V}:∀(xs:List AV)(s:List Value),qJ X xs s->xs.length=s.length/\∀(i:Nat)(x:AV)(u:Value),xs[i]? =some x->s[i]? =some u->bD X x u
 |[],[],_=>⟨rfl,λi x u h=>XD⟩
 |x::xs,u::s,⟨h1,h2⟩=>by
  obtain⟨b,d⟩:=qJ.get xs s h2;refine⟨by simp[b],λi y v B K=>?_⟩;cases i with
  |zero=>simp at B K;subst B K;exact h1
  |succ i=>exact d i y v (by simpa using B) (by simpa using K)
 |[],_::_,H|_::_,[],H=>RS
theorem RX:∀{os:List (Option Nat)}{b:List Eff}{n:List (Nat×aI)},qR st os b=some n->∀(p:Nat),
 (∀(x:aI),Fw.look n p=some x->∃i:Nat,os[i]? =some (some p)/\
   ((∃(e:TypeId)(r:au)(l u:List r.den)(fr:Bool),b[i]? =some (.arr e r l)/\st.ah p=some (.arr e r u fr)/\x=.arr e r l false)\/(∃(A k:List Cell),b[i]? =some (.var A)/\st.ah p=some (.var k)/\A.flatMap Cell.refs=[]/\x=.var A)))/\
 (∀i:Nat,os[i]? =some (some p)->Fw.look n p=none->jZ os b p=true)
 |[],b,n,h,p=>by
  cases h;exact⟨(λx Z=>O6),(λi D=>by simp at D)⟩
 |none::os,b,n,h,p=>by
  rw[qR]at h;obtain⟨E,O⟩:=RX h p
  grind [jZ]
 |some o::os,b,n,h,p=>by
  unfold qR at h;have m:∀{j}(_:qR st os b.tail=some j),(∀(x:aI),Fw.look j p=some x->∃i:Nat,(some o::os)[i]? =some (some p)/\
   ((∃(e:TypeId)(r:au)(l u:List r.den)(fr:Bool),b[i]? =some (.arr e r l)/\st.ah p=some (.arr e r u fr)/\x=.arr e r l false)\/(∃(A k:List Cell),b[i]? =some (.var A)/\st.ah p=some (.var k)/\A.flatMap Cell.refs=[]/\x=.var A)))/\
   (∀i:Nat,os[i]? =some (some p)->Fw.look j p=none->jZ os b.tail p=true):=by
   intro j d;obtain⟨E,O⟩:=RX d p
   grind
  have z:∀{y:Eff},b.head?=some y->b[0]? =some y:=λB=>by cases b<;>simp at B ⊢;exact B
  have C:∀(_:jZ os b.tail p=true),jZ (some o::os) b p=true:=λg=>by
   grind [jZ]
  split at h
  .next j hh d=>
   cases h;obtain⟨E,O⟩:=m d;refine⟨E,λi D H=>?_⟩;cases i with
   |zero=>
    simp_all [jZ]
   |succ i=>grind
  .next e r l f s u fr0 j hh ho d=>
   split at h
   .next hb=>
    cases h;rw[aHy]at hb;have F:=aHA hb.1;have W:=au.eq_of_beq r s hb.2;subst F W;obtain⟨E,O⟩:=m d;refine⟨λx Z=>?_,λi D H=>?_⟩
    · grind [Fw.look,Nat.eq_of_beq_eq_true]
    .rw[Fw.look]at H;split at H
     .cases H
     .next hln=>
      split at H
      .cases H
      .next hpo=>
       cases i with
       |zero=>simp_all
       |succ i=>grind
   .cases h
  .next A k j hh ho d=>
   split at h
   .next W=>
    cases h;obtain⟨E,O⟩:=m d;refine⟨λx Z=>?_,λi D H=>?_⟩
    · grind [Fw.look,Nat.eq_of_beq_eq_true]
    .rw[Fw.look]at H;split at H
     .cases H
     .next hln=>
      split at H
      .cases H
      .next hpo=>
       cases i with
       |zero=>simp_all
       |succ i=>grind
   .cases h
  .cases h
theorem NQ:∀{os:List (Option Nat)}{d:List Eff}{m:List (Nat×aI)},qR st os d=some m->∀(i p:Nat),os[i]? =some (some p)->
 d[i]? =some .lose\/(∃(e:TypeId)(r:au)(l:List r.den),d[i]? =some (.arr e r l)/\∃x:aI,Fw.look m p=some x)\/(∃(A:List Cell),d[i]? =some (.var A)/\∃x:aI,Fw.look m p=some x)
 |[],d,m,h,i,p,hi=>by simp at hi
 |none::os,d,m,h,i,p,hi=>by
  rw[qR]at h;cases i with
  |zero=>simp at hi
  |succ i=>
   have:=NQ h i p ah2
   grind
 |some o::os,d,m,h,i,p,hi=>by
  unfold qR at h;have u:∀{y:Eff},d.head?=some y->d[0]? =some y:=λB=>by cases d<;>simp at B ⊢;exact B
  have n:∀{b:List (Nat×aI)}{z:aI},(∃x:aI,Fw.look b p=some x)->∃x:aI,Fw.look ((o,z)::b) p=some x:=λ⟨x,Z⟩=>⟨x,by rw[Fw.look,Z]⟩;have C:∀{b:List (Nat×aI)}{z:aI},∃x:aI,Fw.look ((o,z)::b) o=some x:=by
   intro b z;rw[Fw.look];cases Fw.look b o with
   |some y=>grind
   |none=>simp
  split at h
  .next b hh hδ=>
   cases i with
   |zero=>grind
   |succ i=>have:=NQ hδ i p ah2;grind
  .next e r l f s l0 fr0 b hh ho hδ=>
   split at h
   .cases h;cases i with
    |zero=>simp_all
    |succ i=>have:=NQ hδ i p ah2;rw[List.getElem?_tail]at this;exact this.imp id λg=>g.imp (λ⟨e,r,l,j,k⟩=>⟨e,r,l,j,n k⟩) λ⟨A,j,k⟩=>⟨A,j,n k⟩
   .cases h
  .next A cs0 b hh ho hδ=>
   split at h
   .cases h;cases i with
    |zero=>simp_all
    |succ i=>have:=NQ hδ i p ah2;rw[List.getElem?_tail]at this;exact this.imp id λg=>g.imp (λ⟨e,r,l,j,k⟩=>⟨e,r,l,j,n k⟩) λ⟨A,j,k⟩=>⟨A,j,n k⟩
   .cases h
  .cases h
variable {aV:List Eff}
theorem ahd{δ:List (Nat×aI)}(h:Qu aV δ=true){x:aI}(Q:Fw.look δ o=some x):rM aV o=none:=by
 have:=aHS.1 h _ (Bo δ o x Q)
 simp_all
theorem avd{i:Nat}:(∀(e:TypeId)(r:au)(l:List r.den),aV[i]? =some (.arr e r l)->rM aV (i*64+49)=some (.arr e r l false))/\
 (∀A:List Cell,aV[i]? =some (.var A)->rM aV (i*64+48)=some (.var A)):=by
 have E:(i*64+49) / 64=i:=lu;have U:(i*64+48) / 64=i:=lu
 simp_all [rM]
theorem VQ{X:aI}(h:rM aV q=some X):(∃(e:TypeId)(r:au)(l:List r.den),aV[q / 64]? =some (.arr e r l)/\X=.arr e r l false/\q=q / 64*64+49)\/
 (∃A:List Cell,aV[q / 64]? =some (.var A)/\X=.var A/\q=q / 64*64+48):=by
 unfold rM at h;split at h
 · grind [Nat.eq_of_beq_eq_true]
 · grind [Nat.eq_of_beq_eq_true]
 .cases h
variable {k:Nat}
theorem Rel.adq(h:Rel w0 M T γ st a w)
 (hh:uX nr st xs as os) {out:Out}   (asf:k%64=1) {δ:List (Nat×aI)}
 (J:qR st os aV=some δ) (hfr:kZ (st.kill (jZ os aV)) (out.take k).2=true) {e:Ending}
 (hpost:VO (ak w0 T γ st w).foot as (γE os γ) w k out aV e w'):
 ∃v γ',e=.returned v/\Rel w0 M T γ' (((st.kill (jZ os aV)).adds δ).adds (out.take k).2) a w'/\bD (ak w0 T γ' (((st.kill (jZ os aV)).adds δ).adds (out.take k).2) w') (out.take k).1 v:=by
 let S:=(ak w0 T γ st w).foot
 let E:=gQ as
 let ge:=γE os γ
 let XE:V:=⟨w,w.heap.size,S,ge,E⟩
 have hge:∀{q o:Nat},os[q / 64]? =some (some o)->ge q=γ o:=λm=>by show(match os[_ / 64]? with|some (some o)=>γ o|_=>undef)=_;rw[m]
 have hEs:∀{q:Nat}{X:aI},E q=some X->_:=λm=>adp hh m;have adr:∀b,S b->XE.foot b:=λb J=>⟨J.1,λ_=>J,λq X m=>by obtain⟨o,Y,F,hY,_⟩:=hEs m;show blk (ge q)≠some b;rw[hge F];exact J.2.2 o Y hY⟩;have hbl:∀{q:Nat}{X:aI},E q=some X->∀b,blk (ge q)=some b->b<w.heap.size/\(w0.heap.size<=b\/M b):=λm b J=>by obtain⟨o,Y,F,hY,_⟩:=hEs m;rw[hge F]at J;exact h.lt o Y b hY J
 obtain⟨v,γ',rfl,h1,O,U,j,h5,h6,h7,h8,h9⟩:=hpost
 let d:=(out.take k).2
 let K:=jZ os aV
 let H:Nat->Prop:=ER E ge
 let γ2:Nat->Value:=λq=>match Fw.look d q with|some _=>γ' q|none=>γ q
 let D:Nat->Bool:=λq=>(Fw.look δ q).isSome||(Fw.look d q).isSome
 let oC:Nat->Option aI:=(((st.kill K).adds δ).adds d).ah
 have VR:∀q,oC q=match Fw.look d q with|some y=>some y|none=>match Fw.look δ q with|some y=>some y|none=>(st.kill K).ah q:=λq=>by
  grind [xw]
 have air:∀{q:Nat}{y:aI},Fw.look d q=some y->γ2 q=γ' q:=λm=>ny;have ZC:∀{q:Nat},Fw.look d q=none->γ2 q=γ q:=λm=>ny;have hH:∀b,H b->∃o x,st.ah o=some x/\blk (γ o)=some b:=by
  rintro b ⟨q,X,m,J⟩
  grind
 have f:∀{q:Nat}{x:aI},Fw.look δ q=some x->∃c,rM aV c=some x/\ge c=γ q/\os[c / 64]? =some (some q)/\
  ((∃(e:TypeId)(r:au)(l l0:List r.den)(fr:Bool),st.ah q=some (.arr e r l0 fr)/\x=.arr e r l false)\/(∃(A cs0:List Cell),st.ah q=some (.var cs0)/\A.flatMap Cell.refs=[]/\x=.var A)):=by
  intro q x m;obtain⟨i,hi,u⟩:=(RX J q).1 x m;have d1:(i*64+49) / 64=i:=lu;have d3:(i*64+48) / 64=i:=lu;rcases u with⟨e,r,l,l0,fr,g1,g2,rfl⟩|⟨A,cs0,g1,g2,g3,rfl⟩
  .exact⟨i*64+49,avd.1 e r l g1,hge ny,ny,.inl ⟨e,r,l,l0,fr,g2,rfl⟩⟩
  .exact⟨i*64+48,avd.2 A g1,hge ny,ny,.inr ⟨A,cs0,g2,g3,rfl⟩⟩
 have aAI:∀{q:Nat}{y:aI},rM aV q=some y->∀b,blk (ge q)=some b->b<w.heap.size:=by
  intro q y m b hbk;have hbk0:=hbk;show b<w.heap.size;have:∃o,os[q / 64]? =some (some o):=by
   have hbk':blk (match os[q / 64]? with|some (some o)=>γ o|_=>undef)=some b:=hbk;cases F:os[q / 64]? with
   |none=>rw[F]at hbk';cases hbk'
   |some z=>cases z with
    |none=>rw[F]at hbk';cases hbk'
    |some o=>grind
  obtain⟨o,F⟩:=this;rw[hge F]at hbk;have hex:∃Y,st.ah o=some Y:=by
   rcases NQ J _ _ F with g|⟨e,r,l,g,x,hx⟩|⟨A,g,x,hx⟩
   .rcases VQ m with⟨e,r,l,g',_⟩|⟨A,g',_⟩<;>(rw[g]at g';cases g')
   .obtain⟨c,_,_,_,u⟩:=f hx;rcases u with⟨_,_,_,_,_,g,_⟩|⟨_,_,g,_⟩<;>exact⟨_,g⟩
   .obtain⟨c,_,_,_,u⟩:=f hx;rcases u with⟨_,_,_,_,_,g,_⟩|⟨_,_,g,_⟩<;>exact⟨_,g⟩
  obtain⟨Y,hY⟩:=hex;exact(h.lt o Y b hY hbk).1
 let Y2:V:=⟨w',w.heap.size,wo S as aV ge,γ',Fw.look d⟩
 have hKH:∀q x b,D q=false->K q=false->st.ah q=some x->blk (γ q)=some b->¬H b:=by
  rintro q x b hD hK m hbq ⟨c,X,L,hbc⟩;obtain⟨o,Y,F,hY,_⟩:=hEs L;rw[hge F]at hbc;by_cases hoq:o=q
  .subst hoq;have hD':Fw.look δ o=none:=by
    have:(Fw.look δ o).isSome=false:=by
     grind
    simp_all
   have:=(RX J o).2 _ F hD'
   grind
  .exact h.sep o Y q x b hY m hoq hbc hbq
 have axE:∀b,Y2.foot b->V.foot ⟨w',w0.heap.size,T,γ2,oC⟩ b:=by
  intro b C;refine⟨C.1,λhlt=>?_,λq x m e=>?_⟩
  .have hlt0:b<w0.heap.size:=hlt;have hlt':b<w.heap.size:=aHR hlt0 h.grow;rcases(C.2.1 hlt').1 with g|⟨c,X,L,hbc⟩
   .exact g.2.1 hlt
   .exact h.mT b ((hbl L b hbc).2.resolve_left lu)
  .have hq':oC q=some x:=m;have e':blk (γ2 q)=some b:=e;rw[VR]at hq';cases B:Fw.look d q with
   |some y=>
    rw[air B]at e';exact C.2.2 q y B e'
   |none=>
    rw[ZC B]at e';rw[B]at hq';cases Q:Fw.look δ q with
    |some y=>
     obtain⟨c,hcF,hcg,hco,_⟩:=f Q;rw[← hcg]at e';have hlt:b<w.heap.size:=aAI hcF b e';exact(C.2.1 hlt).2 c y hcF e'
    |none=>
     rw[Q]at hq';obtain⟨z,hz,_,hKq⟩:=AL K hq';have hlt:=(h.lt q z b hz e').1;rcases(C.2.1 hlt).1 with g|g
     .exact g.2.2 q z hz e'
     grind
 have ave:∀fr b,Y2.dA fr b->V.dA ⟨w',w0.heap.size,T,γ2,oC⟩ fr b:=λfr b C=>⟨axE b C.1,λe=>⟨aHw h.grow (C.2 e).1,(C.2 e).2⟩⟩;have hle2:V.le Y2 ⟨w',w0.heap.size,T,γ2,oC⟩:=by
  have N:∀{o:Nat}{x:aI},Fw.look d o=some x->oC o=some x:=λQ=>by rw[VR,Q]
  exact⟨h.grow,λb C=>⟨axE b C,rfl⟩,λo A Q=>⟨⟨A,N Q⟩,air Q⟩,λo e r l fr Q=>⟨⟨l,fr,N Q⟩,air Q⟩⟩
 have hmain:=h.update (w':=w') (K:=K) (D:=D) (H:=H) (oC:=oC) (γ2:=γ2) h1 O U j hH h5
  (λq hD=>by
    grind)
  hKH
  (λq x hD m b hbq=>by
    rw[VR]at m;cases B:Fw.look d q with
    |some y=>
     grind
    |none=>
     rw[ZC B]at hbq;rw[B]at m;cases Q:Fw.look δ q with
     |some y=>
      obtain⟨c,hcF,hcg,hco,u⟩:=f Q;rw[← hcg]at hbq;have hlt:=aAI hcF b hbq;refine⟨aHR hlt j,.inr ?_⟩;have hcE:∃X,E c=some X:=by
       obtain⟨x',o',hx',ho',hone⟩:=hh.get (c / 64) (as[c / 64]' aat) (aHK _);rw[hco]at ho';cases ho';rcases hone with⟨g,_⟩|⟨q',e,r,l,fr,g1,_,g2,g3⟩|⟨q',A,g1,_,g2,_,g3⟩
       .cases g
       .cases g1;rcases u with⟨e1,r1,l1,l0,fr1,g4,rfl⟩|⟨cs1,cs0,g4,_⟩
        .rcases VQ hcF with⟨_,_,_,_,_,hcq⟩|⟨_,_,g,_⟩
         .refine⟨.arr e r l false,?_⟩;show gQ as c=_;have hm:c%64=49:=lu;unfold gQ;rw[aHK aat,g3,hm]
         .cases g
        grind
       .cases g1;rcases u with⟨e1,r1,l1,l0,fr1,g4,rfl⟩|⟨cs1,cs0,g4,_,rfl⟩
        .rw[g2]at g4;cases g4
        .rcases VQ hcF with⟨_,_,_,_,g,_⟩|⟨_,_,_,hcq⟩
         .cases g
         .refine⟨.var (A.map (Cell.view st)),?_⟩;show gQ as c=_;have hm:c%64=48:=lu;unfold gQ;rw[aHK aat,g3,hm]
      obtain⟨X,hX⟩:=hcE;exact⟨c,X,hX,hbq⟩
     |none=>have R:((Fw.look δ q).isSome||(Fw.look d q).isSome)=true:=hD;rw[Q,B]at R;cases R)
  (λ_ q x hD m=>by
    rw[VR]at m;cases B:Fw.look d q with
    |some y=>
     rw[B]at m;cases m;exact cu.mono hle2 q x (λ_ _=>rfl) (air B) (h7 q x B).1
    |none=>
     rw[B]at m;cases Q:Fw.look δ q with
     |some y=>
      rw[Q]at m;cases m;obtain⟨c,hcF,hcg,hco,u⟩:=f Q;obtain⟨g1,g2⟩:=h9 c x hcF;have hγq:γ2 q=γ' c:=by rw[ZC B,g1];exact hcg.symm
      rcases u with⟨e,r,l,l0,fr,_,rfl⟩|⟨A,cs0,_,W,rfl⟩
      .exact cu.anY (Y:=Y2) g2 hγq rfl (λb C=>ave false b C) (λb _ e=>Q7)
      .obtain⟨b,arr,t,k1,k2,k3⟩:=g2;exact⟨b,arr,t,hγq.trans k1,k2,LY (Y:=Y2) (Z:=⟨w',w0.heap.size,T,γ2,oC⟩) rfl ave _ _ W k3⟩
     |none=>have R:((Fw.look δ q).isSome||(Fw.look d q).isSome)=true:=hD;rw[Q,B]at R;cases R)
  (λp1 p2 x y b hD1 hD2 hq1 hq2 hne hb1=>by
    rw[VR]at hq1 hq2;cases l1:Fw.look d p1 with
    |some y1=>
     rw[air l1]at hb1;cases I:Fw.look d p2 with
     |some y2=>rw[air I];exact h8 p1 y1 p2 y2 b l1 I hne hb1
     |none=>
      rw[ZC I];cases m2:Fw.look δ p2 with
      |some y2=>
       obtain⟨c,hcF,hcg,hco,u⟩:=f m2;rw[← hcg];exact((h7 p1 y1 l1).2 b hb1).2.2 c y2 hcF
      |none=>
       have R:((Fw.look δ p2).isSome||(Fw.look d p2).isSome)=true:=hD2;rw[m2,I]at R;cases R
    |none=>
     rw[ZC l1]at hb1;cases m1:Fw.look δ p1 with
     |none=>
      have R:((Fw.look δ p1).isSome||(Fw.look d p1).isSome)=true:=hD1;rw[m1,l1]at R;cases R
     |some y1=>
      obtain⟨c1,aEX,aEY,aGV,hk1⟩:=f m1;cases I:Fw.look d p2 with
      |some y2=>
       rw[air I];intro e;rw[← aEY]at hb1;exact((h7 p2 y2 I).2 b e).2.2 c1 y1 aEX hb1
      |none=>
       rw[ZC I];cases m2:Fw.look δ p2 with
       |none=>
        have R:((Fw.look δ p2).isSome||(Fw.look d p2).isSome)=true:=hD2;rw[m2,I]at R;cases R
       |some y2=>
        obtain⟨c2,aGW,aGX,aGY,hk2⟩:=f m2;have e1:∃z,st.ah p1=some z:=by rcases hk1 with⟨_,_,_,_,_,g,_⟩|⟨_,_,g,_⟩<;>exact⟨_,g⟩
        have e2:∃z,st.ah p2=some z:=by rcases hk2 with⟨_,_,_,_,_,g,_⟩|⟨_,_,g,_⟩<;>exact⟨_,g⟩
        obtain⟨z1,e1⟩:=e1;obtain⟨z2,e2⟩:=e2;exact h.sep p1 z1 p2 z2 b e1 e2 hne hb1)
  (λq A hD hK m=>by
    cases I:Fw.look d q with
    |some y=>have:=NJ hfr I;rw[qE K hK m]at this;cases this
    |none=>
     refine⟨?_,ZC I⟩;cases m2:Fw.look δ q with
     |none=>
      have R:((Fw.look δ q).isSome||(Fw.look d q).isSome)=true:=hD;rw[m2,I]at R;cases R
     |some y=>
      obtain⟨c,_,_,_,u⟩:=f m2;rcases u with⟨_,_,_,_,_,g,_⟩|⟨cs',_,g,_,rfl⟩
      .rw[m]at g;cases g
      .exact⟨cs',by rw[VR,I,m2]⟩)
  (λq e r l fr hD hK m=>by
    cases I:Fw.look d q with
    |some y=>have:=NJ hfr I;rw[qE K hK m]at this;cases this
    |none=>
     refine⟨?_,ZC I⟩;cases m2:Fw.look δ q with
     |none=>
      have R:((Fw.look δ q).isSome||(Fw.look d q).isSome)=true:=hD;rw[m2,I]at R;cases R
     |some y=>
      obtain⟨c,_,_,_,u⟩:=f m2;rcases u with⟨e',r',l',l0,fr',g,rfl⟩|⟨_,_,g,_⟩
      .rw[m]at g;cases g;exact⟨l',false,by rw[VR,I,m2]⟩
      .rw[m]at g;cases g)
  (λq A hD m=>by
    rw[VR]at m;cases I:Fw.look d q with
    |some y=>
     rw[I]at m;cases m;have R:=out.arY k asf I;refine .inr ?_;cases hT:T.N q with
     |none=>rfl
     |some v'=>have:=T.n48 q v' hT;omega
    |none=>
     rw[I]at m;cases m2:Fw.look δ q with
     |none=>
      have R:((Fw.look δ q).isSome||(Fw.look d q).isSome)=true:=hD;rw[m2,I]at R;cases R
     |some y=>
      rw[m2]at m;cases m;obtain⟨c,_,_,_,u⟩:=f m2;rcases u with⟨_,_,_,_,_,_,g⟩|⟨_,cs0,g,_,_⟩
      .cases g
      .exact .inl ⟨cs0,g,ZC I⟩)
 refine⟨v,γ2,rfl,?_,bD.mono hle2 _ _ h6⟩;have hst:(((st.kill K).adds δ).adds d)={n:=st.n,tmps:=λt=>(st.tmps t).kill K,ah:=oC}:=by
  have e1:=MK d ((st.kill K).adds δ);have e2:=MK δ (st.kill K);have gen:∀(s:St)(n:Nat)(t:Nat->AV),s.n=n->s.tmps=t->s={n:=n,tmps:=t,ah:=s.ah}:=λs n t g1 g2=>by cases s;subst g1 g2;rfl
  exact gen _ _ _ (e1.2.trans e2.2) (e1.1.trans e2.1)
 grind
variable {G:lT}
theorem Rel.avf(hE:vM P G Θ Γ w0 M)(h:Rel w0 M T γ st a w){s:Array Value}(hx:qJ (ak w0 T γ st w) xs s.toList)
 (hh:uX true st xs as os) (hnd:DF os=true) {f:FuncId} {con:TA}  {m:Xc}  (asf:k%64=1) (hok:rP P G f con) (L:con as=some (p,m)) (C:p)
 (hch:∀t,m.R t->∃R,qR st os (m.aV t)=some R/\kZ (st.kill (jZ os (m.aV t))) ((m.out t).take k).2=true/\Qu (m.aV t) ((m.out t).take k).2=true):
 Calls P f s w λe w'=>∃t R,m.R t/\qR st os (m.aV t)=some R/\∃v γ',e=.returned v/\
  Rel w0 M T γ' (((st.kill (jZ os (m.aV t))).adds R).adds ((m.out t).take k).2) a w'/\bD (ak w0 T γ' (((st.kill (jZ os (m.aV t))).adds R).adds ((m.out t).take k).2) w') ((m.out t).take k).1 v:=by
 let S:=(ak w0 T γ st w).foot
 let E:=gQ as
 let H:=γE os γ
 let N:V:=⟨w,w.heap.size,S,H,E⟩
 have d:∀{q o:Nat},os[q / 64]? =some (some o)->H q=γ o:=λi=>by show(match os[_ / 64]? with|some (some o)=>γ o|_=>undef)=_;rw[i]
 have n:∀{q:Nat}{X:aI},E q=some X->_:=λi=>adp hh i;have U:∀b,S b->N.foot b:=λb J=>⟨J.1,λ_=>J,λq X i=>by obtain⟨o,Y,F,hY,_⟩:=n i;show blk (H q)≠some b;rw[d F];exact J.2.2 o Y hY⟩;have hbl:∀{q:Nat}{X:aI},E q=some X->∀b,blk (H q)=some b->b<w.heap.size/\(w0.heap.size<=b\/M b):=λi b J=>by obtain⟨o,Y,F,hY,_⟩:=n i;rw[d F]at J;exact h.lt o Y b hY J
 have awt:∀o x,E o=some x->cu N o x/\∀b,blk (H o)=some b->b<w.heap.size/\G.n<=b:=by
  intro q X i;refine⟨?_,λb J=>⟨(hbl i b J).1,?_⟩⟩
  .obtain⟨o,Y,F,hY,hk⟩:=n i;have hO:=h.ah o Y hY;rcases hk with⟨e,r,l,fr,rfl,rfl,_⟩|⟨A,rfl,rfl,W,_⟩
   .exact cu.anY (Z:=N) hO (d F) rfl (λb J=>⟨U b J.1,λe=>Q7⟩) (λb _ e=>Q7)
   .obtain⟨b,arr,t,hγ,hheap,hcs⟩:=hO;refine⟨b,arr,t,(d F).trans hγ,hheap,?_⟩;have:=Cells.xA h (γ0:=λ_=>undef) A _ W hcs;exact LY (Y:=⟨w,w.heap.size,S,λ_=>undef,λ_=>none⟩) (Z:=N) rfl (λfr b J=>⟨⟨J.1.1,λhlt=>J.1.2.1 hlt,λq' X' hq'=>by obtain⟨o',Y',ho',hY',_⟩:=n hq';show blk (H q')≠some b;rw[d ho'];exact(J.1.2.1 J.1.1).2.2 o' Y' hY'⟩,J.2⟩) _ _ (by rw[List.flatMap_map];rw[List.flatMap_eq_nil_iff]at W ⊢;intro c L;have:=W c L;cases c<;>first|rfl|(cases this;done)) this
  .rcases(hbl i b J).2 with g|g
   .exact aHw (G.low w0 hE.ok) g
   .exact hE.low b g
 have hsep:∀o x q y b,E o=some x->E q=some y->o≠q->blk (H o)=some b->blk (H q)≠some b:=by
  intro q1 X1 q2 X2 b h1 O hne J;obtain⟨o1,Y1,ho1,hY1,_⟩:=n h1;obtain⟨o2,Y2,ho2,hY2,_⟩:=n O;rw[d ho1]at J;rw[d ho2];refine h.sep o1 Y1 o2 Y2 b hY1 hY2 ?_ J
  grind [Xf]
 have I:EP N 0 as s.toList:=by
  obtain⟨Q,hget⟩:=qJ.get xs s.toList hx;refine aip as s.toList 0 (by rw[hh.length.1,Q]) λj b u J hu=>?_;rw[aIn];obtain⟨x,o,hxj,hoj,B⟩:=hh.get j b J;have D:=hget j x u hxj hu;have d1:(j*64+49) / 64=j:=lu;have d2:(j*64+49)%64=49:=lu;have d3:(j*64+48) / 64=j:=lu;have d4:(j*64+48)%64=48:=lu;rcases B with⟨rfl,W,ha⟩|⟨q,e,r,l,fr,rfl,rfl,i,rfl⟩|⟨q,A,rfl,rfl,i,W,rfl⟩
  .have W:=W rfl;have hr2:=FY h (γ0:=λ_=>undef) [x] [u] [b] ha (by show x.refs++[]=[];rw[W];rfl) ⟨D,trivial⟩;have K:V.le ⟨w,w.heap.size,S,λ_=>undef,λ_=>none⟩ N:=⟨aHv _,λc z=>⟨U c (z.2.1 z.1),rfl⟩,(λ_ _ z=>by cases z),(λ_ _ _ _ _ z=>by cases z)⟩;have hA:=hr2.1;cases b with
   |sv v=>exact eP.mono K v u hA
   |kp A=>exact bD.mono K (.dH A 0) u hA
   |fn g caps=>exact bD.mono K (.fn g caps) u hA
   |own _ _ _=>exact hA.elim
   |ptr _=>exact hA.elim
  .obtain⟨_,hu2,B⟩:=D;refine⟨⟨e,r,l,false,?_⟩,?_,B⟩
   .show gQ as (j*64+49)=_
    simp_all [gQ]
   grind
  .obtain⟨c,cs',_,hγ,hv⟩:=D;refine⟨c,A.map (Cell.view st),?_,?_,hv⟩
   .show gQ as (j*64+48)=_
    simp_all [gQ]
   grind
 refine((hok as p m L C).2 k S H s w (hE.at h) I awt hsep λt ht o x Q=>?_).mono ?_
 · grind [ahd]
 .rintro e w' ⟨t,ht,hpost⟩;obtain⟨R,g1,g2,_⟩:=hch t ht;obtain⟨v,γ',rfl,g3,g4⟩:=h.adq hh asf g1 g2 hpost
  grind
def Ub(aV:List Eff):Bool:=aV.all λ|.lose=>true|.arr _ _ _=>false|.var cs=>cs.all Cell.made
theorem asg(h:Ub aV=true){X:aI}(i:rM aV q=some X):afz X:=by
 rcases VQ i with⟨e,r,l,g,_⟩|⟨A,g,rfl,_⟩
 .have:=aHS.1 h _ (aH5 g);cases this
 .exact aHS.1 h _ (aH5 g)
theorem VO.made{S S':Nat->Prop}{args:List Arg}{out:Out}{e:Ending}(h:VO S args γ w k out aV e w')(l:out.made=true)(n:Ub aV=true):VO S' args γ w k out aV e w':=by
 obtain⟨v,γ',rfl,E,O,U,j,f,g,b,m,d⟩:=h;refine⟨v,γ',rfl,E,O,U,j,f,(out.adk k l _ (wo S' args aV γ) v).1 g,λo x Q=>⟨?_,(b o x Q).2⟩,m,λo x i=>⟨(d o x i).1,?_⟩⟩
 .exact cu.made (wo S' args aV γ) o x ((out.adk k l ⟨w',w.heap.size,S,γ',look (out.take k).2⟩ (wo S' args aV γ) v).2 _ (Bo _ _ _ Q)) (b o x Q).1
 .exact cu.made (wo S' args aV γ) o x (asg n i) (d o x i).2
theorem Rel.ash(hE:vM P G Θ Γ w0 M)(h:Rel w0 M T γ st a w){s:Array Value}(hx:qJ (ak w0 T γ st w) xs s.toList)
 (hh:uX false st xs as os) (hnd:DF os=true) {f:FuncId} {con:TA}  {d:Xc}  (asf:k%64=1) (hok:rP P G f con) (L:con as=some (p,d)) (C:p)
 (hown:∀(q:Nat)(e:TypeId)(r:au)(l:List r.den),gQ as q≠some (.arr e r l false)) (aAK:∀t,d.R t->(d.out t).made=true/\Ub (d.aV t)=true)
 (hch:∀t,d.R t->∃U,qR st os (d.aV t)=some U/\kZ (st.kill (jZ os (d.aV t))) ((d.out t).take k).2=true/\Qu (d.aV t) ((d.out t).take k).2=true):
 Calls P f s w λe w'=>∃t U,d.R t/\qR st os (d.aV t)=some U/\∃v γ',e=.returned v/\
  Rel w0 M T γ' (((st.kill (jZ os (d.aV t))).adds U).adds ((d.out t).take k).2) a w'/\bD (ak w0 T γ' (((st.kill (jZ os (d.aV t))).adds U).adds ((d.out t).take k).2) w') ((d.out t).take k).1 v:=by
 let E:=gQ as
 let H:=γE os γ
 let S:Nat->Prop:=λb=>b<w.heap.size/\∀q X,E q=some X->blk (H q)≠some b
 let XE:V:=⟨w,w.heap.size,S,H,E⟩
 have z:∀{q o:Nat},os[q / 64]? =some (some o)->H q=γ o:=λi=>by show(match os[_ / 64]? with|some (some o)=>γ o|_=>undef)=_;rw[i]
 have m:∀{q:Nat}{X:aI},E q=some X->_:=λi=>adp hh i;have adr:∀b,S b->XE.foot b:=λb J=>⟨J.1,λ_=>J,J.2⟩;have I:∀b,(ak w0 T γ st w).foot b->S b:=λb J=>⟨J.1,λq X i=>by obtain⟨o,Y,F,K,_⟩:=m i;rw[z F];exact J.2.2 o Y K⟩;have hS2:∀o e r l fr b,st.ah o=some (.arr e r l fr)->blk (γ o)=some b->S b:=λo e r l fr b F J=>⟨(h.lt o _ b F J).1,λq X i=>by
  obtain⟨o',Y,ho',K,hk⟩:=m i;rw[z ho'];rcases hk with⟨e',r',l',fr',rfl,_,_⟩|⟨A,_,rfl,_,_⟩
  · grind
  .exact h.sep o _ o' _ b F K (λe=>ny) J⟩
 have hbl:∀{q:Nat}{X:aI},E q=some X->∀b,blk (H q)=some b->b<w.heap.size/\(w0.heap.size<=b\/M b):=λi b J=>by obtain⟨o,Y,F,K,_⟩:=m i;rw[z F]at J;exact h.lt o Y b K J
 have awt:∀o x,E o=some x->cu XE o x/\∀b,blk (H o)=some b->b<w.heap.size/\G.n<=b:=by
  intro q X i;refine⟨?_,λb J=>⟨(hbl i b J).1,?_⟩⟩
  .obtain⟨o,Y,F,K,hk⟩:=m i;have hO:=h.ah o Y K;rcases hk with⟨e,r,l,fr,rfl,rfl,_⟩|⟨A,rfl,rfl,W,_⟩
   · grind
   .obtain⟨b,arr,t,hγ,hheap,hcs⟩:=hO;refine⟨b,arr,t,(z F).trans hγ,hheap,?_⟩;have:=Cells.xA h (γ0:=λ_=>undef) A _ W hcs;exact LY (Y:=⟨w,w.heap.size,(ak w0 T γ st w).foot,λ_=>undef,λ_=>none⟩) (Z:=XE) rfl (λfr b J=>⟨⟨J.1.1,λhlt=>I b (J.1.2.1 hlt),(I b (J.1.2.1 J.1.1)).2⟩,J.2⟩) _ _ (by rw[List.flatMap_map];rw[List.flatMap_eq_nil_iff]at W ⊢;intro c L;have:=W c L;cases c<;>first|rfl|(cases this;done)) this
  .rcases(hbl i b J).2 with g|g
   .exact aHw (G.low w0 hE.ok) g
   .exact hE.low b g
 have hsep:∀o x q y b,E o=some x->E q=some y->o≠q->blk (H o)=some b->blk (H q)≠some b:=by
  intro q1 X1 q2 X2 b h1 O hne J;obtain⟨o1,Y1,ho1,hY1,_⟩:=m h1;obtain⟨o2,Y2,ho2,hY2,_⟩:=m O;rw[z ho1]at J;rw[z ho2];refine h.sep o1 Y1 o2 Y2 b hY1 hY2 ?_ J
  grind [Xf]
 have N:EP XE 0 as s.toList:=by
  obtain⟨Q,hget⟩:=qJ.get xs s.toList hx;refine aip as s.toList 0 (by rw[hh.length.1,Q]) λj b u J hu=>?_;rw[aIn];obtain⟨x,o,hxj,hoj,B⟩:=hh.get j b J;have D:=hget j x u hxj hu;have d1:(j*64+49) / 64=j:=lu;have d2:(j*64+49)%64=49:=lu;have d3:(j*64+48) / 64=j:=lu;have d4:(j*64+48)%64=48:=lu;rcases B with⟨rfl,W,ha⟩|⟨q,e,r,l,fr,rfl,rfl,i,rfl⟩|⟨q,A,rfl,rfl,i,W,rfl⟩
  .have hr2:=NK h (γ0:=λ_=>undef) I hS2 [x] [u] [b] ha ⟨D,trivial⟩;have R:V.le ⟨w,w.heap.size,S,λ_=>undef,λ_=>none⟩ XE:=⟨aHv _,λc n=>⟨adr c (n.2.1 n.1),rfl⟩,(λ_ _ n=>by cases n),(λ_ _ _ _ _ n=>by cases n)⟩;have hA:=hr2.1;cases b with
   |sv v=>exact eP.mono R v u hA
   |kp A=>exact bD.mono R (.dH A 0) u hA
   |fn g caps=>exact bD.mono R (.fn g caps) u hA
   |own _ _ _=>exact hA.elim
   |ptr _=>exact hA.elim
  .obtain⟨_,hu2,B⟩:=D;refine⟨⟨e,r,l,false,?_⟩,?_,B⟩
   .show gQ as (j*64+49)=_;unfold gQ;rw[d1,J,d2]
   grind
  .obtain⟨c,cs',_,hγ,hv⟩:=D;refine⟨c,A.map (Cell.view st),?_,?_,hv⟩
   .show gQ as (j*64+48)=_;unfold gQ;rw[d3,J,d4]
   grind
 refine((hok as p d L C).2 k S H s w (hE.at h) N awt hsep λt ht o x Q=>?_).mono ?_
 · grind [ahd]
 .rintro e w' ⟨t,ht,hpost⟩;obtain⟨U,g1,g2,_⟩:=hch t ht;obtain⟨v,γ',rfl,g3,g4⟩:=h.adq hh asf g1 g2 (hpost.made (aAK t ht).1 (aAK t ht).2)
  grind
theorem apQ{base size n:Nat}{v:Value}{xs:List Value}(b:w.ownsRow base e size v n xs):v.oneCell'=true/\(∀d,v≠ .pointer (some d)):=by rcases b.2 with⟨E,_⟩|⟨g,y,R,E,_⟩<;>rw[E]<;>exact⟨rfl,λ_ e=>Q7⟩
theorem afX(C:∀t n,Θ t=some n->nY P t n)(h:Rel w0 M T γ st a w){n j:TI}(W:Θ t=some n)(S:n.kind=.slice e)(R:Θ e=some j)(k:Nat)(m:0<j.cells.len)
 {y:Cell} {f:List j.cells.den} {E:Value} (B:aX (ak w0 T γ st w) y E)
 (s:y.get st (.sl e j.cells)=some f) (N:f.length<=big):
 ∃u w' γ',(Builtin.append_ #[t,t] ty #[.slice none 0 0,E]).run P w=.ok u w'/\Rel w0 M T γ' ((st.kill (Nat.beq k ·)).add k (.arr e j.cells f (y.AB j.cells st))) a w'/\
  bD (ak w0 T γ' ((st.kill (Nat.beq k ·)).add k (.arr e j.cells f (y.AB j.cells st))) w') (.sv (.one (.ref k))) u:=by
 obtain⟨H,w',X,A,l,d,K,I⟩:=NP (P:=P) (ty:=ty) (C t n W) S (C e j R) m (aJE w 0 e j.cells.len) (Cell.ar9 h B s) lu;have F:=apQ l;have z:∀g,blk H=some g->(some g=none\/w.heap.size<=g)/\g<w'.heap.size:=by
  intro g J;refine⟨.inr ?_,apN l g J⟩;rcases I g (by grind [TW])with h1|h1
  .cases h1
  .exact h1
 obtain⟨Q,_⟩:=h.replace (w':=w') (o:=k) (v':=H) (x':=.arr e j.cells f (y.AB j.cells st)) none (.inl rfl) d.os d.tape d.output d.size
  (λb J U=>d.block b J (by intro O;cases O)) z (λ_ e=>Q7) (λle=>by
    refine⟨X,?_,m,?_,λi x D=>?_⟩
    · grind [upd_same]
    .intro b J hf;have J:blk (upd γ k H k)=some b:=J;rw[upd_same]at J;rcases(z b J).1 with h1|h1
     .cases h1
     .exact aHw h.grow h1
    .exact aY.mono (λc L=>le.dA _ c L) _ _ x (K i x D))
 exact⟨H,w',_,A,Q,⟨e,j.cells,_,_,add_same _ _ _⟩,(upd_same _ _ _).symm,F.1⟩
theorem asi(I:∀t N,Θ t=some N->nY P t N)(h:Rel w0 M T γ st a w){f:TypeId}{N te:TI}(ht:Θ t=some N)(hk:N.kind=.slice f)(he:Θ f=some te){l:List r.den}
 (F:st.ah o=some (.arr e r l fr)) {v:Value} (K:aX (ak w0 T γ st w) (.ref o) v) {D:Option Operand}  {x y:Nat} (J:o7 st l.length none D=some (p,x,y)) (C:p):
 ∃u γ',(Instr.sliceAt t v none (D.map a.eval) none).run P w=.ok u w/\Rel w0 M T γ' ((st.kill (Nat.beq o ·)).add o (.arr e r (l.take y) fr)) a w/\
  bD (ak w0 T γ' ((st.kill (Nat.beq o ·)).add o (.arr e r (l.take y) fr)) w) (.sv (.one (.ref o))) u:=by
 obtain⟨_,n,_⟩:=K;have n:v=γ o:=n;subst n;obtain⟨xs,m,Z,hfr,hrow⟩:=h.ah o _ F;have m:w.ownsRow 0 e r.len (γ o) l.length xs:=m;have hx0:x=0:=by
  cases D with
  |none=>grind [o7]
  |some hh=>
   grind [o7]
 subst hx0;have hu:=(I t N ht).und;rw[hk]at hu;obtain⟨E,O⟩:=m;have key:∃u,(Instr.sliceAt t (γ o) none (D.map a.eval) none).run P w=.ok u w/\w.ownsRow 0 e r.len u y (xs.take (y*r.len))/\blk u=blk (γ o)/\y<=l.length:=by
  rcases O with⟨H,hl0⟩|⟨g,b,R,d,hg0,hh,Q,S,hsz,htake⟩
  .have H:γ o=.slice none 0 0:=H;obtain⟨W,U,j⟩:=vV (P:=P) h (len:=l.length) (cap:=0) lu J C true;have B:y=0:=lu;refine⟨.slice none 0 0,?_,?_,by rw[H],j⟩
   .rw[H];simp only[aJc]at W;rw[hl0]at W;simp[Instr.sliceAt,Instr.slice,aIb,aHZ hu.1 w,W,(I f te he).run_sizeOf,B]
   grind
  .have d:γ o=.slice (some ⟨g,0,none⟩) l.length b:=d;obtain⟨W,U,j⟩:=vV (P:=P) h (len:=l.length) (cap:=b) Q J C true;have s:y*r.len<=l.length*r.len:=aHQ _ j;refine⟨.slice (some ⟨g,0,none⟩) y b,?_,⟨?_,.inr ⟨g,b,R,rfl,hg0,hh,aHw j Q,S,hsz,?_⟩⟩,by rw[d];rfl,j⟩
   .rw[d];simp only[aJc]at W;simp only[Instr.sliceAt,Instr.slice,aIb,aHZ hu.1 w,aIy,W,(I f te he).run_sizeOf];simp[addr_add]
   · grind
   grind
 obtain⟨u,hrun,A,hblk,hyl⟩:=key;have X:=apQ A;obtain⟨hR,_⟩:=h.replace (w':=w) (o:=o) (v':=u) (x':=.arr e r (l.take y) fr) (blk (γ o)) (.inr ⟨_,F,rfl⟩) rfl rfl rfl (aHv _) (λ_ _ _=>rfl)
  (λg d=>⟨.inl ny,(h.lt o _ g F ny).1⟩) (λ_ e=>Q7) (λle=>by
    have Y:(l.take y).length=y:=ny;refine⟨xs.take (y*r.len),?_,Z,?_,λi z D=>?_⟩
    · grind [upd_same]
    · grind [upd_same]
    .have hil:i<y:=ny;have s:i*r.len+r.len<=y*r.len:=by
      have:(i+1)*r.len<=y*r.len:=aHQ _ hil
      grind
     rw[aIs,if_pos hil]at D;rw[jb _ _ _ _ s];exact aY.mono (λc L=>le.dA _ c L) _ _ z (hrow i z D))
 exact⟨u,_,hrun,hR,⟨e,r,_,_,add_same _ _ _⟩,(upd_same _ _ _).symm,X.1⟩
variable {next:Act->World->Prop}{Q:Exit->Act->World->Prop}
theorem apR(F:vM P G Θ Γ w0 M)(h:Rel w0 M T γ st a w)(o:Oper){d:Nat}{v:AV}{s:St}
 (L:eff Θ Γ d st o.op=some (p,v,s)) (C:p)  
 (H:∀u γ' w',Rel w0 M T γ' s a w'->bD (ak w0 T γ' s w') v u->next (a.put o.dst u) w'):o.wp P a w next Q:=by
 cases g:o.op<;>rw[g]at L<;>try (simp only[eff,reduceCtorEq]at L;done)
 case store t x y=>
  simp only[eff]at L;split at L
  .next sv ti hev ht=>
   split at L
   .next hlen=>
    split at L
    .next q s' hs=>
     cases L;have hF:=h.freeze (Ib (st.ev x) sv);have B:=jK h y;rw[hev]at B;have hpv:=bD.freeze (Ib (st.ev x) sv) h _ _ (jK h x);have Y:=eP.freeze (Ib (st.ev x) sv) h _ _ B;have hl2:(sv.freeze st (Ib (st.ev x) sv)).cells.length=ti.cells.len:=by
      have E:=ai.length _ _ (eP.cells _ _ Y);have O:=ai.length _ _ (eP.cells _ _ B)
      simp_all
     obtain⟨w',W,A⟩:=apM (P:=P) F.types hF ht hs C hpv Y hl2;have hr2:(execOp a.eval o).run P w=.ok .skip w':=by
      simp_all [execOp]
     unfold Oper.wp;rw[hr2];exact H undef γ w' A trivial
    .cases L
   .cases L
  .cases L
 case buildSlice t len parts=>
  simp only[eff]at L;split at L
  .next q I δ hcalm=>
   split at L
   .next hfr=>cases L;exact RU F (h.freeze ((o6 st parts.toList).contains ·)) o (by rw[g];exact hcalm) C hfr H
   .cases L
  .cases L
 case slice t x lo hi mx=>
  cases mx with
  |some m=>grind [eff]
  |none=>
   cases lo with
   |none=>
    simp only[eff]at L;split at L
    .next ti r ht hev=>
     have Z:=qF h hev;split at L
     .next f e rr l fr hk ho=>
      split at L
      .next te q i j he hb=>
       split at L
       .next hbeq=>
        cases L;obtain⟨u,γ',W,A,K⟩:=asi (P:=P) F.types h ht hk he ho Z hb C;refine Oper.oV (u:=u) (w':=w) ?_ (H u γ' w A K)
        simp_all [execOp]
       .cases L
      .cases L
     .cases L
    .cases L
   |some l0=>
    simp only[eff]at L;split at L
    .next ti r ht hev=>
     split at L
     .next f e rr l fr hk ho=>
      split at L
      .next te q i j he hb=>
       split at L
       .next hbeq=>
        split at L
        .next q' I hq=>cases L;exact RU (δ:=[]) F (h.freeze (Nat.beq r ·)) o (by rw[g];exact hq) C rfl H
        .cases L
       .cases L
      .cases L
     .cases L
    .cases L
 case call c=>
  obtain⟨callee,args,sG⟩:=c;cases callee with
  |invoke r m=>grind [eff]
  |builtin b=>
   cases b<;>try (simp only[eff,reduceCtorEq]at L;done)
   case append=>
    simp only[eff]at L;split at L
    .next sx x t u hargs anV=>
     split at L
     .next ti c y z ht hes hex=>
      have z:=aHA z;subst z;have X:args.map a.eval=#[a.eval sx,a.eval x]:=ahb;have D:sG=#[t,t]:=ny;have N:execOp a.eval o=(do pure (Next.value (← Builtin.append_ #[t,t] o.type #[a.eval sx,a.eval x]))):=by rw[DJ g,X,D];rfl
      have E:=qF h hes;have O:=qF h hex;split at L
      .next e hk=>
       split at L
       .next te he=>
        split at L
        .next news r hget=>
         split at L
         .next f rr l fr ho=>
          split at L
          .next hbeq=>
           split at L
           .next S=>cases L;have S:=aHA S;subst S;obtain⟨I,w',γ',W,A,K⟩:=aqU (P:=P) (ty:=o.type) F.types h ht hk he ho hbeq E O hget C;exact Oper.oV XH (H I γ' w' A K)
           .cases L
          .cases L
         .cases L
        .next news hget=>
         split at L
         .next ZA=>cases L;have hs0:a.eval sx=.slice none 0 0:=E;obtain⟨I,w',γ',W,A,K⟩:=afX (P:=P) (ty:=o.type) F.types h ht hk he (d*64+1) (aIm ZA) O hget C;exact Oper.oV XH (H I γ' w' A K)
         .cases L
        .cases L
       .cases L
      .cases L
     .next ti o1 MJ n0 o2 lo2 n2 z ht hes hex=>
      have z:=aHA z;subst z;have X:args.map a.eval=#[a.eval sx,a.eval x]:=ahb;have D:sG=#[t,t]:=ny;have N:execOp a.eval o=(do pure (Next.value (← Builtin.append_ #[t,t] o.type #[a.eval sx,a.eval x]))):=by rw[DJ g,X,D];rfl
      obtain⟨I,w',W,A,K⟩:=afW (P:=P) (ty:=o.type) F.types h ht hes hex L C;exact Oper.oV XH (H I γ w' A K)
     .cases L
    .cases L
   case clear=>
    simp only[eff]at L;split at L
    .next x t hargs anV=>
     split at L
     .next ti o1 lo n ht hev=>
      have X:args.map a.eval=#[a.eval x]:=ahb;have D:sG=#[t]:=ny;have N:execOp a.eval o=(do pure (Next.value (← Builtin.clear_ #[t] o.type #[a.eval x]))):=by rw[DJ g,X,D];rfl
      obtain⟨I,w',W,A,K⟩:=aio (P:=P) (ty:=o.type) F.types h ht hev L C;exact Oper.oV XH (H I γ w' A K)
     .cases L
    .cases L
  |value x=>
   simp only[eff]at L;split at L
   .next f caps Z=>
    have K:=jK h x;rw[Z]at K;obtain⟨us,hvx,hkx⟩:=K;split at L
    .next con hcon=>
     split at L
     .next vs hargs hrefs=>
      split at L
      .next q out hq=>
       split at L
       .next hfr=>cases L;have hF:=h.freeze (arS st args.toList caps);obtain⟨hok,R⟩:=F.cons f con hcon;unfold Oper.wp;rw[VP g hvx R,aJM];have J:=FY hF (γ0:=λ_=>undef) _ _ vs hargs hrefs (qJ.freeze _ h _ _ (NM h hkx args.toList));rw[← aJp,← aJv]at J;refine(hok vs _ out (d*64+1) _ (args.map a.eval++us) w hq C (F.at h) J).mono ?_;rintro e w' ⟨u,vals,rfl,E,O,U,h4,h5,h6,h7,h8⟩;obtain⟨γ',g1,g2⟩:=hF.called lu hfr E O U h4 h5 (.inr rfl) h6 h7 h8;exact H u γ' w' g1 g2
       .cases L
      .cases L
     .cases L
    .cases L
   .cases L
theorem axF(X:vM P G Θ Γ w0 M)(h:Rel w0 M T γ st a w)(o:Oper){d:Nat}{g:Xc}{s0:St}
 (L:ako Γ st o.op=some (p,g,os,s0)) (C:p) (hch:∀t,g.R t->∃r,aft d s0 os (g.out t) (g.aV t)=some r)  
 (H:∀t v s u γ' w',g.R t->aft d s0 os (g.out t) (g.aV t)=some (v,s)->Rel w0 M T γ' s a w'->bD (ak w0 T γ' s w') v u->next (a.put o.dst u) w'):o.wp P a w next Q:=by
 unfold ako at L;split at L
 case h_2=>cases L
 next x args sG N=>
 split at L
 case h_2=>cases L
 next f b Z=>
 have K:=jK h x;rw[Z]at K;obtain⟨us,R,F⟩:=K;split at L
 case h_2=>cases L
 next l D n=>
 split at L
 case h_2=>cases L
 next I os' B=>
 split at L
 case h_2=>cases L
 next q ρ' i=>
 cases L;have hF:=h.freeze (afs st l args.toList b);obtain⟨z,m⟩:=X.arB f l D n;unfold Oper.wp;rw[VP N R m,aJM];have S:qJ (ak w0 T γ (TT st l args.toList b) w) (axA st l args.toList b) (args.map a.eval++us).toList:=by rw[aJv,aJp];exact qJ.freeze (afs st l args.toList b) h _ _ (NM h F args.toList)
 have hk:(d*64+1)%64=1:=lu;have j:∀t,g.R t->∃y,(DF os=true/\Qu (g.aV t) ((g.out t).take (d*64+1)).2=true)/\qR (TT st l args.toList b) os (g.aV t)=some y/\kZ ((TT st l args.toList b).kill (jZ os (g.aV t))) ((g.out t).take (d*64+1)).2=true/\
  aft d (TT st l args.toList b) os (g.out t) (g.aV t)=some (((g.out t).take (d*64+1)).1,(((TT st l args.toList b).kill (jZ os (g.aV t))).adds y).adds ((g.out t).take (d*64+1)).2):=by
  grind [aft]
 obtain⟨t0,O⟩:=(z I _ g i C).1;obtain⟨_,⟨J,_⟩,_⟩:=j t0 O;refine(hF.avf X S (ZB l _ I os B) J hk z i C λt A=>?_).mono ?_
 .obtain⟨y,g1,g2,E,_⟩:=j t A;exact⟨y,g2,E,g1.2⟩
 .rintro e w' ⟨t,y,A,hb,u,γ',rfl,g1,g2⟩;obtain⟨W,_,E,_,Y⟩:=j t A;have U:W=y:=Option.some.inj (E.symm.trans hb);subst U;exact H t _ _ u γ' w' A Y g1 g2
theorem awu(b:vM P G Θ Γ w0 M)(h:Rel w0 M T γ st a w)(o:Oper){d:Nat}{v:AV}{s:St}
 (L:oper Θ Γ d st o.op=some (p,v,s)) (C:p)  
 (H:∀u γ' w',Rel w0 M T γ' s a w'->bD (ak w0 T γ' s w') v u->next (a.put o.dst u) w'):o.wp P a w next Q:=by
 grind [oper,RU,apR]
end Go.Fw
namespace Go.Fw
open Go
structure St.more(st s:St):Prop where
 tmps:∀t,st.tmps t=.undef\/s.tmps t=st.tmps t
 ah:∀o x,st.ah o=some x->s.ah o=some x
variable {st s:St} {Θ:jY} {Γ:kY}
theorem Td(h:st.more s)(x:Operand):st.ev x=.undef\/s.ev x=st.ev x:=by
 cases x with
 |tmp t=>exact h.tmps t
 |const v=>exact .inr rfl
 |global g=>exact .inr rfl
 |func f=>exact .inr rfl
theorem dm(h:st.more s){x:Operand}{v:AV}(e:st.ev x=v)(K:v≠ .undef):s.ev x=v:=by
 grind [Td]
theorem uH(h:st.more s){x:Operand}{n:Int}(e:xY (st.ev x)=some n):xY (s.ev x)=some n:=by
 rcases Td h x with E|E
 .rw[E]at e;cases e
 grind
theorem ais(h:st.more s):∀(c:CT)(x:Cell)(d:c.den),x.get st c=some d->x.get s c=some d:=by
 intro c x d a;cases c<;>cases x<;>simp only[Cell.get]at a ⊢<;>try exact a
 case sl.ref e r o=>
  split at a
  .next e' r' l fr ho=>rw[h.ah o _ ho];exact a
  .cases a
theorem ahg(h:st.more s):∀(r:au)(A:List Cell)(d:r.den),FB st r A=some d->FB s r A=some d
 |.nil,[],_,hg=>hg
 |.nil,_::_,_,hg=>by grind [FB]
 |.cons _ _,[],_,hg=>by grind [FB]
 |.cons c r,x::xs,d,hg=>by
  rw[FB]at hg ⊢;split at hg
  .next a b ha hb=>rw[ais h c x a ha,ahg h r xs b hb];exact hg
  .cases hg
theorem adt(h:st.more s)(fs:List (Nat×TypeId)):∀(b:List (Nat×Operand))(A a:List Cell),Ph Θ st fs b A=some a->Ph Θ s fs b A=some a
 |[],_,_,hb=>hb
 |(i,x)::r,A,a,hb=>by
  rw[Ph]at hb ⊢;split at hb
  .next off t v hf hev=>
   rw[hf,dm h hev vk];dsimp only;split at hb
   .next ti ht=>
    split at hb
    .next hle=>exact adt h fs r _ a hb
    .cases hb
   .cases hb
  .cases hb
theorem ahh(h:st.more s)(r:au):∀(a:List (Nat×Operand))(k:Nat)(l:List r.den),Ky st r k a=some l->Ky s r k a=some l
 |[],_,_,hb=>hb
 |(i,x)::a,k,l,hb=>by
  rw[Ky]at hb ⊢;split at hb
  .next v l' hik hev hl=>
   rw[hik,dm h hev vk,ahh h r a (k+1) l' hl]
   grind [ahg]
  .cases hb
theorem adu(r:au):∀(a:List (Nat×Operand))(k:Nat)(l:List r.den),Ky st r k a=some l->∀x∈a,∃v,st.ev x.2=.sv v
 |[],_,_,_,x,Z=>O6
 |(i,y)::a,k,l,hb,x,Z=>by
  rw[Ky]at hb;split at hb
  .next v l' hik hev hl=>
   rcases aHH.1 Z with rfl|Z
   .exact⟨v,hev⟩
   .exact adu r a (k+1) l' hl x Z
  .cases hb
theorem Ye(h:st.more s):∀(a:List (Nat×Operand)),(∀x∈a,∃v,st.ev x.2=.sv v)->o6 s a=o6 st a
 |[],_=>rfl
 |(i,x)::a,hk=>by obtain⟨v,K⟩:=hk (i,x) aHJ;rw[o6,o6,Ye h a (λy B=>hk y (aHC _ B)),dm h K vk,K]
theorem auC:∀(c:Cell),c.refs=[]->c.fresh s=c.fresh st
 |.int _ _,_|.bool _,_|.str _,_|.nil,_|.sl _ _ _ _,_|.junk,_=>rfl
 |.ref _,h=>zH
theorem apS:∀(A:List Cell),A.flatMap Cell.refs=[]->A.all (Cell.fresh s)=A.all (Cell.fresh st)
 |[],_=>rfl
 |c::A,h=>by rw[aIr,aIc]at h;rw[aIw,aIw,auC c h.1,apS A h.2]
theorem VS(h:st.more s):∀(a:List (Nat×Operand)),(∀x∈a,∃v,st.ev x.2=.sv v)->o6 st a=[]->pR s a=pR st a
 |[],_,_=>rfl
 |(i,x)::a,hk,hr=>by obtain⟨v,K⟩:=hk (i,x) aHJ;rw[o6,aIc,K]at hr;rw[pR,pR,VS h a (λy B=>hk y (aHC _ B)) hr.2,dm h K vk,K];dsimp only;rw[apS v.cells hr.1]
theorem axG(h:st.more s):∀(c:Cell),c.ok st=true->c.view s=c.view st/\c.ok s=true
 |.int _ _,_|.bool _,_|.str _,_|.nil,_|.sl _ _ _ _,_|.junk,_=>⟨rfl,rfl⟩
 |.ref o,hk=>by
  simp only[Cell.ok]at hk;split at hk
  .next e r l fr ho=>exact⟨by simp only[Cell.view,ho,h.ah o _ ho],by simp only[Cell.ok,h.ah o _ ho]⟩
  .cases hk
theorem RY(h:st.more s):∀(A:List Cell),A.all (Cell.ok st)=true->A.map (Cell.view s)=A.map (Cell.view st)/\A.all (Cell.ok s)=true
 |[],_=>⟨rfl,rfl⟩
 |c::A,hk=>by rw[aIw,aHy]at hk;obtain⟨E,O⟩:=axG h c hk.1;obtain⟨U,j⟩:=RY h A hk.2;exact⟨by rw[aHT,aHT,E,U],by rw[aIw,O,j];rfl⟩
theorem auD(h:st.more s)(v:SV)(u:v.cells.all (Cell.ok st)=true):v.view s=v.view st/\v.cells.all (Cell.ok s)=true:=by
 obtain⟨E,O⟩:=RY h v.cells u;cases v with
 |one c=>grind [SV.cells,SV.view]
 |agg cs=>grind [SV.cells,SV.view]
theorem FZ(h:st.more s):∀(z:List AV)(I:List Arg),rJ st z=some I->rJ s z=some I
 |[],_,hv=>hv
 |x::z,I,hv=>by
  unfold rJ at hv ⊢;split at hv
  .next v us hu=>
   rw[FZ h z us hu];split at hv
   .next hk=>obtain⟨E,O⟩:=auD h v hk;dsimp only;rw[O,E];exact hv
   .cases hv
  .next cs off us hu=>
   rw[FZ h z us hu];split at hv
   .next hk=>
    rw[aHy]at hk;obtain⟨E,O⟩:=RY h cs hk.2
    grind
   .cases hv
  .next f a us hu=>
   rw[FZ h z us hu];split at hv
   .next hk=>
    have b:∀(a:List (List Cell)),a.all (List.all · (Cell.ok st))=true->a.map (List.map (Cell.view s))=a.map (List.map (Cell.view st))/\a.all (List.all · (Cell.ok s))=true:=by
     intro a
     induction a with
     |nil=>grind
     |cons cs l ih=>
      grind [RY]
    grind
   .cases hv
  .cases hv
theorem NR:∀(z:List AV)(I:List Arg),rJ st z=some I->∀x∈z,x≠ .undef
 |[],_,_,x,Z=>O6
 |y::z,I,hv,x,Z=>by
  unfold rJ at hv;split at hv
  .next v us hu=>
   rcases aHH.1 Z with rfl|Z
   .simp
   .exact NR z us hu x Z
  .next cs off us hu=>
   rcases aHH.1 Z with rfl|Z
   .simp
   .exact NR z us hu x Z
  .next f caps us hu=>
   rcases aHH.1 Z with rfl|Z
   .simp
   .exact NR z us hu x Z
  .cases hv
theorem Xg(h:st.more s)(a:List (List Cell)):∀(z:List Operand),(∀x∈handed st z a,x≠ .undef)->handed s z a=handed st z a
 |[],_=>rfl
 |x::z,hk=>by have E:s.ev x=st.ev x:=dm h rfl (hk _ aHJ);have O:=Xg h a z λy B=>hk y (aHC _ B);show s.ev x::handed s z a=st.ev x::handed st z a;rw[E,O]
theorem ahi(h:st.more s):∀(z:List Operand)(l:List (List Cell)),heldBy st z=some l->heldBy s z=some l
 |[],_,hl=>hl
 |x::z,l,hl=>by
  rw[heldBy]at hl ⊢;split at hl
  .next cs off l' hx hl'=>rw[dm h hx vk,ahi h z l' hl'];exact hl
  .cases hl
theorem ZE(h:st.more s)(len:Nat)(a D:Option Operand){r:Prop×Nat×Nat}(J:o7 st len a D=some r):o7 s len a D=some r:=by
 cases a<;>cases D<;>simp only[o7]at J ⊢
 .exact J
 · grind [uH]
 · grind [uH]
 grind [uH]
def AV.less(v v':AV):Prop:=v=.undef\/v'=v
theorem auE(h:st.more s){n room:Nat}{a D:Option Operand}{r:Prop×Nat×Nat}(J:ac9 st n room a D=some r):ac9 s n room a D=some r:=by cases D<;>simp only[ac9]at J ⊢<;>exact ZE h _ _ _ J
theorem axH(h:st.more s)(d:Nat)(o:Op){p:Prop}{v:AV}{δ:List (Nat×aI)}(hc:calm Θ Γ d st o=some (p,v,δ)):
 ∃v',calm Θ Γ d s o=some (p,v',δ)/\v.less v':=by
 have same:∀{r:Option (Prop×AV×List (Nat×aI))},r=some (p,v,δ)->calm Θ Γ d s o=r->∃v',calm Θ Γ d s o=some (p,v',δ)/\v.less v':=
  λh1 h2=>⟨v,h2.trans h1,.inr rfl⟩
 cases o<;>try (simp only[calm,reduceCtorEq]at hc;done)
 case move x=>simp only[calm]at hc ⊢;cases hc;exact⟨_,rfl,Td h x⟩
 case assign x=>simp only[calm]at hc ⊢;cases hc;exact⟨_,rfl,Td h x⟩
 case pick c x y=>
  simp only[calm]at hc ⊢;split at hc
  .next g hg=>
   cases hc;rw[dm h hg vk];refine⟨_,rfl,?_⟩;cases g
   .exact Td h y
   .exact Td h x
  .cases hc
 case nilCheck x=>
  simp only[calm]at hc ⊢;split at hc
  .next a b e=>rw[dm h e vk];exact⟨v,hc,.inr rfl⟩
  .next a b c e=>rw[dm h e vk];exact⟨v,hc,.inr rfl⟩
  .next a b c d e=>rw[dm h e vk];exact⟨v,hc,.inr rfl⟩
  .next a b e=>rw[dm h e vk];exact⟨v,hc,.inr rfl⟩
  .next a b e=>rw[dm h e vk];exact⟨v,hc,.inr rfl⟩
  .cases hc
 case makeFunc fn first captured=>
  cases fn<;>try (simp only[calm,reduceCtorEq]at hc;done)
  case func f=>
   simp only[calm]at hc ⊢;split at hc
   .next l hfirst hl=>rw[ahi h _ _ hl,hfirst];exact⟨v,hc,.inr rfl⟩
   .cases hc
 case alloc t=>exact⟨v,hc,.inr rfl⟩
 case box t x=>
  simp only[calm]at hc ⊢;split at hc
  .next a e=>rw[dm h e vk];exact⟨v,hc,.inr rfl⟩
  .cases hc
 case build t parts=>
  simp only[calm]at hc ⊢;split at hc
  .next ti ht=>
   split at hc
   .next fs hk=>
    split at hc
    .next cs hb=>rw[adt h _ _ _ _ hb];exact⟨v,hc,.inr rfl⟩
    .cases hc
   .cases hc
  .cases hc
 case buildSlice t len parts=>
  simp only[calm]at hc ⊢;split at hc
  .next ti ht=>
   split at hc
   .next e hk=>
    split at hc
    .next te he=>
     split at hc
     .next l hb hrefs hrows=>have hkn:=adu _ _ _ _ hrows;rw[hb,Ye h _ hkn,hrefs,ahh h _ _ _ _ hrows,VS h _ hkn hrefs];exact⟨v,hc,.inr rfl⟩
     .cases hc
    .cases hc
   .cases hc
  .cases hc
 case makeSlice t x y=>
  simp only[calm]at hc ⊢;split at hc
  .next ti n c ht hn hcc=>rw[ht,uH h hn,uH h hcc];exact⟨v,hc,.inr rfl⟩
  .cases hc
 case load t x=>
  simp only[calm]at hc ⊢;split at hc
  .next ti o off ht he=>
   rw[ht,dm h he vk];split at hc
   .next cs ho=>dsimp only;rw[h.ah o _ ho];exact⟨v,hc,.inr rfl⟩
   .cases hc
  .next ti o i off ht he=>
   rw[ht,dm h he vk];split at hc
   .next e r l fr ho=>dsimp only;rw[h.ah o _ ho];exact⟨v,hc,.inr rfl⟩
   .cases hc
  .next ti r y off fr ht he=>rw[ht,dm h he vk];exact⟨v,hc,.inr rfl⟩
  .next ti cs off ht he=>rw[ht,dm h he vk];exact⟨v,hc,.inr rfl⟩
  .cases hc
 case fieldAddr t x f=>
  simp only[calm]at hc ⊢;split at hc
  .next ti ht=>
   split at hc
   .next fs hk=>
    split at hc
    .next k t hf=>
     split at hc
     .next te hte=>
      split at hc
      .cases hc
      .next a b e hne=>rw[dm h e vk];cases hcell:te.cells with|nil=>grind|cons _ _=>exact⟨v,hc,.inr rfl⟩
      .next a b c e hne=>rw[dm h e vk];cases hcell:te.cells with|nil=>grind|cons _ _=>exact⟨v,hc,.inr rfl⟩
      .next a b c d e hne=>rw[dm h e vk];cases hcell:te.cells with|nil=>grind|cons _ _=>exact⟨v,hc,.inr rfl⟩
      .next a b e hne=>rw[dm h e vk];cases hcell:te.cells with|nil=>grind|cons _ _=>exact⟨v,hc,.inr rfl⟩
      .cases hc
     .cases hc
    .cases hc
   .cases hc
  .cases hc
 case field t x f=>
  simp only[calm]at hc ⊢;split at hc
  .next ti ht=>
   split at hc
   .next fs hk=>
    split at hc
    .next k t cs hf e=>rw[hf,dm h e vk];exact⟨v,hc,.inr rfl⟩
    .cases hc
   .cases hc
  .cases hc
 case indexAddr t x ix=>
  simp only[calm]at hc ⊢;split at hc
  .next ti n ht hn=>
   rw[ht,uH h hn]
   try dsimp only
   split at hc
   .next e hk=>
    split at hc
    .next te e' r l fr he hev=>rw[he,dm h hev vk];exact⟨v,hc,.inr rfl⟩
    .next te o he hev=>
     rw[he,dm h hev vk]
     try dsimp only
     split at hc
     .next a b c d ho=>rw[h.ah o _ ho];exact⟨v,hc,.inr rfl⟩
     .cases hc
    .next te he hev=>rw[he,dm h hev vk];exact⟨v,hc,.inr rfl⟩
    .cases hc
   .cases hc
  .cases hc
 case index t x ix=>
  simp only[calm]at hc ⊢;split at hc
  .next ti n b ht hn hev=>rw[ht,uH h hn,dm h hev vk];exact⟨v,hc,.inr rfl⟩
  .cases hc
 case binOp op t x y t'=>
  simp only[calm]at hc ⊢;split at hc
  .next a b e1 e2=>rw[dm h e1 vk,dm h e2 vk];exact⟨v,hc,.inr rfl⟩
  .next a b e1 e2=>rw[dm h e1 vk,dm h e2 vk];exact⟨v,hc,.inr rfl⟩
  .cases hc
 case unOp op t x=>
  simp only[calm]at hc ⊢;split at hc
  .next b e=>rw[dm h e vk];exact⟨v,hc,.inr rfl⟩
  .next k n e=>rw[dm h e vk];exact⟨v,hc,.inr rfl⟩
  .cases hc
 case convert a b x=>
  simp only[calm]at hc ⊢;split at hc
  .next ts td c hs hd e=>
   rw[hs,hd,dm h e vk]
   try dsimp only
   split at hc
   .cases hc
   .next hagg=>
    rw[if_neg hagg];split at hc
    .exact⟨v,hc,.inr rfl⟩
    .exact⟨v,hc,.inr rfl⟩
    .exact⟨v,hc,.inr rfl⟩
    .next e' c' e1 e2=>
     split at hc
     .next l te hl hte=>rw[ais h _ _ _ hl,hte];exact⟨v,hc,.inr rfl⟩
     .cases hc
    .cases hc
  .cases hc
 case extract x i=>
  simp only[calm]at hc ⊢;split at hc
  .next a e=>rw[dm h e vk];exact⟨v,hc,.inr rfl⟩
  .cases hc
 case slice t x lo hi mx=>
  cases mx with
  |some m=>
   cases lo with
   |none=>simp only[calm,reduceCtorEq]at hc
   |some lo=>
    cases hi with
    |none=>simp only[calm,reduceCtorEq]at hc
    |some hi=>
     simp only[calm]at hc ⊢;split at hc
     .next ti o ht e=>
      rw[ht,dm h e vk]
      try dsimp only
      split at hc
      .next f e' r l fr hk ho=>
       split at hc
       .next te n1 n2 n3 he h1 h2 h3=>rw[hk,h.ah o _ ho];dsimp only;rw[he,uH h h1,uH h h2,uH h h3];exact⟨v,hc,.inr rfl⟩
       .cases hc
      .cases hc
     .cases hc
  |none=>
   simp only[calm]at hc ⊢;split at hc
   .next ti b ht e=>
    rw[ht,dm h e vk]
    try dsimp only
    split at hc
    .next p' x' y' hk hb=>rw[hk,ZE h _ _ _ hb];exact⟨v,hc,.inr rfl⟩
    .cases hc
   .next ti e' r l fr ht e=>
    rw[ht,dm h e vk]
    try dsimp only
    split at hc
    .next f p' x' y' hk hb=>rw[hk,ZE h _ _ _ hb];exact⟨v,hc,.inr rfl⟩
    .cases hc
   .next ti ht e=>
    rw[ht,dm h e vk]
    try dsimp only
    split at hc
    .next f p' x' y' hk hb=>rw[hk,ZE h _ _ _ hb];exact⟨v,hc,.inr rfl⟩
    .cases hc
   .next ti o MJ n0 ht e=>
    rw[ht,dm h e vk]
    try dsimp only
    split at hc
    .next f e' r l fr hk ho=>
     split at hc
     .next te p' x' y' he hb=>rw[hk,h.ah o _ ho];dsimp only;rw[he,auE h hb];exact⟨v,hc,.inr rfl⟩
     .cases hc
    .cases hc
   .cases hc
 case call c=>
  obtain⟨callee,args,sG⟩:=c;cases callee with
  |invoke r m=>simp only[calm,reduceCtorEq]at hc
  |builtin b=>
   cases b<;>try (simp only[calm,reduceCtorEq]at hc;done)
   case len=>
    simp only[calm]at hc ⊢;split at hc
    .next x t hargs anV=>
     split at hc
     .next ti c ht e=>
      rw[ht,dm h e vk]
      try dsimp only
      split at hc
      .next b hk=>exact⟨v,hc,.inr rfl⟩
      .next a b c d e hk=>exact⟨v,hc,.inr rfl⟩
      .next a hk=>exact⟨v,hc,.inr rfl⟩
      .next a o hk=>
       split at hc
       .next e' r l fr ho=>rw[h.ah o _ ho];exact⟨v,hc,.inr rfl⟩
       .cases hc
      .cases hc
     .next ti o lo n ht e=>rw[ht,dm h e vk];exact⟨v,hc,.inr rfl⟩
     .cases hc
    .cases hc
   case min=>
    simp only[calm]at hc ⊢;split at hc
    .next x y hargs=>
     split at hc
     .next a b c d e1 e2=>rw[dm h e1 vk,dm h e2 vk];exact⟨v,hc,.inr rfl⟩
     .cases hc
    .cases hc
   case max=>
    simp only[calm]at hc ⊢;split at hc
    .next x y hargs=>
     split at hc
     .next a b c d e1 e2=>rw[dm h e1 vk,dm h e2 vk];exact⟨v,hc,.inr rfl⟩
     .cases hc
    .cases hc
  |value x=>
   simp only[calm]at hc ⊢;split at hc
   .next f caps hx=>
    rw[dm h hx vk];dsimp only;split at hc
    .next con vs hcon hargs=>rw[hcon,Xg h caps _ (NR _ _ hargs),FZ h _ _ hargs];exact⟨v,hc,.inr rfl⟩
    .cases hc
   .cases hc
end Go.Fw
namespace Go.Fw
open Go
variable {P:Program} {w0:World} {M:Nat->Prop} {T:Ext} {γ γ':Nat->Value} {st:St} {a:Act} {w w':World} {Θ:jY} {Γ:kY}
def numOf(st:St)(o:Oper):Nat:=match o.dst with|some d=>d|none=>st.n
def aAL(d o:Nat):Bool:=Nat.beq (o / 64) d
def aCf(d o:Nat):Bool:=Nat.beq (o / 64) d&&!(Nat.beq (o%64) 0)
def makes:Op->Bool
 |.alloc _|.box _ _|.buildSlice _ _ _|.makeSlice _ _ _=>true
 |.call {callee:=.value _,.. }=>true
 |_=>false
def asj:Op->Bool
 |.buildSlice _ _ _|.makeSlice _ _ _=>true
 |.call {callee:=.value _,.. }=>true
 |_=>false
def awv(Θ:jY)(Γ:kY)(d:Nat)(st:St)(op:Op):Option (Prop×AV×St):=
 match oper Θ Γ d st op with
 |some r=>some r
 |none=>match makes op with
  |true=>oper Θ Γ d (st.kill (aAL d)) op
  |false=>none
def quiet(st:St):Op->Bool
 |.move _|.assign _|.nilCheck _|.pick _ _ _|.alloc _|.box _ _|.build _ _|.buildSlice _ _ _|.fieldAddr _ _ _|.field _ _ _|.unOp _ _ _|.convert _ _ _|.extract _ _|.makeFunc _ _ _=>true
 |.call {callee:=.builtin .len,.. }|.call {callee:=.builtin .min,.. }|.call {callee:=.builtin .max,.. }=>true
 |.load _ p=>match st.ev p with|.qf _ _ _=>false|_=>true
 |.store _ p _=>match st.ev p with|.eG _ _=>true|_=>false
 |.binOp op _ x _ _=>match op with
  |.quo|.rem|.shl|.shr=>false
  |.add=>match st.ev x with|.sv (.one (.str _))=>false|_=>true
  |_=>true
 |_=>false
variable {op:BinOp}{p:Prop}
theorem asl{k:IntKind}{x y:Int}{c:Cell}(h:X9 op k x y=some (p,c))(E:op≠ .quo)(O:op≠ .rem):p:=by cases op<;>simp only[X9,reduceCtorEq]at h<;>first|(cases h;trivial)|exact(E rfl).elim|exact(O rfl).elim
theorem asn{x y:Bytes}{c:Cell}(h:ac7 op x y=some (p,c))(E:op≠ .add):p:=by cases op<;>simp only[ac7,reduceCtorEq]at h<;>first|(cases h;trivial)|exact(E rfl).elim
theorem aqV{x y:Cell}{c:Cell}(h:Ya op x y=some (p,c))(E:op≠ .quo)(O:op≠ .rem)(U:op≠ .shl)(j:op≠ .shr)
 (b:op=.add->∀s,x≠ .str s):p:=by
 unfold Ya at h;split at h
 .split at h
  · grind
  · grind
  grind [asl]
 · grind [asn]
 .split at h
  · grind
  · grind
  .cases h
 .cases h
theorem ZF{d:Nat}{op:Op}{v:AV}{δ:List (Nat×aI)}(L:calm Θ Γ d st op=some (p,v,δ))(i:quiet st op=true):p:=by
 cases op<;>try (simp only[calm,reduceCtorEq]at L;done)
 case binOp op t x y t'=>
  simp only[calm]at L;split at L
  .next a b e1 e2=>
   split at L
   .split at L
    .next q c hb=>
     cases L;refine aqV hb ?_ ?_ ?_ ?_ ?_
     · grind [quiet]
     · grind [quiet]
     · grind [quiet]
     · grind [quiet]
     grind [quiet]
    .cases L
   .cases L
  · grind
  .cases L
 case load t x=>
  simp only[calm]at L;split at L
  · grind
  · grind [quiet]
  · grind
  · grind
  .cases L
 case call c=>
  obtain⟨callee,args,sG⟩:=c;cases callee with
  |invoke r m=>simp only[calm,reduceCtorEq]at L
  |builtin b=>
   cases b<;>first
    |(simp only[calm,reduceCtorEq]at L;done)
    |(simp only[calm]at L
      grind)
  |value x=>grind [quiet]
 all_goals first
  |(simp[quiet]at i;done)
  |(simp only[calm]at L
    repeat' (first|(cases L;done)|(cases L;trivial)|(split at L)))
theorem auF{b:AV}{v:SV}{q:Prop}{s:St}(h:store st b v=some (q,s))(K:∀o i m,b≠ .qf o i m):q:=by
 unfold store at h;split at h
 · grind
 · grind
 .cases h
theorem axI{d:Nat}{op:Op}{v:AV}{s:St}(L:eff Θ Γ d st op=some (p,v,s))(i:quiet st op=true):p:=by
 cases op<;>try (simp only[eff,reduceCtorEq]at L;done)
 case store t pt x=>
  grind [eff,auF,AV.freeze,quiet]
 case buildSlice t n parts=>
  simp only[eff]at L;split at L
  .next q v' δ hcalm=>
   split at L
   .cases L;exact ZF hcalm rfl
   .cases L
  .cases L
 case slice t x lo hi mx=>grind [quiet]
 case call c=>
  obtain⟨callee,args,sG⟩:=c;cases callee with
  |invoke r m=>grind [eff]
  |builtin b=>cases b<;>first|(simp only[eff,reduceCtorEq]at L;done)|grind [quiet]
  |value x=>grind [quiet]
theorem akw{d:Nat}{op:Op}{v:AV}{s:St}(L:oper Θ Γ d st op=some (p,v,s))(i:quiet st op=true):p:=by
 grind [oper,ZF,axI]
def aDl:Op->Bool|.box _ _=>true|_=>false
def avg(own:Nat->Bool)(d:Nat)(o:Oper)(v:AV)(s:St):St:=
 match asj o.op&&!(own d)&&((s.ah (d*64+1)).isSome||(s.ah (d*64+2)).isSome||(s.ah (d*64+3)).isSome)with
 |true=>(s.put o.dst v).freeze (aCf d)
 |false=>s.put o.dst v
def AV.fixed(o:Nat)(A:List Cell):AV->AV
 |.eG p off=>match Nat.beq o p with|true=>.dH (A.map (Cell.kill (Nat.beq o ·))) off|false=>.eG p off
 |v=>v.kill (Nat.beq o ·)
def St.fix(st:St)(o:Nat):St:=
 match st.ah o with
 |some (.var cs)=>{st.kill (Nat.beq o ·)with tmps:=λt=>(st.tmps t).fixed o cs}
 |_=>st
theorem Rel.fix(h:Rel w0 M T γ st a w)(o:Nat):Rel w0 M T γ (st.fix o) a w:=by
 unfold St.fix;split
 .next cs ho=>
  have u:=h.kill (Nat.beq o ·);refine⟨u.mT,u.defers,u.size,u.os,u.tape,u.output,u.grow,u.kept,λt=>?_,u.ah,u.lt,u.sep,u.pin⟩;have K:=h.tmps t;have g:=bD.kill (Nat.beq o ·) h _ _ K;show bD (ak w0 T γ (st.kill (Nat.beq o ·)) w) ((st.tmps t).fixed o cs) _;cases j:st.tmps t with
  |eG p off=>
   rw[j]at K g;simp only[AV.fixed];cases J:Nat.beq o p with
   |false=>grind [AV.kill]
   |true=>
    have x:=aHA J;obtain⟨b,n,_,C,k⟩:=K;obtain⟨d,arr,D,l,r,W⟩:=h.ah o _ ho;have m:d=b:=by
     grind
    subst m;have f:blk (γ o)=some d:=by have O:γ o=.pointer (some ⟨d,0,none⟩):=l;rw[O];rfl
    refine⟨d,k,arr,D,(0,0),⟨(h.lt o _ d ho f).1,λs=>h.mT d ((h.lt o _ d ho f).2.resolve_left ny),λq y i=>?_⟩,r,ai.kill _ h cs _ W⟩;obtain⟨z,B,_,A⟩:=AL (Nat.beq o ·) i;exact h.sep o _ q z d ho B (λe=>ny) f
  |_=>rw[j]at g;exact g
 .exact h
def land(own:Nat->Bool)(d:Nat)(o:Oper)(v:AV)(s:St):St:=
 match aDl o.op&&!(own d)with
 |true=>(s.put o.dst v).fix (d*64)
 |false=>avg own d o v s
def afB(st:St)(o:Oper):Bool:=match o.dst with|some d=>Nat.blt d st.n|none=>true
def roomy(d:Nat)(st:St):St:=
 match (st.ah (d*64)).isSome||(st.ah (d*64+1)).isSome||(st.ah (d*64+2)).isSome||(st.ah (d*64+3)).isSome with
 |true=>st.kill (aAL d)
 |false=>st
def axJ(Γ:kY)(d:Nat)(st:St)(op:Op):Option (Prop×Xc×List (Option Nat)×St):=
 match ako Γ (roomy d st) op with
 |some r=>some r
 |none=>ako Γ st op
def axK:BinOp->Option Bool
 |.eql=>some false
 |.neq=>some true
 |_=>none
def akx:Bool->Bool->Bool
 |true,g=>!g
 |false,g=>g
def avh(st:St):AV->Option (Bool->Prop)
 |.sv (.one (.sl _ _ l _))=>some λg=>g=true->l.length=0
 |.sv (.one (.ref o))=>match st.ah o with
  |some (.arr _ _ l _)=>some λg=>g=true->l.length=0
  |_=>none
 |.sv (.one .nil)=>some λg=>g=true
 |_=>none
def aAM(Θ:jY)(st:St)(t:TypeId)(x:Operand)(s:Option Bool):Option (Bool×(Bool->Prop)):=match s,Θ t with
 |some neg,some ti=>match ti.kind with
  |.slice _=>match avh st (st.ev x)with
   |some R=>some (neg,R)
   |none=>none
  |_=>none
 |_,_=>none
def aww(Θ:jY)(st:St):Op->Option (Bool×(Bool->Prop))
 |.binOp op t x (.const (.slice none 0 0)) _=>aAM Θ st t x (axK op)
 |_=>none
def aso(Θ:jY)(Γ:kY)(own:Nat->Bool)(o:Oper)(K:St->Prop)(st:St):Prop:=
 match afB st o with
 |true=>match axJ Γ (numOf st o) st o.op with
  |some (p,ρ,os,s0)=>p/\∀t,ρ.R t->match aft (numOf st o) s0 os (ρ.out t) (ρ.aV t)with
   |some (v,s)=>K (land own (numOf st o) o v s)
   |none=>False
  |none=>match aww Θ st o.op with
   |some (neg,R)=>∀g:Bool,R g->K (land own (numOf st o) o (.sv (.one (.bool (akx neg g)))) st)
   |none=>match awv Θ Γ (numOf st o) st o.op,quiet st o.op with
    |some (p,v,s),q=>match q with
     |true=>K (land own (numOf st o) o v s)
     |false=>p/\K (land own (numOf st o) o v s)
    |none,_=>False
 |false=>False
def guarded(ops:List Oper)(o:Oper)(one:St->Prop)(skip:St->Prop)(st:St):Prop:=
 match o.guard with
 |none=>one st
 |some (g,b)=>match ops[g]? with
  |some og=>match og.dst with
   |some t=>match afB st o,Nat.blt t st.n,st.tmps t with
    |true,true,.sv (.one (.bool x))=>cond x
     (match b with|true=>one (st.set t (.sv (.one (.bool true))))|false=>skip ((st.set t (.sv (.one (.bool true)))).put o.dst (.pG [])))
     (match b with|false=>one (st.set t (.sv (.one (.bool false))))|true=>skip ((st.set t (.sv (.one (.bool false)))).put o.dst (.pG [])))
    |true,true,.pG _=>skip (st.put o.dst (.pG []))
    |_,_,_=>False
   |none=>False
  |none=>False
def runs(Θ:jY)(Γ:kY)(own:Nat->Bool)(ops:List Oper)(K:St->Prop):List Oper->St->Prop
 |[],st=>K st
 |o::r,st=>guarded ops o (aso Θ Γ own o (runs Θ Γ own ops K r)) (runs Θ Γ own ops K r) st
theorem set_self{t:Nat}{v:AV}(h:st.tmps t=v):st.set t v=st:=by
 cases st with
 |mk n tm ob=>
  grind [St.set,St.mk.injEq,Nat.eq_of_beq_eq_true]
variable {Q:Exit->Act->World->Prop}
theorem axL{G:lT}(J:vM P G Θ Γ w0 M)(h:Rel w0 M T γ st a w)(o:Oper){neg:Bool}{R:Bool->Prop}(L:aww Θ st o.op=some (neg,R)){next:Act->World->Prop}
 (H:∀g:Bool,R g->next (a.put o.dst (.bool (akx neg g))) w):o.wp P a w next Q:=by
 unfold aww at L;split at L
 case h_2=>cases L
 next op t x _ s=>
 unfold aAM at L;split at L
 case h_2=>cases L
 next I O X r=>
 split at L
 case h_2=>cases L
 next e Y=>
 split at L
 case h_2=>cases L
 next S f=>
 cases L;have F:P.underlying t=some (.slice e):=by
  have:=(J.types t O r).und
  grind
 have j:op=.eql/\neg=false\/op=.neq/\neg=true:=by cases op<;>simp[axK]at X<;>simp[X]
 have E:∀(d:Option Addr)(n c:Nat),a.eval x=.slice d n c->R d.isNone->o.wp P a w next Q:=by
  intro d n c Z f;have k:a.eval (.const (.slice none 0 0))=.slice none 0 0:=rfl;refine Oper.oV (u:=.bool (akx neg d.isNone)) (w':=w) ?_ (H _ f);have X:execOp a.eval o=(do pure (Next.value (← (do eqGuard op t x (.const (.slice none 0 0)) (a.eval x) (a.eval (.const (.slice none 0 0)));binOp op t (a.eval x) (a.eval (.const (.slice none 0 0))))))):=by simp[execOp,s]
  rw[X];refine aB9 ?_;rw[Z,k];rcases j with⟨rfl,rfl⟩|⟨rfl,rfl⟩
  .exact Lib.run_eql_slice_nil w t e d n c 0 0 F
  .exact run_neq_slice_nil_any w t e d n c 0 0 F
 unfold avh at f;split at f
 .next ee rr l _ Z=>
  cases f;have K:=qF h Z;obtain⟨d,c,C,_⟩:=arV K;refine E d l.length c C λq=>?_;have B:dw w.heap _ (.sl ee rr) (a.eval x) l:=K;rcases B.2 with⟨N,_⟩|⟨b,m,y,A,t',U,D,_⟩
  .rw[N];rfl
  grind
 .next o' Z=>
  split at f
  .next _ _ l _ ho=>
   have K:=qF h Z;obtain⟨_,D,_⟩:=K;obtain⟨z,i,W,_⟩:=h.ah o' _ ho;obtain⟨_,i⟩:=i
   grind
  .cases f
 .next Z=>
  have K:a.eval x=.slice none 0 0:=qF h Z
  grind
 .cases f
theorem asq{G:lT}(N:vM P G Θ Γ w0 M){own:Nat->Bool}{o:Oper}{K:St->Prop}(h:Rel w0 M T γ st a w)(W:aso Θ Γ own o K st)
 {next:Act->World->Prop}  (H:∀s γ' L w',K s->Rel w0 M T γ' s L w'->next L w'):o.wp P a w next Q:=by
 unfold aso at W;split at W
 .next hd=>
  have D:∀(s:St)(v:AV)(u:Value)(γ':Nat->Value)(w':World),Rel w0 M T γ' s a w'->bD (ak w0 T γ' s w') v u->K (land own (numOf st o) o v s)->next (a.put o.dst u) w':=by
   intro s v u γ' w' z S k;have Z:s.n=st.n:=by rw[← z.size,h.size]
   have i:Rel w0 M T γ' (s.put o.dst v) (a.put o.dst u) w':=by
    cases n:o.dst with
    |none=>exact z
    |some d=>
     rw[afB,n]at hd;refine z.set d ?_ v u S
     simp_all
   unfold land at k;split at k
   .exact H _ γ' _ _ k (i.fix _)
   .unfold avg at k;split at k
    .exact H _ γ' _ _ k (i.freeze _)
    grind
  have j:∀(b:St)(_:Rel w0 M T γ b a w)(_:b.n=st.n)(p:Prop)(v:AV)(s:St),oper Θ Γ (numOf st o) b o.op=some (p,v,s)->p->K (land own (numOf st o) o v s)->o.wp P a w next Q:=by
   grind [awu]
  have U:∀(b:St)(_:Rel w0 M T γ b a w)(p:Prop)(m:Xc)(A:List (Option Nat))(B:St),ako Γ b o.op=some (p,m,A,B)->
   (p/\∀t,m.R t->match aft (numOf st o) B A (m.out t) (m.aV t)with|some (v,s)=>K (land own (numOf st o) o v s)|none=>False)->o.wp P a w next Q:=by
   intro b E p m A B hrel ⟨C,O⟩;refine axF N E o (d:=numOf st o) hrel C (λt ht=>?_) λt v s u γ' w' ht X z S=>?_
   · grind
   grind
  split at W
  .next p m A B hrel=>
   unfold axJ at hrel;split at hrel
   .next r hr0=>
    have J:Rel w0 M T γ (roomy (numOf st o) st) a w:=by
     unfold roomy;split
     .exact h.kill _
     .exact h
    grind
   grind
  split at W
  .next neg R hnil=>exact axL N h o hnil λg Y=>D st (.sv (.one (.bool (akx neg g)))) (.bool (akx neg g)) γ w h rfl (W g Y)
  cases F:awv Θ Γ (numOf st o) st o.op with
  |none=>grind
  |some res=>
   obtain⟨p,v,s⟩:=res;have I:quiet st o.op=true->K (land own (numOf st o) o v s):=λe=>ny;have y:quiet st o.op=false->p/\K (land own (numOf st o) o v s):=λe=>ny;unfold awv at F;cases q:oper Θ Γ (numOf st o) st o.op with
   |some r=>
    grind [akw]
   |none=>
    rw[q]at F;cases l:makes o.op with
    |false=>grind
    |true=>
     rw[l]at F;cases f:quiet st o.op with
     |true=>
      refine j _ (h.kill _) rfl p v s F (akw F ?_) (I f);cases x:o.op<;>rw[x]at l f<;>simp only[makes,aJX]at l<;>first|rfl|(simp[quiet]at f;done)|skip
      rename_i c
      obtain⟨callee,args,sG⟩:=c;cases callee<;>simp only[aJX]at l;exact f
     |false=>exact j _ (h.kill _) rfl p v s F (y f).1 (y f).2
 grind
theorem Rel.aBn(h:Rel w0 M T γ st a w)(d:Option Nat)(b:∀t,d=some t->t<st.n):Rel w0 M T γ (st.put d (.pG [])) (a.put d undef) w:=by
 cases d with
 |none=>exact h
 |some d=>exact h.set d (b d rfl) (.pG []) undef ⟨#[],rfl,trivial⟩
theorem aqW{ops:Array Oper}{o:Oper}{one skip:St->Prop}(h:Rel w0 M T γ st a w)(W:guarded ops.toList o one skip st){Y Z:Prop}
 (E:one st->Y) (O:skip (st.put o.dst (.pG []))->Z):
 (Region.wanted o (yielded ops a.tmps)=true/\Y)\/(Region.wanted o (yielded ops a.tmps)=false/\afB st o=true/\Z):=by
 unfold guarded at W;split at W
 · grind [Region.wanted]
 .next g b hg=>
  split at W
  .next og hog=>
   split at W
   .next t ht=>
    split at W
    .next x hok hlt htm=>
     have B:yielded ops a.tmps g=some x:=by
      have d:=h.tmps t;rw[htm]at d;have K:a.tmps.getD t undef=.bool x:=d;have e:t<a.tmps.size:=by rw[h.size];simp_all
      simp_all [yielded]
     grind [set_self,Region.wanted]
    .next xs hok hlt htm=>
     have B:yielded ops a.tmps g=none:=by
      have d:=h.tmps t;rw[htm]at d;obtain⟨I,K,_⟩:=d;have e:t<a.tmps.size:=by rw[h.size];simp_all
      simp_all [yielded]
     grind [Region.wanted]
    grind
   grind
  grind
theorem RZ{G:lT}(f:vM P G Θ Γ w0 M){own:Nat->Bool}{ops:Array Oper}{K:St->Prop}{Q:Exit->Act->World->Prop}
 (H:∀s γ' d w',K s->Rel w0 M T γ' s d w'->Q .normal d w'):∀(l:List Oper)(st:St)(γ:Nat->Value)(a:Act)(w:World),
 Rel w0 M T γ st a w->runs Θ Γ own ops.toList K l st->wpList P ops Q l a w
 |[],st,γ,a,w,h,hr=>H st γ a w hr h
 |o::r,st,γ,a,w,h,hr=>by
  unfold wpList;have:=aqW (ops:=ops) (o:=o) (Y:=o.wp P a w (wpList P ops Q r) Q) (Z:=afB st o=true->wpList P ops Q r (a.put o.dst undef) w) h hr
   (λE=>asq f h E λs γ' d w' g i=>RZ f H r s γ' d w' i g)
   (λO b=>RZ f H r _ γ _ w (h.aBn o.dst (λt j=>by rw[afB,j]at b;simpa[Nat.blt_eq]using b)) O)
  rcases this with⟨e,B⟩|⟨e,b,k⟩
  .rw[if_pos e];exact .inl B
  .rw[if_neg (by rw[e];simp)];exact k b
theorem ast{G:lT}(d:vM P G Θ Γ w0 M){own:Nat->Bool}{id:Nat}{ops:Array Oper}{K:St->Prop}(h:Rel w0 M T γ st a w)
 (W:runs Θ Γ own ops.toList K ops.toList st) (H:∀s γ' b w',K s->Rel w0 M T γ' s b w'->Q .normal b w'):(Code.region id ops false).wp P Q a w:=
 wp_region_list (RZ d H _ _ _ _ _ h W)
inductive Pre where
 |still (o:Nat)
 |opens (t:Nat)
 |closes (t:Nat)
 |aCg (o:Nat)
def avi(st:St)(t o:Nat)(e:TypeId)(r:au)(l:List r.den)(fr:Bool):St:=((st.kill (Nat.beq o ·)).add o (.arr e r l fr)).set t (.sv (.one (.ref o)))
def ZG:List Pre->(St->Prop)->St->Prop
 |[],K,st=>K st
 |.still o::z,K,st=>ZG z K (st.freeze (Nat.beq o ·))
 |.aCg o::z,K,st=>ZG z K (st.fix o)
 |.opens t::z,K,st=>match st.tmps t with
  |.sv (.one (.ref o))=>match st.ah o with
   |some (.arr _ _ l _)=>0<l.length/\ZG z K (st.set t (.win o 0 l.length))
   |_=>False
  |_=>False
 |.closes t::z,K,st=>match st.tmps t with
  |.win o lo n=>match Nat.beq lo 0,st.ah o with
   |true,some (.arr e r l fr)=>(0<l.length/\n<=l.length)/\ZG z K (avi st t o e r (l.take n) fr)
   |_,_=>False
  |_=>False
theorem Rel.axM(h:Rel w0 M T γ st a w)(t:Nat)(v:AV)(K:bD (ak w0 T γ st w) v (a.tmps.getD t undef)):Rel w0 M T γ (st.set t v) a w:=by
 refine⟨h.mT,h.defers,h.size,h.os,h.tape,h.output,h.grow,h.kept,λk=>?_,h.ah,h.lt,h.sep,h.pin⟩;show bD _ (match Nat.beq k t with|true=>v|false=>st.tmps k) (a.tmps.getD k undef);cases J:Nat.beq k t with
 |false=>exact h.tmps k
 |true=>rw[aHA J];exact K
theorem Rel.close(h:Rel w0 M T γ st a w){t o n:Nat}{e:TypeId}{r:au}{l:List r.den}{fr:Bool}(ht:st.tmps t=.win o 0 n)(F:st.ah o=some (.arr e r l fr))(hl:0<l.length)(H:n<=l.length):∃γ',Rel w0 M T γ' (avi st t o e r (l.take n) fr) a w:=by
 have x:=h.tmps t;rw[ht]at x;obtain⟨g,m,y,e',r',l',S,Z,b,⟨q,hq,K,hle⟩⟩:=x;have b:γ o=.slice (some ⟨g,0,none⟩) m y:=b;obtain⟨xs,⟨E,O⟩,s,X,u⟩:=h.ah o _ F;rcases O with⟨N,_⟩|⟨U,j,R,d,hg0,hh,hlc,k,B,C⟩
 .omega
 .have Ic:γ o=.slice (some ⟨U,0,none⟩) l.length j:=d;rw[b]at Ic;obtain⟨rfl,rfl,rfl⟩:=Ic;have A:q=0:=lu;subst A;have f:n*r.len<=l.length*r.len:=aHQ _ H;have J:blk (Value.slice (some ⟨g,0,none⟩) n y)=blk (γ o):=by rw[b];rfl
  obtain⟨W,_⟩:=h.replace (w':=w) (o:=o) (v':=.slice (some ⟨g,0,none⟩) n y) (x':=.arr e r (l.take n) fr) (blk (γ o)) (.inr ⟨_,F,rfl⟩) rfl rfl rfl (aHv _) (λ_ _ _=>rfl)
   (λc L=>⟨.inl ny,(h.lt o _ c F ny).1⟩) (λ_ e=>Q7) (λle=>by
     have Y:(l.take n).length=n:=ny;refine⟨xs.take (n*r.len),?_,s,?_,λi z D=>?_⟩
     .rw[Y];show w.ownsRow 0 e r.len (upd γ o _ o) _ _;rw[upd_same];refine⟨ny,.inr ⟨g,y,R,rfl,aHV _,hh,lu,k,B,?_⟩⟩
      grind
     · grind [upd_same]
     .have hil:i<n:=ny;have f:i*r.len+r.len<=n*r.len:=by
       have:(i+1)*r.len<=n*r.len:=aHQ _ hil
       grind
      rw[aIs,if_pos hil]at D;rw[jb _ _ _ _ f];exact aY.mono (λc L=>le.dA _ c L) _ _ z (u i z D))
  refine⟨_,W.axM t _ ?_⟩;have I:a.tmps.getD t undef=.slice (some ⟨g,0,none⟩) n y:=K;rw[I];exact⟨⟨e,r,_,_,add_same _ _ _⟩,(upd_same _ _ _).symm,rfl⟩
theorem Jr{K:St->Prop}:∀(z:List Pre)(st:St)(γ:Nat->Value),Rel w0 M T γ st a w->ZG z K st->∃s γ',Rel w0 M T γ' s a w/\K s
 |[],st,γ,h,hk=>⟨st,γ,h,hk⟩
 |.still o::z,st,γ,h,hk=>Jr z _ γ (h.freeze _) hk
 |.aCg o::z,st,γ,h,hk=>Jr z _ γ (h.fix o) hk
 |.opens t::z,st,γ,h,hk=>by
  rw[ZG]at hk;split at hk
  .next o ht=>
   split at hk
   .next e r l fr ho=>
    refine Jr z _ γ (h.axM t _ ?_) hk.2;have b:=h.tmps t;rw[ht]at b;obtain⟨_,k,_⟩:=b;obtain⟨m,⟨_,O⟩,_⟩:=h.ah o _ ho;rcases O with⟨_,j⟩|⟨g,y,R,U,_,_,j,i,_⟩
    .omega
    .refine⟨g,l.length,y,e,r,l,fr,ho,U,0,.inl lu,ny,lu⟩
   grind
  grind
 |.closes t::z,st,γ,h,hk=>by
  rw[ZG]at hk;split at hk
  .next o lo n ht=>
   split at hk
   .next e r l fr hb ho=>have d:=aHA hb;subst d;obtain⟨γ',f⟩:=h.close ht ho hk.1.1 hk.1.2;exact Jr z _ γ' f hk.2
   grind
  grind
inductive iy where
 |int (k:IntKind)
 |bool
 |str
 |nil
 |sl (e:TypeId) (r:au) (fr:Bool)
 |ref (o:Nat)
 |junk
@[reducible] def iy.den:iy->Type
  |.int _=>Int
  |.bool=>Bool
  |.str=>Bytes
  |.sl _ r _=>List r.den
  |.nil|.ref _|.junk=>Unit
def iy.cell:(c:iy)->c.den->Cell
 |.int k,n=>.int k n
 |.bool,b=>.bool b
 |.str,s=>.str s
 |.sl e r fr,l=>.sl e r l fr
 |.nil,_=>.nil
 |.ref o,_=>.ref o
 |.junk,_=>.junk
def Uc:Bool->Bool->Bool
 |true,b=>b
 |false,_=>true
def iy.read:(c:iy)->Cell->Option c.den
 |.int k,.int l n=>match decide (k=l)with|true=>some n|false=>none
 |.bool,.bool b=>some b
 |.str,.str s=>some s
 |.sl e r fr,.sl f s l gr=>match Nat.beq e f&&Uc fr gr with
  |true=>if h:s.beq r=true then some (xJ h l)else none
  |false=>none
 |.sl _ _ _,.nil=>some []
 |.nil,.nil=>some ()
 |.ref o,.ref p=>match Nat.beq o p with|true=>some ()|false=>none
 |.junk,_=>some ()
 |_,_=>none
theorem aCh(X:V)(e:TypeId)(r:au)(fr:Bool):aX X (.sl e r [] fr) (.slice none 0 0):=by refine⟨vk,.inl ⟨rfl,none,0,rfl⟩⟩
theorem iy.weak{X:V}:∀(c:iy)(x:Cell)(d:c.den)(v:Value),c.read x=some d->aX X x v->aX X (c.cell d) v:=by
 intro c x d v W K;cases c<;>cases x<;>simp only[iy.read,reduceCtorEq,Option.some.injEq]at W<;>try (subst W;exact K)
 case int.int k l n=>
  split at W
  .next e=>cases W;rw[show k=l by simpa using e];exact K
  .cases W
 case sl.sl e r fr f s l gr=>
  split at W
  .next hb=>
   split at W
   .next hs=>
    cases W;have h:=au.eq_of_beq s r hs;subst h;have i:dw X.w.heap (X.dA gr) (.sl e s) v l:=K;refine dw.mono (λb g=>⟨⟨g.1,λj=>g.2 ?_⟩,rfl⟩) (.sl e s) v l i
    grind [Uc]
   .cases W
  .cases W
 case sl.nil e r fr=>subst W;rw[show v=_ from K];exact aCh X e r fr
 case nil.nil=>exact K
 case ref.ref o p=>
  grind [iy.cell,Nat.eq_of_beq_eq_true]
 all_goals exact aX.one _ _ K
@[reducible] def oD:List iy->Type
  |[]=>Unit
  |c::r=>c.den×oD r
def jA:(l:List iy)->oD l->List Cell
 |[],_=>[]
 |c::r,x=>c.cell x.1::jA r x.2
def lJ:(l:List iy)->List Cell->Option (oD l)
 |[],[]=>some ()
 |c::r,x::xs=>match c.read x,lJ r xs with
  |some a,some b=>some (a,b)
  |_,_=>none
 |_,_=>none
theorem KC{X:V}:∀(l:List iy)(z:List Cell)(d:oD l)(I:List Value),lJ l z=some d->ai X z I->ai X (jA l d) I
 |[],[],_,_,_,hv=>hv
 |c::r,x::z,d,I,hr,hv=>by
  rw[lJ]at hr;split at hr
  .next a b h1 h2=>
   cases hr;cases I with
   |nil=>cases hv
   |cons v I=>exact⟨iy.weak c x a v h1 hv.1,KC r z b I h2 hv.2⟩
  .cases hr
 |[],_::_,_,_,hr,_=>by grind [lJ]
 |_::_,[],_,_,hr,_=>by grind [lJ]
@[reducible] def F5:List (List iy)->Type
  |[]=>Unit
  |l::r=>oD l×F5 r
def Qw:(l:List (List iy))->F5 l->List (List Cell)
 |[],_=>[]
 |c::r,x=>jA c x.1::Qw r x.2
def LZ:(l:List (List iy))->List (List Cell)->Option (F5 l)
 |[],[]=>some ()
 |c::r,x::xs=>match lJ c x,LZ r xs with
  |some a,some b=>some (a,b)
  |_,_=>none
 |_,_=>none
theorem apT{X:V}{l:List iy}{z:List Cell}{d:oD l}{b:Nat}(W:lJ l z=some d)(h:ja X z b):ja X (jA l d) b:=by obtain⟨arr,t,e,q,f,L⟩:=h;exact⟨arr,t,e,q,f,KC _ _ _ _ W L⟩
theorem adv{X:V}:∀(l:List (List iy))(z:List (List Cell))(d:F5 l)(s:List Value),LZ l z=some d->gB X z s->gB X (Qw l d) s
 |[],[],_,s,_,h=>h
 |c::r,x::z,d,s,hr,h=>by
  rw[LZ]at hr;split at hr
  .next a b h1 h2=>
   cases hr;cases s with
   |nil=>cases h
   |cons u s=>obtain⟨⟨e,g,f⟩,U⟩:=h;exact⟨⟨e,g,apT h1 f⟩,adv r z b s h2 U⟩
  .cases hr
 |[],_::_,_,_,hr,_=>by grind [LZ]
 |_::_,[],_,_,hr,_=>by grind [LZ]
inductive OW where
 |one (c:iy)
 |agg (l:List iy)
 |eG (o off:Nat)
 |dH (l:List iy) (off:Nat)
 |fn (f:FuncId) (l:List (List iy))
@[reducible] def OW.den:OW->Type
  |.one c=>c.den
  |.agg l=>oD l
  |.eG _ _=>Unit
  |.dH l _=>oD l
  |.fn _ l=>F5 l
def OW.val:(s:OW)->s.den->AV
 |.one c,x=>.sv (.one (c.cell x))
 |.agg l,x=>.sv (.agg (jA l x))
 |.eG o off,_=>.eG o off
 |.dH l off,x=>.dH (jA l x) off
 |.fn f l,x=>.fn f (Qw l x)
def OW.read:(s:OW)->AV->Option s.den
 |.one c,.sv (.one x)=>c.read x
 |.agg l,.sv (.agg xs)=>lJ l xs
 |.eG o off,.eG p k=>match Nat.beq o p&&Nat.beq off k with|true=>some ()|false=>none
 |.dH l off,.dH xs k=>match Nat.beq off k with|true=>lJ l xs|false=>none
 |.fn f l,.fn g xs=>match Nat.beq f g with|true=>LZ l xs|false=>none
 |_,_=>none
theorem OW.weak{X:V}(s:OW)(x:AV)(d:s.den)(v:Value)(W:s.read x=some d)(K:bD X x v):bD X (s.val d) v:=by
 unfold OW.read at W;split at W
 .exact iy.weak _ _ _ _ W K
 .obtain⟨vs,e,h⟩:=K;exact⟨vs,e,KC _ _ _ _ W h⟩
 · grind [OW.val,Nat.eq_of_beq_eq_true]
 .split at W
  .next hb=>obtain⟨b,e,arr,t,f,q,g,L⟩:=K;rw[OW.val,aHA hb];exact⟨b,e,arr,t,f,q,g,KC _ _ _ _ W L⟩
  .cases W
 .split at W
  .next hb=>obtain⟨i,e,u⟩:=K;rw[OW.val,aHA hb];exact⟨i,e,adv _ _ _ _ W u⟩
  .cases W
 .cases W
inductive Rz where
 |var (l:List iy)
 |arr (e:TypeId) (r:au) (fr:Bool)
@[reducible] def Rz.den:Rz->Type
  |.var l=>oD l
  |.arr _ r _=>List r.den
def Rz.obj:(s:Rz)->s.den->aI
 |.var l,x=>.var (jA l x)
 |.arr e r fr,l=>.arr e r l fr
def Rz.read:(s:Rz)->aI->Option s.den
 |.var l,.var xs=>lJ l xs
 |.arr e r fr,.arr f s l gr=>match Nat.beq e f&&Uc fr gr with
  |true=>if h:s.beq r=true then some (xJ h l)else none
  |false=>none
 |_,_=>none
def Pm(x x':aI):Prop:=
 (∃A b,x=.var A/\x'=.var b/\∀(X:V) vs,ai X A vs->ai X b vs)\/∃e r l d f,x=.arr e r l f/\x'=.arr e r l d/\(d=true->f=true)
theorem Rz.weak(s:Rz)(x:aI)(d:s.den)(W:s.read x=some d):Pm x (s.obj d):=by
 unfold Rz.read at W;split at W
 .exact .inl ⟨_,_,rfl,rfl,λX I h=>KC _ _ _ _ W h⟩
 .next e r fr f s l gr=>
  split at W
  .next hb=>
   split at W
   .next hs=>
    cases W;rw[aHy]at hb;have g:=aHA hb.1;have j:fr=true->gr=true:=λe=>by have b:=hb.2;rw[e]at b;exact b
    subst g;have i:=au.eq_of_beq s r hs;subst i;exact .inr ⟨e,s,l,fr,gr,rfl,rfl,j⟩
   .cases W
  .cases W
 .cases W
structure Covers(J st:St):Prop where
 n:J.n=st.n
 tmps:∀t(X:V) v,bD X (st.tmps t) v->bD X (J.tmps t) v
 ah:∀o,(J.ah o=none/\st.ah o=none)\/∃x x',st.ah o=some x/\J.ah o=some x'/\Pm x x'
theorem Rel.covers{J:St}(h:Rel w0 M T γ st a w)(L:Covers J st):Rel w0 M T γ J a w:=by
 have g:∀o f,J.ah o=some f->∃x,st.ah o=some x/\Pm x f:=by
  intro o f d;rcases L.ah o with⟨e,_⟩|⟨x,y,Z,B,s⟩
  · grind
  grind
 have I:∀o x,st.ah o=some x->∃f,J.ah o=some f/\Pm x f:=by
  intro o x Z;rcases L.ah o with⟨_,e⟩|⟨y,f,B,d,s⟩
  · grind
  grind
 have C:(ak w0 T γ st w).le (ak w0 T γ J w):=by
  refine⟨aHv _,λb k=>⟨⟨k.1,k.2.1,λo x Z=>?_⟩,rfl⟩,λo A Z=>⟨?_,rfl⟩,λo e r l E Z=>⟨?_,rfl⟩⟩
  .obtain⟨y,B,_⟩:=g o x Z;exact k.2.2 o y B
  .obtain⟨f,d,s⟩:=I o _ Z;rcases s with⟨n,u,j,m,_⟩|⟨e,r,l,E,R,j,m,_⟩
   · grind
   .cases j
  .obtain⟨f,d,s⟩:=I o _ Z;rcases s with⟨n,u,j,m,_⟩|⟨e,r,l,E,R,j,m,_⟩
   .cases j
   grind
 refine⟨h.mT,h.defers,h.size.trans L.n.symm,h.os,h.tape,h.output,h.grow,h.kept,λt=>L.tmps t _ _ (bD.mono C _ _ (h.tmps t)),λo f d=>?_,λo f b d k=>?_,λo f p y' b d W U k=>?_,λo v A Y d=>?_⟩
 .obtain⟨x,Z,s⟩:=g o f d;have F:=h.ah o x Z;rcases s with⟨n,u,j,m,S⟩|⟨e,r,l,E,R,j,m,H⟩
  .subst j m;obtain⟨b,arr,t,K,N,O⟩:=F;exact⟨b,arr,t,K,N,S _ _ (ai.mono C _ _ O)⟩
  .subst j m;obtain⟨z,K,N,O,X⟩:=F;exact⟨z,K,N,λb k q=>O b k (H q),λi x D=>aY.mono (λb k=>C.dA E b ⟨k.1,λe=>k.2 (H e)⟩) r _ x (X i x D)⟩
 .obtain⟨x,Z,_⟩:=g o f d;exact h.lt o x b Z k
 .obtain⟨x,Z,_⟩:=g o f d;obtain⟨y,B,_⟩:=g p y' W;exact h.sep o x p y b Z B U k
 .obtain⟨x,Z,s⟩:=g o _ d;rcases s with⟨n,u,j,m,_⟩|⟨e,r,l,E,R,j,m,_⟩
  .subst j;exact h.pin o v n Y Z
  .cases m
structure Shape where
 tmps:List (Nat×OW)
 ah:List (Nat×Rz)
@[reducible] def aky:List (Nat×OW)->Type
  |[]=>Unit
  |x::r=>x.2.den×aky r
@[reducible] def akz:List (Nat×Rz)->Type
  |[]=>Unit
  |x::r=>x.2.den×akz r
@[reducible] def Shape.den (s:Shape):Type:=aky s.tmps×akz s.ah
def adw:(l:List (Nat×OW))->aky l->(Nat->AV)->Nat->AV
 |[],_,f=>f
 |s::r,x,f=>λi=>match Nat.beq i s.1 with|true=>s.2.val x.1|false=>adw r x.2 f i
def Qx:(l:List (Nat×Rz))->akz l->(Nat->Option aI)->Nat->Option aI
 |[],_,f=>f
 |s::r,x,f=>λi=>match Nat.beq i s.1 with|true=>some (s.2.obj x.1)|false=>Qx r x.2 f i
def akA(st:St):(l:List (Nat×OW))->Option (aky l)
 |[]=>some ()
 |s::r=>match s.2.read (st.tmps s.1),akA st r with
  |some a,some b=>some (a,b)
  |_,_=>none
def akB(st:St):(l:List (Nat×Rz))->Option (akz l)
 |[]=>some ()
 |s::r=>match st.ah s.1,akB st r with
  |some x,some b=>match s.2.read x with
   |some a=>some (a,b)
   |none=>none
  |_,_=>none
def bn:List Nat->Nat->Bool
 |[],_=>false
 |x::r,o=>match Nat.beq o x with|true=>true|false=>bn r o
def names:List (Nat×Rz)->List Nat
 |[]=>[]
 |x::r=>x.1::names r
def joint(n:Nat)(c v:Shape)(x:c.den)(y:v.den):St:=
 {n:=n,tmps:=adw c.tmps x.1 (adw v.tmps y.1 (λ_=>.undef)),ah:=Qx c.ah x.2 (Qx v.ah y.2 (λ_=>none))}
def only(c v:Shape)(st:St):St:=st.freeze λo=>!(bn (names c.ah) o||bn (names v.ah) o)
def Shape.read(s:Shape)(st:St):Option s.den:=
 match akA st s.tmps,akB st s.ah with
 |some a,some b=>some (a,b)
 |_,_=>none
theorem Xh{X:V}(t:Nat)(u:Value)(d:bD X (st.tmps t) u):∀(l:List (Nat×OW))(x:aky l)(f:Nat->AV),akA st l=some x->bD X (f t) u->bD X (adw l x f t) u
 |[],_,_,_,hf=>hf
 |s::r,x,f,hr,hf=>by
  rw[akA]at hr;split at hr
  .next a b h1 h2=>
   cases hr;simp only[adw];cases J:Nat.beq t s.1 with
   |true=>
    rw[aHA J]at d;exact OW.weak s.2 _ a u h1 d
   |false=>exact Xh t u d r b f h2 hf
  .cases hr
theorem Qb(o:Nat):∀(l:List (Nat×Rz))(x:akz l)(f:Nat->Option aI),akB st l=some x->
 (f o=none\/∃y d,st.ah o=some y/\f o=some d/\Pm y d)->
 ((Qx l x f o=none/\bn (names l) o=false/\f o=none)\/∃y d,st.ah o=some y/\Qx l x f o=some d/\Pm y d)
 |[],_,f,_,hf=>by
  rcases hf with e|h
  .exact .inl ⟨e,rfl,e⟩
  .exact .inr h
 |s::r,x,f,hr,hf=>by
  rw[akB]at hr;split at hr
  .next y b h1 h2=>
   split at hr
   .next a h3=>
    cases hr;simp only[Qx,names,bn];cases J:Nat.beq o s.1 with
    |true=>
     rw[aHA J];exact .inr ⟨y,_,h1,rfl,Rz.weak s.2 y a h3⟩
    |false=>exact Qb o r b f h2 hf
   .cases hr
  .cases hr
theorem asu{c v:Shape}{x:c.den}{y:v.den}(L:c.read (only c v st)=some x)(K:v.read (only c v st)=some y):Covers (joint st.n c v x y) (only c v st):=by
 unfold Shape.read at L K;split at L
 .next a b h1 h2=>
  cases L;split at K
  .next a' b' h3 h4=>
   cases K;refine⟨rfl,λt X u d=>Xh t u d _ _ _ h1 (Xh t u d _ _ _ h3 trivial),λo=>?_⟩;rcases Qb o v.ah b' (λ_=>none) h4 (.inl rfl)with⟨e1,e2,_⟩|h
   .rcases Qb o c.ah b (Qx v.ah b' (λ_=>none)) h2 (.inl e1)with⟨g1,g2,_⟩|h
    .refine .inl ⟨g1,?_⟩
     grind [only,St.freeze]
    .exact .inr h
   .rcases Qb o c.ah b (Qx v.ah b' (λ_=>none)) h2 (.inr h)with⟨g1,g2,g3⟩|h'
    · grind
    .exact .inr h'
  .cases K
 .cases L
theorem Rel.joint(h:Rel w0 M T γ st a w){c v:Shape}{x:c.den}{y:v.den}(L:c.read (only c v st)=some x)(K:v.read (only c v st)=some y):
 Rel w0 M T γ (joint st.n c v x y) a w:=(h.freeze _).covers (asu L K)
end Go.Fw
namespace Go.Fw
open Go
variable {P:Program} {w0:World} {M:Nat->Prop} {T:Ext} {γ γ':Nat->Value} {st:St} {a:Act} {w w':World}
def Cell.ren(f:Nat->Nat):Cell->Cell
 |.ref q=>.ref (f q)
 |c=>c
def SV.ren(f:Nat->Nat):SV->SV
 |.one c=>.one (c.ren f)
 |.agg cs=>.agg (cs.map (Cell.ren f))
def AV.ren(f:Nat->Nat):AV->AV
 |.undef=>.undef
 |.sv v=>.sv (v.ren f)
 |.pG vs=>.pG (vs.map (SV.ren f))
 |.eG o off=>.eG (f o) off
 |.qf o i off=>.qf (f o) i off
 |.win o i off=>.win (f o) i off
 |.sS r x off fr=>.sS r x off fr
 |.dH cs off=>.dH (cs.map (Cell.ren f)) off
 |.fn g caps=>.fn g (caps.map (List.map (Cell.ren f)))
def aI.ren(f:Nat->Nat):aI->aI
 |.var cs=>.var (cs.map (Cell.ren f))
 |.arr e r l fr=>.arr e r l fr
def ET(o p q:Nat):Nat:=match Nat.beq q o with|true=>p|false=>q
def St.ren(st:St)(o p:Nat):St:=
 {n:=st.n,tmps:=λt=>(st.tmps t).ren (ET o p),ah:=λq=>match Nat.beq q p with
  |true=>(st.ah o).map (aI.ren (ET o p))
  |false=>match Nat.beq q o with|true=>none|false=>(st.ah q).map (aI.ren (ET o p))}
structure V.uY(f:Nat->Nat)(X Y:V):Prop where
 n0:Y.n0<=X.n0
 foot:∀b,X.foot b->Y.foot b/\Y.w.heap[b]? =X.w.heap[b]?
 var:∀o cs,X.ah o=some (.var cs)->(∃cs',Y.ah (f o)=some (.var cs'))/\Y.γ (f o)=X.γ o
 arr:∀o e r l fr,X.ah o=some (.arr e r l fr)->(∃l' fr',Y.ah (f o)=some (.arr e r l' fr'))/\Y.γ (f o)=X.γ o
variable {f:Nat->Nat}
variable {X Y:V}
theorem V.uY.dA(h:X.uY f Y)(fr:Bool)(b:Nat)(J:X.dA fr b):Y.dA fr b/\Y.w.heap[b]? =X.w.heap[b]? :=
 ⟨⟨(h.foot b J.1).1,λe=>⟨aHw h.n0 (J.2 e).1,(J.2 e).2.keep (h.foot b J.1).2⟩⟩,(h.foot b J.1).2⟩
theorem aX.uY(h:X.uY f Y):∀(c:Cell)(v:Value),aX X c v->aX Y (c.ren f) v
 |.int _ _,_,H|.bool _,_,H|.str _,_,H|.nil,_,H|.junk,_,H=>H
 |.sl e r l fr,v,H=>dw.mono (λb J=>h.dA fr b J) (.sl e r) v l H
 |.ref o,v,⟨⟨e,r,l,fr,hx⟩,hv,h1⟩=>by obtain⟨⟨i,d,B⟩,g⟩:=h.arr o e r l fr hx;exact⟨⟨e,r,i,d,B⟩,hv.trans g.symm,h1⟩
theorem ai.uY{X Y:V}(h:X.uY f Y):∀(A:List Cell)(I:List Value),ai X A I->ai Y (A.map (Cell.ren f)) I
 |[],[],H=>H
 |c::A,v::I,⟨h1,h2⟩=>⟨aX.uY h c v h1,ai.uY h A I h2⟩
 |[],_::_,H|_::_,[],H=>RS
theorem eP.uY(h:X.uY f Y):∀(c:SV)(v:Value),eP X c v->eP Y (c.ren f) v
 |.one c,v,H=>aX.uY h c v H
 |.agg cs,_,⟨vs,hv,H⟩=>⟨vs,hv,ai.uY h cs _ H⟩
theorem eX.uY{X Y:V}(h:X.uY f Y):∀(A:List SV)(I:List Value),eX X A I->eX Y (A.map (SV.ren f)) I
 |[],[],H=>H
 |c::A,v::I,⟨h1,h2⟩=>⟨eP.uY h c v h1,eX.uY h A I h2⟩
 |[],_::_,H|_::_,[],H=>RS
theorem ja.uY(h:X.uY f Y){A:List Cell}{b:Nat}(H:ja X A b):ja Y (A.map (Cell.ren f)) b:=by obtain⟨arr,t,d,J,e,W⟩:=H;exact⟨arr,t,d,(h.foot b J).1,(h.foot b J).2.trans e,ai.uY h A _ W⟩
theorem gB.uY{X Y:V}(h:X.uY f Y):∀(l:List (List Cell))(s:List Value),gB X l s->gB Y (l.map (List.map (Cell.ren f))) s
 |[],[],H=>H
 |cs::l,u::s,⟨⟨b,hu,hk⟩,h2⟩=>⟨⟨b,hu,ja.uY h hk⟩,gB.uY h l s h2⟩
 |[],_::_,H|_::_,[],H=>RS
theorem bD.uY(h:X.uY f Y):∀(c:AV)(v:Value),bD X c v->bD Y (c.ren f) v
 |.undef,_,_=>trivial
 |.sv x,v,H=>eP.uY h x v H
 |.pG xs,_,⟨vs,hv,H⟩=>⟨vs,hv,eX.uY h xs _ H⟩
 |.eG o off,v,⟨b,cs,hx,hγ,hv⟩=>by
  obtain⟨⟨k,B⟩,j⟩:=h.var o cs hx;exact⟨b,k,B,j.trans hγ,hv⟩
 |.qf o i off,v,⟨b,n,cap,e,r,l,fr,hx,hγ,hv⟩=>by
  obtain⟨⟨m,d,B⟩,j⟩:=h.arr o e r l fr hx;exact⟨b,n,cap,e,r,m,d,B,j.trans hγ,hv⟩
 |.win o i off,v,⟨b,n,cap,e,r,l,fr,hx,hγ,hv⟩=>by
  obtain⟨⟨m,d,B⟩,j⟩:=h.arr o e r l fr hx;exact⟨b,n,cap,e,r,m,d,B,j.trans hγ,hv⟩
 |.sS r x off fr,v,⟨b,base,cs,t,fz,hv,hf,J,hr⟩=>
  ⟨b,base,cs,t,fz,hv,(h.dA fr b hf).1,(h.dA fr b hf).2.trans J,aY.mono (λb J=>h.dA fr b J) r _ x hr⟩
 |.dH cs off,v,⟨b,hv,hk⟩=>⟨b,hv,ja.uY h hk⟩
 |.fn g caps,v,⟨us,hv,hk⟩=>⟨us,hv,gB.uY h caps _ hk⟩
theorem cu.uY(h:X.uY f Y)(o p:Nat):∀(x:aI),(∀b,blk (X.γ o)=some b->Y.w.heap[b]? =X.w.heap[b]?)->Y.γ p=X.γ o->cu X o x->cu Y p (x.ren f)
 |.var cs,J,hγ,⟨b,arr,t,e,n,hr⟩=>⟨b,arr,t,hγ.trans e,(J b (by rw[e];rfl)).trans n,ai.uY h cs _ hr⟩
 |.arr e r l fr,J,hγ,⟨xs,hown,hr,hf,hx⟩=>by
  refine⟨xs,?_,hr,λb k m=>aHw h.n0 (hf b (hγ▸k) m),λi x D=>aY.mono (λb J=>h.dA fr b J) r _ x (hx i x D)⟩;obtain⟨E,O⟩:=hown;refine⟨E,?_⟩;rcases O with O|⟨g,y,R,K,d,n,j⟩
  · grind
  .exact .inr ⟨g,y,R,hγ.trans K,d,(J g atF).trans n,j⟩
theorem avj(o p:Nat):ET o p o=p:=by unfold ET;simp_all
variable {o:Nat}
theorem ZH{p q:Nat}(h:q≠o):ET o p q=q:=by grind [ET,Qv]
theorem Rel.ren(h:Rel w0 M T γ st a w){p:Nat}{e:TypeId}{r:au}{l:List r.den}{fr:Bool}(F:st.ah o=some (.arr e r l fr))(C:st.ah p=none):
 Rel w0 M T (λq=>match Nat.beq q p with|true=>γ o|false=>γ q) (st.ren o p) a w:=by
 have g:∀q x,(st.ren o p).ah q=some x->∃d k,st.ah d=some k/\x=k.ren (ET o p)/\q=ET o p d/\(match Nat.beq q p with|true=>γ o|false=>γ q)=γ d:=by
  intro q x Z;simp only[St.ren]at Z;cases E:Nat.beq q p with
  |true=>
   grind [avj,Nat.eq_of_beq_eq_true]
  |false=>
   cases D:Nat.beq q o with
   |true=>grind
   |false=>
    cases N:st.ah q with
    |none=>grind
    |some k=>
     grind [ZH,Nat.beq_refl]
 have i:∀q x,st.ah q=some x->(st.ren o p).ah (ET o p q)=some (x.ren (ET o p))/\(match Nat.beq (ET o p q) p with|true=>γ o|false=>γ (ET o p q))=γ q:=by
  grind [avj,Nat.beq_refl,St.ren,ZH,Qv]
 have le:V.uY (ET o p) (ak w0 T γ st w) ⟨w,w0.heap.size,T,λq=>match Nat.beq q p with|true=>γ o|false=>γ q,(st.ren o p).ah⟩:=by
  refine⟨aHv _,λb J=>⟨⟨J.1,J.2.1,λq x Z=>?_⟩,rfl⟩,λq A Z=>?_,λq L Q O m Z=>?_⟩
  .obtain⟨d,k,h1,_,_,h4⟩:=g q x Z;show blk (match Nat.beq q p with|true=>γ o|false=>γ q)≠some b;rw[h4];exact J.2.2 d k h1
  .obtain⟨h1,h2⟩:=i q _ Z;exact⟨⟨_,h1⟩,h2⟩
  .obtain⟨h1,h2⟩:=i q _ Z;exact⟨⟨_,_,h1⟩,h2⟩
 refine⟨h.mT,h.defers,h.size,h.os,h.tape,h.output,h.grow,h.kept,λt=>bD.uY le _ _ (h.tmps t),λq x Z=>?_,λq x b Z J=>?_,λq x H y b Z B j J=>?_,λq v A z Z=>?_⟩
 .obtain⟨d,k,h1,rfl,h3,h4⟩:=g q x Z;exact cu.uY le d q k (λ_ _=>rfl) h4 (h.ah d k h1)
 .obtain⟨d,k,h1,_,_,h4⟩:=g q x Z;exact h.lt d k b h1 (h4▸J)
 .obtain⟨d,k,h1,_,h3,h4⟩:=g q x Z;obtain⟨I,K,n,_,s,u⟩:=g H y B;rw[h4]at J;rw[u];refine h.sep d k I K b h1 n (λe=>j ?_) J;rw[h3,s,e]
 .obtain⟨d,k,h1,h2,h3,h4⟩:=g q _ Z;cases k with
  |arr _ _ _ _=>cases h2
  |var cs0=>have:d≠o:=λe=>ny;rw[ZH this]at h3;subst h3;rw[h4];exact h.pin q v cs0 z h1
theorem Rel.aDn(h:Rel w0 M T γ st a w){A j:List Cell}(F:st.ah o=some (.var A))(L:∀I,ai (ak w0 T γ st w) A I->ai (ak w0 T γ st w) j I):
 Rel w0 M T γ (st.add o (.var j)) a w:=by
 have g:∀p,p≠o->(st.add o (.var j)).ah p=st.ah p:=λp C=>qG st _ C;have d:∀p y,(st.add o (.var j)).ah p=some y->∃z,st.ah p=some z:=by
  grind
 have le:(ak w0 T γ st w).le ⟨w,w0.heap.size,T,γ,(st.add o (.var j)).ah⟩:=by
  refine⟨aHv _,λc J=>⟨⟨J.1,J.2.1,λp y C=>?_⟩,rfl⟩,λp n C=>⟨?_,rfl⟩,λp e r l E C=>⟨?_,rfl⟩⟩
  .obtain⟨z,hz⟩:=d p y C;exact J.2.2 p z hz
  · grind [add_same]
  grind
 refine⟨h.mT,h.defers,h.size,h.os,h.tape,h.output,h.grow,h.kept,λt=>bD.mono le _ _ (h.tmps t),λp y C=>?_,λp y c C J=>?_,λp y q z c C i k J=>?_,λp v n s C=>?_⟩
 .by_cases e:p=o
  .subst e;rw[add_same]at C;cases C;obtain⟨b,arr,t,u,x,B⟩:=h.ah p _ F;exact⟨b,arr,t,u,x,ai.mono le _ _ (L _ B)⟩
  .rw[g p e]at C;exact cu.mono le p y (λ_ _=>rfl) rfl (h.ah p y C)
 .obtain⟨z,hz⟩:=d p y C;exact h.lt p z c hz J
 .obtain⟨z1,hz1⟩:=d p y C;obtain⟨D,m⟩:=d q z i;exact h.sep p z1 q D c hz1 m k J
 .by_cases e:p=o
  .subst e;exact h.pin p v A s F
  .rw[g p e]at C;exact h.pin p v n s C
inductive Place where
 |slot (t k:Nat)
 |obj (o k:Nat)
def cellAt(st:St):Place->Option Cell
 |.slot t k=>match st.tmps t with|.sv v=>v.cells[k]? |_=>none
 |.obj o k=>match st.ah o with|some (.var cs)=>cs[k]? |_=>none
def SV.put(k:Nat)(c:Cell):SV->SV
 |.one _=>.one c
 |.agg cs=>.agg (cs.set k c)
def setCell(st:St)(c:Cell):Place->St
 |.slot t k=>match st.tmps t with|.sv v=>st.set t (.sv (v.put k c))|_=>st
 |.obj o k=>match st.ah o with|some (.var cs)=>st.add o (.var (cs.set k c))|_=>st
abbrev adx:=Place×Nat×TypeId×au×Bool
def settle(st:St)(x:adx):Option St:=
 match cellAt st x.1 with
 |some (.ref o)=>match Nat.beq o x.2.1 with
  |true=>some st
  |false=>match (st.kill (Nat.beq x.2.1 ·)).ah o with
   |some (.arr _ _ _ _)=>some ((st.kill (Nat.beq x.2.1 ·)).ren o x.2.1)
   |_=>none
 |some .nil=>match Nat.ble 1 x.2.2.2.1.len,cellAt ((st.kill (Nat.beq x.2.1 ·)).add x.2.1 (.arr x.2.2.1 x.2.2.2.1 [] x.2.2.2.2)) x.1 with
  |true,some .nil=>some (setCell ((st.kill (Nat.beq x.2.1 ·)).add x.2.1 (.arr x.2.2.1 x.2.2.2.1 [] x.2.2.2.2)) (.ref x.2.1) x.1)
  |_,_=>none
 |_=>none
def settles(st:St):List adx->Option St
 |[]=>some st
 |x::l=>match settle st x with
  |some s=>settles s l
  |none=>none
theorem ai.set{X:V}:∀(A:List Cell)(I:List Value)(k:Nat)(c:Cell),(∀v,aX X .nil v->aX X c v)->A[k]? =some .nil->ai X A I->ai X (A.set k c) I
 |[],_,_,_,_,h,_=>XD
 |x::A,v::I,0,c,hc,h,⟨h1,h2⟩=>by simp at h;subst h;exact⟨hc v h1,h2⟩
 |x::A,v::I,k+1,c,hc,h,⟨h1,h2⟩=>⟨h1,ai.set A I k c hc y7 h2⟩
 |_::_,[],_,_,_,_,H=>RS
theorem Rel.setCell(h:Rel w0 M T γ st a w){c:Cell}{d:Place}(H:cellAt st d=some .nil)(L:∀v,aX (ak w0 T γ st w) .nil v->aX (ak w0 T γ st w) c v):Rel w0 M T γ (setCell st c d) a w:=by
 cases d with
 |slot t k=>
  simp only[cellAt]at H;simp only[Fw.setCell];split at H
  .next v hv=>
   have e:bD (ak w0 T γ st w) (.sv (v.put k c)) (a.tmps.getD t undef):=by
    have S:=h.tmps t;rw[hv]at S;cases v with
    |one x=>
     have Z:x=.nil/\k=0:=by
      grind [SV.cells]
     obtain⟨rfl,rfl⟩:=Z;exact L _ S
    |agg cs=>obtain⟨I,b,W⟩:=S;exact⟨I,b,ai.set cs _ k c L H W⟩
   refine⟨h.mT,h.defers,h.size,h.os,h.tape,h.output,h.grow,h.kept,λg=>?_,h.ah,h.lt,h.sep,h.pin⟩;by_cases i:g=t
   · grind [St.set,Nat.beq_refl]
   .simp only[St.set,Qv i];exact h.tmps g
  .cases H
 |obj o k=>
  simp only[cellAt]at H;simp only[Fw.setCell];split at H
  .next cs hcs=>exact h.aDn hcs λI b=>ai.set cs I k c L H b
  .cases H
theorem Rel.aCi(h:Rel w0 M T γ st a w)(F:st.ah o=none)(e:TypeId)(r:au)(fr:Bool)(W:1<=r.len):
 Rel w0 M T (upd γ o (.slice none 0 0)) (st.add o (.arr e r [] fr)) a w:=by
 refine(h.grown (γ':=upd γ o (.slice none 0 0)) (w':=w) (st.add o (.arr e r [] fr)).ah
  (λp x C=>by grind [qG])
  (λp x C=>by rw[sF];grind)
  rfl rfl rfl (aHv _) (λ_ _=>rfl)
  (λp x C H=>by
    by_cases d:p=o
    .subst d;rw[add_same]at C;cases C;refine⟨⟨[],⟨vk,.inl ⟨upd_same _ _ _,rfl⟩⟩,W,(λb J=>by grind [blk,upd_same]),λi x D=>by simp at D⟩,λb J=>by rw[upd_same]at J;cases J⟩
    grind [qG])
  (λp A C H=>by
    grind [add_same,qG])
  (λp x q y b C g l k j J=>by
    grind [qG])).1
theorem apU(st:St)(p:Nat):(st.kill (Nat.beq p ·)).ah p=none:=by simp[St.kill]
theorem Rel.settle(h:Rel w0 M T γ st a w){x:adx}{s:St}(b:Fw.settle st x=some s):∃γ',Rel w0 M T γ' s a w:=by
 obtain⟨i,p,e,r,d⟩:=x;unfold Fw.settle at b;split at b
 .next o ho=>
  split at b
  · grind
  .split at b
   .next hk=>cases b;exact⟨_,(h.kill _).ren hk (apU st p)⟩
   .cases b
 .next ho=>
  split at b
  .next hr hn=>cases b;have g:=(h.kill (Nat.beq p ·)).aCi (apU st p) e r d XH;refine⟨_,g.setCell hn λv K=>?_⟩;subst K;exact⟨⟨e,r,[],d,add_same _ _ _⟩,(upd_same _ _ _).symm,rfl⟩
  .cases b
 .cases b
theorem Rel.settles:∀(l:List adx){γ:Nat->Value}{st s:St}(_:Rel w0 M T γ st a w)(_:Fw.settles st l=some s),∃γ',Rel w0 M T γ' s a w
 |[],γ,st,s,h,hs=>by cases hs;grind
 |x::l,γ,st,s,h,hs=>by
  rw[Fw.settles]at hs;split at hs
  .next s1 h1=>obtain⟨d,b⟩:=h.settle h1;exact Rel.settles l b hs
  .cases hs
end Go.Fw
namespace Go.Fw
open Go
variable {P:Program} {w0:World} {M:Nat->Prop} {T:Ext} {γ γ':Nat->Value} {st s:St} {a:Act} {w w':World} {Θ:jY} {Γ:kY}
def KD(Θ:jY)(st:St)(o:Op):Option (Prop×Nat×aI):=match o with
 |.call {callee:=.builtin .append,args,argTypes}=>match args.toList,argTypes.toList with
  |[s,x],[t,u]=>match Nat.beq t u,Θ t,st.ev s,st.ev x with
   |true,some ti,.sv (.one (.ref o)),.sv (.one y)=>match ti.kind with
    |.slice e=>match Θ e with
     |some te=>match y.get st (.sl e te.cells)with
      |some news=>match st.ah o with
       |some (.arr f r l fr)=>if h:te.cells.beq r=true then
         match Nat.beq e f with
         |true=>some (l.length+news.length<=big,o,.arr e r (l++xJ h news) (fr&&y.AB te.cells st))
         |false=>none
        else none
       |_=>none
      |none=>none
     |none=>none
    |_=>none
   |_,_,_,_=>none
  |_,_=>none
 |_=>none
theorem axO(h:st.more s){e:TypeId}{r:au}{y:Cell}{f:List r.den}(d:y.get st (.sl e r)=some f):y.fresh s=y.fresh st:=by
 cases y<;>try rfl
 case ref o=>
  simp only[Cell.get]at d;split at d
  .next e' r' l fr ho=>simp only[Cell.fresh];rw[h.ah o _ ho,ho]
  .cases d
theorem awx(h:st.more s){e:TypeId}{r:au}{y:Cell}{f:List r.den}(d:y.get st (.sl e r)=some f):y.AB r s=y.AB r st:=by
 grind [Cell.AB,axO]
theorem auG(h:st.more s){o:Op}{x:Prop×Nat×aI}(L:KD Θ st o=some x):KD Θ s o=some x:=by
 unfold KD at L;split at L
 case h_2=>cases L
 next args sG=>
 split at L
 case h_2=>cases L
 next A D t u d g=>
 split at L
 case h_2=>cases L
 next C o y J q X Z=>
 split at L
 case h_2=>cases L
 next e n=>
 split at L
 case h_2=>cases L
 next B k=>
 split at L
 case h_2=>cases L
 next m b=>
 split at L
 case h_2=>cases L
 next f r l z F=>
 split at L
 case isFalse=>cases L
 next i=>
 split at L
 case h_2=>cases L
 next j=>
 cases L;have E:=dm h X vk;have O:=dm h Z vk;unfold KD;simp only[d,g,J,q,E,O,n,k,ais h _ _ _ b,h.ah o _ F,i,j,dif_pos,awx h b]
theorem awy{o:Op}{p:Prop}{q:Nat}{x:aI}(d:Nat)(L:KD Θ st o=some (p,q,x)):
 eff Θ Γ d st o=some (p,.sv (.one (.ref q)),(st.kill (Nat.beq q ·)).add q x)/\(∃e r l b,x=.arr e r l b)/\∃e r l b,st.ah q=some (.arr e r l b):=by
 unfold KD at L;split at L
 case h_2=>cases L
 next args sG=>
 split at L
 case h_2=>cases L
 next z C t u g j=>
 split at L
 case h_2=>cases L
 next B o y J n X Z=>
 split at L
 case h_2=>cases L
 next e m=>
 split at L
 case h_2=>cases L
 next A k=>
 split at L
 case h_2=>cases L
 next i h=>
 split at L
 case h_2=>cases L
 next f r l b F=>
 split at L
 case isFalse=>cases L
 grind [eff]
variable {S:Nat->Bool}{f:Nat->Nat}
theorem Cell.EU(h:∀o,S o=false->f o=o):∀(c:Cell),(c.kill S).ren f=c.kill S
 |.int _ _|.bool _|.str _|.nil|.sl _ _ _ _|.junk=>rfl
 |.ref o=>by
  grind [Cell.kill,Cell.ren]
theorem Js(h:∀o,S o=false->f o=o)(A:List Cell):(A.map (Cell.kill S)).map (Cell.ren f)=A.map (Cell.kill S):=by
 grind [List.map_congr_left,Cell.EU]
theorem SV.EU(h:∀o,S o=false->f o=o):∀(c:SV),(c.kill S).ren f=c.kill S
 |.one c=>by grind [SV.kill,SV.ren,Cell.EU]
 |.agg cs=>by grind [SV.kill,SV.ren,Js]
theorem AV.EU(h:∀o,S o=false->f o=o):∀(c:AV),(c.kill S).ren f=c.kill S
 |.undef=>rfl
 |.sv v=>by grind [AV.kill,AV.ren,SV.EU]
 |.pG vs=>by
  grind [AV.kill,AV.ren,List.map_congr_left,SV.EU]
 |.eG o off=>by
  grind [AV.kill,AV.ren]
 |.qf o i off=>by
  grind [AV.kill,AV.ren]
 |.win o i off=>by
  grind [AV.kill,AV.ren]
 |.sS _ _ _ _=>rfl
 |.dH cs off=>by grind [AV.kill,AV.ren,Js]
 |.fn g caps=>by
  grind [AV.kill,AV.ren,List.map_congr_left,Js]
theorem aI.EU(h:∀o,S o=false->f o=o):∀(c:aI),(c.kill S).ren f=c.kill S
 |.var cs=>by grind [aI.kill,aI.ren,Js]
 |.arr _ _ _ _=>rfl
theorem axP{G:lT}(F:vM P G Θ Γ w0 M)(h:Rel w0 M T γ st a w)(o:Oper){p:Prop}{n q:Nat}{x:aI}
 (L:KD Θ st o.op=some (p,q,x)) (C:p) (z:st.ah n=none) {next:Act->World->Prop} {Q:Exit->Act->World->Prop}
 (H:∀u γ' w',Rel w0 M T γ' ((st.kill (Nat.beq q ·)).add n x) a w'->bD (ak w0 T γ' ((st.kill (Nat.beq q ·)).add n x) w') (.sv (.one (.ref n))) u->next (a.put o.dst u) w'):o.wp P a w next Q:=by
 obtain⟨g,⟨e,r,l,b,rfl⟩,⟨W,Z,Y,E,i⟩⟩:=awy (Γ:=Γ) 0 L;have A:n≠q:=λe=>ny;have B:∀t,Nat.beq q t=false->ET q n t=t:=λt X=>ZH λe=>XH;refine apR F h o g C λu k w1 I K=>?_;have N:(((st.kill (Nat.beq q ·)).add q (.arr e r l b)).ren q n)=(st.kill (Nat.beq q ·)).add n (.arr e r l b):=by
  simp only[St.ren,St.add,St.kill,St.mk.injEq,aJU];refine⟨funext λt=>AV.EU B _,funext λt=>?_⟩;cases J:Nat.beq t n with
  |true=>simp[aII,aI.ren]
  |false=>
   cases R:Nat.beq t q with
   |true=>
    simp_all
   |false=>
    have m:Nat.beq q t=false:=by
     grind [Nat.eq_of_beq_eq_true]
    simp only[m];cases st.ah t with
    |none=>rfl
    |some y=>grind [aI.EU]
 have d:=I.ren (o:=q) (p:=n) (e:=e) (r:=r) (l:=l) (fr:=b) (by simp[St.add,aII]) (by simp only[St.add,St.kill,Qv A,z,aJc];cases Nat.beq q n<;>rfl);rw[N]at d;refine H u _ _ d ?_;obtain⟨_,O,U⟩:aX _ (.ref q) u:=K;have D:((st.kill (Nat.beq q ·)).add n (.arr e r l b)).ah n=some (.arr e r l b):=by simp[St.add,aII]
 have j:u=(match Nat.beq n n with|true=>k q|false=>k n):=XH;exact⟨⟨e,r,l,b,D⟩,j,U⟩
end Go.Fw
