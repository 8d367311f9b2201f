import Derived.Test.YtkgkfdphbkfjnaaGreatFwD
import Derived.Test.YtkgkfdphbkfjnaaGreatFwB
import Derived.Test.YtkgkfdphbkfjnaaGreatFwA
import Derived.ChangeArms
import Derived.WideKeyArgs
import Derived.ChangeSame
import Derived.ChangeOld
import Derived.Handed
import Derived.IntWalk
import Derived.Laws.IdiomCopy
import Derived.ProofKit
namespace Go.Fw
open Go
variable {P:Program} {w0:World} {M:Nat->Prop} {T:Ext} {γ γ':Nat->Value} {st:St} {a:Act} {w w':World} {Θ:jT} {Γ:kZ}
structure MG where
 aoH:List Z7
 c:Shape
 v:Shape
structure Hints where
 own:Nat->Bool
 loops:Nat->Option MG
 cuts:Nat->Option MG
 upd:List Nat
 frz:Nat->List Pre
def A8:Code->Option Nat
 |.region id _ _=>some id
 |.seq x y=>match A8 x with|some n=>some n|none=>A8 y
 |.cond _ x y=>match A8 x with|some n=>some n|none=>A8 y
 |.block _ x|.loop x=>A8 x
 |_=>none
def cutAt(H:Hints)(y:Code):Option MG:=match A8 y with
 |some n=>H.cuts n
 |none=>none
def KD(Θ:jT)(Γ:kZ)(H:Hints):Code->(Exit->St->Prop)->St->Prop
 |.skip,Q,st=>Q .normal st
 |.region id ops false,Q,st=>Wu (H.frz id) (runs Θ Γ H.own ops.toList (Q .normal) ops.toList) st
 |.region id ops true,Q,st=>Wu (H.frz id) (Sm Θ Γ H.own H.upd ops.toList (Q .normal)) st
 |.seq x y,Q,st=>match cutAt H y with
  |none=>KD Θ Γ H x (λe s=>match e with|.normal=>KD Θ Γ H y Q s|e=>Q e s) st
  |some sp=>match sp.c.read (only sp.c sp.v st)with
   |some x0=>∃(J:sp.v.den->Prop),KD Θ Γ H x (λe s=>match e with
     |.normal=>match settles s sp.aoH with
      |some s1=>match Nat.beq s1.n st.n,sp.c.read (only sp.c sp.v s1),sp.v.read (only sp.c sp.v s1)with
       |true,some x1,some y1=>x1=x0/\J y1
       |_,_,_=>False
      |none=>False
     |e=>Q e s) st/\∀y1,J y1->KD Θ Γ H y Q (joint st.n sp.c sp.v x0 y1)
   |none=>False
 |.cond c x y,Q,st=>match st.ev c with
  |.sv (.one (.bool b))=>cond b (KD Θ Γ H x Q st) (KD Θ Γ H y Q st)
  |_=>False
 |.block id c,Q,st=>KD Θ Γ H c (λe s=>match e with
  |.exit i=>match Nat.beq i id with|true=>Q .normal s|false=>Q (.exit i) s
  |e=>Q e s) st
 |.exit id,Q,st=>Q (.exit id) st
 |.ret,Q,st=>Q .ret st
 |.loop c,Q,st=>match A8 c with
  |some n=>match H.loops n with
   |some sp=>match settles st sp.aoH with
    |some s0=>match sp.c.read (only sp.c sp.v s0),sp.v.read (only sp.c sp.v s0)with
     |some x0,some y0=>∃(I:sp.v.den->Prop)(μ:sp.v.den->Nat),I y0/\∀y,I y->
       KD Θ Γ H c (λe s=>match e with
        |.normal=>match settles s sp.aoH with
         |some s1=>match Nat.beq s1.n s0.n,sp.c.read (only sp.c sp.v s1),sp.v.read (only sp.c sp.v s1)with
          |true,some x1,some y1=>x1=x0/\I y1/\μ y1<μ y
          |_,_,_=>False
         |none=>False
        |e=>Q e s) (joint s0.n sp.c sp.v x0 y)
     |_,_=>False
    |none=>False
   |none=>False
  |none=>False
 |_,_,_=>False
theorem Z8{G:kP}(hE:uV P G Θ Γ w0 M)(hm:P.follows .mixedOrders=true)(H:Hints):∀(c:Code)(QA:Exit->St->Prop)(Q:Exit->Act->World->Prop)(st:St)(γ:Nat->Value)(a:Act)(w:World),
 Rel w0 M T γ st a w->KD Θ Γ H c QA st->(∀e s γ' a' w',QA e s->Rel w0 M T γ' s a' w'->Q e a' w')->c.wp P Q a w:=by
 intro c
 induction c with
 |skip=>intro QA Q st γ a w h ha hQ;exact wp_skip (hQ _ _ _ _ _ ha h)
 |region id ops d=>
  intro QA Q st γ a w h ha hQ;cases d with
  |false=>
   obtain⟨s0,γ0,h0,hk0⟩:=GY (K:=runs Θ Γ H.own ops.toList (QA .normal) ops.toList) (H.frz id) st γ h ha;exact alN hE h0 hk0 λs γ' a' w' hK hR=>hQ _ _ _ _ _ hK hR
  |true=>
   obtain⟨s0,γ0,h0,hk0⟩:=GY (K:=Sm Θ Γ H.own H.upd ops.toList (QA .normal)) (H.frz id) st γ h ha;exact apO hE hm h0 hk0 λs γ' a' w' hK hR=>hQ _ _ _ _ _ hK hR
 |seq x y ihx ihy=>
  intro QA Q st γ a w h ha hQ;rw[KD]at ha;split at ha
  .refine wp_seq (ihx _ _ st γ a w h ha ?_);intro e s γ' a' w' hq hR;cases e<;>first|exact ihy _ _ s γ' a' w' hR hq hQ|exact hQ _ _ _ _ _ hq hR
  .next sp hsp=>
   split at ha
   .next x0 hx=>
    obtain⟨J,h1,h2⟩:=ha;refine wp_seq (ihx _ _ st γ a w h h1 ?_);intro e s γ' a' w' hq hR;cases e with
    |normal=>
     simp only at hq;split at hq
     .next s1 hs1=>
      split at hq
      .next x1 y1 hsn hx1 hy1=>obtain⟨rfl,hJ⟩:=hq;obtain⟨γ1,hR1⟩:=Rel.settles _ hR hs1;have hR2:=hR1.joint hx1 hy1;rw[awH hsn]at hR2;exact ihy _ _ _ γ1 a' w' hR2 (h2 _ hJ) hQ
      .exact hq.elim
     .exact hq.elim
    |_=>exact hQ _ _ _ _ _ hq hR
   .exact ha.elim
 |cond c x y ihx ihy=>
  intro QA Q st γ a w h ha hQ;rw[KD]at ha;split at ha
  .next b hb=>
   have hv:a.eval c=.bool b:=by have:=jA h c;rw[hb]at this;exact this
   refine wp_cond_split hv (λe=>?_) (λe=>?_)
   .subst e;exact ihx _ _ st γ a w h ha hQ
   .subst e;exact ihy _ _ st γ a w h ha hQ
  .exact ha.elim
 |block id c ih=>
  intro QA Q st γ a w h ha hQ;refine wp_block (ih _ _ st γ a w h ha ?_);intro e s γ' a' w' hq hR;cases e with
  |exit i=>
   simp only[Exit.inBlock];cases hb:Nat.beq i id with
   |true=>
    simp only[hb]at hq;rw[if_pos (awH hb)];exact hQ _ _ _ _ _ hq hR
   |false=>
    simp only[hb]at hq;rw[if_neg (by rintro rfl;simp at hb)];exact hQ _ _ _ _ _ hq hR
  |_=>exact hQ _ _ _ _ _ hq hR
 |loop c ih=>
  intro QA Q st γ a w h ha hQ;rw[KD]at ha;split at ha
  .split at ha
   .next sp hsp=>
    split at ha
    .next s0 hs0=>
     split at ha
     .next x0 y0 hx hy=>
      obtain⟨I,μ,h0,hI⟩:=ha;obtain⟨γ0,hR0⟩:=Rel.settles _ h hs0
      let J:sp.v.den->Act->World->Prop:=λy a' w'=>∃γ',Rel w0 M T γ' (joint s0.n sp.c sp.v x0 y) a' w'
      have key:∀(n:Nat)(y:sp.v.den),μ y=n->I y->∀a' w',J y a' w'->∀(b:Frame)(k:List Item)(cs:List Frame),
       ∃e a'' w'',Q e a'' w''/\Arrives P (lone (b.at a' (.code c:: .inLoop c::k)) cs w') b k cs e a'' w'':=by
       intro n
       induction n using Nat.strongRecOn with
       |_ n ihn=>
        intro y hμ hy' a' w' ⟨γ',hR⟩ b k cs;have hbody:=ih _ (Exit.then (λa2 w2=>∃y2,I y2/\μ y2<μ y/\J y2 a2 w2) Q) _ γ' a' w' hR (hI y hy') ?_
        .obtain⟨e,a1,w1,hq,harr⟩:=hbody b (.inLoop c::k) cs;cases e with
         |normal=>
          obtain⟨y2,hI2,hlt,hJ2⟩:=hq;obtain⟨e2,a2,w2,hq2,atS⟩:=ihn (μ y2) (hμ▸hlt) y2 rfl hI2 a1 w1 hJ2 b k cs;exact⟨e2,a2,w2,hq2,.of_steps (Steps.trans harr (.one step_inLoop)) atS⟩
         |exit id=>exact⟨_,a1,w1,hq,.pass (x:=.inLoop c) rfl (λ_ _=>.inl (by simp)) harr⟩
         |goto l=>exact⟨_,a1,w1,hq,.pass (x:=.inLoop c) rfl (λ_ _=>.inl (by simp)) harr⟩
         |ret=>exact⟨_,a1,w1,hq,.pass (x:=.inLoop c) rfl (λ_ _=>.inl (by simp)) harr⟩
         |panic ch=>exact⟨_,a1,w1,hq,.pass (x:=.inLoop c) rfl (λ_ _=>.inl (by simp)) harr⟩
         |outgrown=>exact⟨_,a1,w1,hq,.pass (x:=.inLoop c) rfl (λ_ _=>.inl (by simp)) harr⟩
        .intro e s γ2 a2 w2 hq hR2;cases e with
         |normal=>
          simp only at hq;split at hq
          .next s1 hs1=>
           split at hq
           .next x1 y1 hsn hx1 hy1=>obtain⟨rfl,hI1,hlt⟩:=hq;obtain⟨γ3,hR3⟩:=Rel.settles _ hR2 hs1;have hJ:=hR3.joint hx1 hy1;rw[awH hsn]at hJ;exact⟨y1,hI1,hlt,_,hJ⟩
           .exact hq.elim
          .exact hq.elim
         |_=>exact hQ _ _ _ _ _ hq hR2
      intro b k cs;obtain⟨e,a',w',hq,harr⟩:=key _ y0 rfl h0 a w ⟨_,hR0.joint hx hy⟩ b k cs;exact⟨e,a',w',hq,.of_steps (.one step_loop) harr⟩
     .exact ha.elim
    .exact ha.elim
   .exact ha.elim
  .exact ha.elim
 |rangeFunc f ps x y ihx ihy=>intro QA Q st γ a w h ha hQ;exact ha.elim
 |exit id=>intro QA Q st γ a w h ha hQ;exact wp_exit (hQ _ _ _ _ _ ha h)
 |scope c ih=>intro QA Q st γ a w h ha hQ;exact ha.elim
 |label l=>intro QA Q st γ a w h ha hQ;exact ha.elim
 |goto l=>intro QA Q st γ a w h ha hQ;exact ha.elim
 |ret=>intro QA Q st γ a w h ha hQ;exact wp_ret (hQ _ _ _ _ _ ha h)
 |refuse s=>intro QA Q st γ a w h ha hQ;exact ha.elim
def Arg.av:Arg->AV
 |.sv v=>.sv v
 |.kp cs=>.cO cs 0
 |.fn f caps=>.fn f caps
 |.own _ _ _|.ptr _=>.undef
def entry(n:Nat)(args:List Arg):St:=
 {n:=n,tmps:=λt=>match args[t]? with|some v=>v.av|none=>.undef,ah:=λ_=>none}
def Sr(st:St)(o:Nat):Bool:=match st.ah o with|some (.arr _ _ _ _)=>true|_=>false
def afV(Θ:jT)(st:St):ResultVar->Option SV
 |.tmp t=>match st.tmps t with|.sv v=>some v|_=>none
 |.cell t ty=>match Θ ty,st.tmps t with
  |some ti,.bC o off=>match st.ah o with
   |some (.var cs)=>mJ ti cs off
   |_=>none
  |_,_=>none
def Qh(Θ:jT)(st:St):List ResultVar->Option (List SV)
 |[]=>some []
 |r::rs=>match afV Θ st r,Qh Θ st rs with
  |some v,some vs=>some (v::vs)
  |_,_=>none
def outOf:SV->Bool×List gK
 |.one c=>(false,[.plain c])
 |.agg cs=>(true,cs.map .plain)
def outs:List SV->List (Bool×List gK)
 |[]=>[]
 |v::vs=>outOf (v.kill λ_=>true)::outs vs
def fin(Θ:jT)(rv:List ResultVar)(st:St):Option Out:=
 match Qh Θ (st.freeze (Sr st)) rv with
 |some vs=>some ⟨outs vs,none⟩
 |none=>none
theorem Sv:∀(k:Nat)(cs:List Cell),kR k (cs.map .plain)=(cs,[])
 |_,[]=>rfl
 |k,c::cs=>by simp only[axd,kR,Sv (k+1) cs,gK.take,axB]
theorem am8(k:Nat)(v:SV):zl k (outOf v)=(v,[]):=by
 cases v with
 |one c=>rfl
 |agg cs=>simp only[zl,outOf,Sv]
theorem asA(v:Value)(t:TypeId)(b off:Nat)(hv:v=.pointer (some ⟨b,off,none⟩)):Instr.loadAt t v=(do loadVar t (← asAddr v)):=by subst hv;rfl
def ND(tmps:Array Value):ResultVar->Sem Value
 |.tmp t=>pure (tmps.getD t undef)
 |.cell x t=>do loadVar t (← asAddr (tmps.getD x undef))
theorem Wx(fn:Func)(tmps:Array Value):results fn tmps=(do let vs ← fn.results.mapM (ND tmps);pure (if h:vs.size=1 then vs[0]else .tuple vs)):=by unfold results;congr 1
theorem alP(hΘ:∀t ti,Θ t=some ti->mM P t ti)(h:Rel w0 M T γ st a w){r:ResultVar}{v:SV}(hf:afV Θ st r=some v):
 ∃u,(ND a.tmps r).run P w=.ok u w/\eU (aA w0 T γ st w) v u:=by
 cases r with
 |tmp t=>
  simp only[afV]at hf;split at hf
  .next e=>cases hf;have:=h.tmps t;rw[e]at this;exact⟨_,rfl,this⟩
  .cases hf
 |cell x t=>
  simp only[afV]at hf;split at hf
  .next ti o off ht hx=>
   split at hf
   .next cs ho=>have hv:=h.tmps x;rw[hx]at hv;obtain⟨b,cs',_,_,hv'⟩:=hv;obtain⟨u,hu,hr⟩:=RX hΘ h ht (x:=.tmp x) (.inl ⟨o,off,cs,hx,ho,hf⟩);refine⟨u,?_,hr⟩;rw[ND,← asA _ t b off hv'];exact hu
   .cases hf
  .cases hf
theorem Qi(hΘ:∀t ti,Θ t=some ti->mM P t ti)(h:Rel w0 M T γ st a w):∀(rs:List ResultVar)(vs:List SV),Qh Θ st rs=some vs->
 ∃us,(rs.mapM (ND a.tmps)).run P w=.ok us w/\
  eX (aA w0 T γ st w) vs us
 |[],vs,hf=>by cases hf;exact⟨[],rfl,trivial⟩
 |r::rs,vs,hf=>by
  rw[Qh]at hf;split at hf
  .next v vs' h1 h2=>cases hf;obtain⟨u,hu,hr⟩:=alP hΘ h h1;obtain⟨us,hus,hrs⟩:=Qi hΘ h rs vs' h2;refine⟨u::us,?_,hr,hrs⟩;rw[azT,aw3,hu];simp only[axt,aw3,hus,axL]
  .cases hf
theorem eX.length{X:V}:∀(cs:List SV)(vs:List Value),eX X cs vs->vs.length=cs.length
 |[],[],_=>rfl
 |_::cs,_::vs,⟨_,h⟩=>by simp[eX.length cs vs h]
 |[],_::_,H|_::_,[],H=>by cases H
theorem eX.get{X:V}:∀(cs:List SV)(vs:List Value)(i:Nat)(c:SV),eX X cs vs->cs[i]? =some c->∃v,vs[i]? =some v/\eU X c v
 |[],_,_,_,_,h=>by simp at h
 |c::cs,v::vs,0,d,⟨h1,_⟩,h=>by simp at h;subst h;exact⟨v,rfl,h1⟩
 |c::cs,v::vs,i+1,d,⟨_,h2⟩,h=>by
  obtain⟨u,hu,hr⟩:=eX.get cs vs i d h2 (by simpa using h);exact⟨u,by simpa using hu,hr⟩
 |_::_,[],_,_,H,_=>by cases H
theorem pU.length{X:V}:∀(cs:List Arg)(vs:List Value),pU X cs vs->vs.length=cs.length
 |[],[],_=>rfl
 |_::cs,_::vs,⟨_,h⟩=>by simp[pU.length cs vs h]
 |[],_::_,H|_::_,[],H=>by cases H
theorem pU.get{X:V}:∀(cs:List Arg)(vs:List Value)(i:Nat)(c:Arg),pU X cs vs->cs[i]? =some c->∃v,vs[i]? =some v/\rV X c v
 |[],_,_,_,_,h=>by simp at h
 |c::cs,v::vs,0,d,⟨h1,_⟩,h=>by simp at h;subst h;exact⟨v,rfl,h1⟩
 |c::cs,v::vs,i+1,d,⟨_,h2⟩,h=>by
  obtain⟨u,hu,hr⟩:=pU.get cs vs i d h2 (by simpa using h);exact⟨u,by simpa using hu,hr⟩
 |_::_,[],_,_,H,_=>by cases H
theorem rV.av{X:V}:∀(c:Arg)(v:Value),rV X c v->bK X c.av v
 |.sv _,_,h|.kp _,_,h|.fn _ _,_,h=>h
 |.own _ _ _,_,h|.ptr _,_,h=>h.elim
theorem apQ{args:List Arg}{vs:Array Value}{S:Nat->Prop}(n:Nat)(hn:args.length<=n)
 (h:pU ⟨w,w.heap.size,S,λ_=>undef,λ_=>none⟩ args vs.toList):
 Rel w (λ_=>False) ⟨S,λ_=>none,λ_ _ h=>by cases h⟩ (λ_=>undef) (entry n args) {tmps:=vs++Array.replicate (n-vs.size) undef,defers:=[]} w:=by
 have hl:vs.size=args.length:=by simpa using pU.length _ _ h
 refine⟨λ_ h=>h.elim,rfl,?_,rfl,rfl,rfl,awY _,λ_ _ _=>rfl,λt=>?_,(λo x hx=>by cases hx),(λo x b hx=>by cases hx),(λo x p y b hx=>by cases hx),(λo v cs hN=>by cases hN)⟩
 .simp[entry];omega
 .simp only[entry];cases ha:args[t]? with
  |none=>trivial
  |some v=>
   obtain⟨u,hu,hr⟩:=pU.get _ _ t v h ha;have:(vs++Array.replicate (n-vs.size) undef).getD t undef=u:=by
    have hlt:t<args.length:=by
     rcases awZ t args.length with h'|h'
     .exact h'
     .rw[axv h']at ha;cases ha
    have hlt':t<vs.size:=by omega
    rw[ayr,azz hlt'];have:vs[t]? =some u:=by simpa using hu
    rw[this];rfl
   rw[this];exact rV.av v u hr
end Go.Fw
namespace Go.Fw
def codeOf(fn:Func):Code:=match fn.body with|some c=>c|none=>.skip
def afW:List (Nat×TI)->jT
 |[],_=>none
 |(t,x)::r,i=>match Nat.beq i t with|true=>some x|false=>afW r i
def Ko:List (Nat×Oe)->kZ
 |[],_=>none
 |(t,x)::r,i=>match Nat.beq i t with|true=>some x|false=>Ko r i
def aoI:List (Nat×MG)->Nat->Option MG
 |[],_=>none
 |(t,x)::r,i=>match Nat.beq i t with|true=>some x|false=>aoI r i
def ar0:List (Nat×List Pre)->Nat->List Pre
 |[],_=>[]
 |(n,z)::r,i=>match Nat.beq i n with|true=>z|false=>ar0 r i
def hints(own:List Nat)(l c:List (Nat×MG))(u:List Nat)(z:List (Nat×List Pre)):Hints:=⟨bH own,aoI l,aoI c,u,ar0 z⟩
end Go.Fw
namespace Go.Fw
open Go
variable {P:Program} {Θ:jT} {Γ:kZ}
inductive tJ where
 |one (c:iF)
 |agg (l:List iF)
@[reducible] def tJ.den:tJ->Type
  |.one c=>c.den
  |.agg l=>mZ l
def tJ.val:(s:tJ)->s.den->SV
 |.one c,x=>.one (c.cell x)
 |.agg l,x=>.agg (iQ l x)
def tJ.read:(s:tJ)->SV->Option s.den
 |.one c,.one x=>c.read x
 |.agg l,.agg xs=>kS l xs
 |_,_=>none
theorem tJ.weak{X:V}(s:tJ)(x:SV)(d:s.den)(v:Value)(hr:s.read x=some d)(hv:eU X x v):eU X (s.val d) v:=by
 unfold tJ.read at hr;split at hr
 .exact iF.weak _ _ _ _ hr hv
 .obtain⟨vs,e,h⟩:=hv;exact⟨vs,e,Ir _ _ _ _ hr h⟩
 .cases hr
@[reducible] def yD:List tJ->Type
  |[]=>Unit
  |s::r=>s.den×yD r
def uf:(l:List tJ)->yD l->List SV
 |[],_=>[]
 |s::r,x=>s.val x.1::uf r x.2
def UW:(l:List tJ)->List SV->Option (yD l)
 |[],[]=>some ()
 |s::r,x::xs=>match s.read x,UW r xs with
  |some a,some b=>some (a,b)
  |_,_=>none
 |_,_=>none
theorem apR{X:V}:∀(l:List tJ)(xs:List SV)(d:yD l)(vs:List Value),UW l xs=some d->eX X xs vs->eX X (uf l d) vs
 |[],[],_,_,_,hv=>hv
 |s::r,x::xs,d,vs,hr,hv=>by
  rw[UW]at hr;split at hr
  .next a b h1 h2=>
   cases hr;cases vs with
   |nil=>cases hv
   |cons v vs=>exact⟨tJ.weak s x a v h1 hv.1,apR r xs b vs h2 hv.2⟩
  .cases hr
 |[],_::_,_,_,hr,_=>by simp[UW]at hr
 |_::_,[],_,_,hr,_=>by simp[UW]at hr
mutual
def CT.uX:(c:CT)->c.den->Prop
 |.int k,(n:Int)=>k.min<=n/\n<=k.max
 |.bool,_=>True
 |.str,(s:Bytes)=>s.length<=maxLen
 |.sl _ r,(l:List r.den)=>l.length<=maxLen/\∀x∈l,r.uX x
def aK.uX:(r:aK)->r.den->Prop
 |.nil,_=>True
 |.cons c r,x=>c.uX x.1/\r.uX x.2
end
mutual
theorem jM.uX{h:Array Obj}{S:Nat->Prop}:∀(c:CT)(v:Value)(x:c.den),jM h S c v x->c.uX x
 |.int k,v,(n:Int),H=>by rw[jM]at H;rw[CT.uX];exact H.2
 |.bool,v,(b:Bool),H=>by rw[CT.uX];trivial
 |.str,v,(s:Bytes),H=>by rw[jM]at H;rw[CT.uX];exact H.2
 |.sl e r,v,(l:List r.den),H=>by
  rw[jM]at H;rw[CT.uX];refine⟨H.1,λx hx=>?_⟩;obtain⟨i,hi,rfl⟩:=ayx.1 hx;rcases H.2 with⟨hnil,_⟩|⟨b,off,cap,cs,t,fz,_,_,_,_,hr⟩
  .subst hnil;simp at hi
  .exact bP.uX r _ _ (hr i _ (awM hi))
theorem bP.uX{h:Array Obj}{S:Nat->Prop}:∀(r:aK)(vs:List Value)(x:r.den),bP h S r vs x->r.uX x
 |.nil,vs,_,H=>by rw[aK.uX];trivial
 |.cons c r,vs,(x,y),H=>by rw[bP]at H;obtain⟨v,vs',_,h1,h2⟩:=H;rw[aK.uX];exact⟨jM.uX c v x h1,bP.uX r vs' y h2⟩
end
def iF.uX:(c:iF)->c.den->Prop
 |.int k,(n:Int)=>k.min<=n/\n<=k.max
 |.str,(s:Bytes)=>s.length<=maxLen
 |.sl _ r _,(l:List r.den)=>l.length<=maxLen/\∀x∈l,r.uX x
 |_,_=>True
def ab4:(l:List iF)->mZ l->Prop
 |[],_=>True
 |c::r,x=>c.uX x.1/\ab4 r x.2
def tJ.uX:(s:tJ)->s.den->Prop
 |.one c,x=>c.uX x
 |.agg l,x=>ab4 l x
theorem iF.ab5{X:V}(c:iF)(x:c.den)(v:Value)(h:bJ X (c.cell x) v):c.uX x:=by
 cases c with
 |int k=>exact h.2
 |str=>exact h.2
 |sl e r fr=>
  have h':jM X.w.heap (X.dI fr) (.sl e r) v x:=h;have:=jM.uX (.sl e r) v x h';rw[CT.uX]at this;exact this
 |_=>trivial
theorem NG{X:V}:∀(l:List iF)(x:mZ l)(vs:List Value),aj X (iQ l x) vs->ab4 l x
 |[],_,_,_=>trivial
 |c::r,x,v::vs,h=>⟨iF.ab5 c x.1 v h.1,NG r x.2 vs h.2⟩
 |_::_,_,[],h=>by cases h
inductive jy where
 |v (s:tJ)
 |kp (l:List iF)
 |fn (f:FuncId) (l:List (List iF))
@[reducible] def jy.den:jy->Type
  |.v s=>s.den
  |.kp l=>mZ l
  |.fn _ l=>EX l
def jy.val:(s:jy)->s.den->Arg
 |.v s,x=>.sv (s.val x)
 |.kp l,x=>.kp (iQ l x)
 |.fn f l,x=>.fn f (Nz l x)
def jy.read:(s:jy)->Arg->Option s.den
 |.v s,.sv x=>s.read x
 |.kp l,.kp xs=>kS l xs
 |.fn f l,.fn g xs=>match Nat.beq f g with|true=>Jq l xs|false=>none
 |_,_=>none
theorem jy.weak{X:V}(s:jy)(x:Arg)(d:s.den)(v:Value)(hr:s.read x=some d)(hv:rV X x v):rV X (s.val d) v:=by
 unfold jy.read at hr;split at hr
 .exact tJ.weak _ _ _ _ hr hv
 .obtain⟨b,e,hk⟩:=hv;exact⟨b,e,ajR hr hk⟩
 .split at hr
  .next hb=>obtain⟨us,e,hk⟩:=hv;rw[jy.val,awH hb];exact⟨us,e,Z4 _ _ _ _ hr hk⟩
  .cases hr
 .cases hr
@[reducible] def nO:List jy->Type
  |[]=>Unit
  |s::r=>s.den×nO r
def xY:(l:List jy)->nO l->List Arg
 |[],_=>[]
 |s::r,x=>s.val x.1::xY r x.2
def KE:(l:List jy)->List Arg->Option (nO l)
 |[],[]=>some ()
 |s::r,x::xs=>match s.read x,KE r xs with
  |some a,some b=>some (a,b)
  |_,_=>none
 |_,_=>none
theorem apS{X:V}:∀(l:List jy)(xs:List Arg)(d:nO l)(vs:List Value),KE l xs=some d->pU X xs vs->pU X (xY l d) vs
 |[],[],_,_,_,hv=>hv
 |s::r,x::xs,d,vs,hr,hv=>by
  rw[KE]at hr;split at hr
  .next a b h1 h2=>
   cases hr;cases vs with
   |nil=>cases hv
   |cons v vs=>exact⟨jy.weak s x a v h1 hv.1,apS r xs b vs h2 hv.2⟩
  .cases hr
 |[],_::_,_,_,hr,_=>by simp[KE]at hr
 |_::_,[],_,_,hr,_=>by simp[KE]at hr
theorem Yo:∀(l:List jy)(d:nO l),(xY l d).length=l.length
 |[],_=>rfl
 |_::r,d=>by simp[xY,Yo r d.2]
def aio:(l:List (List iF))->EX l->Prop
 |[],_=>True
 |c::r,x=>ab4 c x.1/\aio r x.2
def jy.uX:(s:jy)->s.den->Prop
 |.v s,x=>s.uX x
 |.kp l,x=>ab4 l x
 |.fn _ l,x=>aio l x
def OZ:(l:List jy)->nO l->Prop
 |[],_=>True
 |s::r,x=>s.uX x.1/\OZ r x.2
theorem adu{X:V}:∀(l:List (List iF))(x:EX l)(us:List Value),fZ X (Nz l x) us->aio l x
 |[],_,_,_=>trivial
 |c::r,x,u::us,h=>by
  obtain⟨⟨b,hu,arr,t,fz,hf,hh,hc⟩,h2⟩:=h;exact⟨NG c x.1 _ hc,adu r x.2 us h2⟩
 |_::_,_,[],h=>by cases h
theorem F5{X:V}:∀(l:List jy)(x:nO l)(vs:List Value),pU X (xY l x) vs->OZ l x
 |[],_,_,_=>trivial
 |.v (.one c)::r,x,v::vs,h=>⟨iF.ab5 c x.1 v h.1,F5 r x.2 vs h.2⟩
 |.v (.agg l)::r,x,v::vs,h=>by
  obtain⟨ws,hv,hc⟩:=h.1;exact⟨NG l x.1 _ hc,F5 r x.2 vs h.2⟩
 |.kp l::r,x,v::vs,h=>by
  obtain⟨b,hu,arr,t,fz,hf,hh,hc⟩:=h.1;exact⟨NG l x.1 _ hc,F5 r x.2 vs h.2⟩
 |.fn f l::r,x,v::vs,h=>by
  obtain⟨us,hv,hk⟩:=h.1;exact⟨adu l x.1 _ hk,F5 r x.2 vs h.2⟩
 |_::_,_,[],h=>by cases h
def O0(sh:List jy)(F:nO sh->Prop×Out):Yi:=λargs=>
 match KE sh args with
 |some x=>some (F x)
 |none=>none
def Ee:List SV->List (Bool×List gK)
 |[]=>[]
 |v::vs=>outOf v::Ee vs
theorem UX:∀(k:Nat)(vs:List SV),jg k (Ee vs)=(vs,[])
 |_,[]=>rfl
 |k,v::vs=>by simp only[Ee,jg,am8,UX,axB]
def afX(Θ:jT)(rv:List ResultVar)(dM:List tJ)(K:yD dM->Prop)(e:Exit)(st:St):Prop:=
 match e with
 |.normal|.ret=>match Qh Θ (st.freeze (Sr st)) rv with
  |some vs=>match UW dM (vs.map (SV.kill λ_=>true))with
   |some d=>K d
   |none=>False
  |none=>False
 |_=>False
theorem asB{G:kP}(hE:EnvB P G Θ Γ)(hm:P.follows .mixedOrders=true){f:FuncId}{fn:Func}{c:Code}(hf:P.funcs[f]? =some fn)(hb:fn.body=some c)(H:Hints){con:Yi}{dM:List tJ}
 (hwalk:∀args p out,con args=some (p,out)->p->Nat.ble args.length fn.ntmps=true/\∃d:yD dM,out=⟨Ee (uf dM d),none⟩/\KD Θ Γ H c (afX Θ fn.results.toList dM λy=>y=d) (entry fn.ntmps args)):rF P G f con:=by
 intro args p out k S vs w hcon hp hG hrep;obtain⟨hn,d,hout,hw⟩:=hwalk args p out hcon hp;subst hout;have hn':args.length<=fn.ntmps:=by simpa[ayS]using hn
 refine calls_of_wp hf hb (Z8 ⟨hE,hG,λb hb=>hb.elim⟩ hm H c _ _ _ _ _ _ (apQ (S:=S) fn.ntmps hn' hrep) hw ?_);have hret:∀s γ' a' w',afX Θ fn.results.toList dM (λy=>y=d) .ret s->Rel w (λ_=>False) ⟨S,λ_=>none,λ_ _ h=>by cases h⟩ γ' s a' w'->bodyPost P fn (λe w'=>∃v vals,e=.returned v/\w'.os=w.os/\w'.tape=w.tape/\w'.output=w.output/\w.heap.size<=w'.heap.size/\
  (∀b,b<w.heap.size->w'.heap[b]? =w.heap[b]?)/\
  bK ⟨w',w.heap.size,S,vals,look (Out.take k ⟨Ee (uf dM d),none⟩).2⟩ (Out.take k ⟨Ee (uf dM d),none⟩).1 v/\
  (∀o x,look (Out.take k ⟨Ee (uf dM d),none⟩).2 o=some x->cZ ⟨w',w.heap.size,S,vals,look (Out.take k ⟨Ee (uf dM d),none⟩).2⟩ o x/\∀b,blk (vals o)=some b->w.heap.size<=b/\b<w'.heap.size)/\
  (∀o x q y b,look (Out.take k ⟨Ee (uf dM d),none⟩).2 o=some x->look (Out.take k ⟨Ee (uf dM d),none⟩).2 q=some y->o≠q->blk (vals o)=some b->blk (vals q)≠some b)) .ret a' w':=by
  intro s γ' a' w' he hR;refine⟨hR.defers,?_⟩;simp only[afX]at he;split at he
  .next svs hvs=>
   split at he
   .next y hy=>
    subst he;have hRf:=hR.freeze (Sr s);obtain⟨us,hus,hrs⟩:=Qi hE.types hRf _ _ hvs;have hk0:=eX.kill (λ_=>true) hRf svs us hrs;have hk:=apR dM _ y us hy hk0;have htake:Out.take k ⟨Ee (uf dM y),none⟩=(match uf dM y with|[v]=>.sv v|l=>.nS l,[]):=by unfold Out.take;simp only[UX];rcases uf dM y with _|⟨v,_|⟨v2,r⟩⟩<;>rfl
    have hmap:(fn.results.mapM (ND a'.tmps)).run P w'=.ok us.toArray w':=by rw[ay7,Sem.run_map,hus];rfl
    refine⟨if h:us.toArray.size=1 then us.toArray[0]else .tuple us.toArray,?_,_,γ',rfl,hR.os,hR.tape,hR.output,hR.grow,λb hb=>hR.kept b hb (λh=>h),?_,?_,?_⟩
    .rw[Wx,aw3,hmap];simp only[axt,axL]
    .rw[htake];have hl:=eX.length _ _ hk
     match hm:uf dM y,us,hk,hl with
     |[v],[u],hk,_=>exact hk.1
     |[],[],hk,_=>exact⟨_,by simp,hk⟩
     |v::v2::r,u::u2::us,hk,hl=>exact⟨_,by simp,hk⟩
     |[],_::_,hk,h4|_::_,[],hk,h4|[_],_::_::_,hk,h4|_::_::_,[_],hk,h4=>simp at h4
    .intro o x hx;rw[htake]at hx;cases hx
    .intro o x q y b hx;rw[htake]at hx;cases hx
   .exact he.elim
  .exact he.elim
 intro e s γ' a' w' he hR;cases e with
 |normal=>exact hret s γ' a' w' he hR
 |ret=>exact hret s γ' a' w' he hR
 |_=>exact he.elim
def Hz(sh:List jy)(dM:List tJ)(F:nO sh->Prop×yD dM):Yi:=O0 sh λx=>((F x).1,⟨Ee (uf dM (F x).2),none⟩)
theorem aip{G:kP}(hE:EnvB P G Θ Γ)(hm:P.follows .mixedOrders=true){f:FuncId}{fn:Func}{c:Code}(hf:P.funcs[f]? =some fn)(hb:fn.body=some c)(H:Hints)
 {sh:List jy} {dM:List tJ} {F:nO sh->Prop×yD dM} (hn:Nat.ble sh.length fn.ntmps=true)
 (hwalk:∀x,OZ sh x->(F x).1->KD Θ Γ H c (afX Θ fn.results.toList dM λy=>y=(F x).2) (entry fn.ntmps (xY sh x))):rF P G f (Hz sh dM F):=by
 have base:∀x,OZ sh x->rF P G f (λargs=>@ite _ (args=xY sh x) (Classical.propDecidable _) (some ((F x).1,⟨Ee (uf dM (F x).2),none⟩)) none):=by
  intro x hin;refine asB (dM:=dM) hE hm hf hb H ?_;intro args p out hcon hp;split at hcon
  .next e=>
   have hF:((F x).1,(⟨Ee (uf dM (F x).2),none⟩:Out))=(p,out):=by simpa using hcon
   have h1:(F x).1=p:=congrArg Prod.fst hF;have h2:(⟨Ee (uf dM (F x).2),none⟩:Out)=out:=congrArg Prod.snd hF;have:=hwalk x hin (by rw[h1];exact hp);rw[e];exact⟨by rw[Yo];exact hn,(F x).2,h2.symm,this⟩
  .cases hcon
 intro args p out k S vs w hcon hp hG hrep;unfold Hz O0 at hcon;split at hcon
 .next x hx=>have hv:=apS sh args x vs.toList hx hrep;exact base x (F5 sh x _ hv) (xY sh x) p out k S vs w (by simp only[if_true];exact hcon) hp hG hv
 .cases hcon
inductive RC where
 |c (s:iF)
 |own (e:TypeId) (r:aK) (fr:Bool)
@[reducible] def RC.den:RC->Type
  |.c s=>s.den
  |.own _ r _=>List r.den
@[reducible] def afY:List RC->Type
  |[]=>Unit
  |c::r=>c.den×afY r
def RC.aoJ:(c:RC)->c.den->gK
 |.c s,x=>.plain (s.cell x)
 |.own e r fr,l=>.own e r l fr
def aiq:(l:List RC)->afY l->List gK
 |[],_=>[]
 |c::r,x=>c.aoJ x.1::aiq r x.2
inductive oC where
 |one (c:RC)
 |agg (l:List RC)
@[reducible] def oC.den:oC->Type
  |.one c=>c.den
  |.agg l=>afY l
@[reducible] def kM:List oC->Type
  |[]=>Unit
  |s::r=>s.den×kM r
def oC.out:(s:oC)->s.den->Bool×List gK
 |.one c,x=>(false,[c.aoJ x])
 |.agg l,x=>(true,aiq l x)
def ji:(l:List oC)->kM l->List (Bool×List gK)
 |[],_=>[]
 |s::r,x=>s.out x.1::ji r x.2
def RC.name:RC->Cell->Option Nat
 |.own _ _ _,.ref o=>some o
 |_,_=>none
def air:List RC->List Cell->List (Option Nat)
 |c::r,x::xs=>c.name x::air r xs
 |_,_=>[]
def oC.names:oC->SV->List (Option Nat)
 |.one c,.one x=>[c.name x]
 |.agg l,.agg xs=>air l xs
 |_,_=>[]
def EY:List oC->List SV->List (Option Nat)
 |s::r,x::xs=>s.names x++EY r xs
 |_,_=>[]
def RC.read(st:St):(c:RC)->Cell->Option c.den
 |.c s,x=>match x.refs with|[]=>s.read x|_=>none
 |.own e r fr,.ref o=>match st.ah o with
  |some (.arr f s l g)=>match Nat.beq e f&&Qg fr g with
   |true=>if h:s.beq r=true then some (xq h l)else none
   |false=>none
  |_=>none
 |.own _ r _,.nil=>match Nat.ble 1 r.len with|true=>some []|false=>none
 |_,_=>none
def UY(st:St):(l:List RC)->List Cell->Option (afY l)
 |[],[]=>some ()
 |c::r,x::xs=>match c.read st x,UY st r xs with
  |some a,some b=>some (a,b)
  |_,_=>none
 |_,_=>none
def oC.read(st:St):(s:oC)->SV->Option s.den
 |.one c,.one x=>c.read st x
 |.agg l,.agg xs=>UY st l xs
 |_,_=>none
def F6(st:St):(l:List oC)->List SV->Option (kM l)
 |[],[]=>some ()
 |s::r,x::xs=>match s.read st x,F6 st r xs with
  |some a,some b=>some (a,b)
  |_,_=>none
 |_,_=>none
inductive gQ where
 |p (s:jy)
 |own (e:TypeId) (r:aK)
 |ptr (l:List iF)
@[reducible] def gQ.den:gQ->Type
  |.p s=>s.den
  |.own _ r=>List r.den
  |.ptr l=>mZ l
def gQ.mode:gQ->Mode
 |.p _=>.val
 |.own _ _=>.own
 |.ptr _=>.ptr
def gQ.val:(s:gQ)->s.den->Arg
 |.p s,x=>s.val x
 |.own e r,l=>.own e r l
 |.ptr l,x=>.ptr (iQ l x)
def gQ.read:(s:gQ)->Arg->Option s.den
 |.p s,x=>s.read x
 |.own e r,.own f s l=>match Nat.beq e f with
  |true=>if h:s.beq r=true then some (xq h l)else none
  |false=>none
 |.ptr l,.ptr cs=>kS l cs
 |_,_=>none
@[reducible] def jf:List gQ->Type
  |[]=>Unit
  |s::r=>s.den×jf r
def vU:(l:List gQ)->jf l->List Arg
 |[],_=>[]
 |s::r,x=>s.val x.1::vU r x.2
def jk:(l:List gQ)->List Arg->Option (jf l)
 |[],[]=>some ()
 |s::r,x::xs=>match s.read x,jk r xs with
  |some a,some b=>some (a,b)
  |_,_=>none
 |_,_=>none
@[reducible] def kF:List gQ->Type
  |[]=>Unit
  |.ptr l::r=>mZ l×kF r
  |.p _::r|.own _ _::r=>kF r
def jl:(l:List gQ)->kF l->List Eff
 |[],_=>[]
 |.ptr l::r,x=>.var (iQ l x.1)::jl r x.2
 |.p _::r,x|.own _ _::r,x=>.lose::jl r x
def NH(st:St):(i:Nat)->(l:List gQ)->Option (kF l)
 |_,[]=>some ()
 |i,.ptr l::r=>match st.ah (i*64+48),NH st (i+1) r with
  |some (.var cs),some b=>match cs.flatMap Cell.refs,kS l cs with
   |[],some a=>some (a,b)
   |_,_=>none
  |_,_=>none
 |i,.p _::r|i,.own _ _::r=>NH st (i+1) r
def Arg.avX(i:Nat):Arg->AV
 |.own _ _ _=>.sv (.one (.ref (i*64+49)))
 |.ptr _=>.bC (i*64+48) 0
 |a=>a.av
def Iw(n:Nat)(args:List Arg):St:=
 {n:=n,tmps:=λt=>match args[t]? with|some v=>v.avX t|none=>.undef,ah:=dN args}
def afZ(st:St)(W:List (Option Nat))(o:Nat):Bool:=Sr st o&&!(ZF o W)
def ak8(Θ:jT)(rv:List ResultVar)(sh:List gQ)(dM:List oC)(K:kM dM×kF sh->Prop)(e:Exit)(st:St):Prop:=
 match e with
 |.normal|.ret=>match Qh Θ st rv with
  |some svs=>match Qh Θ (st.freeze (afZ st (EY dM svs))) rv with
   |some vs=>match CY (EY dM vs),F6 (st.freeze (afZ st (EY dM svs))) dM vs,NH (st.freeze (afZ st (EY dM svs))) 0 sh with
    |true,some d,some b=>K (d,b)
    |_,_,_=>False
   |none=>False
  |none=>False
 |_=>False
def mX(sh:List gQ)(dM:List oC)(F:jf sh->Prop×(kM dM×kF sh->Prop)):Cc:=λargs=>
 match jk sh args with
 |some x=>some ((F x).1,⟨kM dM×kF sh,(F x).2,λt=>⟨ji dM t.1,none⟩,λt=>jl sh t.2⟩)
 |none=>none
def oH(sh:List gQ):List Mode:=sh.map gQ.mode
end Go.Fw
namespace Go.Fw
open Go
variable {P:Program} {w0:World} {M:Nat->Prop} {T:Ext} {γ γ':Nat->Value} {st:St} {a:Act} {w w':World} {Θ:jT} {Γ:kZ}
def ais(args:List Arg)(γ:Nat->Value)(o:Nat):Option Value:=match dN args o with|some (.var _)=>some (γ o)|_=>none
theorem aq3{args:List Arg}{o:Nat}{cs:List Cell}(h:dN args o=some (.var cs)):o%64=48:=by
 unfold dN at h;split at h
 .split at h<;>cases h
 .split at h
  .next hm=>exact awH hm
  .cases h
 .cases h
def Z9(args:List Arg)(γ:Nat->Value)(S:Nat->Prop):Ext where
 S:=λb=>S b\/xX (dN args) γ b
 N:=ais args γ
 n48:=by
  intro p v h;unfold ais at h;split at h
  .next cs hc=>exact aq3 hc
  .cases h
theorem Ap.get{X:V}:∀(as:List Arg)(vs:List Value)(i:Nat),Ap X i as vs->as.length=vs.length/\∀(j:Nat)(b:Arg),as[j]? =some b->∃v,vs[j]? =some v/\P9 X (i+j) b v
 |[],[],_,_=>⟨rfl,λj b h=>by simp at h⟩
 |x::as,v::vs,i,⟨h1,h2⟩=>by
  obtain⟨g1,g2⟩:=Ap.get as vs (i+1) h2;refine⟨by simp[g1],λj b hb=>?_⟩;cases j with
  |zero=>simp at hb;subst hb;exact⟨v,rfl,h1⟩
  |succ j=>
   obtain⟨u,hu,hr⟩:=g2 j b (by simpa using hb);exact⟨u,by simpa using hu,by rw[show i+(j+1)=i+1+j by omega];exact hr⟩
 |[],_::_,_,H|_::_,[],_,H=>by cases H
theorem P9.av{X:V}(i:Nat):∀(c:Arg)(v:Value),P9 X i c v->bK X (c.avX i) v
 |.own _ _ _,_,h=>h
 |.ptr _,_,h=>h
 |.sv _,_,h|.kp _,_,h|.fn _ _,_,h=>h
theorem af0{args:List Arg}{vs:Array Value}{S:Nat->Prop}(n:Nat)(hn:args.length<=n)
 (h:Ap ⟨w,w.heap.size,S,γ,dN args⟩ 0 args vs.toList)
 (ho:∀o x,dN args o=some x->cZ ⟨w,w.heap.size,S,γ,dN args⟩ o x/\∀b,blk (γ o)=some b->b<w.heap.size)
 (hs:∀o x q y b,dN args o=some x->dN args q=some y->o≠q->blk (γ o)=some b->blk (γ q)≠some b):
 Rel w (xX (dN args) γ) (Z9 args γ S) γ (Iw n args) {tmps:=vs++Array.replicate (n-vs.size) undef,defers:=[]} w:=by
 obtain⟨hl0,hget⟩:=Ap.get _ _ 0 h;have hl:vs.size=args.length:=by simpa using hl0.symm
 have le:V.le ⟨w,w.heap.size,S,γ,dN args⟩ ⟨w,w.heap.size,(Z9 args γ S).S,γ,dN args⟩:=
  ⟨awY _,λb hb=>⟨⟨hb.1,λhlt=>.inl (hb.2.1 hlt),hb.2.2⟩,rfl⟩,λo cs hx=>⟨⟨cs,hx⟩,rfl⟩,λo e r l fr hx=>⟨⟨l,fr,hx⟩,rfl⟩⟩
 refine⟨λb hb=>.inr hb,rfl,?_,rfl,rfl,rfl,awY _,λ_ _ _=>rfl,λt=>?_,λo x hx=>cZ.mono le o x (λ_ _=>rfl) rfl (ho o x hx).1,λo x b hx hb=>⟨(ho o x hx).2 b hb,.inr ⟨o,x,hx,hb⟩⟩,λo x p y b hx hy hop hb=>hs o x p y b hx hy hop hb,λo v cs hN hx=>?_⟩
 .simp[Iw];omega
 .simp only[Iw];cases ha:args[t]? with
  |none=>trivial
  |some v=>
   obtain⟨u,hu,hr⟩:=hget t v ha;have:(vs++Array.replicate (n-vs.size) undef).getD t undef=u:=by
    have hlt:t<args.length:=by
     rcases awZ t args.length with h'|h'
     .exact h'
     .rw[axv h']at ha;cases ha
    have hlt':t<vs.size:=by omega
    rw[ayr,azz hlt'];have:vs[t]? =some u:=by simpa using hu
    rw[this];rfl
   rw[this];rw[axe]at hr;exact bK.mono le _ _ (P9.av t v u hr)
 .have hx':dN args o=some (.var cs):=hx;have hN':ais args γ o=some v:=hN;unfold ais at hN';rw[hx']at hN';exact Option.some.inj hN'
def AW(a a':Arg):Prop:=
 (∃e r l,a=.own e r l/\a'=.own e r l)\/(∃cs cs',a=.ptr cs/\a'=.ptr cs'/\∀(X:V) vs,aj X cs vs->aj X cs' vs)\/
 ((∀(X:V) v,bK X a.av v->bK X a'.av v)/\(∀i,a.avX i=a.av)/\(∀i,a'.avX i=a'.av)/\(∀e r l,a≠ .own e r l)/\(∀cs,a≠ .ptr cs)/\(∀e r l,a'≠ .own e r l)/\(∀cs,a'≠ .ptr cs))
theorem jy.aoK{s:jy}{x:Arg}{d:s.den}(h:s.read x=some d):AW x (s.val d):=by
 refine .inr (.inr ⟨λX v hv=>?_,?_⟩)
 .have hx:rV X x v:=by
   cases x with
   |sv _|kp _|fn _ _=>exact hv
   |own _ _ _|ptr _=>cases s<;>simp[jy.read]at h
  exact rV.av _ _ (jy.weak s x d v h hx)
 .cases x<;>cases s<;>first
   |(simp[jy.read]at h;done)
   |exact⟨λ_=>rfl,λ_=>rfl,(λ_ _ _ e=>by cases e),(λ_ e=>by cases e),(λ_ _ _ e=>by cases e),(λ_ e=>by cases e)⟩
theorem gQ.aoK{s:gQ}{x:Arg}{d:s.den}(h:s.read x=some d):AW x (s.val d):=by
 unfold gQ.read at h;split at h
 .exact jy.aoK h
 .next e r f s l=>
  split at h
  .next hb=>
   split at h
   .next hs=>cases h;have he:=awH hb;subst he;have hsr:=aK.eq_of_beq s r hs;subst hsr;exact .inl ⟨e,s,l,rfl,rfl⟩
   .cases h
  .cases h
 .next l cs=>exact .inr (.inl ⟨cs,_,rfl,rfl,λX vs hc=>Ir _ _ _ _ h hc⟩)
 .cases h
theorem O1:∀{l:List gQ}{xs:List Arg}{d:jf l},jk l xs=some d->(vU l d).length=xs.length/\∀(i:Nat)(a:Arg),xs[i]? =some a->∃a',(vU l d)[i]? =some a'/\AW a a'
 |[],[],_,_=>⟨rfl,λi a h=>by simp at h⟩
 |s::r,x::xs,d,h=>by
  rw[jk]at h;split at h
  .next a b h1 h2=>
   cases h;obtain⟨g1,g2⟩:=O1 h2;refine⟨by simp[vU,g1],λi c hc=>?_⟩;cases i with
   |zero=>simp at hc;subst hc;exact⟨_,rfl,gQ.aoK h1⟩
   |succ i=>obtain⟨c',k1,k2⟩:=g2 i c (by simpa using hc);exact⟨c',by simpa[vU]using k1,k2⟩
  .cases h
 |[],_::_,_,h=>by simp[jk]at h
 |_::_,[],_,h=>by simp[jk]at h
theorem Sz{args:List Arg}{o:Nat}(h:∀b,args[o / 64]? =some b->(∀e r l,b≠ .own e r l)/\∀cs,b≠ .ptr cs):dN args o=none:=by
 unfold dN;split
 .next e r l ha=>exact((h _ ha).1 e r l rfl).elim
 .next cs ha=>exact((h _ ha).2 cs rfl).elim
 .rfl
theorem Yp{sh:List gQ}{args:List Arg}{x:jf sh}(h:jk sh args=some x)(n:Nat):Covers (Iw n (vU sh x)) (Iw n args):=by
 obtain⟨hl,hget⟩:=O1 h;refine⟨rfl,λt X v hv=>?_,λo=>?_⟩
 .simp only[Iw]at hv ⊢;cases ha:args[t]? with
  |none=>
   have:(vU sh x)[t]? =none:=by rw[azG]at ha ⊢;omega
   rw[this];trivial
  |some b=>
   obtain⟨b',hb',hw⟩:=hget t b ha;rw[ha]at hv;rw[hb'];dsimp only at hv ⊢;rcases hw with⟨e,r,l,rfl,rfl⟩|⟨cs,cs',rfl,rfl,_⟩|⟨hw,e1,e2,_⟩
   .exact hv
   .exact hv
   .rw[e1]at hv;rw[e2];exact hw X v hv
 .show(dN (vU sh x) o=none/\dN args o=none)\/∃y y',dN args o=some y/\dN (vU sh x) o=some y'/\MF y y';cases ha:args[o / 64]? with
  |none=>
   have h2:(vU sh x)[o / 64]? =none:=by rw[azG]at ha ⊢;omega
   exact .inl ⟨Sz (by rw[h2];intro b hb;cases hb),Sz (by rw[ha];intro b hb;cases hb)⟩
  |some b=>
   obtain⟨b',hb',hw⟩:=hget _ b ha;rcases hw with⟨e,r,l,rfl,rfl⟩|⟨cs,cs',rfl,rfl,hc⟩|⟨_,_,_,n1,n2,n3,n4⟩
   .unfold dN;rw[ha,hb'];dsimp only;cases hm:Nat.beq (o%64) 49 with
    |true=>exact .inr ⟨_,_,rfl,rfl,.inr ⟨e,r,l,false,false,rfl,rfl,id⟩⟩
    |false=>exact .inl ⟨rfl,rfl⟩
   .unfold dN;rw[ha,hb'];dsimp only;cases hm:Nat.beq (o%64) 48 with
    |true=>exact .inr ⟨_,_,rfl,rfl,.inl ⟨cs,cs',rfl,rfl,hc⟩⟩
    |false=>exact .inl ⟨rfl,rfl⟩
   .exact .inl ⟨Sz (by rw[hb'];intro c hc;cases hc;exact⟨n3,n4⟩),Sz (by rw[ha];intro c hc;cases hc;exact⟨n1,n2⟩)⟩
theorem adv(a b:List (Nat×aW))(p:Nat):look (a++b) p=match look b p with|some y=>some y|none=>look a p:=by
 induction a with
 |nil=>simp only[ax7,look];cases look b p<;>rfl
 |cons x a ih=>obtain⟨o,z⟩:=x;rw[ayq,look,ih,look];cases look b p<;>rfl
theorem xu:∀(cs:List gK)(k p:Nat)(x:aW),look (kR k cs).2 p=some x↔∃i e r l fr,p=k+i/\cs[i]? =some (.own e r l fr)/\x=.arr e r l fr
 |[],k,p,x=>by simp[kR,look]
 |c::cs,k,p,x=>by
  rw[kR,adv];have ih:=xu cs (k+1) p x;constructor
  .intro h;split at h
   .next y hy=>cases h;obtain⟨i,e,r,l,fr,h1,h2,h3⟩:=(xu cs (k+1) p x).1 hy;exact⟨i+1,e,r,l,fr,by omega,by simpa using h2,h3⟩
   .next hn=>
    cases c with
    |plain c=>simp[gK.take,look]at h
    |own e r l fr=>
     simp only[gK.take,look]at h;split at h
     .next hb=>cases h;exact⟨0,e,r,l,fr,by have:=awH hb;omega,rfl,rfl⟩
     .cases h
  .rintro⟨i,e,r,l,fr,h1,h2,rfl⟩;cases i with
   |succ i=>
    have:=(xu cs (k+1) p (.arr e r l fr)).2 ⟨i,e,r,l,fr,by omega,by simpa using h2,rfl⟩;rw[this]
   |zero=>
    simp at h2;subst h2;have hn:look (kR (k+1) cs).2 p=none:=by
     cases hl:look (kR (k+1) cs).2 p with
     |none=>rfl
     |some y=>obtain⟨i,_,_,_,_,g1,_⟩:=(xu cs (k+1) p y).1 hl;omega
    rw[hn];have hp:p=k:=by omega
    subst hp;simp[gK.take,look]
def O3(rs:List (Bool×List gK)):List gK:=rs.flatMap (·.2)
theorem am9(k:Nat)(x:Bool×List gK):(zl k x).2=(kR k x.2).2:=by
 unfold zl;split
 .next e1 e2=>rw[e2]
 .next e1 e2=>rw[e2]
 .next e1 e2=>rw[e2]
theorem EF:∀(rs:List (Bool×List gK))(k p:Nat)(x:aW),look (jg k rs).2 p=some x↔∃i e r l fr,p=k+i/\(O3 rs)[i]? =some (.own e r l fr)/\x=.arr e r l fr
 |[],k,p,x=>by simp[jg,look,O3]
 |y::rs,k,p,x=>by
  rw[jg,adv,am9];have aoL:O3 (y::rs)=y.2++O3 rs:=rfl;constructor
  .intro h;split at h
   .next z hz=>cases h;obtain⟨i,e,r,l,fr,h1,h2,h3⟩:=(EF rs (k+y.2.length) p x).1 hz;refine⟨y.2.length+i,e,r,l,fr,by omega,?_,h3⟩;rw[aoL,axc (by omega)];simpa using h2
   .obtain⟨i,e,r,l,fr,h1,h2,h3⟩:=(xu y.2 k p x).1 h;refine⟨i,e,r,l,fr,h1,?_,h3⟩;rw[aoL,axh (awU.1 h2).1];exact h2
  .rintro⟨i,e,r,l,fr,h1,h2,rfl⟩;rw[aoL]at h2;rcases awZ i y.2.length with hlt|hge
   .rw[axh hlt]at h2;have hn:look (jg (k+y.2.length) rs).2 p=none:=by
     cases hl:look (jg (k+y.2.length) rs).2 p with
     |none=>rfl
     |some z=>obtain⟨j,_,_,_,_,g1,_⟩:=(EF rs (k+y.2.length) p z).1 hl;omega
    rw[hn];exact(xu y.2 k p _).2 ⟨i,e,r,l,fr,h1,h2,rfl⟩
   .rw[axc hge]at h2;have:=(EF rs (k+y.2.length) p (.arr e r l fr)).2 ⟨i-y.2.length,e,r,l,fr,by omega,h2,rfl⟩;rw[this]
end Go.Fw
namespace Go.Fw
open Go
set_option linter.unusedVariables false
variable {P:Program} {w0:World} {M:Nat->Prop} {T:Ext} {γ γ':Nat->Value} {st:St} {a:Act} {w w':World} {Θ:jT} {Γ:kZ}
def RF(Y:V)(c:gK)(v:Value)(n:Option Nat):Prop:=
 match c with
 |.plain x=>bJ Y x v/\x.refs=[]
 |.own e r l fr=>0<r.len/\((∃o g,n=some o/\Y.ah o=some (.arr e r l g)/\Qg fr g=true/\v=Y.γ o/\v.oneCell'=true)\/(l=[]/\v=.slice none 0 0))
def Iy(Y:V):List gK->List Value->List (Option Nat)->Prop
 |[],[],[]=>True
 |c::cs,v::vs,n::ns=>RF Y c v n/\Iy Y cs vs ns
 |_,_,_=>False
theorem Iy.append{Y:V}:∀(cs:List gK)(vs:List Value)(ns:List (Option Nat))(ds:List gK)(us:List Value)(ms:List (Option Nat)),Iy Y cs vs ns->Iy Y ds us ms->Iy Y (cs++ds) (vs++us) (ns++ms)
 |[],[],[],_,_,_,_,h=>h
 |_::cs,_::vs,_::ns,ds,us,ms,⟨h1,h2⟩,h=>⟨h1,Iy.append cs vs ns ds us ms h2 h⟩
theorem Iy.length{Y:V}:∀(cs:List gK)(vs:List Value)(ns:List (Option Nat)),Iy Y cs vs ns->cs.length=vs.length
 |[],[],[],_=>rfl
 |_::cs,_::vs,_::ns,⟨_,h2⟩=>by simp[Iy.length cs vs ns h2]
theorem Iy.get{Y:V}:∀(cs:List gK)(vs:List Value)(ns:List (Option Nat))(i:Nat)(c:gK),Iy Y cs vs ns->cs[i]? =some c->∃v n,vs[i]? =some v/\ns[i]? =some n/\RF Y c v n
 |[],[],[],i,c,_,h=>by simp at h
 |x::cs,v::vs,n::ns,0,c,⟨h1,_⟩,h=>by simp at h;subst h;exact⟨v,n,rfl,rfl,h1⟩
 |x::cs,v::vs,n::ns,i+1,c,⟨_,h2⟩,h=>by obtain⟨u,m,g1,g2,g3⟩:=Iy.get cs vs ns i c h2 (by simpa using h);exact⟨u,m,by simpa using g1,by simpa using g2,g3⟩
theorem iF.ajU(c:iF)(x:Cell)(d:c.den)(h:c.read x=some d)(hx:x.refs=[]):(c.cell d).refs=[]:=by cases c<;>cases x<;>first|rfl|(simp[iF.read]at h;done)|(cases hx)
theorem RC.anO{Y:V}(hst:Y.ah=st.ah)(hpos:∀o e r l g,st.ah o=some (.arr e r l g)->0<r.len):∀(c:RC)(x:Cell)(d:c.den)(v:Value),c.read st x=some d->bJ Y x v->RF Y (c.aoJ d) v (c.name x):=by
 intro c x d v hr hv;cases c with
 |c s=>
  rw[RC.read]at hr;split at hr
  .next hx=>exact⟨iF.weak s x d v hr hv,iF.ajU s x d hr hx⟩
  .cases hr
 |own e r fr=>
  cases x with
  |ref o=>
   simp only[RC.read]at hr;split at hr
   .next f s l g ho=>
    split at hr
    .next hb=>
     split at hr
     .next hs=>cases hr;rw[awG]at hb;have he:=awH hb.1;subst he;have hsr:=aK.eq_of_beq s r hs;subst hsr;exact⟨hpos _ _ _ _ _ ho,.inl ⟨o,g,rfl,by rw[hst];exact ho,hb.2,hv.2.1,hv.2.2⟩⟩
     .cases hr
    .cases hr
   .cases hr
  |nil=>
   simp only[RC.read]at hr;split at hr
   .next hb=>cases hr;exact⟨axz Nat.zero_lt_one (by simpa[ayS]using hb),.inr ⟨rfl,hv⟩⟩
   .cases hr
  |_=>simp[RC.read]at hr
theorem af2{Y:V}(hst:Y.ah=st.ah)(hpos:∀o e r l g,st.ah o=some (.arr e r l g)->0<r.len):∀(l:List RC)(xs:List Cell)(d:afY l)(vs:List Value),UY st l xs=some d->aj Y xs vs->Iy Y (aiq l d) vs (air l xs)
 |[],[],_,[],_,_=>trivial
 |c::r,x::xs,d,v::vs,h,⟨h1,h2⟩=>by
  rw[UY]at h;split at h
  .next a b g1 g2=>cases h;exact⟨RC.anO hst hpos c x a v g1 h1,af2 hst hpos r xs b vs g2 h2⟩
  .cases h
 |[],_::_,_,_,h,_=>by simp[UY]at h
 |_::_,[],_,_,h,_=>by simp[UY]at h
theorem oC.alR{Y:V}(hst:Y.ah=st.ah)(hpos:∀o e r l g,st.ah o=some (.arr e r l g)->0<r.len):∀(s:oC)(x:SV)(d:s.den)(v:Value),s.read st x=some d->eU Y x v->Iy Y (s.out d).2 v.cells.toList (s.names x)
 |.one c,.one x,d,v,h,hv=>by
  rw[Kr v (bJ.one x v hv)];exact⟨RC.anO hst hpos c x d v h hv,trivial⟩
 |.agg l,.agg xs,d,v,h,⟨vs,hv,hc⟩=>by
  rw[hv];exact af2 hst hpos l xs d _ h hc
 |.one _,.agg _,_,_,h,_|.agg _,.one _,_,_,h,_=>by simp[oC.read]at h
theorem af4{Y:V}(hst:Y.ah=st.ah)(hpos:∀o e r l g,st.ah o=some (.arr e r l g)->0<r.len):∀(l:List oC)(xs:List SV)(d:kM l)(vs:List Value),F6 st l xs=some d->eX Y xs vs->
 Iy Y (O3 (ji l d)) (vs.flatMap λv=>v.cells.toList) (EY l xs)
 |[],[],_,[],_,_=>trivial
 |s::r,x::xs,d,v::vs,h,⟨h1,h2⟩=>by
  rw[F6]at h;split at h
  .next a b g1 g2=>cases h;exact Iy.append _ _ _ _ _ _ (oC.alR hst hpos s x a v g1 h1) (af4 hst hpos r xs b vs g2 h2)
  .cases h
 |[],_::_,_,_,h,_=>by simp[F6]at h
 |_::_,[],_,_,h,_=>by simp[F6]at h
def Go1(Z:V)(k:Nat)(c:gK)(v:Value):Prop:=bJ Z (c.take k).1 v
def LV(Z:V):Nat->List gK->List Value->Prop
 |_,[],[]=>True
 |k,c::cs,v::vs=>Go1 Z k c v/\LV Z (k+1) cs vs
 |_,_,_=>False
theorem LV.of{Z:V}:∀(cs:List gK)(vs:List Value)(k:Nat),cs.length=vs.length->(∀i c v,cs[i]? =some c->vs[i]? =some v->Go1 Z (k+i) c v)->LV Z k cs vs
 |[],[],_,_,_=>trivial
 |c::cs,v::vs,k,hl,h=>⟨h 0 c v rfl rfl,LV.of cs vs (k+1) (by simpa using hl) λi c' v' h1 h2=>by
   have:=h (i+1) c' v' (by simpa using h1) (by simpa using h2)
   rwa [show k+(i+1)=k+1+i by omega]at this⟩
theorem LV.split{Z:V}:∀(cs:List gK)(vs:List Value)(ds:List gK)(us:List Value)(k:Nat),cs.length=vs.length->LV Z k (cs++ds) (vs++us)->LV Z k cs vs/\LV Z (k+cs.length) ds us
 |[],[],_,_,_,_,h=>⟨trivial,h⟩
 |c::cs,v::vs,ds,us,k,hl,⟨h1,h2⟩=>by obtain⟨g1,g2⟩:=LV.split cs vs ds us (k+1) (by simpa using hl) h2;exact⟨⟨h1,g1⟩,by rw[show k+(c::cs).length=k+1+cs.length by simp;omega];exact g2⟩
theorem LV.cells{Z:V}:∀(cs:List gK)(vs:List Value)(k:Nat),LV Z k cs vs->aj Z (kR k cs).1 vs
 |[],[],_,_=>trivial
 |c::cs,v::vs,k,⟨h1,h2⟩=>⟨h1,LV.cells cs vs (k+1) h2⟩
theorem oC.go{Y Z:V}:∀(s:oC)(x:SV)(d:s.den)(v:Value)(k:Nat),s.read st x=some d->eU Y x v->LV Z k (s.out d).2 v.cells.toList->eU Z (zl k (s.out d)).1 v
 |.one c,.one x,d,v,k,h,hv,hg=>by
  rw[Kr v (bJ.one x v hv)]at hg;exact hg.1
 |.agg l,.agg xs,d,v,k,h,⟨vs,hv,hc⟩,hg=>by
  rw[hv]at hg ⊢;exact⟨vs,rfl,LV.cells _ _ _ hg⟩
 |.one _,.agg _,_,_,_,h,_,_|.agg _,.one _,_,_,_,h,_,_=>by simp[oC.read]at h
theorem ajV{Y Z:V}(hst:Y.ah=st.ah)(hpos:∀o e r l g,st.ah o=some (.arr e r l g)->0<r.len):∀(l:List oC)(xs:List SV)(d:kM l)(vs:List Value)(k:Nat),F6 st l xs=some d->eX Y xs vs->
 LV Z k (O3 (ji l d)) (vs.flatMap λv=>v.cells.toList)->eX Z (jg k (ji l d)).1 vs
 |[],[],_,[],_,_,_,_=>trivial
 |s::r,x::xs,d,v::vs,k,h,⟨h1,h2⟩,hg=>by
  rw[F6]at h;split at h
  .next a b g1 g2=>cases h;have hl:=Iy.length _ _ _ (oC.alR hst hpos s x a v g1 h1);obtain⟨k1,k2⟩:=LV.split _ _ _ _ k hl hg;exact⟨oC.go s x a v k g1 h1 k1,ajV hst hpos r xs b vs _ g2 h2 k2⟩
  .cases h
 |[],_::_,_,_,_,h,_,_=>by simp[F6]at h
 |_::_,[],_,_,_,h,_,_=>by simp[F6]at h
theorem adw:∀(l:List iF)(xs:List Cell)(d:mZ l),kS l xs=some d->xs.flatMap Cell.refs=[]->(iQ l d).flatMap Cell.refs=[]
 |[],[],_,_,_=>rfl
 |c::r,x::xs,d,h,hx=>by
  rw[kS]at h;split at h
  .next a b g1 g2=>cases h;rw[axP,axx]at hx;show(c.cell a::iQ r b).flatMap Cell.refs=[];rw[axP,iF.ajU c x a g1 hx.1,adw r xs b g2 hx.2,axB]
  .cases h
 |[],_::_,_,h,_=>by simp[kS]at h
 |_::_,[],_,h,_=>by simp[kS]at h
theorem O4:∀(sh:List gQ)(i:Nat)(b:kF sh),NH st i sh=some b->∀(j:Nat)(e:Eff),(jl sh b)[j]? =some e->
 e=.lose\/∃l cs cs0,sh[j]? =some (.ptr l)/\e=.var cs/\st.ah ((i+j)*64+48)=some (.var cs0)/\cs0.flatMap Cell.refs=[]/\cs.flatMap Cell.refs=[]/\∀(X:V) vs,aj X cs0 vs->aj X cs vs
 |[],_,_,_,j,e,he=>by simp[jl]at he
 |.ptr l::r,i,b,h,j,e,he=>by
  rw[NH]at h;split at h
  .next cs b' hx hb=>
   split at h
   .next a hr ha=>
    cases h;cases j with
    |zero=>
     simp[jl]at he;subst he;exact .inr ⟨l,_,cs,rfl,rfl,by simpa using hx,hr,adw _ _ _ ha hr,λX vs hc=>Ir _ _ _ _ ha hc⟩
    |succ j=>
     rcases O4 r (i+1) b' hb j e (by simpa[jl]using he)with h|⟨l,cs',cs0,h1,h2,h3,h4⟩
     .exact .inl h
     .exact .inr ⟨l,cs',cs0,by simpa using h1,h2,by rw[show i+(j+1)=i+1+j by omega];exact h3,h4⟩
   .cases h
  .cases h
 |.p _::r,i,b,h,j,e,he|.own _ _::r,i,b,h,j,e,he=>by
  rw[NH]at h;cases j with
  |zero=>simp[jl]at he;exact .inl he.symm
  |succ j=>
   rcases O4 r (i+1) b h j e (by simpa[jl]using he)with h|⟨l,cs',cs0,h1,h2,h3,h4⟩
   .exact .inl h
   .exact .inr ⟨l,cs',cs0,by simpa using h1,h2,by rw[show i+(j+1)=i+1+j by omega];exact h3,h4⟩
theorem af5:∀{sh:List gQ}{xs:List Arg}{d:jf sh},jk sh xs=some d->∀(j:Nat)(l:List iF),sh[j]? =some (.ptr l)->∃cs,xs[j]? =some (.ptr cs)
 |[],[],_,_,j,l,h=>by simp at h
 |s::r,x::xs,d,h,j,l,hj=>by
  rw[jk]at h;split at h
  .next a b h1 h2=>
   cases j with
   |zero=>
    simp at hj;subst hj;cases x with
    |ptr cs=>exact⟨cs,rfl⟩
    |_=>simp[gQ.read]at h1
   |succ j=>obtain⟨cs,hc⟩:=af5 h2 j l (by simpa using hj);exact⟨cs,by simpa using hc⟩
  .cases h
 |[],_::_,_,h,_,_,_=>by simp[jk]at h
 |_::_,[],_,h,_,_,_=>by simp[jk]at h
theorem apT{sh:List gQ}{b:kF sh}(hb:NH st 0 sh=some b){q:Nat}{y:aW}(h:l9 (jl sh b) q=some y):
 q%64=48/\∃l cs cs0,sh[q / 64]? =some (.ptr l)/\y=.var cs/\st.ah q=some (.var cs0)/\cs0.flatMap Cell.refs=[]/\cs.flatMap Cell.refs=[]/\∀(X:V) vs,aj X cs0 vs->aj X cs vs:=by
 unfold l9 at h;split at h
 .next e r l he=>rcases O4 sh 0 b hb _ _ he with h'|⟨_,_,_,_,h',_⟩<;>cases h'
 .next cs he=>
  split at h
  .next hm=>
   have hm':=awH hm;cases h;rcases O4 sh 0 b hb _ _ he with h'|⟨l,cs',cs0,h1,h2,h3,h4⟩
   .cases h'
   .cases h2;refine⟨hm',l,_,cs0,h1,rfl,?_,h4⟩;rw[show q=(0+q / 64)*64+48 by omega];exact h3
  .cases h
 .cases h
def gQ.uX:(s:gQ)->s.den->Prop
 |.p s,x=>s.uX x
 |.own _ r,(l:List r.den)=>∀x∈l,r.uX x
 |.ptr l,x=>ab4 l x
def KF:(l:List gQ)->jf l->Prop
 |[],_=>True
 |s::r,x=>s.uX x.1/\KF r x.2
theorem jy.ab5{X:V}(s:jy)(x:Arg)(d:s.den)(v:Value)(h:s.read x=some d)(hr:rV X x v):s.uX d:=
 (F5 (X:=X) [s] (d,()) [v] ⟨jy.weak s x d v h hr,trivial⟩).1
theorem aac{X:V}{args:List Arg}(ho:∀o x,dN args o=some x->cZ X o x):∀(sh:List gQ)(xs:List Arg)(d:jf sh)(vs:List Value)(i:Nat),(∀j a,xs[j]? =some a->args[i+j]? =some a)->
 jk sh xs=some d->Ap X i xs vs->KF sh d
 |[],[],_,_,_,_,_,_=>trivial
 |s::r,x::xs,d,v::vs,i,hj,h,⟨hv,hvs⟩=>by
  rw[jk]at h;split at h
  .next a b h1 h2=>
   cases h;refine⟨?_,aac ho r xs b vs (i+1) (λj c hc=>by have:=hj (j+1) c (by simpa using hc);rwa [show i+(j+1)=i+1+j by omega]at this) h2 hvs⟩;have hx:args[i]? =some x:=hj 0 x rfl;cases s with
   |p s=>
    have h1':s.read x=some a:=by simpa[gQ.read]using h1
    refine jy.ab5 (X:=X) s x a v h1' ?_;cases x with
    |own _ _ _|ptr _=>cases s<;>simp[jy.read]at h1'
    |_=>exact hv
   |own e r'=>
    cases x with
    |own f s' l=>
     have h1':(match Nat.beq e f with|true=>if h:s'.beq r'=true then some (xq h l)else none|false=>none)=some a:=h1;split at h1'
     .split at h1'
      .next hb hs=>
       cases h1';have hsr:=aK.eq_of_beq s' r' hs;subst hsr;have oI:dN args (i*64+49)=some (.arr f s' l false):=by unfold dN;rw[show(i*64+49) / 64=i by omega,hx];dsimp only;rw[show(i*64+49)%64=49 by omega]
       obtain⟨us,_,_,_,hrow⟩:=ho _ _ oI;intro y hy;have hy':y∈l:=hy;obtain⟨j,hj1,hj2⟩:=ayx.1 hy';exact bP.uX s' _ _ (hrow j y (by rw[awM hj1,hj2]))
      .cases h1'
     .cases h1'
    |_=>simp[gQ.read]at h1
   |ptr l=>
    cases x with
    |ptr cs=>
     have h1':kS l cs=some a:=h1;have oI:dN args (i*64+48)=some (.var cs):=by unfold dN;rw[show(i*64+48) / 64=i by omega,hx];dsimp only;rw[show(i*64+48)%64=48 by omega]
     obtain⟨_,arr,_,_,_,hc⟩:=ho _ _ oI;exact NG l a _ (Ir _ _ _ _ h1' hc)
    |_=>simp[gQ.read]at h1
  .cases h
 |[],_::_,_,_,_,_,h,_=>by simp[jk]at h
 |_::_,[],_,_,_,_,h,_=>by simp[jk]at h
theorem Oh:∀(l:List gQ)(d:jf l),(vU l d).length=l.length
 |[],_=>rfl
 |_::r,d=>by simp[vU,Oh r d.2]
theorem Out.aq4(rs:List (Bool×List gK))(k:Nat):((⟨rs,none⟩:Out).take k).2=(jg k rs).2:=by
 unfold Out.take;dsimp only;split
 .next h=>rw[h]
 .next h=>rw[h]
theorem Out.aq5(rs:List (Bool×List gK))(k:Nat):((⟨rs,none⟩:Out).take k).1=(match (jg k rs).1 with|[v]=>AV.sv v|vs=>.nS vs):=by
 unfold Out.take;dsimp only;split
 .next h=>rw[h]
 .next vs δ hne h=>
  rw[h];dsimp only;rcases vs with _|⟨v,_|⟨v2,r⟩⟩
  .rfl
  .exact(hne v rfl).elim
  .rfl
theorem auZ{args:List Arg}{S:Nat->Prop}{sh:List gQ}{dM:List oC}{x:jf sh}(hx:jk sh args=some x){d:kM dM}{b:kF sh}{k:Nat}{vs:List SV}{us:List Value}
 (hR:Rel w (xX (dN args) γ) (Z9 args γ S) γ' st a w') (hrs:eX (aA w (Z9 args γ S) γ' st w') vs us) (hnd:CY (EY dM vs)=true) (hrd:F6 st dM vs=some d) (hbk:NH st 0 sh=some b)
 (hap:∀o x,look ((⟨ji dM d,none⟩:Out).take k).2 o=some x->l9 (jl sh b) o=none):
 ∃γ2,bK ⟨w',w.heap.size,qH S args (jl sh b) γ,γ2,look ((⟨ji dM d,none⟩:Out).take k).2⟩ ((⟨ji dM d,none⟩:Out).take k).1 (if h:us.toArray.size=1 then us.toArray[0]else .tuple us.toArray)/\
  (∀o x,look ((⟨ji dM d,none⟩:Out).take k).2 o=some x->cZ ⟨w',w.heap.size,qH S args (jl sh b) γ,γ2,look ((⟨ji dM d,none⟩:Out).take k).2⟩ o x/\
    ∀b',blk (γ2 o)=some b'->b'<w'.heap.size/\(w.heap.size<=b'\/xX (dN args) γ b')/\∀q y,l9 (jl sh b) q=some y->blk (γ q)≠some b')/\
  (∀o x q y b',look ((⟨ji dM d,none⟩:Out).take k).2 o=some x->look ((⟨ji dM d,none⟩:Out).take k).2 q=some y->o≠q->blk (γ2 o)=some b'->blk (γ2 q)≠some b')/\
  (∀o x,l9 (jl sh b) o=some x->γ2 o=γ o/\cZ ⟨w',w.heap.size,qH S args (jl sh b) γ,γ2,look ((⟨ji dM d,none⟩:Out).take k).2⟩ o x):=by
 rw[Out.aq4]at hap ⊢;rw[Out.aq5]
 skip
 let Y:V:=aA w (Z9 args γ S) γ' st w'
 let fv:List Value:=us.flatMap λv=>v.cells.toList
 let bD:=jl sh b
 let γ2:Nat->Value:=λp=>match l9 bD p with|some _=>γ p|none=>fv.getD (p-k) undef
 let Z:V:=⟨w',w.heap.size,qH S args bD γ,γ2,look (jg k (ji dM d)).2⟩
 have hpos:∀o e r l g,st.ah o=some (.arr e r l g)->0<r.len:=λo e r l g ho=>by obtain⟨_,_,h,_⟩:=hR.ah o _ ho;exact h
 have hF:Iy Y (O3 (ji dM d)) fv (EY dM vs):=af4 (st:=st) rfl hpos dM vs d us hrd hrs;have hbq:∀q y,l9 bD q=some y->γ' q=γ q/\∃cs cs0,y=.var cs/\st.ah q=some (.var cs0)/\cs0.flatMap Cell.refs=[]/\cs.flatMap Cell.refs=[]/\∀(X:V) vs,aj X cs0 vs->aj X cs vs:=by
  intro q y hq;obtain⟨hm,l,cs,cs0,h1,h2,h3,h4,h5,h6⟩:=apT hbk hq;refine⟨?_,cs,cs0,h2,h3,h4,h5,h6⟩;obtain⟨ci,hci⟩:=af5 hx _ l h1;have ho:dN args q=some (.var ci):=by unfold dN;rw[hci];dsimp only;rw[hm]
  have hN:(Z9 args γ S).N q=some (γ q):=by show ais args γ q=_;unfold ais;rw[ho]
  exact hR.pin q _ _ hN h3
 have hG:∀p X,look (jg k (ji dM d)).2 p=some X->∃i e r l fr,p=k+i/\(O3 (ji dM d))[i]? =some (.own e r l fr)/\X=.arr e r l fr/\0<r.len/\
  ((∃o g,(EY dM vs)[i]? =some (some o)/\st.ah o=some (.arr e r l g)/\Qg fr g=true/\γ2 p=γ' o/\(γ2 p).oneCell'=true)\/(l=[]/\γ2 p=.slice none 0 0)):=by
  intro p X hp;obtain⟨i,e,r,l,fr,h1,h2,h3⟩:=(EF _ k p X).1 hp;obtain⟨v,n,g1,g2,hr,hv⟩:=Iy.get _ _ _ i _ hF h2;have hγ:γ2 p=v:=by show(match l9 bD p with|some _=>γ p|none=>fv.getD (p-k) undef)=v;rw[hap p X hp];dsimp only;rw[h1,show k+i-k=i by omega,awI,g1];rfl
  refine⟨i,e,r,l,fr,h1,h2,h3,hr,?_⟩;rcases hv with⟨o,g,hn,ho,hb,hv,h1c⟩|⟨hl,hv⟩
  .exact .inl ⟨o,g,by rw[g2,hn],ho,hb,hγ.trans hv,by rw[hγ];exact h1c⟩
  .exact .inr ⟨hl,hγ.trans hv⟩
 have Kz:∀b',Y.foot b'->Z.foot b':=by
  intro b' hb';refine⟨hb'.1,λhlt=>⟨hb'.2.1 hlt,λq y hq=>?_⟩,λp X hp=>?_⟩
  .obtain⟨hγ,cs,cs0,_,h3,_⟩:=hbq q y hq;rw[← hγ];exact hb'.2.2 q _ h3
  .obtain⟨i,e,r,l,fr,_,_,_,_,hc⟩:=hG p X hp;show blk (γ2 p)≠some b';rcases hc with⟨o,g,_,ho,_,hγ,_⟩|⟨_,hγ⟩
   .rw[hγ];exact hb'.2.2 o _ ho
   .rw[hγ];intro h;cases h
 have apU:∀fr b',Y.dI fr b'->Z.dI fr b':=λfr b' h=>⟨Kz b' h.1,h.2⟩;have hgo:LV Z k (O3 (ji dM d)) fv:=by
  refine LV.of _ _ _ (Iy.length _ _ _ hF) λi c v hc hv=>?_;obtain⟨v',n,g1,g2,g3⟩:=Iy.get _ _ _ i c hF hc;rw[hv]at g1;cases g1;cases c with
  |plain x=>
   exact(Jp (Y:=Y) (Z:=Z) rfl apU [x] [v] (by simpa using g3.2) ⟨g3.1,trivial⟩).1
  |own e r l fr=>
   have hp:look (jg k (ji dM d)).2 (k+i)=some (.arr e r l fr):=(EF _ k _ _).2 ⟨i,e,r,l,fr,rfl,hc,rfl⟩;have hγ:γ2 (k+i)=v:=by show(match l9 bD (k+i)with|some _=>γ (k+i)|none=>fv.getD (k+i-k) undef)=v;rw[hap _ _ hp];dsimp only;rw[show k+i-k=i by omega,awI,hv];rfl
   refine⟨⟨e,r,l,fr,hp⟩,hγ.symm,?_⟩;rcases g3.2 with⟨_,_,_,_,_,_,h⟩|⟨_,h⟩
   .exact h
   .rw[h];rfl
 have hsv:eX Z (jg k (ji dM d)).1 us:=ajV (st:=st) (Y:=Y) rfl hpos dM vs d us k hrd hrs hgo;refine⟨γ2,?_,λp X hp=>?_,λp X q X' b' hp hq hne hb1 hb2=>?_,λq y hq=>?_⟩
 .have hl:=eX.length _ _ hsv
  match hm:(jg k (ji dM d)).1,us,hsv,hl with
  |[v],[u],hk,_=>exact hk.1
  |[],[],hk,_=>exact⟨_,by simp,hk⟩
  |v::v2::r,u::u2::us,hk,hl=>exact⟨_,by simp,hk⟩
  |[],_::_,hk,h4|_::_,[],hk,h4|[_],_::_::_,hk,h4|_::_::_,[_],hk,h4=>simp at h4
 .obtain⟨i,e,r,l,fr,_,_,rfl,hr,hc⟩:=hG p X hp;rcases hc with⟨o,g,_,ho,hb,hγ,_⟩|⟨rfl,hγ⟩
  .have hO:cZ Y o (.arr e r l g):=hR.ah o _ ho;have hold:∀b',blk (γ' o)=some b'->fr=true->w.heap.size<=b':=by intro b' hb' hfr;subst hfr;have hg:g=true:=hb;subst hg;obtain⟨_,_,_,hn,_⟩:=hO;exact hn b' hb' rfl
   refine⟨cZ.ab1 (Y:=Y) (Z:=Z) hO hγ rfl (λb' hb'=>⟨Kz b' hb'.1,λhfr=>hb'.2 ?_⟩) hold,λb' hb'=>?_⟩
   .subst hfr;exact hb
   .rw[hγ]at hb';obtain⟨h1,h2⟩:=hR.lt o _ b' ho hb';refine⟨h1,h2,λq y hq=>?_⟩;obtain⟨hγq,cs,cs0,_,h3,_⟩:=hbq q y hq;rw[← hγq];refine hR.sep o _ q _ b' ho h3 ?_ hb';intro e;subst e;rw[ho]at h3;cases h3
  .refine⟨⟨[],⟨by simp,.inl ⟨hγ,rfl⟩⟩,hr,(λb' hb'=>by have h0:blk (γ2 p)=some b':=hb';rw[hγ]at h0;cases h0),λi x hi=>by simp at hi⟩,λb' hb'=>by rw[hγ]at hb';cases hb'⟩
 .obtain⟨i,e,r,l,fr,hi,_,_,_,hc⟩:=hG p X hp;obtain⟨j,e',r',l',fr',hj,_,_,_,hc'⟩:=hG q X' hq;rcases hc with⟨o,g,hn,ho,_,hγ,_⟩|⟨_,hγ⟩
  .rcases hc' with⟨o',g',hn',ho',_,UN,_⟩|⟨_,UN⟩
   .rw[hγ]at hb1;rw[UN]at hb2;have:o≠o':=by intro e;subst e;have:=TP hnd _ _ _ hn hn';omega
    exact hR.sep o _ o' _ b' ho ho' this hb1 hb2
   .rw[UN]at hb2;cases hb2
  .rw[hγ]at hb1;cases hb1
 .obtain⟨hγ,cs,cs0,rfl,h3,h4,h5,h6⟩:=hbq q y hq;have nV:γ2 q=γ q:=by show(match l9 bD q with|some _=>γ q|none=>fv.getD (q-k) undef)=γ q;rw[hq]
  refine⟨nV,?_⟩;obtain⟨b',arr,t,k1,k2,k3⟩:=hR.ah q _ h3;refine⟨b',arr,t,?_,k2,Jp (Y:=Y) (Z:=Z) rfl apU _ _ h5 (h6 _ _ k3)⟩;show γ2 q=_;rw[nV,← hγ];exact k1
theorem ab6{G:kP}(hE:EnvB P G Θ Γ)(hm:P.follows .mixedOrders=true){f:FuncId}{fn:Func}{c:Code}(hf:P.funcs[f]? =some fn)(hb:fn.body=some c)(H:Hints)
 {sh:List gQ} {dM:List oC} {F:jf sh->Prop×(kM dM×kF sh->Prop)} (hn:Nat.ble sh.length fn.ntmps=true) (hne:∀x,(F x).1->∃t,(F x).2 t)
 (hwalk:∀x,KF sh x->(F x).1->KD Θ Γ H c (ak8 Θ fn.results.toList sh dM (F x).2) (Iw fn.ntmps (vU sh x))):iM P G f (mX sh dM F):=by
 intro args p ρ hcon hp;unfold mX at hcon;split at hcon
 case h_2=>cases hcon
 next x hx=>
 cases hcon;refine⟨hne x hp,λk S γ vs w hG hrep oI hsep hap=>?_⟩;have hlen:=(O1 hx).1;rw[Oh]at hlen;have hn':args.length<=fn.ntmps:=by rw[← hlen];simpa[ayS]using hn
 have hin:KF sh x:=aac (λo X ho=>(oI o X ho).1) sh args x vs.toList 0 (λj a h=>by rwa [axe]) hx hrep;have hR0:=af0 (S:=S) fn.ntmps hn' hrep (λo X ho=>⟨(oI o X ho).1,λb hb=>((oI o X ho).2 b hb).1⟩) hsep;have hR1:=hR0.covers (Yp hx fn.ntmps);refine calls_of_wp hf hb (Z8 ⟨hE,hG,λb hb=>?_⟩ hm H c _ _ _ _ _ _ hR1 (hwalk x hin hp) ?_)
 .obtain⟨o,X,ho,hb⟩:=hb;exact((oI o X ho).2 b hb).2
 intro e s γ' a' w' he hR;have hret:∃(us:List Value)(t:kM dM×kF sh),(fn.results.mapM (ND a'.tmps)).run P w'=.ok us.toArray w'/\(F x).2 t/\∃γ2,
  bK ⟨w',w.heap.size,qH S args (jl sh t.2) γ,γ2,look ((⟨ji dM t.1,none⟩:Out).take k).2⟩ ((⟨ji dM t.1,none⟩:Out).take k).1 (if h:us.toArray.size=1 then us.toArray[0]else .tuple us.toArray)/\
  (∀o x',look ((⟨ji dM t.1,none⟩:Out).take k).2 o=some x'->cZ ⟨w',w.heap.size,qH S args (jl sh t.2) γ,γ2,look ((⟨ji dM t.1,none⟩:Out).take k).2⟩ o x'/\
    ∀b,blk (γ2 o)=some b->b<w'.heap.size/\(w.heap.size<=b\/xX (dN args) γ b)/\∀q y,l9 (jl sh t.2) q=some y->blk (γ q)≠some b)/\
  (∀o x' q y b,look ((⟨ji dM t.1,none⟩:Out).take k).2 o=some x'->look ((⟨ji dM t.1,none⟩:Out).take k).2 q=some y->o≠q->blk (γ2 o)=some b->blk (γ2 q)≠some b)/\
  (∀o x',l9 (jl sh t.2) o=some x'->γ2 o=γ o/\cZ ⟨w',w.heap.size,qH S args (jl sh t.2) γ,γ2,look ((⟨ji dM t.1,none⟩:Out).take k).2⟩ o x'):=by
  have he':(e=.normal\/e=.ret)/\ak8 Θ fn.results.toList sh dM (F x).2 .ret s:=by
   cases e with
   |normal=>exact⟨.inl rfl,he⟩
   |ret=>exact⟨.inr rfl,he⟩
   |_=>exact he.elim
  have he2:=he'.2;simp only[ak8]at he2;split at he2
  .next svs awq=>
   split at he2
   .next vs' hvs'=>
    split at he2
    .next d b hnd hd hb'=>have hRf:=hR.freeze (afZ s (EY dM svs));obtain⟨us,hus,hrs⟩:=Qi hE.types hRf _ _ hvs';refine⟨us,(d,b),?_,he2,auZ hx hRf hrs hnd hd hb' (hap (d,b) he2)⟩;rw[ay7,Sem.run_map,hus];rfl
    .exact he2.elim
   .exact he2.elim
  .exact he2.elim
 obtain⟨us,t,hus,ht,γ2,h1,h2,h3,h4⟩:=hret;have hfin:bodyPost P fn (λe w'=>∃t,(F x).2 t/\RY S args γ w k ⟨ji dM t.1,none⟩ (jl sh t.2) e w') .ret a' w':=by refine⟨hR.defers,if h:us.toArray.size=1 then us.toArray[0]else .tuple us.toArray,?_,t,ht,_,γ2,rfl,hR.os,hR.tape,hR.output,hR.grow,hR.kept,h1,h2,h3,h4⟩;rw[Wx,aw3,hus];simp only[axt,axL]
 cases e with
 |normal=>exact hfin
 |ret=>exact hfin
 |_=>exact he.elim
def ak9(rv:List ResultVar)(l:List iF)(K:mZ l->Prop)(e:Exit)(st:St):Prop:=
 match e with
 |.normal|.ret=>match rv with
  |[.tmp t]=>match st.tmps t with
   |.bC o off=>match Nat.beq off 0,(st.freeze (Sr st)).ah o with
    |true,some (.var cs)=>match cs.flatMap Cell.refs,kS l cs with
     |[],some d=>K d
     |_,_=>False
    |_,_=>False
   |_=>False
  |_=>False
 |_=>False
def loses(sh:List gQ):List Eff:=sh.map λ_=>.lose
def aq6(sh:List gQ)(l:List iF)(F:jf sh->Prop×(mZ l->Prop)):Cc:=λargs=>
 match jk sh args with
 |some x=>some ((F x).1,⟨mZ l,(F x).2,λt=>⟨[],some (iQ l t)⟩,λ_=>loses sh⟩)
 |none=>none
theorem Wy(sh:List gQ)(q:Nat):l9 (loses sh) q=none:=by unfold l9 loses;rw[axS];cases sh[q / 64]? <;>rfl
theorem UZ:∀(l:List iF)(cs:List Cell)(d:mZ l),kS l cs=some d->cs.flatMap Cell.refs=[]->(iQ l d).flatMap Cell.refs=[]
 |[],[],_,_,_=>rfl
 |c::l,x::xs,d,h,hn=>by
  rw[kS]at h;rw[axP,axx]at hn;split at h
  .next p q hp hq=>
   cases h;show((c.cell p)::iQ l q).flatMap Cell.refs=[];rw[axP,axx];refine⟨?_,UZ l xs q hq hn.2⟩;cases c with
   |ref o=>
    cases x<;>simp[iF.read,Cell.refs]at hp hn
   |_=>rfl
  .cases h
 |[],_::_,_,h,_=>by simp[kS]at h
 |_::_,[],_,h,_=>by simp[kS]at h
theorem asC{G:kP}(hE:EnvB P G Θ Γ)(hm:P.follows .mixedOrders=true){f:FuncId}{fn:Func}{c:Code}(hf:P.funcs[f]? =some fn)(hb:fn.body=some c)(H:Hints)
 {sh:List gQ} {l:List iF} {F:jf sh->Prop×(mZ l->Prop)} (hn:Nat.ble sh.length fn.ntmps=true) (hne:∀x,(F x).1->∃t,(F x).2 t)
 (hwalk:∀x,KF sh x->(F x).1->KD Θ Γ H c (ak9 fn.results.toList l (F x).2) (Iw fn.ntmps (vU sh x))):iM P G f (aq6 sh l F):=by
 intro args p ρ hcon hp;unfold aq6 at hcon;split at hcon
 case h_2=>cases hcon
 next x hx=>
 cases hcon;refine⟨hne x hp,λk S γ vs w hG hrep oI hsep hap=>?_⟩;have hlen:=(O1 hx).1;rw[Oh]at hlen;have hn':args.length<=fn.ntmps:=by rw[← hlen];simpa[ayS]using hn
 have hin:KF sh x:=aac (λo X ho=>(oI o X ho).1) sh args x vs.toList 0 (λj a h=>by rwa [axe]) hx hrep;have hR0:=af0 (S:=S) fn.ntmps hn' hrep (λo X ho=>⟨(oI o X ho).1,λb hb=>((oI o X ho).2 b hb).1⟩) hsep;have hR1:=hR0.covers (Yp hx fn.ntmps);refine calls_of_wp hf hb (Z8 ⟨hE,hG,λb hb=>?_⟩ hm H c _ _ _ _ _ _ hR1 (hwalk x hin hp) ?_)
 .obtain⟨o,X,ho,hb⟩:=hb;exact((oI o X ho).2 b hb).2
 intro e s γ' a' w' he hR;have he':ak9 fn.results.toList l (F x).2 .ret s:=by
  cases e with
  |normal=>exact he
  |ret=>exact he
  |_=>exact he.elim
 have hfin:bodyPost P fn (λe w'=>∃t,(F x).2 t/\RY S args γ w k ⟨[],some (iQ l t)⟩ (loses sh) e w') .ret a' w':=by
  simp only[ak9]at he';split at he'
  case h_2=>exact he'.elim
  next t hrv=>
  split at he'
  case h_2=>exact he'.elim
  next o off ZY=>
  split at he'
  case h_2=>exact he'.elim
  next cs hoff hcs=>
  split at he'
  case h_2=>exact he'.elim
  next d hnr hd=>
  have hoff:=awH hoff;subst hoff;have hRf:=hR.freeze (Sr s);have hv:=hR.tmps t;rw[ZY]at hv;obtain⟨b,cs0,_,hγ,hval⟩:=hv;obtain⟨b',arr,ty,g1,g2,g3⟩:=hRf.ah o _ hcs;have g1:γ' o=.pointer (some ⟨b',0,none⟩):=g1;have hγ:γ' o=.pointer (some ⟨b,0,none⟩):=hγ;rw[hγ]at g1;cases g1;have hblk:blk (γ' o)=some b:=by rw[hγ];rfl
  have hlt:=hRf.lt o _ b hcs hblk
  let γ2:Nat->Value:=λ_=>γ' o
  let Z:V:=⟨w',w.heap.size,qH S args (loses sh) γ,γ2,look (Out.take k ⟨[],some (iQ l d)⟩).2⟩
  have hlook:∀q y,look (Out.take k ⟨[],some (iQ l d)⟩).2 q=some y->q=k-1/\y=.var (iQ l d):=by
   intro q y hq;have hmem:=xW _ q y hq;have:(q,y)=(k-1,.var (iQ l d)):=by simpa[Out.take]using hmem
   exact⟨congrArg Prod.fst this,congrArg Prod.snd this⟩
  have Kz:∀fr b',(aA w (Z9 args γ S) γ' (s.freeze (Sr s)) w').dI fr b'->Z.dI fr b':=by intro fr b' hb';refine⟨⟨hb'.1.1,λhlt'=>⟨hb'.1.2.1 hlt',λq y hq=>by rw[Wy]at hq;cases hq⟩,λq y hq=>?_⟩,hb'.2⟩;exact hb'.1.2.2 o _ hcs
  have hcells:aj Z (iQ l d) arr.toList:=
   Jp (Y:=aA w (Z9 args γ S) γ' (s.freeze (Sr s)) w') (Z:=Z) rfl Kz _ _ (UZ l cs d hd hnr) (Ir l cs d _ hd g3)
  have hself:look (Out.take k ⟨[],some (iQ l d)⟩).2 (k-1)=some (.var (iQ l d)):=by simp[Out.take,look]
  refine⟨hR.defers,a'.tmps.getD t undef,?_,d,he',_,γ2,rfl,hR.os,hR.tape,hR.output,hR.grow,hR.kept,?_,λq y hq=>?_,λq y q' y' b' hq hq' hne'=>?_,λq y hq=>by rw[Wy]at hq;cases hq⟩
  .have:fn.results=#[.tmp t]:=by apply ayf;simpa using hrv
   have hmap:(Array.mapM (ND a'.tmps) #[ResultVar.tmp t]).run P w'=.ok #[a'.tmps.getD t undef] w':=by rw[ay7,Sem.run_map];simp only[azT,List.mapM_nil,ND];rfl
   rw[Wx,this,aw3,hmap];rfl
  .exact⟨b,iQ l d,hself,hγ,hval⟩
  .obtain⟨rfl,rfl⟩:=hlook q y hq;refine⟨⟨b,arr,ty,hγ,g2,hcells⟩,λb' hb'=>?_⟩;have hb':blk (γ' o)=some b':=hb';rw[hblk]at hb';cases hb';exact⟨hlt.1,hlt.2,λq y hq=>by rw[Wy]at hq;cases hq⟩
  .obtain⟨rfl,_⟩:=hlook q y hq;obtain⟨rfl,_⟩:=hlook q' y' hq';exact(hne' rfl).elim
 cases e with
 |normal=>exact hfin
 |ret=>exact hfin
 |_=>exact he.elim
end Go.Fw
namespace Go.Fw
open Go
def CT.isZero:CT->Value->Bool
 |.int k,.int l n=>decide (k=l)&&decide (n=0)
 |.bool,.bool b=>!b
 |.str,.string s=>s.data.toList.isEmpty
 |.sl _ _,.slice none 0 0=>true
 |_,_=>false
def aK.U0:aK->List Value->Bool
 |.nil,[]=>true
 |.cons c r,v::vs=>c.isZero v&&r.U0 vs
 |_,_=>false
theorem CT.apV:∀(c:CT)(v:Value),c.isZero v=true->v=c.aij:=by
 intro c v h;unfold CT.isZero at h;split at h
 .simp at h;rw[h.1,h.2];rfl
 .simp at h;subst h;rfl
 .next s=>obtain⟨⟨l⟩⟩:=s;simp at h;subst h;rfl
 .rfl
 .cases h
theorem aK.af6:∀(r:aK)(vs:List Value),r.U0 vs=true->vs=r.lM
 |.nil,[],_=>rfl
 |.cons c r,v::vs,h=>by
  rw[U0,awG]at h;rw[aK.lM,CT.apV c v h.1,aK.af6 r vs h.2]
 |.nil,_::_,h|.cons _ _,[],h=>by simp[U0]at h
def alS:TypeDesc->TypeDesc->Bool
 |.int k,.int l=>decide (k=l)
 |.bool,.bool=>true
 |.string,.string=>true
 |.slice e,.slice f=>Nat.beq e f
 |_,_=>false
theorem apW:∀(c d:TypeDesc),alS c d=true->c=d:=by
 intro c d h;unfold alS at h;split at h
 .rw[axZ h]
 .rfl
 .rfl
 .rw[awH h]
 .cases h
def Qj(P:Program):List (Nat×TypeId)->List Field->Bool
 |[],[]=>true
 |(o,t)::r,f::fs=>Nat.beq o f.offset&&Nat.beq t f.type&&(P.info? f.type).isSome&&Qj P r fs
 |_,_=>false
theorem adx{P:Program}:∀(l:List (Nat×TypeId))(fs:List Field),Qj P l fs=true->l=fs.map (λf=>(f.offset,f.type))/\∀f∈fs,(P.info? f.type).isSome=true
 |[],[],_=>⟨rfl,by simp⟩
 |(o,t)::r,f::fs,h=>by
  rw[Qj,awG,awG,awG]at h;obtain⟨⟨⟨h1,h2⟩,h3⟩,h4⟩:=h;obtain⟨e,hall⟩:=adx r fs h4;refine⟨by rw[axd,← e,awH h1,awH h2],λg hg=>?_⟩;rcases aw9.1 hg with rfl|hg
  .exact h3
  .exact hall g hg
 |[],_::_,h|_::_,[],h=>by simp[Qj]at h
def apX(P:Program)(t:TypeId)(ti:TI):Bool:=
 match ti.kind,P.underlying t with
 |.scalar,some d=>match ti.cells.desc with|some c=>alS c d|none=>false
 |.str,some .string=>ti.cells.beq (.cons .str .nil)
 |.slice e,some (.slice f)=>Nat.beq e f&&(match ti.cells with|.cons (.sl g _) .nil=>Nat.beq g e|_=>false)
 |.struct fs,some (.struct CZ)=>Qj P fs CZ.toList
 |_,_=>false
def anP(ti:TI)(z:Value):Bool:=match ti.kind with
 |.struct _=>true
 |_=>z.oneCell'
def ait(P:Program)(t:TypeId)(ti:TI):Bool:=
 match P.info? t with
 |some i=>match i.zero with
  |some z=>Nat.beq i.size ti.cells.len&&Nat.beq i.bytes ti.bytes&&ti.cells.U0 z.cells.toList&&anP ti z&&apX P t ti&&Nat.ble ti.bytes 4096&&(!ti.cmp||aor P t ti.cells)
  |none=>false
 |none=>false
theorem mM.aq7{P:Program}{t:TypeId}{ti:TI}(h:ait P t ti=true):mM P t ti:=by
 unfold ait at h;split at h
 .next i hi=>
  split at h
  .next z hz=>
   simp only[awG]at h;obtain⟨⟨⟨⟨⟨⟨h1,h2⟩,h3⟩,h4⟩,h5⟩,h6⟩,h7⟩:=h;refine⟨⟨i,z,hi,awH h1,awH h2,hz,aK.af6 _ _ h3,λhagg=>?_⟩,?_,by simpa[ayS]using h6,λe w s u X xs ys vs us b hf hx hy he=>asw (by rw[e]at h7;simpa using h7) w s u X xs ys vs us b hf hx hy he⟩
   .unfold anP at h4;unfold TI.agg at hagg;split at h4
    .next hk=>rw[hk]at hagg;cases hagg
    .exact Kr z h4
   .unfold apX at h5;split at h5
    .next d hk hu=>
     rw[hk];split at h5
     .next c hc=>exact⟨d,by rw[hc,apW c d h5],hu⟩
     .cases h5
    .next hk hu=>rw[hk];exact⟨hu,aK.eq_of_beq _ _ h5⟩
    .next e f hk hu=>
     rw[hk];rw[awG]at h5;have hef:=awH h5.1;subst hef;refine⟨hu,?_⟩;have h52:=h5.2;split at h52
     .next g r hg=>exact⟨r,by rw[hg,awH h52]⟩
     .cases h52
    .next fs CZ hk hu=>rw[hk];obtain⟨e,hall⟩:=adx _ _ h5;exact⟨CZ,hu,e,hall⟩
    .cases h5
  .cases h
 .cases h
def U1(P:Program):List (Nat×TI)->Bool
 |[]=>true
 |(t,ti)::r=>ait P t ti&&U1 P r
theorem alT{P:Program}:∀{l:List (Nat×TI)},U1 P l=true->∀t ti,afW l t=some ti->mM P t ti
 |[],_,t,ti,h=>by cases h
 |(i,x)::r,hc,t,ti,h=>by
  rw[U1,awG]at hc;rw[afW]at h;cases hb:Nat.beq t i with
  |true=>rw[hb]at h;cases h;rw[awH hb];exact .aq7 hc.1
  |false=>rw[hb]at h;exact alT hc.2 t ti h
def ab7(fn:Func):Bool:=fn.body.isSome&&!(fn.name== "runtime.NumGoroutine")
theorem lD{P:Program}{f:FuncId}{fn:Func}(hf:P.funcs[f]? =some fn)(hc:ab7 fn=true):kV P f:=by
 intro args w;unfold ab7 at hc;rw[awG]at hc;have h1:(fn.name== "runtime.NumGoroutine")=false:=by simpa using hc.2
 have h2:fn.body.isNone=false:=by cases hb:fn.body with|none=>rw[hb]at hc;simp at hc|some _=>rfl
 unfold callFunc;simp only[aw3,run_program,axt,hf,h1,h2,ayh,azb,axL]
def apY(P:Program)(G:kP)(f:FuncId):Oe->Prop
 |.pure c=>rF P G f c/\kV P f
 |.eff _ c=>iM P G f c/\kV P f
theorem apZ{P:Program}{G:kP}{Θ:jT}(hT:∀t ti,Θ t=some ti->mM P t ti):∀{l:List (Nat×Oe)},(∀x∈l,apY P G x.1 x.2)->EnvB P G Θ (Ko l)
 |[],_=>⟨hT,(λf con h=>by cases h),(λf ms con h=>by cases h)⟩
 |(i,c)::r,h=>by
  have ih:=apZ (G:=G) hT λx hx=>h x (awX _ hx);refine⟨hT,λf con hf=>?_,λf ms con hf=>?_⟩
  .rw[Ko]at hf;cases hb:Nat.beq f i with
   |true=>rw[hb]at hf;cases hf;rw[awH hb];exact h (i,.pure con) awW
   |false=>rw[hb]at hf;exact ih.cons f con hf
  .rw[Ko]at hf;cases hb:Nat.beq f i with
   |true=>rw[hb]at hf;cases hf;rw[awH hb];exact h (i,.eff ms con) awW
   |false=>rw[hb]at hf;exact ih.ak6 f ms con hf
end Go.Fw
namespace Go.Fw
open Go
structure PA where
 n:Nat
 sh:List jy
 dM:List tJ
 F:nO sh->Prop×yD dM
structure XA where
 n:Nat
 sh:List gQ
 dM:List oC
 F:jf sh->Prop×(kM dM×kF sh->Prop)
structure QA where
 n:Nat
 sh:List gQ
 dM:List iF
 F:jf sh->Prop×(mZ dM->Prop)
def PA.e(q:PA):Nat×Oe:=(q.n,.pure (Hz q.sh q.dM q.F))
def XA.e(q:XA):Nat×Oe:=(q.n,.eff (oH q.sh) (mX q.sh q.dM q.F))
def QA.e(q:QA):Nat×Oe:=(q.n,.eff (oH q.sh) (aq6 q.sh q.dM q.F))
def af7(P:Program)(G:kP)(x:Nat×Oe):Prop:=apY P G x.1 x.2
def alU(P:Program)(G:kP):List (Nat×Oe)->Prop
 |[]=>True
 |x::l=>af7 P G x/\alU P G l
theorem aq8{P:Program}{G:kP}{l':List (Nat×TI)}(hT:U1 P l'=true){l:List (Nat×Oe)}(h:alU P G l):EnvB P G (afW l') (Ko l):=
 apZ (alT hT) (by
  induction l with
  |nil=>exactλx hx=>by cases hx
  |cons y l ih=>exact List.forall_mem_cons.2 ⟨h.1,ih h.2⟩)
def aiu:(l:List iF)->(mZ l->Prop)->Prop
 |[],p=>p ()
 |c::r,p=>∀x:c.den,aiu r λy=>p (x,y)
theorem U2:∀{l:List iF}{p:mZ l->Prop},aiu l p->∀x,p x
 |[],_,h,()=>h
 |_::_,_,h,(x,y)=>U2 (h x) y
def aoM:(l:List (List iF))->(EX l->Prop)->Prop
 |[],p=>p ()
 |c::r,p=>aiu c λx=>aoM r λy=>p (x,y)
theorem alV:∀{l:List (List iF)}{p:EX l->Prop},aoM l p->∀x,p x
 |[],_,h,()=>h
 |_::_,_,h,(x,y)=>alV (U2 h x) y
def aq9:(s:jy)->(s.den->Prop)->Prop
 |.v (.one c),p=>∀x:c.den,p x
 |.v (.agg l),p=>aiu l p
 |.kp l,p=>aiu l p
 |.fn _ l,p=>aoM l p
theorem anQ:∀{s:jy}{p:s.den->Prop},aq9 s p->∀x,p x
 |.v (.one _),_,h,x=>h x
 |.v (.agg _),_,h,x=>U2 h x
 |.kp _,_,h,x=>U2 h x
 |.fn _ _,_,h,x=>alV h x
def aoN:(l:List jy)->(nO l->Prop)->Prop
 |[],p=>p ()
 |s::r,p=>aq9 s λx=>aoN r λy=>p (x,y)
theorem alW:∀{l:List jy}{p:nO l->Prop},aoN l p->∀x,p x
 |[],_,h,()=>h
 |_::_,_,h,(x,y)=>alW (anQ h x) y
def atb:(s:gQ)->(s.den->Prop)->Prop
 |.p s,p=>aq9 s p
 |.own _ r,p=>∀x:List r.den,p x
 |.ptr l,p=>aiu l p
theorem asD:∀{s:gQ}{p:s.den->Prop},atb s p->∀x,p x
 |.p _,_,h,x=>anQ h x
 |.own _ _,_,h,x=>h x
 |.ptr _,_,h,x=>U2 h x
def ala:(l:List gQ)->(jf l->Prop)->Prop
 |[],p=>p ()
 |s::r,p=>atb s λx=>ala r λy=>p (x,y)
theorem aek:∀{l:List gQ}{p:jf l->Prop},ala l p->∀x,p x
 |[],_,h,()=>h
 |_::_,_,h,(x,y)=>aek (asD h x) y
abbrev LP{α:Type}(x:α)(f:(α->Prop)->(α->Nat)->α->Prop):Prop:=∃(I:α->Prop),∃(μ:α->Nat),I x/\∀(y:α),I y->f I μ y
abbrev NX{σ α:Type}(s:σ)(I:α->Prop)(μ:α->Nat)(x y:α):Prop:=s=s/\I x/\μ x<μ y
def H0:Hints:=hints [] [] [] [] []
def Fg(P:Program)(n:Nat):Func:=match P.funcs[n]? with|some f=>f|none=>default
def NI(P:Program)(n k:Nat):Bool:=P.funcs[n]?.isSome&&ab7 (Fg P n)&&Nat.ble k (Fg P n).ntmps
theorem aad{P:Program}{n k:Nat}(h:NI P n k=true):P.funcs[n]? =some (Fg P n)/\(Fg P n).body=some (codeOf (Fg P n))/\kV P n/\Nat.ble k (Fg P n).ntmps=true:=by
 simp only[NI,awG]at h;obtain⟨⟨h1,h2⟩,h3⟩:=h;have e:P.funcs[n]? =some (Fg P n):=by
  unfold Fg;cases hf:P.funcs[n]? with
  |some f=>rfl
  |none=>rw[hf]at h1;cases h1
 refine⟨e,?_,lD e h2,h3⟩;have h4:=h2;unfold ab7 at h4;rw[awG]at h4;unfold codeOf;cases hb:(Fg P n).body with
 |some c=>rfl
 |none=>rw[hb]at h4;cases h4.1
def PA.goal(q:PA)(g:(yD q.dM->Prop)->Prop)(x:nO q.sh):Prop:=OZ q.sh x->(q.F x).1->g λr=>r=(q.F x).2
def XA.goal(q:XA)(g:(kM q.dM×kF q.sh->Prop)->Prop)(x:jf q.sh):Prop:=KF q.sh x->(q.F x).1->g (q.F x).2
def QA.goal(q:QA)(g:(mZ q.dM->Prop)->Prop)(x:jf q.sh):Prop:=KF q.sh x->(q.F x).1->g (q.F x).2
variable {P:Program} {Θ:jT} {Γ:kZ} {G:kP}
theorem PA.ok{q:PA}(hm:P.follows .mixedOrders=true)(hE:EnvB P G Θ Γ)(H:Hints){p:Prop}
 (hp:(bif NI P q.n q.sh.length then aoN q.sh λx=>q.goal (λK=>KD Θ Γ H (codeOf (Fg P q.n)) (afX Θ (Fg P q.n).results.toList q.dM K) (entry (Fg P q.n).ntmps (xY q.sh x))) x else False)=p) (h:p):af7 P G q.e:=by
 subst hp;cases hc:NI P q.n q.sh.length with
 |false=>rw[hc]at h;exact h.elim
 |true=>rw[hc]at h;obtain⟨h1,h2,h3,h4⟩:=aad hc;exact⟨aip hE hm h1 h2 H h4 λx hi hx=>alW h x hi hx,h3⟩
theorem XA.ok{q:XA}(hm:P.follows .mixedOrders=true)(hE:EnvB P G Θ Γ)(H:Hints)(hne:∀x,(q.F x).1->∃t,(q.F x).2 t){p:Prop}
 (hp:(bif NI P q.n q.sh.length then ala q.sh λx=>q.goal (λK=>KD Θ Γ H (codeOf (Fg P q.n)) (ak8 Θ (Fg P q.n).results.toList q.sh q.dM K) (Iw (Fg P q.n).ntmps (vU q.sh x))) x else False)=p) (h:p):af7 P G q.e:=by
 subst hp;cases hc:NI P q.n q.sh.length with
 |false=>rw[hc]at h;exact h.elim
 |true=>rw[hc]at h;obtain⟨h1,h2,h3,h4⟩:=aad hc;exact⟨ab6 hE hm h1 h2 H h4 hne λx hi hx=>aek h x hi hx,h3⟩
theorem QA.ok{q:QA}(hm:P.follows .mixedOrders=true)(hE:EnvB P G Θ Γ)(H:Hints)(hne:∀x,(q.F x).1->∃t,(q.F x).2 t){p:Prop}
 (hp:(bif NI P q.n q.sh.length then ala q.sh λx=>q.goal (λK=>KD Θ Γ H (codeOf (Fg P q.n)) (ak9 (Fg P q.n).results.toList q.dM K) (Iw (Fg P q.n).ntmps (vU q.sh x))) x else False)=p) (h:p):af7 P G q.e:=by
 subst hp;cases hc:NI P q.n q.sh.length with
 |false=>rw[hc]at h;exact h.elim
 |true=>rw[hc]at h;obtain⟨h1,h2,h3,h4⟩:=aad hc;exact⟨asC hE hm h1 h2 H h4 hne λx hi hx=>aek h x hi hx,h3⟩
end Go.Fw
namespace Go.Fw
open Go
variable {P:Program} {G:kP} {f:FuncId}
abbrev iD:List UInt8:=[]
abbrev Df:List (Int×Unit):=[]
theorem rF.weaken{con aae:Yi}(h:rF P G f con)(hc:∀args p out,aae args=some (p,out)->p->∃q,con args=some (q,out)/\q):rF P G f aae:=by intro args p out k S vs w hcon hp hG hrep;obtain⟨q,h1,h2⟩:=hc args p out hcon hp;exact h args q out k S vs w h1 h2 hG hrep
theorem iM.weaken{con aae:Cc}(h:iM P G f con)(hc:∀args p ρ,aae args=some (p,ρ)->p->∃q,con args=some (q,ρ)/\q):iM P G f aae:=by intro args p ρ hcon hp;obtain⟨q,h1,h2⟩:=hc args p ρ hcon hp;exact h args q ρ h1 h2
theorem ap0{sh:List jy}{dM:List tJ}{F:nO sh->Prop×yD dM}(Fr Fs:Nat->nO sh->Prop×yD dM)(h0:∀x,¬(Fr 0 x).1)(hs:∀n x,Fr (n+1) x=Fs n x)
 (hf:∀x,(F x).1->∃n,(Fr n x).1) (he:∀n x,(Fr n x).2=(F x).2) (step:∀n,rF P G f (Hz sh dM (Fr n))->rF P G f (Hz sh dM (Fs n))):rF P G f (Hz sh dM F):=by
 have all:∀n,rF P G f (Hz sh dM (Fr n)):=by
  intro n
  induction n with
  |zero=>
   intro args p out k S vs w hcon hp;unfold Hz O0 at hcon;split at hcon
   .next x _=>have e:(Fr 0 x).1=p:=congrArg Prod.fst (Option.some.inj hcon);exact absurd (e.symm▸hp) (h0 x)
   .cases hcon
  |succ n ih=>have:=step n ih;have e:Fr (n+1)=Fs n:=funext (hs n);rw[e];exact this
 intro args p out k S vs w hcon hp hG hrep;have O5:=hcon;unfold Hz O0 at O5;split at O5
 .next x hx=>have e:=Option.some.inj O5;have e1:(F x).1=p:=congrArg Prod.fst e;obtain⟨n,hn⟩:=hf x (e1.symm▸hp);refine all n args (Fr n x).1 out k S vs w ?_ hn hG hrep;unfold Hz O0;rw[hx];show some ((Fr n x).1,_)=_;rw[he n x];exact congrArg (λz=>some ((Fr n x).1,z)) (congrArg Prod.snd e)
 .cases O5
theorem aiv{sh:List gQ}{dM:List oC}{F:jf sh->Prop×(kM dM×kF sh->Prop)}(Fr Fs:Nat->jf sh->Prop×(kM dM×kF sh->Prop))(h0:∀x,¬(Fr 0 x).1)(hs:∀n x,Fr (n+1) x=Fs n x)
 (hf:∀x,(F x).1->∃n,(Fr n x).1) (he:∀n x,(Fr n x).2=(F x).2) (step:∀n,iM P G f (mX sh dM (Fr n))->iM P G f (mX sh dM (Fs n))):iM P G f (mX sh dM F):=by
 have all:∀n,iM P G f (mX sh dM (Fr n)):=by
  intro n
  induction n with
  |zero=>
   intro args p ρ hcon hp;unfold mX at hcon;split at hcon
   .next x _=>have e:(Fr 0 x).1=p:=congrArg Prod.fst (Option.some.inj hcon);exact absurd (e.symm▸hp) (h0 x)
   .cases hcon
  |succ n ih=>have:=step n ih;have e:Fr (n+1)=Fs n:=funext (hs n);rw[e];exact this
 intro args p ρ hcon hp;have O5:=hcon;unfold mX at O5;split at O5
 .next x hx=>have e:=Option.some.inj O5;have e1:(F x).1=p:=congrArg Prod.fst e;obtain⟨n,hn⟩:=hf x (e1.symm▸hp);refine all n args (Fr n x).1 ρ ?_ hn;unfold mX;rw[hx];show some ((Fr n x).1,_)=_;rw[he n x];exact congrArg (λz=>some ((Fr n x).1,z)) (congrArg Prod.snd e)
 .cases O5
end Go.Fw
namespace Go.Fw
open Go
variable {P:Program} {H:Type} {enc:TypeId×Value->H} {w:World}
def aK.app:aK->aK->aK
 |.nil,s=>s
 |.cons c r,s=>.cons c (r.app s)
def alb:(r s:aK)->r.den->s.den->(r.app s).den
 |.nil,_,_,y=>y
 |.cons _ r,s,x,y=>(x.1,alb r s x.2 y)
theorem bP.app{h:Array Obj}{S:Nat->Prop}:∀(r s:aK)(x:r.den)(y:s.den)(vs us:List Value),bP h S r vs x->bP h S s us y->bP h S (r.app s) (vs++us) (alb r s x y)
 |.nil,s,x,y,vs,us,h1,h2=>by rw[bP]at h1;subst h1;exact h2
 |.cons c r,s,(x,x'),y,vs,us,h1,h2=>by rw[bP]at h1;obtain⟨v,vs',rfl,g1,g2⟩:=h1;show bP h S (.cons c (r.app s)) (v::(vs'++us)) (x,alb r s x' y);rw[bP];exact⟨v,vs'++us,rfl,g1,bP.app r s x' y vs' us g2 h2⟩
theorem add_add(a:Addr)(h:a.spot=none)(m j:Nat):(a.add m).add j=⟨a.block,a.off+m+j,none⟩:=by
 obtain⟨b,o,sp⟩:=a;simp only at h;subst h;unfold Addr.add;by_cases hm:m=0
 .by_cases hj:j=0
  .simp[hm,hj]
  .simp[hm,hj]
 .by_cases hj:j=0
  .simp[hm,hj]
  .simp[hm,hj]
def SA(f:TypeId->Option aK):List Field->Nat->Option aK
 |[],_=>some .nil
 |x::r,off=>match f x.type with
  |some s=>match SA f r (off+s.len),Nat.beq x.offset off with
   |some u,true=>some (s.app u)
   |_,_=>none
  |none=>none
def rowOf(P:Program):Nat->TypeId->Option aK
 |0,_=>none
 |n+1,t=>match P.underlying t with
  |some (.int k)=>some (.cons (.int k) .nil)
  |some .bool=>some (.cons .bool .nil)
  |some .string=>some (.cons .str .nil)
  |some (.slice e)=>match rowOf P n e with
   |some s=>match Nat.beq s.len (P.cellsOf e)&&Nat.ble 1 s.len with
    |true=>some (.cons (.sl e s) .nil)
    |false=>none
   |none=>none
  |some (.struct fs)=>match SA (rowOf P n) fs.toList 0 with
   |some r=>match Nat.beq r.len (P.cellsOf t)with
    |true=>match fs.toList.all λf=>match rowOf P n f.type with|some s=>Nat.beq s.len (P.cellsOf f.type)|none=>false with
     |true=>some r
     |false=>none
    |false=>none
   |none=>none
  |_=>none
theorem anR{α:Type}{Q:Nat->α->Prop}:∀(n:Nat),(∀i,i<n->∃x,Q i x)->∃l:List α,l.length=n/\∀i x,l[i]? =some x->Q i x
 |0,_=>⟨[],rfl,λi x h=>by simp at h⟩
 |n+1,h=>by
  obtain⟨l,hl,hq⟩:=anR n λi hi=>h i (by omega);obtain⟨x,hx⟩:=h n (by omega);refine⟨l++[x],by simp[hl],λi y hy=>?_⟩;rcases awZ i n with hi|hi
  .rw[axh (by omega)]at hy;exact hq i y hy
  .rw[axc (by omega)]at hy;have:i=n:=by
    rcases awZ n i with h'|h'
    .rw[axv (by simp;omega)]at hy;cases hy
    .omega
   subst this;simp[hl]at hy;rw[← hy];exact hx
theorem anS:∀(r s:aK),(r.app s).len=r.len+s.len
 |.nil,s=>by simp[aK.app,aK.len]
 |.cons c r,s=>by simp only[aK.app,aK.len,anS r s];omega
theorem af8{f:TypeId->Option aK}{S:Nat->Prop}{h:Array Obj}(cs:List Value)
 (part:∀(t:TypeId)(r:aK)(off:Nat),f t=some r->(∃g:Field,g.type=t/\g.offset=off)->True):∀(fs:List Field)(off:Nat)(r:aK),SA f fs off=some r->
 (∀g∈fs,∀s,f g.type=some s->∃x,bP h S s ((cs.drop g.offset).take s.len) x)->
 ∃x,bP h S r ((cs.drop off).take r.len) x
 |[],off,r,hr,_=>by
  cases hr;exact⟨(),by rw[bP];simp[aK.len]⟩
 |g::fs,off,r,hr,hall=>by
  rw[SA]at hr;split at hr
  .next s hs=>
   split at hr
   .next u hu hb=>
    cases hr;obtain⟨x,hx⟩:=hall g awW s hs;rw[awH hb]at hx;obtain⟨y,hy⟩:=af8 cs part fs (off+s.len) u hu λg' hg'=>hall g' (awX _ hg');refine⟨alb s u x y,?_⟩;have:=bP.app s u x y _ _ hx hy;rw[anS];have e:(cs.drop off).take (s.len+u.len)=(cs.drop off).take s.len++(cs.drop (off+s.len)).take u.len:=by rw[List.take_add,aya]
    rw[e];exact this
   .cases hr
  .cases hr
theorem ael:∀(n:Nat)(t:TypeId)(r:aK),rowOf P n t=some r->∀(m:Nat)(base:Nat)(spare:Nat->Bool)(held:Bool)(cs:List Value)(x:DataW H×List MemPlace),
 DataW.trod enc P w base spare held m t cs=some x->∃y,bP w.heap (λb=>b<w.heap.size) r cs y
 |0,t,r,hr=>by cases hr
 |n+1,t,r,hr=>by
  intro m base spare held cs x hx;rw[rowOf]at hr;split at hr
  .next k hu=>cases hr;obtain⟨i,rfl,_,hwf⟩:=DataW.trod_int hu hx;simp only[Lit.wf,awG,axa]at hwf;exact⟨(i,()),by rw[bP];exact⟨_,[],rfl,by rw[jM];exact⟨rfl,hwf⟩,by rw[bP]⟩⟩
  .next hu=>cases hr;obtain⟨b,rfl,_⟩:=DataW.trod_bool hu hx;exact⟨(b,()),by rw[bP];exact⟨_,[],rfl,by rw[jM],by rw[bP]⟩⟩
  .next hu=>cases hr;obtain⟨s,rfl,_,hs⟩:=DataW.trod_string hu hx;refine⟨(s.data.toList,()),by rw[bP];exact⟨_,[],rfl,by rw[jM];exact⟨by simp,by simpa using hs⟩,by rw[bP]⟩⟩
  .next e hu=>
   split at hr
   .next s hs=>
    split at hr
    .next hb=>
     cases hr;rw[awG]at hb;have hlen:=awH hb.1;have hpos:1<=s.len:=by simpa[ayS]using hb.2
     rcases DataW.trod_slice hu hx with⟨rfl,_⟩|⟨a,len,cap,elems,rest,k,_,rfl,_,hbase,hle,hmax,hel,hrow,_,_⟩
     .exact⟨([],()),by rw[bP];exact⟨_,[],rfl,by rw[jM];exact⟨by simp,.inl ⟨rfl,none,0,rfl⟩⟩,by rw[bP]⟩⟩
     .by_cases h0:len=0
      .subst h0;exact⟨([],()),by rw[bP];exact⟨_,[],rfl,by rw[jM];exact⟨by simp,.inl ⟨rfl,some a,cap,rfl⟩⟩,by rw[bP]⟩⟩
      .have each:∀i,i<len->∃(ys:List Value)(z:s.den),w.cells? base (a.add (i*P.cellsOf e)) (P.cellsOf e)=some ys/\bP w.heap (λb=>b<w.heap.size) s ys z:=by intro i hi;have h1:=hrow i hi;rw[awM (by omega)]at h1;obtain⟨ys,hys,hy2⟩:=Option.bind_eq_some_iff.1 h1;obtain⟨z,hz⟩:=ael n e s hs k base spare held ys _ hy2;exact⟨ys,z,hys,hz⟩
       obtain⟨ys0,z0,hc0,hz0⟩:=each 0 (by omega);obtain⟨_,hl0,hcell0⟩:=World.cells?_some hc0;have aem:=hcell0 0 (by omega);simp only[ayy,Addr.add,if_true]at aem;have au0:∃v,ys0[0]? =some v:=⟨ys0[0]'(by omega),by simp[show 0<ys0.length by omega]⟩;obtain⟨v0,hv0⟩:=au0;rw[hv0]at aem;unfold World.cell? at aem;split at aem
       .next c ty fz hblk=>
        split at aem
        .cases aem
        .next hsp=>
         have hspot:a.spot=none:=by cases h:a.spot with|none=>rfl|some q=>rw[h]at hsp;simp at hsp
         have ha:a=⟨a.block,a.off,none⟩:=by cases a;simp at hspot;rw[hspot]
         have hb':a.block<w.heap.size:=by obtain⟨hlt,_⟩:=axp.1 hblk;exact hlt
         have rows:∀i,i<len->∃z:s.den,bP w.heap (λb=>b<w.heap.size) s ((c.toList.drop (a.off+i*s.len)).take s.len) z:=by
          intro i hi;obtain⟨ys,z,hcs,hz⟩:=each i hi;obtain⟨_,hl,hcell⟩:=World.cells?_some hcs;refine⟨z,?_⟩;have:(c.toList.drop (a.off+i*s.len)).take s.len=ys:=by
           refine ax6 λj=>?_;rcases awZ j s.len with hj|hj
           .rw[ax0 hj,axj];have h2:=hcell j (by omega);have hadd:=add_add a hspot (i*P.cellsOf e) j;rw[← hlen]at hadd h2;rw[hadd]at h2;unfold World.cell? at h2;simp only[hblk,Option.isSome_none,ayh,azb]at h2;rw[← h2];simp
           .rw[axv (by simp;omega),axv (by omega)]
          rw[this];exact hz
         obtain⟨l,hll,hlq⟩:=anR len rows;refine⟨(l,()),by rw[bP];exact⟨_,[],rfl,by rw[jM];exact⟨by omega,.inr ⟨a.block,a.off,cap,c,ty,fz,by rw[hll,← ha],by omega,hb',hblk,hlq⟩⟩,by rw[bP]⟩⟩
       .cases aem
    .cases hr
   .cases hr
  .next fs hu=>
   split at hr
   .next r' hf=>
    split at hr
    .next hb=>
     split at hr
     .next hall=>
      cases hr;obtain⟨xs,k,_,_,hcl,hxl,hparts⟩:=DataW.trod_struct hu hx;have hlen:=awH hb;have:=af8 (h:=w.heap) (S:=λb=>b<w.heap.size) cs (λ_ _ _ _ _=>trivial) fs.toList 0 _ hf ?_
      .obtain⟨y,hy⟩:=this;refine⟨y,?_⟩;rw[axU,axQ (by omega)]at hy;exact hy
      .intro g hg s hs;have hg2:=axb.1 hall g hg;rw[hs]at hg2;have hsl:=awH hg2;obtain⟨i,hi,hgi⟩:=ayx.1 hg;have hp:=hparts i g (by rw[← hgi];simp[show i<fs.size by simpa using hi]);rw[awM (by simp at hi;omega)]at hp;rw[hsl];exact ael n g.type s hs k base spare held _ _ hp
     .cases hr
    .cases hr
   .cases hr
  .cases hr
def CT.csh:CT->iF
 |.int k=>.int k
 |.bool=>.bool
 |.str=>.str
 |.sl e r=>.sl e r false
def toC:(c:CT)->c.den->c.csh.den
 |.int _,x=>x
 |.bool,x=>x
 |.str,x=>x
 |.sl _ _,x=>x
def aK.shs:aK->List iF
 |.nil=>[]
 |.cons c r=>c.csh::r.shs
def toCs:(r:aK)->r.den->mZ r.shs
 |.nil,_=>()
 |.cons c r,x=>(toC c x.1,toCs r x.2)
theorem aiw(X:V):∀(r:aK)(vs:List Value)(x:r.den),bP X.w.heap (X.dI false) r vs x->aj X (iQ r.shs (toCs r x)) vs
 |.nil,vs,x,h=>by rw[bP]at h;subst h;trivial
 |.cons c r,vs,(x,y),h=>by
  rw[bP]at h;obtain⟨v,vs',rfl,h1,h2⟩:=h;refine⟨?_,aiw X r vs' y h2⟩;cases c with
  |int k=>exact h1
  |bool=>exact h1
  |str=>exact h1
  |sl e r=>exact h1
def aoO(P:Program)(t:TypeId):Option tJ:=
 match rowOf P 64 t with
 |some r=>match P.underlying t with
  |some (.struct _)=>some (.agg r.shs)
  |some (.array _ _)=>none
  |_=>match r with
   |.cons c .nil=>some (.one c.csh)
   |_=>none
 |none=>none
def Qk(P:Program):List TypeId->Option (List jy)
 |[]=>some []
 |t::ts=>match aoO P t,Qk P ts with
  |some s,some l=>some (.v s::l)
  |_,_=>none
def start(w:World):V:=⟨w,w.heap.size,λb=>b<w.heap.size,λ_=>undef,λ_=>none⟩
theorem asE{t:TypeId}{s:tJ}(hs:aoO P t=some s){base base':Nat}{sp:Nat->Bool}{hd:Bool}{v:Value}{d:DataW H}{p:List MemPlace}
 (ht:DataW.Trod enc P w base sp hd t v d p) (hv:Value.okWide P w .any base' t v):∃x:s.den,eU (start w) (s.val x) v:=by
 unfold aoO at hs;split at hs
 .next r hr=>
  obtain⟨m,hm⟩:=ht;obtain⟨y,hy⟩:=ael 64 t r hr m base sp hd _ _ hm;have hy':bP (start w).w.heap ((start w).dI false) r v.cells.toList y:=
   bP.mono (λb hb=>⟨⟨⟨hb,λ_=>hb,λo x hx=>by cases hx⟩,λe=>by cases e⟩,rfl⟩) r _ y hy
  unfold Value.okWide at hv;split at hs
  .next fs hu=>cases hs;rw[hu]at hv;obtain⟨cs,rfl,_,_⟩:=hv;exact⟨toCs r y,cs,rfl,aiw (start w) r _ y hy'⟩
  .cases hs
  .next hns hna=>
   split at hs
   .next c=>
    cases hs;have hcell:v.cells=#[v]:=by
     cases hv2:v<;>first
      |rfl
      |(exfalso
        rw[hv2]at hv;split at hv
        .next hu=>exact hns _ hu
        .next hu=>exact hna _ _ hu
        .unfold Go.Cell.okWide at hv;split at hv<;>first|(rename_i h1 h2;cases h2;done)|(rename_i h2;cases h2;done)|skip;unfold Go.Cell.ok at hv;split at hv<;>first|(rename_i h1 h2;cases h2;done)|exact hv)
    have:=aiw (start w) _ _ y hy';rw[hcell]at this;exact⟨toC c y.1,this.1⟩
   .cases hs
 .cases hs
theorem alX:∀(ts:List TypeId)(sh:List jy),Qk P ts=some sh->∀{base base':Nat}{sp:Nat->Bool}{hd:Bool}(vs:List Value)(ds:List (DataW H))(p:List MemPlace),
 DataW.TrodAll enc P w base sp hd ts vs ds p->(∀(j:Nat) t v,ts[j]? =some t->vs[j]? =some v->Value.okWide P w .any base' t v)->∃x:nO sh,pU (start w) (xY sh x) vs
 |[],sh,hs,_,_,_,_,vs,ds,p,h,_=>by
  cases hs;cases vs with
  |nil=>exact⟨(),trivial⟩
  |cons v vs=>cases ds<;>simp[DataW.TrodAll]at h
 |t::ts,sh,hs,base,base',sp,hd,vs,ds,p,h,hok=>by
  rw[Qk]at hs;split at hs
  .next s l h1 h2=>
   cases hs;cases vs with
   |nil=>cases ds<;>simp[DataW.TrodAll]at h
   |cons v vs=>
    cases ds with
    |nil=>simp[DataW.TrodAll]at h
    |cons d ds=>obtain⟨a,b,g1,g2,_⟩:=h;obtain⟨x,hx⟩:=asE h1 g1 (hok 0 t v rfl rfl);obtain⟨y,hy⟩:=alX ts l h2 vs ds b g2 λj t' v' ht' hv'=>hok (j+1) t' v' (by simpa using ht') (by simpa using hv');exact⟨(x,y),hx,hy⟩
  .cases hs
mutual
theorem CT.MH:∀(c:CT),c.beq c=true
 |.int k=>by simp[CT.beq]
 |.bool=>rfl
 |.str=>rfl
 |.sl e r=>by simp[CT.beq,aK.MH r]
theorem aK.MH:∀(r:aK),r.beq r=true
 |.nil=>rfl
 |.cons c r=>by simp[aK.beq,CT.MH c,aK.MH r]
end
theorem ajW:∀(c:iF)(x:c.den),c.read (c.cell x)=some x
 |.int k,x=>by simp[iF.cell,iF.read]
 |.bool,x=>rfl
 |.str,x=>rfl
 |.sl e r fr,l=>by
  simp only[iF.cell,iF.read,axs];have h1:Qg fr fr=true:=by cases fr<;>rfl
  have h2:r.beq r=true:=aK.MH r;rw[h1];simp only[Bool.and_self];rw[dif_pos h2];rfl
 |.nil,x=>rfl
 |.ref o,x=>by simp[iF.cell,iF.read]
 |.junk,x=>rfl
theorem af9:∀(l:List iF)(x:mZ l),kS l (iQ l x)=some x
 |[],_=>rfl
 |c::r,x=>by rw[iQ,kS,ajW c x.1,af9 r x.2]
theorem alY:∀(ts:List TypeId)(l:List jy),Qk P ts=some l->∀(x:nO l),KE l (xY l x)=some x
 |[],l,h,x=>by cases h;rfl
 |t::ts,l,h,x=>by
  rw[Qk]at h;split at h
  .next s r h1 h2=>
   cases h;have ih:=alY ts r h2 x.2;cases s with
   |one c=>
    have e:(jy.v (.one c)).read ((jy.v (.one c)).val x.1)=some x.1:=ajW c x.1;rw[xY,KE,ih,e]
   |agg l=>have e:(jy.v (.agg l)).read ((jy.v (.agg l)).val x.1)=some x.1:=af9 l x.1;rw[xY,KE,ih,e]
  .cases h
def aix:Out:=⟨[(false,[.plain (.bool true)])],none⟩
theorem ap1{G:kP}{f:FuncId}{fn:Func}{sh:List jy}{F:nO sh->Prop×Out}(hcon:rF P G f (O0 sh F))(hsh:Qk P fn.params.toList=some sh)
 (hF:∀x,OZ sh x->(F x).1/\(F x).2=aix) (hG:G.ok w) {base base':Nat} {sp:Nat->Bool} {hd:Bool} {args:Array Value} {ds:List (DataW H)} {p:List MemPlace}
 (hA:DataW.TrodAll enc P w base sp hd fn.params.toList args.toList ds p) (hok:∀(j:Nat) t v,fn.params[j]? =some t->args[j]? =some v->Value.okWide P w .any base' t v):
 Calls P f args w λe w'=>e=.returned (.bool true)/\w'.os=w.os/\w'.output=w.output/\w.heap.size<=w'.heap.size/\∀b,b<w.heap.size->w'.heap[b]? =w.heap[b]? :=by
 obtain⟨x,hx⟩:=alX _ _ hsh _ _ _ hA λj t v ht hv=>hok j t v (by simpa using ht) (by simpa using hv);have hin:=F5 sh x _ hx;obtain⟨hp,ho⟩:=hF x hin;have hc:O0 sh F (xY sh x)=some ((F x).1,aix):=by unfold O0;rw[alY _ _ hsh x];simp only[← ho]
 refine(hcon (xY sh x) _ _ 0 _ args w hc hp hG hx).mono ?_;rintro e w' ⟨v,vals,rfl,h1,h2,h3,h4,h5,h6,_,_⟩;have hv:v=.bool true:=h6;exact⟨by rw[hv],h1,h3,h4,h5⟩
theorem ara{w w':World}(h1:w'.os=w.os)(h3:w'.output=w.output)(h5:∀b,b<w.heap.size->w'.heap[b]? =w.heap[b]?)(may:MemPlace->Prop):w.keptBut w' may:=by
 refine⟨h1,h3,λi hi=>?_⟩;rw[h5 i hi];cases hw:w.heap[i]? with
 |none=>trivial
 |some o=>cases o<;>simp
theorem arb{w w':World}(h5:∀b,b<w.heap.size->w'.heap[b]? =w.heap[b]?){p:MemPlace}(hp:p.block<w.heap.size):w.sameAt w' p:=by
 cases p with
 |cell b off=>
  show w'.cell? _=w.cell? _;unfold World.cell?;simp only;rw[h5 b hp]
 |map b=>exact h5 b hp
end Go.Fw
namespace Go.Fw
open Go
variable {P:Program} {G:kP} {f:FuncId}
theorem ana{args:List Arg}{i:Nat}{x:Arg}{p:Nat}(hp:p / 64≠i):dN (args.set i x) p=dN args p:=by unfold dN;rw[axC (λh=>hp h.symm)]
theorem aaf{args:List Arg}{i:Nat}{e:TypeId}{r:aK}{l:List r.den}(hi:i<args.length)(p:Nat)(hp:p / 64=i):dN (args.set i (.own e r l)) p=if p=i*64+49 then some (.arr e r l false)else none:=by
 unfold dN;rw[hp,axT hi];by_cases h:p=i*64+49
 .subst h;have:Nat.beq ((i*64+49)%64) 49=true:=by
   have:(i*64+49)%64=49:=by omega
   rw[this];rfl
  simp[this]
 .have:Nat.beq (p%64) 49=false:=by
   cases hb:Nat.beq (p%64) 49 with
   |false=>rfl
   |true=>have:=awH hb;omega
  simp[this,h]
theorem anT{args:List Arg}{i:Nat}{v:SV}(ha:args[i]? =some (.sv v))(p:Nat)(hp:p / 64=i):dN args p=none:=by unfold dN;rw[hp,ha]
def Ql(γ:Nat->Value)(i:Nat)(o:Nat):Value:=if o=i*64+49 then .slice none 0 0 else γ o
theorem rV.mono{X Y:V}(h:X.le Y):∀(a:Arg)(v:Value),rV X a v->rV Y a v
 |.sv x,v,H=>eU.mono h x v H
 |.kp cs,v,H=>bK.mono h (.cO cs 0) v H
 |.fn f caps,v,H=>bK.mono h (.fn f caps) v H
 |.own _ _ _,_,H|.ptr _,_,H=>H.elim
theorem P9.mono{X Y:V}(h:X.le Y)(i:Nat):∀(a:Arg)(v:Value),P9 X i a v->P9 Y i a v
 |.own _ _ _,v,H=>bJ.mono h (.ref (i*64+49)) v H
 |.ptr _,v,H=>bK.mono h (.bC (i*64+48) 0) v H
 |.sv x,v,H=>rV.mono h (.sv x) v H
 |.kp cs,v,H=>rV.mono h (.kp cs) v H
 |.fn f caps,v,H=>rV.mono h (.fn f caps) v H
theorem Ap.nil{X Y:V}(h:X.le Y){e:TypeId}{r:aK}:∀(args:List Arg)(vs:List Value)(j i:Nat),args[i]? =some (.sv (.one .nil))->
 Y.ah ((j+i)*64+49)=some (.arr e r [] false)->Y.γ ((j+i)*64+49)=.slice none 0 0->Ap X j args vs->Ap Y j (args.set i (.own e r [])) vs
 |[],[],_,i,ha,_,_,_=>by simp at ha
 |[],_::_,_,_,_,_,_,H=>H.elim
 |_::_,[],_,_,_,_,_,H=>H.elim
 |a::args,v::vs,j,0,ha,ho,hγ,⟨h1,h2⟩=>by
  have ha:a=.sv (.one .nil):=by simpa using ha
  subst ha;have hv:v=.slice none 0 0:=h1;refine⟨⟨⟨e,r,[],false,ho⟩,?_,by rw[hv];rfl⟩,?_⟩
  .rw[hv];exact hγ.symm
  .show Ap Y (j+1) args vs;clear h1 ha ho hγ hv;generalize j+1=k at h2
   induction args generalizing k vs with
   |nil=>cases vs with
    |nil=>trivial
    |cons _ _=>exact h2.elim
   |cons b args ih=>cases vs with
    |nil=>exact h2.elim
    |cons u vs=>exact⟨P9.mono h k b u h2.1,ih vs (k+1) h2.2⟩
 |a::args,v::vs,j,i+1,ha,ho,hγ,⟨h1,h2⟩=>by
  have e1:j+(i+1)=j+1+i:=by omega
  rw[e1]at ho hγ;exact⟨P9.mono h j a v h1,Ap.nil h args vs (j+1) i (by simpa using ha) ho hγ h2⟩
theorem iM.atd{con aae:Cc}(i:Nat)(e:TypeId)(r:aK)(hr:0<r.len)(h:iM P G f con)
 (hc:∀args p ρ,aae args=some (p,ρ)->p->args[i]? =some (.sv (.one .nil))/\(∀t,l9 (ρ.bD t) (i*64+49)=none)/\∃q,con (args.set i (.own e r []))=some (q,ρ)/\q):iM P G f aae:=by
 intro args p ρ hcon hp;obtain⟨ha,hF,q,hq1,hq⟩:=hc args p ρ hcon hp;have hlen:i<args.length:=by have:=awU.1 ha;exact this.1
 obtain⟨hex,hcall⟩:=h _ q ρ hq1 hq;refine⟨hex,λk S γ vs w hG hrep oI hsep hfree=>?_⟩;have hO:∀o,o≠i*64+49->dN (args.set i (.own e r [])) o=dN args o:=by
  intro o ho;by_cases hd:o / 64=i
  .rw[aaf hlen o hd,anT ha o hd,if_neg ho]
  .exact ana hd
 have hN:dN (args.set i (.own e r [])) (i*64+49)=some (.arr e r [] false):=by rw[aaf hlen _ (by omega),if_pos rfl]
 have hN':dN args (i*64+49)=none:=anT ha _ (by omega);have hγN:Ql γ i (i*64+49)=.slice none 0 0:=if_pos rfl;have hγ:∀o,o≠i*64+49->Ql γ i o=γ o:=λo ho=>if_neg ho;have hne:∀o x,dN args o=some x->o≠i*64+49:=λo x ho e=>by rw[e,hN']at ho;cases ho
 have le:V.le ⟨w,w.heap.size,S,γ,dN args⟩ ⟨w,w.heap.size,S,Ql γ i,dN (args.set i (.own e r []))⟩:=by
  refine⟨awY _,λb hb=>⟨⟨hb.1,hb.2.1,λo x hx=>?_⟩,rfl⟩,λo cs hx=>⟨⟨cs,?_⟩,hγ o (hne o _ hx)⟩,λo e r l fr hx=>⟨⟨l,fr,?_⟩,hγ o (hne o _ hx)⟩⟩
  .by_cases ho:o=i*64+49
   .show blk (Ql γ i o)≠some b;rw[ho,hγN];intro hh;cases hh
   .show blk (Ql γ i o)≠some b;rw[hγ o ho];exact hb.2.2 o x ((hO o ho).symm.trans hx)
  .exact(hO o (hne o _ hx)).trans hx
  .exact(hO o (hne o _ hx)).trans hx
 have hbl:∀b,xX (dN (args.set i (.own e r []))) (Ql γ i) b↔xX (dN args) γ b:=by
  intro b;constructor
  .rintro⟨o,x,h1,h2⟩;by_cases ho:o=i*64+49
   .rw[ho,hγN]at h2;cases h2
   .exact⟨o,x,(hO o ho)▸h1,(hγ o ho)▸h2⟩
  .rintro⟨o,x,h1,h2⟩;exact⟨o,x,(hO o (hne o x h1)).trans h1,by rw[hγ o (hne o x h1)];exact h2⟩
 refine Calls.mono (hcall k S (Ql γ i) vs w hG (Ap.nil (Y:=⟨w,w.heap.size,S,Ql γ i,dN (args.set i (.own e r []))⟩) le args vs.toList 0 i ha (by rw[axe];exact hN) (by rw[axe];exact hγN) hrep) ?_ ?_ hfree) ?_
 .intro o x hx;by_cases ho:o=i*64+49
  .subst ho;rw[hN]at hx;cases hx;refine⟨⟨[],?_,hr,λb hb=>?_,λj x hj=>by simp at hj⟩,λb hb=>?_⟩
   .show w.ownsRow 0 e r.len (Ql γ i (i*64+49)) 0 [];rw[hγN];exact azC w 0 e r.len
   .have hb:blk (Ql γ i (i*64+49))=some b:=hb;rw[hγN]at hb;cases hb
   .rw[hγN]at hb;cases hb
  .have hx':dN args o=some x:=(hO o ho)▸hx;have:=oI o x hx';refine⟨cZ.mono le o x (λb _=>rfl) (hγ o ho) this.1,λb hb=>this.2 b ((hγ o ho)▸hb)⟩
 .intro o x q y b hx hy hoq hb;by_cases ho:o=i*64+49
  .rw[ho,hγN]at hb;cases hb
  by_cases hq':q=i*64+49
  .rw[hq',hγN];intro hh;cases hh
  rw[hγ o ho]at hb;rw[hγ q hq'];exact hsep o x q y b ((hO o ho)▸hx) ((hO q hq')▸hy) hoq hb
 .rintro en w' ⟨t,ht,v,γ',h1,h2,h3,h4,h5,h6,h7,h8,h9,h10⟩;have aoP:∀o x,l9 (ρ.bD t) o=some x->o≠i*64+49:=λo x ho e=>by rw[e,hF t]at ho;cases ho
  have hL:qH S (args.set i (.own e r [])) (ρ.bD t) (Ql γ i)=qH S args (ρ.bD t) γ:=by
   funext b
   apply propext;constructor
   .rintro⟨a1,a2⟩;refine⟨a1.imp_right (hbl b).1,λq y hy=>?_⟩;have:=a2 q y hy
    rwa [hγ q (aoP q y hy)]at this
   .rintro⟨a1,a2⟩;refine⟨a1.imp_right (hbl b).2,λq y hy=>?_⟩;rw[hγ q (aoP q y hy)];exact a2 q y hy
  rw[hL]at h7 h8 h10;refine⟨t,ht,v,γ',h1,h2,h3,h4,h5,λb hb hn=>h6 b hb (λh=>hn ((hbl b).1 h)),h7,λo x hx=>?_,h9,λo x hx=>?_⟩
  .obtain⟨a1,a2⟩:=h8 o x hx;refine⟨a1,λb hb=>?_⟩;obtain⟨b1,b2,b3⟩:=a2 b hb;refine⟨b1,b2.imp_right (hbl b).1,λq y hy=>?_⟩;have:=b3 q y hy
   rwa [hγ q (aoP q y hy)]at this
  .obtain⟨a1,a2⟩:=h10 o x hx;exact⟨a1.trans (hγ o (aoP o x hx)),a2⟩
theorem ap2{l:List iF}{e:TypeId}{r:aK}{rest:List gQ}{dM:List oC}{F:jf (.ptr l:: .own e r::rest)->Prop×(kM dM×kF (.ptr l:: .own e r::rest)->Prop)}
 {F':jf (.ptr l:: .p (.v (.one .nil))::rest)->Prop×(kM dM×kF (.ptr l:: .own e r::rest)->Prop)} (hr:0<r.len) (h:iM P G f (mX (.ptr l:: .own e r::rest) dM F))
 (hF:∀a x,(F' (a,(),x)).1->(F (a,[],x)).1) (hF2:∀a x,(F' (a,(),x)).1->(F' (a,(),x)).2=(F (a,[],x)).2):iM P G f (mX (.ptr l:: .p (.v (.one .nil))::rest) dM F'):=by
 refine iM.atd 1 e r hr h λargs p ρ hcon hp=>?_
 match args,hcon with
 |[],hcon=>simp[mX,jk]at hcon
 |[a],hcon=>
  have:jk (.ptr l:: .p (.v (.one .nil))::rest) [a]=none:=by simp only[jk];split<;>simp_all
  simp[mX,this]at hcon
 |a::b::args,hcon=>
  cases ha:(gQ.ptr l).read a with
  |none=>simp[mX,jk,ha]at hcon
  |some a'=>
  cases hb:(gQ.p (.v (.one .nil))).read b with
  |none=>simp[mX,jk,ha,hb]at hcon
  |some b'=>
  cases hx:jk rest args with
  |none=>simp[mX,jk,ha,hb,hx]at hcon
  |some x=>
   have hb2:b=.sv (.one .nil):=by
    cases b with
    |sv s=>cases s with
     |one c=>cases c with
      |nil=>rfl
      |int k n=>cases hb
      |bool k=>cases hb
      |str k=>cases hb
      |sl e r l fr=>cases hb
      |ref o=>cases hb
      |junk=>cases hb
     |agg cs=>cases hb
    |_=>cases hb
   subst hb2;simp only[mX,jk,ha,hb,hx]at hcon;have hcon:=Option.some.inj hcon;have h1:(F' (a',(),x)).1=p:=congrArg Prod.fst hcon;have h2:(⟨kM dM×kF (.ptr l:: .own e r::rest),(F' (a',(),x)).2,λt=>⟨ji dM t.1,none⟩,λt=>jl (.ptr l:: .own e r::rest) t.2⟩:Oc)=ρ:=congrArg Prod.snd hcon;have hp':(F' (a',(),x)).1:=h1▸hp;subst h2;refine⟨rfl,λt=>rfl,(F (a',[],x)).1,?_,hF a' x hp'⟩
   .have ho:(gQ.own e r).read (.own e r [])=some []:=by unfold gQ.read;simp only[axs];rw[dif_pos (aK.MH r)];rfl
    simp only[List.set_cons_succ,List.set_cons_zero,mX,jk,ha,ho,hx];have:=hF2 a' x hp';exact congrArg (λz=>some ((F (a',[],x)).1,(⟨kM dM×kF (.ptr l:: .own e r::rest),z,λt=>⟨ji dM t.1,none⟩,λt=>jl (.ptr l:: .own e r::rest) t.2⟩:Oc))) this.symm
end Go.Fw
namespace Go.Fw
open Go
theorem af{b:Bool}{A B:Prop}(h1:b=true->A)(h2:b=false->B):cond b A B:=by
 cases b
 .exact h2 rfl
 .exact h1 rfl
theorem drop_cons{α:Type}(a:List α)(n:Nat)(d:α)(h:n<a.length):a.drop n=a.getD n d::a.drop (n+1):=by rw[ay6 h,awI,awM h,azk]
theorem fQ(z:Int)(h:-9223372036854775808<=z/\z<=9223372036854775807):IntKind.i64.wrap z=z:=IntWalk.i64_in z (by omega)
theorem maxLen_eq:maxLen=9223372036854775807:=by decide
theorem bM:big=4294967296:=rfl
theorem getD_mem{α:Type}{l:List α}{n:Nat}{d:α}(h:n<l.length):l.getD n d∈l:=by rw[awI,awM h,azk];exact ax2 h
end Go.Fw
namespace Go.Fw
open Go
end Go.Fw
namespace Go.Fw
open Go
variable {P:Program}
def qJ(cur:Array Value)(o:Nat)(cs:List Value):Array Value:=(cur.toList.take o++cs++cur.toList.drop (o+cs.length)).toArray
theorem wL(cur:Array Value)(o:Nat)(cs:List Value)(h:o+cs.length<=cur.size):(qJ cur o cs).size=cur.size:=by simp only[qJ,ayv,awN,awK,axk,aw4];omega
theorem wX(cur:Array Value)(o:Nat)(cs:List Value)(k:Nat)(h:o+cs.length<=cur.size):
 (qJ cur o cs).toList[k]? =if k<o then cur.toList[k]? else if k<o+cs.length then cs[k-o]? else cur.toList[k]? :=by
 have ht:(cur.toList.take o).length=o:=by rw[awK,aw4];omega
 simp only[qJ];by_cases h1:k<o
 .rw[if_pos h1,axr,axh (by omega),aw1,if_pos h1]
 .rw[if_neg h1];by_cases h2:k<o+cs.length
  .rw[if_pos h2,axr,axc (by omega),ht,axh (by omega)]
  .rw[if_neg h2,axc (by rw[awN];omega),awN,ht,axj];congr 1;omega
theorem aoQ(R:Array Value)(a:Nat)(vs ds:List Value)(h:a+vs.length+ds.length<=R.size):
 (qJ (qJ R a vs) (a+vs.length) ds).toList.take (a+vs.length+ds.length)=R.toList.take a++(vs++ds):=by
 have s1:=wL R a vs (by omega);have hl:(R.toList.take a).length=a:=by rw[awK,aw4];omega
 apply ax6;intro j;rw[aw1];by_cases h1:j<a
 .rw[if_pos (by omega),wX _ _ _ _ (by omega),if_pos (by omega),wX _ _ _ _ (by omega),if_pos h1,axh (by omega),aw1,if_pos h1]
 .rw[axc (by omega),hl];by_cases h2:j<a+vs.length
  .rw[if_pos (by omega),wX _ _ _ _ (by omega),if_pos h2,wX _ _ _ _ (by omega),if_neg h1,if_pos h2,axh (by omega)]
  .rw[axc (by omega)];by_cases h3:j<a+vs.length+ds.length
   .rw[if_pos h3,wX _ _ _ _ (by omega),if_neg h2,if_pos h3];congr 1;omega
   .rw[if_neg h3,axv (by omega)]
theorem aoR(R:Array Value)(a:Nat)(vs ds:List Value)(h:a+vs.length+ds.length<=R.size):
 (qJ (qJ R (a+vs.length) ds) a vs).toList.take (a+vs.length+ds.length)=R.toList.take a++(vs++ds):=by
 have s1:=wL R (a+vs.length) ds (by omega);have hl:(R.toList.take a).length=a:=by rw[awK,aw4];omega
 apply ax6;intro j;rw[aw1];by_cases h1:j<a
 .rw[if_pos (by omega),wX _ _ _ _ (by omega),if_pos (by omega),wX _ _ _ _ (by omega),if_pos (by omega),axh (by omega),aw1,if_pos h1]
 .rw[axc (by omega),hl];by_cases h2:j<a+vs.length
  .rw[if_pos (by omega),wX _ _ _ _ (by omega),if_neg h1,if_pos h2,axh (by omega)]
  .rw[axc (by omega)];by_cases h3:j<a+vs.length+ds.length
   .rw[if_pos h3,wX _ _ _ _ (by omega),if_neg h1,if_neg h2,wX _ _ _ _ (by omega),if_neg h2,if_pos h3];congr 1;omega
   .rw[if_neg h3,axv (by omega)]
theorem alZ(w:World)(g:Nat)(a b:Array Value):(w.setRow g a).setRow g b=w.setRow g b:=setRow_setRow w g a b
theorem size_setRow(w:World)(g:Nat)(a:Array Value):(w.setRow g a).heap.size=w.heap.size:=by simp[World.setRow]
theorem G5(w:World)(dT sT ty e:TypeId)(k g o dl dc:Nat)(sa:Addr)(sl sc n:Nat)(cur:Array Value)(t:TypeId)(cs:List Value)
 (hu:P.underlying dT=some (.slice e)) (hs:(P.info? e).map (·.size)=some k) (hg:w.heap[g]? =some (.cells cur t (0,0))) (hn:Nat.min sl dl=n) (hcl:cs.length=n*k)
 (hsrc:∀j v,cs[j]? =some v->w.cell? (sa.add j)=some v) (hfit:o+cs.length<=cur.size) (h1:∀v∈cs,v.oneCell'=true):
 (Builtin.copy_ #[dT,sT] ty #[.slice (some ⟨g,o,none⟩) dl dc,.slice (some sa) sl sc]).run P w=.ok (goInt n) (w.setRow g (qJ cur o cs)):=by
 have hl:=run_loadCells_list (P:=P) w sa cs hsrc;have hst:=azB P g o t cs 0 cur w hg (by simpa using hfit) h1;cases hq:P.info? e with
 |none=>simp[hq]at hs
 |some i=>
  have hi:i.size=k:=by simpa[hq]using hs
  simp[Builtin.copy_,axf hu,Builtin.lenOf,Builtin.firstCells,sizeOf,typeInfo,hq,hi,hn,← hcl,hl,hst,qJ]
theorem aag(v:Value)(h:v.ownBlock=none\/True):∀{n:Nat}{e:TypeId}{k b0:Nat}{xs:List Value}{w:World},w.ownsRow b0 e k v n xs->blk v=v.ownBlock:=by intro n e k b0 xs w hw;rcases hw.2 with⟨rfl,_⟩|⟨g,cap,cur,rfl,_⟩<;>rfl
def aga(P:Program)(f:FuncId)(e:TypeId)(k:Nat):Prop:=
 ∀(w:World)(v u:Value)(n i:Nat)(xs ys:List Value),w.ownsRow 0 e k v n xs->w.ownsRow 0 e k u 1 ys->(∀b,v.ownBlock=some b->u.ownBlock≠some b)->i<=n->n<=1000->
  (∀x∈xs,x.oneCell'=true)->(∀x∈ys,x.oneCell'=true)->
  Calls P f #[v,.int .i64 i,u] w λen w'=>∃v',en=.returned v'/\w'.ownsRow 0 e k v' (n+1) (xs.take (i*k)++(ys++xs.drop (i*k)))/\w.grownBy w' v.ownBlock/\
   (∀g,v'.ownBlock=some g->v.ownBlock=some g\/w.heap.size<=g)
theorem al0{h:Array Obj}{S:Nat->Prop}{r:aK}{xs:List Value}{l:List r.den}(hlen:xs.length=l.length*r.len)(hx:∀i x,l[i]? =some x->bP h S r ((xs.drop (i*r.len)).take r.len) x)(hpos:0<r.len):
 ∀x∈xs,x.oneCell'=true:=by
 intro x hm;obtain⟨j,hj,rfl⟩:=ayx.1 hm;have hq:j / r.len<l.length:=by rw[Nat.div_lt_iff_lt_mul hpos];omega
 refine bP.ones r _ _ (hx (j / r.len) _ (awM hq)) _ ?_;refine List.mem_iff_getElem?.2 ⟨j%r.len,?_⟩;have hd:=azN j r.len;rw[aw1,if_pos (azE _ hpos),axj,azp,hd,awM hj]
theorem anb(xs ys:List Value)(k n i q:Nat)(hxs:xs.length=n*k)(hys:ys.length=k)(hi:i<=n):
 ((xs.take (i*k)++(ys++xs.drop (i*k))).drop (q*k)).take k=if q<i then(xs.drop (q*k)).take k else if q=i then ys else(xs.drop ((q-1)*k)).take k:=by
 have hik:i*k<=xs.length:=by rw[hxs];exact aw7 _ hi
 have hlt:(xs.take (i*k)).length=i*k:=by rw[awK];omega
 by_cases h1:q<i
 .have hqk:q*k+k<=i*k:=by
   have:(q+1)*k<=i*k:=aw7 _ h1
   rwa [axn,azR]at this
  rw[if_pos h1,axY (by omega),axM (by rw[axk];omega),azu,ayp];congr 1;omega
 .rw[if_neg h1];by_cases h2:q=i
  .subst h2;rw[if_pos rfl];have h0:(xs.take (q*k)++(ys++xs.drop (q*k))).drop (q*k)=ys++xs.drop (q*k):=by rw[axY (by omega),ayK (by omega),ax7]
   rw[h0,axM (by omega),axQ (by omega)]
  .rw[if_neg h2];have hqi:i+1<=q:=by omega
   have e1:q*k=i*k+(k+(q-1-i)*k):=by
    have:q=i+(1+(q-1-i)):=by omega
    conv=>lhs;rw[this,axn,axn,azR]
   have e2:(q-1)*k=i*k+(q-1-i)*k:=by rw[← axn];congr 1;omega
   have h0:(xs.take (i*k)++(ys++xs.drop (i*k))).drop (i*k+k)=xs.drop (i*k):=by rw[← aya,axY (by omega),ayK (by omega:(xs.take (i*k)).length<=i*k),ax7,axY (by omega),ayK (by omega:ys.length<=k),ax7]
   rw[e1,e2,← azx,← aya,h0,aya]
theorem Nj{s:gQ}{sh:List gQ}:∀{args:List Arg}{d:jf (s::sh)},jk (s::sh) args=some d->∃x xs,args=x::xs/\s.read x=some d.1/\jk sh xs=some d.2
 |[],_,h=>by simp[jk]at h
 |x::xs,d,h=>by
  rw[jk]at h;split at h
  .next a b h1 h2=>cases h;exact⟨x,xs,rfl,h1,h2⟩
  .cases h
theorem agb:∀{args:List Arg}{d:jf []},jk [] args=some d->args=[]
 |[],_,_=>rfl
 |_::_,_,h=>by simp[jk]at h
abbrev Qm(e:TypeId)(r:aK):List gQ:=[.own e r,.p (.v (.one (.int .i64))),.own e r]
abbrev al1(e:TypeId)(r:aK):List oC:=[.one (.own e r false)]
theorem gQ.al2{e:TypeId}{r:aK}{x:Arg}{d:List r.den}(h:(gQ.own e r).read x=some d):x=.own e r d:=by
 cases x with
 |own f s l=>
  simp only[gQ.read]at h;split at h
  .next hb=>
   have he:=awH hb;subst he;split at h
   .next hs=>have hr:=aK.eq_of_beq s r hs;subst hr;cases h;rfl
   .cases h
  .cases h
 |_=>simp[gQ.read]at h
theorem gQ.ard{x:Arg}{d:Int}(h:(gQ.p (.v (.one (.int .i64)))).read x=some d):x=.sv (.one (.int .i64 d)):=by
 cases x with
 |sv x=>
  cases x with
  |one c=>
   cases c with
   |int k n=>
    simp only[gQ.read,jy.read,tJ.read,iF.read]at h;cases k<;>simp_all
   |_=>simp[gQ.read,jy.read,tJ.read,iF.read]at h
  |agg l=>simp[gQ.read,jy.read,tJ.read]at h
 |_=>simp[gQ.read,jy.read]at h
theorem anc{G:kP}{f:FuncId}{e:TypeId}{r:aK}(hpos:0<r.len)(hM:aga P f e r.len)
 {F:jf (Qm e r)->Prop×(kM (al1 e r)×kF (Qm e r)->Prop)}
 (hF:∀(l:List r.den)(i:Int)(lv:List r.den),(F (l,i,lv,())).1->0<=i/\i<=l.length/\l.length<=1000/\lv.length=1/\(F (l,i,lv,())).2 ((l.take i.toNat++(lv++l.drop i.toNat),()),())):
 iM P G f (mX (Qm e r) (al1 e r) F):=by
 intro args p ρ hcon hp;simp only[mX]at hcon;split at hcon
 .next x hx=>
  revert x;show∀x:List r.den×Int×List r.den×Unit,_;rintro⟨l,i,lv,⟨⟩⟩ hx hcon;have hF1:=Option.some.inj hcon;have hp1:(F (l,i,lv,())).1=p:=congrArg Prod.fst hF1;have hρ:=congrArg Prod.snd hF1;simp only at hρ;subst hρ;rw[← hp1]at hp;obtain⟨h0,hi,hn,hv1,hR⟩:=hF l i lv hp;obtain⟨a0,r0,rfl,hx0,h1⟩:=Nj hx;obtain⟨a1,r1,rfl,hx1,h2⟩:=Nj h1;obtain⟨a2,r2,rfl,hx2,h3⟩:=Nj h2;have:=agb h3;subst this;have e0:=gQ.al2 hx0;have e2:=gQ.al2 hx2;have e1:=gQ.ard hx1;subst e0 e1 e2;refine⟨⟨_,hR⟩,?_⟩;intro k S γ vs w hG hrep oI hap hk;have o49:dN [.own e r l,.sv (.one (.int .i64 i)),.own e r lv] 49=some (.arr e r l false):=rfl;have ate:dN [.own e r l,.sv (.one (.int .i64 i)),.own e r lv] 177=some (.arr e r lv false):=rfl
  match hvs:vs.toList,hrep with
  |[v,vi,u],hrep=>
   have ev:v=γ 49:=hrep.1.2.1;have eu:u=γ 177:=hrep.2.2.1.2.1;have evi:vi=.int .i64 i:=hrep.2.1.1;have evs:vs=#[γ 49,.int .i64 i,γ 177]:=by obtain⟨vl⟩:=vs;simp at hvs;rw[hvs,ev,eu,evi]
   subst evs;obtain⟨⟨xs,hxs,_,_,hxr⟩,awr⟩:=oI 49 _ o49;obtain⟨⟨ys,hys,_,_,hyr⟩,awg⟩:=oI 177 _ ate;have B1:=aag (γ 49) (.inr trivial) hxs;have B2:=aag (γ 177) (.inr trivial) hys;have h1:=al0 hxs.1 hxr hpos;have h2:=al0 hys.1 hyr hpos;have hin:i.toNat<=l.length:=by omega
   have hik:((i.toNat:Nat):Int)=i:=by omega
   have arf:w.ownsRow 0 e r.len (γ 177) 1 ys:=by rw[← hv1];exact hys
   have hrun:=hM w (γ 49) (γ 177) l.length i.toNat xs ys hxs arf (λb hb=>by rw[← B2];exact hap 49 _ 177 _ b o49 ate (by decide) (by rw[B1];exact hb)) hin hn h1 h2;rw[hik]at hrun;refine hrun.mono ?_;rintro en w' ⟨v',rfl,hown,hgr,hnew⟩;have Bv:=aag v' (.inr trivial) hown;have hone:v'.oneCell'=true:=by rcases hown.2 with⟨rfl,_⟩|⟨g,cap,cur,rfl,_⟩<;>rfl
   have atT:look [(k,aW.arr e r (l.take i.toNat++(lv++l.drop i.toNat)) false)] k=some (.arr e r (l.take i.toNat++(lv++l.drop i.toNat)) false):=by simp[look]
   have lookO:∀o x,look [(k,aW.arr e r (l.take i.toNat++(lv++l.drop i.toNat)) false)] o=some x->k=o/\.arr e r (l.take i.toNat++(lv++l.drop i.toNat)) false=x:=by intro o x h;have:=xW _ _ _ h;simp at this;exact⟨this.1.symm,this.2.symm⟩
   have aoS:∀q y,¬l9 (jl (Qm e r) ()) q=some y:=by
    intro q y h;unfold l9 at h
    match hq:q / 64,h with
    |0,h=>simp[jl]at h
    |1,h=>simp[jl]at h
    |2,h=>simp[jl]at h
    |n+3,h=>simp[jl]at h
   refine⟨_,hR,v',λ_=>v',rfl,hgr.os,hgr.tape,hgr.output,hgr.size,λb hb hnb=>?_,?_,?_,?_,?_⟩
   .exact hgr.block b hb λhe=>hnb ⟨49,_,o49,by rw[B1];exact he.symm⟩
   .exact⟨⟨e,r,_,false,atT⟩,rfl,hone⟩
   .intro o x hx;obtain⟨rfl,rfl⟩:=lookO o x hx;refine⟨⟨xs.take (i.toNat*r.len)++(ys++xs.drop (i.toNat*r.len)),?_,hpos,λ_ _ h=>(by cases h),λq x hx=>?_⟩,λb hb=>?_⟩
    .have hlen:(l.take i.toNat++(lv++l.drop i.toNat)).length=l.length+1:=by simp;omega
     rw[hlen];exact hown
    .have hq:q<=l.length:=by have:=(awU.1 hx).1;simp at this;omega
     rw[anb xs ys r.len l.length i.toNat q hxs.1 (by rw[arf.1,azR]) hin];have Kz:∀b,(⟨w,w.heap.size,S,γ,dN [.own e r l,.sv (.one (.int .i64 i)),.own e r lv]⟩:V).dI false b->
      (⟨w',w.heap.size,qH S [.own e r l,.sv (.one (.int .i64 i)),.own e r lv] (jl (Qm e r) ()) γ,λ_=>v',look [(k,.arr e r (l.take i.toNat++(lv++l.drop i.toNat)) false)]⟩:V).dI false b/\w'.heap[b]? =w.heap[b]? :=by
      intro b hb;obtain⟨⟨hb1,hb2,hb3⟩,_⟩:=hb;have hb1:b<w.heap.size:=hb1;have hne:some b≠(γ 49).ownBlock:=λhe=>hb3 49 _ o49 (by rw[B1];exact he.symm);refine⟨⟨⟨axz hb1 hgr.size,λ_=>⟨.inl (hb2 hb1),λq y hq=>?_⟩,λo x hx he=>?_⟩,λh=>(by cases h)⟩,hgr.block b hb1 hne⟩
      .exact absurd hq (aoS q y)
      .have he:blk v'=some b:=he;rw[Bv]at he;rcases hnew b he with h|h
       .exact hne h.symm
       .omega
     by_cases c1:q<i.toNat
     .rw[if_pos c1];refine bP.mono Kz r _ x (hxr q x ?_);rw[axh (by rw[awK];omega),aw1,if_pos c1]at hx;exact hx
     .rw[if_neg c1];have hlt:(l.take i.toNat).length=i.toNat:=by rw[awK];omega
      rw[axc (by omega),hlt]at hx;by_cases c2:q=i.toNat
      .rw[if_pos c2];rw[c2,ayP,axh (by omega)]at hx;have:=hyr 0 x hx;rw[ayy,axU,axQ (by rw[arf.1];omega)]at this;exact bP.mono Kz r _ x this
      .rw[if_neg c2];rw[axc (by omega),hv1,axj,show i.toNat+(q-i.toNat-1)=q-1 by omega]at hx;exact bP.mono Kz r _ x (hxr (q-1) x hx)
    .have he:blk v'=some b:=hb;have he2:=he;rw[Bv]at he2;refine⟨?_,?_,λq y hq=>absurd hq (aoS q y)⟩
     .rcases hown.2 with⟨hv,_⟩|⟨g,cap,cur,hv,_,hg,_⟩
      .rw[hv]at he;cases he
      .rw[hv]at he;cases he;exact(axp.1 hg).1
     .rcases hnew b he2 with h|h
      .exact .inr ⟨49,_,o49,by rw[B1];exact h⟩
      .exact .inl h
   .intro o x q y b h1 h2 hne;exact absurd ((lookO o x h1).1.symm.trans (lookO q y h2).1) hne
   .intro o x h;exact absurd h (aoS o x)
 .cases hcon
end Go.Fw
namespace Go.Fw
open Go
variable {P:Program} {H:Type} {enc:TypeId×Value->H} {w:World}
theorem Yq(hl:laidOutB P=true){base:Nat}{sp':Nat->Bool}{W W':World}:∀(ts:List TypeId)(_:ts.all (λt=>P.readableRec t&&decide (t<P.types.size))=true)
 (vs:List Value) (ds:List (DataW H)) (ps:List MemPlace),DataW.TrodAll enc P W base (λ_=>true) true ts vs ds ps->(∀p∈ps,W.sameAt W' p)->(∀p∈ps,sp' p.block=true)->DataW.TrodAll enc P W' base sp' true ts vs ds ps
 |[],_,vs,ds,ps,h,_,_=>by
  cases vs<;>cases ds<;>simp[DataW.TrodAll]at h ⊢;exact h
 |t::ts,ht,vs,ds,ps,h,h1,h2=>by
  rw[axR,awG,awG]at ht;cases vs with
  |nil=>cases ds<;>simp[DataW.TrodAll]at h
  |cons v vs=>
   cases ds with
   |nil=>simp[DataW.TrodAll]at h
   |cons d ds=>
    obtain⟨a,b,g1,g2,rfl⟩:=h;exact⟨a,b,WideElems.Trod_stays hl ht.1.1 (axZ ht.1.2) g1 (λp hp=>h1 p (axD _ hp)) (λp hp=>h2 p (axD _ hp)),
     Yq hl ts ht.2 vs ds b g2 (λp hp=>h1 p (axW _ hp)) (λp hp=>h2 p (axW _ hp)),rfl⟩
theorem trodAll_length{base:Nat}{sp:Nat->Bool}{hd:Bool}{W:World}:∀(ts:List TypeId)(vs:List Value)(ds:List (DataW H))(ps:List MemPlace),DataW.TrodAll enc P W base sp hd ts vs ds ps->ds.length=ts.length
 |[],vs,ds,ps,h=>by cases vs<;>cases ds<;>simp[DataW.TrodAll]at h ⊢
 |t::ts,vs,ds,ps,h=>by
  cases vs with
  |nil=>cases ds<;>simp[DataW.TrodAll]at h
  |cons v vs=>
   cases ds with
   |nil=>simp[DataW.TrodAll]at h
   |cons d ds=>obtain⟨a,b,g1,g2,rfl⟩:=h;simp[trodAll_length ts vs ds b g2]
theorem arh{fn:Func}{s:ChangeSpec}{apart fresh handsOn again:Bool}{W W':World}{args:Array Value}{ds gs:List (DataW H)}{before:List MemPlace}{tb:TypeId}
 (hvars:s.vars=[]) (hspec:∀l:List (DataW H),l.length=fn.params.toList.length->(s.fn H l).results=[.lit (.bool true)]/\(s.fn H l).args=l/\(s.fn H l).vars=[])
 (hres:fn.resultTypes=#[tb]) (hb:P.underlying tb=some .bool) (hl:laidOutB P=true) (hread:fn.params.toList.all (λt=>P.readableRec t&&decide (t<P.types.size))=true)
 (hW:DataW.Whole enc P fn.params.toList s.vars apart W args.toList ds gs before) (hos:W'.os=W.os) (hout:W'.output=W.output) (hheap:∀b,b<W.heap.size->W'.heap[b]? =W.heap[b]?):
 s.post enc P fn apart fresh handsOn again W args (.bool true) W':=by
 have hlt:=hW.lt;have hW0:=hW;obtain⟨p,q,hA,hV,hpq,hz,hn⟩:=hW;rw[hvars]at hV;have hg:gs=[]/\q=[]:=by
  cases gs with
  |nil=>exact⟨rfl,hV⟩
  |cons g gs=>simp[DataW.TrodVars]at hV
 obtain⟨rfl,rfl⟩:=hg;rw[axB]at hpq;subst hpq;have hlen:=trodAll_length _ _ _ _ hA;obtain⟨r1,r2,r3⟩:=hspec (ds++[]) (by simpa using hlen);rw[axB]at r1 r2 r3;have hsame:∀x∈before,W.sameAt W' x:=λx hx=>arb hheap (hlt x hx);have R:∀(b:Nat)(sp:Nat->Bool)(hd:Bool),DataW.TrodAll enc P W' b sp hd fn.resultTypes.toList ((Value.bool true).resultList fn.resultTypes.size) [.lit (.bool true)] []:=by intro b sp hd;rw[hres];exact⟨[],[],⟨1,by simp[DataW.trod,Value.cells,hb]⟩,rfl,rfl⟩
 have A:∀sp:Nat->Bool,(∀x∈before,sp x.block=true)->DataW.TrodAll enc P W' 0 sp true fn.params.toList args.toList ds before:=λsp hsp=>Yq hl _ hread _ _ _ hA hsame hsp;have hold:∀x∈before,(λb=>decide (b<W.heap.size)) x.block=true:=λx hx=>by simpa using hlt x hx
 refine⟨ds,[],before,[],before,[],hW0,?_,?_,?_,ara hos hout hheap _,λ_=>⟨?_,.lit (.bool true)::ds,[],before,⟨before,[],?_,?_,by simp,?_,hn⟩,λx hx _=>hx⟩⟩
 .rw[axB,r1];exact R _ _ _
 .rw[axB,r2];exact A _ hold
 .rw[axB,r3,hvars];rfl
 .intro j t r h1 h2;rw[hres]at h1 h2
  match j with
  |0=>
   simp[Value.resultList]at h1 h2;subst h1 h2;simp[Value.okWide,hb,Go.Cell.okWide,Go.Cell.ok]
  |j+1=>simp at h1
 .exact ChangeShapes.trodAll_append (A _ (λ_ _=>rfl)) (R _ _ _)
 .rw[hvars];rfl
 .intro b off hp;have hbl:=hlt _ hp;have e:W'.frozen? ⟨b,off,none⟩=W.frozen? ⟨b,off,none⟩:=by unfold World.frozen?;simp only;rw[hheap b hbl]
  rw[e];exact hz b off hp
end Go.Fw
namespace Go.Fw
open Go
theorem law_lifted{H:Type}{enc:TypeId×Value->H}{C:Checked}{G:kP}{os:Os}{f:FuncId}{fn:Func}{s:ChangeSpec}{conds:List PathCond}{apart fresh handsOn again:Bool}{tb:TypeId}{sh:List jy}{F:nO sh->Prop×Out}
 (own:ownKnob C.prog.godebug=none) (started:os.Started) (noInit:C.prog.inits.idxOf? f=none) (hfn:C.prog.funcs[f]? =some fn)
 (witness:∃(w:World)(tape:Tape)(i:Input),w.os=os/\(w.forCall tape i).Shaped C.prog/\i.vars=[]/\Input.okWide C.prog (w.forCall tape i) .any w.heap.size f i/\
   s.pre6 enc C.prog fn conds apart (w.forCall tape i).memory i.args/\({}:Assume).holds C.prog (lone (Frame.enter C.prog f i.args .normal) [] (w.forCall tape i)))
 (hcon:rF C.prog G f (O0 sh F)) (hsh:Qk C.prog fn.params.toList=some sh) (hF:∀x,OZ sh x->(F x).1/\(F x).2=aix) (hG:∀w,G.ok w)
 (hvars:s.vars=[]) (hspec:∀l:List (DataW H),l.length=fn.params.toList.length->(s.fn H l).results=[.lit (.bool true)]/\(s.fn H l).args=l/\(s.fn H l).vars=[])
 (hres:fn.resultTypes=#[tb]) (hb:C.prog.underlying tb=some .bool) (hl:laidOutB C.prog=true) (hread:fn.params.toList.all (λt=>C.prog.readableRec t&&decide (t<C.prog.types.size))=true):
 ReturnsInHanded {} C os f .any (s.pre6 enc C.prog fn conds apart) (s.post enc C.prog fn apart fresh handsOn again):=by
 refine returnsInHanded_of_change own started noInit hfn witness ?_;intro W base args ds gs before hval hW _ _;have hW0:=hW;obtain⟨p,q,hA,_⟩:=hW;refine(ap1 hcon hsh hF (hG W) hA hval).mono ?_;rintro e W' ⟨rfl,h1,h2,_,h3⟩;exact⟨_,rfl,arh hvars hspec hres hb hl hread hW0 h1 h2 h3⟩
end Go.Fw
