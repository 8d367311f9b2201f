import Derived.Test.YtflpicdbkomglaaGreatDoorFwD
import Derived.Test.YtflpicdbkomglaaGreatDoorFwB
import Derived.Test.YtflpicdbkomglaaGreatDoorFwA
import Derived.ChangeArms
import Derived.WideKeyArgs
import Derived.ChangeSame
import Derived.ChangeOld
import Derived.Handed
import Derived.IntWalk
import Derived.Laws.IdiomCopy
import Derived.ProofKit
namespace Go.Fw
open Go
variable {P:Program} {w0:World} {M:Nat->Prop} {T:Ext} {γ γ':Nat->Value} {st:St} {a:Act} {w w':World} {Θ:fU} {Γ:iT}
structure BA where
 abN:List ND
 c:Shape
 v:Shape
structure Hints where
 own:Nat->Bool
 loops:Nat->Option BA
 cuts:Nat->Option BA
 upd:List Nat
 frz:Nat->List Pre
def ru:Code->Option Nat
 |.region id _ _=>some id
 |.seq x y=>match ru x with|some n=>some n|none=>ru y
 |.cond _ x y=>match ru x with|some n=>some n|none=>ru y
 |.block _ x|.loop x=>ru x
 |_=>none
def cutAt(H:Hints)(y:Code):Option BA:=match ru y with
 |some n=>H.cuts n
 |none=>none
def Af(Θ:fU)(Γ:iT)(H:Hints):Code->(Exit->St->Prop)->St->Prop
 |.skip,Q,st=>Q .normal st
 |.region id ops false,Q,st=>JW (H.frz id) (runs Θ Γ H.own ops.toList (Q .normal) ops.toList) st
 |.region id ops true,Q,st=>JW (H.frz id) (Gs Θ Γ H.own H.upd ops.toList (Q .normal)) st
 |.seq x y,Q,st=>match cutAt H y with
  |none=>Af Θ Γ H x (λe s=>match e with|.normal=>Af Θ Γ H y Q s|e=>Q e s) st
  |some sp=>match sp.c.read (only sp.c sp.v st)with
   |some x0=>∃(J:sp.v.den->Prop),Af Θ Γ H x (λe s=>match e with
     |.normal=>match settles s sp.abN with
      |some s1=>match Nat.beq s1.n st.n,sp.c.read (only sp.c sp.v s1),sp.v.read (only sp.c sp.v s1)with
       |true,some x1,some y1=>x1=x0/\J y1
       |_,_,_=>False
      |none=>False
     |e=>Q e s) st/\∀y1,J y1->Af Θ Γ H y Q (joint st.n sp.c sp.v x0 y1)
   |none=>False
 |.cond c x y,Q,st=>match st.ev c with
  |.sv (.one (.bool b))=>cond b (Af Θ Γ H x Q st) (Af Θ Γ H y Q st)
  |_=>False
 |.block id c,Q,st=>Af Θ Γ H c (λe s=>match e with
  |.exit i=>match Nat.beq i id with|true=>Q .normal s|false=>Q (.exit i) s
  |e=>Q e s) st
 |.exit id,Q,st=>Q (.exit id) st
 |.ret,Q,st=>Q .ret st
 |.loop c,Q,st=>match ru c with
  |some n=>match H.loops n with
   |some sp=>match settles st sp.abN with
    |some s0=>match sp.c.read (only sp.c sp.v s0),sp.v.read (only sp.c sp.v s0)with
     |some x0,some y0=>∃(I:sp.v.den->Prop)(μ:sp.v.den->Nat),I y0/\∀y,I y->
       Af Θ Γ H c (λe s=>match e with
        |.normal=>match settles s sp.abN with
         |some s1=>match Nat.beq s1.n s0.n,sp.c.read (only sp.c sp.v s1),sp.v.read (only sp.c sp.v s1)with
          |true,some x1,some y1=>x1=x0/\I y1/\μ y1<μ y
          |_,_,_=>False
         |none=>False
        |e=>Q e s) (joint s0.n sp.c sp.v x0 y)
     |_,_=>False
    |none=>False
   |none=>False
  |none=>False
 |_,_,_=>False
theorem NG{G:iC}(hE:nR P G Θ Γ w0 M)(hm:P.follows .mixedOrders=true)(H:Hints):∀(c:Code)(QA:Exit->St->Prop)(Q:Exit->Act->World->Prop)(st:St)(γ:Nat->Value)(a:Act)(w:World),
 Rel w0 M T γ st a w->Af Θ Γ H c QA st->(∀e s γ' a' w',QA e s->Rel w0 M T γ' s a' w'->Q e a' w')->c.wp P Q a w:=by
 intro c
 induction c with
 |skip=>intro QA Q st γ a w h ha hQ;exact wp_skip (hQ _ _ _ _ _ ha h)
 |region id ops d=>
  intro QA Q st γ a w h ha hQ;cases d with
  |false=>
   obtain⟨s0,γ0,h0,hk0⟩:=xu (K:=runs Θ Γ H.own ops.toList (QA .normal) ops.toList) (H.frz id) st γ h ha;exact YG hE h0 hk0 λs γ' a' w' hK hR=>hQ _ _ _ _ _ hK hR
  |true=>
   obtain⟨s0,γ0,h0,hk0⟩:=xu (K:=Gs Θ Γ H.own H.upd ops.toList (QA .normal)) (H.frz id) st γ h ha;exact acU hE hm h0 hk0 λs γ' a' w' hK hR=>hQ _ _ _ _ _ hK hR
 |seq x y ihx ihy=>
  intro QA Q st γ a w h ha hQ;rw[Af]at ha;split at ha
  .refine wp_seq (ihx _ _ st γ a w h ha ?_);intro e s γ' a' w' hq hR;cases e<;>first|exact ihy _ _ s γ' a' w' hR hq hQ|exact hQ _ _ _ _ _ hq hR
  .next sp hsp=>
   split at ha
   .next x0 hx=>
    obtain⟨J,h1,h2⟩:=ha;refine wp_seq (ihx _ _ st γ a w h h1 ?_);intro e s γ' a' w' hq hR;cases e with
    |normal=>
     simp only at hq;split at hq
     .next s1 hs1=>
      split at hq
      .next x1 y1 hsn hx1 hy1=>obtain⟨rfl,hJ⟩:=hq;obtain⟨γ1,hR1⟩:=Rel.settles _ hR hs1;have hR2:=hR1.joint hx1 hy1;rw[aj3 hsn]at hR2;exact ihy _ _ _ γ1 a' w' hR2 (h2 _ hJ) hQ
      .exact hq.elim
     .exact hq.elim
    |_=>exact hQ _ _ _ _ _ hq hR
   .exact ha.elim
 |cond c x y ihx ihy=>
  intro QA Q st γ a w h ha hQ;rw[Af]at ha;split at ha
  .next b hb=>
   have hv:a.eval c=.bool b:=by have:=fE h c;rw[hb]at this;exact this
   refine wp_cond_split hv (λe=>?_) (λe=>?_)
   .subst e;exact ihx _ _ st γ a w h ha hQ
   .subst e;exact ihy _ _ st γ a w h ha hQ
  .exact ha.elim
 |block id c ih=>
  intro QA Q st γ a w h ha hQ;refine wp_block (ih _ _ st γ a w h ha ?_);intro e s γ' a' w' hq hR;cases e with
  |exit i=>
   simp only[Exit.inBlock];cases hb:Nat.beq i id with
   |true=>
    simp only[hb]at hq;rw[if_pos (aj3 hb)];exact hQ _ _ _ _ _ hq hR
   |false=>
    simp only[hb]at hq;rw[if_neg (by rintro rfl;simp at hb)];exact hQ _ _ _ _ _ hq hR
  |_=>exact hQ _ _ _ _ _ hq hR
 |loop c ih=>
  intro QA Q st γ a w h ha hQ;rw[Af]at ha;split at ha
  .split at ha
   .next sp hsp=>
    split at ha
    .next s0 hs0=>
     split at ha
     .next x0 y0 hx hy=>
      obtain⟨I,μ,h0,hI⟩:=ha;obtain⟨γ0,hR0⟩:=Rel.settles _ h hs0
      let J:sp.v.den->Act->World->Prop:=λy a' w'=>∃γ',Rel w0 M T γ' (joint s0.n sp.c sp.v x0 y) a' w'
      have key:∀(n:Nat)(y:sp.v.den),μ y=n->I y->∀a' w',J y a' w'->∀(b:Frame)(k:List Item)(cs:List Frame),
       ∃e a'' w'',Q e a'' w''/\Arrives P (lone (b.at a' (.code c:: .inLoop c::k)) cs w') b k cs e a'' w'':=by
       intro n
       induction n using Nat.strongRecOn with
       |_ n ihn=>
        intro y hμ hy' a' w' ⟨γ',hR⟩ b k cs;have hbody:=ih _ (Exit.then (λa2 w2=>∃y2,I y2/\μ y2<μ y/\J y2 a2 w2) Q) _ γ' a' w' hR (hI y hy') ?_
        .obtain⟨e,a1,w1,hq,harr⟩:=hbody b (.inLoop c::k) cs;cases e with
         |normal=>
          obtain⟨y2,hI2,hlt,hJ2⟩:=hq;obtain⟨e2,a2,w2,hq2,agS⟩:=ihn (μ y2) (hμ▸hlt) y2 rfl hI2 a1 w1 hJ2 b k cs;exact⟨e2,a2,w2,hq2,.of_steps (Steps.trans harr (.one step_inLoop)) agS⟩
         |exit id=>exact⟨_,a1,w1,hq,.pass (x:=.inLoop c) rfl (λ_ _=>.inl (by simp)) harr⟩
         |goto l=>exact⟨_,a1,w1,hq,.pass (x:=.inLoop c) rfl (λ_ _=>.inl (by simp)) harr⟩
         |ret=>exact⟨_,a1,w1,hq,.pass (x:=.inLoop c) rfl (λ_ _=>.inl (by simp)) harr⟩
         |panic ch=>exact⟨_,a1,w1,hq,.pass (x:=.inLoop c) rfl (λ_ _=>.inl (by simp)) harr⟩
         |outgrown=>exact⟨_,a1,w1,hq,.pass (x:=.inLoop c) rfl (λ_ _=>.inl (by simp)) harr⟩
        .intro e s γ2 a2 w2 hq hR2;cases e with
         |normal=>
          simp only at hq;split at hq
          .next s1 hs1=>
           split at hq
           .next x1 y1 hsn hx1 hy1=>obtain⟨rfl,hI1,hlt⟩:=hq;obtain⟨γ3,fF⟩:=Rel.settles _ hR2 hs1;have hJ:=fF.joint hx1 hy1;rw[aj3 hsn]at hJ;exact⟨y1,hI1,hlt,_,hJ⟩
           .exact hq.elim
          .exact hq.elim
         |_=>exact hQ _ _ _ _ _ hq hR2
      intro b k cs;obtain⟨e,a',w',hq,harr⟩:=key _ y0 rfl h0 a w ⟨_,hR0.joint hx hy⟩ b k cs;exact⟨e,a',w',hq,.of_steps (.one step_loop) harr⟩
     .exact ha.elim
    .exact ha.elim
   .exact ha.elim
  .exact ha.elim
 |rangeFunc f ps x y ihx ihy=>intro QA Q st γ a w h ha hQ;exact ha.elim
 |exit id=>intro QA Q st γ a w h ha hQ;exact wp_exit (hQ _ _ _ _ _ ha h)
 |scope c ih=>intro QA Q st γ a w h ha hQ;exact ha.elim
 |label l=>intro QA Q st γ a w h ha hQ;exact ha.elim
 |goto l=>intro QA Q st γ a w h ha hQ;exact ha.elim
 |ret=>intro QA Q st γ a w h ha hQ;exact wp_ret (hQ _ _ _ _ _ ha h)
 |refuse s=>intro QA Q st γ a w h ha hQ;exact ha.elim
def Arg.av:Arg->AV
 |.sv v=>.sv v
 |.kp cs=>.dA cs 0
 |.fn f caps=>.fn f caps
 |.own _ _ _|.ptr _=>.undef
def entry(n:Nat)(args:List Arg):St:=
 {n:=n,tmps:=λt=>match args[t]? with|some v=>v.av|none=>.undef,ah:=λ_=>none}
def Gt(st:St)(o:Nat):Bool:=match st.ah o with|some (.arr _ _ _ _)=>true|_=>false
def TA(Θ:fU)(st:St):ResultVar->Option SV
 |.tmp t=>match st.tmps t with|.sv v=>some v|_=>none
 |.cell t ty=>match Θ ty,st.tmps t with
  |some ti,.bW o off=>match st.ah o with
   |some (.var cs)=>jh ti cs off
   |_=>none
  |_,_=>none
def EP(Θ:fU)(st:St):List ResultVar->Option (List SV)
 |[]=>some []
 |r::rs=>match TA Θ st r,EP Θ st rs with
  |some v,some vs=>some (v::vs)
  |_,_=>none
def outOf:SV->Bool×List dn
 |.one c=>(false,[.plain c])
 |.agg cs=>(true,cs.map .plain)
def outs:List SV->List (Bool×List dn)
 |[]=>[]
 |v::vs=>outOf (v.kill λ_=>true)::outs vs
def fin(Θ:fU)(rv:List ResultVar)(st:St):Option Out:=
 match EP Θ (st.freeze (Gt st)) rv with
 |some vs=>some ⟨outs vs,none⟩
 |none=>none
theorem Gu:∀(k:Nat)(cs:List Cell),gZ k (cs.map .plain)=(cs,[])
 |_,[]=>rfl
 |k,c::cs=>by simp only[ako,gZ,Gu (k+1) cs,dn.take,akz]
theorem aaq(k:Nat)(v:SV):qy k (outOf v)=(v,[]):=by
 cases v with
 |one c=>rfl
 |agg cs=>simp only[qy,outOf,Gu]
theorem afm(v:Value)(t:TypeId)(b off:Nat)(hv:v=.pointer (some ⟨b,off,none⟩)):Instr.loadAt t v=(do loadVar t (← asAddr v)):=by subst hv;rfl
def CG(tmps:Array Value):ResultVar->Sem Value
 |.tmp t=>pure (tmps.getD t undef)
 |.cell x t=>do loadVar t (← asAddr (tmps.getD x undef))
theorem JY(fn:Func)(tmps:Array Value):results fn tmps=(do let vs ← fn.results.mapM (CG tmps);pure (if h:vs.size=1 then vs[0]else .tuple vs)):=by unfold results;congr 1
theorem YI(hΘ:∀t ti,Θ t=some ti->jk P t ti)(h:Rel w0 M T γ st a w){r:ResultVar}{v:SV}(hf:TA Θ st r=some v):
 ∃u,(CG a.tmps r).run P w=.ok u w/\bK (aj w0 T γ st w) v u:=by
 cases r with
 |tmp t=>
  simp only[TA]at hf;split at hf
  .next e=>cases hf;have:=h.tmps t;rw[e]at this;exact⟨_,rfl,this⟩
  .cases hf
 |cell x t=>
  simp only[TA]at hf;split at hf
  .next ti o off ht hx=>
   split at hf
   .next cs ho=>have hv:=h.tmps x;rw[hx]at hv;obtain⟨b,cs',_,_,hv'⟩:=hv;obtain⟨u,hu,hr⟩:=Gl hΘ h ht (x:=.tmp x) (.inl ⟨o,off,cs,hx,ho,hf⟩);refine⟨u,?_,hr⟩;rw[CG,← afm _ t b off hv'];exact hu
   .cases hf
  .cases hf
theorem ER(hΘ:∀t ti,Θ t=some ti->jk P t ti)(h:Rel w0 M T γ st a w):∀(rs:List ResultVar)(vs:List SV),EP Θ st rs=some vs->
 ∃us,(rs.mapM (CG a.tmps)).run P w=.ok us w/\
  bM (aj w0 T γ st w) vs us
 |[],vs,hf=>by cases hf;exact⟨[],rfl,trivial⟩
 |r::rs,vs,hf=>by
  rw[EP]at hf;split at hf
  .next v vs' h1 h2=>cases hf;obtain⟨u,hu,hr⟩:=YI hΘ h h1;obtain⟨us,hus,hrs⟩:=ER hΘ h rs vs' h2;refine⟨u::us,?_,hr,hrs⟩;rw[amZ,akl,hu];simp only[akQ,akl,hus,akY]
  .cases hf
theorem bM.length{X:V}:∀(cs:List SV)(vs:List Value),bM X cs vs->vs.length=cs.length
 |[],[],_=>rfl
 |_::cs,_::vs,⟨_,h⟩=>by simp[bM.length cs vs h]
 |[],_::_,H|_::_,[],H=>by cases H
theorem bM.get{X:V}:∀(cs:List SV)(vs:List Value)(i:Nat)(c:SV),bM X cs vs->cs[i]? =some c->∃v,vs[i]? =some v/\bK X c v
 |[],_,_,_,_,h=>by simp at h
 |c::cs,v::vs,0,d,⟨h1,_⟩,h=>by simp at h;subst h;exact⟨v,rfl,h1⟩
 |c::cs,v::vs,i+1,d,⟨_,h2⟩,h=>by
  obtain⟨u,hu,hr⟩:=bM.get cs vs i d h2 (by simpa using h);exact⟨u,by simpa using hu,hr⟩
 |_::_,[],_,_,H,_=>by cases H
theorem kN.length{X:V}:∀(cs:List Arg)(vs:List Value),kN X cs vs->vs.length=cs.length
 |[],[],_=>rfl
 |_::cs,_::vs,⟨_,h⟩=>by simp[kN.length cs vs h]
 |[],_::_,H|_::_,[],H=>by cases H
theorem kN.get{X:V}:∀(cs:List Arg)(vs:List Value)(i:Nat)(c:Arg),kN X cs vs->cs[i]? =some c->∃v,vs[i]? =some v/\lg X c v
 |[],_,_,_,_,h=>by simp at h
 |c::cs,v::vs,0,d,⟨h1,_⟩,h=>by simp at h;subst h;exact⟨v,rfl,h1⟩
 |c::cs,v::vs,i+1,d,⟨_,h2⟩,h=>by
  obtain⟨u,hu,hr⟩:=kN.get cs vs i d h2 (by simpa using h);exact⟨u,by simpa using hu,hr⟩
 |_::_,[],_,_,H,_=>by cases H
theorem lg.av{X:V}:∀(c:Arg)(v:Value),lg X c v->aN X c.av v
 |.sv _,_,h|.kp _,_,h|.fn _ _,_,h=>h
 |.own _ _ _,_,h|.ptr _,_,h=>h.elim
theorem acW{args:List Arg}{vs:Array Value}{S:Nat->Prop}(n:Nat)(hn:args.length<=n)
 (h:kN ⟨w,w.heap.size,S,λ_=>undef,λ_=>none⟩ args vs.toList):
 Rel w (λ_=>False) ⟨S,λ_=>none,λ_ _ h=>by cases h⟩ (λ_=>undef) (entry n args) {tmps:=vs++Array.replicate (n-vs.size) undef,defers:=[]} w:=by
 have hl:vs.size=args.length:=by simpa using kN.length _ _ h
 refine⟨λ_ h=>h.elim,rfl,?_,rfl,rfl,rfl,aj8 _,λ_ _ _=>rfl,λt=>?_,(λo x hx=>by cases hx),(λo x b hx=>by cases hx),(λo x p y b hx=>by cases hx),(λo v cs hN=>by cases hN)⟩
 .simp[entry];omega
 .simp only[entry];cases ha:args[t]? with
  |none=>trivial
  |some v=>
   obtain⟨u,hu,hr⟩:=kN.get _ _ t v h ha;have:(vs++Array.replicate (n-vs.size) undef).getD t undef=u:=by
    have hlt:t<args.length:=by
     rcases aks t args.length with h'|h'
     .exact h'
     .rw[alj h']at ha;cases ha
    have hlt':t<vs.size:=by omega
    rw[alM,alQ hlt'];have:vs[t]? =some u:=by simpa using hu
    rw[this];rfl
   rw[this];exact lg.av v u hr
end Go.Fw
namespace Go.Fw
def codeOf(fn:Func):Code:=match fn.body with|some c=>c|none=>.skip
def TB:List (Nat×TI)->fU
 |[],_=>none
 |(t,x)::r,i=>match Nat.beq i t with|true=>some x|false=>TB r i
def DJ:List (Nat×Dl)->iT
 |[],_=>none
 |(t,x)::r,i=>match Nat.beq i t with|true=>some x|false=>DJ r i
def abO:List (Nat×BA)->Nat->Option BA
 |[],_=>none
 |(t,x)::r,i=>match Nat.beq i t with|true=>some x|false=>abO r i
def aeR:List (Nat×List Pre)->Nat->List Pre
 |[],_=>[]
 |(n,z)::r,i=>match Nat.beq i n with|true=>z|false=>aeR r i
def hints(own:List Nat)(l c:List (Nat×BA))(u:List Nat)(z:List (Nat×List Pre)):Hints:=⟨aH own,abO l,abO c,u,aeR z⟩
end Go.Fw
namespace Go.Fw
open Go
variable {P:Program} {Θ:fU} {Γ:iT}
inductive lM where
 |one (c:dX)
 |agg (l:List dX)
@[reducible] def lM.den:lM->Type
  |.one c=>c.den
  |.agg l=>jr l
def lM.val:(s:lM)->s.den->SV
 |.one c,x=>.one (c.cell x)
 |.agg l,x=>.agg (eH l x)
def lM.read:(s:lM)->SV->Option s.den
 |.one c,.one x=>c.read x
 |.agg l,.agg xs=>ig l xs
 |_,_=>none
theorem lM.weak{X:V}(s:lM)(x:SV)(d:s.den)(v:Value)(hr:s.read x=some d)(hv:bK X x v):bK X (s.val d) v:=by
 unfold lM.read at hr;split at hr
 .exact dX.weak _ _ _ _ hr hv
 .obtain⟨vs,e,h⟩:=hv;exact⟨vs,e,yC _ _ _ _ hr h⟩
 .cases hr
@[reducible] def kR:List lM->Type
  |[]=>Unit
  |s::r=>s.den×kR r
def nD:(l:List lM)->kR l->List SV
 |[],_=>[]
 |s::r,x=>s.val x.1::nD r x.2
def IJ:(l:List lM)->List SV->Option (kR l)
 |[],[]=>some ()
 |s::r,x::xs=>match s.read x,IJ r xs with
  |some a,some b=>some (a,b)
  |_,_=>none
 |_,_=>none
theorem acX{X:V}:∀(l:List lM)(xs:List SV)(d:kR l)(vs:List Value),IJ l xs=some d->bM X xs vs->bM X (nD l d) vs
 |[],[],_,_,_,hv=>hv
 |s::r,x::xs,d,vs,hr,hv=>by
  rw[IJ]at hr;split at hr
  .next a b h1 h2=>
   cases hr;cases vs with
   |nil=>cases hv
   |cons v vs=>exact⟨lM.weak s x a v h1 hv.1,acX r xs b vs h2 hv.2⟩
  .cases hr
 |[],_::_,_,_,hr,_=>by simp[IJ]at hr
 |_::_,[],_,_,hr,_=>by simp[IJ]at hr
mutual
def CT.nS:(c:CT)->c.den->Prop
 |.int k,(n:Int)=>k.min<=n/\n<=k.max
 |.bool,_=>True
 |.str,(s:Bytes)=>s.length<=maxLen
 |.sl _ r,(l:List r.den)=>l.length<=maxLen/\∀x∈l,r.nS x
def au.nS:(r:au)->r.den->Prop
 |.nil,_=>True
 |.cons c r,x=>c.nS x.1/\r.nS x.2
end
mutual
theorem dG.nS{h:Array Obj}{S:Nat->Prop}:∀(c:CT)(v:Value)(x:c.den),dG h S c v x->c.nS x
 |.int k,v,(n:Int),H=>by rw[dG]at H;rw[CT.nS];exact H.2
 |.bool,v,(b:Bool),H=>by rw[CT.nS];trivial
 |.str,v,(s:Bytes),H=>by rw[dG]at H;rw[CT.nS];exact H.2
 |.sl e r,v,(l:List r.den),H=>by
  rw[dG]at H;rw[CT.nS];refine⟨H.1,λx hx=>?_⟩;obtain⟨i,hi,rfl⟩:=alk.1 hx;rcases H.2 with⟨hnil,_⟩|⟨b,off,cap,cs,t,fz,_,_,_,_,hr⟩
  .subst hnil;simp at hi
  .exact aK.nS r _ _ (hr i _ (akd hi))
theorem aK.nS{h:Array Obj}{S:Nat->Prop}:∀(r:au)(vs:List Value)(x:r.den),aK h S r vs x->r.nS x
 |.nil,vs,_,H=>by rw[au.nS];trivial
 |.cons c r,vs,(x,y),H=>by rw[aK]at H;obtain⟨v,vs',_,h1,h2⟩:=H;rw[au.nS];exact⟨dG.nS c v x h1,aK.nS r vs' y h2⟩
end
def dX.nS:(c:dX)->c.den->Prop
 |.int k,(n:Int)=>k.min<=n/\n<=k.max
 |.str,(s:Bytes)=>s.length<=maxLen
 |.sl _ r _,(l:List r.den)=>l.length<=maxLen/\∀x∈l,r.nS x
 |_,_=>True
def O5:(l:List dX)->jr l->Prop
 |[],_=>True
 |c::r,x=>c.nS x.1/\O5 r x.2
def lM.nS:(s:lM)->s.den->Prop
 |.one c,x=>c.nS x
 |.agg l,x=>O5 l x
theorem dX.O6{X:V}(c:dX)(x:c.den)(v:Value)(h:aJ X (c.cell x) v):c.nS x:=by
 cases c with
 |int k=>exact h.2
 |str=>exact h.2
 |sl e r fr=>
  have h':dG X.w.heap (X.bF fr) (.sl e r) v x:=h;have:=dG.nS (.sl e r) v x h';rw[CT.nS]at this;exact this
 |_=>trivial
theorem CJ{X:V}:∀(l:List dX)(x:jr l)(vs:List Value),ai X (eH l x) vs->O5 l x
 |[],_,_,_=>trivial
 |c::r,x,v::vs,h=>⟨dX.O6 c x.1 v h.1,CJ r x.2 vs h.2⟩
 |_::_,_,[],h=>by cases h
inductive fB where
 |v (s:lM)
 |kp (l:List dX)
 |fn (f:FuncId) (l:List (List dX))
@[reducible] def fB.den:fB->Type
  |.v s=>s.den
  |.kp l=>jr l
  |.fn _ l=>vH l
def fB.val:(s:fB)->s.den->Arg
 |.v s,x=>.sv (s.val x)
 |.kp l,x=>.kp (eH l x)
 |.fn f l,x=>.fn f (Cm l x)
def fB.read:(s:fB)->Arg->Option s.den
 |.v s,.sv x=>s.read x
 |.kp l,.kp xs=>ig l xs
 |.fn f l,.fn g xs=>match Nat.beq f g with|true=>zi l xs|false=>none
 |_,_=>none
theorem fB.weak{X:V}(s:fB)(x:Arg)(d:s.den)(v:Value)(hr:s.read x=some d)(hv:lg X x v):lg X (s.val d) v:=by
 unfold fB.read at hr;split at hr
 .exact lM.weak _ _ _ _ hr hv
 .obtain⟨b,e,hk⟩:=hv;exact⟨b,e,WM hr hk⟩
 .split at hr
  .next hb=>obtain⟨us,e,hk⟩:=hv;rw[fB.val,aj3 hb];exact⟨us,e,Nz _ _ _ _ hr hk⟩
  .cases hr
 .cases hr
@[reducible] def gW:List fB->Type
  |[]=>Unit
  |s::r=>s.den×gW r
def pU:(l:List fB)->gW l->List Arg
 |[],_=>[]
 |s::r,x=>s.val x.1::pU r x.2
def Ag:(l:List fB)->List Arg->Option (gW l)
 |[],[]=>some ()
 |s::r,x::xs=>match s.read x,Ag r xs with
  |some a,some b=>some (a,b)
  |_,_=>none
 |_,_=>none
theorem Ah{X:V}:∀(l:List fB)(xs:List Arg)(d:gW l)(vs:List Value),Ag l xs=some d->kN X xs vs->kN X (pU l d) vs
 |[],[],_,_,_,hv=>hv
 |s::r,x::xs,d,vs,hr,hv=>by
  rw[Ag]at hr;split at hr
  .next a b h1 h2=>
   cases hr;cases vs with
   |nil=>cases hv
   |cons v vs=>exact⟨fB.weak s x a v h1 hv.1,Ah r xs b vs h2 hv.2⟩
  .cases hr
 |[],_::_,_,_,hr,_=>by simp[Ag]at hr
 |_::_,[],_,_,hr,_=>by simp[Ag]at hr
theorem Lu:∀(l:List fB)(d:gW l),(pU l d).length=l.length
 |[],_=>rfl
 |_::r,d=>by simp[pU,Lu r d.2]
def Vx:(l:List (List dX))->vH l->Prop
 |[],_=>True
 |c::r,x=>O5 c x.1/\Vx r x.2
def fB.nS:(s:fB)->s.den->Prop
 |.v s,x=>s.nS x
 |.kp l,x=>O5 l x
 |.fn _ l,x=>Vx l x
def DU:(l:List fB)->gW l->Prop
 |[],_=>True
 |s::r,x=>s.nS x.1/\DU r x.2
theorem Qk{X:V}:∀(l:List (List dX))(x:vH l)(us:List Value),cO X (Cm l x) us->Vx l x
 |[],_,_,_=>trivial
 |c::r,x,u::us,h=>by
  obtain⟨⟨b,hu,arr,t,fz,hf,hh,hc⟩,h2⟩:=h;exact⟨CJ c x.1 _ hc,Qk r x.2 us h2⟩
 |_::_,_,[],h=>by cases h
theorem wJ{X:V}:∀(l:List fB)(x:gW l)(vs:List Value),kN X (pU l x) vs->DU l x
 |[],_,_,_=>trivial
 |.v (.one c)::r,x,v::vs,h=>⟨dX.O6 c x.1 v h.1,wJ r x.2 vs h.2⟩
 |.v (.agg l)::r,x,v::vs,h=>by
  obtain⟨ws,hv,hc⟩:=h.1;exact⟨CJ l x.1 _ hc,wJ r x.2 vs h.2⟩
 |.kp l::r,x,v::vs,h=>by
  obtain⟨b,hu,arr,t,fz,hf,hh,hc⟩:=h.1;exact⟨CJ l x.1 _ hc,wJ r x.2 vs h.2⟩
 |.fn f l::r,x,v::vs,h=>by
  obtain⟨us,hv,hk⟩:=h.1;exact⟨Qk l x.1 _ hk,wJ r x.2 vs h.2⟩
 |_::_,_,[],h=>by cases h
def rP(sh:List fB)(F:gW sh->Prop×Out):BZ:=λargs=>
 match Ag sh args with
 |some x=>some (F x)
 |none=>none
def uz:List SV->List (Bool×List dn)
 |[]=>[]
 |v::vs=>outOf v::uz vs
theorem IK:∀(k:Nat)(vs:List SV),eY k (uz vs)=(vs,[])
 |_,[]=>rfl
 |k,v::vs=>by simp only[uz,eY,aaq,IK,akz]
def TD(Θ:fU)(rv:List ResultVar)(bG:List lM)(K:kR bG->Prop)(e:Exit)(st:St):Prop:=
 match e with
 |.normal|.ret=>match EP Θ (st.freeze (Gt st)) rv with
  |some vs=>match IJ bG (vs.map (SV.kill λ_=>true))with
   |some d=>K d
   |none=>False
  |none=>False
 |_=>False
theorem afn{G:iC}(hE:EnvB P G Θ Γ)(hm:P.follows .mixedOrders=true){f:FuncId}{fn:Func}{c:Code}(hf:P.funcs[f]? =some fn)(hb:fn.body=some c)(H:Hints){con:BZ}{bG:List lM}
 (hwalk:∀args p out,con args=some (p,out)->p->Nat.ble args.length fn.ntmps=true/\∃d:kR bG,out=⟨uz (nD bG d),none⟩/\Af Θ Γ H c (TD Θ fn.results.toList bG λy=>y=d) (entry fn.ntmps args)):fZ P G f con:=by
 intro args p out k S vs w hcon hp hG hrep;obtain⟨hn,d,hout,hw⟩:=hwalk args p out hcon hp;subst hout;have hn':args.length<=fn.ntmps:=by simpa[al8]using hn
 refine calls_of_wp hf hb (NG ⟨hE,hG,λb hb=>hb.elim⟩ hm H c _ _ _ _ _ _ (acW (S:=S) fn.ntmps hn' hrep) hw ?_);have hret:∀s γ' a' w',TD Θ fn.results.toList bG (λy=>y=d) .ret s->Rel w (λ_=>False) ⟨S,λ_=>none,λ_ _ h=>by cases h⟩ γ' s a' w'->bodyPost P fn (λe w'=>∃v vals,e=.returned v/\w'.os=w.os/\w'.tape=w.tape/\w'.output=w.output/\w.heap.size<=w'.heap.size/\
  (∀b,b<w.heap.size->w'.heap[b]? =w.heap[b]?)/\
  aN ⟨w',w.heap.size,S,vals,look (Out.take k ⟨uz (nD bG d),none⟩).2⟩ (Out.take k ⟨uz (nD bG d),none⟩).1 v/\
  (∀o x,look (Out.take k ⟨uz (nD bG d),none⟩).2 o=some x->aS ⟨w',w.heap.size,S,vals,look (Out.take k ⟨uz (nD bG d),none⟩).2⟩ o x/\∀b,blk (vals o)=some b->w.heap.size<=b/\b<w'.heap.size)/\
  (∀o x q y b,look (Out.take k ⟨uz (nD bG d),none⟩).2 o=some x->look (Out.take k ⟨uz (nD bG d),none⟩).2 q=some y->o≠q->blk (vals o)=some b->blk (vals q)≠some b)) .ret a' w':=by
  intro s γ' a' w' he hR;refine⟨hR.defers,?_⟩;simp only[TD]at he;split at he
  .next YJ hvs=>
   split at he
   .next y hy=>
    subst he;have WO:=hR.freeze (Gt s);obtain⟨us,hus,hrs⟩:=ER hE.types WO _ _ hvs;have hk0:=bM.kill (λ_=>true) WO YJ us hrs;have hk:=acX bG _ y us hy hk0;have htake:Out.take k ⟨uz (nD bG y),none⟩=(match nD bG y with|[v]=>.sv v|l=>.jH l,[]):=by unfold Out.take;simp only[IK];rcases nD bG y with _|⟨v,_|⟨v2,r⟩⟩<;>rfl
    have hmap:(fn.results.mapM (CG a'.tmps)).run P w'=.ok us.toArray w':=by rw[amg,Sem.run_map,hus];rfl
    refine⟨if h:us.toArray.size=1 then us.toArray[0]else .tuple us.toArray,?_,_,γ',rfl,hR.os,hR.tape,hR.output,hR.grow,λb hb=>hR.kept b hb (λh=>h),?_,?_,?_⟩
    .rw[JY,akl,hmap];simp only[akQ,akY]
    .rw[htake];have hl:=bM.length _ _ hk
     match hm:nD bG y,us,hk,hl with
     |[v],[u],hk,_=>exact hk.1
     |[],[],hk,_=>exact⟨_,by simp,hk⟩
     |v::v2::r,u::u2::us,hk,hl=>exact⟨_,by simp,hk⟩
     |[],_::_,hk,h4|_::_,[],hk,h4|[_],_::_::_,hk,h4|_::_::_,[_],hk,h4=>simp at h4
    .intro o x hx;rw[htake]at hx;cases hx
    .intro o x q y b hx;rw[htake]at hx;cases hx
   .exact he.elim
  .exact he.elim
 intro e s γ' a' w' he hR;cases e with
 |normal=>exact hret s γ' a' w' he hR
 |ret=>exact hret s γ' a' w' he hR
 |_=>exact he.elim
def iE(sh:List fB)(bG:List lM)(F:gW sh->Prop×kR bG):BZ:=rP sh λx=>((F x).1,⟨uz (nD bG (F x).2),none⟩)
theorem Vy{G:iC}(hE:EnvB P G Θ Γ)(hm:P.follows .mixedOrders=true){f:FuncId}{fn:Func}{c:Code}(hf:P.funcs[f]? =some fn)(hb:fn.body=some c)(H:Hints)
 {sh:List fB} {bG:List lM} {F:gW sh->Prop×kR bG} (hn:Nat.ble sh.length fn.ntmps=true)
 (hwalk:∀x,DU sh x->(F x).1->Af Θ Γ H c (TD Θ fn.results.toList bG λy=>y=(F x).2) (entry fn.ntmps (pU sh x))):fZ P G f (iE sh bG F):=by
 have base:∀x,DU sh x->fZ P G f (λargs=>@ite _ (args=pU sh x) (Classical.propDecidable _) (some ((F x).1,⟨uz (nD bG (F x).2),none⟩)) none):=by
  intro x hin;refine afn (bG:=bG) hE hm hf hb H ?_;intro args p out hcon hp;split at hcon
  .next e=>
   have hF:((F x).1,(⟨uz (nD bG (F x).2),none⟩:Out))=(p,out):=by simpa using hcon
   have h1:(F x).1=p:=congrArg Prod.fst hF;have h2:(⟨uz (nD bG (F x).2),none⟩:Out)=out:=congrArg Prod.snd hF;have:=hwalk x hin (by rw[h1];exact hp);rw[e];exact⟨by rw[Lu];exact hn,(F x).2,h2.symm,this⟩
  .cases hcon
 intro args p out k S vs w hcon hp hG hrep;unfold iE rP at hcon;split at hcon
 .next x hx=>have hv:=Ah sh args x vs.toList hx hrep;exact base x (wJ sh x _ hv) (pU sh x) p out k S vs w (by simp only[if_true];exact hcon) hp hG hv
 .cases hcon
inductive RC where
 |c (s:dX)
 |own (e:TypeId) (r:au) (fr:Bool)
@[reducible] def RC.den:RC->Type
  |.c s=>s.den
  |.own _ r _=>List r.den
@[reducible] def TF:List RC->Type
  |[]=>Unit
  |c::r=>c.den×TF r
def RC.abP:(c:RC)->c.den->dn
 |.c s,x=>.plain (s.cell x)
 |.own e r fr,l=>.own e r l fr
def Vz:(l:List RC)->TF l->List dn
 |[],_=>[]
 |c::r,x=>c.abP x.1::Vz r x.2
inductive ou where
 |one (c:RC)
 |agg (l:List RC)
@[reducible] def ou.den:ou->Type
  |.one c=>c.den
  |.agg l=>TF l
@[reducible] def oI:List ou->Type
  |[]=>Unit
  |s::r=>s.den×oI r
def ou.out:(s:ou)->s.den->Bool×List dn
 |.one c,x=>(false,[c.abP x])
 |.agg l,x=>(true,Vz l x)
def fO:(l:List ou)->oI l->List (Bool×List dn)
 |[],_=>[]
 |s::r,x=>s.out x.1::fO r x.2
def RC.name:RC->Cell->Option Nat
 |.own _ _ _,.ref o=>some o
 |_,_=>none
def VA:List RC->List Cell->List (Option Nat)
 |c::r,x::xs=>c.name x::VA r xs
 |_,_=>[]
def ou.names:ou->SV->List (Option Nat)
 |.one c,.one x=>[c.name x]
 |.agg l,.agg xs=>VA l xs
 |_,_=>[]
def vI:List ou->List SV->List (Option Nat)
 |s::r,x::xs=>s.names x++vI r xs
 |_,_=>[]
def RC.read(st:St):(c:RC)->Cell->Option c.den
 |.c s,x=>match x.refs with|[]=>s.read x|_=>none
 |.own e r fr,.ref o=>match st.ah o with
  |some (.arr f s l g)=>match Nat.beq e f&&EO fr g with
   |true=>if h:s.beq r=true then some (o9 h l)else none
   |false=>none
  |_=>none
 |.own _ r _,.nil=>match Nat.ble 1 r.len with|true=>some []|false=>none
 |_,_=>none
def IL(st:St):(l:List RC)->List Cell->Option (TF l)
 |[],[]=>some ()
 |c::r,x::xs=>match c.read st x,IL st r xs with
  |some a,some b=>some (a,b)
  |_,_=>none
 |_,_=>none
def ou.read(st:St):(s:ou)->SV->Option s.den
 |.one c,.one x=>c.read st x
 |.agg l,.agg xs=>IL st l xs
 |_,_=>none
def wK(st:St):(l:List ou)->List SV->Option (oI l)
 |[],[]=>some ()
 |s::r,x::xs=>match s.read st x,wK st r xs with
  |some a,some b=>some (a,b)
  |_,_=>none
 |_,_=>none
inductive gm where
 |p (s:fB)
 |own (e:TypeId) (r:au)
 |ptr (l:List dX)
@[reducible] def gm.den:gm->Type
  |.p s=>s.den
  |.own _ r=>List r.den
  |.ptr l=>jr l
def gm.mode:gm->Mode
 |.p _=>.val
 |.own _ _=>.own
 |.ptr _=>.ptr
def gm.val:(s:gm)->s.den->Arg
 |.p s,x=>s.val x
 |.own e r,l=>.own e r l
 |.ptr l,x=>.ptr (eH l x)
def gm.read:(s:gm)->Arg->Option s.den
 |.p s,x=>s.read x
 |.own e r,.own f s l=>match Nat.beq e f with
  |true=>if h:s.beq r=true then some (o9 h l)else none
  |false=>none
 |.ptr l,.ptr cs=>ig l cs
 |_,_=>none
@[reducible] def iU:List gm->Type
  |[]=>Unit
  |s::r=>s.den×iU r
def oG:(l:List gm)->iU l->List Arg
 |[],_=>[]
 |s::r,x=>s.val x.1::oG r x.2
def jb:(l:List gm)->List Arg->Option (iU l)
 |[],[]=>some ()
 |s::r,x::xs=>match s.read x,jb r xs with
  |some a,some b=>some (a,b)
  |_,_=>none
 |_,_=>none
@[reducible] def nJ:List gm->Type
  |[]=>Unit
  |.ptr l::r=>jr l×nJ r
  |.p _::r|.own _ _::r=>nJ r
def jc:(l:List gm)->nJ l->List Eff
 |[],_=>[]
 |.ptr l::r,x=>.var (eH l x.1)::jc r x.2
 |.p _::r,x|.own _ _::r,x=>.lose::jc r x
def CO(st:St):(i:Nat)->(l:List gm)->Option (nJ l)
 |_,[]=>some ()
 |i,.ptr l::r=>match st.ah (i*64+48),CO st (i+1) r with
  |some (.var cs),some b=>match cs.flatMap Cell.refs,ig l cs with
   |[],some a=>some (a,b)
   |_,_=>none
  |_,_=>none
 |i,.p _::r|i,.own _ _::r=>CO st (i+1) r
def Arg.avX(i:Nat):Arg->AV
 |.own _ _ _=>.sv (.one (.ref (i*64+49)))
 |.ptr _=>.bW (i*64+48) 0
 |a=>a.av
def yE(n:Nat)(args:List Arg):St:=
 {n:=n,tmps:=λt=>match args[t]? with|some v=>v.avX t|none=>.undef,ah:=bZ args}
def TG(st:St)(W:List (Option Nat))(o:Nat):Bool:=Gt st o&&!(MX o W)
def XW(Θ:fU)(rv:List ResultVar)(sh:List gm)(bG:List ou)(K:oI bG×nJ sh->Prop)(e:Exit)(st:St):Prop:=
 match e with
 |.normal|.ret=>match EP Θ st rv with
  |some YJ=>match EP Θ (st.freeze (TG st (vI bG YJ))) rv with
   |some vs=>match sJ (vI bG vs),wK (st.freeze (TG st (vI bG YJ))) bG vs,CO (st.freeze (TG st (vI bG YJ))) 0 sh with
    |true,some d,some b=>K (d,b)
    |_,_,_=>False
   |none=>False
  |none=>False
 |_=>False
def xX(sh:List gm)(bG:List ou)(F:iU sh->Prop×(oI bG×nJ sh->Prop)):G7:=λargs=>
 match jb sh args with
 |some x=>some ((F x).1,⟨oI bG×nJ sh,(F x).2,λt=>⟨fO bG t.1,none⟩,λt=>jc sh t.2⟩)
 |none=>none
def Ir(sh:List gm):List Mode:=sh.map gm.mode
end Go.Fw
namespace Go.Fw
open Go
variable {P:Program} {w0:World} {M:Nat->Prop} {T:Ext} {γ γ':Nat->Value} {st:St} {a:Act} {w w':World} {Θ:fU} {Γ:iT}
def VB(args:List Arg)(γ:Nat->Value)(o:Nat):Option Value:=match bZ args o with|some (.var _)=>some (γ o)|_=>none
theorem adY{args:List Arg}{o:Nat}{cs:List Cell}(h:bZ args o=some (.var cs)):o%64=48:=by
 unfold bZ at h;split at h
 .split at h<;>cases h
 .split at h
  .next hm=>exact aj3 hm
  .cases h
 .cases h
def NH(args:List Arg)(γ:Nat->Value)(S:Nat->Prop):Ext where
 S:=λb=>S b\/uo (bZ args) γ b
 N:=VB args γ
 n48:=by
  intro p v h;unfold VB at h;split at h
  .next cs hc=>exact adY hc
  .cases h
theorem rO.get{X:V}:∀(as:List Arg)(vs:List Value)(i:Nat),rO X i as vs->as.length=vs.length/\∀(j:Nat)(b:Arg),as[j]? =some b->∃v,vs[j]? =some v/\EI X (i+j) b v
 |[],[],_,_=>⟨rfl,λj b h=>by simp at h⟩
 |x::as,v::vs,i,⟨h1,h2⟩=>by
  obtain⟨g1,g2⟩:=rO.get as vs (i+1) h2;refine⟨by simp[g1],λj b hb=>?_⟩;cases j with
  |zero=>simp at hb;subst hb;exact⟨v,rfl,h1⟩
  |succ j=>
   obtain⟨u,hu,hr⟩:=g2 j b (by simpa using hb);exact⟨u,by simpa using hu,by rw[show i+(j+1)=i+1+j by omega];exact hr⟩
 |[],_::_,_,H|_::_,[],_,H=>by cases H
theorem EI.av{X:V}(i:Nat):∀(c:Arg)(v:Value),EI X i c v->aN X (c.avX i) v
 |.own _ _ _,_,h=>h
 |.ptr _,_,h=>h
 |.sv _,_,h|.kp _,_,h|.fn _ _,_,h=>h
theorem TJ{args:List Arg}{vs:Array Value}{S:Nat->Prop}(n:Nat)(hn:args.length<=n)
 (h:rO ⟨w,w.heap.size,S,γ,bZ args⟩ 0 args vs.toList)
 (ho:∀o x,bZ args o=some x->aS ⟨w,w.heap.size,S,γ,bZ args⟩ o x/\∀b,blk (γ o)=some b->b<w.heap.size)
 (hs:∀o x q y b,bZ args o=some x->bZ args q=some y->o≠q->blk (γ o)=some b->blk (γ q)≠some b):
 Rel w (uo (bZ args) γ) (NH args γ S) γ (yE n args) {tmps:=vs++Array.replicate (n-vs.size) undef,defers:=[]} w:=by
 obtain⟨hl0,hget⟩:=rO.get _ _ 0 h;have hl:vs.size=args.length:=by simpa using hl0.symm
 have le:V.le ⟨w,w.heap.size,S,γ,bZ args⟩ ⟨w,w.heap.size,(NH args γ S).S,γ,bZ args⟩:=
  ⟨aj8 _,λb hb=>⟨⟨hb.1,λhlt=>.inl (hb.2.1 hlt),hb.2.2⟩,rfl⟩,λo cs hx=>⟨⟨cs,hx⟩,rfl⟩,λo e r l fr hx=>⟨⟨l,fr,hx⟩,rfl⟩⟩
 refine⟨λb hb=>.inr hb,rfl,?_,rfl,rfl,rfl,aj8 _,λ_ _ _=>rfl,λt=>?_,λo x hx=>aS.mono le o x (λ_ _=>rfl) rfl (ho o x hx).1,λo x b hx hb=>⟨(ho o x hx).2 b hb,.inr ⟨o,x,hx,hb⟩⟩,λo x p y b hx hy hop hb=>hs o x p y b hx hy hop hb,λo v cs hN hx=>?_⟩
 .simp[yE];omega
 .simp only[yE];cases ha:args[t]? with
  |none=>trivial
  |some v=>
   obtain⟨u,hu,hr⟩:=hget t v ha;have:(vs++Array.replicate (n-vs.size) undef).getD t undef=u:=by
    have hlt:t<args.length:=by
     rcases aks t args.length with h'|h'
     .exact h'
     .rw[alj h']at ha;cases ha
    have hlt':t<vs.size:=by omega
    rw[alM,alQ hlt'];have:vs[t]? =some u:=by simpa using hu
    rw[this];rfl
   rw[this];rw[akr]at hr;exact aN.mono le _ _ (EI.av t v u hr)
 .have hx':bZ args o=some (.var cs):=hx;have hN':VB args γ o=some v:=hN;unfold VB at hN';rw[hx']at hN';exact Option.some.inj hN'
def AW(a a':Arg):Prop:=
 (∃e r l,a=.own e r l/\a'=.own e r l)\/(∃cs cs',a=.ptr cs/\a'=.ptr cs'/\∀(X:V) vs,ai X cs vs->ai X cs' vs)\/
 ((∀(X:V) v,aN X a.av v->aN X a'.av v)/\(∀i,a.avX i=a.av)/\(∀i,a'.avX i=a'.av)/\(∀e r l,a≠ .own e r l)/\(∀cs,a≠ .ptr cs)/\(∀e r l,a'≠ .own e r l)/\(∀cs,a'≠ .ptr cs))
theorem fB.abQ{s:fB}{x:Arg}{d:s.den}(h:s.read x=some d):AW x (s.val d):=by
 refine .inr (.inr ⟨λX v hv=>?_,?_⟩)
 .have hx:lg X x v:=by
   cases x with
   |sv _|kp _|fn _ _=>exact hv
   |own _ _ _|ptr _=>cases s<;>simp[fB.read]at h
  exact lg.av _ _ (fB.weak s x d v h hx)
 .cases x<;>cases s<;>first
   |(simp[fB.read]at h;done)
   |exact⟨λ_=>rfl,λ_=>rfl,(λ_ _ _ e=>by cases e),(λ_ e=>by cases e),(λ_ _ _ e=>by cases e),(λ_ e=>by cases e)⟩
theorem gm.abQ{s:gm}{x:Arg}{d:s.den}(h:s.read x=some d):AW x (s.val d):=by
 unfold gm.read at h;split at h
 .exact fB.abQ h
 .next e r f s l=>
  split at h
  .next hb=>
   split at h
   .next hs=>cases h;have he:=aj3 hb;subst he;have hsr:=au.eq_of_beq s r hs;subst hsr;exact .inl ⟨e,s,l,rfl,rfl⟩
   .cases h
  .cases h
 .next l cs=>exact .inr (.inl ⟨cs,_,rfl,rfl,λX vs hc=>yC _ _ _ _ h hc⟩)
 .cases h
theorem DV:∀{l:List gm}{xs:List Arg}{d:iU l},jb l xs=some d->(oG l d).length=xs.length/\∀(i:Nat)(a:Arg),xs[i]? =some a->∃a',(oG l d)[i]? =some a'/\AW a a'
 |[],[],_,_=>⟨rfl,λi a h=>by simp at h⟩
 |s::r,x::xs,d,h=>by
  rw[jb]at h;split at h
  .next a b h1 h2=>
   cases h;obtain⟨g1,g2⟩:=DV h2;refine⟨by simp[oG,g1],λi c hc=>?_⟩;cases i with
   |zero=>simp at hc;subst hc;exact⟨_,rfl,gm.abQ h1⟩
   |succ i=>obtain⟨c',k1,k2⟩:=g2 i c (by simpa using hc);exact⟨c',by simpa[oG]using k1,k2⟩
  .cases h
 |[],_::_,_,h=>by simp[jb]at h
 |_::_,[],_,h=>by simp[jb]at h
theorem Gv{args:List Arg}{o:Nat}(h:∀b,args[o / 64]? =some b->(∀e r l,b≠ .own e r l)/\∀cs,b≠ .ptr cs):bZ args o=none:=by
 unfold bZ;split
 .next e r l ha=>exact((h _ ha).1 e r l rfl).elim
 .next cs ha=>exact((h _ ha).2 cs rfl).elim
 .rfl
theorem LC{sh:List gm}{args:List Arg}{x:iU sh}(h:jb sh args=some x)(n:Nat):Covers (yE n (oG sh x)) (yE n args):=by
 obtain⟨hl,hget⟩:=DV h;refine⟨rfl,λt X v hv=>?_,λo=>?_⟩
 .simp only[yE]at hv ⊢;cases ha:args[t]? with
  |none=>
   have:(oG sh x)[t]? =none:=by rw[amS]at ha ⊢;omega
   rw[this];trivial
  |some b=>
   obtain⟨b',hb',hw⟩:=hget t b ha;rw[ha]at hv;rw[hb'];dsimp only at hv ⊢;rcases hw with⟨e,r,l,rfl,rfl⟩|⟨cs,cs',rfl,rfl,_⟩|⟨hw,e1,e2,_⟩
   .exact hv
   .exact hv
   .rw[e1]at hv;rw[e2];exact hw X v hv
 .show(bZ (oG sh x) o=none/\bZ args o=none)\/∃y y',bZ args o=some y/\bZ (oG sh x) o=some y'/\Bz y y';cases ha:args[o / 64]? with
  |none=>
   have h2:(oG sh x)[o / 64]? =none:=by rw[amS]at ha ⊢;omega
   exact .inl ⟨Gv (by rw[h2];intro b hb;cases hb),Gv (by rw[ha];intro b hb;cases hb)⟩
  |some b=>
   obtain⟨b',hb',hw⟩:=hget _ b ha;rcases hw with⟨e,r,l,rfl,rfl⟩|⟨cs,cs',rfl,rfl,hc⟩|⟨_,_,_,n1,n2,n3,n4⟩
   .unfold bZ;rw[ha,hb'];dsimp only;cases hm:Nat.beq (o%64) 49 with
    |true=>exact .inr ⟨_,_,rfl,rfl,.inr ⟨e,r,l,false,false,rfl,rfl,id⟩⟩
    |false=>exact .inl ⟨rfl,rfl⟩
   .unfold bZ;rw[ha,hb'];dsimp only;cases hm:Nat.beq (o%64) 48 with
    |true=>exact .inr ⟨_,_,rfl,rfl,.inl ⟨cs,cs',rfl,rfl,hc⟩⟩
    |false=>exact .inl ⟨rfl,rfl⟩
   .exact .inl ⟨Gv (by rw[hb'];intro c hc;cases hc;exact⟨n3,n4⟩),Gv (by rw[ha];intro c hc;cases hc;exact⟨n1,n2⟩)⟩
theorem Ql(a b:List (Nat×ay))(p:Nat):look (a++b) p=match look b p with|some y=>some y|none=>look a p:=by
 induction a with
 |nil=>simp only[akP,look];cases look b p<;>rfl
 |cons x a ih=>obtain⟨o,z⟩:=x;rw[ak9,look,ih,look];cases look b p<;>rfl
theorem pz:∀(cs:List dn)(k p:Nat)(x:ay),look (gZ k cs).2 p=some x↔∃i e r l fr,p=k+i/\cs[i]? =some (.own e r l fr)/\x=.arr e r l fr
 |[],k,p,x=>by simp[gZ,look]
 |c::cs,k,p,x=>by
  rw[gZ,Ql];have ih:=pz cs (k+1) p x;constructor
  .intro h;split at h
   .next y hy=>cases h;obtain⟨i,e,r,l,fr,h1,h2,h3⟩:=(pz cs (k+1) p x).1 hy;exact⟨i+1,e,r,l,fr,by omega,by simpa using h2,h3⟩
   .next hn=>
    cases c with
    |plain c=>simp[dn.take,look]at h
    |own e r l fr=>
     simp only[dn.take,look]at h;split at h
     .next hb=>cases h;exact⟨0,e,r,l,fr,by have:=aj3 hb;omega,rfl,rfl⟩
     .cases h
  .rintro⟨i,e,r,l,fr,h1,h2,rfl⟩;cases i with
   |succ i=>
    have:=(pz cs (k+1) p (.arr e r l fr)).2 ⟨i,e,r,l,fr,by omega,by simpa using h2,rfl⟩;rw[this]
   |zero=>
    simp at h2;subst h2;have hn:look (gZ (k+1) cs).2 p=none:=by
     cases hl:look (gZ (k+1) cs).2 p with
     |none=>rfl
     |some y=>obtain⟨i,_,_,_,_,g1,_⟩:=(pz cs (k+1) p y).1 hl;omega
    rw[hn];have hp:p=k:=by omega
    subst hp;simp[dn.take,look]
def DW(rs:List (Bool×List dn)):List dn:=rs.flatMap (·.2)
theorem aar(k:Nat)(x:Bool×List dn):(qy k x).2=(gZ k x.2).2:=by
 unfold qy;split
 .next e1 e2=>rw[e2]
 .next e1 e2=>rw[e2]
 .next e1 e2=>rw[e2]
theorem ve:∀(rs:List (Bool×List dn))(k p:Nat)(x:ay),look (eY k rs).2 p=some x↔∃i e r l fr,p=k+i/\(DW rs)[i]? =some (.own e r l fr)/\x=.arr e r l fr
 |[],k,p,x=>by simp[eY,look,DW]
 |y::rs,k,p,x=>by
  rw[eY,Ql,aar];have abR:DW (y::rs)=y.2++DW rs:=rfl;constructor
  .intro h;split at h
   .next z hz=>cases h;obtain⟨i,e,r,l,fr,h1,h2,h3⟩:=(ve rs (k+y.2.length) p x).1 hz;refine⟨y.2.length+i,e,r,l,fr,by omega,?_,h3⟩;rw[abR,akH (by omega)];simpa using h2
   .obtain⟨i,e,r,l,fr,h1,h2,h3⟩:=(pz y.2 k p x).1 h;refine⟨i,e,r,l,fr,h1,?_,h3⟩;rw[abR,akU (akc.1 h2).1];exact h2
  .rintro⟨i,e,r,l,fr,h1,h2,rfl⟩;rw[abR]at h2;rcases aks i y.2.length with hlt|hge
   .rw[akU hlt]at h2;have hn:look (eY (k+y.2.length) rs).2 p=none:=by
     cases hl:look (eY (k+y.2.length) rs).2 p with
     |none=>rfl
     |some z=>obtain⟨j,_,_,_,_,g1,_⟩:=(ve rs (k+y.2.length) p z).1 hl;omega
    rw[hn];exact(pz y.2 k p _).2 ⟨i,e,r,l,fr,h1,h2,rfl⟩
   .rw[akH hge]at h2;have:=(ve rs (k+y.2.length) p (.arr e r l fr)).2 ⟨i-y.2.length,e,r,l,fr,by omega,h2,rfl⟩;rw[this]
end Go.Fw
namespace Go.Fw
open Go
set_option linter.unusedVariables false
variable {P:Program} {w0:World} {M:Nat->Prop} {T:Ext} {γ γ':Nat->Value} {st:St} {a:Act} {w w':World} {Θ:fU} {Γ:iT}
def RF(Y:V)(c:dn)(v:Value)(n:Option Nat):Prop:=
 match c with
 |.plain x=>aJ Y x v/\x.refs=[]
 |.own e r l fr=>0<r.len/\((∃o g,n=some o/\Y.ah o=some (.arr e r l g)/\EO fr g=true/\v=Y.γ o/\v.oneCell'=true)\/(l=[]/\v=.slice none 0 0))
def yF(Y:V):List dn->List Value->List (Option Nat)->Prop
 |[],[],[]=>True
 |c::cs,v::vs,n::ns=>RF Y c v n/\yF Y cs vs ns
 |_,_,_=>False
theorem yF.append{Y:V}:∀(cs:List dn)(vs:List Value)(ns:List (Option Nat))(ds:List dn)(us:List Value)(ms:List (Option Nat)),yF Y cs vs ns->yF Y ds us ms->yF Y (cs++ds) (vs++us) (ns++ms)
 |[],[],[],_,_,_,_,h=>h
 |_::cs,_::vs,_::ns,ds,us,ms,⟨h1,h2⟩,h=>⟨h1,yF.append cs vs ns ds us ms h2 h⟩
theorem yF.length{Y:V}:∀(cs:List dn)(vs:List Value)(ns:List (Option Nat)),yF Y cs vs ns->cs.length=vs.length
 |[],[],[],_=>rfl
 |_::cs,_::vs,_::ns,⟨_,h2⟩=>by simp[yF.length cs vs ns h2]
theorem yF.get{Y:V}:∀(cs:List dn)(vs:List Value)(ns:List (Option Nat))(i:Nat)(c:dn),yF Y cs vs ns->cs[i]? =some c->∃v n,vs[i]? =some v/\ns[i]? =some n/\RF Y c v n
 |[],[],[],i,c,_,h=>by simp at h
 |x::cs,v::vs,n::ns,0,c,⟨h1,_⟩,h=>by simp at h;subst h;exact⟨v,n,rfl,rfl,h1⟩
 |x::cs,v::vs,n::ns,i+1,c,⟨_,h2⟩,h=>by obtain⟨u,m,g1,g2,g3⟩:=yF.get cs vs ns i c h2 (by simpa using h);exact⟨u,m,by simpa using g1,by simpa using g2,g3⟩
theorem dX.WQ(c:dX)(x:Cell)(d:c.den)(h:c.read x=some d)(hx:x.refs=[]):(c.cell d).refs=[]:=by cases c<;>cases x<;>first|rfl|(simp[dX.read]at h;done)|(cases hx)
theorem RC.aaX{Y:V}(hst:Y.ah=st.ah)(hpos:∀o e r l g,st.ah o=some (.arr e r l g)->0<r.len):∀(c:RC)(x:Cell)(d:c.den)(v:Value),c.read st x=some d->aJ Y x v->RF Y (c.abP d) v (c.name x):=by
 intro c x d v hr hv;cases c with
 |c s=>
  rw[RC.read]at hr;split at hr
  .next hx=>exact⟨dX.weak s x d v hr hv,dX.WQ s x d hr hx⟩
  .cases hr
 |own e r fr=>
  cases x with
  |ref o=>
   simp only[RC.read]at hr;split at hr
   .next f s l g ho=>
    split at hr
    .next hb=>
     split at hr
     .next hs=>cases hr;rw[aj0]at hb;have he:=aj3 hb.1;subst he;have hsr:=au.eq_of_beq s r hs;subst hsr;exact⟨hpos _ _ _ _ _ ho,.inl ⟨o,g,rfl,by rw[hst];exact ho,hb.2,hv.2.1,hv.2.2⟩⟩
     .cases hr
    .cases hr
   .cases hr
  |nil=>
   simp only[RC.read]at hr;split at hr
   .next hb=>cases hr;exact⟨akw Nat.zero_lt_one (by simpa[al8]using hb),.inr ⟨rfl,hv⟩⟩
   .cases hr
  |_=>simp[RC.read]at hr
theorem TL{Y:V}(hst:Y.ah=st.ah)(hpos:∀o e r l g,st.ah o=some (.arr e r l g)->0<r.len):∀(l:List RC)(xs:List Cell)(d:TF l)(vs:List Value),IL st l xs=some d->ai Y xs vs->yF Y (Vz l d) vs (VA l xs)
 |[],[],_,[],_,_=>trivial
 |c::r,x::xs,d,v::vs,h,⟨h1,h2⟩=>by
  rw[IL]at h;split at h
  .next a b g1 g2=>cases h;exact⟨RC.aaX hst hpos c x a v g1 h1,TL hst hpos r xs b vs g2 h2⟩
  .cases h
 |[],_::_,_,_,h,_=>by simp[IL]at h
 |_::_,[],_,_,h,_=>by simp[IL]at h
theorem ou.YK{Y:V}(hst:Y.ah=st.ah)(hpos:∀o e r l g,st.ah o=some (.arr e r l g)->0<r.len):∀(s:ou)(x:SV)(d:s.den)(v:Value),s.read st x=some d->bK Y x v->yF Y (s.out d).2 v.cells.toList (s.names x)
 |.one c,.one x,d,v,h,hv=>by
  rw[zW v (aJ.one x v hv)];exact⟨RC.aaX hst hpos c x d v h hv,trivial⟩
 |.agg l,.agg xs,d,v,h,⟨vs,hv,hc⟩=>by
  rw[hv];exact TL hst hpos l xs d _ h hc
 |.one _,.agg _,_,_,h,_|.agg _,.one _,_,_,h,_=>by simp[ou.read]at h
theorem TM{Y:V}(hst:Y.ah=st.ah)(hpos:∀o e r l g,st.ah o=some (.arr e r l g)->0<r.len):∀(l:List ou)(xs:List SV)(d:oI l)(vs:List Value),wK st l xs=some d->bM Y xs vs->
 yF Y (DW (fO l d)) (vs.flatMap λv=>v.cells.toList) (vI l xs)
 |[],[],_,[],_,_=>trivial
 |s::r,x::xs,d,v::vs,h,⟨h1,h2⟩=>by
  rw[wK]at h;split at h
  .next a b g1 g2=>cases h;exact yF.append _ _ _ _ _ _ (ou.YK hst hpos s x a v g1 h1) (TM hst hpos r xs b vs g2 h2)
  .cases h
 |[],_::_,_,_,h,_=>by simp[wK]at h
 |_::_,[],_,_,h,_=>by simp[wK]at h
def Go1(Z:V)(k:Nat)(c:dn)(v:Value):Prop:=aJ Z (c.take k).1 v
def Bc(Z:V):Nat->List dn->List Value->Prop
 |_,[],[]=>True
 |k,c::cs,v::vs=>Go1 Z k c v/\Bc Z (k+1) cs vs
 |_,_,_=>False
theorem Bc.of{Z:V}:∀(cs:List dn)(vs:List Value)(k:Nat),cs.length=vs.length->(∀i c v,cs[i]? =some c->vs[i]? =some v->Go1 Z (k+i) c v)->Bc Z k cs vs
 |[],[],_,_,_=>trivial
 |c::cs,v::vs,k,hl,h=>⟨h 0 c v rfl rfl,Bc.of cs vs (k+1) (by simpa using hl) λi c' v' h1 h2=>by
   have:=h (i+1) c' v' (by simpa using h1) (by simpa using h2)
   rwa [show k+(i+1)=k+1+i by omega]at this⟩
theorem Bc.split{Z:V}:∀(cs:List dn)(vs:List Value)(ds:List dn)(us:List Value)(k:Nat),cs.length=vs.length->Bc Z k (cs++ds) (vs++us)->Bc Z k cs vs/\Bc Z (k+cs.length) ds us
 |[],[],_,_,_,_,h=>⟨trivial,h⟩
 |c::cs,v::vs,ds,us,k,hl,⟨h1,h2⟩=>by obtain⟨g1,g2⟩:=Bc.split cs vs ds us (k+1) (by simpa using hl) h2;exact⟨⟨h1,g1⟩,by rw[show k+(c::cs).length=k+1+cs.length by simp;omega];exact g2⟩
theorem Bc.cells{Z:V}:∀(cs:List dn)(vs:List Value)(k:Nat),Bc Z k cs vs->ai Z (gZ k cs).1 vs
 |[],[],_,_=>trivial
 |c::cs,v::vs,k,⟨h1,h2⟩=>⟨h1,Bc.cells cs vs (k+1) h2⟩
theorem ou.go{Y Z:V}:∀(s:ou)(x:SV)(d:s.den)(v:Value)(k:Nat),s.read st x=some d->bK Y x v->Bc Z k (s.out d).2 v.cells.toList->bK Z (qy k (s.out d)).1 v
 |.one c,.one x,d,v,k,h,hv,hg=>by
  rw[zW v (aJ.one x v hv)]at hg;exact hg.1
 |.agg l,.agg xs,d,v,k,h,⟨vs,hv,hc⟩,hg=>by
  rw[hv]at hg ⊢;exact⟨vs,rfl,Bc.cells _ _ _ hg⟩
 |.one _,.agg _,_,_,_,h,_,_|.agg _,.one _,_,_,_,h,_,_=>by simp[ou.read]at h
theorem WR{Y Z:V}(hst:Y.ah=st.ah)(hpos:∀o e r l g,st.ah o=some (.arr e r l g)->0<r.len):∀(l:List ou)(xs:List SV)(d:oI l)(vs:List Value)(k:Nat),wK st l xs=some d->bM Y xs vs->
 Bc Z k (DW (fO l d)) (vs.flatMap λv=>v.cells.toList)->bM Z (eY k (fO l d)).1 vs
 |[],[],_,[],_,_,_,_=>trivial
 |s::r,x::xs,d,v::vs,k,h,⟨h1,h2⟩,hg=>by
  rw[wK]at h;split at h
  .next a b g1 g2=>cases h;have hl:=yF.length _ _ _ (ou.YK hst hpos s x a v g1 h1);obtain⟨k1,k2⟩:=Bc.split _ _ _ _ k hl hg;exact⟨ou.go s x a v k g1 h1 k1,WR hst hpos r xs b vs _ g2 h2 k2⟩
  .cases h
 |[],_::_,_,_,_,h,_,_=>by simp[wK]at h
 |_::_,[],_,_,_,h,_,_=>by simp[wK]at h
theorem Qm:∀(l:List dX)(xs:List Cell)(d:jr l),ig l xs=some d->xs.flatMap Cell.refs=[]->(eH l d).flatMap Cell.refs=[]
 |[],[],_,_,_=>rfl
 |c::r,x::xs,d,h,hx=>by
  rw[ig]at h;split at h
  .next a b g1 g2=>cases h;rw[ak5,akO]at hx;show(c.cell a::eH r b).flatMap Cell.refs=[];rw[ak5,dX.WQ c x a g1 hx.1,Qm r xs b g2 hx.2,akz]
  .cases h
 |[],_::_,_,h,_=>by simp[ig]at h
 |_::_,[],_,h,_=>by simp[ig]at h
theorem DX:∀(sh:List gm)(i:Nat)(b:nJ sh),CO st i sh=some b->∀(j:Nat)(e:Eff),(jc sh b)[j]? =some e->
 e=.lose\/∃l cs cs0,sh[j]? =some (.ptr l)/\e=.var cs/\st.ah ((i+j)*64+48)=some (.var cs0)/\cs0.flatMap Cell.refs=[]/\cs.flatMap Cell.refs=[]/\∀(X:V) vs,ai X cs0 vs->ai X cs vs
 |[],_,_,_,j,e,he=>by simp[jc]at he
 |.ptr l::r,i,b,h,j,e,he=>by
  rw[CO]at h;split at h
  .next cs b' hx hb=>
   split at h
   .next a hr ha=>
    cases h;cases j with
    |zero=>
     simp[jc]at he;subst he;exact .inr ⟨l,_,cs,rfl,rfl,by simpa using hx,hr,Qm _ _ _ ha hr,λX vs hc=>yC _ _ _ _ ha hc⟩
    |succ j=>
     rcases DX r (i+1) b' hb j e (by simpa[jc]using he)with h|⟨l,cs',cs0,h1,h2,h3,h4⟩
     .exact .inl h
     .exact .inr ⟨l,cs',cs0,by simpa using h1,h2,by rw[show i+(j+1)=i+1+j by omega];exact h3,h4⟩
   .cases h
  .cases h
 |.p _::r,i,b,h,j,e,he|.own _ _::r,i,b,h,j,e,he=>by
  rw[CO]at h;cases j with
  |zero=>simp[jc]at he;exact .inl he.symm
  |succ j=>
   rcases DX r (i+1) b h j e (by simpa[jc]using he)with h|⟨l,cs',cs0,h1,h2,h3,h4⟩
   .exact .inl h
   .exact .inr ⟨l,cs',cs0,by simpa using h1,h2,by rw[show i+(j+1)=i+1+j by omega];exact h3,h4⟩
theorem TN:∀{sh:List gm}{xs:List Arg}{d:iU sh},jb sh xs=some d->∀(j:Nat)(l:List dX),sh[j]? =some (.ptr l)->∃cs,xs[j]? =some (.ptr cs)
 |[],[],_,_,j,l,h=>by simp at h
 |s::r,x::xs,d,h,j,l,hj=>by
  rw[jb]at h;split at h
  .next a b h1 h2=>
   cases j with
   |zero=>
    simp at hj;subst hj;cases x with
    |ptr cs=>exact⟨cs,rfl⟩
    |_=>simp[gm.read]at h1
   |succ j=>obtain⟨cs,hc⟩:=TN h2 j l (by simpa using hj);exact⟨cs,by simpa using hc⟩
  .cases h
 |[],_::_,_,h,_,_,_=>by simp[jb]at h
 |_::_,[],_,h,_,_,_=>by simp[jb]at h
theorem acY{sh:List gm}{b:nJ sh}(hb:CO st 0 sh=some b){q:Nat}{y:ay}(h:jo (jc sh b) q=some y):
 q%64=48/\∃l cs cs0,sh[q / 64]? =some (.ptr l)/\y=.var cs/\st.ah q=some (.var cs0)/\cs0.flatMap Cell.refs=[]/\cs.flatMap Cell.refs=[]/\∀(X:V) vs,ai X cs0 vs->ai X cs vs:=by
 unfold jo at h;split at h
 .next e r l he=>rcases DX sh 0 b hb _ _ he with h'|⟨_,_,_,_,h',_⟩<;>cases h'
 .next cs he=>
  split at h
  .next hm=>
   have hm':=aj3 hm;cases h;rcases DX sh 0 b hb _ _ he with h'|⟨l,cs',cs0,h1,h2,h3,h4⟩
   .cases h'
   .cases h2;refine⟨hm',l,_,cs0,h1,rfl,?_,h4⟩;rw[show q=(0+q / 64)*64+48 by omega];exact h3
  .cases h
 .cases h
def gm.nS:(s:gm)->s.den->Prop
 |.p s,x=>s.nS x
 |.own _ r,(l:List r.den)=>∀x∈l,r.nS x
 |.ptr l,x=>O5 l x
def DY:(l:List gm)->iU l->Prop
 |[],_=>True
 |s::r,x=>s.nS x.1/\DY r x.2
theorem fB.O6{X:V}(s:fB)(x:Arg)(d:s.den)(v:Value)(h:s.read x=some d)(hr:lg X x v):s.nS d:=
 (wJ (X:=X) [s] (d,()) [v] ⟨fB.weak s x d v h hr,trivial⟩).1
theorem NI{X:V}{args:List Arg}(ho:∀o x,bZ args o=some x->aS X o x):∀(sh:List gm)(xs:List Arg)(d:iU sh)(vs:List Value)(i:Nat),(∀j a,xs[j]? =some a->args[i+j]? =some a)->
 jb sh xs=some d->rO X i xs vs->DY sh d
 |[],[],_,_,_,_,_,_=>trivial
 |s::r,x::xs,d,v::vs,i,hj,h,⟨hv,hvs⟩=>by
  rw[jb]at h;split at h
  .next a b h1 h2=>
   cases h;refine⟨?_,NI ho r xs b vs (i+1) (λj c hc=>by have:=hj (j+1) c (by simpa using hc);rwa [show i+(j+1)=i+1+j by omega]at this) h2 hvs⟩;have hx:args[i]? =some x:=hj 0 x rfl;cases s with
   |p s=>
    have h1':s.read x=some a:=by simpa[gm.read]using h1
    refine fB.O6 (X:=X) s x a v h1' ?_;cases x with
    |own _ _ _|ptr _=>cases s<;>simp[fB.read]at h1'
    |_=>exact hv
   |own e r'=>
    cases x with
    |own f s' l=>
     have h1':(match Nat.beq e f with|true=>if h:s'.beq r'=true then some (o9 h l)else none|false=>none)=some a:=h1;split at h1'
     .split at h1'
      .next hb hs=>
       cases h1';have hsr:=au.eq_of_beq s' r' hs;subst hsr;have mG:bZ args (i*64+49)=some (.arr f s' l false):=by unfold bZ;rw[show(i*64+49) / 64=i by omega,hx];dsimp only;rw[show(i*64+49)%64=49 by omega]
       obtain⟨us,_,_,_,hrow⟩:=ho _ _ mG;intro y hy;have hy':y∈l:=hy;obtain⟨j,hj1,hj2⟩:=alk.1 hy';exact aK.nS s' _ _ (hrow j y (by rw[akd hj1,hj2]))
      .cases h1'
     .cases h1'
    |_=>simp[gm.read]at h1
   |ptr l=>
    cases x with
    |ptr cs=>
     have h1':ig l cs=some a:=h1;have mG:bZ args (i*64+48)=some (.var cs):=by unfold bZ;rw[show(i*64+48) / 64=i by omega,hx];dsimp only;rw[show(i*64+48)%64=48 by omega]
     obtain⟨_,arr,_,_,_,hc⟩:=ho _ _ mG;exact CJ l a _ (yC _ _ _ _ h1' hc)
    |_=>simp[gm.read]at h1
  .cases h
 |[],_::_,_,_,_,_,h,_=>by simp[jb]at h
 |_::_,[],_,_,_,_,h,_=>by simp[jb]at h
theorem Dp:∀(l:List gm)(d:iU l),(oG l d).length=l.length
 |[],_=>rfl
 |_::r,d=>by simp[oG,Dp r d.2]
theorem Out.adZ(rs:List (Bool×List dn))(k:Nat):((⟨rs,none⟩:Out).take k).2=(eY k rs).2:=by
 unfold Out.take;dsimp only;split
 .next h=>rw[h]
 .next h=>rw[h]
theorem Out.ad1(rs:List (Bool×List dn))(k:Nat):((⟨rs,none⟩:Out).take k).1=(match (eY k rs).1 with|[v]=>AV.sv v|vs=>.jH vs):=by
 unfold Out.take;dsimp only;split
 .next h=>rw[h]
 .next vs δ hne h=>
  rw[h];dsimp only;rcases vs with _|⟨v,_|⟨v2,r⟩⟩
  .rfl
  .exact(hne v rfl).elim
  .rfl
theorem ah8{args:List Arg}{S:Nat->Prop}{sh:List gm}{bG:List ou}{x:iU sh}(hx:jb sh args=some x){d:oI bG}{b:nJ sh}{k:Nat}{vs:List SV}{us:List Value}
 (hR:Rel w (uo (bZ args) γ) (NH args γ S) γ' st a w') (hrs:bM (aj w (NH args γ S) γ' st w') vs us) (hnd:sJ (vI bG vs)=true) (hrd:wK st bG vs=some d) (hbk:CO st 0 sh=some b)
 (hap:∀o x,look ((⟨fO bG d,none⟩:Out).take k).2 o=some x->jo (jc sh b) o=none):
 ∃γ2,aN ⟨w',w.heap.size,oC S args (jc sh b) γ,γ2,look ((⟨fO bG d,none⟩:Out).take k).2⟩ ((⟨fO bG d,none⟩:Out).take k).1 (if h:us.toArray.size=1 then us.toArray[0]else .tuple us.toArray)/\
  (∀o x,look ((⟨fO bG d,none⟩:Out).take k).2 o=some x->aS ⟨w',w.heap.size,oC S args (jc sh b) γ,γ2,look ((⟨fO bG d,none⟩:Out).take k).2⟩ o x/\
    ∀b',blk (γ2 o)=some b'->b'<w'.heap.size/\(w.heap.size<=b'\/uo (bZ args) γ b')/\∀q y,jo (jc sh b) q=some y->blk (γ q)≠some b')/\
  (∀o x q y b',look ((⟨fO bG d,none⟩:Out).take k).2 o=some x->look ((⟨fO bG d,none⟩:Out).take k).2 q=some y->o≠q->blk (γ2 o)=some b'->blk (γ2 q)≠some b')/\
  (∀o x,jo (jc sh b) o=some x->γ2 o=γ o/\aS ⟨w',w.heap.size,oC S args (jc sh b) γ,γ2,look ((⟨fO bG d,none⟩:Out).take k).2⟩ o x):=by
 rw[Out.adZ]at hap ⊢;rw[Out.ad1]
 skip
 let Y:V:=aj w (NH args γ S) γ' st w'
 let fv:List Value:=us.flatMap λv=>v.cells.toList
 let aF:=jc sh b
 let γ2:Nat->Value:=λp=>match jo aF p with|some _=>γ p|none=>fv.getD (p-k) undef
 let Z:V:=⟨w',w.heap.size,oC S args aF γ,γ2,look (eY k (fO bG d)).2⟩
 have hpos:∀o e r l g,st.ah o=some (.arr e r l g)->0<r.len:=λo e r l g ho=>by obtain⟨_,_,h,_⟩:=hR.ah o _ ho;exact h
 have hF:yF Y (DW (fO bG d)) fv (vI bG vs):=TM (st:=st) rfl hpos bG vs d us hrd hrs;have hbq:∀q y,jo aF q=some y->γ' q=γ q/\∃cs cs0,y=.var cs/\st.ah q=some (.var cs0)/\cs0.flatMap Cell.refs=[]/\cs.flatMap Cell.refs=[]/\∀(X:V) vs,ai X cs0 vs->ai X cs vs:=by
  intro q y hq;obtain⟨hm,l,cs,cs0,h1,h2,h3,h4,h5,h6⟩:=acY hbk hq;refine⟨?_,cs,cs0,h2,h3,h4,h5,h6⟩;obtain⟨ci,hci⟩:=TN hx _ l h1;have ho:bZ args q=some (.var ci):=by unfold bZ;rw[hci];dsimp only;rw[hm]
  have hN:(NH args γ S).N q=some (γ q):=by show VB args γ q=_;unfold VB;rw[ho]
  exact hR.pin q _ _ hN h3
 have hG:∀p X,look (eY k (fO bG d)).2 p=some X->∃i e r l fr,p=k+i/\(DW (fO bG d))[i]? =some (.own e r l fr)/\X=.arr e r l fr/\0<r.len/\
  ((∃o g,(vI bG vs)[i]? =some (some o)/\st.ah o=some (.arr e r l g)/\EO fr g=true/\γ2 p=γ' o/\(γ2 p).oneCell'=true)\/(l=[]/\γ2 p=.slice none 0 0)):=by
  intro p X hp;obtain⟨i,e,r,l,fr,h1,h2,h3⟩:=(ve _ k p X).1 hp;obtain⟨v,n,g1,g2,hr,hv⟩:=yF.get _ _ _ i _ hF h2;have hγ:γ2 p=v:=by show(match jo aF p with|some _=>γ p|none=>fv.getD (p-k) undef)=v;rw[hap p X hp];dsimp only;rw[h1,show k+i-k=i by omega,aj9,g1];rfl
  refine⟨i,e,r,l,fr,h1,h2,h3,hr,?_⟩;rcases hv with⟨o,g,hn,ho,hb,hv,h1c⟩|⟨hl,hv⟩
  .exact .inl ⟨o,g,by rw[g2,hn],ho,hb,hγ.trans hv,by rw[hγ];exact h1c⟩
  .exact .inr ⟨hl,hγ.trans hv⟩
 have JR:∀b',Y.foot b'->Z.foot b':=by
  intro b' hb';refine⟨hb'.1,λhlt=>⟨hb'.2.1 hlt,λq y hq=>?_⟩,λp X hp=>?_⟩
  .obtain⟨hγ,cs,cs0,_,h3,_⟩:=hbq q y hq;rw[← hγ];exact hb'.2.2 q _ h3
  .obtain⟨i,e,r,l,fr,_,_,_,_,hc⟩:=hG p X hp;show blk (γ2 p)≠some b';rcases hc with⟨o,g,_,ho,_,hγ,_⟩|⟨_,hγ⟩
   .rw[hγ];exact hb'.2.2 o _ ho
   .rw[hγ];intro h;cases h
 have acZ:∀fr b',Y.bF fr b'->Z.bF fr b':=λfr b' h=>⟨JR b' h.1,h.2⟩;have hgo:Bc Z k (DW (fO bG d)) fv:=by
  refine Bc.of _ _ _ (yF.length _ _ _ hF) λi c v hc hv=>?_;obtain⟨v',n,g1,g2,g3⟩:=yF.get _ _ _ i c hF hc;rw[hv]at g1;cases g1;cases c with
  |plain x=>
   exact(zh (Y:=Y) (Z:=Z) rfl acZ [x] [v] (by simpa using g3.2) ⟨g3.1,trivial⟩).1
  |own e r l fr=>
   have hp:look (eY k (fO bG d)).2 (k+i)=some (.arr e r l fr):=(ve _ k _ _).2 ⟨i,e,r,l,fr,rfl,hc,rfl⟩;have hγ:γ2 (k+i)=v:=by show(match jo aF (k+i)with|some _=>γ (k+i)|none=>fv.getD (k+i-k) undef)=v;rw[hap _ _ hp];dsimp only;rw[show k+i-k=i by omega,aj9,hv];rfl
   refine⟨⟨e,r,l,fr,hp⟩,hγ.symm,?_⟩;rcases g3.2 with⟨_,_,_,_,_,_,h⟩|⟨_,h⟩
   .exact h
   .rw[h];rfl
 have hsv:bM Z (eY k (fO bG d)).1 us:=WR (st:=st) (Y:=Y) rfl hpos bG vs d us k hrd hrs hgo;refine⟨γ2,?_,λp X hp=>?_,λp X q X' b' hp hq hne hb1 hb2=>?_,λq y hq=>?_⟩
 .have hl:=bM.length _ _ hsv
  match hm:(eY k (fO bG d)).1,us,hsv,hl with
  |[v],[u],hk,_=>exact hk.1
  |[],[],hk,_=>exact⟨_,by simp,hk⟩
  |v::v2::r,u::u2::us,hk,hl=>exact⟨_,by simp,hk⟩
  |[],_::_,hk,h4|_::_,[],hk,h4|[_],_::_::_,hk,h4|_::_::_,[_],hk,h4=>simp at h4
 .obtain⟨i,e,r,l,fr,_,_,rfl,hr,hc⟩:=hG p X hp;rcases hc with⟨o,g,_,ho,hb,hγ,_⟩|⟨rfl,hγ⟩
  .have hO:aS Y o (.arr e r l g):=hR.ah o _ ho;have hold:∀b',blk (γ' o)=some b'->fr=true->w.heap.size<=b':=by intro b' hb' hfr;subst hfr;have hg:g=true:=hb;subst hg;obtain⟨_,_,_,hn,_⟩:=hO;exact hn b' hb' rfl
   refine⟨aS.O1 (Y:=Y) (Z:=Z) hO hγ rfl (λb' hb'=>⟨JR b' hb'.1,λhfr=>hb'.2 ?_⟩) hold,λb' hb'=>?_⟩
   .subst hfr;exact hb
   .rw[hγ]at hb';obtain⟨h1,h2⟩:=hR.lt o _ b' ho hb';refine⟨h1,h2,λq y hq=>?_⟩;obtain⟨hγq,cs,cs0,_,h3,_⟩:=hbq q y hq;rw[← hγq];refine hR.sep o _ q _ b' ho h3 ?_ hb';intro e;subst e;rw[ho]at h3;cases h3
  .refine⟨⟨[],⟨by simp,.inl ⟨hγ,rfl⟩⟩,hr,(λb' hb'=>by have h0:blk (γ2 p)=some b':=hb';rw[hγ]at h0;cases h0),λi x hi=>by simp at hi⟩,λb' hb'=>by rw[hγ]at hb';cases hb'⟩
 .obtain⟨i,e,r,l,fr,hi,_,_,_,hc⟩:=hG p X hp;obtain⟨j,e',r',l',fr',hj,_,_,_,hc'⟩:=hG q X' hq;rcases hc with⟨o,g,hn,ho,_,hγ,_⟩|⟨_,hγ⟩
  .rcases hc' with⟨o',g',hn',ho',_,IB,_⟩|⟨_,IB⟩
   .rw[hγ]at hb1;rw[IB]at hb2;have:o≠o':=by intro e;subst e;have:=Hl hnd _ _ _ hn hn';omega
    exact hR.sep o _ o' _ b' ho ho' this hb1 hb2
   .rw[IB]at hb2;cases hb2
  .rw[hγ]at hb1;cases hb1
 .obtain⟨hγ,cs,cs0,rfl,h3,h4,h5,h6⟩:=hbq q y hq;have jK:γ2 q=γ q:=by show(match jo aF q with|some _=>γ q|none=>fv.getD (q-k) undef)=γ q;rw[hq]
  refine⟨jK,?_⟩;obtain⟨b',arr,t,k1,k2,k3⟩:=hR.ah q _ h3;refine⟨b',arr,t,?_,k2,zh (Y:=Y) (Z:=Z) rfl acZ _ _ h5 (h6 _ _ k3)⟩;show γ2 q=_;rw[jK,← hγ];exact k1
theorem aaY{G:iC}(hE:EnvB P G Θ Γ)(hm:P.follows .mixedOrders=true){f:FuncId}{fn:Func}{c:Code}(hf:P.funcs[f]? =some fn)(hb:fn.body=some c)(H:Hints)
 {sh:List gm} {bG:List ou} {F:iU sh->Prop×(oI bG×nJ sh->Prop)} (hn:Nat.ble sh.length fn.ntmps=true) (hne:∀x,(F x).1->∃t,(F x).2 t)
 (hwalk:∀x,DY sh x->(F x).1->Af Θ Γ H c (XW Θ fn.results.toList sh bG (F x).2) (yE fn.ntmps (oG sh x))):oD P G f (xX sh bG F):=by
 intro args p ρ hcon hp;unfold xX at hcon;split at hcon
 case h_2=>cases hcon
 next x hx=>
 cases hcon;refine⟨hne x hp,λk S γ vs w hG hrep mG hsep hap=>?_⟩;have hlen:=(DV hx).1;rw[Dp]at hlen;have hn':args.length<=fn.ntmps:=by rw[← hlen];simpa[al8]using hn
 have hin:DY sh x:=NI (λo X ho=>(mG o X ho).1) sh args x vs.toList 0 (λj a h=>by rwa [akr]) hx hrep;have hR0:=TJ (S:=S) fn.ntmps hn' hrep (λo X ho=>⟨(mG o X ho).1,λb hb=>((mG o X ho).2 b hb).1⟩) hsep;have hR1:=hR0.covers (LC hx fn.ntmps);refine calls_of_wp hf hb (NG ⟨hE,hG,λb hb=>?_⟩ hm H c _ _ _ _ _ _ hR1 (hwalk x hin hp) ?_)
 .obtain⟨o,X,ho,hb⟩:=hb;exact((mG o X ho).2 b hb).2
 intro e s γ' a' w' he hR;have hret:∃(us:List Value)(t:oI bG×nJ sh),(fn.results.mapM (CG a'.tmps)).run P w'=.ok us.toArray w'/\(F x).2 t/\∃γ2,
  aN ⟨w',w.heap.size,oC S args (jc sh t.2) γ,γ2,look ((⟨fO bG t.1,none⟩:Out).take k).2⟩ ((⟨fO bG t.1,none⟩:Out).take k).1 (if h:us.toArray.size=1 then us.toArray[0]else .tuple us.toArray)/\
  (∀o x',look ((⟨fO bG t.1,none⟩:Out).take k).2 o=some x'->aS ⟨w',w.heap.size,oC S args (jc sh t.2) γ,γ2,look ((⟨fO bG t.1,none⟩:Out).take k).2⟩ o x'/\
    ∀b,blk (γ2 o)=some b->b<w'.heap.size/\(w.heap.size<=b\/uo (bZ args) γ b)/\∀q y,jo (jc sh t.2) q=some y->blk (γ q)≠some b)/\
  (∀o x' q y b,look ((⟨fO bG t.1,none⟩:Out).take k).2 o=some x'->look ((⟨fO bG t.1,none⟩:Out).take k).2 q=some y->o≠q->blk (γ2 o)=some b->blk (γ2 q)≠some b)/\
  (∀o x',jo (jc sh t.2) o=some x'->γ2 o=γ o/\aS ⟨w',w.heap.size,oC S args (jc sh t.2) γ,γ2,look ((⟨fO bG t.1,none⟩:Out).take k).2⟩ o x'):=by
  have he':(e=.normal\/e=.ret)/\XW Θ fn.results.toList sh bG (F x).2 .ret s:=by
   cases e with
   |normal=>exact⟨.inl rfl,he⟩
   |ret=>exact⟨.inr rfl,he⟩
   |_=>exact he.elim
  have he2:=he'.2;simp only[XW]at he2;split at he2
  .next YJ ajM=>
   split at he2
   .next vs' hvs'=>
    split at he2
    .next d b hnd hd hb'=>have WO:=hR.freeze (TG s (vI bG YJ));obtain⟨us,hus,hrs⟩:=ER hE.types WO _ _ hvs';refine⟨us,(d,b),?_,he2,ah8 hx WO hrs hnd hd hb' (hap (d,b) he2)⟩;rw[amg,Sem.run_map,hus];rfl
    .exact he2.elim
   .exact he2.elim
  .exact he2.elim
 obtain⟨us,t,hus,ht,γ2,h1,h2,h3,h4⟩:=hret;have hfin:bodyPost P fn (λe w'=>∃t,(F x).2 t/\JM S args γ w k ⟨fO bG t.1,none⟩ (jc sh t.2) e w') .ret a' w':=by refine⟨hR.defers,if h:us.toArray.size=1 then us.toArray[0]else .tuple us.toArray,?_,t,ht,_,γ2,rfl,hR.os,hR.tape,hR.output,hR.grow,hR.kept,h1,h2,h3,h4⟩;rw[JY,akl,hus];simp only[akQ,akY]
 cases e with
 |normal=>exact hfin
 |ret=>exact hfin
 |_=>exact he.elim
def XY(rv:List ResultVar)(l:List dX)(K:jr l->Prop)(e:Exit)(st:St):Prop:=
 match e with
 |.normal|.ret=>match rv with
  |[.tmp t]=>match st.tmps t with
   |.bW o off=>match Nat.beq off 0,(st.freeze (Gt st)).ah o with
    |true,some (.var cs)=>match cs.flatMap Cell.refs,ig l cs with
     |[],some d=>K d
     |_,_=>False
    |_,_=>False
   |_=>False
  |_=>False
 |_=>False
def loses(sh:List gm):List Eff:=sh.map λ_=>.lose
def ad2(sh:List gm)(l:List dX)(F:iU sh->Prop×(jr l->Prop)):G7:=λargs=>
 match jb sh args with
 |some x=>some ((F x).1,⟨jr l,(F x).2,λt=>⟨[],some (eH l t)⟩,λ_=>loses sh⟩)
 |none=>none
theorem JZ(sh:List gm)(q:Nat):jo (loses sh) q=none:=by unfold jo loses;rw[ala];cases sh[q / 64]? <;>rfl
theorem IQ:∀(l:List dX)(cs:List Cell)(d:jr l),ig l cs=some d->cs.flatMap Cell.refs=[]->(eH l d).flatMap Cell.refs=[]
 |[],[],_,_,_=>rfl
 |c::l,x::xs,d,h,hn=>by
  rw[ig]at h;rw[ak5,akO]at hn;split at h
  .next p q hp hq=>
   cases h;show((c.cell p)::eH l q).flatMap Cell.refs=[];rw[ak5,akO];refine⟨?_,IQ l xs q hq hn.2⟩;cases c with
   |ref o=>
    cases x<;>simp[dX.read,Cell.refs]at hp hn
   |_=>rfl
  .cases h
 |[],_::_,_,h,_=>by simp[ig]at h
 |_::_,[],_,h,_=>by simp[ig]at h
theorem afo{G:iC}(hE:EnvB P G Θ Γ)(hm:P.follows .mixedOrders=true){f:FuncId}{fn:Func}{c:Code}(hf:P.funcs[f]? =some fn)(hb:fn.body=some c)(H:Hints)
 {sh:List gm} {l:List dX} {F:iU sh->Prop×(jr l->Prop)} (hn:Nat.ble sh.length fn.ntmps=true) (hne:∀x,(F x).1->∃t,(F x).2 t)
 (hwalk:∀x,DY sh x->(F x).1->Af Θ Γ H c (XY fn.results.toList l (F x).2) (yE fn.ntmps (oG sh x))):oD P G f (ad2 sh l F):=by
 intro args p ρ hcon hp;unfold ad2 at hcon;split at hcon
 case h_2=>cases hcon
 next x hx=>
 cases hcon;refine⟨hne x hp,λk S γ vs w hG hrep mG hsep hap=>?_⟩;have hlen:=(DV hx).1;rw[Dp]at hlen;have hn':args.length<=fn.ntmps:=by rw[← hlen];simpa[al8]using hn
 have hin:DY sh x:=NI (λo X ho=>(mG o X ho).1) sh args x vs.toList 0 (λj a h=>by rwa [akr]) hx hrep;have hR0:=TJ (S:=S) fn.ntmps hn' hrep (λo X ho=>⟨(mG o X ho).1,λb hb=>((mG o X ho).2 b hb).1⟩) hsep;have hR1:=hR0.covers (LC hx fn.ntmps);refine calls_of_wp hf hb (NG ⟨hE,hG,λb hb=>?_⟩ hm H c _ _ _ _ _ _ hR1 (hwalk x hin hp) ?_)
 .obtain⟨o,X,ho,hb⟩:=hb;exact((mG o X ho).2 b hb).2
 intro e s γ' a' w' he hR;have he':XY fn.results.toList l (F x).2 .ret s:=by
  cases e with
  |normal=>exact he
  |ret=>exact he
  |_=>exact he.elim
 have hfin:bodyPost P fn (λe w'=>∃t,(F x).2 t/\JM S args γ w k ⟨[],some (eH l t)⟩ (loses sh) e w') .ret a' w':=by
  simp only[XY]at he';split at he'
  case h_2=>exact he'.elim
  next t hrv=>
  split at he'
  case h_2=>exact he'.elim
  next o off Tn=>
  split at he'
  case h_2=>exact he'.elim
  next cs hoff hcs=>
  split at he'
  case h_2=>exact he'.elim
  next d hnr hd=>
  have hoff:=aj3 hoff;subst hoff;have WO:=hR.freeze (Gt s);have hv:=hR.tmps t;rw[Tn]at hv;obtain⟨b,cs0,_,hγ,hval⟩:=hv;obtain⟨b',arr,ty,g1,g2,g3⟩:=WO.ah o _ hcs;have g1:γ' o=.pointer (some ⟨b',0,none⟩):=g1;have hγ:γ' o=.pointer (some ⟨b,0,none⟩):=hγ;rw[hγ]at g1;cases g1;have hblk:blk (γ' o)=some b:=by rw[hγ];rfl
  have hlt:=WO.lt o _ b hcs hblk
  let γ2:Nat->Value:=λ_=>γ' o
  let Z:V:=⟨w',w.heap.size,oC S args (loses sh) γ,γ2,look (Out.take k ⟨[],some (eH l d)⟩).2⟩
  have hlook:∀q y,look (Out.take k ⟨[],some (eH l d)⟩).2 q=some y->q=k-1/\y=.var (eH l d):=by
   intro q y hq;have hmem:=rq _ q y hq;have:(q,y)=(k-1,.var (eH l d)):=by simpa[Out.take]using hmem
   exact⟨congrArg Prod.fst this,congrArg Prod.snd this⟩
  have JR:∀fr b',(aj w (NH args γ S) γ' (s.freeze (Gt s)) w').bF fr b'->Z.bF fr b':=by intro fr b' hb';refine⟨⟨hb'.1.1,λhlt'=>⟨hb'.1.2.1 hlt',λq y hq=>by rw[JZ]at hq;cases hq⟩,λq y hq=>?_⟩,hb'.2⟩;exact hb'.1.2.2 o _ hcs
  have hcells:ai Z (eH l d) arr.toList:=
   zh (Y:=aj w (NH args γ S) γ' (s.freeze (Gt s)) w') (Z:=Z) rfl JR _ _ (IQ l cs d hd hnr) (yC l cs d _ hd g3)
  have hself:look (Out.take k ⟨[],some (eH l d)⟩).2 (k-1)=some (.var (eH l d)):=by simp[Out.take,look]
  refine⟨hR.defers,a'.tmps.getD t undef,?_,d,he',_,γ2,rfl,hR.os,hR.tape,hR.output,hR.grow,hR.kept,?_,λq y hq=>?_,λq y q' y' b' hq hq' hne'=>?_,λq y hq=>by rw[JZ]at hq;cases hq⟩
  .have:fn.results=#[.tmp t]:=by apply alz;simpa using hrv
   have hmap:(Array.mapM (CG a'.tmps) #[ResultVar.tmp t]).run P w'=.ok #[a'.tmps.getD t undef] w':=by rw[amg,Sem.run_map];simp only[amZ,List.mapM_nil,CG];rfl
   rw[JY,this,akl,hmap];rfl
  .exact⟨b,eH l d,hself,hγ,hval⟩
  .obtain⟨rfl,rfl⟩:=hlook q y hq;refine⟨⟨b,arr,ty,hγ,g2,hcells⟩,λb' hb'=>?_⟩;have hb':blk (γ' o)=some b':=hb';rw[hblk]at hb';cases hb';exact⟨hlt.1,hlt.2,λq y hq=>by rw[JZ]at hq;cases hq⟩
  .obtain⟨rfl,_⟩:=hlook q y hq;obtain⟨rfl,_⟩:=hlook q' y' hq';exact(hne' rfl).elim
 cases e with
 |normal=>exact hfin
 |ret=>exact hfin
 |_=>exact he.elim
end Go.Fw
namespace Go.Fw
open Go
def CT.isZero:CT->Value->Bool
 |.int k,.int l n=>decide (k=l)&&decide (n=0)
 |.bool,.bool b=>!b
 |.str,.string s=>s.data.toList.isEmpty
 |.sl _ _,.slice none 0 0=>true
 |_,_=>false
def au.IU:au->List Value->Bool
 |.nil,[]=>true
 |.cons c r,v::vs=>c.isZero v&&r.IU vs
 |_,_=>false
theorem CT.ac0:∀(c:CT)(v:Value),c.isZero v=true->v=c.Vr:=by
 intro c v h;unfold CT.isZero at h;split at h
 .simp at h;rw[h.1,h.2];rfl
 .simp at h;subst h;rfl
 .next s=>obtain⟨⟨l⟩⟩:=s;simp at h;subst h;rfl
 .rfl
 .cases h
theorem au.TP:∀(r:au)(vs:List Value),r.IU vs=true->vs=r.iL
 |.nil,[],_=>rfl
 |.cons c r,v::vs,h=>by
  rw[IU,aj0]at h;rw[au.iL,CT.ac0 c v h.1,au.TP r vs h.2]
 |.nil,_::_,h|.cons _ _,[],h=>by simp[IU]at h
def YL:TypeDesc->TypeDesc->Bool
 |.int k,.int l=>decide (k=l)
 |.bool,.bool=>true
 |.string,.string=>true
 |.slice e,.slice f=>Nat.beq e f
 |_,_=>false
theorem ac1:∀(c d:TypeDesc),YL c d=true->c=d:=by
 intro c d h;unfold YL at h;split at h
 .rw[ak4 h]
 .rfl
 .rfl
 .rw[aj3 h]
 .cases h
def ES(P:Program):List (Nat×TypeId)->List Field->Bool
 |[],[]=>true
 |(o,t)::r,f::fs=>Nat.beq o f.offset&&Nat.beq t f.type&&(P.info? f.type).isSome&&ES P r fs
 |_,_=>false
theorem Qn{P:Program}:∀(l:List (Nat×TypeId))(fs:List Field),ES P l fs=true->l=fs.map (λf=>(f.offset,f.type))/\∀f∈fs,(P.info? f.type).isSome=true
 |[],[],_=>⟨rfl,by simp⟩
 |(o,t)::r,f::fs,h=>by
  rw[ES,aj0,aj0,aj0]at h;obtain⟨⟨⟨h1,h2⟩,h3⟩,h4⟩:=h;obtain⟨e,hall⟩:=Qn r fs h4;refine⟨by rw[ako,← e,aj3 h1,aj3 h2],λg hg=>?_⟩;rcases akm.1 hg with rfl|hg
  .exact h3
  .exact hall g hg
 |[],_::_,h|_::_,[],h=>by simp[ES]at h
def ac2(P:Program)(t:TypeId)(ti:TI):Bool:=
 match ti.kind,P.underlying t with
 |.scalar,some d=>match ti.cells.desc with|some c=>YL c d|none=>false
 |.str,some .string=>ti.cells.beq (.cons .str .nil)
 |.slice e,some (.slice f)=>Nat.beq e f&&(match ti.cells with|.cons (.sl g _) .nil=>Nat.beq g e|_=>false)
 |.struct fs,some (.struct sK)=>ES P fs sK.toList
 |_,_=>false
def aaZ(ti:TI)(z:Value):Bool:=match ti.kind with
 |.struct _=>true
 |_=>z.oneCell'
def VD(P:Program)(t:TypeId)(ti:TI):Bool:=
 match P.info? t with
 |some i=>match i.zero with
  |some z=>Nat.beq i.size ti.cells.len&&Nat.beq i.bytes ti.bytes&&ti.cells.IU z.cells.toList&&aaZ ti z&&ac2 P t ti&&Nat.ble ti.bytes 4096&&(!ti.cmp||abx P t ti.cells)
  |none=>false
 |none=>false
theorem jk.ad3{P:Program}{t:TypeId}{ti:TI}(h:VD P t ti=true):jk P t ti:=by
 unfold VD at h;split at h
 .next i hi=>
  split at h
  .next z hz=>
   simp only[aj0]at h;obtain⟨⟨⟨⟨⟨⟨h1,h2⟩,h3⟩,h4⟩,h5⟩,h6⟩,h7⟩:=h;refine⟨⟨i,z,hi,aj3 h1,aj3 h2,hz,au.TP _ _ h3,λhagg=>?_⟩,?_,by simpa[al8]using h6,λe w s u X xs ys vs us b hf hx hy he=>afi (by rw[e]at h7;simpa using h7) w s u X xs ys vs us b hf hx hy he⟩
   .unfold aaZ at h4;unfold TI.agg at hagg;split at h4
    .next hk=>rw[hk]at hagg;cases hagg
    .exact zW z h4
   .unfold ac2 at h5;split at h5
    .next d hk hu=>
     rw[hk];split at h5
     .next c hc=>exact⟨d,by rw[hc,ac1 c d h5],hu⟩
     .cases h5
    .next hk hu=>rw[hk];exact⟨hu,au.eq_of_beq _ _ h5⟩
    .next e f hk hu=>
     rw[hk];rw[aj0]at h5;have hef:=aj3 h5.1;subst hef;refine⟨hu,?_⟩;have h52:=h5.2;split at h52
     .next g r hg=>exact⟨r,by rw[hg,aj3 h52]⟩
     .cases h52
    .next fs sK hk hu=>rw[hk];obtain⟨e,hall⟩:=Qn _ _ h5;exact⟨sK,hu,e,hall⟩
    .cases h5
  .cases h
 .cases h
def IV(P:Program):List (Nat×TI)->Bool
 |[]=>true
 |(t,ti)::r=>VD P t ti&&IV P r
theorem YM{P:Program}:∀{l:List (Nat×TI)},IV P l=true->∀t ti,TB l t=some ti->jk P t ti
 |[],_,t,ti,h=>by cases h
 |(i,x)::r,hc,t,ti,h=>by
  rw[IV,aj0]at hc;rw[TB]at h;cases hb:Nat.beq t i with
  |true=>rw[hb]at h;cases h;rw[aj3 hb];exact .ad3 hc.1
  |false=>rw[hb]at h;exact YM hc.2 t ti h
def O7(fn:Func):Bool:=fn.body.isSome&&!(fn.name== "runtime.NumGoroutine")
theorem gX{P:Program}{f:FuncId}{fn:Func}(hf:P.funcs[f]? =some fn)(hc:O7 fn=true):gK P f:=by
 intro args w;unfold O7 at hc;rw[aj0]at hc;have h1:(fn.name== "runtime.NumGoroutine")=false:=by simpa using hc.2
 have h2:fn.body.isNone=false:=by cases hb:fn.body with|none=>rw[hb]at hc;simp at hc|some _=>rfl
 unfold callFunc;simp only[akl,run_program,akQ,hf,h1,h2,alC,al7,akY]
def ac3(P:Program)(G:iC)(f:FuncId):Dl->Prop
 |.pure c=>fZ P G f c/\gK P f
 |.eff _ c=>oD P G f c/\gK P f
theorem ac4{P:Program}{G:iC}{Θ:fU}(hT:∀t ti,Θ t=some ti->jk P t ti):∀{l:List (Nat×Dl)},(∀x∈l,ac3 P G x.1 x.2)->EnvB P G Θ (DJ l)
 |[],_=>⟨hT,(λf con h=>by cases h),(λf ms con h=>by cases h)⟩
 |(i,c)::r,h=>by
  have ih:=ac4 (G:=G) hT λx hx=>h x (akg _ hx);refine⟨hT,λf con hf=>?_,λf ms con hf=>?_⟩
  .rw[DJ]at hf;cases hb:Nat.beq f i with
   |true=>rw[hb]at hf;cases hf;rw[aj3 hb];exact h (i,.pure con) akh
   |false=>rw[hb]at hf;exact ih.cons f con hf
  .rw[DJ]at hf;cases hb:Nat.beq f i with
   |true=>rw[hb]at hf;cases hf;rw[aj3 hb];exact h (i,.eff ms con) akh
   |false=>rw[hb]at hf;exact ih.XU f ms con hf
end Go.Fw
namespace Go.Fw
open Go
structure PA where
 n:Nat
 sh:List fB
 bG:List lM
 F:gW sh->Prop×kR bG
structure XA where
 n:Nat
 sh:List gm
 bG:List ou
 F:iU sh->Prop×(oI bG×nJ sh->Prop)
structure QA where
 n:Nat
 sh:List gm
 bG:List dX
 F:iU sh->Prop×(jr bG->Prop)
def PA.e(q:PA):Nat×Dl:=(q.n,.pure (iE q.sh q.bG q.F))
def XA.e(q:XA):Nat×Dl:=(q.n,.eff (Ir q.sh) (xX q.sh q.bG q.F))
def QA.e(q:QA):Nat×Dl:=(q.n,.eff (Ir q.sh) (ad2 q.sh q.bG q.F))
def TQ(P:Program)(G:iC)(x:Nat×Dl):Prop:=ac3 P G x.1 x.2
def YN(P:Program)(G:iC):List (Nat×Dl)->Prop
 |[]=>True
 |x::l=>TQ P G x/\YN P G l
theorem ad4{P:Program}{G:iC}{l':List (Nat×TI)}(hT:IV P l'=true){l:List (Nat×Dl)}(h:YN P G l):EnvB P G (TB l') (DJ l):=
 ac4 (YM hT) (by
  induction l with
  |nil=>exactλx hx=>by cases hx
  |cons y l ih=>exact List.forall_mem_cons.2 ⟨h.1,ih h.2⟩)
def VE:(l:List dX)->(jr l->Prop)->Prop
 |[],p=>p ()
 |c::r,p=>∀x:c.den,VE r λy=>p (x,y)
theorem IW:∀{l:List dX}{p:jr l->Prop},VE l p->∀x,p x
 |[],_,h,()=>h
 |_::_,_,h,(x,y)=>IW (h x) y
def abS:(l:List (List dX))->(vH l->Prop)->Prop
 |[],p=>p ()
 |c::r,p=>VE c λx=>abS r λy=>p (x,y)
theorem YO:∀{l:List (List dX)}{p:vH l->Prop},abS l p->∀x,p x
 |[],_,h,()=>h
 |_::_,_,h,(x,y)=>YO (IW h x) y
def ad5:(s:fB)->(s.den->Prop)->Prop
 |.v (.one c),p=>∀x:c.den,p x
 |.v (.agg l),p=>VE l p
 |.kp l,p=>VE l p
 |.fn _ l,p=>abS l p
theorem aa0:∀{s:fB}{p:s.den->Prop},ad5 s p->∀x,p x
 |.v (.one _),_,h,x=>h x
 |.v (.agg _),_,h,x=>IW h x
 |.kp _,_,h,x=>IW h x
 |.fn _ _,_,h,x=>YO h x
def abT:(l:List fB)->(gW l->Prop)->Prop
 |[],p=>p ()
 |s::r,p=>ad5 s λx=>abT r λy=>p (x,y)
theorem YP:∀{l:List fB}{p:gW l->Prop},abT l p->∀x,p x
 |[],_,h,()=>h
 |_::_,_,h,(x,y)=>YP (aa0 h x) y
def af2:(s:gm)->(s.den->Prop)->Prop
 |.p s,p=>ad5 s p
 |.own _ r,p=>∀x:List r.den,p x
 |.ptr l,p=>VE l p
theorem afp:∀{s:gm}{p:s.den->Prop},af2 s p->∀x,p x
 |.p _,_,h,x=>aa0 h x
 |.own _ _,_,h,x=>h x
 |.ptr _,_,h,x=>IW h x
def XZ:(l:List gm)->(iU l->Prop)->Prop
 |[],p=>p ()
 |s::r,p=>af2 s λx=>XZ r λy=>p (x,y)
theorem Ru:∀{l:List gm}{p:iU l->Prop},XZ l p->∀x,p x
 |[],_,h,()=>h
 |_::_,_,h,(x,y)=>Ru (afp h x) y
abbrev LP{α:Type}(x:α)(f:(α->Prop)->(α->Nat)->α->Prop):Prop:=∃(I:α->Prop),∃(μ:α->Nat),I x/\∀(y:α),I y->f I μ y
abbrev NX{σ α:Type}(s:σ)(I:α->Prop)(μ:α->Nat)(x y:α):Prop:=s=s/\I x/\μ x<μ y
def H0:Hints:=hints [] [] [] [] []
def vT(P:Program)(n:Nat):Func:=match P.funcs[n]? with|some f=>f|none=>default
def CP(P:Program)(n k:Nat):Bool:=P.funcs[n]?.isSome&&O7 (vT P n)&&Nat.ble k (vT P n).ntmps
theorem NJ{P:Program}{n k:Nat}(h:CP P n k=true):P.funcs[n]? =some (vT P n)/\(vT P n).body=some (codeOf (vT P n))/\gK P n/\Nat.ble k (vT P n).ntmps=true:=by
 simp only[CP,aj0]at h;obtain⟨⟨h1,h2⟩,h3⟩:=h;have e:P.funcs[n]? =some (vT P n):=by
  unfold vT;cases hf:P.funcs[n]? with
  |some f=>rfl
  |none=>rw[hf]at h1;cases h1
 refine⟨e,?_,gX e h2,h3⟩;have h4:=h2;unfold O7 at h4;rw[aj0]at h4;unfold codeOf;cases hb:(vT P n).body with
 |some c=>rfl
 |none=>rw[hb]at h4;cases h4.1
def PA.goal(q:PA)(g:(kR q.bG->Prop)->Prop)(x:gW q.sh):Prop:=DU q.sh x->(q.F x).1->g λr=>r=(q.F x).2
def XA.goal(q:XA)(g:(oI q.bG×nJ q.sh->Prop)->Prop)(x:iU q.sh):Prop:=DY q.sh x->(q.F x).1->g (q.F x).2
def QA.goal(q:QA)(g:(jr q.bG->Prop)->Prop)(x:iU q.sh):Prop:=DY q.sh x->(q.F x).1->g (q.F x).2
variable {P:Program} {Θ:fU} {Γ:iT} {G:iC}
theorem PA.ok{q:PA}(hm:P.follows .mixedOrders=true)(hE:EnvB P G Θ Γ)(H:Hints){p:Prop}
 (hp:(bif CP P q.n q.sh.length then abT q.sh λx=>q.goal (λK=>Af Θ Γ H (codeOf (vT P q.n)) (TD Θ (vT P q.n).results.toList q.bG K) (entry (vT P q.n).ntmps (pU q.sh x))) x else False)=p) (h:p):TQ P G q.e:=by
 subst hp;cases hc:CP P q.n q.sh.length with
 |false=>rw[hc]at h;exact h.elim
 |true=>rw[hc]at h;obtain⟨h1,h2,h3,h4⟩:=NJ hc;exact⟨Vy hE hm h1 h2 H h4 λx hi hx=>YP h x hi hx,h3⟩
theorem XA.ok{q:XA}(hm:P.follows .mixedOrders=true)(hE:EnvB P G Θ Γ)(H:Hints)(hne:∀x,(q.F x).1->∃t,(q.F x).2 t){p:Prop}
 (hp:(bif CP P q.n q.sh.length then XZ q.sh λx=>q.goal (λK=>Af Θ Γ H (codeOf (vT P q.n)) (XW Θ (vT P q.n).results.toList q.sh q.bG K) (yE (vT P q.n).ntmps (oG q.sh x))) x else False)=p) (h:p):TQ P G q.e:=by
 subst hp;cases hc:CP P q.n q.sh.length with
 |false=>rw[hc]at h;exact h.elim
 |true=>rw[hc]at h;obtain⟨h1,h2,h3,h4⟩:=NJ hc;exact⟨aaY hE hm h1 h2 H h4 hne λx hi hx=>Ru h x hi hx,h3⟩
theorem QA.ok{q:QA}(hm:P.follows .mixedOrders=true)(hE:EnvB P G Θ Γ)(H:Hints)(hne:∀x,(q.F x).1->∃t,(q.F x).2 t){p:Prop}
 (hp:(bif CP P q.n q.sh.length then XZ q.sh λx=>q.goal (λK=>Af Θ Γ H (codeOf (vT P q.n)) (XY (vT P q.n).results.toList q.bG K) (yE (vT P q.n).ntmps (oG q.sh x))) x else False)=p) (h:p):TQ P G q.e:=by
 subst hp;cases hc:CP P q.n q.sh.length with
 |false=>rw[hc]at h;exact h.elim
 |true=>rw[hc]at h;obtain⟨h1,h2,h3,h4⟩:=NJ hc;exact⟨afo hE hm h1 h2 H h4 hne λx hi hx=>Ru h x hi hx,h3⟩
end Go.Fw
namespace Go.Fw
open Go
variable {P:Program} {G:iC} {f:FuncId}
abbrev sQ:List UInt8:=[]
theorem ac5{sh:List fB}{bG:List lM}{F:gW sh->Prop×kR bG}(Fr Fs:Nat->gW sh->Prop×kR bG)(h0:∀x,¬(Fr 0 x).1)(hs:∀n x,Fr (n+1) x=Fs n x)
 (hf:∀x,(F x).1->∃n,(Fr n x).1) (he:∀n x,(Fr n x).2=(F x).2) (step:∀n,fZ P G f (iE sh bG (Fr n))->fZ P G f (iE sh bG (Fs n))):fZ P G f (iE sh bG F):=by
 have all:∀n,fZ P G f (iE sh bG (Fr n)):=by
  intro n
  induction n with
  |zero=>
   intro args p out k S vs w hcon hp;unfold iE rP at hcon;split at hcon
   .next x _=>have e:(Fr 0 x).1=p:=congrArg Prod.fst (Option.some.inj hcon);exact absurd (e.symm▸hp) (h0 x)
   .cases hcon
  |succ n ih=>have:=step n ih;have e:Fr (n+1)=Fs n:=funext (hs n);rw[e];exact this
 intro args p out k S vs w hcon hp hG hrep;have DZ:=hcon;unfold iE rP at DZ;split at DZ
 .next x hx=>have e:=Option.some.inj DZ;have e1:(F x).1=p:=congrArg Prod.fst e;obtain⟨n,hn⟩:=hf x (e1.symm▸hp);refine all n args (Fr n x).1 out k S vs w ?_ hn hG hrep;unfold iE rP;rw[hx];show some ((Fr n x).1,_)=_;rw[he n x];exact congrArg (λz=>some ((Fr n x).1,z)) (congrArg Prod.snd e)
 .cases DZ
theorem afq{sh:List gm}{bG:List ou}{F:iU sh->Prop×(oI bG×nJ sh->Prop)}(Fr Fs:Nat->iU sh->Prop×(oI bG×nJ sh->Prop))(h0:∀x,¬(Fr 0 x).1)(hs:∀n x,Fr (n+1) x=Fs n x)
 (hf:∀x,(F x).1->∃n,(Fr n x).1) (he:∀n x,(Fr n x).2=(F x).2) (step:∀n,oD P G f (xX sh bG (Fr n))->oD P G f (xX sh bG (Fs n))):oD P G f (xX sh bG F):=by
 have all:∀n,oD P G f (xX sh bG (Fr n)):=by
  intro n
  induction n with
  |zero=>
   intro args p ρ hcon hp;unfold xX at hcon;split at hcon
   .next x _=>have e:(Fr 0 x).1=p:=congrArg Prod.fst (Option.some.inj hcon);exact absurd (e.symm▸hp) (h0 x)
   .cases hcon
  |succ n ih=>have:=step n ih;have e:Fr (n+1)=Fs n:=funext (hs n);rw[e];exact this
 intro args p ρ hcon hp;have DZ:=hcon;unfold xX at DZ;split at DZ
 .next x hx=>have e:=Option.some.inj DZ;have e1:(F x).1=p:=congrArg Prod.fst e;obtain⟨n,hn⟩:=hf x (e1.symm▸hp);refine all n args (Fr n x).1 ρ ?_ hn;unfold xX;rw[hx];show some ((Fr n x).1,_)=_;rw[he n x];exact congrArg (λz=>some ((Fr n x).1,z)) (congrArg Prod.snd e)
 .cases DZ
end Go.Fw
namespace Go.Fw
open Go
variable {P:Program} {H:Type} {enc:TypeId×Value->H} {w:World}
def au.app:au->au->au
 |.nil,s=>s
 |.cons c r,s=>.cons c (r.app s)
def X0:(r s:au)->r.den->s.den->(r.app s).den
 |.nil,_,_,y=>y
 |.cons _ r,s,x,y=>(x.1,X0 r s x.2 y)
theorem aK.app{h:Array Obj}{S:Nat->Prop}:∀(r s:au)(x:r.den)(y:s.den)(vs us:List Value),aK h S r vs x->aK h S s us y->aK h S (r.app s) (vs++us) (X0 r s x y)
 |.nil,s,x,y,vs,us,h1,h2=>by rw[aK]at h1;subst h1;exact h2
 |.cons c r,s,(x,x'),y,vs,us,h1,h2=>by rw[aK]at h1;obtain⟨v,vs',rfl,g1,g2⟩:=h1;show aK h S (.cons c (r.app s)) (v::(vs'++us)) (x,X0 r s x' y);rw[aK];exact⟨v,vs'++us,rfl,g1,aK.app r s x' y vs' us g2 h2⟩
theorem add_add(a:Addr)(h:a.spot=none)(m j:Nat):(a.add m).add j=⟨a.block,a.off+m+j,none⟩:=by
 obtain⟨b,o,sp⟩:=a;simp only at h;subst h;unfold Addr.add;by_cases hm:m=0
 .by_cases hj:j=0
  .simp[hm,hj]
  .simp[hm,hj]
 .by_cases hj:j=0
  .simp[hm,hj]
  .simp[hm,hj]
def Gw(f:TypeId->Option au):List Field->Nat->Option au
 |[],_=>some .nil
 |x::r,off=>match f x.type with
  |some s=>match Gw f r (off+s.len),Nat.beq x.offset off with
   |some u,true=>some (s.app u)
   |_,_=>none
  |none=>none
def rowOf(P:Program):Nat->TypeId->Option au
 |0,_=>none
 |n+1,t=>match P.underlying t with
  |some (.int k)=>some (.cons (.int k) .nil)
  |some .bool=>some (.cons .bool .nil)
  |some .string=>some (.cons .str .nil)
  |some (.slice e)=>match rowOf P n e with
   |some s=>match Nat.beq s.len (P.cellsOf e)&&Nat.ble 1 s.len with
    |true=>some (.cons (.sl e s) .nil)
    |false=>none
   |none=>none
  |some (.struct fs)=>match Gw (rowOf P n) fs.toList 0 with
   |some r=>match Nat.beq r.len (P.cellsOf t)with
    |true=>match fs.toList.all λf=>match rowOf P n f.type with|some s=>Nat.beq s.len (P.cellsOf f.type)|none=>false with
     |true=>some r
     |false=>none
    |false=>none
   |none=>none
  |_=>none
theorem aa1{α:Type}{Q:Nat->α->Prop}:∀(n:Nat),(∀i,i<n->∃x,Q i x)->∃l:List α,l.length=n/\∀i x,l[i]? =some x->Q i x
 |0,_=>⟨[],rfl,λi x h=>by simp at h⟩
 |n+1,h=>by
  obtain⟨l,hl,hq⟩:=aa1 n λi hi=>h i (by omega);obtain⟨x,hx⟩:=h n (by omega);refine⟨l++[x],by simp[hl],λi y hy=>?_⟩;rcases aks i n with hi|hi
  .rw[akU (by omega)]at hy;exact hq i y hy
  .rw[akH (by omega)]at hy;have:i=n:=by
    rcases aks n i with h'|h'
    .rw[alj (by simp;omega)]at hy;cases hy
    .omega
   subst this;simp[hl]at hy;rw[← hy];exact hx
theorem aa2:∀(r s:au),(r.app s).len=r.len+s.len
 |.nil,s=>by simp[au.app,au.len]
 |.cons c r,s=>by simp only[au.app,au.len,aa2 r s];omega
theorem TR{f:TypeId->Option au}{S:Nat->Prop}{h:Array Obj}(cs:List Value)
 (part:∀(t:TypeId)(r:au)(off:Nat),f t=some r->(∃g:Field,g.type=t/\g.offset=off)->True):∀(fs:List Field)(off:Nat)(r:au),Gw f fs off=some r->
 (∀g∈fs,∀s,f g.type=some s->∃x,aK h S s ((cs.drop g.offset).take s.len) x)->
 ∃x,aK h S r ((cs.drop off).take r.len) x
 |[],off,r,hr,_=>by
  cases hr;exact⟨(),by rw[aK];simp[au.len]⟩
 |g::fs,off,r,hr,hall=>by
  rw[Gw]at hr;split at hr
  .next s hs=>
   split at hr
   .next u hu hb=>
    cases hr;obtain⟨x,hx⟩:=hall g akh s hs;rw[aj3 hb]at hx;obtain⟨y,hy⟩:=TR cs part fs (off+s.len) u hu λg' hg'=>hall g' (akg _ hg');refine⟨X0 s u x y,?_⟩;have:=aK.app s u x y _ _ hx hy;rw[aa2];have e:(cs.drop off).take (s.len+u.len)=(cs.drop off).take s.len++(cs.drop (off+s.len)).take u.len:=by rw[List.take_add,alq]
    rw[e];exact this
   .cases hr
  .cases hr
theorem Rw:∀(n:Nat)(t:TypeId)(r:au),rowOf P n t=some r->∀(m:Nat)(base:Nat)(spare:Nat->Bool)(held:Bool)(cs:List Value)(x:DataW H×List MemPlace),
 DataW.trod enc P w base spare held m t cs=some x->∃y,aK w.heap (λb=>b<w.heap.size) r cs y
 |0,t,r,hr=>by cases hr
 |n+1,t,r,hr=>by
  intro m base spare held cs x hx;rw[rowOf]at hr;split at hr
  .next k hu=>cases hr;obtain⟨i,rfl,_,hwf⟩:=DataW.trod_int hu hx;simp only[Lit.wf,aj0,akf]at hwf;exact⟨(i,()),by rw[aK];exact⟨_,[],rfl,by rw[dG];exact⟨rfl,hwf⟩,by rw[aK]⟩⟩
  .next hu=>cases hr;obtain⟨b,rfl,_⟩:=DataW.trod_bool hu hx;exact⟨(b,()),by rw[aK];exact⟨_,[],rfl,by rw[dG],by rw[aK]⟩⟩
  .next hu=>cases hr;obtain⟨s,rfl,_,hs⟩:=DataW.trod_string hu hx;refine⟨(s.data.toList,()),by rw[aK];exact⟨_,[],rfl,by rw[dG];exact⟨by simp,by simpa using hs⟩,by rw[aK]⟩⟩
  .next e hu=>
   split at hr
   .next s hs=>
    split at hr
    .next hb=>
     cases hr;rw[aj0]at hb;have hlen:=aj3 hb.1;have hpos:1<=s.len:=by simpa[al8]using hb.2
     rcases DataW.trod_slice hu hx with⟨rfl,_⟩|⟨a,len,cap,elems,rest,k,_,rfl,_,hbase,hle,hmax,hel,hrow,_,_⟩
     .exact⟨([],()),by rw[aK];exact⟨_,[],rfl,by rw[dG];exact⟨by simp,.inl ⟨rfl,none,0,rfl⟩⟩,by rw[aK]⟩⟩
     .by_cases h0:len=0
      .subst h0;exact⟨([],()),by rw[aK];exact⟨_,[],rfl,by rw[dG];exact⟨by simp,.inl ⟨rfl,some a,cap,rfl⟩⟩,by rw[aK]⟩⟩
      .have each:∀i,i<len->∃(ys:List Value)(z:s.den),w.cells? base (a.add (i*P.cellsOf e)) (P.cellsOf e)=some ys/\aK w.heap (λb=>b<w.heap.size) s ys z:=by intro i hi;have h1:=hrow i hi;rw[akd (by omega)]at h1;obtain⟨ys,hys,hy2⟩:=Option.bind_eq_some_iff.1 h1;obtain⟨z,hz⟩:=Rw n e s hs k base spare held ys _ hy2;exact⟨ys,z,hys,hz⟩
       obtain⟨ys0,z0,hc0,hz0⟩:=each 0 (by omega);obtain⟨_,hl0,hcell0⟩:=World.cells?_some hc0;have Rx:=hcell0 0 (by omega);simp only[alT,Addr.add,if_true]at Rx;have ah9:∃v,ys0[0]? =some v:=⟨ys0[0]'(by omega),by simp[show 0<ys0.length by omega]⟩;obtain⟨v0,hv0⟩:=ah9;rw[hv0]at Rx;unfold World.cell? at Rx;split at Rx
       .next c ty fz hblk=>
        split at Rx
        .cases Rx
        .next hsp=>
         have hspot:a.spot=none:=by cases h:a.spot with|none=>rfl|some q=>rw[h]at hsp;simp at hsp
         have ha:a=⟨a.block,a.off,none⟩:=by cases a;simp at hspot;rw[hspot]
         have hb':a.block<w.heap.size:=by obtain⟨hlt,_⟩:=aj7.1 hblk;exact hlt
         have rows:∀i,i<len->∃z:s.den,aK w.heap (λb=>b<w.heap.size) s ((c.toList.drop (a.off+i*s.len)).take s.len) z:=by
          intro i hi;obtain⟨ys,z,hcs,hz⟩:=each i hi;obtain⟨_,hl,hcell⟩:=World.cells?_some hcs;refine⟨z,?_⟩;have:(c.toList.drop (a.off+i*s.len)).take s.len=ys:=by
           refine alG λj=>?_;rcases aks j s.len with hj|hj
           .rw[alp hj,akF];have h2:=hcell j (by omega);have hadd:=add_add a hspot (i*P.cellsOf e) j;rw[← hlen]at hadd h2;rw[hadd]at h2;unfold World.cell? at h2;simp only[hblk,Option.isSome_none,alC,al7]at h2;rw[← h2];simp
           .rw[alj (by simp;omega),alj (by omega)]
          rw[this];exact hz
         obtain⟨l,hll,hlq⟩:=aa1 len rows;refine⟨(l,()),by rw[aK];exact⟨_,[],rfl,by rw[dG];exact⟨by omega,.inr ⟨a.block,a.off,cap,c,ty,fz,by rw[hll,← ha],by omega,hb',hblk,hlq⟩⟩,by rw[aK]⟩⟩
       .cases Rx
    .cases hr
   .cases hr
  .next fs hu=>
   split at hr
   .next r' hf=>
    split at hr
    .next hb=>
     split at hr
     .next hall=>
      cases hr;obtain⟨xs,k,_,_,hcl,hxl,hparts⟩:=DataW.trod_struct hu hx;have hlen:=aj3 hb;have:=TR (h:=w.heap) (S:=λb=>b<w.heap.size) cs (λ_ _ _ _ _=>trivial) fs.toList 0 _ hf ?_
      .obtain⟨y,hy⟩:=this;refine⟨y,?_⟩;rw[amL,akX (by omega)]at hy;exact hy
      .intro g hg s hs;have hg2:=akk.1 hall g hg;rw[hs]at hg2;have hsl:=aj3 hg2;obtain⟨i,hi,hgi⟩:=alk.1 hg;have hp:=hparts i g (by rw[← hgi];simp[show i<fs.size by simpa using hi]);rw[akd (by simp at hi;omega)]at hp;rw[hsl];exact Rw n g.type s hs k base spare held _ _ hp
     .cases hr
    .cases hr
   .cases hr
  .cases hr
def CT.csh:CT->dX
 |.int k=>.int k
 |.bool=>.bool
 |.str=>.str
 |.sl e r=>.sl e r false
def toC:(c:CT)->c.den->c.csh.den
 |.int _,x=>x
 |.bool,x=>x
 |.str,x=>x
 |.sl _ _,x=>x
def au.shs:au->List dX
 |.nil=>[]
 |.cons c r=>c.csh::r.shs
def toCs:(r:au)->r.den->jr r.shs
 |.nil,_=>()
 |.cons c r,x=>(toC c x.1,toCs r x.2)
theorem VF(X:V):∀(r:au)(vs:List Value)(x:r.den),aK X.w.heap (X.bF false) r vs x->ai X (eH r.shs (toCs r x)) vs
 |.nil,vs,x,h=>by rw[aK]at h;subst h;trivial
 |.cons c r,vs,(x,y),h=>by
  rw[aK]at h;obtain⟨v,vs',rfl,h1,h2⟩:=h;refine⟨?_,VF X r vs' y h2⟩;cases c with
  |int k=>exact h1
  |bool=>exact h1
  |str=>exact h1
  |sl e r=>exact h1
def abU(P:Program)(t:TypeId):Option lM:=
 match rowOf P 64 t with
 |some r=>match P.underlying t with
  |some (.struct _)=>some (.agg r.shs)
  |some (.array _ _)=>none
  |_=>match r with
   |.cons c .nil=>some (.one c.csh)
   |_=>none
 |none=>none
def ET(P:Program):List TypeId->Option (List fB)
 |[]=>some []
 |t::ts=>match abU P t,ET P ts with
  |some s,some l=>some (.v s::l)
  |_,_=>none
def start(w:World):V:=⟨w,w.heap.size,λb=>b<w.heap.size,λ_=>undef,λ_=>none⟩
theorem afr{t:TypeId}{s:lM}(hs:abU P t=some s){base base':Nat}{sp:Nat->Bool}{hd:Bool}{v:Value}{d:DataW H}{p:List MemPlace}
 (ht:DataW.Trod enc P w base sp hd t v d p) (hv:Value.okWide P w .any base' t v):∃x:s.den,bK (start w) (s.val x) v:=by
 unfold abU at hs;split at hs
 .next r hr=>
  obtain⟨m,hm⟩:=ht;obtain⟨y,hy⟩:=Rw 64 t r hr m base sp hd _ _ hm;have hy':aK (start w).w.heap ((start w).bF false) r v.cells.toList y:=
   aK.mono (λb hb=>⟨⟨⟨hb,λ_=>hb,λo x hx=>by cases hx⟩,λe=>by cases e⟩,rfl⟩) r _ y hy
  unfold Value.okWide at hv;split at hs
  .next fs hu=>cases hs;rw[hu]at hv;obtain⟨cs,rfl,_,_⟩:=hv;exact⟨toCs r y,cs,rfl,VF (start w) r _ y hy'⟩
  .cases hs
  .next hns hna=>
   split at hs
   .next c=>
    cases hs;have hcell:v.cells=#[v]:=by
     cases hv2:v<;>first
      |rfl
      |(exfalso
        rw[hv2]at hv;split at hv
        .next hu=>exact hns _ hu
        .next hu=>exact hna _ _ hu
        .unfold Go.Cell.okWide at hv;split at hv<;>first|(rename_i h1 h2;cases h2;done)|(rename_i h2;cases h2;done)|skip;unfold Go.Cell.ok at hv;split at hv<;>first|(rename_i h1 h2;cases h2;done)|exact hv)
    have:=VF (start w) _ _ y hy';rw[hcell]at this;exact⟨toC c y.1,this.1⟩
   .cases hs
 .cases hs
theorem YQ:∀(ts:List TypeId)(sh:List fB),ET P ts=some sh->∀{base base':Nat}{sp:Nat->Bool}{hd:Bool}(vs:List Value)(ds:List (DataW H))(p:List MemPlace),
 DataW.TrodAll enc P w base sp hd ts vs ds p->(∀(j:Nat) t v,ts[j]? =some t->vs[j]? =some v->Value.okWide P w .any base' t v)->∃x:gW sh,kN (start w) (pU sh x) vs
 |[],sh,hs,_,_,_,_,vs,ds,p,h,_=>by
  cases hs;cases vs with
  |nil=>exact⟨(),trivial⟩
  |cons v vs=>cases ds<;>simp[DataW.TrodAll]at h
 |t::ts,sh,hs,base,base',sp,hd,vs,ds,p,h,hok=>by
  rw[ET]at hs;split at hs
  .next s l h1 h2=>
   cases hs;cases vs with
   |nil=>cases ds<;>simp[DataW.TrodAll]at h
   |cons v vs=>
    cases ds with
    |nil=>simp[DataW.TrodAll]at h
    |cons d ds=>obtain⟨a,b,g1,g2,_⟩:=h;obtain⟨x,hx⟩:=afr h1 g1 (hok 0 t v rfl rfl);obtain⟨y,hy⟩:=YQ ts l h2 vs ds b g2 λj t' v' ht' hv'=>hok (j+1) t' v' (by simpa using ht') (by simpa using hv');exact⟨(x,y),hx,hy⟩
  .cases hs
mutual
theorem CT.EU:∀(c:CT),c.beq c=true
 |.int k=>by simp[CT.beq]
 |.bool=>rfl
 |.str=>rfl
 |.sl e r=>by simp[CT.beq,au.EU r]
theorem au.EU:∀(r:au),r.beq r=true
 |.nil=>rfl
 |.cons c r=>by simp[au.beq,CT.EU c,au.EU r]
end
theorem WS:∀(c:dX)(x:c.den),c.read (c.cell x)=some x
 |.int k,x=>by simp[dX.cell,dX.read]
 |.bool,x=>rfl
 |.str,x=>rfl
 |.sl e r fr,l=>by
  simp only[dX.cell,dX.read,akN];have h1:EO fr fr=true:=by cases fr<;>rfl
  have h2:r.beq r=true:=au.EU r;rw[h1];simp only[Bool.and_self];rw[dif_pos h2];rfl
 |.nil,x=>rfl
 |.ref o,x=>by simp[dX.cell,dX.read]
 |.junk,x=>rfl
theorem TS:∀(l:List dX)(x:jr l),ig l (eH l x)=some x
 |[],_=>rfl
 |c::r,x=>by rw[eH,ig,WS c x.1,TS r x.2]
theorem YR:∀(ts:List TypeId)(l:List fB),ET P ts=some l->∀(x:gW l),Ag l (pU l x)=some x
 |[],l,h,x=>by cases h;rfl
 |t::ts,l,h,x=>by
  rw[ET]at h;split at h
  .next s r h1 h2=>
   cases h;have ih:=YR ts r h2 x.2;cases s with
   |one c=>
    have e:(fB.v (.one c)).read ((fB.v (.one c)).val x.1)=some x.1:=WS c x.1;rw[pU,Ag,ih,e]
   |agg l=>have e:(fB.v (.agg l)).read ((fB.v (.agg l)).val x.1)=some x.1:=TS l x.1;rw[pU,Ag,ih,e]
  .cases h
def VG:Out:=⟨[(false,[.plain (.bool true)])],none⟩
theorem ac6{G:iC}{f:FuncId}{fn:Func}{sh:List fB}{F:gW sh->Prop×Out}(hcon:fZ P G f (rP sh F))(hsh:ET P fn.params.toList=some sh)
 (hF:∀x,DU sh x->(F x).1/\(F x).2=VG) (hG:G.ok w) {base base':Nat} {sp:Nat->Bool} {hd:Bool} {args:Array Value} {ds:List (DataW H)} {p:List MemPlace}
 (hA:DataW.TrodAll enc P w base sp hd fn.params.toList args.toList ds p) (hok:∀(j:Nat) t v,fn.params[j]? =some t->args[j]? =some v->Value.okWide P w .any base' t v):
 Calls P f args w λe w'=>e=.returned (.bool true)/\w'.os=w.os/\w'.output=w.output/\w.heap.size<=w'.heap.size/\∀b,b<w.heap.size->w'.heap[b]? =w.heap[b]? :=by
 obtain⟨x,hx⟩:=YQ _ _ hsh _ _ _ hA λj t v ht hv=>hok j t v (by simpa using ht) (by simpa using hv);have hin:=wJ sh x _ hx;obtain⟨hp,ho⟩:=hF x hin;have hc:rP sh F (pU sh x)=some ((F x).1,VG):=by unfold rP;rw[YR _ _ hsh x];simp only[← ho]
 refine(hcon (pU sh x) _ _ 0 _ args w hc hp hG hx).mono ?_;rintro e w' ⟨v,vals,rfl,h1,h2,h3,h4,h5,h6,_,_⟩;have hv:v=.bool true:=h6;exact⟨by rw[hv],h1,h3,h4,h5⟩
theorem ad6{w w':World}(h1:w'.os=w.os)(h3:w'.output=w.output)(h5:∀b,b<w.heap.size->w'.heap[b]? =w.heap[b]?)(may:MemPlace->Prop):w.keptBut w' may:=by
 refine⟨h1,h3,λi hi=>?_⟩;rw[h5 i hi];cases hw:w.heap[i]? with
 |none=>trivial
 |some o=>cases o<;>simp
theorem ad7{w w':World}(h5:∀b,b<w.heap.size->w'.heap[b]? =w.heap[b]?){p:MemPlace}(hp:p.block<w.heap.size):w.sameAt w' p:=by
 cases p with
 |cell b off=>
  show w'.cell? _=w.cell? _;unfold World.cell?;simp only;rw[h5 b hp]
 |map b=>exact h5 b hp
end Go.Fw
namespace Go.Fw
open Go
variable {P:Program} {G:iC} {f:FuncId}
theorem lg.mono{X Y:V}(h:X.le Y):∀(a:Arg)(v:Value),lg X a v->lg Y a v
 |.sv x,v,H=>bK.mono h x v H
 |.kp cs,v,H=>aN.mono h (.dA cs 0) v H
 |.fn f caps,v,H=>aN.mono h (.fn f caps) v H
 |.own _ _ _,_,H|.ptr _,_,H=>H.elim
theorem EI.mono{X Y:V}(h:X.le Y)(i:Nat):∀(a:Arg)(v:Value),EI X i a v->EI Y i a v
 |.own _ _ _,v,H=>aJ.mono h (.ref (i*64+49)) v H
 |.ptr _,v,H=>aN.mono h (.bW (i*64+48) 0) v H
 |.sv x,v,H=>lg.mono h (.sv x) v H
 |.kp cs,v,H=>lg.mono h (.kp cs) v H
 |.fn f caps,v,H=>lg.mono h (.fn f caps) v H
theorem rO.nil{X Y:V}(h:X.le Y){e:TypeId}{r:au}:∀(args:List Arg)(vs:List Value)(j i:Nat),args[i]? =some (.sv (.one .nil))->
 Y.ah ((j+i)*64+49)=some (.arr e r [] false)->Y.γ ((j+i)*64+49)=.slice none 0 0->rO X j args vs->rO Y j (args.set i (.own e r [])) vs
 |[],[],_,i,ha,_,_,_=>by simp at ha
 |[],_::_,_,_,_,_,_,H=>H.elim
 |_::_,[],_,_,_,_,_,H=>H.elim
 |a::args,v::vs,j,0,ha,ho,hγ,⟨h1,h2⟩=>by
  have ha:a=.sv (.one .nil):=by simpa using ha
  subst ha;have hv:v=.slice none 0 0:=h1;refine⟨⟨⟨e,r,[],false,ho⟩,?_,by rw[hv];rfl⟩,?_⟩
  .rw[hv];exact hγ.symm
  .show rO Y (j+1) args vs;clear h1 ha ho hγ hv;generalize j+1=k at h2
   induction args generalizing k vs with
   |nil=>cases vs with
    |nil=>trivial
    |cons _ _=>exact h2.elim
   |cons b args ih=>cases vs with
    |nil=>exact h2.elim
    |cons u vs=>exact⟨EI.mono h k b u h2.1,ih vs (k+1) h2.2⟩
 |a::args,v::vs,j,i+1,ha,ho,hγ,⟨h1,h2⟩=>by
  have e1:j+(i+1)=j+1+i:=by omega
  rw[e1]at ho hγ;exact⟨EI.mono h j a v h1,rO.nil h args vs (j+1) i (by simpa using ha) ho hγ h2⟩
end Go.Fw
namespace Go.Fw
open Go
theorem af{b:Bool}{A B:Prop}(h1:b=true->A)(h2:b=false->B):cond b A B:=by
 cases b
 .exact h2 rfl
 .exact h1 rfl
theorem eP{D:Type}{A:(D->Prop)->Prop}{R:D->Prop}(f:D)(h1:A λy=>y=f)(h2:R f):∃J:D->Prop,A J/\∀y,J y->R y:=
 ⟨λy=>y=f,h1,λ_ hy=>hy▸h2⟩
theorem drop_cons{α:Type}(a:List α)(n:Nat)(d:α)(h:n<a.length):a.drop n=a.getD n d::a.drop (n+1):=by rw[aln h,aj9,akd h,alV]
theorem gq(z:Int)(h:-9223372036854775808<=z/\z<=9223372036854775807):IntKind.i64.wrap z=z:=IntWalk.i64_in z (by omega)
theorem maxLen_eq:maxLen=9223372036854775807:=by decide
theorem ac7:big=4294967296:=rfl
theorem getD_mem{α:Type}{l:List α}{n:Nat}{d:α}(h:n<l.length):l.getD n d∈l:=by rw[aj9,akd h,alV];exact amb h
end Go.Fw
namespace Go.Fw
open Go
def af5(w:World)(S:Nat->Prop)(k:Nat)(out:Out)(e:Ending)(w':World):Prop:=
 ∃v vals,e=.returned v/\w'.os=w.os/\w'.tape=w.tape/\w'.output=w.output/\w.heap.size<=w'.heap.size/\
    (∀b,b<w.heap.size->w'.heap[b]? =w.heap[b]?)/\
    aN ⟨w',w.heap.size,S,vals,Fw.look (out.take k).2⟩ (out.take k).1 v/\
    (∀o x,Fw.look (out.take k).2 o=some x->aS ⟨w',w.heap.size,S,vals,Fw.look (out.take k).2⟩ o x/\∀b,blk (vals o)=some b->w.heap.size<=b/\b<w'.heap.size)/\
    (∀o x q y b,Fw.look (out.take k).2 o=some x->Fw.look (out.take k).2 q=some y->o≠q->blk (vals o)=some b->blk (vals q)≠some b)
theorem YS{w w':World}{S:Nat->Prop}{k:Nat}{s:Bytes}(hos:w'.os=w.os)(htape:w'.tape=w.tape)(hout:w'.output=w.output)(hsize:w.heap.size<=w'.heap.size)
 (af6:∀b,b<w.heap.size->w'.heap[b]? =w.heap[b]?) (hs:s.length<=maxLen):af5 w S k ⟨[(false,[.plain (.str s)])],none⟩ (.returned (.string ⟨s.toArray⟩)) w':=
 ⟨_,λ_=>undef,rfl,hos,htape,hout,hsize,af6,⟨rfl,hs⟩,(λo x hx=>by cases hx),(λo x q y b hx=>by cases hx)⟩
end Go.Fw
namespace Go.Fw
open Go
variable {P:Program}
theorem aas{s:gm}{sh:List gm}:∀{args:List Arg}{d:iU (s::sh)},jb (s::sh) args=some d->∃x xs,args=x::xs/\s.read x=some d.1/\jb sh xs=some d.2
 |[],_,h=>by simp[jb]at h
 |x::xs,d,h=>by
  rw[jb]at h;split at h
  .next a b h1 h2=>cases h;exact⟨x,xs,rfl,h1,h2⟩
  .cases h
theorem abV:∀{args:List Arg}{d:iU []},jb [] args=some d->args=[]
 |[],_,_=>rfl
 |_::_,_,h=>by simp[jb]at h
end Go.Fw
namespace Go.Fw
open Go
variable {P:Program} {H:Type} {enc:TypeId×Value->H} {w:World}
theorem LD(hl:laidOutB P=true){base:Nat}{sp':Nat->Bool}{W W':World}:∀(ts:List TypeId)(_:ts.all (λt=>P.readableRec t&&decide (t<P.types.size))=true)
 (vs:List Value) (ds:List (DataW H)) (ps:List MemPlace),DataW.TrodAll enc P W base (λ_=>true) true ts vs ds ps->(∀p∈ps,W.sameAt W' p)->(∀p∈ps,sp' p.block=true)->DataW.TrodAll enc P W' base sp' true ts vs ds ps
 |[],_,vs,ds,ps,h,_,_=>by
  cases vs<;>cases ds<;>simp[DataW.TrodAll]at h ⊢;exact h
 |t::ts,ht,vs,ds,ps,h,h1,h2=>by
  rw[ak1,aj0,aj0]at ht;cases vs with
  |nil=>cases ds<;>simp[DataW.TrodAll]at h
  |cons v vs=>
   cases ds with
   |nil=>simp[DataW.TrodAll]at h
   |cons d ds=>
    obtain⟨a,b,g1,g2,rfl⟩:=h;exact⟨a,b,WideElems.Trod_stays hl ht.1.1 (ak4 ht.1.2) g1 (λp hp=>h1 p (akR _ hp)) (λp hp=>h2 p (akR _ hp)),
     LD hl ts ht.2 vs ds b g2 (λp hp=>h1 p (alg _ hp)) (λp hp=>h2 p (alg _ hp)),rfl⟩
theorem trodAll_length{base:Nat}{sp:Nat->Bool}{hd:Bool}{W:World}:∀(ts:List TypeId)(vs:List Value)(ds:List (DataW H))(ps:List MemPlace),DataW.TrodAll enc P W base sp hd ts vs ds ps->ds.length=ts.length
 |[],vs,ds,ps,h=>by cases vs<;>cases ds<;>simp[DataW.TrodAll]at h ⊢
 |t::ts,vs,ds,ps,h=>by
  cases vs with
  |nil=>cases ds<;>simp[DataW.TrodAll]at h
  |cons v vs=>
   cases ds with
   |nil=>simp[DataW.TrodAll]at h
   |cons d ds=>obtain⟨a,b,g1,g2,rfl⟩:=h;simp[trodAll_length ts vs ds b g2]
theorem ad8{fn:Func}{s:ChangeSpec}{apart fresh handsOn again:Bool}{W W':World}{args:Array Value}{ds gs:List (DataW H)}{before:List MemPlace}{tb:TypeId}
 (hvars:s.vars=[]) (hspec:∀l:List (DataW H),l.length=fn.params.toList.length->(s.fn H l).results=[.lit (.bool true)]/\(s.fn H l).args=l/\(s.fn H l).vars=[])
 (hres:fn.resultTypes=#[tb]) (hb:P.underlying tb=some .bool) (hl:laidOutB P=true) (hread:fn.params.toList.all (λt=>P.readableRec t&&decide (t<P.types.size))=true)
 (hW:DataW.Whole enc P fn.params.toList s.vars apart W args.toList ds gs before) (hos:W'.os=W.os) (hout:W'.output=W.output) (hheap:∀b,b<W.heap.size->W'.heap[b]? =W.heap[b]?):
 s.post enc P fn apart fresh handsOn again W args (.bool true) W':=by
 have hlt:=hW.lt;have hW0:=hW;obtain⟨p,q,hA,hV,hpq,hz,hn⟩:=hW;rw[hvars]at hV;have hg:gs=[]/\q=[]:=by
  cases gs with
  |nil=>exact⟨rfl,hV⟩
  |cons g gs=>simp[DataW.TrodVars]at hV
 obtain⟨rfl,rfl⟩:=hg;rw[akz]at hpq;subst hpq;have hlen:=trodAll_length _ _ _ _ hA;obtain⟨r1,r2,r3⟩:=hspec (ds++[]) (by simpa using hlen);rw[akz]at r1 r2 r3;have hsame:∀x∈before,W.sameAt W' x:=λx hx=>ad7 hheap (hlt x hx);have R:∀(b:Nat)(sp:Nat->Bool)(hd:Bool),DataW.TrodAll enc P W' b sp hd fn.resultTypes.toList ((Value.bool true).resultList fn.resultTypes.size) [.lit (.bool true)] []:=by intro b sp hd;rw[hres];exact⟨[],[],⟨1,by simp[DataW.trod,Value.cells,hb]⟩,rfl,rfl⟩
 have A:∀sp:Nat->Bool,(∀x∈before,sp x.block=true)->DataW.TrodAll enc P W' 0 sp true fn.params.toList args.toList ds before:=λsp hsp=>LD hl _ hread _ _ _ hA hsame hsp;have hold:∀x∈before,(λb=>decide (b<W.heap.size)) x.block=true:=λx hx=>by simpa using hlt x hx
 refine⟨ds,[],before,[],before,[],hW0,?_,?_,?_,ad6 hos hout hheap _,λ_=>⟨?_,.lit (.bool true)::ds,[],before,⟨before,[],?_,?_,by simp,?_,hn⟩,λx hx _=>hx⟩⟩
 .rw[akz,r1];exact R _ _ _
 .rw[akz,r2];exact A _ hold
 .rw[akz,r3,hvars];rfl
 .intro j t r h1 h2;rw[hres]at h1 h2
  match j with
  |0=>
   simp[Value.resultList]at h1 h2;subst h1 h2;simp[Value.okWide,hb,Go.Cell.okWide,Go.Cell.ok]
  |j+1=>simp at h1
 .exact ChangeShapes.trodAll_append (A _ (λ_ _=>rfl)) (R _ _ _)
 .rw[hvars];rfl
 .intro b off hp;have hbl:=hlt _ hp;have e:W'.frozen? ⟨b,off,none⟩=W.frozen? ⟨b,off,none⟩:=by unfold World.frozen?;simp only;rw[hheap b hbl]
  rw[e];exact hz b off hp
end Go.Fw
namespace Go.Fw
open Go
end Go.Fw
namespace Go.Fw
open Go
theorem PK{H:Type}{enc:TypeId×Value->H}{C:Checked}{G:iC}{os:Os}{f:FuncId}{fn:Func}{s:ChangeSpec}{conds:List PathCond}{apart fresh handsOn again:Bool}{tb:TypeId}{sh:List fB}{F:gW sh->Prop×Out}
 {X:World->Prop} (hX:∀w w':World,w.heap=w'.heap->X w->X w')
 (own:ownKnob C.prog.godebug=none) (started:os.Started) (noInit:C.prog.inits.idxOf? f=none) (hfn:C.prog.funcs[f]? =some fn)
 (witness:∃(w:World)(tape:Tape)(i:Input),w.os=os/\(w.forCall tape i).Shaped C.prog/\i.vars=[]/\Input.okWide C.prog (w.forCall tape i) .any w.heap.size f i/\
   ((s.pre enc C.prog fn conds apart (w.forCall tape i).memory i.args/\X (w.forCall tape i).memory)/\sizedMet enc C.prog fn (OpenSpec.ofChange s) apart (w.forCall tape i).memory i.args)/\({}:Assume).holds C.prog (lone (Frame.enter C.prog f i.args .normal) [] (w.forCall tape i)))
 (hcon:fZ C.prog G f (rP sh F)) (hsh:ET C.prog fn.params.toList=some sh) (hF:∀x,DU sh x->(F x).1/\(F x).2=VG) (hG:∀w,X w->w.ShapedOpen C.prog->G.ok w)
 (hvars:s.vars=[]) (hspec:∀l:List (DataW H),l.length=fn.params.toList.length->(s.fn H l).results=[.lit (.bool true)]/\(s.fn H l).args=l/\(s.fn H l).vars=[])
 (hres:fn.resultTypes=#[tb]) (hb:C.prog.underlying tb=some .bool) (hl:laidOutB C.prog=true) (hread:fn.params.toList.all (λt=>C.prog.readableRec t&&decide (t<C.prog.types.size))=true):
 ReturnsInHanded {} C os f .any (λw args=>(s.pre enc C.prog fn conds apart w args/\X w)/\sizedMet enc C.prog fn (OpenSpec.ofChange s) apart w args) (s.post enc C.prog fn apart fresh handsOn again):=by
 refine returnsInHanded_of_calls own started noInit witness ?_;intro w tape i _ afs _ hok hpre _;obtain⟨_,_,_,fn',hfn',_,_,_,_,hval⟩:=hok;have e:fn'=fn:=Option.some.inj (hfn'.symm.trans hfn);subst e;obtain⟨⟨⟨ds,gs,before,hw,hc⟩,hx⟩,hz⟩:=hpre;have hW:=DataW.Whole.of_heap (w':=w.forCall tape i) (by rfl) hw;have hW0:=hW;obtain⟨p,q,hA,_⟩:=hW;refine(ac6 hcon hsh hF (hG (w.forCall tape i) (hX _ _ (by rfl) hx) afs) hA hval).mono ?_;rintro e W' ⟨rfl,h1,h2,_,h3⟩;exact ChangeSpec.post_blind (ad8 hvars hspec hres hb hl hread hW0 h1 h2 h3)
end Go.Fw
