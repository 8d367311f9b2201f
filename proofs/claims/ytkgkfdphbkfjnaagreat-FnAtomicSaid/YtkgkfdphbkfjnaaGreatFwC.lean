import Derived.Test.YtkgkfdphbkfjnaaGreatFwD
import Derived.Test.YtkgkfdphbkfjnaaGreatFwB
import Derived.Test.YtkgkfdphbkfjnaaGreatFwA
import Derived.ChangeArms
import Derived.WideKeyArgs
import Derived.ChangeSame
import Derived.ChangeOld
import Derived.Handed
import Derived.IntWalk
import Derived.Laws.IdiomCopy
import Derived.ProofKit
namespace Go.Fw
open Go
variable {P:Program} {w0:World} {M:Nat->Prop} {T:Ext} {γ γ':Nat->Value} {st:St} {a:Act} {w w':World} {Θ:jK} {Γ:lN}
structure J8 where
 amC:List XI
 c:Shape
 v:Shape
structure Hints where
 own:Nat->Bool
 loops:Nat->Option J8
 cuts:Nat->Option J8
 upd:List Nat
 frz:Nat->List Pre
def zS:Code->Option Nat
 |.region id _ _=>some id
 |.seq x y=>match zS x with|some n=>some n|none=>zS y
 |.cond _ x y=>match zS x with|some n=>some n|none=>zS y
 |.block _ x|.loop x=>zS x
 |_=>none
def cutAt(H:Hints)(y:Code):Option J8:=match zS y with
 |some n=>H.cuts n
 |none=>none
def Jj(Θ:jK)(Γ:lN)(H:Hints):Code->(Exit->St->Prop)->St->Prop
 |.skip,Q,st=>Q .normal st
 |.region id ops false,Q,st=>Uj (H.frz id) (runs Θ Γ H.own ops.toList (Q .normal) ops.toList) st
 |.region id ops true,Q,st=>Uj (H.frz id) (Qj Θ Γ H.own H.upd ops.toList (Q .normal)) st
 |.seq x y,Q,st=>match cutAt H y with
  |none=>Jj Θ Γ H x (λe s=>match e with|.normal=>Jj Θ Γ H y Q s|e=>Q e s) st
  |some sp=>match sp.c.read (only sp.c sp.v st)with
   |some x0=>∃(J:sp.v.den->Prop),Jj Θ Γ H x (λe s=>match e with
     |.normal=>match settles s sp.amC with
      |some s1=>match Nat.beq s1.n st.n,sp.c.read (only sp.c sp.v s1),sp.v.read (only sp.c sp.v s1)with
       |true,some x1,some y1=>x1=x0/\J y1
       |_,_,_=>False
      |none=>False
     |e=>Q e s) st/\∀y1,J y1->Jj Θ Γ H y Q (joint st.n sp.c sp.v x0 y1)
   |none=>False
 |.cond c x y,Q,st=>match st.ev c with
  |.sv (.one (.bool b))=>cond b (Jj Θ Γ H x Q st) (Jj Θ Γ H y Q st)
  |_=>False
 |.block id c,Q,st=>Jj Θ Γ H c (λe s=>match e with
  |.exit i=>match Nat.beq i id with|true=>Q .normal s|false=>Q (.exit i) s
  |e=>Q e s) st
 |.exit id,Q,st=>Q (.exit id) st
 |.ret,Q,st=>Q .ret st
 |.loop c,Q,st=>match zS c with
  |some n=>match H.loops n with
   |some sp=>match settles st sp.amC with
    |some s0=>match sp.c.read (only sp.c sp.v s0),sp.v.read (only sp.c sp.v s0)with
     |some x0,some y0=>∃(I:sp.v.den->Prop)(μ:sp.v.den->Nat),I y0/\∀y,I y->
       Jj Θ Γ H c (λe s=>match e with
        |.normal=>match settles s sp.amC with
         |some s1=>match Nat.beq s1.n s0.n,sp.c.read (only sp.c sp.v s1),sp.v.read (only sp.c sp.v s1)with
          |true,some x1,some y1=>x1=x0/\I y1/\μ y1<μ y
          |_,_,_=>False
         |none=>False
        |e=>Q e s) (joint s0.n sp.c sp.v x0 y)
     |_,_=>False
    |none=>False
   |none=>False
  |none=>False
 |_,_,_=>False
theorem XJ{G:kJ}(hE:uT P G Θ Γ w0 M)(hm:P.follows .mixedOrders=true)(H:Hints):∀(c:Code)(QA:Exit->St->Prop)(Q:Exit->Act->World->Prop)(st:St)(γ:Nat->Value)(a:Act)(w:World),
 Rel w0 M T γ st a w->Jj Θ Γ H c QA st->(∀e s γ' a' w',QA e s->Rel w0 M T γ' s a' w'->Q e a' w')->c.wp P Q a w:=by
 intro c
 induction c with
 |skip=>intro QA Q st γ a w h ha hQ;exact wp_skip (hQ _ _ _ _ _ ha h)
 |region id ops d=>
  intro QA Q st γ a w h ha hQ;cases d with
  |false=>
   obtain⟨s0,γ0,h0,hk0⟩:=FP (K:=runs Θ Γ H.own ops.toList (QA .normal) ops.toList) (H.frz id) st γ h ha;exact ajJ hE h0 hk0 λs γ' a' w' hK hR=>hQ _ _ _ _ _ hK hR
  |true=>
   obtain⟨s0,γ0,h0,hk0⟩:=FP (K:=Qj Θ Γ H.own H.upd ops.toList (QA .normal)) (H.frz id) st γ h ha;exact anJ hE hm h0 hk0 λs γ' a' w' hK hR=>hQ _ _ _ _ _ hK hR
 |seq x y ihx ihy=>
  intro QA Q st γ a w h ha hQ;rw[Jj]at ha;split at ha
  .refine wp_seq (ihx _ _ st γ a w h ha ?_);intro e s γ' a' w' hq hR;cases e<;>first|exact ihy _ _ s γ' a' w' hR hq hQ|exact hQ _ _ _ _ _ hq hR
  .next sp hsp=>
   split at ha
   .next x0 hx=>
    obtain⟨J,h1,h2⟩:=ha;refine wp_seq (ihx _ _ st γ a w h h1 ?_);intro e s γ' a' w' hq hR;cases e with
    |normal=>
     simp only at hq;split at hq
     .next s1 hs1=>
      split at hq
      .next x1 y1 hsn hx1 hy1=>obtain⟨rfl,hJ⟩:=hq;obtain⟨γ1,hR1⟩:=Rel.settles _ hR hs1;have hR2:=hR1.joint hx1 hy1;rw[aus hsn]at hR2;exact ihy _ _ _ γ1 a' w' hR2 (h2 _ hJ) hQ
      .exact hq.elim
     .exact hq.elim
    |_=>exact hQ _ _ _ _ _ hq hR
   .exact ha.elim
 |cond c x y ihx ihy=>
  intro QA Q st γ a w h ha hQ;rw[Jj]at ha;split at ha
  .next b hb=>
   have hv:a.eval c=.bool b:=by have:=jl h c;rw[hb]at this;exact this
   refine wp_cond_split hv (λe=>?_) (λe=>?_)
   .subst e;exact ihx _ _ st γ a w h ha hQ
   .subst e;exact ihy _ _ st γ a w h ha hQ
  .exact ha.elim
 |block id c ih=>
  intro QA Q st γ a w h ha hQ;refine wp_block (ih _ _ st γ a w h ha ?_);intro e s γ' a' w' hq hR;cases e with
  |exit i=>
   simp only[Exit.inBlock];cases hb:Nat.beq i id with
   |true=>
    simp only[hb]at hq;rw[if_pos (aus hb)];exact hQ _ _ _ _ _ hq hR
   |false=>
    simp only[hb]at hq;rw[if_neg (by rintro rfl;simp at hb)];exact hQ _ _ _ _ _ hq hR
  |_=>exact hQ _ _ _ _ _ hq hR
 |loop c ih=>
  intro QA Q st γ a w h ha hQ;rw[Jj]at ha;split at ha
  .split at ha
   .next sp hsp=>
    split at ha
    .next s0 hs0=>
     split at ha
     .next x0 y0 hx hy=>
      obtain⟨I,μ,h0,hI⟩:=ha;obtain⟨γ0,hR0⟩:=Rel.settles _ h hs0
      let J:sp.v.den->Act->World->Prop:=λy a' w'=>∃γ',Rel w0 M T γ' (joint s0.n sp.c sp.v x0 y) a' w'
      have key:∀(n:Nat)(y:sp.v.den),μ y=n->I y->∀a' w',J y a' w'->∀(b:Frame)(k:List Item)(cs:List Frame),
       ∃e a'' w'',Q e a'' w''/\Arrives P (lone (b.at a' (.code c:: .inLoop c::k)) cs w') b k cs e a'' w'':=by
       intro n
       induction n using Nat.strongRecOn with
       |_ n ihn=>
        intro y hμ hy' a' w' ⟨γ',hR⟩ b k cs;have hbody:=ih _ (Exit.then (λa2 w2=>∃y2,I y2/\μ y2<μ y/\J y2 a2 w2) Q) _ γ' a' w' hR (hI y hy') ?_
        .obtain⟨e,a1,w1,hq,harr⟩:=hbody b (.inLoop c::k) cs;cases e with
         |normal=>
          obtain⟨y2,hI2,hlt,hJ2⟩:=hq;obtain⟨e2,a2,w2,hq2,arI⟩:=ihn (μ y2) (hμ▸hlt) y2 rfl hI2 a1 w1 hJ2 b k cs;exact⟨e2,a2,w2,hq2,.of_steps (Steps.trans harr (.one step_inLoop)) arI⟩
         |exit id=>exact⟨_,a1,w1,hq,.pass (x:=.inLoop c) rfl (λ_ _=>.inl (by simp)) harr⟩
         |goto l=>exact⟨_,a1,w1,hq,.pass (x:=.inLoop c) rfl (λ_ _=>.inl (by simp)) harr⟩
         |ret=>exact⟨_,a1,w1,hq,.pass (x:=.inLoop c) rfl (λ_ _=>.inl (by simp)) harr⟩
         |panic ch=>exact⟨_,a1,w1,hq,.pass (x:=.inLoop c) rfl (λ_ _=>.inl (by simp)) harr⟩
         |outgrown=>exact⟨_,a1,w1,hq,.pass (x:=.inLoop c) rfl (λ_ _=>.inl (by simp)) harr⟩
        .intro e s γ2 a2 w2 hq hR2;cases e with
         |normal=>
          simp only at hq;split at hq
          .next s1 hs1=>
           split at hq
           .next x1 y1 hsn hx1 hy1=>obtain⟨rfl,hI1,hlt⟩:=hq;obtain⟨γ3,hR3⟩:=Rel.settles _ hR2 hs1;have hJ:=hR3.joint hx1 hy1;rw[aus hsn]at hJ;exact⟨y1,hI1,hlt,_,hJ⟩
           .exact hq.elim
          .exact hq.elim
         |_=>exact hQ _ _ _ _ _ hq hR2
      intro b k cs;obtain⟨e,a',w',hq,harr⟩:=key _ y0 rfl h0 a w ⟨_,hR0.joint hx hy⟩ b k cs;exact⟨e,a',w',hq,.of_steps (.one step_loop) harr⟩
     .exact ha.elim
    .exact ha.elim
   .exact ha.elim
  .exact ha.elim
 |rangeFunc f ps x y ihx ihy=>intro QA Q st γ a w h ha hQ;exact ha.elim
 |exit id=>intro QA Q st γ a w h ha hQ;exact wp_exit (hQ _ _ _ _ _ ha h)
 |scope c ih=>intro QA Q st γ a w h ha hQ;exact ha.elim
 |label l=>intro QA Q st γ a w h ha hQ;exact ha.elim
 |goto l=>intro QA Q st γ a w h ha hQ;exact ha.elim
 |ret=>intro QA Q st γ a w h ha hQ;exact wp_ret (hQ _ _ _ _ _ ha h)
 |refuse s=>intro QA Q st γ a w h ha hQ;exact ha.elim
def Arg.av:Arg->AV
 |.sv v=>.sv v
 |.kp cs=>.dB cs 0
 |.fn f caps=>.fn f caps
 |.own _ _ _|.ptr _=>.undef
def entry(n:Nat)(args:List Arg):St:=
 {n:=n,tmps:=λt=>match args[t]? with|some v=>v.av|none=>.undef,ah:=λ_=>none}
def Qk(st:St)(o:Nat):Bool:=match st.ah o with|some (.arr _ _ _ _)=>true|_=>false
def ad8(Θ:jK)(st:St):ResultVar->Option SV
 |.tmp t=>match st.tmps t with|.sv v=>some v|_=>none
 |.cell t ty=>match Θ ty,st.tmps t with
  |some ti,.bT o off=>match st.ah o with
   |some (.var cs)=>mg ti cs off
   |_=>none
  |_,_=>none
def Ot(Θ:jK)(st:St):List ResultVar->Option (List SV)
 |[]=>some []
 |r::rs=>match ad8 Θ st r,Ot Θ st rs with
  |some v,some vs=>some (v::vs)
  |_,_=>none
def outOf:SV->Bool×List gU
 |.one c=>(false,[.plain c])
 |.agg cs=>(true,cs.map .plain)
def outs:List SV->List (Bool×List gU)
 |[]=>[]
 |v::vs=>outOf (v.kill λ_=>true)::outs vs
def fin(Θ:jK)(rv:List ResultVar)(st:St):Option Out:=
 match Ot Θ (st.freeze (Qk st)) rv with
 |some vs=>some ⟨outs vs,none⟩
 |none=>none
theorem Ql:∀(k:Nat)(cs:List Cell),kL k (cs.map .plain)=(cs,[])
 |_,[]=>rfl
 |k,c::cs=>by simp only[auW,kL,Ql (k+1) cs,gU.take,avr]
theorem ak7(k:Nat)(v:SV):yD k (outOf v)=(v,[]):=by
 cases v with
 |one c=>rfl
 |agg cs=>simp only[yD,outOf,Ql]
theorem aqg(v:Value)(t:TypeId)(b off:Nat)(hv:v=.pointer (some ⟨b,off,none⟩)):Instr.loadAt t v=(do loadVar t (← asAddr v)):=by subst hv;rfl
def Ld(tmps:Array Value):ResultVar->Sem Value
 |.tmp t=>pure (tmps.getD t undef)
 |.cell x t=>do loadVar t (← asAddr (tmps.getD x undef))
theorem Ul(fn:Func)(tmps:Array Value):results fn tmps=(do let vs ← fn.results.mapM (Ld tmps);pure (if h:vs.size=1 then vs[0]else .tuple vs)):=by unfold results;congr 1
theorem ajL(hΘ:∀t ti,Θ t=some ti->mr P t ti)(h:Rel w0 M T γ st a w){r:ResultVar}{v:SV}(hf:ad8 Θ st r=some v):
 ∃u,(Ld a.tmps r).run P w=.ok u w/\fB (aA w0 T γ st w) v u:=by
 cases r with
 |tmp t=>
  simp only[ad8]at hf;split at hf
  .next e=>cases hf;have:=h.tmps t;rw[e]at this;exact⟨_,rfl,this⟩
  .cases hf
 |cell x t=>
  simp only[ad8]at hf;split at hf
  .next ti o off ht hx=>
   split at hf
   .next cs ho=>have hv:=h.tmps x;rw[hx]at hv;obtain⟨b,cs',_,_,hv'⟩:=hv;obtain⟨u,hu,hr⟩:=Qc hΘ h ht (x:=.tmp x) (.inl ⟨o,off,cs,hx,ho,hf⟩);refine⟨u,?_,hr⟩;rw[Ld,← aqg _ t b off hv'];exact hu
   .cases hf
  .cases hf
theorem Ou(hΘ:∀t ti,Θ t=some ti->mr P t ti)(h:Rel w0 M T γ st a w):∀(rs:List ResultVar)(vs:List SV),Ot Θ st rs=some vs->
 ∃us,(rs.mapM (Ld a.tmps)).run P w=.ok us w/\
  fD (aA w0 T γ st w) vs us
 |[],vs,hf=>by cases hf;exact⟨[],rfl,trivial⟩
 |r::rs,vs,hf=>by
  rw[Ot]at hf;split at hf
  .next v vs' h1 h2=>cases hf;obtain⟨u,hu,hr⟩:=ajL hΘ h h1;obtain⟨us,hus,hrs⟩:=Ou hΘ h rs vs' h2;refine⟨u::us,?_,hr,hrs⟩;rw[axI,auP,hu];simp only[ave,auP,hus,avu]
  .cases hf
theorem fD.length{X:V}:∀(cs:List SV)(vs:List Value),fD X cs vs->vs.length=cs.length
 |[],[],_=>rfl
 |_::cs,_::vs,⟨_,h⟩=>by simp[fD.length cs vs h]
 |[],_::_,H|_::_,[],H=>by cases H
theorem fD.get{X:V}:∀(cs:List SV)(vs:List Value)(i:Nat)(c:SV),fD X cs vs->cs[i]? =some c->∃v,vs[i]? =some v/\fB X c v
 |[],_,_,_,_,h=>by simp at h
 |c::cs,v::vs,0,d,⟨h1,_⟩,h=>by simp at h;subst h;exact⟨v,rfl,h1⟩
 |c::cs,v::vs,i+1,d,⟨_,h2⟩,h=>by
  obtain⟨u,hu,hr⟩:=fD.get cs vs i d h2 (by simpa using h);exact⟨u,by simpa using hu,hr⟩
 |_::_,[],_,_,H,_=>by cases H
theorem pK.length{X:V}:∀(cs:List Arg)(vs:List Value),pK X cs vs->vs.length=cs.length
 |[],[],_=>rfl
 |_::cs,_::vs,⟨_,h⟩=>by simp[pK.length cs vs h]
 |[],_::_,H|_::_,[],H=>by cases H
theorem pK.get{X:V}:∀(cs:List Arg)(vs:List Value)(i:Nat)(c:Arg),pK X cs vs->cs[i]? =some c->∃v,vs[i]? =some v/\rP X c v
 |[],_,_,_,_,h=>by simp at h
 |c::cs,v::vs,0,d,⟨h1,_⟩,h=>by simp at h;subst h;exact⟨v,rfl,h1⟩
 |c::cs,v::vs,i+1,d,⟨_,h2⟩,h=>by
  obtain⟨u,hu,hr⟩:=pK.get cs vs i d h2 (by simpa using h);exact⟨u,by simpa using hu,hr⟩
 |_::_,[],_,_,H,_=>by cases H
theorem rP.av{X:V}:∀(c:Arg)(v:Value),rP X c v->bJ X c.av v
 |.sv _,_,h|.kp _,_,h|.fn _ _,_,h=>h
 |.own _ _ _,_,h|.ptr _,_,h=>h.elim
theorem anL{args:List Arg}{vs:Array Value}{S:Nat->Prop}(n:Nat)(hn:args.length<=n)
 (h:pK ⟨w,w.heap.size,S,λ_=>undef,λ_=>none⟩ args vs.toList):
 Rel w (λ_=>False) ⟨S,λ_=>none,λ_ _ h=>by cases h⟩ (λ_=>undef) (entry n args) {tmps:=vs++Array.replicate (n-vs.size) undef,defers:=[]} w:=by
 have hl:vs.size=args.length:=by simpa using pK.length _ _ h
 refine⟨λ_ h=>h.elim,rfl,?_,rfl,rfl,rfl,auI _,λ_ _ _=>rfl,λt=>?_,(λo x hx=>by cases hx),(λo x b hx=>by cases hx),(λo x p y b hx=>by cases hx),(λo v cs hN=>by cases hN)⟩
 .simp[entry];omega
 .simp only[entry];cases ha:args[t]? with
  |none=>trivial
  |some v=>
   obtain⟨u,hu,hr⟩:=pK.get _ _ t v h ha;have:(vs++Array.replicate (n-vs.size) undef).getD t undef=u:=by
    have hlt:t<args.length:=by
     rcases auJ t args.length with h'|h'
     .exact h'
     .rw[avi h']at ha;cases ha
    have hlt':t<vs.size:=by omega
    rw[awf,axl hlt'];have:vs[t]? =some u:=by simpa using hu
    rw[this];rfl
   rw[this];exact rP.av v u hr
end Go.Fw
namespace Go.Fw
def codeOf(fn:Func):Code:=match fn.body with|some c=>c|none=>.skip
def ad9:List (Nat×TI)->jK
 |[],_=>none
 |(t,x)::r,i=>match Nat.beq i t with|true=>some x|false=>ad9 r i
def MQ:List (Nat×LV)->lN
 |[],_=>none
 |(t,x)::r,i=>match Nat.beq i t with|true=>some x|false=>MQ r i
def amD:List (Nat×J8)->Nat->Option J8
 |[],_=>none
 |(t,x)::r,i=>match Nat.beq i t with|true=>some x|false=>amD r i
def apQ:List (Nat×List Pre)->Nat->List Pre
 |[],_=>[]
 |(n,z)::r,i=>match Nat.beq i n with|true=>z|false=>apQ r i
def hints(own:List Nat)(l c:List (Nat×J8))(u:List Nat)(z:List (Nat×List Pre)):Hints:=⟨bn own,amD l,amD c,u,apQ z⟩
end Go.Fw
namespace Go.Fw
open Go
variable {P:Program} {Θ:jK} {Γ:lN}
inductive tH where
 |one (c:iC)
 |agg (l:List iC)
@[reducible] def tH.den:tH->Type
  |.one c=>c.den
  |.agg l=>mO l
def tH.val:(s:tH)->s.den->SV
 |.one c,x=>.one (c.cell x)
 |.agg l,x=>.agg (iK l x)
def tH.read:(s:tH)->SV->Option s.den
 |.one c,.one x=>c.read x
 |.agg l,.agg xs=>kM l xs
 |_,_=>none
theorem tH.weak{X:V}(s:tH)(x:SV)(d:s.den)(v:Value)(hr:s.read x=some d)(hv:fB X x v):fB X (s.val d) v:=by
 unfold tH.read at hr;split at hr
 .exact iC.weak _ _ _ _ hr hv
 .obtain⟨vs,e,h⟩:=hv;exact⟨vs,e,GI _ _ _ _ hr h⟩
 .cases hr
@[reducible] def xO:List tH->Type
  |[]=>Unit
  |s::r=>s.den×xO r
def uf:(l:List tH)->xO l->List SV
 |[],_=>[]
 |s::r,x=>s.val x.1::uf r x.2
def RX:(l:List tH)->List SV->Option (xO l)
 |[],[]=>some ()
 |s::r,x::xs=>match s.read x,RX r xs with
  |some a,some b=>some (a,b)
  |_,_=>none
 |_,_=>none
theorem anM{X:V}:∀(l:List tH)(xs:List SV)(d:xO l)(vs:List Value),RX l xs=some d->fD X xs vs->fD X (uf l d) vs
 |[],[],_,_,_,hv=>hv
 |s::r,x::xs,d,vs,hr,hv=>by
  rw[RX]at hr;split at hr
  .next a b h1 h2=>
   cases hr;cases vs with
   |nil=>cases hv
   |cons v vs=>exact⟨tH.weak s x a v h1 hv.1,anM r xs b vs h2 hv.2⟩
  .cases hr
 |[],_::_,_,_,hr,_=>by simp[RX]at hr
 |_::_,[],_,_,hr,_=>by simp[RX]at hr
mutual
def CT.uU:(c:CT)->c.den->Prop
 |.int k,(n:Int)=>k.min<=n/\n<=k.max
 |.bool,_=>True
 |.str,(s:Bytes)=>s.length<=maxLen
 |.sl _ r,(l:List r.den)=>l.length<=maxLen/\∀x∈l,r.uU x
def aN.uU:(r:aN)->r.den->Prop
 |.nil,_=>True
 |.cons c r,x=>c.uU x.1/\r.uU x.2
end
mutual
theorem jC.uU{h:Array Obj}{S:Nat->Prop}:∀(c:CT)(v:Value)(x:c.den),jC h S c v x->c.uU x
 |.int k,v,(n:Int),H=>by rw[jC]at H;rw[CT.uU];exact H.2
 |.bool,v,(b:Bool),H=>by rw[CT.uU];trivial
 |.str,v,(s:Bytes),H=>by rw[jC]at H;rw[CT.uU];exact H.2
 |.sl e r,v,(l:List r.den),H=>by
  rw[jC]at H;rw[CT.uU];refine⟨H.1,λx hx=>?_⟩;obtain⟨i,hi,rfl⟩:=awL.1 hx;rcases H.2 with⟨hnil,_⟩|⟨b,off,cap,cs,t,fz,_,_,_,_,hr⟩
  .subst hnil;simp at hi
  .exact bM.uU r _ _ (hr i _ (auw hi))
theorem bM.uU{h:Array Obj}{S:Nat->Prop}:∀(r:aN)(vs:List Value)(x:r.den),bM h S r vs x->r.uU x
 |.nil,vs,_,H=>by rw[aN.uU];trivial
 |.cons c r,vs,(x,y),H=>by rw[bM]at H;obtain⟨v,vs',_,h1,h2⟩:=H;rw[aN.uU];exact⟨jC.uU c v x h1,bM.uU r vs' y h2⟩
end
def iC.uU:(c:iC)->c.den->Prop
 |.int k,(n:Int)=>k.min<=n/\n<=k.max
 |.str,(s:Bytes)=>s.length<=maxLen
 |.sl _ r _,(l:List r.den)=>l.length<=maxLen/\∀x∈l,r.uU x
 |_,_=>True
def ZN:(l:List iC)->mO l->Prop
 |[],_=>True
 |c::r,x=>c.uU x.1/\ZN r x.2
def tH.uU:(s:tH)->s.den->Prop
 |.one c,x=>c.uU x
 |.agg l,x=>ZN l x
theorem iC.ZO{X:V}(c:iC)(x:c.den)(v:Value)(h:bC X (c.cell x) v):c.uU x:=by
 cases c with
 |int k=>exact h.2
 |str=>exact h.2
 |sl e r fr=>
  have h':jC X.w.heap (X.dU fr) (.sl e r) v x:=h;have:=jC.uU (.sl e r) v x h';rw[CT.uU]at this;exact this
 |_=>trivial
theorem Le{X:V}:∀(l:List iC)(x:mO l)(vs:List Value),ak X (iK l x) vs->ZN l x
 |[],_,_,_=>trivial
 |c::r,x,v::vs,h=>⟨iC.ZO c x.1 v h.1,Le r x.2 vs h.2⟩
 |_::_,_,[],h=>by cases h
inductive ji where
 |v (s:tH)
 |kp (l:List iC)
 |fn (f:FuncId) (l:List (List iC))
@[reducible] def ji.den:ji->Type
  |.v s=>s.den
  |.kp l=>mO l
  |.fn _ l=>D7 l
def ji.val:(s:ji)->s.den->Arg
 |.v s,x=>.sv (s.val x)
 |.kp l,x=>.kp (iK l x)
 |.fn f l,x=>.fn f (La l x)
def ji.read:(s:ji)->Arg->Option s.den
 |.v s,.sv x=>s.read x
 |.kp l,.kp xs=>kM l xs
 |.fn f l,.fn g xs=>match Nat.beq f g with|true=>Ia l xs|false=>none
 |_,_=>none
theorem ji.weak{X:V}(s:ji)(x:Arg)(d:s.den)(v:Value)(hr:s.read x=some d)(hv:rP X x v):rP X (s.val d) v:=by
 unfold ji.read at hr;split at hr
 .exact tH.weak _ _ _ _ hr hv
 .obtain⟨b,e,hk⟩:=hv;exact⟨b,e,ahR hr hk⟩
 .split at hr
  .next hb=>obtain⟨us,e,hk⟩:=hv;rw[ji.val,aus hb];exact⟨us,e,XG _ _ _ _ hr hk⟩
  .cases hr
 .cases hr
@[reducible] def nD:List ji->Type
  |[]=>Unit
  |s::r=>s.den×nD r
def xu:(l:List ji)->nD l->List Arg
 |[],_=>[]
 |s::r,x=>s.val x.1::xu r x.2
def Jk:(l:List ji)->List Arg->Option (nD l)
 |[],[]=>some ()
 |s::r,x::xs=>match s.read x,Jk r xs with
  |some a,some b=>some (a,b)
  |_,_=>none
 |_,_=>none
theorem anN{X:V}:∀(l:List ji)(xs:List Arg)(d:nD l)(vs:List Value),Jk l xs=some d->pK X xs vs->pK X (xu l d) vs
 |[],[],_,_,_,hv=>hv
 |s::r,x::xs,d,vs,hr,hv=>by
  rw[Jk]at hr;split at hr
  .next a b h1 h2=>
   cases hr;cases vs with
   |nil=>cases hv
   |cons v vs=>exact⟨ji.weak s x a v h1 hv.1,anN r xs b vs h2 hv.2⟩
  .cases hr
 |[],_::_,_,_,hr,_=>by simp[Jk]at hr
 |_::_,[],_,_,hr,_=>by simp[Jk]at hr
theorem VP:∀(l:List ji)(d:nD l),(xu l d).length=l.length
 |[],_=>rfl
 |_::r,d=>by simp[xu,VP r d.2]
def agu:(l:List (List iC))->D7 l->Prop
 |[],_=>True
 |c::r,x=>ZN c x.1/\agu r x.2
def ji.uU:(s:ji)->s.den->Prop
 |.v s,x=>s.uU x
 |.kp l,x=>ZN l x
 |.fn _ l,x=>agu l x
def Na:(l:List ji)->nD l->Prop
 |[],_=>True
 |s::r,x=>s.uU x.1/\Na r x.2
theorem abm{X:V}:∀(l:List (List iC))(x:D7 l)(us:List Value),gm X (La l x) us->agu l x
 |[],_,_,_=>trivial
 |c::r,x,u::us,h=>by
  obtain⟨⟨b,hu,arr,t,fz,hf,hh,hc⟩,h2⟩:=h;exact⟨Le c x.1 _ hc,abm r x.2 us h2⟩
 |_::_,_,[],h=>by cases h
theorem ET{X:V}:∀(l:List ji)(x:nD l)(vs:List Value),pK X (xu l x) vs->Na l x
 |[],_,_,_=>trivial
 |.v (.one c)::r,x,v::vs,h=>⟨iC.ZO c x.1 v h.1,ET r x.2 vs h.2⟩
 |.v (.agg l)::r,x,v::vs,h=>by
  obtain⟨ws,hv,hc⟩:=h.1;exact⟨Le l x.1 _ hc,ET r x.2 vs h.2⟩
 |.kp l::r,x,v::vs,h=>by
  obtain⟨b,hu,arr,t,fz,hf,hh,hc⟩:=h.1;exact⟨Le l x.1 _ hc,ET r x.2 vs h.2⟩
 |.fn f l::r,x,v::vs,h=>by
  obtain⟨us,hv,hk⟩:=h.1;exact⟨abm l x.1 _ hk,ET r x.2 vs h.2⟩
 |_::_,_,[],h=>by cases h
def Nb(sh:List ji)(F:nD sh->Prop×Out):VI:=λargs=>
 match Jk sh args with
 |some x=>some (F x)
 |none=>none
def Df:List SV->List (Bool×List gU)
 |[]=>[]
 |v::vs=>outOf v::Df vs
theorem RY:∀(k:Nat)(vs:List SV),iV k (Df vs)=(vs,[])
 |_,[]=>rfl
 |k,v::vs=>by simp only[Df,iV,ak7,RY,avr]
def aea(Θ:jK)(rv:List ResultVar)(dX:List tH)(K:xO dX->Prop)(e:Exit)(st:St):Prop:=
 match e with
 |.normal|.ret=>match Ot Θ (st.freeze (Qk st)) rv with
  |some vs=>match RX dX (vs.map (SV.kill λ_=>true))with
   |some d=>K d
   |none=>False
  |none=>False
 |_=>False
theorem aqh{G:kJ}(hE:EnvB P G Θ Γ)(hm:P.follows .mixedOrders=true){f:FuncId}{fn:Func}{c:Code}(hf:P.funcs[f]? =some fn)(hb:fn.body=some c)(H:Hints){con:VI}{dX:List tH}
 (hwalk:∀args p out,con args=some (p,out)->p->Nat.ble args.length fn.ntmps=true/\∃d:xO dX,out=⟨Df (uf dX d),none⟩/\Jj Θ Γ H c (aea Θ fn.results.toList dX λy=>y=d) (entry fn.ntmps args)):rG P G f con:=by
 intro args p out k S vs w hcon hp hG hrep;obtain⟨hn,d,hout,hw⟩:=hwalk args p out hcon hp;subst hout;have hn':args.length<=fn.ntmps:=by simpa[awI]using hn
 refine calls_of_wp hf hb (XJ ⟨hE,hG,λb hb=>hb.elim⟩ hm H c _ _ _ _ _ _ (anL (S:=S) fn.ntmps hn' hrep) hw ?_);have hret:∀s γ' a' w',aea Θ fn.results.toList dX (λy=>y=d) .ret s->Rel w (λ_=>False) ⟨S,λ_=>none,λ_ _ h=>by cases h⟩ γ' s a' w'->bodyPost P fn (λe w'=>∃v vals,e=.returned v/\w'.os=w.os/\w'.tape=w.tape/\w'.output=w.output/\w.heap.size<=w'.heap.size/\
  (∀b,b<w.heap.size->w'.heap[b]? =w.heap[b]?)/\
  bJ ⟨w',w.heap.size,S,vals,look (Out.take k ⟨Df (uf dX d),none⟩).2⟩ (Out.take k ⟨Df (uf dX d),none⟩).1 v/\
  (∀o x,look (Out.take k ⟨Df (uf dX d),none⟩).2 o=some x->dm ⟨w',w.heap.size,S,vals,look (Out.take k ⟨Df (uf dX d),none⟩).2⟩ o x/\∀b,blk (vals o)=some b->w.heap.size<=b/\b<w'.heap.size)/\
  (∀o x q y b,look (Out.take k ⟨Df (uf dX d),none⟩).2 o=some x->look (Out.take k ⟨Df (uf dX d),none⟩).2 q=some y->o≠q->blk (vals o)=some b->blk (vals q)≠some b)) .ret a' w':=by
  intro s γ' a' w' he hR;refine⟨hR.defers,?_⟩;simp only[aea]at he;split at he
  .next svs hvs=>
   split at he
   .next y hy=>
    subst he;have hRf:=hR.freeze (Qk s);obtain⟨us,hus,hrs⟩:=Ou hE.types hRf _ _ hvs;have hk0:=fD.kill (λ_=>true) hRf svs us hrs;have hk:=anM dX _ y us hy hk0;have htake:Out.take k ⟨Df (uf dX y),none⟩=(match uf dX y with|[v]=>.sv v|l=>.nH l,[]):=by unfold Out.take;simp only[RY];rcases uf dX y with _|⟨v,_|⟨v2,r⟩⟩<;>rfl
    have hmap:(fn.results.mapM (Ld a'.tmps)).run P w'=.ok us.toArray w':=by rw[awT,Sem.run_map,hus];rfl
    refine⟨if h:us.toArray.size=1 then us.toArray[0]else .tuple us.toArray,?_,_,γ',rfl,hR.os,hR.tape,hR.output,hR.grow,λb hb=>hR.kept b hb (λh=>h),?_,?_,?_⟩
    .rw[Ul,auP,hmap];simp only[ave,avu]
    .rw[htake];have hl:=fD.length _ _ hk
     match hm:uf dX y,us,hk,hl with
     |[v],[u],hk,_=>exact hk.1
     |[],[],hk,_=>exact⟨_,by simp,hk⟩
     |v::v2::r,u::u2::us,hk,hl=>exact⟨_,by simp,hk⟩
     |[],_::_,hk,h4|_::_,[],hk,h4|[_],_::_::_,hk,h4|_::_::_,[_],hk,h4=>simp at h4
    .intro o x hx;rw[htake]at hx;cases hx
    .intro o x q y b hx;rw[htake]at hx;cases hx
   .exact he.elim
  .exact he.elim
 intro e s γ' a' w' he hR;cases e with
 |normal=>exact hret s γ' a' w' he hR
 |ret=>exact hret s γ' a' w' he hR
 |_=>exact he.elim
def Gl(sh:List ji)(dX:List tH)(F:nD sh->Prop×xO dX):VI:=Nb sh λx=>((F x).1,⟨Df (uf dX (F x).2),none⟩)
theorem agv{G:kJ}(hE:EnvB P G Θ Γ)(hm:P.follows .mixedOrders=true){f:FuncId}{fn:Func}{c:Code}(hf:P.funcs[f]? =some fn)(hb:fn.body=some c)(H:Hints)
 {sh:List ji} {dX:List tH} {F:nD sh->Prop×xO dX} (hn:Nat.ble sh.length fn.ntmps=true)
 (hwalk:∀x,Na sh x->(F x).1->Jj Θ Γ H c (aea Θ fn.results.toList dX λy=>y=(F x).2) (entry fn.ntmps (xu sh x))):rG P G f (Gl sh dX F):=by
 have base:∀x,Na sh x->rG P G f (λargs=>@ite _ (args=xu sh x) (Classical.propDecidable _) (some ((F x).1,⟨Df (uf dX (F x).2),none⟩)) none):=by
  intro x hin;refine aqh (dX:=dX) hE hm hf hb H ?_;intro args p out hcon hp;split at hcon
  .next e=>
   have hF:((F x).1,(⟨Df (uf dX (F x).2),none⟩:Out))=(p,out):=by simpa using hcon
   have h1:(F x).1=p:=congrArg Prod.fst hF;have h2:(⟨Df (uf dX (F x).2),none⟩:Out)=out:=congrArg Prod.snd hF;have:=hwalk x hin (by rw[h1];exact hp);rw[e];exact⟨by rw[VP];exact hn,(F x).2,h2.symm,this⟩
  .cases hcon
 intro args p out k S vs w hcon hp hG hrep;unfold Gl Nb at hcon;split at hcon
 .next x hx=>have hv:=anN sh args x vs.toList hx hrep;exact base x (ET sh x _ hv) (xu sh x) p out k S vs w (by simp only[if_true];exact hcon) hp hG hv
 .cases hcon
inductive RC where
 |c (s:iC)
 |own (e:TypeId) (r:aN) (fr:Bool)
@[reducible] def RC.den:RC->Type
  |.c s=>s.den
  |.own _ r _=>List r.den
@[reducible] def aeb:List RC->Type
  |[]=>Unit
  |c::r=>c.den×aeb r
def RC.amE:(c:RC)->c.den->gU
 |.c s,x=>.plain (s.cell x)
 |.own e r fr,l=>.own e r l fr
def agw:(l:List RC)->aeb l->List gU
 |[],_=>[]
 |c::r,x=>c.amE x.1::agw r x.2
inductive rM where
 |one (c:RC)
 |agg (l:List RC)
@[reducible] def rM.den:rM->Type
  |.one c=>c.den
  |.agg l=>aeb l
@[reducible] def ny:List rM->Type
  |[]=>Unit
  |s::r=>s.den×ny r
def rM.out:(s:rM)->s.den->Bool×List gU
 |.one c,x=>(false,[c.amE x])
 |.agg l,x=>(true,agw l x)
def iZ:(l:List rM)->ny l->List (Bool×List gU)
 |[],_=>[]
 |s::r,x=>s.out x.1::iZ r x.2
def RC.name:RC->Cell->Option Nat
 |.own _ _ _,.ref o=>some o
 |_,_=>none
def agx:List RC->List Cell->List (Option Nat)
 |c::r,x::xs=>c.name x::agx r xs
 |_,_=>[]
def rM.names:rM->SV->List (Option Nat)
 |.one c,.one x=>[c.name x]
 |.agg l,.agg xs=>agx l xs
 |_,_=>[]
def D8:List rM->List SV->List (Option Nat)
 |s::r,x::xs=>s.names x++D8 r xs
 |_,_=>[]
def RC.read(st:St):(c:RC)->Cell->Option c.den
 |.c s,x=>match x.refs with|[]=>s.read x|_=>none
 |.own e r fr,.ref o=>match st.ah o with
  |some (.arr f s l g)=>match Nat.beq e f&&Oq fr g with
   |true=>if h:s.beq r=true then some (wQ h l)else none
   |false=>none
  |_=>none
 |.own _ r _,.nil=>match Nat.ble 1 r.len with|true=>some []|false=>none
 |_,_=>none
def RZ(st:St):(l:List RC)->List Cell->Option (aeb l)
 |[],[]=>some ()
 |c::r,x::xs=>match c.read st x,RZ st r xs with
  |some a,some b=>some (a,b)
  |_,_=>none
 |_,_=>none
def rM.read(st:St):(s:rM)->SV->Option s.den
 |.one c,.one x=>c.read st x
 |.agg l,.agg xs=>RZ st l xs
 |_,_=>none
def EU(st:St):(l:List rM)->List SV->Option (ny l)
 |[],[]=>some ()
 |s::r,x::xs=>match s.read st x,EU st r xs with
  |some a,some b=>some (a,b)
  |_,_=>none
 |_,_=>none
inductive iw where
 |p (s:ji)
 |own (e:TypeId) (r:aN)
 |ptr (l:List iC)
@[reducible] def iw.den:iw->Type
  |.p s=>s.den
  |.own _ r=>List r.den
  |.ptr l=>mO l
def iw.mode:iw->Mode
 |.p _=>.val
 |.own _ _=>.own
 |.ptr _=>.ptr
def iw.val:(s:iw)->s.den->Arg
 |.p s,x=>s.val x
 |.own e r,l=>.own e r l
 |.ptr l,x=>.ptr (iK l x)
def iw.read:(s:iw)->Arg->Option s.den
 |.p s,x=>s.read x
 |.own e r,.own f s l=>match Nat.beq e f with
  |true=>if h:s.beq r=true then some (wQ h l)else none
  |false=>none
 |.ptr l,.ptr cs=>kM l cs
 |_,_=>none
@[reducible] def jT:List iw->Type
  |[]=>Unit
  |s::r=>s.den×jT r
def vO:(l:List iw)->jT l->List Arg
 |[],_=>[]
 |s::r,x=>s.val x.1::vO r x.2
def ja:(l:List iw)->List Arg->Option (jT l)
 |[],[]=>some ()
 |s::r,x::xs=>match s.read x,ja r xs with
  |some a,some b=>some (a,b)
  |_,_=>none
 |_,_=>none
@[reducible] def mG:List iw->Type
  |[]=>Unit
  |.ptr l::r=>mO l×mG r
  |.p _::r|.own _ _::r=>mG r
def jb:(l:List iw)->mG l->List Eff
 |[],_=>[]
 |.ptr l::r,x=>.var (iK l x.1)::jb r x.2
 |.p _::r,x|.own _ _::r,x=>.lose::jb r x
def Lh(st:St):(i:Nat)->(l:List iw)->Option (mG l)
 |_,[]=>some ()
 |i,.ptr l::r=>match st.ah (i*64+48),Lh st (i+1) r with
  |some (.var cs),some b=>match cs.flatMap Cell.refs,kM l cs with
   |[],some a=>some (a,b)
   |_,_=>none
  |_,_=>none
 |i,.p _::r|i,.own _ _::r=>Lh st (i+1) r
def Arg.avX(i:Nat):Arg->AV
 |.own _ _ _=>.sv (.one (.ref (i*64+49)))
 |.ptr _=>.bT (i*64+48) 0
 |a=>a.av
def GL(n:Nat)(args:List Arg):St:=
 {n:=n,tmps:=λt=>match args[t]? with|some v=>v.avX t|none=>.undef,ah:=dY args}
def aec(st:St)(W:List (Option Nat))(o:Nat):Bool:=Qk st o&&!(Xk o W)
def ai5(Θ:jK)(rv:List ResultVar)(sh:List iw)(dX:List rM)(K:ny dX×mG sh->Prop)(e:Exit)(st:St):Prop:=
 match e with
 |.normal|.ret=>match Ot Θ st rv with
  |some svs=>match Ot Θ (st.freeze (aec st (D8 dX svs))) rv with
   |some vs=>match Bd (D8 dX vs),EU (st.freeze (aec st (D8 dX svs))) dX vs,Lh (st.freeze (aec st (D8 dX svs))) 0 sh with
    |true,some d,some b=>K (d,b)
    |_,_,_=>False
   |none=>False
  |none=>False
 |_=>False
def qZ(sh:List iw)(dX:List rM)(F:jT sh->Prop×(ny dX×mG sh->Prop)):IX:=λargs=>
 match ja sh args with
 |some x=>some ((F x).1,⟨ny dX×mG sh,(F x).2,λt=>⟨iZ dX t.1,none⟩,λt=>jb sh t.2⟩)
 |none=>none
def DC(sh:List iw):List Mode:=sh.map iw.mode
end Go.Fw
namespace Go.Fw
open Go
variable {P:Program} {w0:World} {M:Nat->Prop} {T:Ext} {γ γ':Nat->Value} {st:St} {a:Act} {w w':World} {Θ:jK} {Γ:lN}
def agy(args:List Arg)(γ:Nat->Value)(o:Nat):Option Value:=match dY args o with|some (.var _)=>some (γ o)|_=>none
theorem aoU{args:List Arg}{o:Nat}{cs:List Cell}(h:dY args o=some (.var cs)):o%64=48:=by
 unfold dY at h;split at h
 .split at h<;>cases h
 .split at h
  .next hm=>exact aus hm
  .cases h
 .cases h
def XK(args:List Arg)(γ:Nat->Value)(S:Nat->Prop):Ext where
 S:=λb=>S b\/xq (dY args) γ b
 N:=agy args γ
 n48:=by
  intro p v h;unfold agy at h;split at h
  .next cs hc=>exact aoU hc
  .cases h
theorem zx.get{X:V}:∀(as:List Arg)(vs:List Value)(i:Nat),zx X i as vs->as.length=vs.length/\∀(j:Nat)(b:Arg),as[j]? =some b->∃v,vs[j]? =some v/\Oh X (i+j) b v
 |[],[],_,_=>⟨rfl,λj b h=>by simp at h⟩
 |x::as,v::vs,i,⟨h1,h2⟩=>by
  obtain⟨g1,g2⟩:=zx.get as vs (i+1) h2;refine⟨by simp[g1],λj b hb=>?_⟩;cases j with
  |zero=>simp at hb;subst hb;exact⟨v,rfl,h1⟩
  |succ j=>
   obtain⟨u,hu,hr⟩:=g2 j b (by simpa using hb);exact⟨u,by simpa using hu,by rw[show i+(j+1)=i+1+j by omega];exact hr⟩
 |[],_::_,_,H|_::_,[],_,H=>by cases H
theorem Oh.av{X:V}(i:Nat):∀(c:Arg)(v:Value),Oh X i c v->bJ X (c.avX i) v
 |.own _ _ _,_,h=>h
 |.ptr _,_,h=>h
 |.sv _,_,h|.kp _,_,h|.fn _ _,_,h=>h
theorem aed{args:List Arg}{vs:Array Value}{S:Nat->Prop}(n:Nat)(hn:args.length<=n)
 (h:zx ⟨w,w.heap.size,S,γ,dY args⟩ 0 args vs.toList)
 (ho:∀o x,dY args o=some x->dm ⟨w,w.heap.size,S,γ,dY args⟩ o x/\∀b,blk (γ o)=some b->b<w.heap.size)
 (hs:∀o x q y b,dY args o=some x->dY args q=some y->o≠q->blk (γ o)=some b->blk (γ q)≠some b):
 Rel w (xq (dY args) γ) (XK args γ S) γ (GL n args) {tmps:=vs++Array.replicate (n-vs.size) undef,defers:=[]} w:=by
 obtain⟨hl0,hget⟩:=zx.get _ _ 0 h;have hl:vs.size=args.length:=by simpa using hl0.symm
 have le:V.le ⟨w,w.heap.size,S,γ,dY args⟩ ⟨w,w.heap.size,(XK args γ S).S,γ,dY args⟩:=
  ⟨auI _,λb hb=>⟨⟨hb.1,λhlt=>.inl (hb.2.1 hlt),hb.2.2⟩,rfl⟩,λo cs hx=>⟨⟨cs,hx⟩,rfl⟩,λo e r l fr hx=>⟨⟨l,fr,hx⟩,rfl⟩⟩
 refine⟨λb hb=>.inr hb,rfl,?_,rfl,rfl,rfl,auI _,λ_ _ _=>rfl,λt=>?_,λo x hx=>dm.mono le o x (λ_ _=>rfl) rfl (ho o x hx).1,λo x b hx hb=>⟨(ho o x hx).2 b hb,.inr ⟨o,x,hx,hb⟩⟩,λo x p y b hx hy hop hb=>hs o x p y b hx hy hop hb,λo v cs hN hx=>?_⟩
 .simp[GL];omega
 .simp only[GL];cases ha:args[t]? with
  |none=>trivial
  |some v=>
   obtain⟨u,hu,hr⟩:=hget t v ha;have:(vs++Array.replicate (n-vs.size) undef).getD t undef=u:=by
    have hlt:t<args.length:=by
     rcases auJ t args.length with h'|h'
     .exact h'
     .rw[avi h']at ha;cases ha
    have hlt':t<vs.size:=by omega
    rw[awf,axl hlt'];have:vs[t]? =some u:=by simpa using hu
    rw[this];rfl
   rw[this];rw[auY]at hr;exact bJ.mono le _ _ (Oh.av t v u hr)
 .have hx':dY args o=some (.var cs):=hx;have hN':agy args γ o=some v:=hN;unfold agy at hN';rw[hx']at hN';exact Option.some.inj hN'
def AW(a a':Arg):Prop:=
 (∃e r l,a=.own e r l/\a'=.own e r l)\/(∃cs cs',a=.ptr cs/\a'=.ptr cs'/\∀(X:V) vs,ak X cs vs->ak X cs' vs)\/
 ((∀(X:V) v,bJ X a.av v->bJ X a'.av v)/\(∀i,a.avX i=a.av)/\(∀i,a'.avX i=a'.av)/\(∀e r l,a≠ .own e r l)/\(∀cs,a≠ .ptr cs)/\(∀e r l,a'≠ .own e r l)/\(∀cs,a'≠ .ptr cs))
theorem ji.amF{s:ji}{x:Arg}{d:s.den}(h:s.read x=some d):AW x (s.val d):=by
 refine .inr (.inr ⟨λX v hv=>?_,?_⟩)
 .have hx:rP X x v:=by
   cases x with
   |sv _|kp _|fn _ _=>exact hv
   |own _ _ _|ptr _=>cases s<;>simp[ji.read]at h
  exact rP.av _ _ (ji.weak s x d v h hx)
 .cases x<;>cases s<;>first
   |(simp[ji.read]at h;done)
   |exact⟨λ_=>rfl,λ_=>rfl,(λ_ _ _ e=>by cases e),(λ_ e=>by cases e),(λ_ _ _ e=>by cases e),(λ_ e=>by cases e)⟩
theorem iw.amF{s:iw}{x:Arg}{d:s.den}(h:s.read x=some d):AW x (s.val d):=by
 unfold iw.read at h;split at h
 .exact ji.amF h
 .next e r f s l=>
  split at h
  .next hb=>
   split at h
   .next hs=>cases h;have he:=aus hb;subst he;have hsr:=aN.eq_of_beq s r hs;subst hsr;exact .inl ⟨e,s,l,rfl,rfl⟩
   .cases h
  .cases h
 .next l cs=>exact .inr (.inl ⟨cs,_,rfl,rfl,λX vs hc=>GI _ _ _ _ h hc⟩)
 .cases h
theorem Nc:∀{l:List iw}{xs:List Arg}{d:jT l},ja l xs=some d->(vO l d).length=xs.length/\∀(i:Nat)(a:Arg),xs[i]? =some a->∃a',(vO l d)[i]? =some a'/\AW a a'
 |[],[],_,_=>⟨rfl,λi a h=>by simp at h⟩
 |s::r,x::xs,d,h=>by
  rw[ja]at h;split at h
  .next a b h1 h2=>
   cases h;obtain⟨g1,g2⟩:=Nc h2;refine⟨by simp[vO,g1],λi c hc=>?_⟩;cases i with
   |zero=>simp at hc;subst hc;exact⟨_,rfl,iw.amF h1⟩
   |succ i=>obtain⟨c',k1,k2⟩:=g2 i c (by simpa using hc);exact⟨c',by simpa[vO]using k1,k2⟩
  .cases h
 |[],_::_,_,h=>by simp[ja]at h
 |_::_,[],_,h=>by simp[ja]at h
theorem Qm{args:List Arg}{o:Nat}(h:∀b,args[o / 64]? =some b->(∀e r l,b≠ .own e r l)/\∀cs,b≠ .ptr cs):dY args o=none:=by
 unfold dY;split
 .next e r l ha=>exact((h _ ha).1 e r l rfl).elim
 .next cs ha=>exact((h _ ha).2 cs rfl).elim
 .rfl
theorem VQ{sh:List iw}{args:List Arg}{x:jT sh}(h:ja sh args=some x)(n:Nat):Covers (GL n (vO sh x)) (GL n args):=by
 obtain⟨hl,hget⟩:=Nc h;refine⟨rfl,λt X v hv=>?_,λo=>?_⟩
 .simp only[GL]at hv ⊢;cases ha:args[t]? with
  |none=>
   have:(vO sh x)[t]? =none:=by rw[axs]at ha ⊢;omega
   rw[this];trivial
  |some b=>
   obtain⟨b',hb',hw⟩:=hget t b ha;rw[ha]at hv;rw[hb'];dsimp only at hv ⊢;rcases hw with⟨e,r,l,rfl,rfl⟩|⟨cs,cs',rfl,rfl,_⟩|⟨hw,e1,e2,_⟩
   .exact hv
   .exact hv
   .rw[e1]at hv;rw[e2];exact hw X v hv
 .show(dY (vO sh x) o=none/\dY args o=none)\/∃y y',dY args o=some y/\dY (vO sh x) o=some y'/\J7 y y';cases ha:args[o / 64]? with
  |none=>
   have h2:(vO sh x)[o / 64]? =none:=by rw[axs]at ha ⊢;omega
   exact .inl ⟨Qm (by rw[h2];intro b hb;cases hb),Qm (by rw[ha];intro b hb;cases hb)⟩
  |some b=>
   obtain⟨b',hb',hw⟩:=hget _ b ha;rcases hw with⟨e,r,l,rfl,rfl⟩|⟨cs,cs',rfl,rfl,hc⟩|⟨_,_,_,n1,n2,n3,n4⟩
   .unfold dY;rw[ha,hb'];dsimp only;cases hm:Nat.beq (o%64) 49 with
    |true=>exact .inr ⟨_,_,rfl,rfl,.inr ⟨e,r,l,false,false,rfl,rfl,id⟩⟩
    |false=>exact .inl ⟨rfl,rfl⟩
   .unfold dY;rw[ha,hb'];dsimp only;cases hm:Nat.beq (o%64) 48 with
    |true=>exact .inr ⟨_,_,rfl,rfl,.inl ⟨cs,cs',rfl,rfl,hc⟩⟩
    |false=>exact .inl ⟨rfl,rfl⟩
   .exact .inl ⟨Qm (by rw[hb'];intro c hc;cases hc;exact⟨n3,n4⟩),Qm (by rw[ha];intro c hc;cases hc;exact⟨n1,n2⟩)⟩
theorem abn(a b:List (Nat×aQ))(p:Nat):look (a++b) p=match look b p with|some y=>some y|none=>look a p:=by
 induction a with
 |nil=>simp only[avP,look];cases look b p<;>rfl
 |cons x a ih=>obtain⟨o,z⟩:=x;rw[avY,look,ih,look];cases look b p<;>rfl
theorem wR:∀(cs:List gU)(k p:Nat)(x:aQ),look (kL k cs).2 p=some x↔∃i e r l fr,p=k+i/\cs[i]? =some (.own e r l fr)/\x=.arr e r l fr
 |[],k,p,x=>by simp[kL,look]
 |c::cs,k,p,x=>by
  rw[kL,abn];have ih:=wR cs (k+1) p x;constructor
  .intro h;split at h
   .next y hy=>cases h;obtain⟨i,e,r,l,fr,h1,h2,h3⟩:=(wR cs (k+1) p x).1 hy;exact⟨i+1,e,r,l,fr,by omega,by simpa using h2,h3⟩
   .next hn=>
    cases c with
    |plain c=>simp[gU.take,look]at h
    |own e r l fr=>
     simp only[gU.take,look]at h;split at h
     .next hb=>cases h;exact⟨0,e,r,l,fr,by have:=aus hb;omega,rfl,rfl⟩
     .cases h
  .rintro⟨i,e,r,l,fr,h1,h2,rfl⟩;cases i with
   |succ i=>
    have:=(wR cs (k+1) p (.arr e r l fr)).2 ⟨i,e,r,l,fr,by omega,by simpa using h2,rfl⟩;rw[this]
   |zero=>
    simp at h2;subst h2;have hn:look (kL (k+1) cs).2 p=none:=by
     cases hl:look (kL (k+1) cs).2 p with
     |none=>rfl
     |some y=>obtain⟨i,_,_,_,_,g1,_⟩:=(wR cs (k+1) p y).1 hl;omega
    rw[hn];have hp:p=k:=by omega
    subst hp;simp[gU.take,look]
def Nh(rs:List (Bool×List gU)):List gU:=rs.flatMap (·.2)
theorem ak8(k:Nat)(x:Bool×List gU):(yD k x).2=(kL k x.2).2:=by
 unfold yD;split
 .next e1 e2=>rw[e2]
 .next e1 e2=>rw[e2]
 .next e1 e2=>rw[e2]
theorem DJ:∀(rs:List (Bool×List gU))(k p:Nat)(x:aQ),look (iV k rs).2 p=some x↔∃i e r l fr,p=k+i/\(Nh rs)[i]? =some (.own e r l fr)/\x=.arr e r l fr
 |[],k,p,x=>by simp[iV,look,Nh]
 |y::rs,k,p,x=>by
  rw[iV,abn,ak8];have amG:Nh (y::rs)=y.2++Nh rs:=rfl;constructor
  .intro h;split at h
   .next z hz=>cases h;obtain⟨i,e,r,l,fr,h1,h2,h3⟩:=(DJ rs (k+y.2.length) p x).1 hz;refine⟨y.2.length+i,e,r,l,fr,by omega,?_,h3⟩;rw[amG,auZ (by omega)];simpa using h2
   .obtain⟨i,e,r,l,fr,h1,h2,h3⟩:=(wR y.2 k p x).1 h;refine⟨i,e,r,l,fr,h1,?_,h3⟩;rw[amG,au3 (auC.1 h2).1];exact h2
  .rintro⟨i,e,r,l,fr,h1,h2,rfl⟩;rw[amG]at h2;rcases auJ i y.2.length with hlt|hge
   .rw[au3 hlt]at h2;have hn:look (iV (k+y.2.length) rs).2 p=none:=by
     cases hl:look (iV (k+y.2.length) rs).2 p with
     |none=>rfl
     |some z=>obtain⟨j,_,_,_,_,g1,_⟩:=(DJ rs (k+y.2.length) p z).1 hl;omega
    rw[hn];exact(wR y.2 k p _).2 ⟨i,e,r,l,fr,h1,h2,rfl⟩
   .rw[auZ hge]at h2;have:=(DJ rs (k+y.2.length) p (.arr e r l fr)).2 ⟨i-y.2.length,e,r,l,fr,by omega,h2,rfl⟩;rw[this]
end Go.Fw
namespace Go.Fw
open Go
set_option linter.unusedVariables false
variable {P:Program} {w0:World} {M:Nat->Prop} {T:Ext} {γ γ':Nat->Value} {st:St} {a:Act} {w w':World} {Θ:jK} {Γ:lN}
def RF(Y:V)(c:gU)(v:Value)(n:Option Nat):Prop:=
 match c with
 |.plain x=>bC Y x v/\x.refs=[]
 |.own e r l fr=>0<r.len/\((∃o g,n=some o/\Y.ah o=some (.arr e r l g)/\Oq fr g=true/\v=Y.γ o/\v.oneCell'=true)\/(l=[]/\v=.slice none 0 0))
def GN(Y:V):List gU->List Value->List (Option Nat)->Prop
 |[],[],[]=>True
 |c::cs,v::vs,n::ns=>RF Y c v n/\GN Y cs vs ns
 |_,_,_=>False
theorem GN.append{Y:V}:∀(cs:List gU)(vs:List Value)(ns:List (Option Nat))(ds:List gU)(us:List Value)(ms:List (Option Nat)),GN Y cs vs ns->GN Y ds us ms->GN Y (cs++ds) (vs++us) (ns++ms)
 |[],[],[],_,_,_,_,h=>h
 |_::cs,_::vs,_::ns,ds,us,ms,⟨h1,h2⟩,h=>⟨h1,GN.append cs vs ns ds us ms h2 h⟩
theorem GN.length{Y:V}:∀(cs:List gU)(vs:List Value)(ns:List (Option Nat)),GN Y cs vs ns->cs.length=vs.length
 |[],[],[],_=>rfl
 |_::cs,_::vs,_::ns,⟨_,h2⟩=>by simp[GN.length cs vs ns h2]
theorem GN.get{Y:V}:∀(cs:List gU)(vs:List Value)(ns:List (Option Nat))(i:Nat)(c:gU),GN Y cs vs ns->cs[i]? =some c->∃v n,vs[i]? =some v/\ns[i]? =some n/\RF Y c v n
 |[],[],[],i,c,_,h=>by simp at h
 |x::cs,v::vs,n::ns,0,c,⟨h1,_⟩,h=>by simp at h;subst h;exact⟨v,n,rfl,rfl,h1⟩
 |x::cs,v::vs,n::ns,i+1,c,⟨_,h2⟩,h=>by obtain⟨u,m,g1,g2,g3⟩:=GN.get cs vs ns i c h2 (by simpa using h);exact⟨u,m,by simpa using g1,by simpa using g2,g3⟩
theorem iC.ahU(c:iC)(x:Cell)(d:c.den)(h:c.read x=some d)(hx:x.refs=[]):(c.cell d).refs=[]:=by cases c<;>cases x<;>first|rfl|(simp[iC.read]at h;done)|(cases hx)
theorem RC.alM{Y:V}(hst:Y.ah=st.ah)(hpos:∀o e r l g,st.ah o=some (.arr e r l g)->0<r.len):∀(c:RC)(x:Cell)(d:c.den)(v:Value),c.read st x=some d->bC Y x v->RF Y (c.amE d) v (c.name x):=by
 intro c x d v hr hv;cases c with
 |c s=>
  rw[RC.read]at hr;split at hr
  .next hx=>exact⟨iC.weak s x d v hr hv,iC.ahU s x d hr hx⟩
  .cases hr
 |own e r fr=>
  cases x with
  |ref o=>
   simp only[RC.read]at hr;split at hr
   .next f s l g ho=>
    split at hr
    .next hb=>
     split at hr
     .next hs=>cases hr;rw[auq]at hb;have he:=aus hb.1;subst he;have hsr:=aN.eq_of_beq s r hs;subst hsr;exact⟨hpos _ _ _ _ _ ho,.inl ⟨o,g,rfl,by rw[hst];exact ho,hb.2,hv.2.1,hv.2.2⟩⟩
     .cases hr
    .cases hr
   .cases hr
  |nil=>
   simp only[RC.read]at hr;split at hr
   .next hb=>cases hr;exact⟨avm Nat.zero_lt_one (by simpa[awI]using hb),.inr ⟨rfl,hv⟩⟩
   .cases hr
  |_=>simp[RC.read]at hr
theorem aee{Y:V}(hst:Y.ah=st.ah)(hpos:∀o e r l g,st.ah o=some (.arr e r l g)->0<r.len):∀(l:List RC)(xs:List Cell)(d:aeb l)(vs:List Value),RZ st l xs=some d->ak Y xs vs->GN Y (agw l d) vs (agx l xs)
 |[],[],_,[],_,_=>trivial
 |c::r,x::xs,d,v::vs,h,⟨h1,h2⟩=>by
  rw[RZ]at h;split at h
  .next a b g1 g2=>cases h;exact⟨RC.alM hst hpos c x a v g1 h1,aee hst hpos r xs b vs g2 h2⟩
  .cases h
 |[],_::_,_,_,h,_=>by simp[RZ]at h
 |_::_,[],_,_,h,_=>by simp[RZ]at h
theorem rM.ajN{Y:V}(hst:Y.ah=st.ah)(hpos:∀o e r l g,st.ah o=some (.arr e r l g)->0<r.len):∀(s:rM)(x:SV)(d:s.den)(v:Value),s.read st x=some d->fB Y x v->GN Y (s.out d).2 v.cells.toList (s.names x)
 |.one c,.one x,d,v,h,hv=>by
  rw[Ja v (bC.one x v hv)];exact⟨RC.alM hst hpos c x d v h hv,trivial⟩
 |.agg l,.agg xs,d,v,h,⟨vs,hv,hc⟩=>by
  rw[hv];exact aee hst hpos l xs d _ h hc
 |.one _,.agg _,_,_,h,_|.agg _,.one _,_,_,h,_=>by simp[rM.read]at h
theorem aef{Y:V}(hst:Y.ah=st.ah)(hpos:∀o e r l g,st.ah o=some (.arr e r l g)->0<r.len):∀(l:List rM)(xs:List SV)(d:ny l)(vs:List Value),EU st l xs=some d->fD Y xs vs->
 GN Y (Nh (iZ l d)) (vs.flatMap λv=>v.cells.toList) (D8 l xs)
 |[],[],_,[],_,_=>trivial
 |s::r,x::xs,d,v::vs,h,⟨h1,h2⟩=>by
  rw[EU]at h;split at h
  .next a b g1 g2=>cases h;exact GN.append _ _ _ _ _ _ (rM.ajN hst hpos s x a v g1 h1) (aef hst hpos r xs b vs g2 h2)
  .cases h
 |[],_::_,_,_,h,_=>by simp[EU]at h
 |_::_,[],_,_,h,_=>by simp[EU]at h
def Go1(Z:V)(k:Nat)(c:gU)(v:Value):Prop:=bC Z (c.take k).1 v
def JK(Z:V):Nat->List gU->List Value->Prop
 |_,[],[]=>True
 |k,c::cs,v::vs=>Go1 Z k c v/\JK Z (k+1) cs vs
 |_,_,_=>False
theorem JK.of{Z:V}:∀(cs:List gU)(vs:List Value)(k:Nat),cs.length=vs.length->(∀i c v,cs[i]? =some c->vs[i]? =some v->Go1 Z (k+i) c v)->JK Z k cs vs
 |[],[],_,_,_=>trivial
 |c::cs,v::vs,k,hl,h=>⟨h 0 c v rfl rfl,JK.of cs vs (k+1) (by simpa using hl) λi c' v' h1 h2=>by
   have:=h (i+1) c' v' (by simpa using h1) (by simpa using h2)
   rwa [show k+(i+1)=k+1+i by omega]at this⟩
theorem JK.split{Z:V}:∀(cs:List gU)(vs:List Value)(ds:List gU)(us:List Value)(k:Nat),cs.length=vs.length->JK Z k (cs++ds) (vs++us)->JK Z k cs vs/\JK Z (k+cs.length) ds us
 |[],[],_,_,_,_,h=>⟨trivial,h⟩
 |c::cs,v::vs,ds,us,k,hl,⟨h1,h2⟩=>by obtain⟨g1,g2⟩:=JK.split cs vs ds us (k+1) (by simpa using hl) h2;exact⟨⟨h1,g1⟩,by rw[show k+(c::cs).length=k+1+cs.length by simp;omega];exact g2⟩
theorem JK.cells{Z:V}:∀(cs:List gU)(vs:List Value)(k:Nat),JK Z k cs vs->ak Z (kL k cs).1 vs
 |[],[],_,_=>trivial
 |c::cs,v::vs,k,⟨h1,h2⟩=>⟨h1,JK.cells cs vs (k+1) h2⟩
theorem rM.go{Y Z:V}:∀(s:rM)(x:SV)(d:s.den)(v:Value)(k:Nat),s.read st x=some d->fB Y x v->JK Z k (s.out d).2 v.cells.toList->fB Z (yD k (s.out d)).1 v
 |.one c,.one x,d,v,k,h,hv,hg=>by
  rw[Ja v (bC.one x v hv)]at hg;exact hg.1
 |.agg l,.agg xs,d,v,k,h,⟨vs,hv,hc⟩,hg=>by
  rw[hv]at hg ⊢;exact⟨vs,rfl,JK.cells _ _ _ hg⟩
 |.one _,.agg _,_,_,_,h,_,_|.agg _,.one _,_,_,_,h,_,_=>by simp[rM.read]at h
theorem ahV{Y Z:V}(hst:Y.ah=st.ah)(hpos:∀o e r l g,st.ah o=some (.arr e r l g)->0<r.len):∀(l:List rM)(xs:List SV)(d:ny l)(vs:List Value)(k:Nat),EU st l xs=some d->fD Y xs vs->
 JK Z k (Nh (iZ l d)) (vs.flatMap λv=>v.cells.toList)->fD Z (iV k (iZ l d)).1 vs
 |[],[],_,[],_,_,_,_=>trivial
 |s::r,x::xs,d,v::vs,k,h,⟨h1,h2⟩,hg=>by
  rw[EU]at h;split at h
  .next a b g1 g2=>cases h;have hl:=GN.length _ _ _ (rM.ajN hst hpos s x a v g1 h1);obtain⟨k1,k2⟩:=JK.split _ _ _ _ k hl hg;exact⟨rM.go s x a v k g1 h1 k1,ahV hst hpos r xs b vs _ g2 h2 k2⟩
  .cases h
 |[],_::_,_,_,_,h,_,_=>by simp[EU]at h
 |_::_,[],_,_,_,h,_,_=>by simp[EU]at h
theorem abo:∀(l:List iC)(xs:List Cell)(d:mO l),kM l xs=some d->xs.flatMap Cell.refs=[]->(iK l d).flatMap Cell.refs=[]
 |[],[],_,_,_=>rfl
 |c::r,x::xs,d,h,hx=>by
  rw[kM]at h;split at h
  .next a b g1 g2=>cases h;rw[avC,avj]at hx;show(c.cell a::iK r b).flatMap Cell.refs=[];rw[avC,iC.ahU c x a g1 hx.1,abo r xs b g2 hx.2,avr]
  .cases h
 |[],_::_,_,h,_=>by simp[kM]at h
 |_::_,[],_,h,_=>by simp[kM]at h
theorem Nj:∀(sh:List iw)(i:Nat)(b:mG sh),Lh st i sh=some b->∀(j:Nat)(e:Eff),(jb sh b)[j]? =some e->
 e=.lose\/∃l cs cs0,sh[j]? =some (.ptr l)/\e=.var cs/\st.ah ((i+j)*64+48)=some (.var cs0)/\cs0.flatMap Cell.refs=[]/\cs.flatMap Cell.refs=[]/\∀(X:V) vs,ak X cs0 vs->ak X cs vs
 |[],_,_,_,j,e,he=>by simp[jb]at he
 |.ptr l::r,i,b,h,j,e,he=>by
  rw[Lh]at h;split at h
  .next cs b' hx hb=>
   split at h
   .next a hr ha=>
    cases h;cases j with
    |zero=>
     simp[jb]at he;subst he;exact .inr ⟨l,_,cs,rfl,rfl,by simpa using hx,hr,abo _ _ _ ha hr,λX vs hc=>GI _ _ _ _ ha hc⟩
    |succ j=>
     rcases Nj r (i+1) b' hb j e (by simpa[jb]using he)with h|⟨l,cs',cs0,h1,h2,h3,h4⟩
     .exact .inl h
     .exact .inr ⟨l,cs',cs0,by simpa using h1,h2,by rw[show i+(j+1)=i+1+j by omega];exact h3,h4⟩
   .cases h
  .cases h
 |.p _::r,i,b,h,j,e,he|.own _ _::r,i,b,h,j,e,he=>by
  rw[Lh]at h;cases j with
  |zero=>simp[jb]at he;exact .inl he.symm
  |succ j=>
   rcases Nj r (i+1) b h j e (by simpa[jb]using he)with h|⟨l,cs',cs0,h1,h2,h3,h4⟩
   .exact .inl h
   .exact .inr ⟨l,cs',cs0,by simpa using h1,h2,by rw[show i+(j+1)=i+1+j by omega];exact h3,h4⟩
theorem aeg:∀{sh:List iw}{xs:List Arg}{d:jT sh},ja sh xs=some d->∀(j:Nat)(l:List iC),sh[j]? =some (.ptr l)->∃cs,xs[j]? =some (.ptr cs)
 |[],[],_,_,j,l,h=>by simp at h
 |s::r,x::xs,d,h,j,l,hj=>by
  rw[ja]at h;split at h
  .next a b h1 h2=>
   cases j with
   |zero=>
    simp at hj;subst hj;cases x with
    |ptr cs=>exact⟨cs,rfl⟩
    |_=>simp[iw.read]at h1
   |succ j=>obtain⟨cs,hc⟩:=aeg h2 j l (by simpa using hj);exact⟨cs,by simpa using hc⟩
  .cases h
 |[],_::_,_,h,_,_,_=>by simp[ja]at h
 |_::_,[],_,h,_,_,_=>by simp[ja]at h
theorem anO{sh:List iw}{b:mG sh}(hb:Lh st 0 sh=some b){q:Nat}{y:aQ}(h:lX (jb sh b) q=some y):
 q%64=48/\∃l cs cs0,sh[q / 64]? =some (.ptr l)/\y=.var cs/\st.ah q=some (.var cs0)/\cs0.flatMap Cell.refs=[]/\cs.flatMap Cell.refs=[]/\∀(X:V) vs,ak X cs0 vs->ak X cs vs:=by
 unfold lX at h;split at h
 .next e r l he=>rcases Nj sh 0 b hb _ _ he with h'|⟨_,_,_,_,h',_⟩<;>cases h'
 .next cs he=>
  split at h
  .next hm=>
   have hm':=aus hm;cases h;rcases Nj sh 0 b hb _ _ he with h'|⟨l,cs',cs0,h1,h2,h3,h4⟩
   .cases h'
   .cases h2;refine⟨hm',l,_,cs0,h1,rfl,?_,h4⟩;rw[show q=(0+q / 64)*64+48 by omega];exact h3
  .cases h
 .cases h
def iw.uU:(s:iw)->s.den->Prop
 |.p s,x=>s.uU x
 |.own _ r,(l:List r.den)=>∀x∈l,r.uU x
 |.ptr l,x=>ZN l x
def Nk:(l:List iw)->jT l->Prop
 |[],_=>True
 |s::r,x=>s.uU x.1/\Nk r x.2
theorem ji.ZO{X:V}(s:ji)(x:Arg)(d:s.den)(v:Value)(h:s.read x=some d)(hr:rP X x v):s.uU d:=
 (ET (X:=X) [s] (d,()) [v] ⟨ji.weak s x d v h hr,trivial⟩).1
theorem XL{X:V}{args:List Arg}(ho:∀o x,dY args o=some x->dm X o x):∀(sh:List iw)(xs:List Arg)(d:jT sh)(vs:List Value)(i:Nat),(∀j a,xs[j]? =some a->args[i+j]? =some a)->
 ja sh xs=some d->zx X i xs vs->Nk sh d
 |[],[],_,_,_,_,_,_=>trivial
 |s::r,x::xs,d,v::vs,i,hj,h,⟨hv,hvs⟩=>by
  rw[ja]at h;split at h
  .next a b h1 h2=>
   cases h;refine⟨?_,XL ho r xs b vs (i+1) (λj c hc=>by have:=hj (j+1) c (by simpa using hc);rwa [show i+(j+1)=i+1+j by omega]at this) h2 hvs⟩;have hx:args[i]? =some x:=hj 0 x rfl;cases s with
   |p s=>
    have h1':s.read x=some a:=by simpa[iw.read]using h1
    refine ji.ZO (X:=X) s x a v h1' ?_;cases x with
    |own _ _ _|ptr _=>cases s<;>simp[ji.read]at h1'
    |_=>exact hv
   |own e r'=>
    cases x with
    |own f s' l=>
     have h1':(match Nat.beq e f with|true=>if h:s'.beq r'=true then some (wQ h l)else none|false=>none)=some a:=h1;split at h1'
     .split at h1'
      .next hb hs=>
       cases h1';have hsr:=aN.eq_of_beq s' r' hs;subst hsr;have nY:dY args (i*64+49)=some (.arr f s' l false):=by unfold dY;rw[show(i*64+49) / 64=i by omega,hx];dsimp only;rw[show(i*64+49)%64=49 by omega]
       obtain⟨us,_,_,_,hrow⟩:=ho _ _ nY;intro y hy;have hy':y∈l:=hy;obtain⟨j,hj1,hj2⟩:=awL.1 hy';exact bM.uU s' _ _ (hrow j y (by rw[auw hj1,hj2]))
      .cases h1'
     .cases h1'
    |_=>simp[iw.read]at h1
   |ptr l=>
    cases x with
    |ptr cs=>
     have h1':kM l cs=some a:=h1;have nY:dY args (i*64+48)=some (.var cs):=by unfold dY;rw[show(i*64+48) / 64=i by omega,hx];dsimp only;rw[show(i*64+48)%64=48 by omega]
     obtain⟨_,arr,_,_,_,hc⟩:=ho _ _ nY;exact Le l a _ (GI _ _ _ _ h1' hc)
    |_=>simp[iw.read]at h1
  .cases h
 |[],_::_,_,_,_,_,h,_=>by simp[ja]at h
 |_::_,[],_,_,_,_,h,_=>by simp[ja]at h
theorem LX:∀(l:List iw)(d:jT l),(vO l d).length=l.length
 |[],_=>rfl
 |_::r,d=>by simp[vO,LX r d.2]
theorem Out.aoV(rs:List (Bool×List gU))(k:Nat):((⟨rs,none⟩:Out).take k).2=(iV k rs).2:=by
 unfold Out.take;dsimp only;split
 .next h=>rw[h]
 .next h=>rw[h]
theorem Out.aoW(rs:List (Bool×List gU))(k:Nat):((⟨rs,none⟩:Out).take k).1=(match (iV k rs).1 with|[v]=>AV.sv v|vs=>.nH vs):=by
 unfold Out.take;dsimp only;split
 .next h=>rw[h]
 .next vs δ hne h=>
  rw[h];dsimp only;rcases vs with _|⟨v,_|⟨v2,r⟩⟩
  .rfl
  .exact(hne v rfl).elim
  .rfl
theorem asL{args:List Arg}{S:Nat->Prop}{sh:List iw}{dX:List rM}{x:jT sh}(hx:ja sh args=some x){d:ny dX}{b:mG sh}{k:Nat}{vs:List SV}{us:List Value}
 (hR:Rel w (xq (dY args) γ) (XK args γ S) γ' st a w') (hrs:fD (aA w (XK args γ S) γ' st w') vs us) (hnd:Bd (D8 dX vs)=true) (hrd:EU st dX vs=some d) (hbk:Lh st 0 sh=some b)
 (hap:∀o x,look ((⟨iZ dX d,none⟩:Out).take k).2 o=some x->lX (jb sh b) o=none):
 ∃γ2,bJ ⟨w',w.heap.size,qG S args (jb sh b) γ,γ2,look ((⟨iZ dX d,none⟩:Out).take k).2⟩ ((⟨iZ dX d,none⟩:Out).take k).1 (if h:us.toArray.size=1 then us.toArray[0]else .tuple us.toArray)/\
  (∀o x,look ((⟨iZ dX d,none⟩:Out).take k).2 o=some x->dm ⟨w',w.heap.size,qG S args (jb sh b) γ,γ2,look ((⟨iZ dX d,none⟩:Out).take k).2⟩ o x/\
    ∀b',blk (γ2 o)=some b'->b'<w'.heap.size/\(w.heap.size<=b'\/xq (dY args) γ b')/\∀q y,lX (jb sh b) q=some y->blk (γ q)≠some b')/\
  (∀o x q y b',look ((⟨iZ dX d,none⟩:Out).take k).2 o=some x->look ((⟨iZ dX d,none⟩:Out).take k).2 q=some y->o≠q->blk (γ2 o)=some b'->blk (γ2 q)≠some b')/\
  (∀o x,lX (jb sh b) o=some x->γ2 o=γ o/\dm ⟨w',w.heap.size,qG S args (jb sh b) γ,γ2,look ((⟨iZ dX d,none⟩:Out).take k).2⟩ o x):=by
 rw[Out.aoV]at hap ⊢;rw[Out.aoW]
 skip
 let Y:V:=aA w (XK args γ S) γ' st w'
 let fv:List Value:=us.flatMap λv=>v.cells.toList
 let aZ:=jb sh b
 let γ2:Nat->Value:=λp=>match lX aZ p with|some _=>γ p|none=>fv.getD (p-k) undef
 let Z:V:=⟨w',w.heap.size,qG S args aZ γ,γ2,look (iV k (iZ dX d)).2⟩
 have hpos:∀o e r l g,st.ah o=some (.arr e r l g)->0<r.len:=λo e r l g ho=>by obtain⟨_,_,h,_⟩:=hR.ah o _ ho;exact h
 have hF:GN Y (Nh (iZ dX d)) fv (D8 dX vs):=aef (st:=st) rfl hpos dX vs d us hrd hrs;have hbq:∀q y,lX aZ q=some y->γ' q=γ q/\∃cs cs0,y=.var cs/\st.ah q=some (.var cs0)/\cs0.flatMap Cell.refs=[]/\cs.flatMap Cell.refs=[]/\∀(X:V) vs,ak X cs0 vs->ak X cs vs:=by
  intro q y hq;obtain⟨hm,l,cs,cs0,h1,h2,h3,h4,h5,h6⟩:=anO hbk hq;refine⟨?_,cs,cs0,h2,h3,h4,h5,h6⟩;obtain⟨ci,hci⟩:=aeg hx _ l h1;have ho:dY args q=some (.var ci):=by unfold dY;rw[hci];dsimp only;rw[hm]
  have hN:(XK args γ S).N q=some (γ q):=by show agy args γ q=_;unfold agy;rw[ho]
  exact hR.pin q _ _ hN h3
 have hG:∀p X,look (iV k (iZ dX d)).2 p=some X->∃i e r l fr,p=k+i/\(Nh (iZ dX d))[i]? =some (.own e r l fr)/\X=.arr e r l fr/\0<r.len/\
  ((∃o g,(D8 dX vs)[i]? =some (some o)/\st.ah o=some (.arr e r l g)/\Oq fr g=true/\γ2 p=γ' o/\(γ2 p).oneCell'=true)\/(l=[]/\γ2 p=.slice none 0 0)):=by
  intro p X hp;obtain⟨i,e,r,l,fr,h1,h2,h3⟩:=(DJ _ k p X).1 hp;obtain⟨v,n,g1,g2,hr,hv⟩:=GN.get _ _ _ i _ hF h2;have hγ:γ2 p=v:=by show(match lX aZ p with|some _=>γ p|none=>fv.getD (p-k) undef)=v;rw[hap p X hp];dsimp only;rw[h1,show k+i-k=i by omega,aur,g1];rfl
  refine⟨i,e,r,l,fr,h1,h2,h3,hr,?_⟩;rcases hv with⟨o,g,hn,ho,hb,hv,h1c⟩|⟨hl,hv⟩
  .exact .inl ⟨o,g,by rw[g2,hn],ho,hb,hγ.trans hv,by rw[hγ];exact h1c⟩
  .exact .inr ⟨hl,hγ.trans hv⟩
 have Jg:∀b',Y.foot b'->Z.foot b':=by
  intro b' hb';refine⟨hb'.1,λhlt=>⟨hb'.2.1 hlt,λq y hq=>?_⟩,λp X hp=>?_⟩
  .obtain⟨hγ,cs,cs0,_,h3,_⟩:=hbq q y hq;rw[← hγ];exact hb'.2.2 q _ h3
  .obtain⟨i,e,r,l,fr,_,_,_,_,hc⟩:=hG p X hp;show blk (γ2 p)≠some b';rcases hc with⟨o,g,_,ho,_,hγ,_⟩|⟨_,hγ⟩
   .rw[hγ];exact hb'.2.2 o _ ho
   .rw[hγ];intro h;cases h
 have anP:∀fr b',Y.dU fr b'->Z.dU fr b':=λfr b' h=>⟨Jg b' h.1,h.2⟩;have hgo:JK Z k (Nh (iZ dX d)) fv:=by
  refine JK.of _ _ _ (GN.length _ _ _ hF) λi c v hc hv=>?_;obtain⟨v',n,g1,g2,g3⟩:=GN.get _ _ _ i c hF hc;rw[hv]at g1;cases g1;cases c with
  |plain x=>
   exact(H9 (Y:=Y) (Z:=Z) rfl anP [x] [v] (by simpa using g3.2) ⟨g3.1,trivial⟩).1
  |own e r l fr=>
   have hp:look (iV k (iZ dX d)).2 (k+i)=some (.arr e r l fr):=(DJ _ k _ _).2 ⟨i,e,r,l,fr,rfl,hc,rfl⟩;have hγ:γ2 (k+i)=v:=by show(match lX aZ (k+i)with|some _=>γ (k+i)|none=>fv.getD (k+i-k) undef)=v;rw[hap _ _ hp];dsimp only;rw[show k+i-k=i by omega,aur,hv];rfl
   refine⟨⟨e,r,l,fr,hp⟩,hγ.symm,?_⟩;rcases g3.2 with⟨_,_,_,_,_,_,h⟩|⟨_,h⟩
   .exact h
   .rw[h];rfl
 have hsv:fD Z (iV k (iZ dX d)).1 us:=ahV (st:=st) (Y:=Y) rfl hpos dX vs d us k hrd hrs hgo;refine⟨γ2,?_,λp X hp=>?_,λp X q X' b' hp hq hne hb1 hb2=>?_,λq y hq=>?_⟩
 .have hl:=fD.length _ _ hsv
  match hm:(iV k (iZ dX d)).1,us,hsv,hl with
  |[v],[u],hk,_=>exact hk.1
  |[],[],hk,_=>exact⟨_,by simp,hk⟩
  |v::v2::r,u::u2::us,hk,hl=>exact⟨_,by simp,hk⟩
  |[],_::_,hk,h4|_::_,[],hk,h4|[_],_::_::_,hk,h4|_::_::_,[_],hk,h4=>simp at h4
 .obtain⟨i,e,r,l,fr,_,_,rfl,hr,hc⟩:=hG p X hp;rcases hc with⟨o,g,_,ho,hb,hγ,_⟩|⟨rfl,hγ⟩
  .have hO:dm Y o (.arr e r l g):=hR.ah o _ ho;have hold:∀b',blk (γ' o)=some b'->fr=true->w.heap.size<=b':=by intro b' hb' hfr;subst hfr;have hg:g=true:=hb;subst hg;obtain⟨_,_,_,hn,_⟩:=hO;exact hn b' hb' rfl
   refine⟨dm.ZK (Y:=Y) (Z:=Z) hO hγ rfl (λb' hb'=>⟨Jg b' hb'.1,λhfr=>hb'.2 ?_⟩) hold,λb' hb'=>?_⟩
   .subst hfr;exact hb
   .rw[hγ]at hb';obtain⟨h1,h2⟩:=hR.lt o _ b' ho hb';refine⟨h1,h2,λq y hq=>?_⟩;obtain⟨hγq,cs,cs0,_,h3,_⟩:=hbq q y hq;rw[← hγq];refine hR.sep o _ q _ b' ho h3 ?_ hb';intro e;subst e;rw[ho]at h3;cases h3
  .refine⟨⟨[],⟨by simp,.inl ⟨hγ,rfl⟩⟩,hr,(λb' hb'=>by have h0:blk (γ2 p)=some b':=hb';rw[hγ]at h0;cases h0),λi x hi=>by simp at hi⟩,λb' hb'=>by rw[hγ]at hb';cases hb'⟩
 .obtain⟨i,e,r,l,fr,hi,_,_,_,hc⟩:=hG p X hp;obtain⟨j,e',r',l',fr',hj,_,_,_,hc'⟩:=hG q X' hq;rcases hc with⟨o,g,hn,ho,_,hγ,_⟩|⟨_,hγ⟩
  .rcases hc' with⟨o',g',hn',ho',_,RP,_⟩|⟨_,RP⟩
   .rw[hγ]at hb1;rw[RP]at hb2;have:o≠o':=by intro e;subst e;have:=QM hnd _ _ _ hn hn';omega
    exact hR.sep o _ o' _ b' ho ho' this hb1 hb2
   .rw[RP]at hb2;cases hb2
  .rw[hγ]at hb1;cases hb1
 .obtain⟨hγ,cs,cs0,rfl,h3,h4,h5,h6⟩:=hbq q y hq;have nK:γ2 q=γ q:=by show(match lX aZ q with|some _=>γ q|none=>fv.getD (q-k) undef)=γ q;rw[hq]
  refine⟨nK,?_⟩;obtain⟨b',arr,t,k1,k2,k3⟩:=hR.ah q _ h3;refine⟨b',arr,t,?_,k2,H9 (Y:=Y) (Z:=Z) rfl anP _ _ h5 (h6 _ _ k3)⟩;show γ2 q=_;rw[nK,← hγ];exact k1
theorem alN{G:kJ}(hE:EnvB P G Θ Γ)(hm:P.follows .mixedOrders=true){f:FuncId}{fn:Func}{c:Code}(hf:P.funcs[f]? =some fn)(hb:fn.body=some c)(H:Hints)
 {sh:List iw} {dX:List rM} {F:jT sh->Prop×(ny dX×mG sh->Prop)} (hn:Nat.ble sh.length fn.ntmps=true) (hne:∀x,(F x).1->∃t,(F x).2 t)
 (hwalk:∀x,Nk sh x->(F x).1->Jj Θ Γ H c (ai5 Θ fn.results.toList sh dX (F x).2) (GL fn.ntmps (vO sh x))):ku P G f (qZ sh dX F):=by
 intro args p ρ hcon hp;unfold qZ at hcon;split at hcon
 case h_2=>cases hcon
 next x hx=>
 cases hcon;refine⟨hne x hp,λk S γ vs w hG hrep nY hsep hap=>?_⟩;have hlen:=(Nc hx).1;rw[LX]at hlen;have hn':args.length<=fn.ntmps:=by rw[← hlen];simpa[awI]using hn
 have hin:Nk sh x:=XL (λo X ho=>(nY o X ho).1) sh args x vs.toList 0 (λj a h=>by rwa [auY]) hx hrep;have hR0:=aed (S:=S) fn.ntmps hn' hrep (λo X ho=>⟨(nY o X ho).1,λb hb=>((nY o X ho).2 b hb).1⟩) hsep;have hR1:=hR0.covers (VQ hx fn.ntmps);refine calls_of_wp hf hb (XJ ⟨hE,hG,λb hb=>?_⟩ hm H c _ _ _ _ _ _ hR1 (hwalk x hin hp) ?_)
 .obtain⟨o,X,ho,hb⟩:=hb;exact((nY o X ho).2 b hb).2
 intro e s γ' a' w' he hR;have hret:∃(us:List Value)(t:ny dX×mG sh),(fn.results.mapM (Ld a'.tmps)).run P w'=.ok us.toArray w'/\(F x).2 t/\∃γ2,
  bJ ⟨w',w.heap.size,qG S args (jb sh t.2) γ,γ2,look ((⟨iZ dX t.1,none⟩:Out).take k).2⟩ ((⟨iZ dX t.1,none⟩:Out).take k).1 (if h:us.toArray.size=1 then us.toArray[0]else .tuple us.toArray)/\
  (∀o x',look ((⟨iZ dX t.1,none⟩:Out).take k).2 o=some x'->dm ⟨w',w.heap.size,qG S args (jb sh t.2) γ,γ2,look ((⟨iZ dX t.1,none⟩:Out).take k).2⟩ o x'/\
    ∀b,blk (γ2 o)=some b->b<w'.heap.size/\(w.heap.size<=b\/xq (dY args) γ b)/\∀q y,lX (jb sh t.2) q=some y->blk (γ q)≠some b)/\
  (∀o x' q y b,look ((⟨iZ dX t.1,none⟩:Out).take k).2 o=some x'->look ((⟨iZ dX t.1,none⟩:Out).take k).2 q=some y->o≠q->blk (γ2 o)=some b->blk (γ2 q)≠some b)/\
  (∀o x',lX (jb sh t.2) o=some x'->γ2 o=γ o/\dm ⟨w',w.heap.size,qG S args (jb sh t.2) γ,γ2,look ((⟨iZ dX t.1,none⟩:Out).take k).2⟩ o x'):=by
  have he':(e=.normal\/e=.ret)/\ai5 Θ fn.results.toList sh dX (F x).2 .ret s:=by
   cases e with
   |normal=>exact⟨.inl rfl,he⟩
   |ret=>exact⟨.inr rfl,he⟩
   |_=>exact he.elim
  have he2:=he'.2;simp only[ai5]at he2;split at he2
  .next svs auc=>
   split at he2
   .next vs' hvs'=>
    split at he2
    .next d b hnd hd hb'=>have hRf:=hR.freeze (aec s (D8 dX svs));obtain⟨us,hus,hrs⟩:=Ou hE.types hRf _ _ hvs';refine⟨us,(d,b),?_,he2,asL hx hRf hrs hnd hd hb' (hap (d,b) he2)⟩;rw[awT,Sem.run_map,hus];rfl
    .exact he2.elim
   .exact he2.elim
  .exact he2.elim
 obtain⟨us,t,hus,ht,γ2,h1,h2,h3,h4⟩:=hret;have hfin:bodyPost P fn (λe w'=>∃t,(F x).2 t/\Qd S args γ w k ⟨iZ dX t.1,none⟩ (jb sh t.2) e w') .ret a' w':=by refine⟨hR.defers,if h:us.toArray.size=1 then us.toArray[0]else .tuple us.toArray,?_,t,ht,_,γ2,rfl,hR.os,hR.tape,hR.output,hR.grow,hR.kept,h1,h2,h3,h4⟩;rw[Ul,auP,hus];simp only[ave,avu]
 cases e with
 |normal=>exact hfin
 |ret=>exact hfin
 |_=>exact he.elim
def ai6(rv:List ResultVar)(l:List iC)(K:mO l->Prop)(e:Exit)(st:St):Prop:=
 match e with
 |.normal|.ret=>match rv with
  |[.tmp t]=>match st.tmps t with
   |.bT o off=>match Nat.beq off 0,(st.freeze (Qk st)).ah o with
    |true,some (.var cs)=>match cs.flatMap Cell.refs,kM l cs with
     |[],some d=>K d
     |_,_=>False
    |_,_=>False
   |_=>False
  |_=>False
 |_=>False
def loses(sh:List iw):List Eff:=sh.map λ_=>.lose
def aoX(sh:List iw)(l:List iC)(F:jT sh->Prop×(mO l->Prop)):IX:=λargs=>
 match ja sh args with
 |some x=>some ((F x).1,⟨mO l,(F x).2,λt=>⟨[],some (iK l t)⟩,λ_=>loses sh⟩)
 |none=>none
theorem Um(sh:List iw)(q:Nat):lX (loses sh) q=none:=by unfold lX loses;rw[avE];cases sh[q / 64]? <;>rfl
theorem Si:∀(l:List iC)(cs:List Cell)(d:mO l),kM l cs=some d->cs.flatMap Cell.refs=[]->(iK l d).flatMap Cell.refs=[]
 |[],[],_,_,_=>rfl
 |c::l,x::xs,d,h,hn=>by
  rw[kM]at h;rw[avC,avj]at hn;split at h
  .next p q hp hq=>
   cases h;show((c.cell p)::iK l q).flatMap Cell.refs=[];rw[avC,avj];refine⟨?_,Si l xs q hq hn.2⟩;cases c with
   |ref o=>
    cases x<;>simp[iC.read,Cell.refs]at hp hn
   |_=>rfl
  .cases h
 |[],_::_,_,h,_=>by simp[kM]at h
 |_::_,[],_,h,_=>by simp[kM]at h
theorem aqi{G:kJ}(hE:EnvB P G Θ Γ)(hm:P.follows .mixedOrders=true){f:FuncId}{fn:Func}{c:Code}(hf:P.funcs[f]? =some fn)(hb:fn.body=some c)(H:Hints)
 {sh:List iw} {l:List iC} {F:jT sh->Prop×(mO l->Prop)} (hn:Nat.ble sh.length fn.ntmps=true) (hne:∀x,(F x).1->∃t,(F x).2 t)
 (hwalk:∀x,Nk sh x->(F x).1->Jj Θ Γ H c (ai6 fn.results.toList l (F x).2) (GL fn.ntmps (vO sh x))):ku P G f (aoX sh l F):=by
 intro args p ρ hcon hp;unfold aoX at hcon;split at hcon
 case h_2=>cases hcon
 next x hx=>
 cases hcon;refine⟨hne x hp,λk S γ vs w hG hrep nY hsep hap=>?_⟩;have hlen:=(Nc hx).1;rw[LX]at hlen;have hn':args.length<=fn.ntmps:=by rw[← hlen];simpa[awI]using hn
 have hin:Nk sh x:=XL (λo X ho=>(nY o X ho).1) sh args x vs.toList 0 (λj a h=>by rwa [auY]) hx hrep;have hR0:=aed (S:=S) fn.ntmps hn' hrep (λo X ho=>⟨(nY o X ho).1,λb hb=>((nY o X ho).2 b hb).1⟩) hsep;have hR1:=hR0.covers (VQ hx fn.ntmps);refine calls_of_wp hf hb (XJ ⟨hE,hG,λb hb=>?_⟩ hm H c _ _ _ _ _ _ hR1 (hwalk x hin hp) ?_)
 .obtain⟨o,X,ho,hb⟩:=hb;exact((nY o X ho).2 b hb).2
 intro e s γ' a' w' he hR;have he':ai6 fn.results.toList l (F x).2 .ret s:=by
  cases e with
  |normal=>exact he
  |ret=>exact he
  |_=>exact he.elim
 have hfin:bodyPost P fn (λe w'=>∃t,(F x).2 t/\Qd S args γ w k ⟨[],some (iK l t)⟩ (loses sh) e w') .ret a' w':=by
  simp only[ai6]at he';split at he'
  case h_2=>exact he'.elim
  next t hrv=>
  split at he'
  case h_2=>exact he'.elim
  next o off XF=>
  split at he'
  case h_2=>exact he'.elim
  next cs hoff hcs=>
  split at he'
  case h_2=>exact he'.elim
  next d hnr hd=>
  have hoff:=aus hoff;subst hoff;have hRf:=hR.freeze (Qk s);have hv:=hR.tmps t;rw[XF]at hv;obtain⟨b,cs0,_,hγ,hval⟩:=hv;obtain⟨b',arr,ty,g1,g2,g3⟩:=hRf.ah o _ hcs;have g1:γ' o=.pointer (some ⟨b',0,none⟩):=g1;have hγ:γ' o=.pointer (some ⟨b,0,none⟩):=hγ;rw[hγ]at g1;cases g1;have hblk:blk (γ' o)=some b:=by rw[hγ];rfl
  have hlt:=hRf.lt o _ b hcs hblk
  let γ2:Nat->Value:=λ_=>γ' o
  let Z:V:=⟨w',w.heap.size,qG S args (loses sh) γ,γ2,look (Out.take k ⟨[],some (iK l d)⟩).2⟩
  have hlook:∀q y,look (Out.take k ⟨[],some (iK l d)⟩).2 q=some y->q=k-1/\y=.var (iK l d):=by
   intro q y hq;have hmem:=xk _ q y hq;have:(q,y)=(k-1,.var (iK l d)):=by simpa[Out.take]using hmem
   exact⟨congrArg Prod.fst this,congrArg Prod.snd this⟩
  have Jg:∀fr b',(aA w (XK args γ S) γ' (s.freeze (Qk s)) w').dU fr b'->Z.dU fr b':=by intro fr b' hb';refine⟨⟨hb'.1.1,λhlt'=>⟨hb'.1.2.1 hlt',λq y hq=>by rw[Um]at hq;cases hq⟩,λq y hq=>?_⟩,hb'.2⟩;exact hb'.1.2.2 o _ hcs
  have hcells:ak Z (iK l d) arr.toList:=
   H9 (Y:=aA w (XK args γ S) γ' (s.freeze (Qk s)) w') (Z:=Z) rfl Jg _ _ (Si l cs d hd hnr) (GI l cs d _ hd g3)
  have hself:look (Out.take k ⟨[],some (iK l d)⟩).2 (k-1)=some (.var (iK l d)):=by simp[Out.take,look]
  refine⟨hR.defers,a'.tmps.getD t undef,?_,d,he',_,γ2,rfl,hR.os,hR.tape,hR.output,hR.grow,hR.kept,?_,λq y hq=>?_,λq y q' y' b' hq hq' hne'=>?_,λq y hq=>by rw[Um]at hq;cases hq⟩
  .have:fn.results=#[.tmp t]:=by apply avW;simpa using hrv
   have hmap:(Array.mapM (Ld a'.tmps) #[ResultVar.tmp t]).run P w'=.ok #[a'.tmps.getD t undef] w':=by rw[awT,Sem.run_map];simp only[axI,List.mapM_nil,Ld];rfl
   rw[Ul,this,auP,hmap];rfl
  .exact⟨b,iK l d,hself,hγ,hval⟩
  .obtain⟨rfl,rfl⟩:=hlook q y hq;refine⟨⟨b,arr,ty,hγ,g2,hcells⟩,λb' hb'=>?_⟩;have hb':blk (γ' o)=some b':=hb';rw[hblk]at hb';cases hb';exact⟨hlt.1,hlt.2,λq y hq=>by rw[Um]at hq;cases hq⟩
  .obtain⟨rfl,_⟩:=hlook q y hq;obtain⟨rfl,_⟩:=hlook q' y' hq';exact(hne' rfl).elim
 cases e with
 |normal=>exact hfin
 |ret=>exact hfin
 |_=>exact he.elim
end Go.Fw
namespace Go.Fw
open Go
def CT.isZero:CT->Value->Bool
 |.int k,.int l n=>decide (k=l)&&decide (n=0)
 |.bool,.bool b=>!b
 |.str,.string s=>s.data.toList.isEmpty
 |.sl _ _,.slice none 0 0=>true
 |_,_=>false
def aN.Sj:aN->List Value->Bool
 |.nil,[]=>true
 |.cons c r,v::vs=>c.isZero v&&r.Sj vs
 |_,_=>false
theorem CT.anQ:∀(c:CT)(v:Value),c.isZero v=true->v=c.agp:=by
 intro c v h;unfold CT.isZero at h;split at h
 .simp at h;rw[h.1,h.2];rfl
 .simp at h;subst h;rfl
 .next s=>obtain⟨⟨l⟩⟩:=s;simp at h;subst h;rfl
 .rfl
 .cases h
theorem aN.aeh:∀(r:aN)(vs:List Value),r.Sj vs=true->vs=r.lD
 |.nil,[],_=>rfl
 |.cons c r,v::vs,h=>by
  rw[Sj,auq]at h;rw[aN.lD,CT.anQ c v h.1,aN.aeh r vs h.2]
 |.nil,_::_,h|.cons _ _,[],h=>by simp[Sj]at h
def ajO:TypeDesc->TypeDesc->Bool
 |.int k,.int l=>decide (k=l)
 |.bool,.bool=>true
 |.string,.string=>true
 |.slice e,.slice f=>Nat.beq e f
 |_,_=>false
theorem anR:∀(c d:TypeDesc),ajO c d=true->c=d:=by
 intro c d h;unfold ajO at h;split at h
 .rw[avN h]
 .rfl
 .rfl
 .rw[aus h]
 .cases h
def Ov(P:Program):List (Nat×TypeId)->List Field->Bool
 |[],[]=>true
 |(o,t)::r,f::fs=>Nat.beq o f.offset&&Nat.beq t f.type&&(P.info? f.type).isSome&&Ov P r fs
 |_,_=>false
theorem abp{P:Program}:∀(l:List (Nat×TypeId))(fs:List Field),Ov P l fs=true->l=fs.map (λf=>(f.offset,f.type))/\∀f∈fs,(P.info? f.type).isSome=true
 |[],[],_=>⟨rfl,by simp⟩
 |(o,t)::r,f::fs,h=>by
  rw[Ov,auq,auq,auq]at h;obtain⟨⟨⟨h1,h2⟩,h3⟩,h4⟩:=h;obtain⟨e,hall⟩:=abp r fs h4;refine⟨by rw[auW,← e,aus h1,aus h2],λg hg=>?_⟩;rcases au1.1 hg with rfl|hg
  .exact h3
  .exact hall g hg
 |[],_::_,h|_::_,[],h=>by simp[Ov]at h
def anS(P:Program)(t:TypeId)(ti:TI):Bool:=
 match ti.kind,P.underlying t with
 |.scalar,some d=>match ti.cells.desc with|some c=>ajO c d|none=>false
 |.str,some .string=>ti.cells.beq (.cons .str .nil)
 |.slice e,some (.slice f)=>Nat.beq e f&&(match ti.cells with|.cons (.sl g _) .nil=>Nat.beq g e|_=>false)
 |.struct fs,some (.struct Bf)=>Ov P fs Bf.toList
 |_,_=>false
def alO(ti:TI)(z:Value):Bool:=match ti.kind with
 |.struct _=>true
 |_=>z.oneCell'
def agz(P:Program)(t:TypeId)(ti:TI):Bool:=
 match P.info? t with
 |some i=>match i.zero with
  |some z=>Nat.beq i.size ti.cells.len&&Nat.beq i.bytes ti.bytes&&ti.cells.Sj z.cells.toList&&alO ti z&&anS P t ti&&Nat.ble ti.bytes 4096&&(!ti.cmp||aml P t ti.cells)
  |none=>false
 |none=>false
theorem mr.aoY{P:Program}{t:TypeId}{ti:TI}(h:agz P t ti=true):mr P t ti:=by
 unfold agz at h;split at h
 .next i hi=>
  split at h
  .next z hz=>
   simp only[auq]at h;obtain⟨⟨⟨⟨⟨⟨h1,h2⟩,h3⟩,h4⟩,h5⟩,h6⟩,h7⟩:=h;refine⟨⟨i,z,hi,aus h1,aus h2,hz,aN.aeh _ _ h3,λhagg=>?_⟩,?_,by simpa[awI]using h6,λe w s u X xs ys vs us b hf hx hy he=>aqc (by rw[e]at h7;simpa using h7) w s u X xs ys vs us b hf hx hy he⟩
   .unfold alO at h4;unfold TI.agg at hagg;split at h4
    .next hk=>rw[hk]at hagg;cases hagg
    .exact Ja z h4
   .unfold anS at h5;split at h5
    .next d hk hu=>
     rw[hk];split at h5
     .next c hc=>exact⟨d,by rw[hc,anR c d h5],hu⟩
     .cases h5
    .next hk hu=>rw[hk];exact⟨hu,aN.eq_of_beq _ _ h5⟩
    .next e f hk hu=>
     rw[hk];rw[auq]at h5;have hef:=aus h5.1;subst hef;refine⟨hu,?_⟩;have h52:=h5.2;split at h52
     .next g r hg=>exact⟨r,by rw[hg,aus h52]⟩
     .cases h52
    .next fs Bf hk hu=>rw[hk];obtain⟨e,hall⟩:=abp _ _ h5;exact⟨Bf,hu,e,hall⟩
    .cases h5
  .cases h
 .cases h
def Sl(P:Program):List (Nat×TI)->Bool
 |[]=>true
 |(t,ti)::r=>agz P t ti&&Sl P r
theorem ajP{P:Program}:∀{l:List (Nat×TI)},Sl P l=true->∀t ti,ad9 l t=some ti->mr P t ti
 |[],_,t,ti,h=>by cases h
 |(i,x)::r,hc,t,ti,h=>by
  rw[Sl,auq]at hc;rw[ad9]at h;cases hb:Nat.beq t i with
  |true=>rw[hb]at h;cases h;rw[aus hb];exact .aoY hc.1
  |false=>rw[hb]at h;exact ajP hc.2 t ti h
def ZP(fn:Func):Bool:=fn.body.isSome&&!(fn.name== "runtime.NumGoroutine")
theorem sU{P:Program}{f:FuncId}{fn:Func}(hf:P.funcs[f]? =some fn)(hc:ZP fn=true):oM P f:=by
 intro args w;unfold ZP at hc;rw[auq]at hc;have h1:(fn.name== "runtime.NumGoroutine")=false:=by simpa using hc.2
 have h2:fn.body.isNone=false:=by cases hb:fn.body with|none=>rw[hb]at hc;simp at hc|some _=>rfl
 unfold callFunc;simp only[auP,run_program,ave,hf,h1,h2,av1,awV,avu]
def anT(P:Program)(G:kJ)(f:FuncId):LV->Prop
 |.pure c=>rG P G f c/\oM P f
 |.eff _ c=>ku P G f c/\oM P f
theorem anU{P:Program}{G:kJ}{Θ:jK}(hT:∀t ti,Θ t=some ti->mr P t ti):∀{l:List (Nat×LV)},(∀x∈l,anT P G x.1 x.2)->EnvB P G Θ (MQ l)
 |[],_=>⟨hT,(λf con h=>by cases h),(λf ms con h=>by cases h)⟩
 |(i,c)::r,h=>by
  have ih:=anU (G:=G) hT λx hx=>h x (auH _ hx);refine⟨hT,λf con hf=>?_,λf ms con hf=>?_⟩
  .rw[MQ]at hf;cases hb:Nat.beq f i with
   |true=>rw[hb]at hf;cases hf;rw[aus hb];exact h (i,.pure con) auF
   |false=>rw[hb]at hf;exact ih.cons f con hf
  .rw[MQ]at hf;cases hb:Nat.beq f i with
   |true=>rw[hb]at hf;cases hf;rw[aus hb];exact h (i,.eff ms con) auF
   |false=>rw[hb]at hf;exact ih.ai3 f ms con hf
end Go.Fw
namespace Go.Fw
open Go
structure PA where
 n:Nat
 sh:List ji
 dX:List tH
 F:nD sh->Prop×xO dX
structure XA where
 n:Nat
 sh:List iw
 dX:List rM
 F:jT sh->Prop×(ny dX×mG sh->Prop)
structure QA where
 n:Nat
 sh:List iw
 dX:List iC
 F:jT sh->Prop×(mO dX->Prop)
def PA.e(q:PA):Nat×LV:=(q.n,.pure (Gl q.sh q.dX q.F))
def XA.e(q:XA):Nat×LV:=(q.n,.eff (DC q.sh) (qZ q.sh q.dX q.F))
def QA.e(q:QA):Nat×LV:=(q.n,.eff (DC q.sh) (aoX q.sh q.dX q.F))
def aei(P:Program)(G:kJ)(x:Nat×LV):Prop:=anT P G x.1 x.2
def ajQ(P:Program)(G:kJ):List (Nat×LV)->Prop
 |[]=>True
 |x::l=>aei P G x/\ajQ P G l
theorem aoZ{P:Program}{G:kJ}{l':List (Nat×TI)}(hT:Sl P l'=true){l:List (Nat×LV)}(h:ajQ P G l):EnvB P G (ad9 l') (MQ l):=
 anU (ajP hT) (by
  induction l with
  |nil=>exactλx hx=>by cases hx
  |cons y l ih=>exact List.forall_mem_cons.2 ⟨h.1,ih h.2⟩)
def agA:(l:List iC)->(mO l->Prop)->Prop
 |[],p=>p ()
 |c::r,p=>∀x:c.den,agA r λy=>p (x,y)
theorem Sm:∀{l:List iC}{p:mO l->Prop},agA l p->∀x,p x
 |[],_,h,()=>h
 |_::_,_,h,(x,y)=>Sm (h x) y
def amH:(l:List (List iC))->(D7 l->Prop)->Prop
 |[],p=>p ()
 |c::r,p=>agA c λx=>amH r λy=>p (x,y)
theorem ajR:∀{l:List (List iC)}{p:D7 l->Prop},amH l p->∀x,p x
 |[],_,h,()=>h
 |_::_,_,h,(x,y)=>ajR (Sm h x) y
def ao0:(s:ji)->(s.den->Prop)->Prop
 |.v (.one c),p=>∀x:c.den,p x
 |.v (.agg l),p=>agA l p
 |.kp l,p=>agA l p
 |.fn _ l,p=>amH l p
theorem alP:∀{s:ji}{p:s.den->Prop},ao0 s p->∀x,p x
 |.v (.one _),_,h,x=>h x
 |.v (.agg _),_,h,x=>Sm h x
 |.kp _,_,h,x=>Sm h x
 |.fn _ _,_,h,x=>ajR h x
def amI:(l:List ji)->(nD l->Prop)->Prop
 |[],p=>p ()
 |s::r,p=>ao0 s λx=>amI r λy=>p (x,y)
theorem ajS:∀{l:List ji}{p:nD l->Prop},amI l p->∀x,p x
 |[],_,h,()=>h
 |_::_,_,h,(x,y)=>ajS (alP h x) y
def aqT:(s:iw)->(s.den->Prop)->Prop
 |.p s,p=>ao0 s p
 |.own _ r,p=>∀x:List r.den,p x
 |.ptr l,p=>agA l p
theorem aqj:∀{s:iw}{p:s.den->Prop},aqT s p->∀x,p x
 |.p _,_,h,x=>alP h x
 |.own _ _,_,h,x=>h x
 |.ptr _,_,h,x=>Sm h x
def ai7:(l:List iw)->(jT l->Prop)->Prop
 |[],p=>p ()
 |s::r,p=>aqT s λx=>ai7 r λy=>p (x,y)
theorem acg:∀{l:List iw}{p:jT l->Prop},ai7 l p->∀x,p x
 |[],_,h,()=>h
 |_::_,_,h,(x,y)=>acg (aqj h x) y
abbrev LP{α:Type}(x:α)(f:(α->Prop)->(α->Nat)->α->Prop):Prop:=∃(I:α->Prop),∃(μ:α->Nat),I x/\∀(y:α),I y->f I μ y
abbrev NX{σ α:Type}(s:σ)(I:α->Prop)(μ:α->Nat)(x y:α):Prop:=s=s/\I x/\μ x<μ y
def H0:Hints:=hints [] [] [] [] []
def Ec(P:Program)(n:Nat):Func:=match P.funcs[n]? with|some f=>f|none=>default
def Lj(P:Program)(n k:Nat):Bool:=P.funcs[n]?.isSome&&ZP (Ec P n)&&Nat.ble k (Ec P n).ntmps
theorem XM{P:Program}{n k:Nat}(h:Lj P n k=true):P.funcs[n]? =some (Ec P n)/\(Ec P n).body=some (codeOf (Ec P n))/\oM P n/\Nat.ble k (Ec P n).ntmps=true:=by
 simp only[Lj,auq]at h;obtain⟨⟨h1,h2⟩,h3⟩:=h;have e:P.funcs[n]? =some (Ec P n):=by
  unfold Ec;cases hf:P.funcs[n]? with
  |some f=>rfl
  |none=>rw[hf]at h1;cases h1
 refine⟨e,?_,sU e h2,h3⟩;have h4:=h2;unfold ZP at h4;rw[auq]at h4;unfold codeOf;cases hb:(Ec P n).body with
 |some c=>rfl
 |none=>rw[hb]at h4;cases h4.1
def PA.goal(q:PA)(g:(xO q.dX->Prop)->Prop)(x:nD q.sh):Prop:=Na q.sh x->(q.F x).1->g λr=>r=(q.F x).2
def XA.goal(q:XA)(g:(ny q.dX×mG q.sh->Prop)->Prop)(x:jT q.sh):Prop:=Nk q.sh x->(q.F x).1->g (q.F x).2
def QA.goal(q:QA)(g:(mO q.dX->Prop)->Prop)(x:jT q.sh):Prop:=Nk q.sh x->(q.F x).1->g (q.F x).2
variable {P:Program} {Θ:jK} {Γ:lN} {G:kJ}
theorem PA.ok{q:PA}(hm:P.follows .mixedOrders=true)(hE:EnvB P G Θ Γ)(H:Hints){p:Prop}
 (hp:(bif Lj P q.n q.sh.length then amI q.sh λx=>q.goal (λK=>Jj Θ Γ H (codeOf (Ec P q.n)) (aea Θ (Ec P q.n).results.toList q.dX K) (entry (Ec P q.n).ntmps (xu q.sh x))) x else False)=p) (h:p):aei P G q.e:=by
 subst hp;cases hc:Lj P q.n q.sh.length with
 |false=>rw[hc]at h;exact h.elim
 |true=>rw[hc]at h;obtain⟨h1,h2,h3,h4⟩:=XM hc;exact⟨agv hE hm h1 h2 H h4 λx hi hx=>ajS h x hi hx,h3⟩
theorem XA.ok{q:XA}(hm:P.follows .mixedOrders=true)(hE:EnvB P G Θ Γ)(H:Hints)(hne:∀x,(q.F x).1->∃t,(q.F x).2 t){p:Prop}
 (hp:(bif Lj P q.n q.sh.length then ai7 q.sh λx=>q.goal (λK=>Jj Θ Γ H (codeOf (Ec P q.n)) (ai5 Θ (Ec P q.n).results.toList q.sh q.dX K) (GL (Ec P q.n).ntmps (vO q.sh x))) x else False)=p) (h:p):aei P G q.e:=by
 subst hp;cases hc:Lj P q.n q.sh.length with
 |false=>rw[hc]at h;exact h.elim
 |true=>rw[hc]at h;obtain⟨h1,h2,h3,h4⟩:=XM hc;exact⟨alN hE hm h1 h2 H h4 hne λx hi hx=>acg h x hi hx,h3⟩
theorem QA.ok{q:QA}(hm:P.follows .mixedOrders=true)(hE:EnvB P G Θ Γ)(H:Hints)(hne:∀x,(q.F x).1->∃t,(q.F x).2 t){p:Prop}
 (hp:(bif Lj P q.n q.sh.length then ai7 q.sh λx=>q.goal (λK=>Jj Θ Γ H (codeOf (Ec P q.n)) (ai6 (Ec P q.n).results.toList q.dX K) (GL (Ec P q.n).ntmps (vO q.sh x))) x else False)=p) (h:p):aei P G q.e:=by
 subst hp;cases hc:Lj P q.n q.sh.length with
 |false=>rw[hc]at h;exact h.elim
 |true=>rw[hc]at h;obtain⟨h1,h2,h3,h4⟩:=XM hc;exact⟨aqi hE hm h1 h2 H h4 hne λx hi hx=>acg h x hi hx,h3⟩
end Go.Fw
namespace Go.Fw
open Go
variable {P:Program} {G:kJ} {f:FuncId}
abbrev iy:List UInt8:=[]
abbrev Bj:List (Int×Unit):=[]
theorem rG.weaken{con XO:VI}(h:rG P G f con)(hc:∀args p out,XO args=some (p,out)->p->∃q,con args=some (q,out)/\q):rG P G f XO:=by intro args p out k S vs w hcon hp hG hrep;obtain⟨q,h1,h2⟩:=hc args p out hcon hp;exact h args q out k S vs w h1 h2 hG hrep
theorem ku.weaken{con XO:IX}(h:ku P G f con)(hc:∀args p ρ,XO args=some (p,ρ)->p->∃q,con args=some (q,ρ)/\q):ku P G f XO:=by intro args p ρ hcon hp;obtain⟨q,h1,h2⟩:=hc args p ρ hcon hp;exact h args q ρ h1 h2
theorem anV{sh:List ji}{dX:List tH}{F:nD sh->Prop×xO dX}(Fr Fs:Nat->nD sh->Prop×xO dX)(h0:∀x,¬(Fr 0 x).1)(hs:∀n x,Fr (n+1) x=Fs n x)
 (hf:∀x,(F x).1->∃n,(Fr n x).1) (he:∀n x,(Fr n x).2=(F x).2) (step:∀n,rG P G f (Gl sh dX (Fr n))->rG P G f (Gl sh dX (Fs n))):rG P G f (Gl sh dX F):=by
 have all:∀n,rG P G f (Gl sh dX (Fr n)):=by
  intro n
  induction n with
  |zero=>
   intro args p out k S vs w hcon hp;unfold Gl Nb at hcon;split at hcon
   .next x _=>have e:(Fr 0 x).1=p:=congrArg Prod.fst (Option.some.inj hcon);exact absurd (e.symm▸hp) (h0 x)
   .cases hcon
  |succ n ih=>have:=step n ih;have e:Fr (n+1)=Fs n:=funext (hs n);rw[e];exact this
 intro args p out k S vs w hcon hp hG hrep;have Nl:=hcon;unfold Gl Nb at Nl;split at Nl
 .next x hx=>have e:=Option.some.inj Nl;have e1:(F x).1=p:=congrArg Prod.fst e;obtain⟨n,hn⟩:=hf x (e1.symm▸hp);refine all n args (Fr n x).1 out k S vs w ?_ hn hG hrep;unfold Gl Nb;rw[hx];show some ((Fr n x).1,_)=_;rw[he n x];exact congrArg (λz=>some ((Fr n x).1,z)) (congrArg Prod.snd e)
 .cases Nl
theorem aqk{sh:List iw}{dX:List rM}{F:jT sh->Prop×(ny dX×mG sh->Prop)}(Fr Fs:Nat->jT sh->Prop×(ny dX×mG sh->Prop))(h0:∀x,¬(Fr 0 x).1)(hs:∀n x,Fr (n+1) x=Fs n x)
 (hf:∀x,(F x).1->∃n,(Fr n x).1) (he:∀n x,(Fr n x).2=(F x).2) (step:∀n,ku P G f (qZ sh dX (Fr n))->ku P G f (qZ sh dX (Fs n))):ku P G f (qZ sh dX F):=by
 have all:∀n,ku P G f (qZ sh dX (Fr n)):=by
  intro n
  induction n with
  |zero=>
   intro args p ρ hcon hp;unfold qZ at hcon;split at hcon
   .next x _=>have e:(Fr 0 x).1=p:=congrArg Prod.fst (Option.some.inj hcon);exact absurd (e.symm▸hp) (h0 x)
   .cases hcon
  |succ n ih=>have:=step n ih;have e:Fr (n+1)=Fs n:=funext (hs n);rw[e];exact this
 intro args p ρ hcon hp;have Nl:=hcon;unfold qZ at Nl;split at Nl
 .next x hx=>have e:=Option.some.inj Nl;have e1:(F x).1=p:=congrArg Prod.fst e;obtain⟨n,hn⟩:=hf x (e1.symm▸hp);refine all n args (Fr n x).1 ρ ?_ hn;unfold qZ;rw[hx];show some ((Fr n x).1,_)=_;rw[he n x];exact congrArg (λz=>some ((Fr n x).1,z)) (congrArg Prod.snd e)
 .cases Nl
end Go.Fw
namespace Go.Fw
open Go
variable {P:Program} {H:Type} {enc:TypeId×Value->H} {w:World}
def aN.app:aN->aN->aN
 |.nil,s=>s
 |.cons c r,s=>.cons c (r.app s)
def ai8:(r s:aN)->r.den->s.den->(r.app s).den
 |.nil,_,_,y=>y
 |.cons _ r,s,x,y=>(x.1,ai8 r s x.2 y)
theorem bM.app{h:Array Obj}{S:Nat->Prop}:∀(r s:aN)(x:r.den)(y:s.den)(vs us:List Value),bM h S r vs x->bM h S s us y->bM h S (r.app s) (vs++us) (ai8 r s x y)
 |.nil,s,x,y,vs,us,h1,h2=>by rw[bM]at h1;subst h1;exact h2
 |.cons c r,s,(x,x'),y,vs,us,h1,h2=>by rw[bM]at h1;obtain⟨v,vs',rfl,g1,g2⟩:=h1;show bM h S (.cons c (r.app s)) (v::(vs'++us)) (x,ai8 r s x' y);rw[bM];exact⟨v,vs'++us,rfl,g1,bM.app r s x' y vs' us g2 h2⟩
theorem add_add(a:Addr)(h:a.spot=none)(m j:Nat):(a.add m).add j=⟨a.block,a.off+m+j,none⟩:=by
 obtain⟨b,o,sp⟩:=a;simp only at h;subst h;unfold Addr.add;by_cases hm:m=0
 .by_cases hj:j=0
  .simp[hm,hj]
  .simp[hm,hj]
 .by_cases hj:j=0
  .simp[hm,hj]
  .simp[hm,hj]
def Qn(f:TypeId->Option aN):List Field->Nat->Option aN
 |[],_=>some .nil
 |x::r,off=>match f x.type with
  |some s=>match Qn f r (off+s.len),Nat.beq x.offset off with
   |some u,true=>some (s.app u)
   |_,_=>none
  |none=>none
def rowOf(P:Program):Nat->TypeId->Option aN
 |0,_=>none
 |n+1,t=>match P.underlying t with
  |some (.int k)=>some (.cons (.int k) .nil)
  |some .bool=>some (.cons .bool .nil)
  |some .string=>some (.cons .str .nil)
  |some (.slice e)=>match rowOf P n e with
   |some s=>match Nat.beq s.len (P.cellsOf e)&&Nat.ble 1 s.len with
    |true=>some (.cons (.sl e s) .nil)
    |false=>none
   |none=>none
  |some (.struct fs)=>match Qn (rowOf P n) fs.toList 0 with
   |some r=>match Nat.beq r.len (P.cellsOf t)with
    |true=>match fs.toList.all λf=>match rowOf P n f.type with|some s=>Nat.beq s.len (P.cellsOf f.type)|none=>false with
     |true=>some r
     |false=>none
    |false=>none
   |none=>none
  |_=>none
theorem alQ{α:Type}{Q:Nat->α->Prop}:∀(n:Nat),(∀i,i<n->∃x,Q i x)->∃l:List α,l.length=n/\∀i x,l[i]? =some x->Q i x
 |0,_=>⟨[],rfl,λi x h=>by simp at h⟩
 |n+1,h=>by
  obtain⟨l,hl,hq⟩:=alQ n λi hi=>h i (by omega);obtain⟨x,hx⟩:=h n (by omega);refine⟨l++[x],by simp[hl],λi y hy=>?_⟩;rcases auJ i n with hi|hi
  .rw[au3 (by omega)]at hy;exact hq i y hy
  .rw[auZ (by omega)]at hy;have:i=n:=by
    rcases auJ n i with h'|h'
    .rw[avi (by simp;omega)]at hy;cases hy
    .omega
   subst this;simp[hl]at hy;rw[← hy];exact hx
theorem alR:∀(r s:aN),(r.app s).len=r.len+s.len
 |.nil,s=>by simp[aN.app,aN.len]
 |.cons c r,s=>by simp only[aN.app,aN.len,alR r s];omega
theorem aej{f:TypeId->Option aN}{S:Nat->Prop}{h:Array Obj}(cs:List Value)
 (part:∀(t:TypeId)(r:aN)(off:Nat),f t=some r->(∃g:Field,g.type=t/\g.offset=off)->True):∀(fs:List Field)(off:Nat)(r:aN),Qn f fs off=some r->
 (∀g∈fs,∀s,f g.type=some s->∃x,bM h S s ((cs.drop g.offset).take s.len) x)->
 ∃x,bM h S r ((cs.drop off).take r.len) x
 |[],off,r,hr,_=>by
  cases hr;exact⟨(),by rw[bM];simp[aN.len]⟩
 |g::fs,off,r,hr,hall=>by
  rw[Qn]at hr;split at hr
  .next s hs=>
   split at hr
   .next u hu hb=>
    cases hr;obtain⟨x,hx⟩:=hall g auF s hs;rw[aus hb]at hx;obtain⟨y,hy⟩:=aej cs part fs (off+s.len) u hu λg' hg'=>hall g' (auH _ hg');refine⟨ai8 s u x y,?_⟩;have:=bM.app s u x y _ _ hx hy;rw[alR];have e:(cs.drop off).take (s.len+u.len)=(cs.drop off).take s.len++(cs.drop (off+s.len)).take u.len:=by rw[List.take_add,avZ]
    rw[e];exact this
   .cases hr
  .cases hr
theorem ach:∀(n:Nat)(t:TypeId)(r:aN),rowOf P n t=some r->∀(m:Nat)(base:Nat)(spare:Nat->Bool)(held:Bool)(cs:List Value)(x:DataW H×List MemPlace),
 DataW.trod enc P w base spare held m t cs=some x->∃y,bM w.heap (λb=>b<w.heap.size) r cs y
 |0,t,r,hr=>by cases hr
 |n+1,t,r,hr=>by
  intro m base spare held cs x hx;rw[rowOf]at hr;split at hr
  .next k hu=>cases hr;obtain⟨i,rfl,_,hwf⟩:=DataW.trod_int hu hx;simp only[Lit.wf,auq,auK]at hwf;exact⟨(i,()),by rw[bM];exact⟨_,[],rfl,by rw[jC];exact⟨rfl,hwf⟩,by rw[bM]⟩⟩
  .next hu=>cases hr;obtain⟨b,rfl,_⟩:=DataW.trod_bool hu hx;exact⟨(b,()),by rw[bM];exact⟨_,[],rfl,by rw[jC],by rw[bM]⟩⟩
  .next hu=>cases hr;obtain⟨s,rfl,_,hs⟩:=DataW.trod_string hu hx;refine⟨(s.data.toList,()),by rw[bM];exact⟨_,[],rfl,by rw[jC];exact⟨by simp,by simpa using hs⟩,by rw[bM]⟩⟩
  .next e hu=>
   split at hr
   .next s hs=>
    split at hr
    .next hb=>
     cases hr;rw[auq]at hb;have hlen:=aus hb.1;have hpos:1<=s.len:=by simpa[awI]using hb.2
     rcases DataW.trod_slice hu hx with⟨rfl,_⟩|⟨a,len,cap,elems,rest,k,_,rfl,_,hbase,hle,hmax,hel,hrow,_,_⟩
     .exact⟨([],()),by rw[bM];exact⟨_,[],rfl,by rw[jC];exact⟨by simp,.inl ⟨rfl,none,0,rfl⟩⟩,by rw[bM]⟩⟩
     .by_cases h0:len=0
      .subst h0;exact⟨([],()),by rw[bM];exact⟨_,[],rfl,by rw[jC];exact⟨by simp,.inl ⟨rfl,some a,cap,rfl⟩⟩,by rw[bM]⟩⟩
      .have each:∀i,i<len->∃(ys:List Value)(z:s.den),w.cells? base (a.add (i*P.cellsOf e)) (P.cellsOf e)=some ys/\bM w.heap (λb=>b<w.heap.size) s ys z:=by intro i hi;have h1:=hrow i hi;rw[auw (by omega)]at h1;obtain⟨ys,hys,hy2⟩:=Option.bind_eq_some_iff.1 h1;obtain⟨z,hz⟩:=ach n e s hs k base spare held ys _ hy2;exact⟨ys,z,hys,hz⟩
       obtain⟨ys0,z0,hc0,hz0⟩:=each 0 (by omega);obtain⟨_,hl0,hcell0⟩:=World.cells?_some hc0;have aci:=hcell0 0 (by omega);simp only[awu,Addr.add,if_true]at aci;have asM:∃v,ys0[0]? =some v:=⟨ys0[0]'(by omega),by simp[show 0<ys0.length by omega]⟩;obtain⟨v0,hv0⟩:=asM;rw[hv0]at aci;unfold World.cell? at aci;split at aci
       .next c ty fz hblk=>
        split at aci
        .cases aci
        .next hsp=>
         have hspot:a.spot=none:=by cases h:a.spot with|none=>rfl|some q=>rw[h]at hsp;simp at hsp
         have ha:a=⟨a.block,a.off,none⟩:=by cases a;simp at hspot;rw[hspot]
         have hb':a.block<w.heap.size:=by obtain⟨hlt,_⟩:=ava.1 hblk;exact hlt
         have rows:∀i,i<len->∃z:s.den,bM w.heap (λb=>b<w.heap.size) s ((c.toList.drop (a.off+i*s.len)).take s.len) z:=by
          intro i hi;obtain⟨ys,z,hcs,hz⟩:=each i hi;obtain⟨_,hl,hcell⟩:=World.cells?_some hcs;refine⟨z,?_⟩;have:(c.toList.drop (a.off+i*s.len)).take s.len=ys:=by
           refine avQ λj=>?_;rcases auJ j s.len with hj|hj
           .rw[avO hj,au4];have h2:=hcell j (by omega);have hadd:=add_add a hspot (i*P.cellsOf e) j;rw[← hlen]at hadd h2;rw[hadd]at h2;unfold World.cell? at h2;simp only[hblk,Option.isSome_none,av1,awV]at h2;rw[← h2];simp
           .rw[avi (by simp;omega),avi (by omega)]
          rw[this];exact hz
         obtain⟨l,hll,hlq⟩:=alQ len rows;refine⟨(l,()),by rw[bM];exact⟨_,[],rfl,by rw[jC];exact⟨by omega,.inr ⟨a.block,a.off,cap,c,ty,fz,by rw[hll,← ha],by omega,hb',hblk,hlq⟩⟩,by rw[bM]⟩⟩
       .cases aci
    .cases hr
   .cases hr
  .next fs hu=>
   split at hr
   .next r' hf=>
    split at hr
    .next hb=>
     split at hr
     .next hall=>
      cases hr;obtain⟨xs,k,_,_,hcl,hxl,hparts⟩:=DataW.trod_struct hu hx;have hlen:=aus hb;have:=aej (h:=w.heap) (S:=λb=>b<w.heap.size) cs (λ_ _ _ _ _=>trivial) fs.toList 0 _ hf ?_
      .obtain⟨y,hy⟩:=this;refine⟨y,?_⟩;rw[av2,avt (by omega)]at hy;exact hy
      .intro g hg s hs;have hg2:=auU.1 hall g hg;rw[hs]at hg2;have hsl:=aus hg2;obtain⟨i,hi,hgi⟩:=awL.1 hg;have hp:=hparts i g (by rw[← hgi];simp[show i<fs.size by simpa using hi]);rw[auw (by simp at hi;omega)]at hp;rw[hsl];exact ach n g.type s hs k base spare held _ _ hp
     .cases hr
    .cases hr
   .cases hr
  .cases hr
def CT.csh:CT->iC
 |.int k=>.int k
 |.bool=>.bool
 |.str=>.str
 |.sl e r=>.sl e r false
def toC:(c:CT)->c.den->c.csh.den
 |.int _,x=>x
 |.bool,x=>x
 |.str,x=>x
 |.sl _ _,x=>x
def aN.shs:aN->List iC
 |.nil=>[]
 |.cons c r=>c.csh::r.shs
def toCs:(r:aN)->r.den->mO r.shs
 |.nil,_=>()
 |.cons c r,x=>(toC c x.1,toCs r x.2)
theorem agB(X:V):∀(r:aN)(vs:List Value)(x:r.den),bM X.w.heap (X.dU false) r vs x->ak X (iK r.shs (toCs r x)) vs
 |.nil,vs,x,h=>by rw[bM]at h;subst h;trivial
 |.cons c r,vs,(x,y),h=>by
  rw[bM]at h;obtain⟨v,vs',rfl,h1,h2⟩:=h;refine⟨?_,agB X r vs' y h2⟩;cases c with
  |int k=>exact h1
  |bool=>exact h1
  |str=>exact h1
  |sl e r=>exact h1
def amJ(P:Program)(t:TypeId):Option tH:=
 match rowOf P 64 t with
 |some r=>match P.underlying t with
  |some (.struct _)=>some (.agg r.shs)
  |some (.array _ _)=>none
  |_=>match r with
   |.cons c .nil=>some (.one c.csh)
   |_=>none
 |none=>none
def Ox(P:Program):List TypeId->Option (List ji)
 |[]=>some []
 |t::ts=>match amJ P t,Ox P ts with
  |some s,some l=>some (.v s::l)
  |_,_=>none
def start(w:World):V:=⟨w,w.heap.size,λb=>b<w.heap.size,λ_=>undef,λ_=>none⟩
theorem aql{t:TypeId}{s:tH}(hs:amJ P t=some s){base base':Nat}{sp:Nat->Bool}{hd:Bool}{v:Value}{d:DataW H}{p:List MemPlace}
 (ht:DataW.Trod enc P w base sp hd t v d p) (hv:Value.okWide P w .any base' t v):∃x:s.den,fB (start w) (s.val x) v:=by
 unfold amJ at hs;split at hs
 .next r hr=>
  obtain⟨m,hm⟩:=ht;obtain⟨y,hy⟩:=ach 64 t r hr m base sp hd _ _ hm;have hy':bM (start w).w.heap ((start w).dU false) r v.cells.toList y:=
   bM.mono (λb hb=>⟨⟨⟨hb,λ_=>hb,λo x hx=>by cases hx⟩,λe=>by cases e⟩,rfl⟩) r _ y hy
  unfold Value.okWide at hv;split at hs
  .next fs hu=>cases hs;rw[hu]at hv;obtain⟨cs,rfl,_,_⟩:=hv;exact⟨toCs r y,cs,rfl,agB (start w) r _ y hy'⟩
  .cases hs
  .next hns hna=>
   split at hs
   .next c=>
    cases hs;have hcell:v.cells=#[v]:=by
     cases hv2:v<;>first
      |rfl
      |(exfalso
        rw[hv2]at hv;split at hv
        .next hu=>exact hns _ hu
        .next hu=>exact hna _ _ hu
        .unfold Go.Cell.okWide at hv;split at hv<;>first|(rename_i h1 h2;cases h2;done)|(rename_i h2;cases h2;done)|skip;unfold Go.Cell.ok at hv;split at hv<;>first|(rename_i h1 h2;cases h2;done)|exact hv)
    have:=agB (start w) _ _ y hy';rw[hcell]at this;exact⟨toC c y.1,this.1⟩
   .cases hs
 .cases hs
theorem ajT:∀(ts:List TypeId)(sh:List ji),Ox P ts=some sh->∀{base base':Nat}{sp:Nat->Bool}{hd:Bool}(vs:List Value)(ds:List (DataW H))(p:List MemPlace),
 DataW.TrodAll enc P w base sp hd ts vs ds p->(∀(j:Nat) t v,ts[j]? =some t->vs[j]? =some v->Value.okWide P w .any base' t v)->∃x:nD sh,pK (start w) (xu sh x) vs
 |[],sh,hs,_,_,_,_,vs,ds,p,h,_=>by
  cases hs;cases vs with
  |nil=>exact⟨(),trivial⟩
  |cons v vs=>cases ds<;>simp[DataW.TrodAll]at h
 |t::ts,sh,hs,base,base',sp,hd,vs,ds,p,h,hok=>by
  rw[Ox]at hs;split at hs
  .next s l h1 h2=>
   cases hs;cases vs with
   |nil=>cases ds<;>simp[DataW.TrodAll]at h
   |cons v vs=>
    cases ds with
    |nil=>simp[DataW.TrodAll]at h
    |cons d ds=>obtain⟨a,b,g1,g2,_⟩:=h;obtain⟨x,hx⟩:=aql h1 g1 (hok 0 t v rfl rfl);obtain⟨y,hy⟩:=ajT ts l h2 vs ds b g2 λj t' v' ht' hv'=>hok (j+1) t' v' (by simpa using ht') (by simpa using hv');exact⟨(x,y),hx,hy⟩
  .cases hs
mutual
theorem CT.J9:∀(c:CT),c.beq c=true
 |.int k=>by simp[CT.beq]
 |.bool=>rfl
 |.str=>rfl
 |.sl e r=>by simp[CT.beq,aN.J9 r]
theorem aN.J9:∀(r:aN),r.beq r=true
 |.nil=>rfl
 |.cons c r=>by simp[aN.beq,CT.J9 c,aN.J9 r]
end
theorem ahW:∀(c:iC)(x:c.den),c.read (c.cell x)=some x
 |.int k,x=>by simp[iC.cell,iC.read]
 |.bool,x=>rfl
 |.str,x=>rfl
 |.sl e r fr,l=>by
  simp only[iC.cell,iC.read,avc];have h1:Oq fr fr=true:=by cases fr<;>rfl
  have h2:r.beq r=true:=aN.J9 r;rw[h1];simp only[Bool.and_self];rw[dif_pos h2];rfl
 |.nil,x=>rfl
 |.ref o,x=>by simp[iC.cell,iC.read]
 |.junk,x=>rfl
theorem aek:∀(l:List iC)(x:mO l),kM l (iK l x)=some x
 |[],_=>rfl
 |c::r,x=>by rw[iK,kM,ahW c x.1,aek r x.2]
theorem ajU:∀(ts:List TypeId)(l:List ji),Ox P ts=some l->∀(x:nD l),Jk l (xu l x)=some x
 |[],l,h,x=>by cases h;rfl
 |t::ts,l,h,x=>by
  rw[Ox]at h;split at h
  .next s r h1 h2=>
   cases h;have ih:=ajU ts r h2 x.2;cases s with
   |one c=>
    have e:(ji.v (.one c)).read ((ji.v (.one c)).val x.1)=some x.1:=ahW c x.1;rw[xu,Jk,ih,e]
   |agg l=>have e:(ji.v (.agg l)).read ((ji.v (.agg l)).val x.1)=some x.1:=aek l x.1;rw[xu,Jk,ih,e]
  .cases h
def agC:Out:=⟨[(false,[.plain (.bool true)])],none⟩
theorem anW{G:kJ}{f:FuncId}{fn:Func}{sh:List ji}{F:nD sh->Prop×Out}(hcon:rG P G f (Nb sh F))(hsh:Ox P fn.params.toList=some sh)
 (hF:∀x,Na sh x->(F x).1/\(F x).2=agC) (hG:G.ok w) {base base':Nat} {sp:Nat->Bool} {hd:Bool} {args:Array Value} {ds:List (DataW H)} {p:List MemPlace}
 (hA:DataW.TrodAll enc P w base sp hd fn.params.toList args.toList ds p) (hok:∀(j:Nat) t v,fn.params[j]? =some t->args[j]? =some v->Value.okWide P w .any base' t v):
 Calls P f args w λe w'=>e=.returned (.bool true)/\w'.os=w.os/\w'.output=w.output/\w.heap.size<=w'.heap.size/\∀b,b<w.heap.size->w'.heap[b]? =w.heap[b]? :=by
 obtain⟨x,hx⟩:=ajT _ _ hsh _ _ _ hA λj t v ht hv=>hok j t v (by simpa using ht) (by simpa using hv);have hin:=ET sh x _ hx;obtain⟨hp,ho⟩:=hF x hin;have hc:Nb sh F (xu sh x)=some ((F x).1,agC):=by unfold Nb;rw[ajU _ _ hsh x];simp only[← ho]
 refine(hcon (xu sh x) _ _ 0 _ args w hc hp hG hx).mono ?_;rintro e w' ⟨v,vals,rfl,h1,h2,h3,h4,h5,h6,_,_⟩;have hv:v=.bool true:=h6;exact⟨by rw[hv],h1,h3,h4,h5⟩
theorem ao1{w w':World}(h1:w'.os=w.os)(h3:w'.output=w.output)(h5:∀b,b<w.heap.size->w'.heap[b]? =w.heap[b]?)(may:MemPlace->Prop):w.keptBut w' may:=by
 refine⟨h1,h3,λi hi=>?_⟩;rw[h5 i hi];cases hw:w.heap[i]? with
 |none=>trivial
 |some o=>cases o<;>simp
theorem ao2{w w':World}(h5:∀b,b<w.heap.size->w'.heap[b]? =w.heap[b]?){p:MemPlace}(hp:p.block<w.heap.size):w.sameAt w' p:=by
 cases p with
 |cell b off=>
  show w'.cell? _=w.cell? _;unfold World.cell?;simp only;rw[h5 b hp]
 |map b=>exact h5 b hp
end Go.Fw
namespace Go.Fw
open Go
variable {P:Program} {G:kJ} {f:FuncId}
theorem ak9{args:List Arg}{i:Nat}{x:Arg}{p:Nat}(hp:p / 64≠i):dY (args.set i x) p=dY args p:=by unfold dY;rw[avn (λh=>hp h.symm)]
theorem XP{args:List Arg}{i:Nat}{e:TypeId}{r:aN}{l:List r.den}(hi:i<args.length)(p:Nat)(hp:p / 64=i):dY (args.set i (.own e r l)) p=if p=i*64+49 then some (.arr e r l false)else none:=by
 unfold dY;rw[hp,avG hi];by_cases h:p=i*64+49
 .subst h;have:Nat.beq ((i*64+49)%64) 49=true:=by
   have:(i*64+49)%64=49:=by omega
   rw[this];rfl
  simp[this]
 .have:Nat.beq (p%64) 49=false:=by
   cases hb:Nat.beq (p%64) 49 with
   |false=>rfl
   |true=>have:=aus hb;omega
  simp[this,h]
theorem alS{args:List Arg}{i:Nat}{v:SV}(ha:args[i]? =some (.sv v))(p:Nat)(hp:p / 64=i):dY args p=none:=by unfold dY;rw[hp,ha]
def Oy(γ:Nat->Value)(i:Nat)(o:Nat):Value:=if o=i*64+49 then .slice none 0 0 else γ o
theorem rP.mono{X Y:V}(h:X.le Y):∀(a:Arg)(v:Value),rP X a v->rP Y a v
 |.sv x,v,H=>fB.mono h x v H
 |.kp cs,v,H=>bJ.mono h (.dB cs 0) v H
 |.fn f caps,v,H=>bJ.mono h (.fn f caps) v H
 |.own _ _ _,_,H|.ptr _,_,H=>H.elim
theorem Oh.mono{X Y:V}(h:X.le Y)(i:Nat):∀(a:Arg)(v:Value),Oh X i a v->Oh Y i a v
 |.own _ _ _,v,H=>bC.mono h (.ref (i*64+49)) v H
 |.ptr _,v,H=>bJ.mono h (.bT (i*64+48) 0) v H
 |.sv x,v,H=>rP.mono h (.sv x) v H
 |.kp cs,v,H=>rP.mono h (.kp cs) v H
 |.fn f caps,v,H=>rP.mono h (.fn f caps) v H
theorem zx.nil{X Y:V}(h:X.le Y){e:TypeId}{r:aN}:∀(args:List Arg)(vs:List Value)(j i:Nat),args[i]? =some (.sv (.one .nil))->
 Y.ah ((j+i)*64+49)=some (.arr e r [] false)->Y.γ ((j+i)*64+49)=.slice none 0 0->zx X j args vs->zx Y j (args.set i (.own e r [])) vs
 |[],[],_,i,ha,_,_,_=>by simp at ha
 |[],_::_,_,_,_,_,_,H=>H.elim
 |_::_,[],_,_,_,_,_,H=>H.elim
 |a::args,v::vs,j,0,ha,ho,hγ,⟨h1,h2⟩=>by
  have ha:a=.sv (.one .nil):=by simpa using ha
  subst ha;have hv:v=.slice none 0 0:=h1;refine⟨⟨⟨e,r,[],false,ho⟩,?_,by rw[hv];rfl⟩,?_⟩
  .rw[hv];exact hγ.symm
  .show zx Y (j+1) args vs;clear h1 ha ho hγ hv;generalize j+1=k at h2
   induction args generalizing k vs with
   |nil=>cases vs with
    |nil=>trivial
    |cons _ _=>exact h2.elim
   |cons b args ih=>cases vs with
    |nil=>exact h2.elim
    |cons u vs=>exact⟨Oh.mono h k b u h2.1,ih vs (k+1) h2.2⟩
 |a::args,v::vs,j,i+1,ha,ho,hγ,⟨h1,h2⟩=>by
  have e1:j+(i+1)=j+1+i:=by omega
  rw[e1]at ho hγ;exact⟨Oh.mono h j a v h1,zx.nil h args vs (j+1) i (by simpa using ha) ho hγ h2⟩
theorem ku.aqV{con XO:IX}(i:Nat)(e:TypeId)(r:aN)(hr:0<r.len)(h:ku P G f con)
 (hc:∀args p ρ,XO args=some (p,ρ)->p->args[i]? =some (.sv (.one .nil))/\(∀t,lX (ρ.aZ t) (i*64+49)=none)/\∃q,con (args.set i (.own e r []))=some (q,ρ)/\q):ku P G f XO:=by
 intro args p ρ hcon hp;obtain⟨ha,hF,q,hq1,hq⟩:=hc args p ρ hcon hp;have hlen:i<args.length:=by have:=auC.1 ha;exact this.1
 obtain⟨hex,hcall⟩:=h _ q ρ hq1 hq;refine⟨hex,λk S γ vs w hG hrep nY hsep hfree=>?_⟩;have hO:∀o,o≠i*64+49->dY (args.set i (.own e r [])) o=dY args o:=by
  intro o ho;by_cases hd:o / 64=i
  .rw[XP hlen o hd,alS ha o hd,if_neg ho]
  .exact ak9 hd
 have hN:dY (args.set i (.own e r [])) (i*64+49)=some (.arr e r [] false):=by rw[XP hlen _ (by omega),if_pos rfl]
 have hN':dY args (i*64+49)=none:=alS ha _ (by omega);have hγN:Oy γ i (i*64+49)=.slice none 0 0:=if_pos rfl;have hγ:∀o,o≠i*64+49->Oy γ i o=γ o:=λo ho=>if_neg ho;have hne:∀o x,dY args o=some x->o≠i*64+49:=λo x ho e=>by rw[e,hN']at ho;cases ho
 have le:V.le ⟨w,w.heap.size,S,γ,dY args⟩ ⟨w,w.heap.size,S,Oy γ i,dY (args.set i (.own e r []))⟩:=by
  refine⟨auI _,λb hb=>⟨⟨hb.1,hb.2.1,λo x hx=>?_⟩,rfl⟩,λo cs hx=>⟨⟨cs,?_⟩,hγ o (hne o _ hx)⟩,λo e r l fr hx=>⟨⟨l,fr,?_⟩,hγ o (hne o _ hx)⟩⟩
  .by_cases ho:o=i*64+49
   .show blk (Oy γ i o)≠some b;rw[ho,hγN];intro hh;cases hh
   .show blk (Oy γ i o)≠some b;rw[hγ o ho];exact hb.2.2 o x ((hO o ho).symm.trans hx)
  .exact(hO o (hne o _ hx)).trans hx
  .exact(hO o (hne o _ hx)).trans hx
 have hbl:∀b,xq (dY (args.set i (.own e r []))) (Oy γ i) b↔xq (dY args) γ b:=by
  intro b;constructor
  .rintro⟨o,x,h1,h2⟩;by_cases ho:o=i*64+49
   .rw[ho,hγN]at h2;cases h2
   .exact⟨o,x,(hO o ho)▸h1,(hγ o ho)▸h2⟩
  .rintro⟨o,x,h1,h2⟩;exact⟨o,x,(hO o (hne o x h1)).trans h1,by rw[hγ o (hne o x h1)];exact h2⟩
 refine Calls.mono (hcall k S (Oy γ i) vs w hG (zx.nil (Y:=⟨w,w.heap.size,S,Oy γ i,dY (args.set i (.own e r []))⟩) le args vs.toList 0 i ha (by rw[auY];exact hN) (by rw[auY];exact hγN) hrep) ?_ ?_ hfree) ?_
 .intro o x hx;by_cases ho:o=i*64+49
  .subst ho;rw[hN]at hx;cases hx;refine⟨⟨[],?_,hr,λb hb=>?_,λj x hj=>by simp at hj⟩,λb hb=>?_⟩
   .show w.ownsRow 0 e r.len (Oy γ i (i*64+49)) 0 [];rw[hγN];exact axn w 0 e r.len
   .have hb:blk (Oy γ i (i*64+49))=some b:=hb;rw[hγN]at hb;cases hb
   .rw[hγN]at hb;cases hb
  .have hx':dY args o=some x:=(hO o ho)▸hx;have:=nY o x hx';refine⟨dm.mono le o x (λb _=>rfl) (hγ o ho) this.1,λb hb=>this.2 b ((hγ o ho)▸hb)⟩
 .intro o x q y b hx hy hoq hb;by_cases ho:o=i*64+49
  .rw[ho,hγN]at hb;cases hb
  by_cases hq':q=i*64+49
  .rw[hq',hγN];intro hh;cases hh
  rw[hγ o ho]at hb;rw[hγ q hq'];exact hsep o x q y b ((hO o ho)▸hx) ((hO q hq')▸hy) hoq hb
 .rintro en w' ⟨t,ht,v,γ',h1,h2,h3,h4,h5,h6,h7,h8,h9,h10⟩;have amK:∀o x,lX (ρ.aZ t) o=some x->o≠i*64+49:=λo x ho e=>by rw[e,hF t]at ho;cases ho
  have hL:qG S (args.set i (.own e r [])) (ρ.aZ t) (Oy γ i)=qG S args (ρ.aZ t) γ:=by
   funext b
   apply propext;constructor
   .rintro⟨a1,a2⟩;refine⟨a1.imp_right (hbl b).1,λq y hy=>?_⟩;have:=a2 q y hy
    rwa [hγ q (amK q y hy)]at this
   .rintro⟨a1,a2⟩;refine⟨a1.imp_right (hbl b).2,λq y hy=>?_⟩;rw[hγ q (amK q y hy)];exact a2 q y hy
  rw[hL]at h7 h8 h10;refine⟨t,ht,v,γ',h1,h2,h3,h4,h5,λb hb hn=>h6 b hb (λh=>hn ((hbl b).1 h)),h7,λo x hx=>?_,h9,λo x hx=>?_⟩
  .obtain⟨a1,a2⟩:=h8 o x hx;refine⟨a1,λb hb=>?_⟩;obtain⟨b1,b2,b3⟩:=a2 b hb;refine⟨b1,b2.imp_right (hbl b).1,λq y hy=>?_⟩;have:=b3 q y hy
   rwa [hγ q (amK q y hy)]at this
  .obtain⟨a1,a2⟩:=h10 o x hx;exact⟨a1.trans (hγ o (amK o x hx)),a2⟩
theorem anX{l:List iC}{e:TypeId}{r:aN}{rest:List iw}{dX:List rM}{F:jT (.ptr l:: .own e r::rest)->Prop×(ny dX×mG (.ptr l:: .own e r::rest)->Prop)}
 {F':jT (.ptr l:: .p (.v (.one .nil))::rest)->Prop×(ny dX×mG (.ptr l:: .own e r::rest)->Prop)} (hr:0<r.len) (h:ku P G f (qZ (.ptr l:: .own e r::rest) dX F))
 (hF:∀a x,(F' (a,(),x)).1->(F (a,[],x)).1) (hF2:∀a x,(F' (a,(),x)).1->(F' (a,(),x)).2=(F (a,[],x)).2):ku P G f (qZ (.ptr l:: .p (.v (.one .nil))::rest) dX F'):=by
 refine ku.aqV 1 e r hr h λargs p ρ hcon hp=>?_
 match args,hcon with
 |[],hcon=>simp[qZ,ja]at hcon
 |[a],hcon=>
  have:ja (.ptr l:: .p (.v (.one .nil))::rest) [a]=none:=by simp only[ja];split<;>simp_all
  simp[qZ,this]at hcon
 |a::b::args,hcon=>
  cases ha:(iw.ptr l).read a with
  |none=>simp[qZ,ja,ha]at hcon
  |some a'=>
  cases hb:(iw.p (.v (.one .nil))).read b with
  |none=>simp[qZ,ja,ha,hb]at hcon
  |some b'=>
  cases hx:ja rest args with
  |none=>simp[qZ,ja,ha,hb,hx]at hcon
  |some x=>
   have hb2:b=.sv (.one .nil):=by
    cases b with
    |sv s=>cases s with
     |one c=>cases c with
      |nil=>rfl
      |int k n=>cases hb
      |bool k=>cases hb
      |str k=>cases hb
      |sl e r l fr=>cases hb
      |ref o=>cases hb
      |junk=>cases hb
     |agg cs=>cases hb
    |_=>cases hb
   subst hb2;simp only[qZ,ja,ha,hb,hx]at hcon;have hcon:=Option.some.inj hcon;have h1:(F' (a',(),x)).1=p:=congrArg Prod.fst hcon;have h2:(⟨ny dX×mG (.ptr l:: .own e r::rest),(F' (a',(),x)).2,λt=>⟨iZ dX t.1,none⟩,λt=>jb (.ptr l:: .own e r::rest) t.2⟩:LU)=ρ:=congrArg Prod.snd hcon;have hp':(F' (a',(),x)).1:=h1▸hp;subst h2;refine⟨rfl,λt=>rfl,(F (a',[],x)).1,?_,hF a' x hp'⟩
   .have ho:(iw.own e r).read (.own e r [])=some []:=by unfold iw.read;simp only[avc];rw[dif_pos (aN.J9 r)];rfl
    simp only[List.set_cons_succ,List.set_cons_zero,qZ,ja,ha,ho,hx];have:=hF2 a' x hp';exact congrArg (λz=>some ((F (a',[],x)).1,(⟨ny dX×mG (.ptr l:: .own e r::rest),z,λt=>⟨iZ dX t.1,none⟩,λt=>jb (.ptr l:: .own e r::rest) t.2⟩:LU))) this.symm
end Go.Fw
namespace Go.Fw
open Go
theorem af{b:Bool}{A B:Prop}(h1:b=true->A)(h2:b=false->B):cond b A B:=by
 cases b
 .exact h2 rfl
 .exact h1 rfl
theorem eP(z:Int)(h:-9223372036854775808<=z/\z<=9223372036854775807):IntKind.i64.wrap z=z:=IntWalk.i64_in z (by omega)
theorem maxLen_eq:maxLen=9223372036854775807:=by decide
theorem bY:big=4294967296:=rfl
theorem getD_mem{α:Type}{l:List α}{n:Nat}{d:α}(h:n<l.length):l.getD n d∈l:=by rw[aur,auw h,axw];exact avA h
end Go.Fw
namespace Go.Fw
open Go
end Go.Fw
namespace Go.Fw
open Go
variable {P:Program}
def qI(cur:Array Value)(o:Nat)(cs:List Value):Array Value:=(cur.toList.take o++cs++cur.toList.drop (o+cs.length)).toArray
theorem wu(cur:Array Value)(o:Nat)(cs:List Value)(h:o+cs.length<=cur.size):(qI cur o cs).size=cur.size:=by simp only[qI,awn,auy,aut,au2,auQ];omega
theorem wI(cur:Array Value)(o:Nat)(cs:List Value)(k:Nat)(h:o+cs.length<=cur.size):
 (qI cur o cs).toList[k]? =if k<o then cur.toList[k]? else if k<o+cs.length then cs[k-o]? else cur.toList[k]? :=by
 have ht:(cur.toList.take o).length=o:=by rw[aut,auQ];omega
 simp only[qI];by_cases h1:k<o
 .rw[if_pos h1,avb,au3 (by omega),auN,if_pos h1]
 .rw[if_neg h1];by_cases h2:k<o+cs.length
  .rw[if_pos h2,avb,auZ (by omega),ht,au3 (by omega)]
  .rw[if_neg h2,auZ (by rw[auy];omega),auy,ht,au4];congr 1;omega
theorem amL(R:Array Value)(a:Nat)(vs ds:List Value)(h:a+vs.length+ds.length<=R.size):
 (qI (qI R a vs) (a+vs.length) ds).toList.take (a+vs.length+ds.length)=R.toList.take a++(vs++ds):=by
 have s1:=wu R a vs (by omega);have hl:(R.toList.take a).length=a:=by rw[aut,auQ];omega
 apply avQ;intro j;rw[auN];by_cases h1:j<a
 .rw[if_pos (by omega),wI _ _ _ _ (by omega),if_pos (by omega),wI _ _ _ _ (by omega),if_pos h1,au3 (by omega),auN,if_pos h1]
 .rw[auZ (by omega),hl];by_cases h2:j<a+vs.length
  .rw[if_pos (by omega),wI _ _ _ _ (by omega),if_pos h2,wI _ _ _ _ (by omega),if_neg h1,if_pos h2,au3 (by omega)]
  .rw[auZ (by omega)];by_cases h3:j<a+vs.length+ds.length
   .rw[if_pos h3,wI _ _ _ _ (by omega),if_neg h2,if_pos h3];congr 1;omega
   .rw[if_neg h3,avi (by omega)]
theorem amM(R:Array Value)(a:Nat)(vs ds:List Value)(h:a+vs.length+ds.length<=R.size):
 (qI (qI R (a+vs.length) ds) a vs).toList.take (a+vs.length+ds.length)=R.toList.take a++(vs++ds):=by
 have s1:=wu R (a+vs.length) ds (by omega);have hl:(R.toList.take a).length=a:=by rw[aut,auQ];omega
 apply avQ;intro j;rw[auN];by_cases h1:j<a
 .rw[if_pos (by omega),wI _ _ _ _ (by omega),if_pos (by omega),wI _ _ _ _ (by omega),if_pos (by omega),au3 (by omega),auN,if_pos h1]
 .rw[auZ (by omega),hl];by_cases h2:j<a+vs.length
  .rw[if_pos (by omega),wI _ _ _ _ (by omega),if_neg h1,if_pos h2,au3 (by omega)]
  .rw[auZ (by omega)];by_cases h3:j<a+vs.length+ds.length
   .rw[if_pos h3,wI _ _ _ _ (by omega),if_neg h1,if_neg h2,wI _ _ _ _ (by omega),if_neg h2,if_pos h3];congr 1;omega
   .rw[if_neg h3,avi (by omega)]
theorem ajV(w:World)(g:Nat)(a b:Array Value):(w.setRow g a).setRow g b=w.setRow g b:=setRow_setRow w g a b
theorem size_setRow(w:World)(g:Nat)(a:Array Value):(w.setRow g a).heap.size=w.heap.size:=by simp[World.setRow]
theorem FT(w:World)(dT sT ty e:TypeId)(k g o dl dc:Nat)(sa:Addr)(sl sc n:Nat)(cur:Array Value)(t:TypeId)(cs:List Value)
 (hu:P.underlying dT=some (.slice e)) (hs:(P.info? e).map (·.size)=some k) (hg:w.heap[g]? =some (.cells cur t (0,0))) (hn:Nat.min sl dl=n) (hcl:cs.length=n*k)
 (hsrc:∀j v,cs[j]? =some v->w.cell? (sa.add j)=some v) (hfit:o+cs.length<=cur.size) (h1:∀v∈cs,v.oneCell'=true):
 (Builtin.copy_ #[dT,sT] ty #[.slice (some ⟨g,o,none⟩) dl dc,.slice (some sa) sl sc]).run P w=.ok (goInt n) (w.setRow g (qI cur o cs)):=by
 have hl:=run_loadCells_list (P:=P) w sa cs hsrc;have hst:=axm P g o t cs 0 cur w hg (by simpa using hfit) h1;cases hq:P.info? e with
 |none=>simp[hq]at hs
 |some i=>
  have hi:i.size=k:=by simpa[hq]using hs
  simp[Builtin.copy_,au0 hu,Builtin.lenOf,Builtin.firstCells,sizeOf,typeInfo,hq,hi,hn,← hcl,hl,hst,qI]
theorem XQ(v:Value)(h:v.ownBlock=none\/True):∀{n:Nat}{e:TypeId}{k b0:Nat}{xs:List Value}{w:World},w.ownsRow b0 e k v n xs->blk v=v.ownBlock:=by intro n e k b0 xs w hw;rcases hw.2 with⟨rfl,_⟩|⟨g,cap,cur,rfl,_⟩<;>rfl
def ael(P:Program)(f:FuncId)(e:TypeId)(k:Nat):Prop:=
 ∀(w:World)(v u:Value)(n i:Nat)(xs ys:List Value),w.ownsRow 0 e k v n xs->w.ownsRow 0 e k u 1 ys->(∀b,v.ownBlock=some b->u.ownBlock≠some b)->i<=n->n<=1000->
  (∀x∈xs,x.oneCell'=true)->(∀x∈ys,x.oneCell'=true)->
  Calls P f #[v,.int .i64 i,u] w λen w'=>∃v',en=.returned v'/\w'.ownsRow 0 e k v' (n+1) (xs.take (i*k)++(ys++xs.drop (i*k)))/\w.grownBy w' v.ownBlock/\
   (∀g,v'.ownBlock=some g->v.ownBlock=some g\/w.heap.size<=g)
theorem ajW{h:Array Obj}{S:Nat->Prop}{r:aN}{xs:List Value}{l:List r.den}(hlen:xs.length=l.length*r.len)(hx:∀i x,l[i]? =some x->bM h S r ((xs.drop (i*r.len)).take r.len) x)(hpos:0<r.len):
 ∀x∈xs,x.oneCell'=true:=by
 intro x hm;obtain⟨j,hj,rfl⟩:=awL.1 hm;have hq:j / r.len<l.length:=by rw[Nat.div_lt_iff_lt_mul hpos];omega
 refine bM.ones r _ _ (hx (j / r.len) _ (auw hq)) _ ?_;refine List.mem_iff_getElem?.2 ⟨j%r.len,?_⟩;have hd:=axB j r.len;rw[auN,if_pos (axq _ hpos),au4,axc,hd,auw hj]
theorem ala(xs ys:List Value)(k n i q:Nat)(hxs:xs.length=n*k)(hys:ys.length=k)(hi:i<=n):
 ((xs.take (i*k)++(ys++xs.drop (i*k))).drop (q*k)).take k=if q<i then(xs.drop (q*k)).take k else if q=i then ys else(xs.drop ((q-1)*k)).take k:=by
 have hik:i*k<=xs.length:=by rw[hxs];exact auT _ hi
 have hlt:(xs.take (i*k)).length=i*k:=by rw[aut];omega
 by_cases h1:q<i
 .have hqk:q*k+k<=i*k:=by
   have:(q+1)*k<=i*k:=auT _ h1
   rwa [au9,axG]at this
  rw[if_pos h1,avy (by omega),avx (by rw[au2];omega),axg,awd];congr 1;omega
 .rw[if_neg h1];by_cases h2:q=i
  .subst h2;rw[if_pos rfl];have h0:(xs.take (q*k)++(ys++xs.drop (q*k))).drop (q*k)=ys++xs.drop (q*k):=by rw[avy (by omega),awe (by omega),avP]
   rw[h0,avx (by omega),avt (by omega)]
  .rw[if_neg h2];have hqi:i+1<=q:=by omega
   have e1:q*k=i*k+(k+(q-1-i)*k):=by
    have:q=i+(1+(q-1-i)):=by omega
    conv=>lhs;rw[this,au9,au9,axG]
   have e2:(q-1)*k=i*k+(q-1-i)*k:=by rw[← au9];congr 1;omega
   have h0:(xs.take (i*k)++(ys++xs.drop (i*k))).drop (i*k+k)=xs.drop (i*k):=by rw[← avZ,avy (by omega),awe (by omega:(xs.take (i*k)).length<=i*k),avP,avy (by omega),awe (by omega:ys.length<=k),avP]
   rw[e1,e2,← axj,← avZ,h0,avZ]
theorem KP{s:iw}{sh:List iw}:∀{args:List Arg}{d:jT (s::sh)},ja (s::sh) args=some d->∃x xs,args=x::xs/\s.read x=some d.1/\ja sh xs=some d.2
 |[],_,h=>by simp[ja]at h
 |x::xs,d,h=>by
  rw[ja]at h;split at h
  .next a b h1 h2=>cases h;exact⟨x,xs,rfl,h1,h2⟩
  .cases h
theorem aem:∀{args:List Arg}{d:jT []},ja [] args=some d->args=[]
 |[],_,_=>rfl
 |_::_,_,h=>by simp[ja]at h
abbrev Oz(e:TypeId)(r:aN):List iw:=[.own e r,.p (.v (.one (.int .i64))),.own e r]
abbrev ajX(e:TypeId)(r:aN):List rM:=[.one (.own e r false)]
theorem iw.ajY{e:TypeId}{r:aN}{x:Arg}{d:List r.den}(h:(iw.own e r).read x=some d):x=.own e r d:=by
 cases x with
 |own f s l=>
  simp only[iw.read]at h;split at h
  .next hb=>
   have he:=aus hb;subst he;split at h
   .next hs=>have hr:=aN.eq_of_beq s r hs;subst hr;cases h;rfl
   .cases h
  .cases h
 |_=>simp[iw.read]at h
theorem iw.ao3{x:Arg}{d:Int}(h:(iw.p (.v (.one (.int .i64)))).read x=some d):x=.sv (.one (.int .i64 d)):=by
 cases x with
 |sv x=>
  cases x with
  |one c=>
   cases c with
   |int k n=>
    simp only[iw.read,ji.read,tH.read,iC.read]at h;cases k<;>simp_all
   |_=>simp[iw.read,ji.read,tH.read,iC.read]at h
  |agg l=>simp[iw.read,ji.read,tH.read]at h
 |_=>simp[iw.read,ji.read]at h
theorem alb{G:kJ}{f:FuncId}{e:TypeId}{r:aN}(hpos:0<r.len)(hM:ael P f e r.len)
 {F:jT (Oz e r)->Prop×(ny (ajX e r)×mG (Oz e r)->Prop)}
 (hF:∀(l:List r.den)(i:Int)(lv:List r.den),(F (l,i,lv,())).1->0<=i/\i<=l.length/\l.length<=1000/\lv.length=1/\(F (l,i,lv,())).2 ((l.take i.toNat++(lv++l.drop i.toNat),()),())):
 ku P G f (qZ (Oz e r) (ajX e r) F):=by
 intro args p ρ hcon hp;simp only[qZ]at hcon;split at hcon
 .next x hx=>
  revert x;show∀x:List r.den×Int×List r.den×Unit,_;rintro⟨l,i,lv,⟨⟩⟩ hx hcon;have hF1:=Option.some.inj hcon;have hp1:(F (l,i,lv,())).1=p:=congrArg Prod.fst hF1;have hρ:=congrArg Prod.snd hF1;simp only at hρ;subst hρ;rw[← hp1]at hp;obtain⟨h0,hi,hn,hv1,hR⟩:=hF l i lv hp;obtain⟨a0,r0,rfl,hx0,h1⟩:=KP hx;obtain⟨a1,r1,rfl,hx1,h2⟩:=KP h1;obtain⟨a2,r2,rfl,hx2,h3⟩:=KP h2;have:=aem h3;subst this;have e0:=iw.ajY hx0;have e2:=iw.ajY hx2;have e1:=iw.ao3 hx1;subst e0 e1 e2;refine⟨⟨_,hR⟩,?_⟩;intro k S γ vs w hG hrep nY hap hk;have o49:dY [.own e r l,.sv (.one (.int .i64 i)),.own e r lv] 49=some (.arr e r l false):=rfl;have aqW:dY [.own e r l,.sv (.one (.int .i64 i)),.own e r lv] 177=some (.arr e r lv false):=rfl
  match hvs:vs.toList,hrep with
  |[v,vi,u],hrep=>
   have ev:v=γ 49:=hrep.1.2.1;have eu:u=γ 177:=hrep.2.2.1.2.1;have evi:vi=.int .i64 i:=hrep.2.1.1;have evs:vs=#[γ 49,.int .i64 i,γ 177]:=by obtain⟨vl⟩:=vs;simp at hvs;rw[hvs,ev,eu,evi]
   subst evs;obtain⟨⟨xs,hxs,_,_,hxr⟩,aud⟩:=nY 49 _ o49;obtain⟨⟨ys,hys,_,_,hyr⟩,atX⟩:=nY 177 _ aqW;have B1:=XQ (γ 49) (.inr trivial) hxs;have B2:=XQ (γ 177) (.inr trivial) hys;have h1:=ajW hxs.1 hxr hpos;have h2:=ajW hys.1 hyr hpos;have hin:i.toNat<=l.length:=by omega
   have hik:((i.toNat:Nat):Int)=i:=by omega
   have ao4:w.ownsRow 0 e r.len (γ 177) 1 ys:=by rw[← hv1];exact hys
   have hrun:=hM w (γ 49) (γ 177) l.length i.toNat xs ys hxs ao4 (λb hb=>by rw[← B2];exact hap 49 _ 177 _ b o49 aqW (by decide) (by rw[B1];exact hb)) hin hn h1 h2;rw[hik]at hrun;refine hrun.mono ?_;rintro en w' ⟨v',rfl,hown,hgr,hnew⟩;have Bv:=XQ v' (.inr trivial) hown;have hone:v'.oneCell'=true:=by rcases hown.2 with⟨rfl,_⟩|⟨g,cap,cur,rfl,_⟩<;>rfl
   have arJ:look [(k,aQ.arr e r (l.take i.toNat++(lv++l.drop i.toNat)) false)] k=some (.arr e r (l.take i.toNat++(lv++l.drop i.toNat)) false):=by simp[look]
   have lookO:∀o x,look [(k,aQ.arr e r (l.take i.toNat++(lv++l.drop i.toNat)) false)] o=some x->k=o/\.arr e r (l.take i.toNat++(lv++l.drop i.toNat)) false=x:=by intro o x h;have:=xk _ _ _ h;simp at this;exact⟨this.1.symm,this.2.symm⟩
   have amN:∀q y,¬lX (jb (Oz e r) ()) q=some y:=by
    intro q y h;unfold lX at h
    match hq:q / 64,h with
    |0,h=>simp[jb]at h
    |1,h=>simp[jb]at h
    |2,h=>simp[jb]at h
    |n+3,h=>simp[jb]at h
   refine⟨_,hR,v',λ_=>v',rfl,hgr.os,hgr.tape,hgr.output,hgr.size,λb hb hnb=>?_,?_,?_,?_,?_⟩
   .exact hgr.block b hb λhe=>hnb ⟨49,_,o49,by rw[B1];exact he.symm⟩
   .exact⟨⟨e,r,_,false,arJ⟩,rfl,hone⟩
   .intro o x hx;obtain⟨rfl,rfl⟩:=lookO o x hx;refine⟨⟨xs.take (i.toNat*r.len)++(ys++xs.drop (i.toNat*r.len)),?_,hpos,λ_ _ h=>(by cases h),λq x hx=>?_⟩,λb hb=>?_⟩
    .have hlen:(l.take i.toNat++(lv++l.drop i.toNat)).length=l.length+1:=by simp;omega
     rw[hlen];exact hown
    .have hq:q<=l.length:=by have:=(auC.1 hx).1;simp at this;omega
     rw[ala xs ys r.len l.length i.toNat q hxs.1 (by rw[ao4.1,axG]) hin];have Jg:∀b,(⟨w,w.heap.size,S,γ,dY [.own e r l,.sv (.one (.int .i64 i)),.own e r lv]⟩:V).dU false b->
      (⟨w',w.heap.size,qG S [.own e r l,.sv (.one (.int .i64 i)),.own e r lv] (jb (Oz e r) ()) γ,λ_=>v',look [(k,.arr e r (l.take i.toNat++(lv++l.drop i.toNat)) false)]⟩:V).dU false b/\w'.heap[b]? =w.heap[b]? :=by
      intro b hb;obtain⟨⟨hb1,hb2,hb3⟩,_⟩:=hb;have hb1:b<w.heap.size:=hb1;have hne:some b≠(γ 49).ownBlock:=λhe=>hb3 49 _ o49 (by rw[B1];exact he.symm);refine⟨⟨⟨avm hb1 hgr.size,λ_=>⟨.inl (hb2 hb1),λq y hq=>?_⟩,λo x hx he=>?_⟩,λh=>(by cases h)⟩,hgr.block b hb1 hne⟩
      .exact absurd hq (amN q y)
      .have he:blk v'=some b:=he;rw[Bv]at he;rcases hnew b he with h|h
       .exact hne h.symm
       .omega
     by_cases c1:q<i.toNat
     .rw[if_pos c1];refine bM.mono Jg r _ x (hxr q x ?_);rw[au3 (by rw[aut];omega),auN,if_pos c1]at hx;exact hx
     .rw[if_neg c1];have hlt:(l.take i.toNat).length=i.toNat:=by rw[aut];omega
      rw[auZ (by omega),hlt]at hx;by_cases c2:q=i.toNat
      .rw[if_pos c2];rw[c2,axa,au3 (by omega)]at hx;have:=hyr 0 x hx;rw[awu,av2,avt (by rw[ao4.1];omega)]at this;exact bM.mono Jg r _ x this
      .rw[if_neg c2];rw[auZ (by omega),hv1,au4,show i.toNat+(q-i.toNat-1)=q-1 by omega]at hx;exact bM.mono Jg r _ x (hxr (q-1) x hx)
    .have he:blk v'=some b:=hb;have he2:=he;rw[Bv]at he2;refine⟨?_,?_,λq y hq=>absurd hq (amN q y)⟩
     .rcases hown.2 with⟨hv,_⟩|⟨g,cap,cur,hv,_,hg,_⟩
      .rw[hv]at he;cases he
      .rw[hv]at he;cases he;exact(ava.1 hg).1
     .rcases hnew b he2 with h|h
      .exact .inr ⟨49,_,o49,by rw[B1];exact h⟩
      .exact .inl h
   .intro o x q y b h1 h2 hne;exact absurd ((lookO o x h1).1.symm.trans (lookO q y h2).1) hne
   .intro o x h;exact absurd h (amN o x)
 .cases hcon
end Go.Fw
namespace Go.Fw
open Go
variable {P:Program} {H:Type} {enc:TypeId×Value->H} {w:World}
theorem VR(hl:laidOutB P=true){base:Nat}{sp':Nat->Bool}{W W':World}:∀(ts:List TypeId)(_:ts.all (λt=>P.readableRec t&&decide (t<P.types.size))=true)
 (vs:List Value) (ds:List (DataW H)) (ps:List MemPlace),DataW.TrodAll enc P W base (λ_=>true) true ts vs ds ps->(∀p∈ps,W.sameAt W' p)->(∀p∈ps,sp' p.block=true)->DataW.TrodAll enc P W' base sp' true ts vs ds ps
 |[],_,vs,ds,ps,h,_,_=>by
  cases vs<;>cases ds<;>simp[DataW.TrodAll]at h ⊢;exact h
 |t::ts,ht,vs,ds,ps,h,h1,h2=>by
  rw[avD,auq,auq]at ht;cases vs with
  |nil=>cases ds<;>simp[DataW.TrodAll]at h
  |cons v vs=>
   cases ds with
   |nil=>simp[DataW.TrodAll]at h
   |cons d ds=>
    obtain⟨a,b,g1,g2,rfl⟩:=h;exact⟨a,b,WideElems.Trod_stays hl ht.1.1 (avN ht.1.2) g1 (λp hp=>h1 p (avo _ hp)) (λp hp=>h2 p (avo _ hp)),
     VR hl ts ht.2 vs ds b g2 (λp hp=>h1 p (avK _ hp)) (λp hp=>h2 p (avK _ hp)),rfl⟩
theorem trodAll_length{base:Nat}{sp:Nat->Bool}{hd:Bool}{W:World}:∀(ts:List TypeId)(vs:List Value)(ds:List (DataW H))(ps:List MemPlace),DataW.TrodAll enc P W base sp hd ts vs ds ps->ds.length=ts.length
 |[],vs,ds,ps,h=>by cases vs<;>cases ds<;>simp[DataW.TrodAll]at h ⊢
 |t::ts,vs,ds,ps,h=>by
  cases vs with
  |nil=>cases ds<;>simp[DataW.TrodAll]at h
  |cons v vs=>
   cases ds with
   |nil=>simp[DataW.TrodAll]at h
   |cons d ds=>obtain⟨a,b,g1,g2,rfl⟩:=h;simp[trodAll_length ts vs ds b g2]
theorem ao5{fn:Func}{s:ChangeSpec}{apart fresh handsOn again:Bool}{W W':World}{args:Array Value}{ds gs:List (DataW H)}{before:List MemPlace}{tb:TypeId}
 (hvars:s.vars=[]) (hspec:∀l:List (DataW H),l.length=fn.params.toList.length->(s.fn H l).results=[.lit (.bool true)]/\(s.fn H l).args=l/\(s.fn H l).vars=[])
 (hres:fn.resultTypes=#[tb]) (hb:P.underlying tb=some .bool) (hl:laidOutB P=true) (hread:fn.params.toList.all (λt=>P.readableRec t&&decide (t<P.types.size))=true)
 (hW:DataW.Whole enc P fn.params.toList s.vars apart W args.toList ds gs before) (hos:W'.os=W.os) (hout:W'.output=W.output) (hheap:∀b,b<W.heap.size->W'.heap[b]? =W.heap[b]?):
 s.post enc P fn apart fresh handsOn again W args (.bool true) W':=by
 have hlt:=hW.lt;have hW0:=hW;obtain⟨p,q,hA,hV,hpq,hz,hn⟩:=hW;rw[hvars]at hV;have hg:gs=[]/\q=[]:=by
  cases gs with
  |nil=>exact⟨rfl,hV⟩
  |cons g gs=>simp[DataW.TrodVars]at hV
 obtain⟨rfl,rfl⟩:=hg;rw[avr]at hpq;subst hpq;have hlen:=trodAll_length _ _ _ _ hA;obtain⟨r1,r2,r3⟩:=hspec (ds++[]) (by simpa using hlen);rw[avr]at r1 r2 r3;have hsame:∀x∈before,W.sameAt W' x:=λx hx=>ao2 hheap (hlt x hx);have R:∀(b:Nat)(sp:Nat->Bool)(hd:Bool),DataW.TrodAll enc P W' b sp hd fn.resultTypes.toList ((Value.bool true).resultList fn.resultTypes.size) [.lit (.bool true)] []:=by intro b sp hd;rw[hres];exact⟨[],[],⟨1,by simp[DataW.trod,Value.cells,hb]⟩,rfl,rfl⟩
 have A:∀sp:Nat->Bool,(∀x∈before,sp x.block=true)->DataW.TrodAll enc P W' 0 sp true fn.params.toList args.toList ds before:=λsp hsp=>VR hl _ hread _ _ _ hA hsame hsp;have hold:∀x∈before,(λb=>decide (b<W.heap.size)) x.block=true:=λx hx=>by simpa using hlt x hx
 refine⟨ds,[],before,[],before,[],hW0,?_,?_,?_,ao1 hos hout hheap _,λ_=>⟨?_,.lit (.bool true)::ds,[],before,⟨before,[],?_,?_,by simp,?_,hn⟩,λx hx _=>hx⟩⟩
 .rw[avr,r1];exact R _ _ _
 .rw[avr,r2];exact A _ hold
 .rw[avr,r3,hvars];rfl
 .intro j t r h1 h2;rw[hres]at h1 h2
  match j with
  |0=>
   simp[Value.resultList]at h1 h2;subst h1 h2;simp[Value.okWide,hb,Go.Cell.okWide,Go.Cell.ok]
  |j+1=>simp at h1
 .exact ChangeShapes.trodAll_append (A _ (λ_ _=>rfl)) (R _ _ _)
 .rw[hvars];rfl
 .intro b off hp;have hbl:=hlt _ hp;have e:W'.frozen? ⟨b,off,none⟩=W.frozen? ⟨b,off,none⟩:=by unfold World.frozen?;simp only;rw[hheap b hbl]
  rw[e];exact hz b off hp
end Go.Fw
namespace Go.Fw
open Go
theorem law_lifted{H:Type}{enc:TypeId×Value->H}{C:Checked}{G:kJ}{os:Os}{f:FuncId}{fn:Func}{s:ChangeSpec}{conds:List PathCond}{apart fresh handsOn again:Bool}{tb:TypeId}{sh:List ji}{F:nD sh->Prop×Out}
 (own:ownKnob C.prog.godebug=none) (started:os.Started) (noInit:C.prog.inits.idxOf? f=none) (hfn:C.prog.funcs[f]? =some fn)
 (witness:∃(w:World)(tape:Tape)(i:Input),w.os=os/\(w.forCall tape i).Shaped C.prog/\i.vars=[]/\Input.okWide C.prog (w.forCall tape i) .any w.heap.size f i/\
   s.pre6 enc C.prog fn conds apart (w.forCall tape i).memory i.args/\({}:Assume).holds C.prog (lone (Frame.enter C.prog f i.args .normal) [] (w.forCall tape i)))
 (hcon:rG C.prog G f (Nb sh F)) (hsh:Ox C.prog fn.params.toList=some sh) (hF:∀x,Na sh x->(F x).1/\(F x).2=agC) (hG:∀w,G.ok w)
 (hvars:s.vars=[]) (hspec:∀l:List (DataW H),l.length=fn.params.toList.length->(s.fn H l).results=[.lit (.bool true)]/\(s.fn H l).args=l/\(s.fn H l).vars=[])
 (hres:fn.resultTypes=#[tb]) (hb:C.prog.underlying tb=some .bool) (hl:laidOutB C.prog=true) (hread:fn.params.toList.all (λt=>C.prog.readableRec t&&decide (t<C.prog.types.size))=true):
 ReturnsInHanded {} C os f .any (s.pre6 enc C.prog fn conds apart) (s.post enc C.prog fn apart fresh handsOn again):=by
 refine returnsInHanded_of_change own started noInit hfn witness ?_;intro W base args ds gs before hval hW _ _;have hW0:=hW;obtain⟨p,q,hA,_⟩:=hW;refine(anW hcon hsh hF (hG W) hA hval).mono ?_;rintro e W' ⟨rfl,h1,h2,_,h3⟩;exact⟨_,rfl,ao5 hvars hspec hres hb hl hread hW0 h1 h2 h3⟩
end Go.Fw
