import Derived.Test.YtflpicdbkomglaaGreatDoorFwD
import Derived.Test.YtflpicdbkomglaaGreatDoorFwB
import Derived.Test.YtflpicdbkomglaaGreatDoorFwA
import Derived.ChangeArms
import Derived.WideKeyArgs
import Derived.ChangeSame
import Derived.ChangeOld
import Derived.Handed
import Derived.IntWalk
import Derived.ProofKit
namespace Go.Fw
open Go
variable {P:Program} {w0:World} {M:Nat->Prop} {T:Ext} {γ γ':Nat->Value} {st:St} {a:Act} {w w':World} {Θ:iH} {Γ:jI}
structure EH where
 aeT:List QW
 c:Shape
 v:Shape
structure Hints where
 own:Nat->Bool
 loops:Nat->Option EH
 cuts:Nat->Option EH
 upd:List Nat
 frz:Nat->List Pre
def vH:Code->Option Nat
 |.region id _ _=>some id
 |.seq x y=>match vH x with|some n=>some n|none=>vH y
 |.cond _ x y=>match vH x with|some n=>some n|none=>vH y
 |.block _ x|.loop x=>vH x
 |_=>none
def cutAt(H:Hints)(y:Code):Option EH:=match vH y with
 |some n=>H.cuts n
 |none=>none
def DK(Θ:iH)(Γ:jI)(H:Hints):Code->(Exit->St->Prop)->St->Prop
 |.skip,Q,st=>Q .normal st
 |.region id ops false,Q,st=>NV (H.frz id) (runs Θ Γ H.own ops.toList (Q .normal) ops.toList) st
 |.region id ops true,Q,st=>NV (H.frz id) (JW Θ Γ H.own H.upd ops.toList (Q .normal)) st
 |.seq x y,Q,st=>match cutAt H y with
  |none=>DK Θ Γ H x (λe s=>match e with|.normal=>DK Θ Γ H y Q s|e=>Q e s) st
  |some sp=>match sp.c.read (only sp.c sp.v st)with
   |some x0=>∃(J:sp.v.den->Prop),DK Θ Γ H x (λe s=>match e with
     |.normal=>match settles s sp.aeT with
      |some s1=>match Nat.beq s1.n st.n,sp.c.read (only sp.c sp.v s1),sp.v.read (only sp.c sp.v s1)with
       |true,some x1,some y1=>x1=x0/\J y1
       |_,_,_=>False
      |none=>False
     |e=>Q e s) st/\∀y1,J y1->DK Θ Γ H y Q (joint st.n sp.c sp.v x0 y1)
   |none=>False
 |.cond c x y,Q,st=>match st.ev c with
  |.sv (.one (.bool b))=>cond b (DK Θ Γ H x Q st) (DK Θ Γ H y Q st)
  |_=>False
 |.block id c,Q,st=>DK Θ Γ H c (λe s=>match e with
  |.exit i=>match Nat.beq i id with|true=>Q .normal s|false=>Q (.exit i) s
  |e=>Q e s) st
 |.exit id,Q,st=>Q (.exit id) st
 |.ret,Q,st=>Q .ret st
 |.loop c,Q,st=>match vH c with
  |some n=>match H.loops n with
   |some sp=>match settles st sp.aeT with
    |some s0=>match sp.c.read (only sp.c sp.v s0),sp.v.read (only sp.c sp.v s0)with
     |some x0,some y0=>∃(I:sp.v.den->Prop)(μ:sp.v.den->Nat),I y0/\∀y,I y->
       DK Θ Γ H c (λe s=>match e with
        |.normal=>match settles s sp.aeT with
         |some s1=>match Nat.beq s1.n s0.n,sp.c.read (only sp.c sp.v s1),sp.v.read (only sp.c sp.v s1)with
          |true,some x1,some y1=>x1=x0/\I y1/\μ y1<μ y
          |_,_,_=>False
         |none=>False
        |e=>Q e s) (joint s0.n sp.c sp.v x0 y)
     |_,_=>False
    |none=>False
   |none=>False
  |none=>False
 |_,_,_=>False
theorem QX{G:jv}(hE:qy P G Θ Γ w0 M)(hm:P.follows .mixedOrders=true)(H:Hints):∀(c:Code)(QA:Exit->St->Prop)(Q:Exit->Act->World->Prop)(st:St)(γ:Nat->Value)(a:Act)(w:World),
 Rel w0 M T γ st a w->DK Θ Γ H c QA st->(∀e s γ' a' w',QA e s->Rel w0 M T γ' s a' w'->Q e a' w')->c.wp P Q a w:=by
 intro c
 induction c with
 |skip=>intro QA Q st γ a w h ha hQ;exact wp_skip (hQ _ _ _ _ _ ha h)
 |region id ops d=>
  intro QA Q st γ a w h ha hQ;cases d with
  |false=>
   obtain⟨s0,γ0,h0,hk0⟩:=zZ (K:=runs Θ Γ H.own ops.toList (QA .normal) ops.toList) (H.frz id) st γ h ha;exact abL hE h0 hk0 λs γ' a' w' hK hR=>hQ _ _ _ _ _ hK hR
  |true=>
   obtain⟨s0,γ0,h0,hk0⟩:=zZ (K:=JW Θ Γ H.own H.upd ops.toList (QA .normal)) (H.frz id) st γ h ha;exact afO hE hm h0 hk0 λs γ' a' w' hK hR=>hQ _ _ _ _ _ hK hR
 |seq x y ihx ihy=>
  intro QA Q st γ a w h ha hQ;rw[DK]at ha;split at ha
  .refine wp_seq (ihx _ _ st γ a w h ha ?_);intro e s γ' a' w' hq hR;cases e<;>first|exact ihy _ _ s γ' a' w' hR hq hQ|exact hQ _ _ _ _ _ hq hR
  .next sp hsp=>
   split at ha
   .next x0 hx=>
    obtain⟨J,h1,h2⟩:=ha;refine wp_seq (ihx _ _ st γ a w h h1 ?_);intro e s γ' a' w' hq hR;cases e with
    |normal=>
     simp only at hq;split at hq
     .next s1 hs1=>
      split at hq
      .next x1 y1 hsn hx1 hy1=>obtain⟨rfl,hJ⟩:=hq;obtain⟨γ1,hR1⟩:=Rel.settles _ hR hs1;have hR2:=hR1.joint hx1 hy1;rw[ani hsn]at hR2;exact ihy _ _ _ γ1 a' w' hR2 (h2 _ hJ) hQ
      .exact hq.elim
     .exact hq.elim
    |_=>exact hQ _ _ _ _ _ hq hR
   .exact ha.elim
 |cond c x y ihx ihy=>
  intro QA Q st γ a w h ha hQ;rw[DK]at ha;split at ha
  .next b hb=>
   have hv:a.eval c=.bool b:=by have:=gY h c;rw[hb]at this;exact this
   refine wp_cond_split hv (λe=>?_) (λe=>?_)
   .subst e;exact ihx _ _ st γ a w h ha hQ
   .subst e;exact ihy _ _ st γ a w h ha hQ
  .exact ha.elim
 |block id c ih=>
  intro QA Q st γ a w h ha hQ;refine wp_block (ih _ _ st γ a w h ha ?_);intro e s γ' a' w' hq hR;cases e with
  |exit i=>
   simp only[Exit.inBlock];cases hb:Nat.beq i id with
   |true=>
    simp only[hb]at hq;rw[if_pos (ani hb)];exact hQ _ _ _ _ _ hq hR
   |false=>
    simp only[hb]at hq;rw[if_neg (by rintro rfl;simp at hb)];exact hQ _ _ _ _ _ hq hR
  |_=>exact hQ _ _ _ _ _ hq hR
 |loop c ih=>
  intro QA Q st γ a w h ha hQ;rw[DK]at ha;split at ha
  .split at ha
   .next sp hsp=>
    split at ha
    .next s0 hs0=>
     split at ha
     .next x0 y0 hx hy=>
      obtain⟨I,μ,h0,hI⟩:=ha;obtain⟨γ0,hR0⟩:=Rel.settles _ h hs0
      let J:sp.v.den->Act->World->Prop:=λy a' w'=>∃γ',Rel w0 M T γ' (joint s0.n sp.c sp.v x0 y) a' w'
      have key:∀(n:Nat)(y:sp.v.den),μ y=n->I y->∀a' w',J y a' w'->∀(b:Frame)(k:List Item)(cs:List Frame),
       ∃e a'' w'',Q e a'' w''/\Arrives P (lone (b.at a' (.code c:: .inLoop c::k)) cs w') b k cs e a'' w'':=by
       intro n
       induction n using Nat.strongRecOn with
       |_ n ihn=>
        intro y hμ hy' a' w' ⟨γ',hR⟩ b k cs;have hbody:=ih _ (Exit.then (λa2 w2=>∃y2,I y2/\μ y2<μ y/\J y2 a2 w2) Q) _ γ' a' w' hR (hI y hy') ?_
        .obtain⟨e,a1,w1,hq,harr⟩:=hbody b (.inLoop c::k) cs;cases e with
         |normal=>
          obtain⟨y2,hI2,hlt,hJ2⟩:=hq;obtain⟨e2,a2,w2,hq2,ajB⟩:=ihn (μ y2) (hμ▸hlt) y2 rfl hI2 a1 w1 hJ2 b k cs;exact⟨e2,a2,w2,hq2,.of_steps (Steps.trans harr (.one step_inLoop)) ajB⟩
         |exit id=>exact⟨_,a1,w1,hq,.pass (x:=.inLoop c) rfl (λ_ _=>.inl (by simp)) harr⟩
         |goto l=>exact⟨_,a1,w1,hq,.pass (x:=.inLoop c) rfl (λ_ _=>.inl (by simp)) harr⟩
         |ret=>exact⟨_,a1,w1,hq,.pass (x:=.inLoop c) rfl (λ_ _=>.inl (by simp)) harr⟩
         |panic ch=>exact⟨_,a1,w1,hq,.pass (x:=.inLoop c) rfl (λ_ _=>.inl (by simp)) harr⟩
         |outgrown=>exact⟨_,a1,w1,hq,.pass (x:=.inLoop c) rfl (λ_ _=>.inl (by simp)) harr⟩
        .intro e s γ2 a2 w2 hq hR2;cases e with
         |normal=>
          simp only at hq;split at hq
          .next s1 hs1=>
           split at hq
           .next x1 y1 hsn hx1 hy1=>obtain⟨rfl,hI1,hlt⟩:=hq;obtain⟨γ3,gZ⟩:=Rel.settles _ hR2 hs1;have hJ:=gZ.joint hx1 hy1;rw[ani hsn]at hJ;exact⟨y1,hI1,hlt,_,hJ⟩
           .exact hq.elim
          .exact hq.elim
         |_=>exact hQ _ _ _ _ _ hq hR2
      intro b k cs;obtain⟨e,a',w',hq,harr⟩:=key _ y0 rfl h0 a w ⟨_,hR0.joint hx hy⟩ b k cs;exact⟨e,a',w',hq,.of_steps (.one step_loop) harr⟩
     .exact ha.elim
    .exact ha.elim
   .exact ha.elim
  .exact ha.elim
 |rangeFunc f ps x y ihx ihy=>intro QA Q st γ a w h ha hQ;exact ha.elim
 |exit id=>intro QA Q st γ a w h ha hQ;exact wp_exit (hQ _ _ _ _ _ ha h)
 |scope c ih=>intro QA Q st γ a w h ha hQ;exact ha.elim
 |label l=>intro QA Q st γ a w h ha hQ;exact ha.elim
 |goto l=>intro QA Q st γ a w h ha hQ;exact ha.elim
 |ret=>intro QA Q st γ a w h ha hQ;exact wp_ret (hQ _ _ _ _ _ ha h)
 |refuse s=>intro QA Q st γ a w h ha hQ;exact ha.elim
def Arg.av:Arg->AV
 |.sv v=>.sv v
 |.kp cs=>.dm cs 0
 |.fn f caps=>.fn f caps
 |.own _ _ _|.ptr _=>.undef
def entry(n:Nat)(args:List Arg):St:=
 {n:=n,tmps:=λt=>match args[t]? with|some v=>v.av|none=>.undef,ah:=λ_=>none}
def JX(st:St)(o:Nat):Bool:=match st.ah o with|some (.arr _ _ _ _)=>true|_=>false
def WM(Θ:iH)(st:St):ResultVar->Option SV
 |.tmp t=>match st.tmps t with|.sv v=>some v|_=>none
 |.cell t ty=>match Θ ty,st.tmps t with
  |some ti,.aX o off=>match st.ah o with
   |some (.var cs)=>kC ti cs off
   |_=>none
  |_,_=>none
def II(Θ:iH)(st:St):List ResultVar->Option (List SV)
 |[]=>some []
 |r::rs=>match WM Θ st r,II Θ st rs with
  |some v,some vs=>some (v::vs)
  |_,_=>none
def outOf:SV->Bool×List dP
 |.one c=>(false,[.plain c])
 |.agg cs=>(true,cs.map .plain)
def outs:List SV->List (Bool×List dP)
 |[]=>[]
 |v::vs=>outOf (v.kill λ_=>true)::outs vs
def fin(Θ:iH)(rv:List ResultVar)(st:St):Option Out:=
 match II Θ (st.freeze (JX st)) rv with
 |some vs=>some ⟨outs vs,none⟩
 |none=>none
theorem JY:∀(k:Nat)(cs:List Cell),je k (cs.map .plain)=(cs,[])
 |_,[]=>rfl
 |k,c::cs=>by simp only[anH,je,JY (k+1) cs,dP.take,anN]
theorem ado(k:Nat)(v:SV):uh k (outOf v)=(v,[]):=by
 cases v with
 |one c=>rfl
 |agg cs=>simp only[uh,outOf,JY]
theorem ah6(v:Value)(t:TypeId)(b off:Nat)(hv:v=.pointer (some ⟨b,off,none⟩)):Instr.loadAt t v=(do loadVar t (← asAddr v)):=by subst hv;rfl
def FK(tmps:Array Value):ResultVar->Sem Value
 |.tmp t=>pure (tmps.getD t undef)
 |.cell x t=>do loadVar t (← asAddr (tmps.getD x undef))
theorem NZ(fn:Func)(tmps:Array Value):results fn tmps=(do let vs ← fn.results.mapM (FK tmps);pure (if h:vs.size=1 then vs[0]else .tuple vs)):=by unfold results;congr 1
theorem abN(hΘ:∀t ti,Θ t=some ti->kG P t ti)(h:Rel w0 M T γ st a w){r:ResultVar}{v:SV}(hf:WM Θ st r=some v):
 ∃u,(FK a.tmps r).run P w=.ok u w/\dh (ak w0 T γ st w) v u:=by
 cases r with
 |tmp t=>
  simp only[WM]at hf;split at hf
  .next e=>cases hf;have:=h.tmps t;rw[e]at this;exact⟨_,rfl,this⟩
  .cases hf
 |cell x t=>
  simp only[WM]at hf;split at hf
  .next ti o off ht hx=>
   split at hf
   .next cs ho=>have hv:=h.tmps x;rw[hx]at hv;obtain⟨b,cs',_,_,hv'⟩:=hv;obtain⟨u,hu,hr⟩:=JQ hΘ h ht (x:=.tmp x) (.inl ⟨o,off,cs,hx,ho,hf⟩);refine⟨u,?_,hr⟩;rw[FK,← ah6 _ t b off hv'];exact hu
   .cases hf
  .cases hf
theorem IJ(hΘ:∀t ti,Θ t=some ti->kG P t ti)(h:Rel w0 M T γ st a w):∀(rs:List ResultVar)(vs:List SV),II Θ st rs=some vs->
 ∃us,(rs.mapM (FK a.tmps)).run P w=.ok us w/\
  dn (ak w0 T γ st w) vs us
 |[],vs,hf=>by cases hf;exact⟨[],rfl,trivial⟩
 |r::rs,vs,hf=>by
  rw[II]at hf;split at hf
  .next v vs' h1 h2=>cases hf;obtain⟨u,hu,hr⟩:=abN hΘ h h1;obtain⟨us,hus,hrs⟩:=IJ hΘ h rs vs' h2;refine⟨u::us,?_,hr,hrs⟩;rw[aqb,anD,hu];simp only[an8,anD,hus,aom]
  .cases hf
theorem dn.length{X:V}:∀(cs:List SV)(vs:List Value),dn X cs vs->vs.length=cs.length
 |[],[],_=>rfl
 |_::cs,_::vs,⟨_,h⟩=>by simp[dn.length cs vs h]
 |[],_::_,H|_::_,[],H=>by cases H
theorem dn.get{X:V}:∀(cs:List SV)(vs:List Value)(i:Nat)(c:SV),dn X cs vs->cs[i]? =some c->∃v,vs[i]? =some v/\dh X c v
 |[],_,_,_,_,h=>by simp at h
 |c::cs,v::vs,0,d,⟨h1,_⟩,h=>by simp at h;subst h;exact⟨v,rfl,h1⟩
 |c::cs,v::vs,i+1,d,⟨_,h2⟩,h=>by
  obtain⟨u,hu,hr⟩:=dn.get cs vs i d h2 (by simpa using h);exact⟨u,by simpa using hu,hr⟩
 |_::_,[],_,_,H,_=>by cases H
theorem ng.length{X:V}:∀(cs:List Arg)(vs:List Value),ng X cs vs->vs.length=cs.length
 |[],[],_=>rfl
 |_::cs,_::vs,⟨_,h⟩=>by simp[ng.length cs vs h]
 |[],_::_,H|_::_,[],H=>by cases H
theorem ng.get{X:V}:∀(cs:List Arg)(vs:List Value)(i:Nat)(c:Arg),ng X cs vs->cs[i]? =some c->∃v,vs[i]? =some v/\pY X c v
 |[],_,_,_,_,h=>by simp at h
 |c::cs,v::vs,0,d,⟨h1,_⟩,h=>by simp at h;subst h;exact⟨v,rfl,h1⟩
 |c::cs,v::vs,i+1,d,⟨_,h2⟩,h=>by
  obtain⟨u,hu,hr⟩:=ng.get cs vs i d h2 (by simpa using h);exact⟨u,by simpa using hu,hr⟩
 |_::_,[],_,_,H,_=>by cases H
theorem pY.av{X:V}:∀(c:Arg)(v:Value),pY X c v->aT X c.av v
 |.sv _,_,h|.kp _,_,h|.fn _ _,_,h=>h
 |.own _ _ _,_,h|.ptr _,_,h=>h.elim
theorem afQ{args:List Arg}{vs:Array Value}{S:Nat->Prop}(n:Nat)(hn:args.length<=n)
 (h:ng ⟨w,w.heap.size,S,λ_=>undef,λ_=>none⟩ args vs.toList):
 Rel w (λ_=>False) ⟨S,λ_=>none,λ_ _ h=>by cases h⟩ (λ_=>undef) (entry n args) {tmps:=vs++Array.replicate (n-vs.size) undef,defers:=[]} w:=by
 have hl:vs.size=args.length:=by simpa using ng.length _ _ h
 refine⟨λ_ h=>h.elim,rfl,?_,rfl,rfl,rfl,ann _,λ_ _ _=>rfl,λt=>?_,(λo x hx=>by cases hx),(λo x b hx=>by cases hx),(λo x p y b hx=>by cases hx),(λo v cs hN=>by cases hN)⟩
 .simp[entry];omega
 .simp only[entry];cases ha:args[t]? with
  |none=>trivial
  |some v=>
   obtain⟨u,hu,hr⟩:=ng.get _ _ t v h ha;have:(vs++Array.replicate (n-vs.size) undef).getD t undef=u:=by
    have hlt:t<args.length:=by
     rcases anL t args.length with h'|h'
     .exact h'
     .rw[aoA h']at ha;cases ha
    have hlt':t<vs.size:=by omega
    rw[ao1,ao6 hlt'];have:vs[t]? =some u:=by simpa using hu
    rw[this];rfl
   rw[this];exact pY.av v u hr
end Go.Fw
namespace Go.Fw
def codeOf(fn:Func):Code:=match fn.body with|some c=>c|none=>.skip
def WN:List (Nat×TI)->iH
 |[],_=>none
 |(t,x)::r,i=>match Nat.beq i t with|true=>some x|false=>WN r i
def EY:List (Nat×Gt)->jI
 |[],_=>none
 |(t,x)::r,i=>match Nat.beq i t with|true=>some x|false=>EY r i
def aeU:List (Nat×EH)->Nat->Option EH
 |[],_=>none
 |(t,x)::r,i=>match Nat.beq i t with|true=>some x|false=>aeU r i
def ahH:List (Nat×List Pre)->Nat->List Pre
 |[],_=>[]
 |(n,z)::r,i=>match Nat.beq i n with|true=>z|false=>ahH r i
def hints(own:List Nat)(l c:List (Nat×EH))(u:List Nat)(z:List (Nat×List Pre)):Hints:=⟨aJ own,aeU l,aeU c,u,ahH z⟩
end Go.Fw
namespace Go.Fw
open Go
variable {P:Program} {Θ:iH} {Γ:jI}
inductive oq where
 |one (c:fF)
 |agg (l:List fF)
@[reducible] def oq.den:oq->Type
  |.one c=>c.den
  |.agg l=>kN l
def oq.val:(s:oq)->s.den->SV
 |.one c,x=>.one (c.cell x)
 |.agg l,x=>.agg (fQ l x)
def oq.read:(s:oq)->SV->Option s.den
 |.one c,.one x=>c.read x
 |.agg l,.agg xs=>jf l xs
 |_,_=>none
theorem oq.weak{X:V}(s:oq)(x:SV)(d:s.den)(v:Value)(hr:s.read x=some d)(hv:dh X x v):dh X (s.val d) v:=by
 unfold oq.read at hr;split at hr
 .exact fF.weak _ _ _ _ hr hv
 .obtain⟨vs,e,h⟩:=hv;exact⟨vs,e,Bg _ _ _ _ hr h⟩
 .cases hr
@[reducible] def nG:List oq->Type
  |[]=>Unit
  |s::r=>s.den×nG r
def qg:(l:List oq)->nG l->List SV
 |[],_=>[]
 |s::r,x=>s.val x.1::qg r x.2
def LM:(l:List oq)->List SV->Option (nG l)
 |[],[]=>some ()
 |s::r,x::xs=>match s.read x,LM r xs with
  |some a,some b=>some (a,b)
  |_,_=>none
 |_,_=>none
theorem afR{X:V}:∀(l:List oq)(xs:List SV)(d:nG l)(vs:List Value),LM l xs=some d->dn X xs vs->dn X (qg l d) vs
 |[],[],_,_,_,hv=>hv
 |s::r,x::xs,d,vs,hr,hv=>by
  rw[LM]at hr;split at hr
  .next a b h1 h2=>
   cases hr;cases vs with
   |nil=>cases hv
   |cons v vs=>exact⟨oq.weak s x a v h1 hv.1,afR r xs b vs h2 hv.2⟩
  .cases hr
 |[],_::_,_,_,hr,_=>by simp[LM]at hr
 |_::_,[],_,_,hr,_=>by simp[LM]at hr
mutual
def CT.qA:(c:CT)->c.den->Prop
 |.int k,(n:Int)=>k.min<=n/\n<=k.max
 |.bool,_=>True
 |.str,(s:Bytes)=>s.length<=maxLen
 |.sl _ r,(l:List r.den)=>l.length<=maxLen/\∀x∈l,r.qA x
def ax.qA:(r:ax)->r.den->Prop
 |.nil,_=>True
 |.cons c r,x=>c.qA x.1/\r.qA x.2
end
mutual
theorem gy.qA{h:Array Obj}{S:Nat->Prop}:∀(c:CT)(v:Value)(x:c.den),gy h S c v x->c.qA x
 |.int k,v,(n:Int),H=>by rw[gy]at H;rw[CT.qA];exact H.2
 |.bool,v,(b:Bool),H=>by rw[CT.qA];trivial
 |.str,v,(s:Bytes),H=>by rw[gy]at H;rw[CT.qA];exact H.2
 |.sl e r,v,(l:List r.den),H=>by
  rw[gy]at H;rw[CT.qA];refine⟨H.1,λx hx=>?_⟩;obtain⟨i,hi,rfl⟩:=aoB.1 hx;rcases H.2 with⟨hnil,_⟩|⟨b,off,cap,cs,t,fz,_,_,_,_,hr⟩
  .subst hnil;simp at hi
  .exact aU.qA r _ _ (hr i _ (anu hi))
theorem aU.qA{h:Array Obj}{S:Nat->Prop}:∀(r:ax)(vs:List Value)(x:r.den),aU h S r vs x->r.qA x
 |.nil,vs,_,H=>by rw[ax.qA];trivial
 |.cons c r,vs,(x,y),H=>by rw[aU]at H;obtain⟨v,vs',_,h1,h2⟩:=H;rw[ax.qA];exact⟨gy.qA c v x h1,aU.qA r vs' y h2⟩
end
def fF.qA:(c:fF)->c.den->Prop
 |.int k,(n:Int)=>k.min<=n/\n<=k.max
 |.str,(s:Bytes)=>s.length<=maxLen
 |.sl _ r _,(l:List r.den)=>l.length<=maxLen/\∀x∈l,r.qA x
 |_,_=>True
def TA:(l:List fF)->kN l->Prop
 |[],_=>True
 |c::r,x=>c.qA x.1/\TA r x.2
def oq.qA:(s:oq)->s.den->Prop
 |.one c,x=>c.qA x
 |.agg l,x=>TA l x
theorem fF.TB{X:V}(c:fF)(x:c.den)(v:Value)(h:aO X (c.cell x) v):c.qA x:=by
 cases c with
 |int k=>exact h.2
 |str=>exact h.2
 |sl e r fr=>
  have h':gy X.w.heap (X.bP fr) (.sl e r) v x:=h;have:=gy.qA (.sl e r) v x h';rw[CT.qA]at this;exact this
 |_=>trivial
theorem FM{X:V}:∀(l:List fF)(x:kN l)(vs:List Value),aj X (fQ l x) vs->TA l x
 |[],_,_,_=>trivial
 |c::r,x,v::vs,h=>⟨fF.TB c x.1 v h.1,FM r x.2 vs h.2⟩
 |_::_,_,[],h=>by cases h
inductive iq where
 |v (s:oq)
 |kp (l:List fF)
 |fn (f:FuncId) (l:List (List fF))
@[reducible] def iq.den:iq->Type
  |.v s=>s.den
  |.kp l=>kN l
  |.fn _ l=>yH l
def iq.val:(s:iq)->s.den->Arg
 |.v s,x=>.sv (s.val x)
 |.kp l,x=>.kp (fQ l x)
 |.fn f l,x=>.fn f (FH l x)
def iq.read:(s:iq)->Arg->Option s.den
 |.v s,.sv x=>s.read x
 |.kp l,.kp xs=>jf l xs
 |.fn f l,.fn g xs=>match Nat.beq f g with|true=>BZ l xs|false=>none
 |_,_=>none
theorem iq.weak{X:V}(s:iq)(x:Arg)(d:s.den)(v:Value)(hr:s.read x=some d)(hv:pY X x v):pY X (s.val d) v:=by
 unfold iq.read at hr;split at hr
 .exact oq.weak _ _ _ _ hr hv
 .obtain⟨b,e,hk⟩:=hv;exact⟨b,e,ZR hr hk⟩
 .split at hr
  .next hb=>obtain⟨us,e,hk⟩:=hv;rw[iq.val,ani hb];exact⟨us,e,QU _ _ _ _ hr hk⟩
  .cases hr
 .cases hr
@[reducible] def ja:List iq->Type
  |[]=>Unit
  |s::r=>s.den×ja r
def sK:(l:List iq)->ja l->List Arg
 |[],_=>[]
 |s::r,x=>s.val x.1::sK r x.2
def DL:(l:List iq)->List Arg->Option (ja l)
 |[],[]=>some ()
 |s::r,x::xs=>match s.read x,DL r xs with
  |some a,some b=>some (a,b)
  |_,_=>none
 |_,_=>none
theorem FN{X:V}:∀(l:List iq)(xs:List Arg)(d:ja l)(vs:List Value),DL l xs=some d->ng X xs vs->ng X (sK l d) vs
 |[],[],_,_,_,hv=>hv
 |s::r,x::xs,d,vs,hr,hv=>by
  rw[DL]at hr;split at hr
  .next a b h1 h2=>
   cases hr;cases vs with
   |nil=>cases hv
   |cons v vs=>exact⟨iq.weak s x a v h1 hv.1,FN r xs b vs h2 hv.2⟩
  .cases hr
 |[],_::_,_,_,hr,_=>by simp[DL]at hr
 |_::_,[],_,_,hr,_=>by simp[DL]at hr
theorem Pg:∀(l:List iq)(d:ja l),(sK l d).length=l.length
 |[],_=>rfl
 |_::r,d=>by simp[sK,Pg r d.2]
def YJ:(l:List (List fF))->yH l->Prop
 |[],_=>True
 |c::r,x=>TA c x.1/\YJ r x.2
def iq.qA:(s:iq)->s.den->Prop
 |.v s,x=>s.qA x
 |.kp l,x=>TA l x
 |.fn _ l,x=>YJ l x
def G9:(l:List iq)->ja l->Prop
 |[],_=>True
 |s::r,x=>s.qA x.1/\G9 r x.2
theorem UH{X:V}:∀(l:List (List fF))(x:yH l)(us:List Value),dI X (FH l x) us->YJ l x
 |[],_,_,_=>trivial
 |c::r,x,u::us,h=>by
  obtain⟨⟨b,hu,arr,t,fz,hf,hh,hc⟩,h2⟩:=h;exact⟨FM c x.1 _ hc,UH r x.2 us h2⟩
 |_::_,_,[],h=>by cases h
theorem zB{X:V}:∀(l:List iq)(x:ja l)(vs:List Value),ng X (sK l x) vs->G9 l x
 |[],_,_,_=>trivial
 |.v (.one c)::r,x,v::vs,h=>⟨fF.TB c x.1 v h.1,zB r x.2 vs h.2⟩
 |.v (.agg l)::r,x,v::vs,h=>by
  obtain⟨ws,hv,hc⟩:=h.1;exact⟨FM l x.1 _ hc,zB r x.2 vs h.2⟩
 |.kp l::r,x,v::vs,h=>by
  obtain⟨b,hu,arr,t,fz,hf,hh,hc⟩:=h.1;exact⟨FM l x.1 _ hc,zB r x.2 vs h.2⟩
 |.fn f l::r,x,v::vs,h=>by
  obtain⟨us,hv,hk⟩:=h.1;exact⟨UH l x.1 _ hk,zB r x.2 vs h.2⟩
 |_::_,_,[],h=>by cases h
def xG(sh:List iq)(F:ja sh->Prop×Out):Fp:=λargs=>
 match DL sh args with
 |some x=>some (F x)
 |none=>none
def xH:List SV->List (Bool×List dP)
 |[]=>[]
 |v::vs=>outOf v::xH vs
theorem LQ:∀(k:Nat)(vs:List SV),gB k (xH vs)=(vs,[])
 |_,[]=>rfl
 |k,v::vs=>by simp only[xH,gB,ado,LQ,anN]
def WO(Θ:iH)(rv:List ResultVar)(bK:List oq)(K:nG bK->Prop)(e:Exit)(st:St):Prop:=
 match e with
 |.normal|.ret=>match II Θ (st.freeze (JX st)) rv with
  |some vs=>match LM bK (vs.map (SV.kill λ_=>true))with
   |some d=>K d
   |none=>False
  |none=>False
 |_=>False
theorem ah7{G:jv}(hE:EnvB P G Θ Γ)(hm:P.follows .mixedOrders=true){f:FuncId}{fn:Func}{c:Code}(hf:P.funcs[f]? =some fn)(hb:fn.body=some c)(H:Hints){con:Fp}{bK:List oq}
 (hwalk:∀args p out,con args=some (p,out)->p->Nat.ble args.length fn.ntmps=true/\∃d:nG bK,out=⟨xH (qg bK d),none⟩/\DK Θ Γ H c (WO Θ fn.results.toList bK λy=>y=d) (entry fn.ntmps args)):jM P G f con:=by
 intro args p out k S vs w hcon hp hG hrep;obtain⟨hn,d,hout,hw⟩:=hwalk args p out hcon hp;subst hout;have hn':args.length<=fn.ntmps:=by simpa[apn]using hn
 refine calls_of_wp hf hb (QX ⟨hE,hG,λb hb=>hb.elim⟩ hm H c _ _ _ _ _ _ (afQ (S:=S) fn.ntmps hn' hrep) hw ?_);have hret:∀s γ' a' w',WO Θ fn.results.toList bK (λy=>y=d) .ret s->Rel w (λ_=>False) ⟨S,λ_=>none,λ_ _ h=>by cases h⟩ γ' s a' w'->bodyPost P fn (λe w'=>∃v vals,e=.returned v/\w'.os=w.os/\w'.tape=w.tape/\w'.output=w.output/\w.heap.size<=w'.heap.size/\
  (∀b,b<w.heap.size->w'.heap[b]? =w.heap[b]?)/\
  aT ⟨w',w.heap.size,S,vals,look (Out.take k ⟨xH (qg bK d),none⟩).2⟩ (Out.take k ⟨xH (qg bK d),none⟩).1 v/\
  (∀o x,look (Out.take k ⟨xH (qg bK d),none⟩).2 o=some x->bg ⟨w',w.heap.size,S,vals,look (Out.take k ⟨xH (qg bK d),none⟩).2⟩ o x/\∀b,blk (vals o)=some b->w.heap.size<=b/\b<w'.heap.size)/\
  (∀o x q y b,look (Out.take k ⟨xH (qg bK d),none⟩).2 o=some x->look (Out.take k ⟨xH (qg bK d),none⟩).2 q=some y->o≠q->blk (vals o)=some b->blk (vals q)≠some b)) .ret a' w':=by
  intro s γ' a' w' he hR;refine⟨hR.defers,?_⟩;simp only[WO]at he;split at he
  .next svs hvs=>
   split at he
   .next y hy=>
    subst he;have ZU:=hR.freeze (JX s);obtain⟨us,hus,hrs⟩:=IJ hE.types ZU _ _ hvs;have hk0:=dn.kill (λ_=>true) ZU svs us hrs;have hk:=afR bK _ y us hy hk0;have htake:Out.take k ⟨xH (qg bK y),none⟩=(match qg bK y with|[v]=>.sv v|l=>.lg l,[]):=by unfold Out.take;simp only[LQ];rcases qg bK y with _|⟨v,_|⟨v2,r⟩⟩<;>rfl
    have hmap:(fn.results.mapM (FK a'.tmps)).run P w'=.ok us.toArray w':=by rw[apw,Sem.run_map,hus];rfl
    refine⟨if h:us.toArray.size=1 then us.toArray[0]else .tuple us.toArray,?_,_,γ',rfl,hR.os,hR.tape,hR.output,hR.grow,λb hb=>hR.kept b hb (λh=>h),?_,?_,?_⟩
    .rw[NZ,anD,hmap];simp only[an8,aom]
    .rw[htake];have hl:=dn.length _ _ hk
     match hm:qg bK y,us,hk,hl with
     |[v],[u],hk,_=>exact hk.1
     |[],[],hk,_=>exact⟨_,by simp,hk⟩
     |v::v2::r,u::u2::us,hk,hl=>exact⟨_,by simp,hk⟩
     |[],_::_,hk,h4|_::_,[],hk,h4|[_],_::_::_,hk,h4|_::_::_,[_],hk,h4=>simp at h4
    .intro o x hx;rw[htake]at hx;cases hx
    .intro o x q y b hx;rw[htake]at hx;cases hx
   .exact he.elim
  .exact he.elim
 intro e s γ' a' w' he hR;cases e with
 |normal=>exact hret s γ' a' w' he hR
 |ret=>exact hret s γ' a' w' he hR
 |_=>exact he.elim
def lT(sh:List iq)(bK:List oq)(F:ja sh->Prop×nG bK):Fp:=xG sh λx=>((F x).1,⟨xH (qg bK (F x).2),none⟩)
theorem YK{G:jv}(hE:EnvB P G Θ Γ)(hm:P.follows .mixedOrders=true){f:FuncId}{fn:Func}{c:Code}(hf:P.funcs[f]? =some fn)(hb:fn.body=some c)(H:Hints)
 {sh:List iq} {bK:List oq} {F:ja sh->Prop×nG bK} (hn:Nat.ble sh.length fn.ntmps=true)
 (hwalk:∀x,G9 sh x->(F x).1->DK Θ Γ H c (WO Θ fn.results.toList bK λy=>y=(F x).2) (entry fn.ntmps (sK sh x))):jM P G f (lT sh bK F):=by
 have base:∀x,G9 sh x->jM P G f (λargs=>@ite _ (args=sK sh x) (Classical.propDecidable _) (some ((F x).1,⟨xH (qg bK (F x).2),none⟩)) none):=by
  intro x hin;refine ah7 (bK:=bK) hE hm hf hb H ?_;intro args p out hcon hp;split at hcon
  .next e=>
   have hF:((F x).1,(⟨xH (qg bK (F x).2),none⟩:Out))=(p,out):=by simpa using hcon
   have h1:(F x).1=p:=congrArg Prod.fst hF;have h2:(⟨xH (qg bK (F x).2),none⟩:Out)=out:=congrArg Prod.snd hF;have:=hwalk x hin (by rw[h1];exact hp);rw[e];exact⟨by rw[Pg];exact hn,(F x).2,h2.symm,this⟩
  .cases hcon
 intro args p out k S vs w hcon hp hG hrep;unfold lT xG at hcon;split at hcon
 .next x hx=>have hv:=FN sh args x vs.toList hx hrep;exact base x (zB sh x _ hv) (sK sh x) p out k S vs w (by simp only[if_true];exact hcon) hp hG hv
 .cases hcon
inductive RC where
 |c (s:fF)
 |own (e:TypeId) (r:ax) (fr:Bool)
@[reducible] def RC.den:RC->Type
  |.c s=>s.den
  |.own _ r _=>List r.den
@[reducible] def WQ:List RC->Type
  |[]=>Unit
  |c::r=>c.den×WQ r
def RC.aeV:(c:RC)->c.den->dP
 |.c s,x=>.plain (s.cell x)
 |.own e r fr,l=>.own e r l fr
def YL:(l:List RC)->WQ l->List dP
 |[],_=>[]
 |c::r,x=>c.aeV x.1::YL r x.2
inductive oM where
 |one (c:RC)
 |agg (l:List RC)
@[reducible] def oM.den:oM->Type
  |.one c=>c.den
  |.agg l=>WQ l
@[reducible] def kY:List oM->Type
  |[]=>Unit
  |s::r=>s.den×kY r
def oM.out:(s:oM)->s.den->Bool×List dP
 |.one c,x=>(false,[c.aeV x])
 |.agg l,x=>(true,YL l x)
def ig:(l:List oM)->kY l->List (Bool×List dP)
 |[],_=>[]
 |s::r,x=>s.out x.1::ig r x.2
def RC.name:RC->Cell->Option Nat
 |.own _ _ _,.ref o=>some o
 |_,_=>none
def YM:List RC->List Cell->List (Option Nat)
 |c::r,x::xs=>c.name x::YM r xs
 |_,_=>[]
def oM.names:oM->SV->List (Option Nat)
 |.one c,.one x=>[c.name x]
 |.agg l,.agg xs=>YM l xs
 |_,_=>[]
def yI:List oM->List SV->List (Option Nat)
 |s::r,x::xs=>s.names x++yI r xs
 |_,_=>[]
def RC.read(st:St):(c:RC)->Cell->Option c.den
 |.c s,x=>match x.refs with|[]=>s.read x|_=>none
 |.own e r fr,.ref o=>match st.ah o with
  |some (.arr f s l g)=>match Nat.beq e f&&IG fr g with
   |true=>if h:s.beq r=true then some (rY h l)else none
   |false=>none
  |_=>none
 |.own _ r _,.nil=>match Nat.ble 1 r.len with|true=>some []|false=>none
 |_,_=>none
def LU(st:St):(l:List RC)->List Cell->Option (WQ l)
 |[],[]=>some ()
 |c::r,x::xs=>match c.read st x,LU st r xs with
  |some a,some b=>some (a,b)
  |_,_=>none
 |_,_=>none
def oM.read(st:St):(s:oM)->SV->Option s.den
 |.one c,.one x=>c.read st x
 |.agg l,.agg xs=>LU st l xs
 |_,_=>none
def zC(st:St):(l:List oM)->List SV->Option (kY l)
 |[],[]=>some ()
 |s::r,x::xs=>match s.read st x,zC st r xs with
  |some a,some b=>some (a,b)
  |_,_=>none
 |_,_=>none
inductive iy where
 |p (s:iq)
 |own (e:TypeId) (r:ax)
 |ptr (l:List fF)
@[reducible] def iy.den:iy->Type
  |.p s=>s.den
  |.own _ r=>List r.den
  |.ptr l=>kN l
def iy.mode:iy->Mode
 |.p _=>.val
 |.own _ _=>.own
 |.ptr _=>.ptr
def iy.val:(s:iy)->s.den->Arg
 |.p s,x=>s.val x
 |.own e r,l=>.own e r l
 |.ptr l,x=>.ptr (fQ l x)
def iy.read:(s:iy)->Arg->Option s.den
 |.p s,x=>s.read x
 |.own e r,.own f s l=>match Nat.beq e f with
  |true=>if h:s.beq r=true then some (rY h l)else none
  |false=>none
 |.ptr l,.ptr cs=>jf l cs
 |_,_=>none
@[reducible] def jq:List iy->Type
  |[]=>Unit
  |s::r=>s.den×jq r
def qU:(l:List iy)->jq l->List Arg
 |[],_=>[]
 |s::r,x=>s.val x.1::qU r x.2
def jg:(l:List iy)->List Arg->Option (jq l)
 |[],[]=>some ()
 |s::r,x::xs=>match s.read x,jg r xs with
  |some a,some b=>some (a,b)
  |_,_=>none
 |_,_=>none
@[reducible] def kL:List iy->Type
  |[]=>Unit
  |.ptr l::r=>kN l×kL r
  |.p _::r|.own _ _::r=>kL r
def jB:(l:List iy)->kL l->List Eff
 |[],_=>[]
 |.ptr l::r,x=>.var (fQ l x.1)::jB r x.2
 |.p _::r,x|.own _ _::r,x=>.lose::jB r x
def FO(st:St):(i:Nat)->(l:List iy)->Option (kL l)
 |_,[]=>some ()
 |i,.ptr l::r=>match st.ah (i*64+48),FO st (i+1) r with
  |some (.var cs),some b=>match cs.flatMap Cell.refs,jf l cs with
   |[],some a=>some (a,b)
   |_,_=>none
  |_,_=>none
 |i,.p _::r|i,.own _ _::r=>FO st (i+1) r
def Arg.avX(i:Nat):Arg->AV
 |.own _ _ _=>.sv (.one (.ref (i*64+49)))
 |.ptr _=>.aX (i*64+48) 0
 |a=>a.av
def Bj(n:Nat)(args:List Arg):St:=
 {n:=n,tmps:=λt=>match args[t]? with|some v=>v.avX t|none=>.undef,ah:=bY args}
def WR(st:St)(W:List (Option Nat))(o:Nat):Bool:=JX st o&&!(Qx o W)
def aa1(Θ:iH)(rv:List ResultVar)(sh:List iy)(bK:List oM)(K:kY bK×kL sh->Prop)(e:Exit)(st:St):Prop:=
 match e with
 |.normal|.ret=>match II Θ st rv with
  |some svs=>match II Θ (st.freeze (WR st (yI bK svs))) rv with
   |some vs=>match wH (yI bK vs),zC (st.freeze (WR st (yI bK svs))) bK vs,FO (st.freeze (WR st (yI bK svs))) 0 sh with
    |true,some d,some b=>K (d,b)
    |_,_,_=>False
   |none=>False
  |none=>False
 |_=>False
def pU(sh:List iy)(bK:List oM)(F:jq sh->Prop×(kY bK×kL sh->Prop)):Dn:=λargs=>
 match jg sh args with
 |some x=>some ((F x).1,⟨kY bK×kL sh,(F x).2,λt=>⟨ig bK t.1,none⟩,λt=>jB sh t.2⟩)
 |none=>none
def FC(sh:List iy):List Mode:=sh.map iy.mode
end Go.Fw
namespace Go.Fw
open Go
variable {P:Program} {w0:World} {M:Nat->Prop} {T:Ext} {γ γ':Nat->Value} {st:St} {a:Act} {w w':World} {Θ:iH} {Γ:jI}
def YN(args:List Arg)(γ:Nat->Value)(o:Nat):Option Value:=match bY args o with|some (.var _)=>some (γ o)|_=>none
theorem agR{args:List Arg}{o:Nat}{cs:List Cell}(h:bY args o=some (.var cs)):o%64=48:=by
 unfold bY at h;split at h
 .split at h<;>cases h
 .split at h
  .next hm=>exact ani hm
  .cases h
 .cases h
def QY(args:List Arg)(γ:Nat->Value)(S:Nat->Prop):Ext where
 S:=λb=>S b\/sJ (bY args) γ b
 N:=YN args γ
 n48:=by
  intro p v h;unfold YN at h;split at h
  .next cs hc=>exact agR hc
  .cases h
theorem uQ.get{X:V}:∀(as:List Arg)(vs:List Value)(i:Nat),uQ X i as vs->as.length=vs.length/\∀(j:Nat)(b:Arg),as[j]? =some b->∃v,vs[j]? =some v/\Iy X (i+j) b v
 |[],[],_,_=>⟨rfl,λj b h=>by simp at h⟩
 |x::as,v::vs,i,⟨h1,h2⟩=>by
  obtain⟨g1,g2⟩:=uQ.get as vs (i+1) h2;refine⟨by simp[g1],λj b hb=>?_⟩;cases j with
  |zero=>simp at hb;subst hb;exact⟨v,rfl,h1⟩
  |succ j=>
   obtain⟨u,hu,hr⟩:=g2 j b (by simpa using hb);exact⟨u,by simpa using hu,by rw[show i+(j+1)=i+1+j by omega];exact hr⟩
 |[],_::_,_,H|_::_,[],_,H=>by cases H
theorem Iy.av{X:V}(i:Nat):∀(c:Arg)(v:Value),Iy X i c v->aT X (c.avX i) v
 |.own _ _ _,_,h=>h
 |.ptr _,_,h=>h
 |.sv _,_,h|.kp _,_,h|.fn _ _,_,h=>h
theorem WS{args:List Arg}{vs:Array Value}{S:Nat->Prop}(n:Nat)(hn:args.length<=n)
 (h:uQ ⟨w,w.heap.size,S,γ,bY args⟩ 0 args vs.toList)
 (ho:∀o x,bY args o=some x->bg ⟨w,w.heap.size,S,γ,bY args⟩ o x/\∀b,blk (γ o)=some b->b<w.heap.size)
 (hs:∀o x q y b,bY args o=some x->bY args q=some y->o≠q->blk (γ o)=some b->blk (γ q)≠some b):
 Rel w (sJ (bY args) γ) (QY args γ S) γ (Bj n args) {tmps:=vs++Array.replicate (n-vs.size) undef,defers:=[]} w:=by
 obtain⟨hl0,hget⟩:=uQ.get _ _ 0 h;have hl:vs.size=args.length:=by simpa using hl0.symm
 have le:V.le ⟨w,w.heap.size,S,γ,bY args⟩ ⟨w,w.heap.size,(QY args γ S).S,γ,bY args⟩:=
  ⟨ann _,λb hb=>⟨⟨hb.1,λhlt=>.inl (hb.2.1 hlt),hb.2.2⟩,rfl⟩,λo cs hx=>⟨⟨cs,hx⟩,rfl⟩,λo e r l fr hx=>⟨⟨l,fr,hx⟩,rfl⟩⟩
 refine⟨λb hb=>.inr hb,rfl,?_,rfl,rfl,rfl,ann _,λ_ _ _=>rfl,λt=>?_,λo x hx=>bg.mono le o x (λ_ _=>rfl) rfl (ho o x hx).1,λo x b hx hb=>⟨(ho o x hx).2 b hb,.inr ⟨o,x,hx,hb⟩⟩,λo x p y b hx hy hop hb=>hs o x p y b hx hy hop hb,λo v cs hN hx=>?_⟩
 .simp[Bj];omega
 .simp only[Bj];cases ha:args[t]? with
  |none=>trivial
  |some v=>
   obtain⟨u,hu,hr⟩:=hget t v ha;have:(vs++Array.replicate (n-vs.size) undef).getD t undef=u:=by
    have hlt:t<args.length:=by
     rcases anL t args.length with h'|h'
     .exact h'
     .rw[aoA h']at ha;cases ha
    have hlt':t<vs.size:=by omega
    rw[ao1,ao6 hlt'];have:vs[t]? =some u:=by simpa using hu
    rw[this];rfl
   rw[this];rw[anJ]at hr;exact aT.mono le _ _ (Iy.av t v u hr)
 .have hx':bY args o=some (.var cs):=hx;have hN':YN args γ o=some v:=hN;unfold YN at hN';rw[hx']at hN';exact Option.some.inj hN'
def AW(a a':Arg):Prop:=
 (∃e r l,a=.own e r l/\a'=.own e r l)\/(∃cs cs',a=.ptr cs/\a'=.ptr cs'/\∀(X:V) vs,aj X cs vs->aj X cs' vs)\/
 ((∀(X:V) v,aT X a.av v->aT X a'.av v)/\(∀i,a.avX i=a.av)/\(∀i,a'.avX i=a'.av)/\(∀e r l,a≠ .own e r l)/\(∀cs,a≠ .ptr cs)/\(∀e r l,a'≠ .own e r l)/\(∀cs,a'≠ .ptr cs))
theorem iq.aeW{s:iq}{x:Arg}{d:s.den}(h:s.read x=some d):AW x (s.val d):=by
 refine .inr (.inr ⟨λX v hv=>?_,?_⟩)
 .have hx:pY X x v:=by
   cases x with
   |sv _|kp _|fn _ _=>exact hv
   |own _ _ _|ptr _=>cases s<;>simp[iq.read]at h
  exact pY.av _ _ (iq.weak s x d v h hx)
 .cases x<;>cases s<;>first
   |(simp[iq.read]at h;done)
   |exact⟨λ_=>rfl,λ_=>rfl,(λ_ _ _ e=>by cases e),(λ_ e=>by cases e),(λ_ _ _ e=>by cases e),(λ_ e=>by cases e)⟩
theorem iy.aeW{s:iy}{x:Arg}{d:s.den}(h:s.read x=some d):AW x (s.val d):=by
 unfold iy.read at h;split at h
 .exact iq.aeW h
 .next e r f s l=>
  split at h
  .next hb=>
   split at h
   .next hs=>cases h;have he:=ani hb;subst he;have hsr:=ax.eq_of_beq s r hs;subst hsr;exact .inl ⟨e,s,l,rfl,rfl⟩
   .cases h
  .cases h
 .next l cs=>exact .inr (.inl ⟨cs,_,rfl,rfl,λX vs hc=>Bg _ _ _ _ h hc⟩)
 .cases h
theorem He:∀{l:List iy}{xs:List Arg}{d:jq l},jg l xs=some d->(qU l d).length=xs.length/\∀(i:Nat)(a:Arg),xs[i]? =some a->∃a',(qU l d)[i]? =some a'/\AW a a'
 |[],[],_,_=>⟨rfl,λi a h=>by simp at h⟩
 |s::r,x::xs,d,h=>by
  rw[jg]at h;split at h
  .next a b h1 h2=>
   cases h;obtain⟨g1,g2⟩:=He h2;refine⟨by simp[qU,g1],λi c hc=>?_⟩;cases i with
   |zero=>simp at hc;subst hc;exact⟨_,rfl,iy.aeW h1⟩
   |succ i=>obtain⟨c',k1,k2⟩:=g2 i c (by simpa using hc);exact⟨c',by simpa[qU]using k1,k2⟩
  .cases h
 |[],_::_,_,h=>by simp[jg]at h
 |_::_,[],_,h=>by simp[jg]at h
theorem JZ{args:List Arg}{o:Nat}(h:∀b,args[o / 64]? =some b->(∀e r l,b≠ .own e r l)/\∀cs,b≠ .ptr cs):bY args o=none:=by
 unfold bY;split
 .next e r l ha=>exact((h _ ha).1 e r l rfl).elim
 .next cs ha=>exact((h _ ha).2 cs rfl).elim
 .rfl
theorem Ph{sh:List iy}{args:List Arg}{x:jq sh}(h:jg sh args=some x)(n:Nat):Covers (Bj n (qU sh x)) (Bj n args):=by
 obtain⟨hl,hget⟩:=He h;refine⟨rfl,λt X v hv=>?_,λo=>?_⟩
 .simp only[Bj]at hv ⊢;cases ha:args[t]? with
  |none=>
   have:(qU sh x)[t]? =none:=by rw[ap3]at ha ⊢;omega
   rw[this];trivial
  |some b=>
   obtain⟨b',hb',hw⟩:=hget t b ha;rw[ha]at hv;rw[hb'];dsimp only at hv ⊢;rcases hw with⟨e,r,l,rfl,rfl⟩|⟨cs,cs',rfl,rfl,_⟩|⟨hw,e1,e2,_⟩
   .exact hv
   .exact hv
   .rw[e1]at hv;rw[e2];exact hw X v hv
 .show(bY (qU sh x) o=none/\bY args o=none)\/∃y y',bY args o=some y/\bY (qU sh x) o=some y'/\EG y y';cases ha:args[o / 64]? with
  |none=>
   have h2:(qU sh x)[o / 64]? =none:=by rw[ap3]at ha ⊢;omega
   exact .inl ⟨JZ (by rw[h2];intro b hb;cases hb),JZ (by rw[ha];intro b hb;cases hb)⟩
  |some b=>
   obtain⟨b',hb',hw⟩:=hget _ b ha;rcases hw with⟨e,r,l,rfl,rfl⟩|⟨cs,cs',rfl,rfl,hc⟩|⟨_,_,_,n1,n2,n3,n4⟩
   .unfold bY;rw[ha,hb'];dsimp only;cases hm:Nat.beq (o%64) 49 with
    |true=>exact .inr ⟨_,_,rfl,rfl,.inr ⟨e,r,l,false,false,rfl,rfl,id⟩⟩
    |false=>exact .inl ⟨rfl,rfl⟩
   .unfold bY;rw[ha,hb'];dsimp only;cases hm:Nat.beq (o%64) 48 with
    |true=>exact .inr ⟨_,_,rfl,rfl,.inl ⟨cs,cs',rfl,rfl,hc⟩⟩
    |false=>exact .inl ⟨rfl,rfl⟩
   .exact .inl ⟨JZ (by rw[hb'];intro c hc;cases hc;exact⟨n3,n4⟩),JZ (by rw[ha];intro c hc;cases hc;exact⟨n1,n2⟩)⟩
theorem UI(a b:List (Nat×aC))(p:Nat):look (a++b) p=match look b p with|some y=>some y|none=>look a p:=by
 induction a with
 |nil=>simp only[an7,look];cases look b p<;>rfl
 |cons x a ih=>obtain⟨o,z⟩:=x;rw[aow,look,ih,look];cases look b p<;>rfl
theorem rZ:∀(cs:List dP)(k p:Nat)(x:aC),look (je k cs).2 p=some x↔∃i e r l fr,p=k+i/\cs[i]? =some (.own e r l fr)/\x=.arr e r l fr
 |[],k,p,x=>by simp[je,look]
 |c::cs,k,p,x=>by
  rw[je,UI];have ih:=rZ cs (k+1) p x;constructor
  .intro h;split at h
   .next y hy=>cases h;obtain⟨i,e,r,l,fr,h1,h2,h3⟩:=(rZ cs (k+1) p x).1 hy;exact⟨i+1,e,r,l,fr,by omega,by simpa using h2,h3⟩
   .next hn=>
    cases c with
    |plain c=>simp[dP.take,look]at h
    |own e r l fr=>
     simp only[dP.take,look]at h;split at h
     .next hb=>cases h;exact⟨0,e,r,l,fr,by have:=ani hb;omega,rfl,rfl⟩
     .cases h
  .rintro⟨i,e,r,l,fr,h1,h2,rfl⟩;cases i with
   |succ i=>
    have:=(rZ cs (k+1) p (.arr e r l fr)).2 ⟨i,e,r,l,fr,by omega,by simpa using h2,rfl⟩;rw[this]
   |zero=>
    simp at h2;subst h2;have hn:look (je (k+1) cs).2 p=none:=by
     cases hl:look (je (k+1) cs).2 p with
     |none=>rfl
     |some y=>obtain⟨i,_,_,_,_,g1,_⟩:=(rZ cs (k+1) p y).1 hl;omega
    rw[hn];have hp:p=k:=by omega
    subst hp;simp[dP.take,look]
def Hf(rs:List (Bool×List dP)):List dP:=rs.flatMap (·.2)
theorem adp(k:Nat)(x:Bool×List dP):(uh k x).2=(je k x.2).2:=by
 unfold uh;split
 .next e1 e2=>rw[e2]
 .next e1 e2=>rw[e2]
 .next e1 e2=>rw[e2]
theorem yw:∀(rs:List (Bool×List dP))(k p:Nat)(x:aC),look (gB k rs).2 p=some x↔∃i e r l fr,p=k+i/\(Hf rs)[i]? =some (.own e r l fr)/\x=.arr e r l fr
 |[],k,p,x=>by simp[gB,look,Hf]
 |y::rs,k,p,x=>by
  rw[gB,UI,adp];have aeX:Hf (y::rs)=y.2++Hf rs:=rfl;constructor
  .intro h;split at h
   .next z hz=>cases h;obtain⟨i,e,r,l,fr,h1,h2,h3⟩:=(yw rs (k+y.2.length) p x).1 hz;refine⟨y.2.length+i,e,r,l,fr,by omega,?_,h3⟩;rw[aeX,anW (by omega)];simpa using h2
   .obtain⟨i,e,r,l,fr,h1,h2,h3⟩:=(rZ y.2 k p x).1 h;refine⟨i,e,r,l,fr,h1,?_,h3⟩;rw[aeX,aob (anr.1 h2).1];exact h2
  .rintro⟨i,e,r,l,fr,h1,h2,rfl⟩;rw[aeX]at h2;rcases anL i y.2.length with hlt|hge
   .rw[aob hlt]at h2;have hn:look (gB (k+y.2.length) rs).2 p=none:=by
     cases hl:look (gB (k+y.2.length) rs).2 p with
     |none=>rfl
     |some z=>obtain⟨j,_,_,_,_,g1,_⟩:=(yw rs (k+y.2.length) p z).1 hl;omega
    rw[hn];exact(rZ y.2 k p _).2 ⟨i,e,r,l,fr,h1,h2,rfl⟩
   .rw[anW hge]at h2;have:=(yw rs (k+y.2.length) p (.arr e r l fr)).2 ⟨i-y.2.length,e,r,l,fr,by omega,h2,rfl⟩;rw[this]
end Go.Fw
namespace Go.Fw
open Go
set_option linter.unusedVariables false
variable {P:Program} {w0:World} {M:Nat->Prop} {T:Ext} {γ γ':Nat->Value} {st:St} {a:Act} {w w':World} {Θ:iH} {Γ:jI}
def RF(Y:V)(c:dP)(v:Value)(n:Option Nat):Prop:=
 match c with
 |.plain x=>aO Y x v/\x.refs=[]
 |.own e r l fr=>0<r.len/\((∃o g,n=some o/\Y.ah o=some (.arr e r l g)/\IG fr g=true/\v=Y.γ o/\v.oneCell'=true)\/(l=[]/\v=.slice none 0 0))
def Bl(Y:V):List dP->List Value->List (Option Nat)->Prop
 |[],[],[]=>True
 |c::cs,v::vs,n::ns=>RF Y c v n/\Bl Y cs vs ns
 |_,_,_=>False
theorem Bl.append{Y:V}:∀(cs:List dP)(vs:List Value)(ns:List (Option Nat))(ds:List dP)(us:List Value)(ms:List (Option Nat)),Bl Y cs vs ns->Bl Y ds us ms->Bl Y (cs++ds) (vs++us) (ns++ms)
 |[],[],[],_,_,_,_,h=>h
 |_::cs,_::vs,_::ns,ds,us,ms,⟨h1,h2⟩,h=>⟨h1,Bl.append cs vs ns ds us ms h2 h⟩
theorem Bl.length{Y:V}:∀(cs:List dP)(vs:List Value)(ns:List (Option Nat)),Bl Y cs vs ns->cs.length=vs.length
 |[],[],[],_=>rfl
 |_::cs,_::vs,_::ns,⟨_,h2⟩=>by simp[Bl.length cs vs ns h2]
theorem Bl.get{Y:V}:∀(cs:List dP)(vs:List Value)(ns:List (Option Nat))(i:Nat)(c:dP),Bl Y cs vs ns->cs[i]? =some c->∃v n,vs[i]? =some v/\ns[i]? =some n/\RF Y c v n
 |[],[],[],i,c,_,h=>by simp at h
 |x::cs,v::vs,n::ns,0,c,⟨h1,_⟩,h=>by simp at h;subst h;exact⟨v,n,rfl,rfl,h1⟩
 |x::cs,v::vs,n::ns,i+1,c,⟨_,h2⟩,h=>by obtain⟨u,m,g1,g2,g3⟩:=Bl.get cs vs ns i c h2 (by simpa using h);exact⟨u,m,by simpa using g1,by simpa using g2,g3⟩
theorem fF.ZV(c:fF)(x:Cell)(d:c.den)(h:c.read x=some d)(hx:x.refs=[]):(c.cell d).refs=[]:=by cases c<;>cases x<;>first|rfl|(simp[fF.read]at h;done)|(cases hx)
theorem RC.ad1{Y:V}(hst:Y.ah=st.ah)(hpos:∀o e r l g,st.ah o=some (.arr e r l g)->0<r.len):∀(c:RC)(x:Cell)(d:c.den)(v:Value),c.read st x=some d->aO Y x v->RF Y (c.aeV d) v (c.name x):=by
 intro c x d v hr hv;cases c with
 |c s=>
  rw[RC.read]at hr;split at hr
  .next hx=>exact⟨fF.weak s x d v hr hv,fF.ZV s x d hr hx⟩
  .cases hr
 |own e r fr=>
  cases x with
  |ref o=>
   simp only[RC.read]at hr;split at hr
   .next f s l g ho=>
    split at hr
    .next hb=>
     split at hr
     .next hs=>cases hr;rw[ane]at hb;have he:=ani hb.1;subst he;have hsr:=ax.eq_of_beq s r hs;subst hsr;exact⟨hpos _ _ _ _ _ ho,.inl ⟨o,g,rfl,by rw[hst];exact ho,hb.2,hv.2.1,hv.2.2⟩⟩
     .cases hr
    .cases hr
   .cases hr
  |nil=>
   simp only[RC.read]at hr;split at hr
   .next hb=>cases hr;exact⟨anM Nat.zero_lt_one (by simpa[apn]using hb),.inr ⟨rfl,hv⟩⟩
   .cases hr
  |_=>simp[RC.read]at hr
theorem WT{Y:V}(hst:Y.ah=st.ah)(hpos:∀o e r l g,st.ah o=some (.arr e r l g)->0<r.len):∀(l:List RC)(xs:List Cell)(d:WQ l)(vs:List Value),LU st l xs=some d->aj Y xs vs->Bl Y (YL l d) vs (YM l xs)
 |[],[],_,[],_,_=>trivial
 |c::r,x::xs,d,v::vs,h,⟨h1,h2⟩=>by
  rw[LU]at h;split at h
  .next a b g1 g2=>cases h;exact⟨RC.ad1 hst hpos c x a v g1 h1,WT hst hpos r xs b vs g2 h2⟩
  .cases h
 |[],_::_,_,_,h,_=>by simp[LU]at h
 |_::_,[],_,_,h,_=>by simp[LU]at h
theorem oM.abP{Y:V}(hst:Y.ah=st.ah)(hpos:∀o e r l g,st.ah o=some (.arr e r l g)->0<r.len):∀(s:oM)(x:SV)(d:s.den)(v:Value),s.read st x=some d->dh Y x v->Bl Y (s.out d).2 v.cells.toList (s.names x)
 |.one c,.one x,d,v,h,hv=>by
  rw[Dw v (aO.one x v hv)];exact⟨RC.ad1 hst hpos c x d v h hv,trivial⟩
 |.agg l,.agg xs,d,v,h,⟨vs,hv,hc⟩=>by
  rw[hv];exact WT hst hpos l xs d _ h hc
 |.one _,.agg _,_,_,h,_|.agg _,.one _,_,_,h,_=>by simp[oM.read]at h
theorem WU{Y:V}(hst:Y.ah=st.ah)(hpos:∀o e r l g,st.ah o=some (.arr e r l g)->0<r.len):∀(l:List oM)(xs:List SV)(d:kY l)(vs:List Value),zC st l xs=some d->dn Y xs vs->
 Bl Y (Hf (ig l d)) (vs.flatMap λv=>v.cells.toList) (yI l xs)
 |[],[],_,[],_,_=>trivial
 |s::r,x::xs,d,v::vs,h,⟨h1,h2⟩=>by
  rw[zC]at h;split at h
  .next a b g1 g2=>cases h;exact Bl.append _ _ _ _ _ _ (oM.abP hst hpos s x a v g1 h1) (WU hst hpos r xs b vs g2 h2)
  .cases h
 |[],_::_,_,_,h,_=>by simp[zC]at h
 |_::_,[],_,_,h,_=>by simp[zC]at h
def Go1(Z:V)(k:Nat)(c:dP)(v:Value):Prop:=aO Z (c.take k).1 v
def Ep(Z:V):Nat->List dP->List Value->Prop
 |_,[],[]=>True
 |k,c::cs,v::vs=>Go1 Z k c v/\Ep Z (k+1) cs vs
 |_,_,_=>False
theorem Ep.of{Z:V}:∀(cs:List dP)(vs:List Value)(k:Nat),cs.length=vs.length->(∀i c v,cs[i]? =some c->vs[i]? =some v->Go1 Z (k+i) c v)->Ep Z k cs vs
 |[],[],_,_,_=>trivial
 |c::cs,v::vs,k,hl,h=>⟨h 0 c v rfl rfl,Ep.of cs vs (k+1) (by simpa using hl) λi c' v' h1 h2=>by
   have:=h (i+1) c' v' (by simpa using h1) (by simpa using h2)
   rwa [show k+(i+1)=k+1+i by omega]at this⟩
theorem Ep.split{Z:V}:∀(cs:List dP)(vs:List Value)(ds:List dP)(us:List Value)(k:Nat),cs.length=vs.length->Ep Z k (cs++ds) (vs++us)->Ep Z k cs vs/\Ep Z (k+cs.length) ds us
 |[],[],_,_,_,_,h=>⟨trivial,h⟩
 |c::cs,v::vs,ds,us,k,hl,⟨h1,h2⟩=>by obtain⟨g1,g2⟩:=Ep.split cs vs ds us (k+1) (by simpa using hl) h2;exact⟨⟨h1,g1⟩,by rw[show k+(c::cs).length=k+1+cs.length by simp;omega];exact g2⟩
theorem Ep.cells{Z:V}:∀(cs:List dP)(vs:List Value)(k:Nat),Ep Z k cs vs->aj Z (je k cs).1 vs
 |[],[],_,_=>trivial
 |c::cs,v::vs,k,⟨h1,h2⟩=>⟨h1,Ep.cells cs vs (k+1) h2⟩
theorem oM.go{Y Z:V}:∀(s:oM)(x:SV)(d:s.den)(v:Value)(k:Nat),s.read st x=some d->dh Y x v->Ep Z k (s.out d).2 v.cells.toList->dh Z (uh k (s.out d)).1 v
 |.one c,.one x,d,v,k,h,hv,hg=>by
  rw[Dw v (aO.one x v hv)]at hg;exact hg.1
 |.agg l,.agg xs,d,v,k,h,⟨vs,hv,hc⟩,hg=>by
  rw[hv]at hg ⊢;exact⟨vs,rfl,Ep.cells _ _ _ hg⟩
 |.one _,.agg _,_,_,_,h,_,_|.agg _,.one _,_,_,_,h,_,_=>by simp[oM.read]at h
theorem ZW{Y Z:V}(hst:Y.ah=st.ah)(hpos:∀o e r l g,st.ah o=some (.arr e r l g)->0<r.len):∀(l:List oM)(xs:List SV)(d:kY l)(vs:List Value)(k:Nat),zC st l xs=some d->dn Y xs vs->
 Ep Z k (Hf (ig l d)) (vs.flatMap λv=>v.cells.toList)->dn Z (gB k (ig l d)).1 vs
 |[],[],_,[],_,_,_,_=>trivial
 |s::r,x::xs,d,v::vs,k,h,⟨h1,h2⟩,hg=>by
  rw[zC]at h;split at h
  .next a b g1 g2=>cases h;have hl:=Bl.length _ _ _ (oM.abP hst hpos s x a v g1 h1);obtain⟨k1,k2⟩:=Ep.split _ _ _ _ k hl hg;exact⟨oM.go s x a v k g1 h1 k1,ZW hst hpos r xs b vs _ g2 h2 k2⟩
  .cases h
 |[],_::_,_,_,_,h,_,_=>by simp[zC]at h
 |_::_,[],_,_,_,h,_,_=>by simp[zC]at h
theorem UJ:∀(l:List fF)(xs:List Cell)(d:kN l),jf l xs=some d->xs.flatMap Cell.refs=[]->(fQ l d).flatMap Cell.refs=[]
 |[],[],_,_,_=>rfl
 |c::r,x::xs,d,h,hx=>by
  rw[jf]at h;split at h
  .next a b g1 g2=>cases h;rw[aop,an6]at hx;show(c.cell a::fQ r b).flatMap Cell.refs=[];rw[aop,fF.ZV c x a g1 hx.1,UJ r xs b g2 hx.2,anN]
  .cases h
 |[],_::_,_,h,_=>by simp[jf]at h
 |_::_,[],_,h,_=>by simp[jf]at h
theorem Hg:∀(sh:List iy)(i:Nat)(b:kL sh),FO st i sh=some b->∀(j:Nat)(e:Eff),(jB sh b)[j]? =some e->
 e=.lose\/∃l cs cs0,sh[j]? =some (.ptr l)/\e=.var cs/\st.ah ((i+j)*64+48)=some (.var cs0)/\cs0.flatMap Cell.refs=[]/\cs.flatMap Cell.refs=[]/\∀(X:V) vs,aj X cs0 vs->aj X cs vs
 |[],_,_,_,j,e,he=>by simp[jB]at he
 |.ptr l::r,i,b,h,j,e,he=>by
  rw[FO]at h;split at h
  .next cs b' hx hb=>
   split at h
   .next a hr ha=>
    cases h;cases j with
    |zero=>
     simp[jB]at he;subst he;exact .inr ⟨l,_,cs,rfl,rfl,by simpa using hx,hr,UJ _ _ _ ha hr,λX vs hc=>Bg _ _ _ _ ha hc⟩
    |succ j=>
     rcases Hg r (i+1) b' hb j e (by simpa[jB]using he)with h|⟨l,cs',cs0,h1,h2,h3,h4⟩
     .exact .inl h
     .exact .inr ⟨l,cs',cs0,by simpa using h1,h2,by rw[show i+(j+1)=i+1+j by omega];exact h3,h4⟩
   .cases h
  .cases h
 |.p _::r,i,b,h,j,e,he|.own _ _::r,i,b,h,j,e,he=>by
  rw[FO]at h;cases j with
  |zero=>simp[jB]at he;exact .inl he.symm
  |succ j=>
   rcases Hg r (i+1) b h j e (by simpa[jB]using he)with h|⟨l,cs',cs0,h1,h2,h3,h4⟩
   .exact .inl h
   .exact .inr ⟨l,cs',cs0,by simpa using h1,h2,by rw[show i+(j+1)=i+1+j by omega];exact h3,h4⟩
theorem WV:∀{sh:List iy}{xs:List Arg}{d:jq sh},jg sh xs=some d->∀(j:Nat)(l:List fF),sh[j]? =some (.ptr l)->∃cs,xs[j]? =some (.ptr cs)
 |[],[],_,_,j,l,h=>by simp at h
 |s::r,x::xs,d,h,j,l,hj=>by
  rw[jg]at h;split at h
  .next a b h1 h2=>
   cases j with
   |zero=>
    simp at hj;subst hj;cases x with
    |ptr cs=>exact⟨cs,rfl⟩
    |_=>simp[iy.read]at h1
   |succ j=>obtain⟨cs,hc⟩:=WV h2 j l (by simpa using hj);exact⟨cs,by simpa using hc⟩
  .cases h
 |[],_::_,_,h,_,_,_=>by simp[jg]at h
 |_::_,[],_,h,_,_,_=>by simp[jg]at h
theorem afS{sh:List iy}{b:kL sh}(hb:FO st 0 sh=some b){q:Nat}{y:aC}(h:mJ (jB sh b) q=some y):
 q%64=48/\∃l cs cs0,sh[q / 64]? =some (.ptr l)/\y=.var cs/\st.ah q=some (.var cs0)/\cs0.flatMap Cell.refs=[]/\cs.flatMap Cell.refs=[]/\∀(X:V) vs,aj X cs0 vs->aj X cs vs:=by
 unfold mJ at h;split at h
 .next e r l he=>rcases Hg sh 0 b hb _ _ he with h'|⟨_,_,_,_,h',_⟩<;>cases h'
 .next cs he=>
  split at h
  .next hm=>
   have hm':=ani hm;cases h;rcases Hg sh 0 b hb _ _ he with h'|⟨l,cs',cs0,h1,h2,h3,h4⟩
   .cases h'
   .cases h2;refine⟨hm',l,_,cs0,h1,rfl,?_,h4⟩;rw[show q=(0+q / 64)*64+48 by omega];exact h3
  .cases h
 .cases h
def iy.qA:(s:iy)->s.den->Prop
 |.p s,x=>s.qA x
 |.own _ r,(l:List r.den)=>∀x∈l,r.qA x
 |.ptr l,x=>TA l x
def Fb:(l:List iy)->jq l->Prop
 |[],_=>True
 |s::r,x=>s.qA x.1/\Fb r x.2
theorem iq.TB{X:V}(s:iq)(x:Arg)(d:s.den)(v:Value)(h:s.read x=some d)(hr:pY X x v):s.qA d:=
 (zB (X:=X) [s] (d,()) [v] ⟨iq.weak s x d v h hr,trivial⟩).1
theorem QZ{X:V}{args:List Arg}(ho:∀o x,bY args o=some x->bg X o x):∀(sh:List iy)(xs:List Arg)(d:jq sh)(vs:List Value)(i:Nat),(∀j a,xs[j]? =some a->args[i+j]? =some a)->
 jg sh xs=some d->uQ X i xs vs->Fb sh d
 |[],[],_,_,_,_,_,_=>trivial
 |s::r,x::xs,d,v::vs,i,hj,h,⟨hv,hvs⟩=>by
  rw[jg]at h;split at h
  .next a b h1 h2=>
   cases h;refine⟨?_,QZ ho r xs b vs (i+1) (λj c hc=>by have:=hj (j+1) c (by simpa using hc);rwa [show i+(j+1)=i+1+j by omega]at this) h2 hvs⟩;have hx:args[i]? =some x:=hj 0 x rfl;cases s with
   |p s=>
    have h1':s.read x=some a:=by simpa[iy.read]using h1
    refine iq.TB (X:=X) s x a v h1' ?_;cases x with
    |own _ _ _|ptr _=>cases s<;>simp[iq.read]at h1'
    |_=>exact hv
   |own e r'=>
    cases x with
    |own f s' l=>
     have h1':(match Nat.beq e f with|true=>if h:s'.beq r'=true then some (rY h l)else none|false=>none)=some a:=h1;split at h1'
     .split at h1'
      .next hb hs=>
       cases h1';have hsr:=ax.eq_of_beq s' r' hs;subst hsr;have oJ:bY args (i*64+49)=some (.arr f s' l false):=by unfold bY;rw[show(i*64+49) / 64=i by omega,hx];dsimp only;rw[show(i*64+49)%64=49 by omega]
       obtain⟨us,_,_,_,hrow⟩:=ho _ _ oJ;intro y hy;have hy':y∈l:=hy;obtain⟨j,hj1,hj2⟩:=aoB.1 hy';exact aU.qA s' _ _ (hrow j y (by rw[anu hj1,hj2]))
      .cases h1'
     .cases h1'
    |_=>simp[iy.read]at h1
   |ptr l=>
    cases x with
    |ptr cs=>
     have h1':jf l cs=some a:=h1;have oJ:bY args (i*64+48)=some (.var cs):=by unfold bY;rw[show(i*64+48) / 64=i by omega,hx];dsimp only;rw[show(i*64+48)%64=48 by omega]
     obtain⟨_,arr,_,_,_,hc⟩:=ho _ _ oJ;exact FM l a _ (Bg _ _ _ _ h1' hc)
    |_=>simp[iy.read]at h1
  .cases h
 |[],_::_,_,_,_,_,h,_=>by simp[jg]at h
 |_::_,[],_,_,_,_,h,_=>by simp[jg]at h
theorem Gv:∀(l:List iy)(d:jq l),(qU l d).length=l.length
 |[],_=>rfl
 |_::r,d=>by simp[qU,Gv r d.2]
theorem Out.agS(rs:List (Bool×List dP))(k:Nat):((⟨rs,none⟩:Out).take k).2=(gB k rs).2:=by
 unfold Out.take;dsimp only;split
 .next h=>rw[h]
 .next h=>rw[h]
theorem Out.agT(rs:List (Bool×List dP))(k:Nat):((⟨rs,none⟩:Out).take k).1=(match (gB k rs).1 with|[v]=>AV.sv v|vs=>.lg vs):=by
 unfold Out.take;dsimp only;split
 .next h=>rw[h]
 .next vs δ hne h=>
  rw[h];dsimp only;rcases vs with _|⟨v,_|⟨v2,r⟩⟩
  .rfl
  .exact(hne v rfl).elim
  .rfl
theorem akY{args:List Arg}{S:Nat->Prop}{sh:List iy}{bK:List oM}{x:jq sh}(hx:jg sh args=some x){d:kY bK}{b:kL sh}{k:Nat}{vs:List SV}{us:List Value}
 (hR:Rel w (sJ (bY args) γ) (QY args γ S) γ' st a w') (hrs:dn (ak w (QY args γ S) γ' st w') vs us) (hnd:wH (yI bK vs)=true) (hrd:zC st bK vs=some d) (hbk:FO st 0 sh=some b)
 (hap:∀o x,look ((⟨ig bK d,none⟩:Out).take k).2 o=some x->mJ (jB sh b) o=none):
 ∃γ2,aT ⟨w',w.heap.size,oQ S args (jB sh b) γ,γ2,look ((⟨ig bK d,none⟩:Out).take k).2⟩ ((⟨ig bK d,none⟩:Out).take k).1 (if h:us.toArray.size=1 then us.toArray[0]else .tuple us.toArray)/\
  (∀o x,look ((⟨ig bK d,none⟩:Out).take k).2 o=some x->bg ⟨w',w.heap.size,oQ S args (jB sh b) γ,γ2,look ((⟨ig bK d,none⟩:Out).take k).2⟩ o x/\
    ∀b',blk (γ2 o)=some b'->b'<w'.heap.size/\(w.heap.size<=b'\/sJ (bY args) γ b')/\∀q y,mJ (jB sh b) q=some y->blk (γ q)≠some b')/\
  (∀o x q y b',look ((⟨ig bK d,none⟩:Out).take k).2 o=some x->look ((⟨ig bK d,none⟩:Out).take k).2 q=some y->o≠q->blk (γ2 o)=some b'->blk (γ2 q)≠some b')/\
  (∀o x,mJ (jB sh b) o=some x->γ2 o=γ o/\bg ⟨w',w.heap.size,oQ S args (jB sh b) γ,γ2,look ((⟨ig bK d,none⟩:Out).take k).2⟩ o x):=by
 rw[Out.agS]at hap ⊢;rw[Out.agT]
 skip
 let Y:V:=ak w (QY args γ S) γ' st w'
 let fv:List Value:=us.flatMap λv=>v.cells.toList
 let aG:=jB sh b
 let γ2:Nat->Value:=λp=>match mJ aG p with|some _=>γ p|none=>fv.getD (p-k) undef
 let Z:V:=⟨w',w.heap.size,oQ S args aG γ,γ2,look (gB k (ig bK d)).2⟩
 have hpos:∀o e r l g,st.ah o=some (.arr e r l g)->0<r.len:=λo e r l g ho=>by obtain⟨_,_,h,_⟩:=hR.ah o _ ho;exact h
 have hF:Bl Y (Hf (ig bK d)) fv (yI bK vs):=WU (st:=st) rfl hpos bK vs d us hrd hrs;have hbq:∀q y,mJ aG q=some y->γ' q=γ q/\∃cs cs0,y=.var cs/\st.ah q=some (.var cs0)/\cs0.flatMap Cell.refs=[]/\cs.flatMap Cell.refs=[]/\∀(X:V) vs,aj X cs0 vs->aj X cs vs:=by
  intro q y hq;obtain⟨hm,l,cs,cs0,h1,h2,h3,h4,h5,h6⟩:=afS hbk hq;refine⟨?_,cs,cs0,h2,h3,h4,h5,h6⟩;obtain⟨ci,hci⟩:=WV hx _ l h1;have ho:bY args q=some (.var ci):=by unfold bY;rw[hci];dsimp only;rw[hm]
  have hN:(QY args γ S).N q=some (γ q):=by show YN args γ q=_;unfold YN;rw[ho]
  exact hR.pin q _ _ hN h3
 have hG:∀p X,look (gB k (ig bK d)).2 p=some X->∃i e r l fr,p=k+i/\(Hf (ig bK d))[i]? =some (.own e r l fr)/\X=.arr e r l fr/\0<r.len/\
  ((∃o g,(yI bK vs)[i]? =some (some o)/\st.ah o=some (.arr e r l g)/\IG fr g=true/\γ2 p=γ' o/\(γ2 p).oneCell'=true)\/(l=[]/\γ2 p=.slice none 0 0)):=by
  intro p X hp;obtain⟨i,e,r,l,fr,h1,h2,h3⟩:=(yw _ k p X).1 hp;obtain⟨v,n,g1,g2,hr,hv⟩:=Bl.get _ _ _ i _ hF h2;have hγ:γ2 p=v:=by show(match mJ aG p with|some _=>γ p|none=>fv.getD (p-k) undef)=v;rw[hap p X hp];dsimp only;rw[h1,show k+i-k=i by omega,anm,g1];rfl
  refine⟨i,e,r,l,fr,h1,h2,h3,hr,?_⟩;rcases hv with⟨o,g,hn,ho,hb,hv,h1c⟩|⟨hl,hv⟩
  .exact .inl ⟨o,g,by rw[g2,hn],ho,hb,hγ.trans hv,by rw[hγ];exact h1c⟩
  .exact .inr ⟨hl,hγ.trans hv⟩
 have NR:∀b',Y.foot b'->Z.foot b':=by
  intro b' hb';refine⟨hb'.1,λhlt=>⟨hb'.2.1 hlt,λq y hq=>?_⟩,λp X hp=>?_⟩
  .obtain⟨hγ,cs,cs0,_,h3,_⟩:=hbq q y hq;rw[← hγ];exact hb'.2.2 q _ h3
  .obtain⟨i,e,r,l,fr,_,_,_,_,hc⟩:=hG p X hp;show blk (γ2 p)≠some b';rcases hc with⟨o,g,_,ho,_,hγ,_⟩|⟨_,hγ⟩
   .rw[hγ];exact hb'.2.2 o _ ho
   .rw[hγ];intro h;cases h
 have afT:∀fr b',Y.bP fr b'->Z.bP fr b':=λfr b' h=>⟨NR b' h.1,h.2⟩;have hgo:Ep Z k (Hf (ig bK d)) fv:=by
  refine Ep.of _ _ _ (Bl.length _ _ _ hF) λi c v hc hv=>?_;obtain⟨v',n,g1,g2,g3⟩:=Bl.get _ _ _ i c hF hc;rw[hv]at g1;cases g1;cases c with
  |plain x=>
   exact(BV (Y:=Y) (Z:=Z) rfl afT [x] [v] (by simpa using g3.2) ⟨g3.1,trivial⟩).1
  |own e r l fr=>
   have hp:look (gB k (ig bK d)).2 (k+i)=some (.arr e r l fr):=(yw _ k _ _).2 ⟨i,e,r,l,fr,rfl,hc,rfl⟩;have hγ:γ2 (k+i)=v:=by show(match mJ aG (k+i)with|some _=>γ (k+i)|none=>fv.getD (k+i-k) undef)=v;rw[hap _ _ hp];dsimp only;rw[show k+i-k=i by omega,anm,hv];rfl
   refine⟨⟨e,r,l,fr,hp⟩,hγ.symm,?_⟩;rcases g3.2 with⟨_,_,_,_,_,_,h⟩|⟨_,h⟩
   .exact h
   .rw[h];rfl
 have hsv:dn Z (gB k (ig bK d)).1 us:=ZW (st:=st) (Y:=Y) rfl hpos bK vs d us k hrd hrs hgo;refine⟨γ2,?_,λp X hp=>?_,λp X q X' b' hp hq hne hb1 hb2=>?_,λq y hq=>?_⟩
 .have hl:=dn.length _ _ hsv
  match hm:(gB k (ig bK d)).1,us,hsv,hl with
  |[v],[u],hk,_=>exact hk.1
  |[],[],hk,_=>exact⟨_,by simp,hk⟩
  |v::v2::r,u::u2::us,hk,hl=>exact⟨_,by simp,hk⟩
  |[],_::_,hk,h4|_::_,[],hk,h4|[_],_::_::_,hk,h4|_::_::_,[_],hk,h4=>simp at h4
 .obtain⟨i,e,r,l,fr,_,_,rfl,hr,hc⟩:=hG p X hp;rcases hc with⟨o,g,_,ho,hb,hγ,_⟩|⟨rfl,hγ⟩
  .have hO:bg Y o (.arr e r l g):=hR.ah o _ ho;have hold:∀b',blk (γ' o)=some b'->fr=true->w.heap.size<=b':=by intro b' hb' hfr;subst hfr;have hg:g=true:=hb;subst hg;obtain⟨_,_,_,hn,_⟩:=hO;exact hn b' hb' rfl
   refine⟨bg.Tt (Y:=Y) (Z:=Z) hO hγ rfl (λb' hb'=>⟨NR b' hb'.1,λhfr=>hb'.2 ?_⟩) hold,λb' hb'=>?_⟩
   .subst hfr;exact hb
   .rw[hγ]at hb';obtain⟨h1,h2⟩:=hR.lt o _ b' ho hb';refine⟨h1,h2,λq y hq=>?_⟩;obtain⟨hγq,cs,cs0,_,h3,_⟩:=hbq q y hq;rw[← hγq];refine hR.sep o _ q _ b' ho h3 ?_ hb';intro e;subst e;rw[ho]at h3;cases h3
  .refine⟨⟨[],⟨by simp,.inl ⟨hγ,rfl⟩⟩,hr,(λb' hb'=>by have h0:blk (γ2 p)=some b':=hb';rw[hγ]at h0;cases h0),λi x hi=>by simp at hi⟩,λb' hb'=>by rw[hγ]at hb';cases hb'⟩
 .obtain⟨i,e,r,l,fr,hi,_,_,_,hc⟩:=hG p X hp;obtain⟨j,e',r',l',fr',hj,_,_,_,hc'⟩:=hG q X' hq;rcases hc with⟨o,g,hn,ho,_,hγ,_⟩|⟨_,hγ⟩
  .rcases hc' with⟨o',g',hn',ho',_,LD,_⟩|⟨_,LD⟩
   .rw[hγ]at hb1;rw[LD]at hb2;have:o≠o':=by intro e;subst e;have:=KH hnd _ _ _ hn hn';omega
    exact hR.sep o _ o' _ b' ho ho' this hb1 hb2
   .rw[LD]at hb2;cases hb2
  .rw[hγ]at hb1;cases hb1
 .obtain⟨hγ,cs,cs0,rfl,h3,h4,h5,h6⟩:=hbq q y hq;have lD:γ2 q=γ q:=by show(match mJ aG q with|some _=>γ q|none=>fv.getD (q-k) undef)=γ q;rw[hq]
  refine⟨lD,?_⟩;obtain⟨b',arr,t,k1,k2,k3⟩:=hR.ah q _ h3;refine⟨b',arr,t,?_,k2,BV (Y:=Y) (Z:=Z) rfl afT _ _ h5 (h6 _ _ k3)⟩;show γ2 q=_;rw[lD,← hγ];exact k1
theorem YO{G:jv}(hE:EnvB P G Θ Γ)(hm:P.follows .mixedOrders=true){f:FuncId}{fn:Func}{c:Code}(hf:P.funcs[f]? =some fn)(hb:fn.body=some c)(H:Hints)
 {sh:List iy} {bK:List oM} {F:jq sh->Prop×(kY bK×kL sh->Prop)} (hn:Nat.ble sh.length fn.ntmps=true) (hne:∀x,(F x).1->∃t,(F x).2 t)
 (hwalk:∀x,Fb sh x->(F x).1->DK Θ Γ H c (aa1 Θ fn.results.toList sh bK (F x).2) (Bj fn.ntmps (qU sh x))):jA P G f (pU sh bK F):=by
 intro args p ρ hcon hp;unfold pU at hcon;split at hcon
 case h_2=>cases hcon
 next x hx=>
 cases hcon;refine⟨hne x hp,λk S γ vs w hG hrep oJ hsep hap=>?_⟩;have hlen:=(He hx).1;rw[Gv]at hlen;have hn':args.length<=fn.ntmps:=by rw[← hlen];simpa[apn]using hn
 have hin:Fb sh x:=QZ (λo X ho=>(oJ o X ho).1) sh args x vs.toList 0 (λj a h=>by rwa [anJ]) hx hrep;have hR0:=WS (S:=S) fn.ntmps hn' hrep (λo X ho=>⟨(oJ o X ho).1,λb hb=>((oJ o X ho).2 b hb).1⟩) hsep;have hR1:=hR0.covers (Ph hx fn.ntmps);refine calls_of_wp hf hb (QX ⟨hE,hG,λb hb=>?_⟩ hm H c _ _ _ _ _ _ hR1 (hwalk x hin hp) ?_)
 .obtain⟨o,X,ho,hb⟩:=hb;exact((oJ o X ho).2 b hb).2
 intro e s γ' a' w' he hR;have hret:∃(us:List Value)(t:kY bK×kL sh),(fn.results.mapM (FK a'.tmps)).run P w'=.ok us.toArray w'/\(F x).2 t/\∃γ2,
  aT ⟨w',w.heap.size,oQ S args (jB sh t.2) γ,γ2,look ((⟨ig bK t.1,none⟩:Out).take k).2⟩ ((⟨ig bK t.1,none⟩:Out).take k).1 (if h:us.toArray.size=1 then us.toArray[0]else .tuple us.toArray)/\
  (∀o x',look ((⟨ig bK t.1,none⟩:Out).take k).2 o=some x'->bg ⟨w',w.heap.size,oQ S args (jB sh t.2) γ,γ2,look ((⟨ig bK t.1,none⟩:Out).take k).2⟩ o x'/\
    ∀b,blk (γ2 o)=some b->b<w'.heap.size/\(w.heap.size<=b\/sJ (bY args) γ b)/\∀q y,mJ (jB sh t.2) q=some y->blk (γ q)≠some b)/\
  (∀o x' q y b,look ((⟨ig bK t.1,none⟩:Out).take k).2 o=some x'->look ((⟨ig bK t.1,none⟩:Out).take k).2 q=some y->o≠q->blk (γ2 o)=some b->blk (γ2 q)≠some b)/\
  (∀o x',mJ (jB sh t.2) o=some x'->γ2 o=γ o/\bg ⟨w',w.heap.size,oQ S args (jB sh t.2) γ,γ2,look ((⟨ig bK t.1,none⟩:Out).take k).2⟩ o x'):=by
  have he':(e=.normal\/e=.ret)/\aa1 Θ fn.results.toList sh bK (F x).2 .ret s:=by
   cases e with
   |normal=>exact⟨.inl rfl,he⟩
   |ret=>exact⟨.inr rfl,he⟩
   |_=>exact he.elim
  have he2:=he'.2;simp only[aa1]at he2;split at he2
  .next svs amW=>
   split at he2
   .next vs' hvs'=>
    split at he2
    .next d b hnd hd hb'=>have ZU:=hR.freeze (WR s (yI bK svs));obtain⟨us,hus,hrs⟩:=IJ hE.types ZU _ _ hvs';refine⟨us,(d,b),?_,he2,akY hx ZU hrs hnd hd hb' (hap (d,b) he2)⟩;rw[apw,Sem.run_map,hus];rfl
    .exact he2.elim
   .exact he2.elim
  .exact he2.elim
 obtain⟨us,t,hus,ht,γ2,h1,h2,h3,h4⟩:=hret;have hfin:bodyPost P fn (λe w'=>∃t,(F x).2 t/\NM S args γ w k ⟨ig bK t.1,none⟩ (jB sh t.2) e w') .ret a' w':=by refine⟨hR.defers,if h:us.toArray.size=1 then us.toArray[0]else .tuple us.toArray,?_,t,ht,_,γ2,rfl,hR.os,hR.tape,hR.output,hR.grow,hR.kept,h1,h2,h3,h4⟩;rw[NZ,anD,hus];simp only[an8,aom]
 cases e with
 |normal=>exact hfin
 |ret=>exact hfin
 |_=>exact he.elim
def aa2(rv:List ResultVar)(l:List fF)(K:kN l->Prop)(e:Exit)(st:St):Prop:=
 match e with
 |.normal|.ret=>match rv with
  |[.tmp t]=>match st.tmps t with
   |.aX o off=>match Nat.beq off 0,(st.freeze (JX st)).ah o with
    |true,some (.var cs)=>match cs.flatMap Cell.refs,jf l cs with
     |[],some d=>K d
     |_,_=>False
    |_,_=>False
   |_=>False
  |_=>False
 |_=>False
def loses(sh:List iy):List Eff:=sh.map λ_=>.lose
def agU(sh:List iy)(l:List fF)(F:jq sh->Prop×(kN l->Prop)):Dn:=λargs=>
 match jg sh args with
 |some x=>some ((F x).1,⟨kN l,(F x).2,λt=>⟨[],some (fQ l t)⟩,λ_=>loses sh⟩)
 |none=>none
theorem N7(sh:List iy)(q:Nat):mJ (loses sh) q=none:=by unfold mJ loses;rw[aox];cases sh[q / 64]? <;>rfl
theorem LV:∀(l:List fF)(cs:List Cell)(d:kN l),jf l cs=some d->cs.flatMap Cell.refs=[]->(fQ l d).flatMap Cell.refs=[]
 |[],[],_,_,_=>rfl
 |c::l,x::xs,d,h,hn=>by
  rw[jf]at h;rw[aop,an6]at hn;split at h
  .next p q hp hq=>
   cases h;show((c.cell p)::fQ l q).flatMap Cell.refs=[];rw[aop,an6];refine⟨?_,LV l xs q hq hn.2⟩;cases c with
   |ref o=>
    cases x<;>simp[fF.read,Cell.refs]at hp hn
   |_=>rfl
  .cases h
 |[],_::_,_,h,_=>by simp[jf]at h
 |_::_,[],_,h,_=>by simp[jf]at h
theorem ah8{G:jv}(hE:EnvB P G Θ Γ)(hm:P.follows .mixedOrders=true){f:FuncId}{fn:Func}{c:Code}(hf:P.funcs[f]? =some fn)(hb:fn.body=some c)(H:Hints)
 {sh:List iy} {l:List fF} {F:jq sh->Prop×(kN l->Prop)} (hn:Nat.ble sh.length fn.ntmps=true) (hne:∀x,(F x).1->∃t,(F x).2 t)
 (hwalk:∀x,Fb sh x->(F x).1->DK Θ Γ H c (aa2 fn.results.toList l (F x).2) (Bj fn.ntmps (qU sh x))):jA P G f (agU sh l F):=by
 intro args p ρ hcon hp;unfold agU at hcon;split at hcon
 case h_2=>cases hcon
 next x hx=>
 cases hcon;refine⟨hne x hp,λk S γ vs w hG hrep oJ hsep hap=>?_⟩;have hlen:=(He hx).1;rw[Gv]at hlen;have hn':args.length<=fn.ntmps:=by rw[← hlen];simpa[apn]using hn
 have hin:Fb sh x:=QZ (λo X ho=>(oJ o X ho).1) sh args x vs.toList 0 (λj a h=>by rwa [anJ]) hx hrep;have hR0:=WS (S:=S) fn.ntmps hn' hrep (λo X ho=>⟨(oJ o X ho).1,λb hb=>((oJ o X ho).2 b hb).1⟩) hsep;have hR1:=hR0.covers (Ph hx fn.ntmps);refine calls_of_wp hf hb (QX ⟨hE,hG,λb hb=>?_⟩ hm H c _ _ _ _ _ _ hR1 (hwalk x hin hp) ?_)
 .obtain⟨o,X,ho,hb⟩:=hb;exact((oJ o X ho).2 b hb).2
 intro e s γ' a' w' he hR;have he':aa2 fn.results.toList l (F x).2 .ret s:=by
  cases e with
  |normal=>exact he
  |ret=>exact he
  |_=>exact he.elim
 have hfin:bodyPost P fn (λe w'=>∃t,(F x).2 t/\NM S args γ w k ⟨[],some (fQ l t)⟩ (loses sh) e w') .ret a' w':=by
  simp only[aa2]at he';split at he'
  case h_2=>exact he'.elim
  next t hrv=>
  split at he'
  case h_2=>exact he'.elim
  next o off WG=>
  split at he'
  case h_2=>exact he'.elim
  next cs hoff hcs=>
  split at he'
  case h_2=>exact he'.elim
  next d hnr hd=>
  have hoff:=ani hoff;subst hoff;have ZU:=hR.freeze (JX s);have hv:=hR.tmps t;rw[WG]at hv;obtain⟨b,cs0,_,hγ,hval⟩:=hv;obtain⟨b',arr,ty,g1,g2,g3⟩:=ZU.ah o _ hcs;have g1:γ' o=.pointer (some ⟨b',0,none⟩):=g1;have hγ:γ' o=.pointer (some ⟨b,0,none⟩):=hγ;rw[hγ]at g1;cases g1;have hblk:blk (γ' o)=some b:=by rw[hγ];rfl
  have hlt:=ZU.lt o _ b hcs hblk
  let γ2:Nat->Value:=λ_=>γ' o
  let Z:V:=⟨w',w.heap.size,oQ S args (loses sh) γ,γ2,look (Out.take k ⟨[],some (fQ l d)⟩).2⟩
  have hlook:∀q y,look (Out.take k ⟨[],some (fQ l d)⟩).2 q=some y->q=k-1/\y=.var (fQ l d):=by
   intro q y hq;have hmem:=vG _ q y hq;have:(q,y)=(k-1,.var (fQ l d)):=by simpa[Out.take]using hmem
   exact⟨congrArg Prod.fst this,congrArg Prod.snd this⟩
  have NR:∀fr b',(ak w (QY args γ S) γ' (s.freeze (JX s)) w').bP fr b'->Z.bP fr b':=by intro fr b' hb';refine⟨⟨hb'.1.1,λhlt'=>⟨hb'.1.2.1 hlt',λq y hq=>by rw[N7]at hq;cases hq⟩,λq y hq=>?_⟩,hb'.2⟩;exact hb'.1.2.2 o _ hcs
  have hcells:aj Z (fQ l d) arr.toList:=
   BV (Y:=ak w (QY args γ S) γ' (s.freeze (JX s)) w') (Z:=Z) rfl NR _ _ (LV l cs d hd hnr) (Bg l cs d _ hd g3)
  have hself:look (Out.take k ⟨[],some (fQ l d)⟩).2 (k-1)=some (.var (fQ l d)):=by simp[Out.take,look]
  refine⟨hR.defers,a'.tmps.getD t undef,?_,d,he',_,γ2,rfl,hR.os,hR.tape,hR.output,hR.grow,hR.kept,?_,λq y hq=>?_,λq y q' y' b' hq hq' hne'=>?_,λq y hq=>by rw[N7]at hq;cases hq⟩
  .have:fn.results=#[.tmp t]:=by apply aoO;simpa using hrv
   have hmap:(Array.mapM (FK a'.tmps) #[ResultVar.tmp t]).run P w'=.ok #[a'.tmps.getD t undef] w':=by rw[apw,Sem.run_map];simp only[aqb,List.mapM_nil,FK];rfl
   rw[NZ,this,anD,hmap];rfl
  .exact⟨b,fQ l d,hself,hγ,hval⟩
  .obtain⟨rfl,rfl⟩:=hlook q y hq;refine⟨⟨b,arr,ty,hγ,g2,hcells⟩,λb' hb'=>?_⟩;have hb':blk (γ' o)=some b':=hb';rw[hblk]at hb';cases hb';exact⟨hlt.1,hlt.2,λq y hq=>by rw[N7]at hq;cases hq⟩
  .obtain⟨rfl,_⟩:=hlook q y hq;obtain⟨rfl,_⟩:=hlook q' y' hq';exact(hne' rfl).elim
 cases e with
 |normal=>exact hfin
 |ret=>exact hfin
 |_=>exact he.elim
end Go.Fw
namespace Go.Fw
open Go
def CT.isZero:CT->Value->Bool
 |.int k,.int l n=>decide (k=l)&&decide (n=0)
 |.bool,.bool b=>!b
 |.str,.string s=>s.data.toList.isEmpty
 |.sl _ _,.slice none 0 0=>true
 |_,_=>false
def ax.LW:ax->List Value->Bool
 |.nil,[]=>true
 |.cons c r,v::vs=>c.isZero v&&r.LW vs
 |_,_=>false
theorem CT.afU:∀(c:CT)(v:Value),c.isZero v=true->v=c.YE:=by
 intro c v h;unfold CT.isZero at h;split at h
 .simp at h;rw[h.1,h.2];rfl
 .simp at h;subst h;rfl
 .next s=>obtain⟨⟨l⟩⟩:=s;simp at h;subst h;rfl
 .rfl
 .cases h
theorem ax.WW:∀(r:ax)(vs:List Value),r.LW vs=true->vs=r.jJ
 |.nil,[],_=>rfl
 |.cons c r,v::vs,h=>by
  rw[LW,ane]at h;rw[ax.jJ,CT.afU c v h.1,ax.WW r vs h.2]
 |.nil,_::_,h|.cons _ _,[],h=>by simp[LW]at h
def abQ:TypeDesc->TypeDesc->Bool
 |.int k,.int l=>decide (k=l)
 |.bool,.bool=>true
 |.string,.string=>true
 |.slice e,.slice f=>Nat.beq e f
 |_,_=>false
theorem afV:∀(c d:TypeDesc),abQ c d=true->c=d:=by
 intro c d h;unfold abQ at h;split at h
 .rw[aoe h]
 .rfl
 .rfl
 .rw[ani h]
 .cases h
def IK(P:Program):List (Nat×TypeId)->List Field->Bool
 |[],[]=>true
 |(o,t)::r,f::fs=>Nat.beq o f.offset&&Nat.beq t f.type&&(P.info? f.type).isSome&&IK P r fs
 |_,_=>false
theorem UK{P:Program}:∀(l:List (Nat×TypeId))(fs:List Field),IK P l fs=true->l=fs.map (λf=>(f.offset,f.type))/\∀f∈fs,(P.info? f.type).isSome=true
 |[],[],_=>⟨rfl,by simp⟩
 |(o,t)::r,f::fs,h=>by
  rw[IK,ane,ane,ane]at h;obtain⟨⟨⟨h1,h2⟩,h3⟩,h4⟩:=h;obtain⟨e,hall⟩:=UK r fs h4;refine⟨by rw[anH,← e,ani h1,ani h2],λg hg=>?_⟩;rcases anA.1 hg with rfl|hg
  .exact h3
  .exact hall g hg
 |[],_::_,h|_::_,[],h=>by simp[IK]at h
def afW(P:Program)(t:TypeId)(ti:TI):Bool:=
 match ti.kind,P.underlying t with
 |.scalar,some d=>match ti.cells.desc with|some c=>abQ c d|none=>false
 |.str,some .string=>ti.cells.beq (.cons .str .nil)
 |.slice e,some (.slice f)=>Nat.beq e f&&(match ti.cells with|.cons (.sl g _) .nil=>Nat.beq g e|_=>false)
 |.struct fs,some (.struct wI)=>IK P fs wI.toList
 |_,_=>false
def ad2(ti:TI)(z:Value):Bool:=match ti.kind with
 |.struct _=>true
 |_=>z.oneCell'
def YP(P:Program)(t:TypeId)(ti:TI):Bool:=
 match P.info? t with
 |some i=>match i.zero with
  |some z=>Nat.beq i.size ti.cells.len&&Nat.beq i.bytes ti.bytes&&ti.cells.LW z.cells.toList&&ad2 ti z&&afW P t ti&&Nat.ble ti.bytes 4096&&(!ti.cmp||aeE P t ti.cells)
  |none=>false
 |none=>false
theorem kG.agV{P:Program}{t:TypeId}{ti:TI}(h:YP P t ti=true):kG P t ti:=by
 unfold YP at h;split at h
 .next i hi=>
  split at h
  .next z hz=>
   simp only[ane]at h;obtain⟨⟨⟨⟨⟨⟨h1,h2⟩,h3⟩,h4⟩,h5⟩,h6⟩,h7⟩:=h;refine⟨⟨i,z,hi,ani h1,ani h2,hz,ax.WW _ _ h3,λhagg=>?_⟩,?_,by simpa[apn]using h6,λe w s u X xs ys vs us b hf hx hy he=>ah2 (by rw[e]at h7;simpa using h7) w s u X xs ys vs us b hf hx hy he⟩
   .unfold ad2 at h4;unfold TI.agg at hagg;split at h4
    .next hk=>rw[hk]at hagg;cases hagg
    .exact Dw z h4
   .unfold afW at h5;split at h5
    .next d hk hu=>
     rw[hk];split at h5
     .next c hc=>exact⟨d,by rw[hc,afV c d h5],hu⟩
     .cases h5
    .next hk hu=>rw[hk];exact⟨hu,ax.eq_of_beq _ _ h5⟩
    .next e f hk hu=>
     rw[hk];rw[ane]at h5;have hef:=ani h5.1;subst hef;refine⟨hu,?_⟩;have h52:=h5.2;split at h52
     .next g r hg=>exact⟨r,by rw[hg,ani h52]⟩
     .cases h52
    .next fs wI hk hu=>rw[hk];obtain⟨e,hall⟩:=UK _ _ h5;exact⟨wI,hu,e,hall⟩
    .cases h5
  .cases h
 .cases h
def LX(P:Program):List (Nat×TI)->Bool
 |[]=>true
 |(t,ti)::r=>YP P t ti&&LX P r
theorem abR{P:Program}:∀{l:List (Nat×TI)},LX P l=true->∀t ti,WN l t=some ti->kG P t ti
 |[],_,t,ti,h=>by cases h
 |(i,x)::r,hc,t,ti,h=>by
  rw[LX,ane]at hc;rw[WN]at h;cases hb:Nat.beq t i with
  |true=>rw[hb]at h;cases h;rw[ani hb];exact .agV hc.1
  |false=>rw[hb]at h;exact abR hc.2 t ti h
def TD(fn:Func):Bool:=fn.body.isSome&&!(fn.name== "runtime.NumGoroutine")
theorem iJ{P:Program}{f:FuncId}{fn:Func}(hf:P.funcs[f]? =some fn)(hc:TD fn=true):iI P f:=by
 intro args w;unfold TD at hc;rw[ane]at hc;have h1:(fn.name== "runtime.NumGoroutine")=false:=by simpa using hc.2
 have h2:fn.body.isNone=false:=by cases hb:fn.body with|none=>rw[hb]at hc;simp at hc|some _=>rfl
 unfold callFunc;simp only[anD,run_program,an8,hf,h1,h2,aoP,apm,aom]
def afX(P:Program)(G:jv)(f:FuncId):Gt->Prop
 |.pure c=>jM P G f c/\iI P f
 |.eff _ c=>jA P G f c/\iI P f
theorem afY{P:Program}{G:jv}{Θ:iH}(hT:∀t ti,Θ t=some ti->kG P t ti):∀{l:List (Nat×Gt)},(∀x∈l,afX P G x.1 x.2)->EnvB P G Θ (EY l)
 |[],_=>⟨hT,(λf con h=>by cases h),(λf ms con h=>by cases h)⟩
 |(i,c)::r,h=>by
  have ih:=afY (G:=G) hT λx hx=>h x (ant _ hx);refine⟨hT,λf con hf=>?_,λf ms con hf=>?_⟩
  .rw[EY]at hf;cases hb:Nat.beq f i with
   |true=>rw[hb]at hf;cases hf;rw[ani hb];exact h (i,.pure con) anp
   |false=>rw[hb]at hf;exact ih.cons f con hf
  .rw[EY]at hf;cases hb:Nat.beq f i with
   |true=>rw[hb]at hf;cases hf;rw[ani hb];exact h (i,.eff ms con) anp
   |false=>rw[hb]at hf;exact ih.aaZ f ms con hf
end Go.Fw
namespace Go.Fw
open Go
structure PA where
 n:Nat
 sh:List iq
 bK:List oq
 F:ja sh->Prop×nG bK
structure XA where
 n:Nat
 sh:List iy
 bK:List oM
 F:jq sh->Prop×(kY bK×kL sh->Prop)
structure QA where
 n:Nat
 sh:List iy
 bK:List fF
 F:jq sh->Prop×(kN bK->Prop)
def PA.e(q:PA):Nat×Gt:=(q.n,.pure (lT q.sh q.bK q.F))
def XA.e(q:XA):Nat×Gt:=(q.n,.eff (FC q.sh) (pU q.sh q.bK q.F))
def QA.e(q:QA):Nat×Gt:=(q.n,.eff (FC q.sh) (agU q.sh q.bK q.F))
def WX(P:Program)(G:jv)(x:Nat×Gt):Prop:=afX P G x.1 x.2
def abS(P:Program)(G:jv):List (Nat×Gt)->Prop
 |[]=>True
 |x::l=>WX P G x/\abS P G l
theorem agW{P:Program}{G:jv}{l':List (Nat×TI)}(hT:LX P l'=true){l:List (Nat×Gt)}(h:abS P G l):EnvB P G (WN l') (EY l):=
 afY (abR hT) (by
  induction l with
  |nil=>exactλx hx=>by cases hx
  |cons y l ih=>exact List.forall_mem_cons.2 ⟨h.1,ih h.2⟩)
def YQ:(l:List fF)->(kN l->Prop)->Prop
 |[],p=>p ()
 |c::r,p=>∀x:c.den,YQ r λy=>p (x,y)
theorem LY:∀{l:List fF}{p:kN l->Prop},YQ l p->∀x,p x
 |[],_,h,()=>h
 |_::_,_,h,(x,y)=>LY (h x) y
def aeY:(l:List (List fF))->(yH l->Prop)->Prop
 |[],p=>p ()
 |c::r,p=>YQ c λx=>aeY r λy=>p (x,y)
theorem abT:∀{l:List (List fF)}{p:yH l->Prop},aeY l p->∀x,p x
 |[],_,h,()=>h
 |_::_,_,h,(x,y)=>abT (LY h x) y
def agX:(s:iq)->(s.den->Prop)->Prop
 |.v (.one c),p=>∀x:c.den,p x
 |.v (.agg l),p=>YQ l p
 |.kp l,p=>YQ l p
 |.fn _ l,p=>aeY l p
theorem ad3:∀{s:iq}{p:s.den->Prop},agX s p->∀x,p x
 |.v (.one _),_,h,x=>h x
 |.v (.agg _),_,h,x=>LY h x
 |.kp _,_,h,x=>LY h x
 |.fn _ _,_,h,x=>abT h x
def aeZ:(l:List iq)->(ja l->Prop)->Prop
 |[],p=>p ()
 |s::r,p=>agX s λx=>aeZ r λy=>p (x,y)
theorem abU:∀{l:List iq}{p:ja l->Prop},aeZ l p->∀x,p x
 |[],_,h,()=>h
 |_::_,_,h,(x,y)=>abU (ad3 h x) y
def aiI:(s:iy)->(s.den->Prop)->Prop
 |.p s,p=>agX s p
 |.own _ r,p=>∀x:List r.den,p x
 |.ptr l,p=>YQ l p
theorem ah9:∀{s:iy}{p:s.den->Prop},aiI s p->∀x,p x
 |.p _,_,h,x=>ad3 h x
 |.own _ _,_,h,x=>h x
 |.ptr _,_,h,x=>LY h x
def aa3:(l:List iy)->(jq l->Prop)->Prop
 |[],p=>p ()
 |s::r,p=>aiI s λx=>aa3 r λy=>p (x,y)
theorem VG:∀{l:List iy}{p:jq l->Prop},aa3 l p->∀x,p x
 |[],_,h,()=>h
 |_::_,_,h,(x,y)=>VG (ah9 h x) y
abbrev LP{α:Type}(x:α)(f:(α->Prop)->(α->Nat)->α->Prop):Prop:=∃(I:α->Prop),∃(μ:α->Nat),I x/\∀(y:α),I y->f I μ y
abbrev NX{σ α:Type}(s:σ)(I:α->Prop)(μ:α->Nat)(x y:α):Prop:=s=s/\I x/\μ x<μ y
def H0:Hints:=hints [] [] [] [] []
def yR(P:Program)(n:Nat):Func:=match P.funcs[n]? with|some f=>f|none=>default
def FP(P:Program)(n k:Nat):Bool:=P.funcs[n]?.isSome&&TD (yR P n)&&Nat.ble k (yR P n).ntmps
theorem Q5{P:Program}{n k:Nat}(h:FP P n k=true):P.funcs[n]? =some (yR P n)/\(yR P n).body=some (codeOf (yR P n))/\iI P n/\Nat.ble k (yR P n).ntmps=true:=by
 simp only[FP,ane]at h;obtain⟨⟨h1,h2⟩,h3⟩:=h;have e:P.funcs[n]? =some (yR P n):=by
  unfold yR;cases hf:P.funcs[n]? with
  |some f=>rfl
  |none=>rw[hf]at h1;cases h1
 refine⟨e,?_,iJ e h2,h3⟩;have h4:=h2;unfold TD at h4;rw[ane]at h4;unfold codeOf;cases hb:(yR P n).body with
 |some c=>rfl
 |none=>rw[hb]at h4;cases h4.1
def PA.goal(q:PA)(g:(nG q.bK->Prop)->Prop)(x:ja q.sh):Prop:=G9 q.sh x->(q.F x).1->g λr=>r=(q.F x).2
def XA.goal(q:XA)(g:(kY q.bK×kL q.sh->Prop)->Prop)(x:jq q.sh):Prop:=Fb q.sh x->(q.F x).1->g (q.F x).2
def QA.goal(q:QA)(g:(kN q.bK->Prop)->Prop)(x:jq q.sh):Prop:=Fb q.sh x->(q.F x).1->g (q.F x).2
variable {P:Program} {Θ:iH} {Γ:jI} {G:jv}
theorem PA.ok{q:PA}(hm:P.follows .mixedOrders=true)(hE:EnvB P G Θ Γ)(H:Hints){p:Prop}
 (hp:(bif FP P q.n q.sh.length then aeZ q.sh λx=>q.goal (λK=>DK Θ Γ H (codeOf (yR P q.n)) (WO Θ (yR P q.n).results.toList q.bK K) (entry (yR P q.n).ntmps (sK q.sh x))) x else False)=p) (h:p):WX P G q.e:=by
 subst hp;cases hc:FP P q.n q.sh.length with
 |false=>rw[hc]at h;exact h.elim
 |true=>rw[hc]at h;obtain⟨h1,h2,h3,h4⟩:=Q5 hc;exact⟨YK hE hm h1 h2 H h4 λx hi hx=>abU h x hi hx,h3⟩
theorem XA.ok{q:XA}(hm:P.follows .mixedOrders=true)(hE:EnvB P G Θ Γ)(H:Hints)(hne:∀x,(q.F x).1->∃t,(q.F x).2 t){p:Prop}
 (hp:(bif FP P q.n q.sh.length then aa3 q.sh λx=>q.goal (λK=>DK Θ Γ H (codeOf (yR P q.n)) (aa1 Θ (yR P q.n).results.toList q.sh q.bK K) (Bj (yR P q.n).ntmps (qU q.sh x))) x else False)=p) (h:p):WX P G q.e:=by
 subst hp;cases hc:FP P q.n q.sh.length with
 |false=>rw[hc]at h;exact h.elim
 |true=>rw[hc]at h;obtain⟨h1,h2,h3,h4⟩:=Q5 hc;exact⟨YO hE hm h1 h2 H h4 hne λx hi hx=>VG h x hi hx,h3⟩
theorem QA.ok{q:QA}(hm:P.follows .mixedOrders=true)(hE:EnvB P G Θ Γ)(H:Hints)(hne:∀x,(q.F x).1->∃t,(q.F x).2 t){p:Prop}
 (hp:(bif FP P q.n q.sh.length then aa3 q.sh λx=>q.goal (λK=>DK Θ Γ H (codeOf (yR P q.n)) (aa2 (yR P q.n).results.toList q.bK K) (Bj (yR P q.n).ntmps (qU q.sh x))) x else False)=p) (h:p):WX P G q.e:=by
 subst hp;cases hc:FP P q.n q.sh.length with
 |false=>rw[hc]at h;exact h.elim
 |true=>rw[hc]at h;obtain⟨h1,h2,h3,h4⟩:=Q5 hc;exact⟨ah8 hE hm h1 h2 H h4 hne λx hi hx=>VG h x hi hx,h3⟩
end Go.Fw
namespace Go.Fw
open Go
variable {P:Program} {G:jv} {f:FuncId}
abbrev jb:List UInt8:=[]
theorem afZ{sh:List iq}{bK:List oq}{F:ja sh->Prop×nG bK}(Fr Fs:Nat->ja sh->Prop×nG bK)(h0:∀x,¬(Fr 0 x).1)(hs:∀n x,Fr (n+1) x=Fs n x)
 (hf:∀x,(F x).1->∃n,(Fr n x).1) (he:∀n x,(Fr n x).2=(F x).2) (step:∀n,jM P G f (lT sh bK (Fr n))->jM P G f (lT sh bK (Fs n))):jM P G f (lT sh bK F):=by
 have all:∀n,jM P G f (lT sh bK (Fr n)):=by
  intro n
  induction n with
  |zero=>
   intro args p out k S vs w hcon hp;unfold lT xG at hcon;split at hcon
   .next x _=>have e:(Fr 0 x).1=p:=congrArg Prod.fst (Option.some.inj hcon);exact absurd (e.symm▸hp) (h0 x)
   .cases hcon
  |succ n ih=>have:=step n ih;have e:Fr (n+1)=Fs n:=funext (hs n);rw[e];exact this
 intro args p out k S vs w hcon hp hG hrep;have Hl:=hcon;unfold lT xG at Hl;split at Hl
 .next x hx=>have e:=Option.some.inj Hl;have e1:(F x).1=p:=congrArg Prod.fst e;obtain⟨n,hn⟩:=hf x (e1.symm▸hp);refine all n args (Fr n x).1 out k S vs w ?_ hn hG hrep;unfold lT xG;rw[hx];show some ((Fr n x).1,_)=_;rw[he n x];exact congrArg (λz=>some ((Fr n x).1,z)) (congrArg Prod.snd e)
 .cases Hl
theorem ad4{sh:List iy}{bK:List oM}{F:jq sh->Prop×(kY bK×kL sh->Prop)}(Fr Fs:Nat->jq sh->Prop×(kY bK×kL sh->Prop))(h0:∀x,¬(Fr 0 x).1)(hs:∀n x,Fr (n+1) x=Fs n x)
 (hf:∀x,(F x).1->∃n,(Fr n x).1) (he:∀n x,(Fr n x).2=(F x).2) (step:∀n,jA P G f (pU sh bK (Fr n))->jA P G f (pU sh bK (Fs n))):jA P G f (pU sh bK F):=by
 have all:∀n,jA P G f (pU sh bK (Fr n)):=by
  intro n
  induction n with
  |zero=>
   intro args p ρ hcon hp;unfold pU at hcon;split at hcon
   .next x _=>have e:(Fr 0 x).1=p:=congrArg Prod.fst (Option.some.inj hcon);exact absurd (e.symm▸hp) (h0 x)
   .cases hcon
  |succ n ih=>have:=step n ih;have e:Fr (n+1)=Fs n:=funext (hs n);rw[e];exact this
 intro args p ρ hcon hp;have Hl:=hcon;unfold pU at Hl;split at Hl
 .next x hx=>have e:=Option.some.inj Hl;have e1:(F x).1=p:=congrArg Prod.fst e;obtain⟨n,hn⟩:=hf x (e1.symm▸hp);refine all n args (Fr n x).1 ρ ?_ hn;unfold pU;rw[hx];show some ((Fr n x).1,_)=_;rw[he n x];exact congrArg (λz=>some ((Fr n x).1,z)) (congrArg Prod.snd e)
 .cases Hl
end Go.Fw
namespace Go.Fw
open Go
variable {P:Program} {H:Type} {enc:TypeId×Value->H} {w:World}
def ax.app:ax->ax->ax
 |.nil,s=>s
 |.cons c r,s=>.cons c (r.app s)
def aa4:(r s:ax)->r.den->s.den->(r.app s).den
 |.nil,_,_,y=>y
 |.cons _ r,s,x,y=>(x.1,aa4 r s x.2 y)
theorem aU.app{h:Array Obj}{S:Nat->Prop}:∀(r s:ax)(x:r.den)(y:s.den)(vs us:List Value),aU h S r vs x->aU h S s us y->aU h S (r.app s) (vs++us) (aa4 r s x y)
 |.nil,s,x,y,vs,us,h1,h2=>by rw[aU]at h1;subst h1;exact h2
 |.cons c r,s,(x,x'),y,vs,us,h1,h2=>by rw[aU]at h1;obtain⟨v,vs',rfl,g1,g2⟩:=h1;show aU h S (.cons c (r.app s)) (v::(vs'++us)) (x,aa4 r s x' y);rw[aU];exact⟨v,vs'++us,rfl,g1,aU.app r s x' y vs' us g2 h2⟩
theorem add_add(a:Addr)(h:a.spot=none)(m j:Nat):(a.add m).add j=⟨a.block,a.off+m+j,none⟩:=by
 obtain⟨b,o,sp⟩:=a;simp only at h;subst h;unfold Addr.add;by_cases hm:m=0
 .by_cases hj:j=0
  .simp[hm,hj]
  .simp[hm,hj]
 .by_cases hj:j=0
  .simp[hm,hj]
  .simp[hm,hj]
def J3(f:TypeId->Option ax):List Field->Nat->Option ax
 |[],_=>some .nil
 |x::r,off=>match f x.type with
  |some s=>match J3 f r (off+s.len),Nat.beq x.offset off with
   |some u,true=>some (s.app u)
   |_,_=>none
  |none=>none
def rowOf(P:Program):Nat->TypeId->Option ax
 |0,_=>none
 |n+1,t=>match P.underlying t with
  |some (.int k)=>some (.cons (.int k) .nil)
  |some .bool=>some (.cons .bool .nil)
  |some .string=>some (.cons .str .nil)
  |some (.slice e)=>match rowOf P n e with
   |some s=>match Nat.beq s.len (P.cellsOf e)&&Nat.ble 1 s.len with
    |true=>some (.cons (.sl e s) .nil)
    |false=>none
   |none=>none
  |some (.struct fs)=>match J3 (rowOf P n) fs.toList 0 with
   |some r=>match Nat.beq r.len (P.cellsOf t)with
    |true=>match fs.toList.all λf=>match rowOf P n f.type with|some s=>Nat.beq s.len (P.cellsOf f.type)|none=>false with
     |true=>some r
     |false=>none
    |false=>none
   |none=>none
  |_=>none
theorem ad5{α:Type}{Q:Nat->α->Prop}:∀(n:Nat),(∀i,i<n->∃x,Q i x)->∃l:List α,l.length=n/\∀i x,l[i]? =some x->Q i x
 |0,_=>⟨[],rfl,λi x h=>by simp at h⟩
 |n+1,h=>by
  obtain⟨l,hl,hq⟩:=ad5 n λi hi=>h i (by omega);obtain⟨x,hx⟩:=h n (by omega);refine⟨l++[x],by simp[hl],λi y hy=>?_⟩;rcases anL i n with hi|hi
  .rw[aob (by omega)]at hy;exact hq i y hy
  .rw[anW (by omega)]at hy;have:i=n:=by
    rcases anL n i with h'|h'
    .rw[aoA (by simp;omega)]at hy;cases hy
    .omega
   subst this;simp[hl]at hy;rw[← hy];exact hx
theorem ad6:∀(r s:ax),(r.app s).len=r.len+s.len
 |.nil,s=>by simp[ax.app,ax.len]
 |.cons c r,s=>by simp only[ax.app,ax.len,ad6 r s];omega
theorem WY{f:TypeId->Option ax}{S:Nat->Prop}{h:Array Obj}(cs:List Value)
 (part:∀(t:TypeId)(r:ax)(off:Nat),f t=some r->(∃g:Field,g.type=t/\g.offset=off)->True):∀(fs:List Field)(off:Nat)(r:ax),J3 f fs off=some r->
 (∀g∈fs,∀s,f g.type=some s->∃x,aU h S s ((cs.drop g.offset).take s.len) x)->
 ∃x,aU h S r ((cs.drop off).take r.len) x
 |[],off,r,hr,_=>by
  cases hr;exact⟨(),by rw[aU];simp[ax.len]⟩
 |g::fs,off,r,hr,hall=>by
  rw[J3]at hr;split at hr
  .next s hs=>
   split at hr
   .next u hu hb=>
    cases hr;obtain⟨x,hx⟩:=hall g anp s hs;rw[ani hb]at hx;obtain⟨y,hy⟩:=WY cs part fs (off+s.len) u hu λg' hg'=>hall g' (ant _ hg');refine⟨aa4 s u x y,?_⟩;have:=aU.app s u x y _ _ hx hy;rw[ad6];have e:(cs.drop off).take (s.len+u.len)=(cs.drop off).take s.len++(cs.drop (off+s.len)).take u.len:=by rw[List.take_add,aoG]
    rw[e];exact this
   .cases hr
  .cases hr
theorem VH:∀(n:Nat)(t:TypeId)(r:ax),rowOf P n t=some r->∀(m:Nat)(base:Nat)(spare:Nat->Bool)(held:Bool)(cs:List Value)(x:DataW H×List MemPlace),
 DataW.trod enc P w base spare held m t cs=some x->∃y,aU w.heap (λb=>b<w.heap.size) r cs y
 |0,t,r,hr=>by cases hr
 |n+1,t,r,hr=>by
  intro m base spare held cs x hx;rw[rowOf]at hr;split at hr
  .next k hu=>cases hr;obtain⟨i,rfl,_,hwf⟩:=DataW.trod_int hu hx;simp only[Lit.wf,ane,anl]at hwf;exact⟨(i,()),by rw[aU];exact⟨_,[],rfl,by rw[gy];exact⟨rfl,hwf⟩,by rw[aU]⟩⟩
  .next hu=>cases hr;obtain⟨b,rfl,_⟩:=DataW.trod_bool hu hx;exact⟨(b,()),by rw[aU];exact⟨_,[],rfl,by rw[gy],by rw[aU]⟩⟩
  .next hu=>cases hr;obtain⟨s,rfl,_,hs⟩:=DataW.trod_string hu hx;refine⟨(s.data.toList,()),by rw[aU];exact⟨_,[],rfl,by rw[gy];exact⟨by simp,by simpa using hs⟩,by rw[aU]⟩⟩
  .next e hu=>
   split at hr
   .next s hs=>
    split at hr
    .next hb=>
     cases hr;rw[ane]at hb;have hlen:=ani hb.1;have hpos:1<=s.len:=by simpa[apn]using hb.2
     rcases DataW.trod_slice hu hx with⟨rfl,_⟩|⟨a,len,cap,elems,rest,k,_,rfl,_,hbase,hle,hmax,hel,hrow,_,_⟩
     .exact⟨([],()),by rw[aU];exact⟨_,[],rfl,by rw[gy];exact⟨by simp,.inl ⟨rfl,none,0,rfl⟩⟩,by rw[aU]⟩⟩
     .by_cases h0:len=0
      .subst h0;exact⟨([],()),by rw[aU];exact⟨_,[],rfl,by rw[gy];exact⟨by simp,.inl ⟨rfl,some a,cap,rfl⟩⟩,by rw[aU]⟩⟩
      .have each:∀i,i<len->∃(ys:List Value)(z:s.den),w.cells? base (a.add (i*P.cellsOf e)) (P.cellsOf e)=some ys/\aU w.heap (λb=>b<w.heap.size) s ys z:=by intro i hi;have h1:=hrow i hi;rw[anu (by omega)]at h1;obtain⟨ys,hys,hy2⟩:=Option.bind_eq_some_iff.1 h1;obtain⟨z,hz⟩:=VH n e s hs k base spare held ys _ hy2;exact⟨ys,z,hys,hz⟩
       obtain⟨ys0,z0,hc0,hz0⟩:=each 0 (by omega);obtain⟨_,hl0,hcell0⟩:=World.cells?_some hc0;have VI:=hcell0 0 (by omega);simp only[ao7,Addr.add,if_true]at VI;have akZ:∃v,ys0[0]? =some v:=⟨ys0[0]'(by omega),by simp[show 0<ys0.length by omega]⟩;obtain⟨v0,hv0⟩:=akZ;rw[hv0]at VI;unfold World.cell? at VI;split at VI
       .next c ty fz hblk=>
        split at VI
        .cases VI
        .next hsp=>
         have hspot:a.spot=none:=by cases h:a.spot with|none=>rfl|some q=>rw[h]at hsp;simp at hsp
         have ha:a=⟨a.block,a.off,none⟩:=by cases a;simp at hspot;rw[hspot]
         have hb':a.block<w.heap.size:=by obtain⟨hlt,_⟩:=anw.1 hblk;exact hlt
         have rows:∀i,i<len->∃z:s.den,aU w.heap (λb=>b<w.heap.size) s ((c.toList.drop (a.off+i*s.len)).take s.len) z:=by
          intro i hi;obtain⟨ys,z,hcs,hz⟩:=each i hi;obtain⟨_,hl,hcell⟩:=World.cells?_some hcs;refine⟨z,?_⟩;have:(c.toList.drop (a.off+i*s.len)).take s.len=ys:=by
           refine aoX λj=>?_;rcases anL j s.len with hj|hj
           .rw[aoE hj,anU];have h2:=hcell j (by omega);have hadd:=add_add a hspot (i*P.cellsOf e) j;rw[← hlen]at hadd h2;rw[hadd]at h2;unfold World.cell? at h2;simp only[hblk,Option.isSome_none,aoP,apm]at h2;rw[← h2];simp
           .rw[aoA (by simp;omega),aoA (by omega)]
          rw[this];exact hz
         obtain⟨l,hll,hlq⟩:=ad5 len rows;refine⟨(l,()),by rw[aU];exact⟨_,[],rfl,by rw[gy];exact⟨by omega,.inr ⟨a.block,a.off,cap,c,ty,fz,by rw[hll,← ha],by omega,hb',hblk,hlq⟩⟩,by rw[aU]⟩⟩
       .cases VI
    .cases hr
   .cases hr
  .next fs hu=>
   split at hr
   .next r' hf=>
    split at hr
    .next hb=>
     split at hr
     .next hall=>
      cases hr;obtain⟨xs,k,_,_,hcl,hxl,hparts⟩:=DataW.trod_struct hu hx;have hlen:=ani hb;have:=WY (h:=w.heap) (S:=λb=>b<w.heap.size) cs (λ_ _ _ _ _=>trivial) fs.toList 0 _ hf ?_
      .obtain⟨y,hy⟩:=this;refine⟨y,?_⟩;rw[apC,aok (by omega)]at hy;exact hy
      .intro g hg s hs;have hg2:=anx.1 hall g hg;rw[hs]at hg2;have hsl:=ani hg2;obtain⟨i,hi,hgi⟩:=aoB.1 hg;have hp:=hparts i g (by rw[← hgi];simp[show i<fs.size by simpa using hi]);rw[anu (by simp at hi;omega)]at hp;rw[hsl];exact VH n g.type s hs k base spare held _ _ hp
     .cases hr
    .cases hr
   .cases hr
  .cases hr
def CT.csh:CT->fF
 |.int k=>.int k
 |.bool=>.bool
 |.str=>.str
 |.sl e r=>.sl e r false
def toC:(c:CT)->c.den->c.csh.den
 |.int _,x=>x
 |.bool,x=>x
 |.str,x=>x
 |.sl _ _,x=>x
def ax.shs:ax->List fF
 |.nil=>[]
 |.cons c r=>c.csh::r.shs
def toCs:(r:ax)->r.den->kN r.shs
 |.nil,_=>()
 |.cons c r,x=>(toC c x.1,toCs r x.2)
theorem YR(X:V):∀(r:ax)(vs:List Value)(x:r.den),aU X.w.heap (X.bP false) r vs x->aj X (fQ r.shs (toCs r x)) vs
 |.nil,vs,x,h=>by rw[aU]at h;subst h;trivial
 |.cons c r,vs,(x,y),h=>by
  rw[aU]at h;obtain⟨v,vs',rfl,h1,h2⟩:=h;refine⟨?_,YR X r vs' y h2⟩;cases c with
  |int k=>exact h1
  |bool=>exact h1
  |str=>exact h1
  |sl e r=>exact h1
def ae0(P:Program)(t:TypeId):Option oq:=
 match rowOf P 64 t with
 |some r=>match P.underlying t with
  |some (.struct _)=>some (.agg r.shs)
  |some (.array _ _)=>none
  |_=>match r with
   |.cons c .nil=>some (.one c.csh)
   |_=>none
 |none=>none
def IL(P:Program):List TypeId->Option (List iq)
 |[]=>some []
 |t::ts=>match ae0 P t,IL P ts with
  |some s,some l=>some (.v s::l)
  |_,_=>none
def start(w:World):V:=⟨w,w.heap.size,λb=>b<w.heap.size,λ_=>undef,λ_=>none⟩
theorem aia{t:TypeId}{s:oq}(hs:ae0 P t=some s){base base':Nat}{sp:Nat->Bool}{hd:Bool}{v:Value}{d:DataW H}{p:List MemPlace}
 (ht:DataW.Trod enc P w base sp hd t v d p) (hv:Value.okWide P w .any base' t v):∃x:s.den,dh (start w) (s.val x) v:=by
 unfold ae0 at hs;split at hs
 .next r hr=>
  obtain⟨m,hm⟩:=ht;obtain⟨y,hy⟩:=VH 64 t r hr m base sp hd _ _ hm;have hy':aU (start w).w.heap ((start w).bP false) r v.cells.toList y:=
   aU.mono (λb hb=>⟨⟨⟨hb,λ_=>hb,λo x hx=>by cases hx⟩,λe=>by cases e⟩,rfl⟩) r _ y hy
  unfold Value.okWide at hv;split at hs
  .next fs hu=>cases hs;rw[hu]at hv;obtain⟨cs,rfl,_,_⟩:=hv;exact⟨toCs r y,cs,rfl,YR (start w) r _ y hy'⟩
  .cases hs
  .next hns hna=>
   split at hs
   .next c=>
    cases hs;have hcell:v.cells=#[v]:=by
     cases hv2:v<;>first
      |rfl
      |(exfalso
        rw[hv2]at hv;split at hv
        .next hu=>exact hns _ hu
        .next hu=>exact hna _ _ hu
        .unfold Go.Cell.okWide at hv;split at hv<;>first|(rename_i h1 h2;cases h2;done)|(rename_i h2;cases h2;done)|skip;unfold Go.Cell.ok at hv;split at hv<;>first|(rename_i h1 h2;cases h2;done)|exact hv)
    have:=YR (start w) _ _ y hy';rw[hcell]at this;exact⟨toC c y.1,this.1⟩
   .cases hs
 .cases hs
theorem abV:∀(ts:List TypeId)(sh:List iq),IL P ts=some sh->∀{base base':Nat}{sp:Nat->Bool}{hd:Bool}(vs:List Value)(ds:List (DataW H))(p:List MemPlace),
 DataW.TrodAll enc P w base sp hd ts vs ds p->(∀(j:Nat) t v,ts[j]? =some t->vs[j]? =some v->Value.okWide P w .any base' t v)->∃x:ja sh,ng (start w) (sK sh x) vs
 |[],sh,hs,_,_,_,_,vs,ds,p,h,_=>by
  cases hs;cases vs with
  |nil=>exact⟨(),trivial⟩
  |cons v vs=>cases ds<;>simp[DataW.TrodAll]at h
 |t::ts,sh,hs,base,base',sp,hd,vs,ds,p,h,hok=>by
  rw[IL]at hs;split at hs
  .next s l h1 h2=>
   cases hs;cases vs with
   |nil=>cases ds<;>simp[DataW.TrodAll]at h
   |cons v vs=>
    cases ds with
    |nil=>simp[DataW.TrodAll]at h
    |cons d ds=>obtain⟨a,b,g1,g2,_⟩:=h;obtain⟨x,hx⟩:=aia h1 g1 (hok 0 t v rfl rfl);obtain⟨y,hy⟩:=abV ts l h2 vs ds b g2 λj t' v' ht' hv'=>hok (j+1) t' v' (by simpa using ht') (by simpa using hv');exact⟨(x,y),hx,hy⟩
  .cases hs
mutual
theorem CT.EI:∀(c:CT),c.beq c=true
 |.int k=>by simp[CT.beq]
 |.bool=>rfl
 |.str=>rfl
 |.sl e r=>by simp[CT.beq,ax.EI r]
theorem ax.EI:∀(r:ax),r.beq r=true
 |.nil=>rfl
 |.cons c r=>by simp[ax.beq,CT.EI c,ax.EI r]
end
theorem ZX:∀(c:fF)(x:c.den),c.read (c.cell x)=some x
 |.int k,x=>by simp[fF.cell,fF.read]
 |.bool,x=>rfl
 |.str,x=>rfl
 |.sl e r fr,l=>by
  simp only[fF.cell,fF.read,an3];have h1:IG fr fr=true:=by cases fr<;>rfl
  have h2:r.beq r=true:=ax.EI r;rw[h1];simp only[Bool.and_self];rw[dif_pos h2];rfl
 |.nil,x=>rfl
 |.ref o,x=>by simp[fF.cell,fF.read]
 |.junk,x=>rfl
theorem WZ:∀(l:List fF)(x:kN l),jf l (fQ l x)=some x
 |[],_=>rfl
 |c::r,x=>by rw[fQ,jf,ZX c x.1,WZ r x.2]
theorem abW:∀(ts:List TypeId)(l:List iq),IL P ts=some l->∀(x:ja l),DL l (sK l x)=some x
 |[],l,h,x=>by cases h;rfl
 |t::ts,l,h,x=>by
  rw[IL]at h;split at h
  .next s r h1 h2=>
   cases h;have ih:=abW ts r h2 x.2;cases s with
   |one c=>
    have e:(iq.v (.one c)).read ((iq.v (.one c)).val x.1)=some x.1:=ZX c x.1;rw[sK,DL,ih,e]
   |agg l=>have e:(iq.v (.agg l)).read ((iq.v (.agg l)).val x.1)=some x.1:=WZ l x.1;rw[sK,DL,ih,e]
  .cases h
def YS:Out:=⟨[(false,[.plain (.bool true)])],none⟩
theorem af0{G:jv}{f:FuncId}{fn:Func}{sh:List iq}{F:ja sh->Prop×Out}(hcon:jM P G f (xG sh F))(hsh:IL P fn.params.toList=some sh)
 (hF:∀x,G9 sh x->(F x).1/\(F x).2=YS) (hG:G.ok w) {base base':Nat} {sp:Nat->Bool} {hd:Bool} {args:Array Value} {ds:List (DataW H)} {p:List MemPlace}
 (hA:DataW.TrodAll enc P w base sp hd fn.params.toList args.toList ds p) (hok:∀(j:Nat) t v,fn.params[j]? =some t->args[j]? =some v->Value.okWide P w .any base' t v):
 Calls P f args w λe w'=>e=.returned (.bool true)/\w'.os=w.os/\w'.output=w.output/\w.heap.size<=w'.heap.size/\∀b,b<w.heap.size->w'.heap[b]? =w.heap[b]? :=by
 obtain⟨x,hx⟩:=abV _ _ hsh _ _ _ hA λj t v ht hv=>hok j t v (by simpa using ht) (by simpa using hv);have hin:=zB sh x _ hx;obtain⟨hp,ho⟩:=hF x hin;have hc:xG sh F (sK sh x)=some ((F x).1,YS):=by unfold xG;rw[abW _ _ hsh x];simp only[← ho]
 refine(hcon (sK sh x) _ _ 0 _ args w hc hp hG hx).mono ?_;rintro e w' ⟨v,vals,rfl,h1,h2,h3,h4,h5,h6,_,_⟩;have hv:v=.bool true:=h6;exact⟨by rw[hv],h1,h3,h4,h5⟩
theorem agY{w w':World}(h1:w'.os=w.os)(h3:w'.output=w.output)(h5:∀b,b<w.heap.size->w'.heap[b]? =w.heap[b]?)(may:MemPlace->Prop):w.keptBut w' may:=by
 refine⟨h1,h3,λi hi=>?_⟩;rw[h5 i hi];cases hw:w.heap[i]? with
 |none=>trivial
 |some o=>cases o<;>simp
theorem agZ{w w':World}(h5:∀b,b<w.heap.size->w'.heap[b]? =w.heap[b]?){p:MemPlace}(hp:p.block<w.heap.size):w.sameAt w' p:=by
 cases p with
 |cell b off=>
  show w'.cell? _=w.cell? _;unfold World.cell?;simp only;rw[h5 b hp]
 |map b=>exact h5 b hp
end Go.Fw
namespace Go.Fw
open Go
variable {P:Program} {G:jv} {f:FuncId}
theorem adq{args:List Arg}{i:Nat}{x:Arg}{p:Nat}(hp:p / 64≠i):bY (args.set i x) p=bY args p:=by unfold bY;rw[aoh (λh=>hp h.symm)]
theorem Q7{args:List Arg}{i:Nat}{e:TypeId}{r:ax}{l:List r.den}(hi:i<args.length)(p:Nat)(hp:p / 64=i):bY (args.set i (.own e r l)) p=if p=i*64+49 then some (.arr e r l false)else none:=by
 unfold bY;rw[hp,aoz hi];by_cases h:p=i*64+49
 .subst h;have:Nat.beq ((i*64+49)%64) 49=true:=by
   have:(i*64+49)%64=49:=by omega
   rw[this];rfl
  simp[this]
 .have:Nat.beq (p%64) 49=false:=by
   cases hb:Nat.beq (p%64) 49 with
   |false=>rfl
   |true=>have:=ani hb;omega
  simp[this,h]
theorem ad7{args:List Arg}{i:Nat}{v:SV}(ha:args[i]? =some (.sv v))(p:Nat)(hp:p / 64=i):bY args p=none:=by unfold bY;rw[hp,ha]
def IQ(γ:Nat->Value)(i:Nat)(o:Nat):Value:=if o=i*64+49 then .slice none 0 0 else γ o
theorem pY.mono{X Y:V}(h:X.le Y):∀(a:Arg)(v:Value),pY X a v->pY Y a v
 |.sv x,v,H=>dh.mono h x v H
 |.kp cs,v,H=>aT.mono h (.dm cs 0) v H
 |.fn f caps,v,H=>aT.mono h (.fn f caps) v H
 |.own _ _ _,_,H|.ptr _,_,H=>H.elim
theorem Iy.mono{X Y:V}(h:X.le Y)(i:Nat):∀(a:Arg)(v:Value),Iy X i a v->Iy Y i a v
 |.own _ _ _,v,H=>aO.mono h (.ref (i*64+49)) v H
 |.ptr _,v,H=>aT.mono h (.aX (i*64+48) 0) v H
 |.sv x,v,H=>pY.mono h (.sv x) v H
 |.kp cs,v,H=>pY.mono h (.kp cs) v H
 |.fn f caps,v,H=>pY.mono h (.fn f caps) v H
theorem uQ.nil{X Y:V}(h:X.le Y){e:TypeId}{r:ax}:∀(args:List Arg)(vs:List Value)(j i:Nat),args[i]? =some (.sv (.one .nil))->
 Y.ah ((j+i)*64+49)=some (.arr e r [] false)->Y.γ ((j+i)*64+49)=.slice none 0 0->uQ X j args vs->uQ Y j (args.set i (.own e r [])) vs
 |[],[],_,i,ha,_,_,_=>by simp at ha
 |[],_::_,_,_,_,_,_,H=>H.elim
 |_::_,[],_,_,_,_,_,H=>H.elim
 |a::args,v::vs,j,0,ha,ho,hγ,⟨h1,h2⟩=>by
  have ha:a=.sv (.one .nil):=by simpa using ha
  subst ha;have hv:v=.slice none 0 0:=h1;refine⟨⟨⟨e,r,[],false,ho⟩,?_,by rw[hv];rfl⟩,?_⟩
  .rw[hv];exact hγ.symm
  .show uQ Y (j+1) args vs;clear h1 ha ho hγ hv;generalize j+1=k at h2
   induction args generalizing k vs with
   |nil=>cases vs with
    |nil=>trivial
    |cons _ _=>exact h2.elim
   |cons b args ih=>cases vs with
    |nil=>exact h2.elim
    |cons u vs=>exact⟨Iy.mono h k b u h2.1,ih vs (k+1) h2.2⟩
 |a::args,v::vs,j,i+1,ha,ho,hγ,⟨h1,h2⟩=>by
  have e1:j+(i+1)=j+1+i:=by omega
  rw[e1]at ho hγ;exact⟨Iy.mono h j a v h1,uQ.nil h args vs (j+1) i (by simpa using ha) ho hγ h2⟩
theorem jA.aiK{con aiL:Dn}(i:Nat)(e:TypeId)(r:ax)(hr:0<r.len)(h:jA P G f con)
 (hc:∀args p ρ,aiL args=some (p,ρ)->p->args[i]? =some (.sv (.one .nil))/\(∀t,mJ (ρ.aG t) (i*64+49)=none)/\∃q,con (args.set i (.own e r []))=some (q,ρ)/\q):jA P G f aiL:=by
 intro args p ρ hcon hp;obtain⟨ha,hF,q,hq1,hq⟩:=hc args p ρ hcon hp;have hlen:i<args.length:=by have:=anr.1 ha;exact this.1
 obtain⟨hex,hcall⟩:=h _ q ρ hq1 hq;refine⟨hex,λk S γ vs w hG hrep oJ hsep hfree=>?_⟩;have hO:∀o,o≠i*64+49->bY (args.set i (.own e r [])) o=bY args o:=by
  intro o ho;by_cases hd:o / 64=i
  .rw[Q7 hlen o hd,ad7 ha o hd,if_neg ho]
  .exact adq hd
 have hN:bY (args.set i (.own e r [])) (i*64+49)=some (.arr e r [] false):=by rw[Q7 hlen _ (by omega),if_pos rfl]
 have hN':bY args (i*64+49)=none:=ad7 ha _ (by omega);have ZY:IQ γ i (i*64+49)=.slice none 0 0:=if_pos rfl;have hγ:∀o,o≠i*64+49->IQ γ i o=γ o:=λo ho=>if_neg ho;have hne:∀o x,bY args o=some x->o≠i*64+49:=λo x ho e=>by rw[e,hN']at ho;cases ho
 have le:V.le ⟨w,w.heap.size,S,γ,bY args⟩ ⟨w,w.heap.size,S,IQ γ i,bY (args.set i (.own e r []))⟩:=by
  refine⟨ann _,λb hb=>⟨⟨hb.1,hb.2.1,λo x hx=>?_⟩,rfl⟩,λo cs hx=>⟨⟨cs,?_⟩,hγ o (hne o _ hx)⟩,λo e r l fr hx=>⟨⟨l,fr,?_⟩,hγ o (hne o _ hx)⟩⟩
  .by_cases ho:o=i*64+49
   .show blk (IQ γ i o)≠some b;rw[ho,ZY];intro hh;cases hh
   .show blk (IQ γ i o)≠some b;rw[hγ o ho];exact hb.2.2 o x ((hO o ho).symm.trans hx)
  .exact(hO o (hne o _ hx)).trans hx
  .exact(hO o (hne o _ hx)).trans hx
 have hbl:∀b,sJ (bY (args.set i (.own e r []))) (IQ γ i) b↔sJ (bY args) γ b:=by
  intro b;constructor
  .rintro⟨o,x,h1,h2⟩;by_cases ho:o=i*64+49
   .rw[ho,ZY]at h2;cases h2
   .exact⟨o,x,(hO o ho)▸h1,(hγ o ho)▸h2⟩
  .rintro⟨o,x,h1,h2⟩;exact⟨o,x,(hO o (hne o x h1)).trans h1,by rw[hγ o (hne o x h1)];exact h2⟩
 refine Calls.mono (hcall k S (IQ γ i) vs w hG (uQ.nil (Y:=⟨w,w.heap.size,S,IQ γ i,bY (args.set i (.own e r []))⟩) le args vs.toList 0 i ha (by rw[anJ];exact hN) (by rw[anJ];exact ZY) hrep) ?_ ?_ hfree) ?_
 .intro o x hx;by_cases ho:o=i*64+49
  .subst ho;rw[hN]at hx;cases hx;refine⟨⟨[],?_,hr,λb hb=>?_,λj x hj=>by simp at hj⟩,λb hb=>?_⟩
   .show w.ownsRow 0 e r.len (IQ γ i (i*64+49)) 0 [];rw[ZY];exact aph w 0 e r.len
   .have hb:blk (IQ γ i (i*64+49))=some b:=hb;rw[ZY]at hb;cases hb
   .rw[ZY]at hb;cases hb
  .have hx':bY args o=some x:=(hO o ho)▸hx;have:=oJ o x hx';refine⟨bg.mono le o x (λb _=>rfl) (hγ o ho) this.1,λb hb=>this.2 b ((hγ o ho)▸hb)⟩
 .intro o x q y b hx hy hoq hb;by_cases ho:o=i*64+49
  .rw[ho,ZY]at hb;cases hb
  by_cases hq':q=i*64+49
  .rw[hq',ZY];intro hh;cases hh
  rw[hγ o ho]at hb;rw[hγ q hq'];exact hsep o x q y b ((hO o ho)▸hx) ((hO q hq')▸hy) hoq hb
 .rintro en w' ⟨t,ht,v,γ',h1,h2,h3,h4,h5,h6,h7,h8,h9,h10⟩;have ae1:∀o x,mJ (ρ.aG t) o=some x->o≠i*64+49:=λo x ho e=>by rw[e,hF t]at ho;cases ho
  have hL:oQ S (args.set i (.own e r [])) (ρ.aG t) (IQ γ i)=oQ S args (ρ.aG t) γ:=by
   funext b
   apply propext;constructor
   .rintro⟨a1,a2⟩;refine⟨a1.imp_right (hbl b).1,λq y hy=>?_⟩;have:=a2 q y hy
    rwa [hγ q (ae1 q y hy)]at this
   .rintro⟨a1,a2⟩;refine⟨a1.imp_right (hbl b).2,λq y hy=>?_⟩;rw[hγ q (ae1 q y hy)];exact a2 q y hy
  rw[hL]at h7 h8 h10;refine⟨t,ht,v,γ',h1,h2,h3,h4,h5,λb hb hn=>h6 b hb (λh=>hn ((hbl b).1 h)),h7,λo x hx=>?_,h9,λo x hx=>?_⟩
  .obtain⟨a1,a2⟩:=h8 o x hx;refine⟨a1,λb hb=>?_⟩;obtain⟨b1,b2,b3⟩:=a2 b hb;refine⟨b1,b2.imp_right (hbl b).1,λq y hy=>?_⟩;have:=b3 q y hy
   rwa [hγ q (ae1 q y hy)]at this
  .obtain⟨a1,a2⟩:=h10 o x hx;exact⟨a1.trans (hγ o (ae1 o x hx)),a2⟩
theorem af2{l:List fF}{e:TypeId}{r:ax}{rest:List iy}{bK:List oM}{F:jq (.ptr l:: .own e r::rest)->Prop×(kY bK×kL (.ptr l:: .own e r::rest)->Prop)}
 {F':jq (.ptr l:: .p (.v (.one .nil))::rest)->Prop×(kY bK×kL (.ptr l:: .own e r::rest)->Prop)} (hr:0<r.len) (h:jA P G f (pU (.ptr l:: .own e r::rest) bK F))
 (hF:∀a x,(F' (a,(),x)).1->(F (a,[],x)).1) (hF2:∀a x,(F' (a,(),x)).1->(F' (a,(),x)).2=(F (a,[],x)).2):jA P G f (pU (.ptr l:: .p (.v (.one .nil))::rest) bK F'):=by
 refine jA.aiK 1 e r hr h λargs p ρ hcon hp=>?_
 match args,hcon with
 |[],hcon=>simp[pU,jg]at hcon
 |[a],hcon=>
  have:jg (.ptr l:: .p (.v (.one .nil))::rest) [a]=none:=by simp only[jg];split<;>simp_all
  simp[pU,this]at hcon
 |a::b::args,hcon=>
  cases ha:(iy.ptr l).read a with
  |none=>simp[pU,jg,ha]at hcon
  |some a'=>
  cases hb:(iy.p (.v (.one .nil))).read b with
  |none=>simp[pU,jg,ha,hb]at hcon
  |some b'=>
  cases hx:jg rest args with
  |none=>simp[pU,jg,ha,hb,hx]at hcon
  |some x=>
   have hb2:b=.sv (.one .nil):=by
    cases b with
    |sv s=>cases s with
     |one c=>cases c with
      |nil=>rfl
      |int k n=>cases hb
      |bool k=>cases hb
      |str k=>cases hb
      |sl e r l fr=>cases hb
      |ref o=>cases hb
      |junk=>cases hb
     |agg cs=>cases hb
    |_=>cases hb
   subst hb2;simp only[pU,jg,ha,hb,hx]at hcon;have hcon:=Option.some.inj hcon;have h1:(F' (a',(),x)).1=p:=congrArg Prod.fst hcon;have h2:(⟨kY bK×kL (.ptr l:: .own e r::rest),(F' (a',(),x)).2,λt=>⟨ig bK t.1,none⟩,λt=>jB (.ptr l:: .own e r::rest) t.2⟩:Gs)=ρ:=congrArg Prod.snd hcon;have hp':(F' (a',(),x)).1:=h1▸hp;subst h2;refine⟨rfl,λt=>rfl,(F (a',[],x)).1,?_,hF a' x hp'⟩
   .have ho:(iy.own e r).read (.own e r [])=some []:=by unfold iy.read;simp only[an3];rw[dif_pos (ax.EI r)];rfl
    simp only[List.set_cons_succ,List.set_cons_zero,pU,jg,ha,ho,hx];have:=hF2 a' x hp';exact congrArg (λz=>some ((F (a',[],x)).1,(⟨kY bK×kL (.ptr l:: .own e r::rest),z,λt=>⟨ig bK t.1,none⟩,λt=>jB (.ptr l:: .own e r::rest) t.2⟩:Gs))) this.symm
end Go.Fw
namespace Go.Fw
open Go
theorem af{b:Bool}{A B:Prop}(h1:b=true->A)(h2:b=false->B):cond b A B:=by
 cases b
 .exact h2 rfl
 .exact h1 rfl
theorem aP{D:Type}{A:(D->Prop)->Prop}{R:D->Prop}(f:D)(h1:A λy=>y=f)(h2:R f):∃J:D->Prop,A J/\∀y,J y->R y:=
 ⟨λy=>y=f,h1,λ_ hy=>hy▸h2⟩
theorem drop_cons{α:Type}(a:List α)(n:Nat)(d:α)(h:n<a.length):a.drop n=a.getD n d::a.drop (n+1):=by rw[aoT h,anm,anu h,apM]
theorem gJ(z:Int)(h:-9223372036854775808<=z/\z<=9223372036854775807):IntKind.i64.wrap z=z:=IntWalk.i64_in z (by omega)
theorem maxLen_eq:maxLen=9223372036854775807:=by decide
theorem yx:big=4294967296:=rfl
theorem getD_mem{α:Type}{l:List α}{n:Nat}{d:α}(h:n<l.length):l.getD n d∈l:=by rw[anm,anu h,apM];exact ao9 h
end Go.Fw
namespace Go.Fw
open Go
def aiM(w:World)(S:Nat->Prop)(k:Nat)(out:Out)(e:Ending)(w':World):Prop:=
 ∃v vals,e=.returned v/\w'.os=w.os/\w'.tape=w.tape/\w'.output=w.output/\w.heap.size<=w'.heap.size/\
    (∀b,b<w.heap.size->w'.heap[b]? =w.heap[b]?)/\
    aT ⟨w',w.heap.size,S,vals,Fw.look (out.take k).2⟩ (out.take k).1 v/\
    (∀o x,Fw.look (out.take k).2 o=some x->bg ⟨w',w.heap.size,S,vals,Fw.look (out.take k).2⟩ o x/\∀b,blk (vals o)=some b->w.heap.size<=b/\b<w'.heap.size)/\
    (∀o x q y b,Fw.look (out.take k).2 o=some x->Fw.look (out.take k).2 q=some y->o≠q->blk (vals o)=some b->blk (vals q)≠some b)
theorem abX{w w':World}{S:Nat->Prop}{k:Nat}{s:Bytes}(hos:w'.os=w.os)(htape:w'.tape=w.tape)(hout:w'.output=w.output)(hsize:w.heap.size<=w'.heap.size)
 (aiN:∀b,b<w.heap.size->w'.heap[b]? =w.heap[b]?) (hs:s.length<=maxLen):aiM w S k ⟨[(false,[.plain (.str s)])],none⟩ (.returned (.string ⟨s.toArray⟩)) w':=
 ⟨_,λ_=>undef,rfl,hos,htape,hout,hsize,aiN,⟨rfl,hs⟩,(λo x hx=>by cases hx),(λo x q y b hx=>by cases hx)⟩
end Go.Fw
namespace Go.Fw
open Go
variable {P:Program} {H:Type} {enc:TypeId×Value->H} {w:World}
theorem Pj(hl:laidOutB P=true){base:Nat}{sp':Nat->Bool}{W W':World}:∀(ts:List TypeId)(_:ts.all (λt=>P.readableRec t&&decide (t<P.types.size))=true)
 (vs:List Value) (ds:List (DataW H)) (ps:List MemPlace),DataW.TrodAll enc P W base (λ_=>true) true ts vs ds ps->(∀p∈ps,W.sameAt W' p)->(∀p∈ps,sp' p.block=true)->DataW.TrodAll enc P W' base sp' true ts vs ds ps
 |[],_,vs,ds,ps,h,_,_=>by
  cases vs<;>cases ds<;>simp[DataW.TrodAll]at h ⊢;exact h
 |t::ts,ht,vs,ds,ps,h,h1,h2=>by
  rw[aoj,ane,ane]at ht;cases vs with
  |nil=>cases ds<;>simp[DataW.TrodAll]at h
  |cons v vs=>
   cases ds with
   |nil=>simp[DataW.TrodAll]at h
   |cons d ds=>
    obtain⟨a,b,g1,g2,rfl⟩:=h;exact⟨a,b,WideElems.Trod_stays hl ht.1.1 (aoe ht.1.2) g1 (λp hp=>h1 p (an5 _ hp)) (λp hp=>h2 p (an5 _ hp)),
     Pj hl ts ht.2 vs ds b g2 (λp hp=>h1 p (aou _ hp)) (λp hp=>h2 p (aou _ hp)),rfl⟩
theorem trodAll_length{base:Nat}{sp:Nat->Bool}{hd:Bool}{W:World}:∀(ts:List TypeId)(vs:List Value)(ds:List (DataW H))(ps:List MemPlace),DataW.TrodAll enc P W base sp hd ts vs ds ps->ds.length=ts.length
 |[],vs,ds,ps,h=>by cases vs<;>cases ds<;>simp[DataW.TrodAll]at h ⊢
 |t::ts,vs,ds,ps,h=>by
  cases vs with
  |nil=>cases ds<;>simp[DataW.TrodAll]at h
  |cons v vs=>
   cases ds with
   |nil=>simp[DataW.TrodAll]at h
   |cons d ds=>obtain⟨a,b,g1,g2,rfl⟩:=h;simp[trodAll_length ts vs ds b g2]
theorem ag0{fn:Func}{s:ChangeSpec}{apart fresh handsOn again:Bool}{W W':World}{args:Array Value}{ds gs:List (DataW H)}{before:List MemPlace}{tb:TypeId}
 (hvars:s.vars=[]) (hspec:∀l:List (DataW H),l.length=fn.params.toList.length->(s.fn H l).results=[.lit (.bool true)]/\(s.fn H l).args=l/\(s.fn H l).vars=[])
 (hres:fn.resultTypes=#[tb]) (hb:P.underlying tb=some .bool) (hl:laidOutB P=true) (hread:fn.params.toList.all (λt=>P.readableRec t&&decide (t<P.types.size))=true)
 (hW:DataW.Whole enc P fn.params.toList s.vars apart W args.toList ds gs before) (hos:W'.os=W.os) (hout:W'.output=W.output) (hheap:∀b,b<W.heap.size->W'.heap[b]? =W.heap[b]?):
 s.post enc P fn apart fresh handsOn again W args (.bool true) W':=by
 have hlt:=hW.lt;have hW0:=hW;obtain⟨p,q,hA,hV,hpq,hz,hn⟩:=hW;rw[hvars]at hV;have hg:gs=[]/\q=[]:=by
  cases gs with
  |nil=>exact⟨rfl,hV⟩
  |cons g gs=>simp[DataW.TrodVars]at hV
 obtain⟨rfl,rfl⟩:=hg;rw[anN]at hpq;subst hpq;have hlen:=trodAll_length _ _ _ _ hA;obtain⟨r1,r2,r3⟩:=hspec (ds++[]) (by simpa using hlen);rw[anN]at r1 r2 r3;have hsame:∀x∈before,W.sameAt W' x:=λx hx=>agZ hheap (hlt x hx);have R:∀(b:Nat)(sp:Nat->Bool)(hd:Bool),DataW.TrodAll enc P W' b sp hd fn.resultTypes.toList ((Value.bool true).resultList fn.resultTypes.size) [.lit (.bool true)] []:=by intro b sp hd;rw[hres];exact⟨[],[],⟨1,by simp[DataW.trod,Value.cells,hb]⟩,rfl,rfl⟩
 have A:∀sp:Nat->Bool,(∀x∈before,sp x.block=true)->DataW.TrodAll enc P W' 0 sp true fn.params.toList args.toList ds before:=λsp hsp=>Pj hl _ hread _ _ _ hA hsame hsp;have hold:∀x∈before,(λb=>decide (b<W.heap.size)) x.block=true:=λx hx=>by simpa using hlt x hx
 refine⟨ds,[],before,[],before,[],hW0,?_,?_,?_,agY hos hout hheap _,λ_=>⟨?_,.lit (.bool true)::ds,[],before,⟨before,[],?_,?_,by simp,?_,hn⟩,λx hx _=>hx⟩⟩
 .rw[anN,r1];exact R _ _ _
 .rw[anN,r2];exact A _ hold
 .rw[anN,r3,hvars];rfl
 .intro j t r h1 h2;rw[hres]at h1 h2
  match j with
  |0=>
   simp[Value.resultList]at h1 h2;subst h1 h2;simp[Value.okWide,hb,Go.Cell.okWide,Go.Cell.ok]
  |j+1=>simp at h1
 .exact ChangeShapes.trodAll_append (A _ (λ_ _=>rfl)) (R _ _ _)
 .rw[hvars];rfl
 .intro b off hp;have hbl:=hlt _ hp;have e:W'.frozen? ⟨b,off,none⟩=W.frozen? ⟨b,off,none⟩:=by unfold World.frozen?;simp only;rw[hheap b hbl]
  rw[e];exact hz b off hp
end Go.Fw
namespace Go.Fw
open Go
end Go.Fw
namespace Go.Fw
open Go
theorem Uf{H:Type}{enc:TypeId×Value->H}{C:Checked}{G:jv}{os:Os}{f:FuncId}{fn:Func}{s:ChangeSpec}{conds:List PathCond}{apart fresh handsOn again:Bool}{tb:TypeId}{sh:List iq}{F:ja sh->Prop×Out}
 {X:World->Prop} (hX:∀w w':World,w.heap=w'.heap->X w->X w')
 (own:ownKnob C.prog.godebug=none) (started:os.Started) (noInit:C.prog.inits.idxOf? f=none) (hfn:C.prog.funcs[f]? =some fn)
 (witness:∃(w:World)(tape:Tape)(i:Input),w.os=os/\(w.forCall tape i).Shaped C.prog/\i.vars=[]/\Input.okWide C.prog (w.forCall tape i) .any w.heap.size f i/\
   ((s.pre enc C.prog fn conds apart (w.forCall tape i).memory i.args/\X (w.forCall tape i).memory)/\sizedMet enc C.prog fn (OpenSpec.ofChange s) apart (w.forCall tape i).memory i.args)/\({}:Assume).holds C.prog (lone (Frame.enter C.prog f i.args .normal) [] (w.forCall tape i)))
 (hcon:jM C.prog G f (xG sh F)) (hsh:IL C.prog fn.params.toList=some sh) (hF:∀x,G9 sh x->(F x).1/\(F x).2=YS) (hG:∀w,X w->w.ShapedOpen C.prog->G.ok w)
 (hvars:s.vars=[]) (hspec:∀l:List (DataW H),l.length=fn.params.toList.length->(s.fn H l).results=[.lit (.bool true)]/\(s.fn H l).args=l/\(s.fn H l).vars=[])
 (hres:fn.resultTypes=#[tb]) (hb:C.prog.underlying tb=some .bool) (hl:laidOutB C.prog=true) (hread:fn.params.toList.all (λt=>C.prog.readableRec t&&decide (t<C.prog.types.size))=true):
 ReturnsInHanded {} C os f .any (λw args=>(s.pre enc C.prog fn conds apart w args/\X w)/\sizedMet enc C.prog fn (OpenSpec.ofChange s) apart w args) (s.post enc C.prog fn apart fresh handsOn again):=by
 refine returnsInHanded_of_calls own started noInit witness ?_;intro w tape i _ aib _ hok hpre _;obtain⟨_,_,_,fn',hfn',_,_,_,_,hval⟩:=hok;have e:fn'=fn:=Option.some.inj (hfn'.symm.trans hfn);subst e;obtain⟨⟨⟨ds,gs,before,hw,hc⟩,hx⟩,hz⟩:=hpre;have hW:=DataW.Whole.of_heap (w':=w.forCall tape i) (by rfl) hw;have hW0:=hW;obtain⟨p,q,hA,_⟩:=hW;refine(af0 hcon hsh hF (hG (w.forCall tape i) (hX _ _ (by rfl) hx) aib) hA hval).mono ?_;rintro e W' ⟨rfl,h1,h2,_,h3⟩;exact ChangeSpec.post_blind (ag0 hvars hspec hres hb hl hread hW0 h1 h2 h3)
end Go.Fw
