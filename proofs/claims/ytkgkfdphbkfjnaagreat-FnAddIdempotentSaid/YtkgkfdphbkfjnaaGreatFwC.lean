import Derived.Test.YtkgkfdphbkfjnaaGreatFwD
import Derived.Test.YtkgkfdphbkfjnaaGreatFwB
import Derived.Test.YtkgkfdphbkfjnaaGreatFwA
import Derived.ChangeArms
import Derived.WideKeyArgs
import Derived.ChangeSame
import Derived.ChangeOld
import Derived.Handed
import Derived.IntWalk
import Derived.Laws.IdiomCopy
import Derived.ProofKit
namespace Go.Fw
open Go
variable {P:Program} {w0:World} {M:Nat->Prop} {T:Ext} {γ γ':Nat->Value} {st:St} {a:Act} {w w':World} {Θ:jT} {Γ:lC}
structure MQ where
 aoN:List aaj
 c:Shape
 v:Shape
structure Hints where
 own:Nat->Bool
 loops:Nat->Option MQ
 cuts:Nat->Option MQ
 upd:List Nat
 frz:Nat->List Pre
def Bg:Code->Option Nat
 |.region id _ _=>some id
 |.seq x y=>match Bg x with|some n=>some n|none=>Bg y
 |.cond _ x y=>match Bg x with|some n=>some n|none=>Bg y
 |.block _ x|.loop x=>Bg x
 |_=>none
def cutAt(H:Hints)(y:Code):Option MQ:=match Bg y with
 |some n=>H.cuts n
 |none=>none
def KI(Θ:jT)(Γ:lC)(H:Hints):Code->(Exit->St->Prop)->St->Prop
 |.skip,Q,st=>Q .normal st
 |.region id ops false,Q,st=>WO (H.frz id) (runs Θ Γ H.own ops.toList (Q .normal) ops.toList) st
 |.region id ops true,Q,st=>WO (H.frz id) (SN Θ Γ H.own H.upd ops.toList (Q .normal)) st
 |.seq x y,Q,st=>match cutAt H y with
  |none=>KI Θ Γ H x (λe s=>match e with|.normal=>KI Θ Γ H y Q s|e=>Q e s) st
  |some sp=>match sp.c.read (only sp.c sp.v st)with
   |some x0=>∃(J:sp.v.den->Prop),KI Θ Γ H x (λe s=>match e with
     |.normal=>match settles s sp.aoN with
      |some s1=>match Nat.beq s1.n st.n,sp.c.read (only sp.c sp.v s1),sp.v.read (only sp.c sp.v s1)with
       |true,some x1,some y1=>x1=x0/\J y1
       |_,_,_=>False
      |none=>False
     |e=>Q e s) st/\∀y1,J y1->KI Θ Γ H y Q (joint st.n sp.c sp.v x0 y1)
   |none=>False
 |.cond c x y,Q,st=>match st.ev c with
  |.sv (.one (.bool b))=>cond b (KI Θ Γ H x Q st) (KI Θ Γ H y Q st)
  |_=>False
 |.block id c,Q,st=>KI Θ Γ H c (λe s=>match e with
  |.exit i=>match Nat.beq i id with|true=>Q .normal s|false=>Q (.exit i) s
  |e=>Q e s) st
 |.exit id,Q,st=>Q (.exit id) st
 |.ret,Q,st=>Q .ret st
 |.loop c,Q,st=>match Bg c with
  |some n=>match H.loops n with
   |some sp=>match settles st sp.aoN with
    |some s0=>match sp.c.read (only sp.c sp.v s0),sp.v.read (only sp.c sp.v s0)with
     |some x0,some y0=>∃(I:sp.v.den->Prop)(μ:sp.v.den->Nat),I y0/\∀y,I y->
       KI Θ Γ H c (λe s=>match e with
        |.normal=>match settles s sp.aoN with
         |some s1=>match Nat.beq s1.n s0.n,sp.c.read (only sp.c sp.v s1),sp.v.read (only sp.c sp.v s1)with
          |true,some x1,some y1=>x1=x0/\I y1/\μ y1<μ y
          |_,_,_=>False
         |none=>False
        |e=>Q e s) (joint s0.n sp.c sp.v x0 y)
     |_,_=>False
    |none=>False
   |none=>False
  |none=>False
 |_,_,_=>False
theorem aak{G:kR}(hE:vw P G Θ Γ w0 M)(hm:P.follows .mixedOrders=true)(H:Hints):∀(c:Code)(QA:Exit->St->Prop)(Q:Exit->Act->World->Prop)(st:St)(γ:Nat->Value)(a:Act)(w:World),
 Rel w0 M T γ st a w->KI Θ Γ H c QA st->(∀e s γ' a' w',QA e s->Rel w0 M T γ' s a' w'->Q e a' w')->c.wp P Q a w:=by
 intro c
 induction c with
 |skip=>intro QA Q st γ a w h ha hQ;exact wp_skip (hQ _ _ _ _ _ ha h)
 |region id ops d=>
  intro QA Q st γ a w h ha hQ;cases d with
  |false=>
   obtain⟨s0,γ0,h0,hk0⟩:=G7 (K:=runs Θ Γ H.own ops.toList (QA .normal) ops.toList) (H.frz id) st γ h ha;exact alV hE h0 hk0 λs γ' a' w' hK hR=>hQ _ _ _ _ _ hK hR
  |true=>
   obtain⟨s0,γ0,h0,hk0⟩:=G7 (K:=SN Θ Γ H.own H.upd ops.toList (QA .normal)) (H.frz id) st γ h ha;exact apW hE hm h0 hk0 λs γ' a' w' hK hR=>hQ _ _ _ _ _ hK hR
 |seq x y ihx ihy=>
  intro QA Q st γ a w h ha hQ;rw[KI]at ha;split at ha
  .refine wp_seq (ihx _ _ st γ a w h ha ?_);intro e s γ' a' w' hq hR;cases e<;>first|exact ihy _ _ s γ' a' w' hR hq hQ|exact hQ _ _ _ _ _ hq hR
  .next sp hsp=>
   split at ha
   .next x0 hx=>
    obtain⟨J,h1,h2⟩:=ha;refine wp_seq (ihx _ _ st γ a w h h1 ?_);intro e s γ' a' w' hq hR;cases e with
    |normal=>
     simp only at hq;split at hq
     .next s1 hs1=>
      split at hq
      .next x1 y1 hsn hx1 hy1=>obtain⟨rfl,hJ⟩:=hq;obtain⟨γ1,hR1⟩:=Rel.settles _ hR hs1;have hR2:=hR1.joint hx1 hy1;rw[awQ hsn]at hR2;exact ihy _ _ _ γ1 a' w' hR2 (h2 _ hJ) hQ
      .exact hq.elim
     .exact hq.elim
    |_=>exact hQ _ _ _ _ _ hq hR
   .exact ha.elim
 |cond c x y ihx ihy=>
  intro QA Q st γ a w h ha hQ;rw[KI]at ha;split at ha
  .next b hb=>
   have hv:a.eval c=.bool b:=by have:=jA h c;rw[hb]at this;exact this
   refine wp_cond_split hv (λe=>?_) (λe=>?_)
   .subst e;exact ihx _ _ st γ a w h ha hQ
   .subst e;exact ihy _ _ st γ a w h ha hQ
  .exact ha.elim
 |block id c ih=>
  intro QA Q st γ a w h ha hQ;refine wp_block (ih _ _ st γ a w h ha ?_);intro e s γ' a' w' hq hR;cases e with
  |exit i=>
   simp only[Exit.inBlock];cases hb:Nat.beq i id with
   |true=>
    simp only[hb]at hq;rw[if_pos (awQ hb)];exact hQ _ _ _ _ _ hq hR
   |false=>
    simp only[hb]at hq;rw[if_neg (by rintro rfl;simp at hb)];exact hQ _ _ _ _ _ hq hR
  |_=>exact hQ _ _ _ _ _ hq hR
 |loop c ih=>
  intro QA Q st γ a w h ha hQ;rw[KI]at ha;split at ha
  .split at ha
   .next sp hsp=>
    split at ha
    .next s0 hs0=>
     split at ha
     .next x0 y0 hx hy=>
      obtain⟨I,μ,h0,hI⟩:=ha;obtain⟨γ0,hR0⟩:=Rel.settles _ h hs0
      let J:sp.v.den->Act->World->Prop:=λy a' w'=>∃γ',Rel w0 M T γ' (joint s0.n sp.c sp.v x0 y) a' w'
      have key:∀(n:Nat)(y:sp.v.den),μ y=n->I y->∀a' w',J y a' w'->∀(b:Frame)(k:List Item)(cs:List Frame),
       ∃e a'' w'',Q e a'' w''/\Arrives P (lone (b.at a' (.code c:: .inLoop c::k)) cs w') b k cs e a'' w'':=by
       intro n
       induction n using Nat.strongRecOn with
       |_ n ihn=>
        intro y hμ hy' a' w' ⟨γ',hR⟩ b k cs;have hbody:=ih _ (Exit.then (λa2 w2=>∃y2,I y2/\μ y2<μ y/\J y2 a2 w2) Q) _ γ' a' w' hR (hI y hy') ?_
        .obtain⟨e,a1,w1,hq,harr⟩:=hbody b (.inLoop c::k) cs;cases e with
         |normal=>
          obtain⟨y2,hI2,hlt,hJ2⟩:=hq;obtain⟨e2,a2,w2,hq2,at6⟩:=ihn (μ y2) (hμ▸hlt) y2 rfl hI2 a1 w1 hJ2 b k cs;exact⟨e2,a2,w2,hq2,.of_steps (Steps.trans harr (.one step_inLoop)) at6⟩
         |exit id=>exact⟨_,a1,w1,hq,.pass (x:=.inLoop c) rfl (λ_ _=>.inl (by simp)) harr⟩
         |goto l=>exact⟨_,a1,w1,hq,.pass (x:=.inLoop c) rfl (λ_ _=>.inl (by simp)) harr⟩
         |ret=>exact⟨_,a1,w1,hq,.pass (x:=.inLoop c) rfl (λ_ _=>.inl (by simp)) harr⟩
         |panic ch=>exact⟨_,a1,w1,hq,.pass (x:=.inLoop c) rfl (λ_ _=>.inl (by simp)) harr⟩
         |outgrown=>exact⟨_,a1,w1,hq,.pass (x:=.inLoop c) rfl (λ_ _=>.inl (by simp)) harr⟩
        .intro e s γ2 a2 w2 hq hR2;cases e with
         |normal=>
          simp only at hq;split at hq
          .next s1 hs1=>
           split at hq
           .next x1 y1 hsn hx1 hy1=>obtain⟨rfl,hI1,hlt⟩:=hq;obtain⟨γ3,hR3⟩:=Rel.settles _ hR2 hs1;have hJ:=hR3.joint hx1 hy1;rw[awQ hsn]at hJ;exact⟨y1,hI1,hlt,_,hJ⟩
           .exact hq.elim
          .exact hq.elim
         |_=>exact hQ _ _ _ _ _ hq hR2
      intro b k cs;obtain⟨e,a',w',hq,harr⟩:=key _ y0 rfl h0 a w ⟨_,hR0.joint hx hy⟩ b k cs;exact⟨e,a',w',hq,.of_steps (.one step_loop) harr⟩
     .exact ha.elim
    .exact ha.elim
   .exact ha.elim
  .exact ha.elim
 |rangeFunc f ps x y ihx ihy=>intro QA Q st γ a w h ha hQ;exact ha.elim
 |exit id=>intro QA Q st γ a w h ha hQ;exact wp_exit (hQ _ _ _ _ _ ha h)
 |scope c ih=>intro QA Q st γ a w h ha hQ;exact ha.elim
 |label l=>intro QA Q st γ a w h ha hQ;exact ha.elim
 |goto l=>intro QA Q st γ a w h ha hQ;exact ha.elim
 |ret=>intro QA Q st γ a w h ha hQ;exact wp_ret (hQ _ _ _ _ _ ha h)
 |refuse s=>intro QA Q st γ a w h ha hQ;exact ha.elim
def Arg.av:Arg->AV
 |.sv v=>.sv v
 |.kp cs=>.cO cs 0
 |.fn f caps=>.fn f caps
 |.own _ _ _|.ptr _=>.undef
def entry(n:Nat)(args:List Arg):St:=
 {n:=n,tmps:=λt=>match args[t]? with|some v=>v.av|none=>.undef,ah:=λ_=>none}
def SQ(st:St)(o:Nat):Bool:=match st.ah o with|some (.arr _ _ _ _)=>true|_=>false
def af2(Θ:jT)(st:St):ResultVar->Option SV
 |.tmp t=>match st.tmps t with|.sv v=>some v|_=>none
 |.cell t ty=>match Θ ty,st.tmps t with
  |some ti,.bC o off=>match st.ah o with
   |some (.var cs)=>mJ ti cs off
   |_=>none
  |_,_=>none
def Qr(Θ:jT)(st:St):List ResultVar->Option (List SV)
 |[]=>some []
 |r::rs=>match af2 Θ st r,Qr Θ st rs with
  |some v,some vs=>some (v::vs)
  |_,_=>none
def outOf:SV->Bool×List gK
 |.one c=>(false,[.plain c])
 |.agg cs=>(true,cs.map .plain)
def outs:List SV->List (Bool×List gK)
 |[]=>[]
 |v::vs=>outOf (v.kill λ_=>true)::outs vs
def fin(Θ:jT)(rv:List ResultVar)(st:St):Option Out:=
 match Qr Θ (st.freeze (SQ st)) rv with
 |some vs=>some ⟨outs vs,none⟩
 |none=>none
theorem SS:∀(k:Nat)(cs:List Cell),kU k (cs.map .plain)=(cs,[])
 |_,[]=>rfl
 |k,c::cs=>by simp only[axm,kU,SS (k+1) cs,gK.take,axK]
theorem ang(k:Nat)(v:SV):zq k (outOf v)=(v,[]):=by
 cases v with
 |one c=>rfl
 |agg cs=>simp only[zq,outOf,SS]
theorem asI(v:Value)(t:TypeId)(b off:Nat)(hv:v=.pointer (some ⟨b,off,none⟩)):Instr.loadAt t v=(do loadVar t (← asAddr v)):=by subst hv;rfl
def NR(tmps:Array Value):ResultVar->Sem Value
 |.tmp t=>pure (tmps.getD t undef)
 |.cell x t=>do loadVar t (← asAddr (tmps.getD x undef))
theorem WR(fn:Func)(tmps:Array Value):results fn tmps=(do let vs ← fn.results.mapM (NR tmps);pure (if h:vs.size=1 then vs[0]else .tuple vs)):=by unfold results;congr 1
theorem alX(hΘ:∀t ti,Θ t=some ti->mM P t ti)(h:Rel w0 M T γ st a w){r:ResultVar}{v:SV}(hf:af2 Θ st r=some v):
 ∃u,(NR a.tmps r).run P w=.ok u w/\eU (aA w0 T γ st w) v u:=by
 cases r with
 |tmp t=>
  simp only[af2]at hf;split at hf
  .next e=>cases hf;have:=h.tmps t;rw[e]at this;exact⟨_,rfl,this⟩
  .cases hf
 |cell x t=>
  simp only[af2]at hf;split at hf
  .next ti o off ht hx=>
   split at hf
   .next cs ho=>have hv:=h.tmps x;rw[hx]at hv;obtain⟨b,cs',_,_,hv'⟩:=hv;obtain⟨u,hu,hr⟩:=SE hΘ h ht (x:=.tmp x) (.inl ⟨o,off,cs,hx,ho,hf⟩);refine⟨u,?_,hr⟩;rw[NR,← asI _ t b off hv'];exact hu
   .cases hf
  .cases hf
theorem Qs(hΘ:∀t ti,Θ t=some ti->mM P t ti)(h:Rel w0 M T γ st a w):∀(rs:List ResultVar)(vs:List SV),Qr Θ st rs=some vs->
 ∃us,(rs.mapM (NR a.tmps)).run P w=.ok us w/\
  eX (aA w0 T γ st w) vs us
 |[],vs,hf=>by cases hf;exact⟨[],rfl,trivial⟩
 |r::rs,vs,hf=>by
  rw[Qr]at hf;split at hf
  .next v vs' h1 h2=>cases hf;obtain⟨u,hu,hr⟩:=alX hΘ h h1;obtain⟨us,hus,hrs⟩:=Qs hΘ h rs vs' h2;refine⟨u::us,?_,hr,hrs⟩;rw[az2,axc,hu];simp only[axC,axc,hus,axU]
  .cases hf
theorem eX.length{X:V}:∀(cs:List SV)(vs:List Value),eX X cs vs->vs.length=cs.length
 |[],[],_=>rfl
 |_::cs,_::vs,⟨_,h⟩=>by simp[eX.length cs vs h]
 |[],_::_,H|_::_,[],H=>by cases H
theorem eX.get{X:V}:∀(cs:List SV)(vs:List Value)(i:Nat)(c:SV),eX X cs vs->cs[i]? =some c->∃v,vs[i]? =some v/\eU X c v
 |[],_,_,_,_,h=>by simp at h
 |c::cs,v::vs,0,d,⟨h1,_⟩,h=>by simp at h;subst h;exact⟨v,rfl,h1⟩
 |c::cs,v::vs,i+1,d,⟨_,h2⟩,h=>by
  obtain⟨u,hu,hr⟩:=eX.get cs vs i d h2 (by simpa using h);exact⟨u,by simpa using hu,hr⟩
 |_::_,[],_,_,H,_=>by cases H
theorem pU.length{X:V}:∀(cs:List Arg)(vs:List Value),pU X cs vs->vs.length=cs.length
 |[],[],_=>rfl
 |_::cs,_::vs,⟨_,h⟩=>by simp[pU.length cs vs h]
 |[],_::_,H|_::_,[],H=>by cases H
theorem pU.get{X:V}:∀(cs:List Arg)(vs:List Value)(i:Nat)(c:Arg),pU X cs vs->cs[i]? =some c->∃v,vs[i]? =some v/\rW X c v
 |[],_,_,_,_,h=>by simp at h
 |c::cs,v::vs,0,d,⟨h1,_⟩,h=>by simp at h;subst h;exact⟨v,rfl,h1⟩
 |c::cs,v::vs,i+1,d,⟨_,h2⟩,h=>by
  obtain⟨u,hu,hr⟩:=pU.get cs vs i d h2 (by simpa using h);exact⟨u,by simpa using hu,hr⟩
 |_::_,[],_,_,H,_=>by cases H
theorem rW.av{X:V}:∀(c:Arg)(v:Value),rW X c v->bK X c.av v
 |.sv _,_,h|.kp _,_,h|.fn _ _,_,h=>h
 |.own _ _ _,_,h|.ptr _,_,h=>h.elim
theorem apY{args:List Arg}{vs:Array Value}{S:Nat->Prop}(n:Nat)(hn:args.length<=n)
 (h:pU ⟨w,w.heap.size,S,λ_=>undef,λ_=>none⟩ args vs.toList):
 Rel w (λ_=>False) ⟨S,λ_=>none,λ_ _ h=>by cases h⟩ (λ_=>undef) (entry n args) {tmps:=vs++Array.replicate (n-vs.size) undef,defers:=[]} w:=by
 have hl:vs.size=args.length:=by simpa using pU.length _ _ h
 refine⟨λ_ h=>h.elim,rfl,?_,rfl,rfl,rfl,aw7 _,λ_ _ _=>rfl,λt=>?_,(λo x hx=>by cases hx),(λo x b hx=>by cases hx),(λo x p y b hx=>by cases hx),(λo v cs hN=>by cases hN)⟩
 .simp[entry];omega
 .simp only[entry];cases ha:args[t]? with
  |none=>trivial
  |some v=>
   obtain⟨u,hu,hr⟩:=pU.get _ _ t v h ha;have:(vs++Array.replicate (n-vs.size) undef).getD t undef=u:=by
    have hlt:t<args.length:=by
     rcases aw8 t args.length with h'|h'
     .exact h'
     .rw[axE h']at ha;cases ha
    have hlt':t<vs.size:=by omega
    rw[ayB,azI hlt'];have:vs[t]? =some u:=by simpa using hu
    rw[this];rfl
   rw[this];exact rW.av v u hr
end Go.Fw
namespace Go.Fw
def codeOf(fn:Func):Code:=match fn.body with|some c=>c|none=>.skip
def af4:List (Nat×TI)->jT
 |[],_=>none
 |(t,x)::r,i=>match Nat.beq i t with|true=>some x|false=>af4 r i
def Kv:List (Nat×Ot)->lC
 |[],_=>none
 |(t,x)::r,i=>match Nat.beq i t with|true=>some x|false=>Kv r i
def aoO:List (Nat×MQ)->Nat->Option MQ
 |[],_=>none
 |(t,x)::r,i=>match Nat.beq i t with|true=>some x|false=>aoO r i
def ar9:List (Nat×List Pre)->Nat->List Pre
 |[],_=>[]
 |(n,z)::r,i=>match Nat.beq i n with|true=>z|false=>ar9 r i
def hints(own:List Nat)(l c:List (Nat×MQ))(u:List Nat)(z:List (Nat×List Pre)):Hints:=⟨bH own,aoO l,aoO c,u,ar9 z⟩
end Go.Fw
namespace Go.Fw
open Go
variable {P:Program} {Θ:jT} {Γ:lC}
inductive tV where
 |one (c:iG)
 |agg (l:List iG)
@[reducible] def tV.den:tV->Type
  |.one c=>c.den
  |.agg l=>mZ l
def tV.val:(s:tV)->s.den->SV
 |.one c,x=>.one (c.cell x)
 |.agg l,x=>.agg (iT l x)
def tV.read:(s:tV)->SV->Option s.den
 |.one c,.one x=>c.read x
 |.agg l,.agg xs=>kV l xs
 |_,_=>none
theorem tV.weak{X:V}(s:tV)(x:SV)(d:s.den)(v:Value)(hr:s.read x=some d)(hv:eU X x v):eU X (s.val d) v:=by
 unfold tV.read at hr;split at hr
 .exact iG.weak _ _ _ _ hr hv
 .obtain⟨vs,e,h⟩:=hv;exact⟨vs,e,IA _ _ _ _ hr h⟩
 .cases hr
@[reducible] def yI:List tV->Type
  |[]=>Unit
  |s::r=>s.den×yI r
def uo:(l:List tV)->yI l->List SV
 |[],_=>[]
 |s::r,x=>s.val x.1::uo r x.2
def Vb:(l:List tV)->List SV->Option (yI l)
 |[],[]=>some ()
 |s::r,x::xs=>match s.read x,Vb r xs with
  |some a,some b=>some (a,b)
  |_,_=>none
 |_,_=>none
theorem apZ{X:V}:∀(l:List tV)(xs:List SV)(d:yI l)(vs:List Value),Vb l xs=some d->eX X xs vs->eX X (uo l d) vs
 |[],[],_,_,_,hv=>hv
 |s::r,x::xs,d,vs,hr,hv=>by
  rw[Vb]at hr;split at hr
  .next a b h1 h2=>
   cases hr;cases vs with
   |nil=>cases hv
   |cons v vs=>exact⟨tV.weak s x a v h1 hv.1,apZ r xs b vs h2 hv.2⟩
  .cases hr
 |[],_::_,_,_,hr,_=>by simp[Vb]at hr
 |_::_,[],_,_,hr,_=>by simp[Vb]at hr
mutual
def CT.vz:(c:CT)->c.den->Prop
 |.int k,(n:Int)=>k.min<=n/\n<=k.max
 |.bool,_=>True
 |.str,(s:Bytes)=>s.length<=maxLen
 |.sl _ r,(l:List r.den)=>l.length<=maxLen/\∀x∈l,r.vz x
def aK.vz:(r:aK)->r.den->Prop
 |.nil,_=>True
 |.cons c r,x=>c.vz x.1/\r.vz x.2
end
mutual
theorem jO.vz{h:Array Obj}{S:Nat->Prop}:∀(c:CT)(v:Value)(x:c.den),jO h S c v x->c.vz x
 |.int k,v,(n:Int),H=>by rw[jO]at H;rw[CT.vz];exact H.2
 |.bool,v,(b:Bool),H=>by rw[CT.vz];trivial
 |.str,v,(s:Bytes),H=>by rw[jO]at H;rw[CT.vz];exact H.2
 |.sl e r,v,(l:List r.den),H=>by
  rw[jO]at H;rw[CT.vz];refine⟨H.1,λx hx=>?_⟩;obtain⟨i,hi,rfl⟩:=ayH.1 hx;rcases H.2 with⟨hnil,_⟩|⟨b,off,cap,cs,t,fz,_,_,_,_,hr⟩
  .subst hnil;simp at hi
  .exact bQ.vz r _ _ (hr i _ (awV hi))
theorem bQ.vz{h:Array Obj}{S:Nat->Prop}:∀(r:aK)(vs:List Value)(x:r.den),bQ h S r vs x->r.vz x
 |.nil,vs,_,H=>by rw[aK.vz];trivial
 |.cons c r,vs,(x,y),H=>by rw[bQ]at H;obtain⟨v,vs',_,h1,h2⟩:=H;rw[aK.vz];exact⟨jO.vz c v x h1,bQ.vz r vs' y h2⟩
end
def iG.vz:(c:iG)->c.den->Prop
 |.int k,(n:Int)=>k.min<=n/\n<=k.max
 |.str,(s:Bytes)=>s.length<=maxLen
 |.sl _ r _,(l:List r.den)=>l.length<=maxLen/\∀x∈l,r.vz x
 |_,_=>True
def acg:(l:List iG)->mZ l->Prop
 |[],_=>True
 |c::r,x=>c.vz x.1/\acg r x.2
def tV.vz:(s:tV)->s.den->Prop
 |.one c,x=>c.vz x
 |.agg l,x=>acg l x
theorem iG.ach{X:V}(c:iG)(x:c.den)(v:Value)(h:bJ X (c.cell x) v):c.vz x:=by
 cases c with
 |int k=>exact h.2
 |str=>exact h.2
 |sl e r fr=>
  have h':jO X.w.heap (X.dJ fr) (.sl e r) v x:=h;have:=jO.vz (.sl e r) v x h';rw[CT.vz]at this;exact this
 |_=>trivial
theorem NS{X:V}:∀(l:List iG)(x:mZ l)(vs:List Value),ak X (iT l x) vs->acg l x
 |[],_,_,_=>trivial
 |c::r,x,v::vs,h=>⟨iG.ach c x.1 v h.1,NS r x.2 vs h.2⟩
 |_::_,_,[],h=>by cases h
inductive jy where
 |v (s:tV)
 |kp (l:List iG)
 |fn (f:FuncId) (l:List (List iG))
@[reducible] def jy.den:jy->Type
  |.v s=>s.den
  |.kp l=>mZ l
  |.fn _ l=>E8 l
def jy.val:(s:jy)->s.den->Arg
 |.v s,x=>.sv (s.val x)
 |.kp l,x=>.kp (iT l x)
 |.fn f l,x=>.fn f (NP l x)
def jy.read:(s:jy)->Arg->Option s.den
 |.v s,.sv x=>s.read x
 |.kp l,.kp xs=>kV l xs
 |.fn f l,.fn g xs=>match Nat.beq f g with|true=>Jv l xs|false=>none
 |_,_=>none
theorem jy.weak{X:V}(s:jy)(x:Arg)(d:s.den)(v:Value)(hr:s.read x=some d)(hv:rW X x v):rW X (s.val d) v:=by
 unfold jy.read at hr;split at hr
 .exact tV.weak _ _ _ _ hr hv
 .obtain⟨b,e,hk⟩:=hv;exact⟨b,e,ajY hr hk⟩
 .split at hr
  .next hb=>obtain⟨us,e,hk⟩:=hv;rw[jy.val,awQ hb];exact⟨us,e,aah _ _ _ _ hr hk⟩
  .cases hr
 .cases hr
@[reducible] def nO:List jy->Type
  |[]=>Unit
  |s::r=>s.den×nO r
def yh:(l:List jy)->nO l->List Arg
 |[],_=>[]
 |s::r,x=>s.val x.1::yh r x.2
def KJ:(l:List jy)->List Arg->Option (nO l)
 |[],[]=>some ()
 |s::r,x::xs=>match s.read x,KJ r xs with
  |some a,some b=>some (a,b)
  |_,_=>none
 |_,_=>none
theorem ap0{X:V}:∀(l:List jy)(xs:List Arg)(d:nO l)(vs:List Value),KJ l xs=some d->pU X xs vs->pU X (yh l d) vs
 |[],[],_,_,_,hv=>hv
 |s::r,x::xs,d,vs,hr,hv=>by
  rw[KJ]at hr;split at hr
  .next a b h1 h2=>
   cases hr;cases vs with
   |nil=>cases hv
   |cons v vs=>exact⟨jy.weak s x a v h1 hv.1,ap0 r xs b vs h2 hv.2⟩
  .cases hr
 |[],_::_,_,_,hr,_=>by simp[KJ]at hr
 |_::_,[],_,_,hr,_=>by simp[KJ]at hr
theorem YA:∀(l:List jy)(d:nO l),(yh l d).length=l.length
 |[],_=>rfl
 |_::r,d=>by simp[yh,YA r d.2]
def aiw:(l:List (List iG))->E8 l->Prop
 |[],_=>True
 |c::r,x=>acg c x.1/\aiw r x.2
def jy.vz:(s:jy)->s.den->Prop
 |.v s,x=>s.vz x
 |.kp l,x=>acg l x
 |.fn _ l,x=>aiw l x
def O8:(l:List jy)->nO l->Prop
 |[],_=>True
 |s::r,x=>s.vz x.1/\O8 r x.2
theorem adC{X:V}:∀(l:List (List iG))(x:E8 l)(us:List Value),fZ X (NP l x) us->aiw l x
 |[],_,_,_=>trivial
 |c::r,x,u::us,h=>by
  obtain⟨⟨b,hu,arr,t,fz,hf,hh,hc⟩,h2⟩:=h;exact⟨NS c x.1 _ hc,adC r x.2 us h2⟩
 |_::_,_,[],h=>by cases h
theorem F8{X:V}:∀(l:List jy)(x:nO l)(vs:List Value),pU X (yh l x) vs->O8 l x
 |[],_,_,_=>trivial
 |.v (.one c)::r,x,v::vs,h=>⟨iG.ach c x.1 v h.1,F8 r x.2 vs h.2⟩
 |.v (.agg l)::r,x,v::vs,h=>by
  obtain⟨ws,hv,hc⟩:=h.1;exact⟨NS l x.1 _ hc,F8 r x.2 vs h.2⟩
 |.kp l::r,x,v::vs,h=>by
  obtain⟨b,hu,arr,t,fz,hf,hh,hc⟩:=h.1;exact⟨NS l x.1 _ hc,F8 r x.2 vs h.2⟩
 |.fn f l::r,x,v::vs,h=>by
  obtain⟨us,hv,hk⟩:=h.1;exact⟨adC l x.1 _ hk,F8 r x.2 vs h.2⟩
 |_::_,_,[],h=>by cases h
def O9(sh:List jy)(F:nO sh->Prop×Out):Yu:=λargs=>
 match KJ sh args with
 |some x=>some (F x)
 |none=>none
def Ej:List SV->List (Bool×List gK)
 |[]=>[]
 |v::vs=>outOf v::Ej vs
theorem Vd:∀(k:Nat)(vs:List SV),jh k (Ej vs)=(vs,[])
 |_,[]=>rfl
 |k,v::vs=>by simp only[Ej,jh,ang,Vd,axK]
def af5(Θ:jT)(rv:List ResultVar)(dM:List tV)(K:yI dM->Prop)(e:Exit)(st:St):Prop:=
 match e with
 |.normal|.ret=>match Qr Θ (st.freeze (SQ st)) rv with
  |some vs=>match Vb dM (vs.map (SV.kill λ_=>true))with
   |some d=>K d
   |none=>False
  |none=>False
 |_=>False
theorem asJ{G:kR}(hE:EnvB P G Θ Γ)(hm:P.follows .mixedOrders=true){f:FuncId}{fn:Func}{c:Code}(hf:P.funcs[f]? =some fn)(hb:fn.body=some c)(H:Hints){con:Yu}{dM:List tV}
 (hwalk:∀args p out,con args=some (p,out)->p->Nat.ble args.length fn.ntmps=true/\∃d:yI dM,out=⟨Ej (uo dM d),none⟩/\KI Θ Γ H c (af5 Θ fn.results.toList dM λy=>y=d) (entry fn.ntmps args)):rG P G f con:=by
 intro args p out k S vs w hcon hp hG hrep;obtain⟨hn,d,hout,hw⟩:=hwalk args p out hcon hp;subst hout;have hn':args.length<=fn.ntmps:=by simpa[ay1]using hn
 refine calls_of_wp hf hb (aak ⟨hE,hG,λb hb=>hb.elim⟩ hm H c _ _ _ _ _ _ (apY (S:=S) fn.ntmps hn' hrep) hw ?_);have hret:∀s γ' a' w',af5 Θ fn.results.toList dM (λy=>y=d) .ret s->Rel w (λ_=>False) ⟨S,λ_=>none,λ_ _ h=>by cases h⟩ γ' s a' w'->bodyPost P fn (λe w'=>∃v vals,e=.returned v/\w'.os=w.os/\w'.tape=w.tape/\w'.output=w.output/\w.heap.size<=w'.heap.size/\
  (∀b,b<w.heap.size->w'.heap[b]? =w.heap[b]?)/\
  bK ⟨w',w.heap.size,S,vals,look (Out.take k ⟨Ej (uo dM d),none⟩).2⟩ (Out.take k ⟨Ej (uo dM d),none⟩).1 v/\
  (∀o x,look (Out.take k ⟨Ej (uo dM d),none⟩).2 o=some x->dh ⟨w',w.heap.size,S,vals,look (Out.take k ⟨Ej (uo dM d),none⟩).2⟩ o x/\∀b,blk (vals o)=some b->w.heap.size<=b/\b<w'.heap.size)/\
  (∀o x q y b,look (Out.take k ⟨Ej (uo dM d),none⟩).2 o=some x->look (Out.take k ⟨Ej (uo dM d),none⟩).2 q=some y->o≠q->blk (vals o)=some b->blk (vals q)≠some b)) .ret a' w':=by
  intro s γ' a' w' he hR;refine⟨hR.defers,?_⟩;simp only[af5]at he;split at he
  .next svs hvs=>
   split at he
   .next y hy=>
    subst he;have hRf:=hR.freeze (SQ s);obtain⟨us,hus,hrs⟩:=Qs hE.types hRf _ _ hvs;have hk0:=eX.kill (λ_=>true) hRf svs us hrs;have hk:=apZ dM _ y us hy hk0;have htake:Out.take k ⟨Ej (uo dM y),none⟩=(match uo dM y with|[v]=>.sv v|l=>.nS l,[]):=by unfold Out.take;simp only[Vd];rcases uo dM y with _|⟨v,_|⟨v2,r⟩⟩<;>rfl
    have hmap:(fn.results.mapM (NR a'.tmps)).run P w'=.ok us.toArray w':=by rw[azg,Sem.run_map,hus];rfl
    refine⟨if h:us.toArray.size=1 then us.toArray[0]else .tuple us.toArray,?_,_,γ',rfl,hR.os,hR.tape,hR.output,hR.grow,λb hb=>hR.kept b hb (λh=>h),?_,?_,?_⟩
    .rw[WR,axc,hmap];simp only[axC,axU]
    .rw[htake];have hl:=eX.length _ _ hk
     match hm:uo dM y,us,hk,hl with
     |[v],[u],hk,_=>exact hk.1
     |[],[],hk,_=>exact⟨_,by simp,hk⟩
     |v::v2::r,u::u2::us,hk,hl=>exact⟨_,by simp,hk⟩
     |[],_::_,hk,h4|_::_,[],hk,h4|[_],_::_::_,hk,h4|_::_::_,[_],hk,h4=>simp at h4
    .intro o x hx;rw[htake]at hx;cases hx
    .intro o x q y b hx;rw[htake]at hx;cases hx
   .exact he.elim
  .exact he.elim
 intro e s γ' a' w' he hR;cases e with
 |normal=>exact hret s γ' a' w' he hR
 |ret=>exact hret s γ' a' w' he hR
 |_=>exact he.elim
def H9(sh:List jy)(dM:List tV)(F:nO sh->Prop×yI dM):Yu:=O9 sh λx=>((F x).1,⟨Ej (uo dM (F x).2),none⟩)
theorem aix{G:kR}(hE:EnvB P G Θ Γ)(hm:P.follows .mixedOrders=true){f:FuncId}{fn:Func}{c:Code}(hf:P.funcs[f]? =some fn)(hb:fn.body=some c)(H:Hints)
 {sh:List jy} {dM:List tV} {F:nO sh->Prop×yI dM} (hn:Nat.ble sh.length fn.ntmps=true)
 (hwalk:∀x,O8 sh x->(F x).1->KI Θ Γ H c (af5 Θ fn.results.toList dM λy=>y=(F x).2) (entry fn.ntmps (yh sh x))):rG P G f (H9 sh dM F):=by
 have base:∀x,O8 sh x->rG P G f (λargs=>@ite _ (args=yh sh x) (Classical.propDecidable _) (some ((F x).1,⟨Ej (uo dM (F x).2),none⟩)) none):=by
  intro x hin;refine asJ (dM:=dM) hE hm hf hb H ?_;intro args p out hcon hp;split at hcon
  .next e=>
   have hF:((F x).1,(⟨Ej (uo dM (F x).2),none⟩:Out))=(p,out):=by simpa using hcon
   have h1:(F x).1=p:=congrArg Prod.fst hF;have h2:(⟨Ej (uo dM (F x).2),none⟩:Out)=out:=congrArg Prod.snd hF;have:=hwalk x hin (by rw[h1];exact hp);rw[e];exact⟨by rw[YA];exact hn,(F x).2,h2.symm,this⟩
  .cases hcon
 intro args p out k S vs w hcon hp hG hrep;unfold H9 O9 at hcon;split at hcon
 .next x hx=>have hv:=ap0 sh args x vs.toList hx hrep;exact base x (F8 sh x _ hv) (yh sh x) p out k S vs w (by simp only[if_true];exact hcon) hp hG hv
 .cases hcon
inductive RC where
 |c (s:iG)
 |own (e:TypeId) (r:aK) (fr:Bool)
@[reducible] def RC.den:RC->Type
  |.c s=>s.den
  |.own _ r _=>List r.den
@[reducible] def af6:List RC->Type
  |[]=>Unit
  |c::r=>c.den×af6 r
def RC.aoP:(c:RC)->c.den->gK
 |.c s,x=>.plain (s.cell x)
 |.own e r fr,l=>.own e r l fr
def aiy:(l:List RC)->af6 l->List gK
 |[],_=>[]
 |c::r,x=>c.aoP x.1::aiy r x.2
inductive oC where
 |one (c:RC)
 |agg (l:List RC)
@[reducible] def oC.den:oC->Type
  |.one c=>c.den
  |.agg l=>af6 l
@[reducible] def kP:List oC->Type
  |[]=>Unit
  |s::r=>s.den×kP r
def oC.out:(s:oC)->s.den->Bool×List gK
 |.one c,x=>(false,[c.aoP x])
 |.agg l,x=>(true,aiy l x)
def jk:(l:List oC)->kP l->List (Bool×List gK)
 |[],_=>[]
 |s::r,x=>s.out x.1::jk r x.2
def RC.name:RC->Cell->Option Nat
 |.own _ _ _,.ref o=>some o
 |_,_=>none
def aiz:List RC->List Cell->List (Option Nat)
 |c::r,x::xs=>c.name x::aiz r xs
 |_,_=>[]
def oC.names:oC->SV->List (Option Nat)
 |.one c,.one x=>[c.name x]
 |.agg l,.agg xs=>aiz l xs
 |_,_=>[]
def Fa:List oC->List SV->List (Option Nat)
 |s::r,x::xs=>s.names x++Fa r xs
 |_,_=>[]
def RC.read(st:St):(c:RC)->Cell->Option c.den
 |.c s,x=>match x.refs with|[]=>s.read x|_=>none
 |.own e r fr,.ref o=>match st.ah o with
  |some (.arr f s l g)=>match Nat.beq e f&&Qq fr g with
   |true=>if h:s.beq r=true then some (xB h l)else none
   |false=>none
  |_=>none
 |.own _ r _,.nil=>match Nat.ble 1 r.len with|true=>some []|false=>none
 |_,_=>none
def Ve(st:St):(l:List RC)->List Cell->Option (af6 l)
 |[],[]=>some ()
 |c::r,x::xs=>match c.read st x,Ve st r xs with
  |some a,some b=>some (a,b)
  |_,_=>none
 |_,_=>none
def oC.read(st:St):(s:oC)->SV->Option s.den
 |.one c,.one x=>c.read st x
 |.agg l,.agg xs=>Ve st l xs
 |_,_=>none
def F9(st:St):(l:List oC)->List SV->Option (kP l)
 |[],[]=>some ()
 |s::r,x::xs=>match s.read st x,F9 st r xs with
  |some a,some b=>some (a,b)
  |_,_=>none
 |_,_=>none
inductive gQ where
 |p (s:jy)
 |own (e:TypeId) (r:aK)
 |ptr (l:List iG)
@[reducible] def gQ.den:gQ->Type
  |.p s=>s.den
  |.own _ r=>List r.den
  |.ptr l=>mZ l
def gQ.mode:gQ->Mode
 |.p _=>.val
 |.own _ _=>.own
 |.ptr _=>.ptr
def gQ.val:(s:gQ)->s.den->Arg
 |.p s,x=>s.val x
 |.own e r,l=>.own e r l
 |.ptr l,x=>.ptr (iT l x)
def gQ.read:(s:gQ)->Arg->Option s.den
 |.p s,x=>s.read x
 |.own e r,.own f s l=>match Nat.beq e f with
  |true=>if h:s.beq r=true then some (xB h l)else none
  |false=>none
 |.ptr l,.ptr cs=>kV l cs
 |_,_=>none
@[reducible] def jg:List gQ->Type
  |[]=>Unit
  |s::r=>s.den×jg r
def vY:(l:List gQ)->jg l->List Arg
 |[],_=>[]
 |s::r,x=>s.val x.1::vY r x.2
def jl:(l:List gQ)->List Arg->Option (jg l)
 |[],[]=>some ()
 |s::r,x::xs=>match s.read x,jl r xs with
  |some a,some b=>some (a,b)
  |_,_=>none
 |_,_=>none
@[reducible] def kF:List gQ->Type
  |[]=>Unit
  |.ptr l::r=>mZ l×kF r
  |.p _::r|.own _ _::r=>kF r
def jm:(l:List gQ)->kF l->List Eff
 |[],_=>[]
 |.ptr l::r,x=>.var (iT l x.1)::jm r x.2
 |.p _::r,x|.own _ _::r,x=>.lose::jm r x
def NT(st:St):(i:Nat)->(l:List gQ)->Option (kF l)
 |_,[]=>some ()
 |i,.ptr l::r=>match st.ah (i*64+48),NT st (i+1) r with
  |some (.var cs),some b=>match cs.flatMap Cell.refs,kV l cs with
   |[],some a=>some (a,b)
   |_,_=>none
  |_,_=>none
 |i,.p _::r|i,.own _ _::r=>NT st (i+1) r
def Arg.avX(i:Nat):Arg->AV
 |.own _ _ _=>.sv (.one (.ref (i*64+49)))
 |.ptr _=>.bC (i*64+48) 0
 |a=>a.av
def IC(n:Nat)(args:List Arg):St:=
 {n:=n,tmps:=λt=>match args[t]? with|some v=>v.avX t|none=>.undef,ah:=dO args}
def af7(st:St)(W:List (Option Nat))(o:Nat):Bool:=SQ st o&&!(ZP o W)
def alg(Θ:jT)(rv:List ResultVar)(sh:List gQ)(dM:List oC)(K:kP dM×kF sh->Prop)(e:Exit)(st:St):Prop:=
 match e with
 |.normal|.ret=>match Qr Θ st rv with
  |some svs=>match Qr Θ (st.freeze (af7 st (Fa dM svs))) rv with
   |some vs=>match Df (Fa dM vs),F9 (st.freeze (af7 st (Fa dM svs))) dM vs,NT (st.freeze (af7 st (Fa dM svs))) 0 sh with
    |true,some d,some b=>K (d,b)
    |_,_,_=>False
   |none=>False
  |none=>False
 |_=>False
def mX(sh:List gQ)(dM:List oC)(F:jg sh->Prop×(kP dM×kF sh->Prop)):Cm:=λargs=>
 match jl sh args with
 |some x=>some ((F x).1,⟨kP dM×kF sh,(F x).2,λt=>⟨jk dM t.1,none⟩,λt=>jm sh t.2⟩)
 |none=>none
def oH(sh:List gQ):List Mode:=sh.map gQ.mode
end Go.Fw
namespace Go.Fw
open Go
variable {P:Program} {w0:World} {M:Nat->Prop} {T:Ext} {γ γ':Nat->Value} {st:St} {a:Act} {w w':World} {Θ:jT} {Γ:lC}
def aiA(args:List Arg)(γ:Nat->Value)(o:Nat):Option Value:=match dO args o with|some (.var _)=>some (γ o)|_=>none
theorem arb{args:List Arg}{o:Nat}{cs:List Cell}(h:dO args o=some (.var cs)):o%64=48:=by
 unfold dO at h;split at h
 .split at h<;>cases h
 .split at h
  .next hm=>exact awQ hm
  .cases h
 .cases h
def aal(args:List Arg)(γ:Nat->Value)(S:Nat->Prop):Ext where
 S:=λb=>S b\/yg (dO args) γ b
 N:=aiA args γ
 n48:=by
  intro p v h;unfold aiA at h;split at h
  .next cs hc=>exact arb hc
  .cases h
theorem Aw.get{X:V}:∀(as:List Arg)(vs:List Value)(i:Nat),Aw X i as vs->as.length=vs.length/\∀(j:Nat)(b:Arg),as[j]? =some b->∃v,vs[j]? =some v/\Qk X (i+j) b v
 |[],[],_,_=>⟨rfl,λj b h=>by simp at h⟩
 |x::as,v::vs,i,⟨h1,h2⟩=>by
  obtain⟨g1,g2⟩:=Aw.get as vs (i+1) h2;refine⟨by simp[g1],λj b hb=>?_⟩;cases j with
  |zero=>simp at hb;subst hb;exact⟨v,rfl,h1⟩
  |succ j=>
   obtain⟨u,hu,hr⟩:=g2 j b (by simpa using hb);exact⟨u,by simpa using hu,by rw[show i+(j+1)=i+1+j by omega];exact hr⟩
 |[],_::_,_,H|_::_,[],_,H=>by cases H
theorem Qk.av{X:V}(i:Nat):∀(c:Arg)(v:Value),Qk X i c v->bK X (c.avX i) v
 |.own _ _ _,_,h=>h
 |.ptr _,_,h=>h
 |.sv _,_,h|.kp _,_,h|.fn _ _,_,h=>h
theorem af8{args:List Arg}{vs:Array Value}{S:Nat->Prop}(n:Nat)(hn:args.length<=n)
 (h:Aw ⟨w,w.heap.size,S,γ,dO args⟩ 0 args vs.toList)
 (ho:∀o x,dO args o=some x->dh ⟨w,w.heap.size,S,γ,dO args⟩ o x/\∀b,blk (γ o)=some b->b<w.heap.size)
 (hs:∀o x q y b,dO args o=some x->dO args q=some y->o≠q->blk (γ o)=some b->blk (γ q)≠some b):
 Rel w (yg (dO args) γ) (aal args γ S) γ (IC n args) {tmps:=vs++Array.replicate (n-vs.size) undef,defers:=[]} w:=by
 obtain⟨hl0,hget⟩:=Aw.get _ _ 0 h;have hl:vs.size=args.length:=by simpa using hl0.symm
 have le:V.le ⟨w,w.heap.size,S,γ,dO args⟩ ⟨w,w.heap.size,(aal args γ S).S,γ,dO args⟩:=
  ⟨aw7 _,λb hb=>⟨⟨hb.1,λhlt=>.inl (hb.2.1 hlt),hb.2.2⟩,rfl⟩,λo cs hx=>⟨⟨cs,hx⟩,rfl⟩,λo e r l fr hx=>⟨⟨l,fr,hx⟩,rfl⟩⟩
 refine⟨λb hb=>.inr hb,rfl,?_,rfl,rfl,rfl,aw7 _,λ_ _ _=>rfl,λt=>?_,λo x hx=>dh.mono le o x (λ_ _=>rfl) rfl (ho o x hx).1,λo x b hx hb=>⟨(ho o x hx).2 b hb,.inr ⟨o,x,hx,hb⟩⟩,λo x p y b hx hy hop hb=>hs o x p y b hx hy hop hb,λo v cs hN hx=>?_⟩
 .simp[IC];omega
 .simp only[IC];cases ha:args[t]? with
  |none=>trivial
  |some v=>
   obtain⟨u,hu,hr⟩:=hget t v ha;have:(vs++Array.replicate (n-vs.size) undef).getD t undef=u:=by
    have hlt:t<args.length:=by
     rcases aw8 t args.length with h'|h'
     .exact h'
     .rw[axE h']at ha;cases ha
    have hlt':t<vs.size:=by omega
    rw[ayB,azI hlt'];have:vs[t]? =some u:=by simpa using hu
    rw[this];rfl
   rw[this];rw[axn]at hr;exact bK.mono le _ _ (Qk.av t v u hr)
 .have hx':dO args o=some (.var cs):=hx;have hN':aiA args γ o=some v:=hN;unfold aiA at hN';rw[hx']at hN';exact Option.some.inj hN'
def AW(a a':Arg):Prop:=
 (∃e r l,a=.own e r l/\a'=.own e r l)\/(∃cs cs',a=.ptr cs/\a'=.ptr cs'/\∀(X:V) vs,ak X cs vs->ak X cs' vs)\/
 ((∀(X:V) v,bK X a.av v->bK X a'.av v)/\(∀i,a.avX i=a.av)/\(∀i,a'.avX i=a'.av)/\(∀e r l,a≠ .own e r l)/\(∀cs,a≠ .ptr cs)/\(∀e r l,a'≠ .own e r l)/\(∀cs,a'≠ .ptr cs))
theorem jy.aoQ{s:jy}{x:Arg}{d:s.den}(h:s.read x=some d):AW x (s.val d):=by
 refine .inr (.inr ⟨λX v hv=>?_,?_⟩)
 .have hx:rW X x v:=by
   cases x with
   |sv _|kp _|fn _ _=>exact hv
   |own _ _ _|ptr _=>cases s<;>simp[jy.read]at h
  exact rW.av _ _ (jy.weak s x d v h hx)
 .cases x<;>cases s<;>first
   |(simp[jy.read]at h;done)
   |exact⟨λ_=>rfl,λ_=>rfl,(λ_ _ _ e=>by cases e),(λ_ e=>by cases e),(λ_ _ _ e=>by cases e),(λ_ e=>by cases e)⟩
theorem gQ.aoQ{s:gQ}{x:Arg}{d:s.den}(h:s.read x=some d):AW x (s.val d):=by
 unfold gQ.read at h;split at h
 .exact jy.aoQ h
 .next e r f s l=>
  split at h
  .next hb=>
   split at h
   .next hs=>cases h;have he:=awQ hb;subst he;have hsr:=aK.eq_of_beq s r hs;subst hsr;exact .inl ⟨e,s,l,rfl,rfl⟩
   .cases h
  .cases h
 .next l cs=>exact .inr (.inl ⟨cs,_,rfl,rfl,λX vs hc=>IA _ _ _ _ h hc⟩)
 .cases h
theorem Pe:∀{l:List gQ}{xs:List Arg}{d:jg l},jl l xs=some d->(vY l d).length=xs.length/\∀(i:Nat)(a:Arg),xs[i]? =some a->∃a',(vY l d)[i]? =some a'/\AW a a'
 |[],[],_,_=>⟨rfl,λi a h=>by simp at h⟩
 |s::r,x::xs,d,h=>by
  rw[jl]at h;split at h
  .next a b h1 h2=>
   cases h;obtain⟨g1,g2⟩:=Pe h2;refine⟨by simp[vY,g1],λi c hc=>?_⟩;cases i with
   |zero=>simp at hc;subst hc;exact⟨_,rfl,gQ.aoQ h1⟩
   |succ i=>obtain⟨c',k1,k2⟩:=g2 i c (by simpa using hc);exact⟨c',by simpa[vY]using k1,k2⟩
  .cases h
 |[],_::_,_,h=>by simp[jl]at h
 |_::_,[],_,h=>by simp[jl]at h
theorem SX{args:List Arg}{o:Nat}(h:∀b,args[o / 64]? =some b->(∀e r l,b≠ .own e r l)/\∀cs,b≠ .ptr cs):dO args o=none:=by
 unfold dO;split
 .next e r l ha=>exact((h _ ha).1 e r l rfl).elim
 .next cs ha=>exact((h _ ha).2 cs rfl).elim
 .rfl
theorem YB{sh:List gQ}{args:List Arg}{x:jg sh}(h:jl sh args=some x)(n:Nat):Covers (IC n (vY sh x)) (IC n args):=by
 obtain⟨hl,hget⟩:=Pe h;refine⟨rfl,λt X v hv=>?_,λo=>?_⟩
 .simp only[IC]at hv ⊢;cases ha:args[t]? with
  |none=>
   have:(vY sh x)[t]? =none:=by rw[azP]at ha ⊢;omega
   rw[this];trivial
  |some b=>
   obtain⟨b',hb',hw⟩:=hget t b ha;rw[ha]at hv;rw[hb'];dsimp only at hv ⊢;rcases hw with⟨e,r,l,rfl,rfl⟩|⟨cs,cs',rfl,rfl,_⟩|⟨hw,e1,e2,_⟩
   .exact hv
   .exact hv
   .rw[e1]at hv;rw[e2];exact hw X v hv
 .show(dO (vY sh x) o=none/\dO args o=none)\/∃y y',dO args o=some y/\dO (vY sh x) o=some y'/\MP y y';cases ha:args[o / 64]? with
  |none=>
   have h2:(vY sh x)[o / 64]? =none:=by rw[azP]at ha ⊢;omega
   exact .inl ⟨SX (by rw[h2];intro b hb;cases hb),SX (by rw[ha];intro b hb;cases hb)⟩
  |some b=>
   obtain⟨b',hb',hw⟩:=hget _ b ha;rcases hw with⟨e,r,l,rfl,rfl⟩|⟨cs,cs',rfl,rfl,hc⟩|⟨_,_,_,n1,n2,n3,n4⟩
   .unfold dO;rw[ha,hb'];dsimp only;cases hm:Nat.beq (o%64) 49 with
    |true=>exact .inr ⟨_,_,rfl,rfl,.inr ⟨e,r,l,false,false,rfl,rfl,id⟩⟩
    |false=>exact .inl ⟨rfl,rfl⟩
   .unfold dO;rw[ha,hb'];dsimp only;cases hm:Nat.beq (o%64) 48 with
    |true=>exact .inr ⟨_,_,rfl,rfl,.inl ⟨cs,cs',rfl,rfl,hc⟩⟩
    |false=>exact .inl ⟨rfl,rfl⟩
   .exact .inl ⟨SX (by rw[hb'];intro c hc;cases hc;exact⟨n3,n4⟩),SX (by rw[ha];intro c hc;cases hc;exact⟨n1,n2⟩)⟩
theorem adD(a b:List (Nat×aX))(p:Nat):look (a++b) p=match look b p with|some y=>some y|none=>look a p:=by
 induction a with
 |nil=>simp only[ayg,look];cases look b p<;>rfl
 |cons x a ih=>obtain⟨o,z⟩:=x;rw[ayz,look,ih,look];cases look b p<;>rfl
theorem xC:∀(cs:List gK)(k p:Nat)(x:aX),look (kU k cs).2 p=some x↔∃i e r l fr,p=k+i/\cs[i]? =some (.own e r l fr)/\x=.arr e r l fr
 |[],k,p,x=>by simp[kU,look]
 |c::cs,k,p,x=>by
  rw[kU,adD];have ih:=xC cs (k+1) p x;constructor
  .intro h;split at h
   .next y hy=>cases h;obtain⟨i,e,r,l,fr,h1,h2,h3⟩:=(xC cs (k+1) p x).1 hy;exact⟨i+1,e,r,l,fr,by omega,by simpa using h2,h3⟩
   .next hn=>
    cases c with
    |plain c=>simp[gK.take,look]at h
    |own e r l fr=>
     simp only[gK.take,look]at h;split at h
     .next hb=>cases h;exact⟨0,e,r,l,fr,by have:=awQ hb;omega,rfl,rfl⟩
     .cases h
  .rintro⟨i,e,r,l,fr,h1,h2,rfl⟩;cases i with
   |succ i=>
    have:=(xC cs (k+1) p (.arr e r l fr)).2 ⟨i,e,r,l,fr,by omega,by simpa using h2,rfl⟩;rw[this]
   |zero=>
    simp at h2;subst h2;have hn:look (kU (k+1) cs).2 p=none:=by
     cases hl:look (kU (k+1) cs).2 p with
     |none=>rfl
     |some y=>obtain⟨i,_,_,_,_,g1,_⟩:=(xC cs (k+1) p y).1 hl;omega
    rw[hn];have hp:p=k:=by omega
    subst hp;simp[gK.take,look]
def Pg(rs:List (Bool×List gK)):List gK:=rs.flatMap (·.2)
theorem anh(k:Nat)(x:Bool×List gK):(zq k x).2=(kU k x.2).2:=by
 unfold zq;split
 .next e1 e2=>rw[e2]
 .next e1 e2=>rw[e2]
 .next e1 e2=>rw[e2]
theorem EJ:∀(rs:List (Bool×List gK))(k p:Nat)(x:aX),look (jh k rs).2 p=some x↔∃i e r l fr,p=k+i/\(Pg rs)[i]? =some (.own e r l fr)/\x=.arr e r l fr
 |[],k,p,x=>by simp[jh,look,Pg]
 |y::rs,k,p,x=>by
  rw[jh,adD,anh];have aoR:Pg (y::rs)=y.2++Pg rs:=rfl;constructor
  .intro h;split at h
   .next z hz=>cases h;obtain⟨i,e,r,l,fr,h1,h2,h3⟩:=(EJ rs (k+y.2.length) p x).1 hz;refine⟨y.2.length+i,e,r,l,fr,by omega,?_,h3⟩;rw[aoR,axl (by omega)];simpa using h2
   .obtain⟨i,e,r,l,fr,h1,h2,h3⟩:=(xC y.2 k p x).1 h;refine⟨i,e,r,l,fr,h1,?_,h3⟩;rw[aoR,axq (aw3.1 h2).1];exact h2
  .rintro⟨i,e,r,l,fr,h1,h2,rfl⟩;rw[aoR]at h2;rcases aw8 i y.2.length with hlt|hge
   .rw[axq hlt]at h2;have hn:look (jh (k+y.2.length) rs).2 p=none:=by
     cases hl:look (jh (k+y.2.length) rs).2 p with
     |none=>rfl
     |some z=>obtain⟨j,_,_,_,_,g1,_⟩:=(EJ rs (k+y.2.length) p z).1 hl;omega
    rw[hn];exact(xC y.2 k p _).2 ⟨i,e,r,l,fr,h1,h2,rfl⟩
   .rw[axl hge]at h2;have:=(EJ rs (k+y.2.length) p (.arr e r l fr)).2 ⟨i-y.2.length,e,r,l,fr,by omega,h2,rfl⟩;rw[this]
end Go.Fw
namespace Go.Fw
open Go
set_option linter.unusedVariables false
variable {P:Program} {w0:World} {M:Nat->Prop} {T:Ext} {γ γ':Nat->Value} {st:St} {a:Act} {w w':World} {Θ:jT} {Γ:lC}
def RF(Y:V)(c:gK)(v:Value)(n:Option Nat):Prop:=
 match c with
 |.plain x=>bJ Y x v/\x.refs=[]
 |.own e r l fr=>0<r.len/\((∃o g,n=some o/\Y.ah o=some (.arr e r l g)/\Qq fr g=true/\v=Y.γ o/\v.oneCell'=true)\/(l=[]/\v=.slice none 0 0))
def IE(Y:V):List gK->List Value->List (Option Nat)->Prop
 |[],[],[]=>True
 |c::cs,v::vs,n::ns=>RF Y c v n/\IE Y cs vs ns
 |_,_,_=>False
theorem IE.append{Y:V}:∀(cs:List gK)(vs:List Value)(ns:List (Option Nat))(ds:List gK)(us:List Value)(ms:List (Option Nat)),IE Y cs vs ns->IE Y ds us ms->IE Y (cs++ds) (vs++us) (ns++ms)
 |[],[],[],_,_,_,_,h=>h
 |_::cs,_::vs,_::ns,ds,us,ms,⟨h1,h2⟩,h=>⟨h1,IE.append cs vs ns ds us ms h2 h⟩
theorem IE.length{Y:V}:∀(cs:List gK)(vs:List Value)(ns:List (Option Nat)),IE Y cs vs ns->cs.length=vs.length
 |[],[],[],_=>rfl
 |_::cs,_::vs,_::ns,⟨_,h2⟩=>by simp[IE.length cs vs ns h2]
theorem IE.get{Y:V}:∀(cs:List gK)(vs:List Value)(ns:List (Option Nat))(i:Nat)(c:gK),IE Y cs vs ns->cs[i]? =some c->∃v n,vs[i]? =some v/\ns[i]? =some n/\RF Y c v n
 |[],[],[],i,c,_,h=>by simp at h
 |x::cs,v::vs,n::ns,0,c,⟨h1,_⟩,h=>by simp at h;subst h;exact⟨v,n,rfl,rfl,h1⟩
 |x::cs,v::vs,n::ns,i+1,c,⟨_,h2⟩,h=>by obtain⟨u,m,g1,g2,g3⟩:=IE.get cs vs ns i c h2 (by simpa using h);exact⟨u,m,by simpa using g1,by simpa using g2,g3⟩
theorem iG.aj1(c:iG)(x:Cell)(d:c.den)(h:c.read x=some d)(hx:x.refs=[]):(c.cell d).refs=[]:=by cases c<;>cases x<;>first|rfl|(simp[iG.read]at h;done)|(cases hx)
theorem RC.anU{Y:V}(hst:Y.ah=st.ah)(hpos:∀o e r l g,st.ah o=some (.arr e r l g)->0<r.len):∀(c:RC)(x:Cell)(d:c.den)(v:Value),c.read st x=some d->bJ Y x v->RF Y (c.aoP d) v (c.name x):=by
 intro c x d v hr hv;cases c with
 |c s=>
  rw[RC.read]at hr;split at hr
  .next hx=>exact⟨iG.weak s x d v hr hv,iG.aj1 s x d hr hx⟩
  .cases hr
 |own e r fr=>
  cases x with
  |ref o=>
   simp only[RC.read]at hr;split at hr
   .next f s l g ho=>
    split at hr
    .next hb=>
     split at hr
     .next hs=>cases hr;rw[awP]at hb;have he:=awQ hb.1;subst he;have hsr:=aK.eq_of_beq s r hs;subst hsr;exact⟨hpos _ _ _ _ _ ho,.inl ⟨o,g,rfl,by rw[hst];exact ho,hb.2,hv.2.1,hv.2.2⟩⟩
     .cases hr
    .cases hr
   .cases hr
  |nil=>
   simp only[RC.read]at hr;split at hr
   .next hb=>cases hr;exact⟨axI Nat.zero_lt_one (by simpa[ay1]using hb),.inr ⟨rfl,hv⟩⟩
   .cases hr
  |_=>simp[RC.read]at hr
theorem af9{Y:V}(hst:Y.ah=st.ah)(hpos:∀o e r l g,st.ah o=some (.arr e r l g)->0<r.len):∀(l:List RC)(xs:List Cell)(d:af6 l)(vs:List Value),Ve st l xs=some d->ak Y xs vs->IE Y (aiy l d) vs (aiz l xs)
 |[],[],_,[],_,_=>trivial
 |c::r,x::xs,d,v::vs,h,⟨h1,h2⟩=>by
  rw[Ve]at h;split at h
  .next a b g1 g2=>cases h;exact⟨RC.anU hst hpos c x a v g1 h1,af9 hst hpos r xs b vs g2 h2⟩
  .cases h
 |[],_::_,_,_,h,_=>by simp[Ve]at h
 |_::_,[],_,_,h,_=>by simp[Ve]at h
theorem oC.alZ{Y:V}(hst:Y.ah=st.ah)(hpos:∀o e r l g,st.ah o=some (.arr e r l g)->0<r.len):∀(s:oC)(x:SV)(d:s.den)(v:Value),s.read st x=some d->eU Y x v->IE Y (s.out d).2 v.cells.toList (s.names x)
 |.one c,.one x,d,v,h,hv=>by
  rw[Ky v (bJ.one x v hv)];exact⟨RC.anU hst hpos c x d v h hv,trivial⟩
 |.agg l,.agg xs,d,v,h,⟨vs,hv,hc⟩=>by
  rw[hv];exact af9 hst hpos l xs d _ h hc
 |.one _,.agg _,_,_,h,_|.agg _,.one _,_,_,h,_=>by simp[oC.read]at h
theorem aga{Y:V}(hst:Y.ah=st.ah)(hpos:∀o e r l g,st.ah o=some (.arr e r l g)->0<r.len):∀(l:List oC)(xs:List SV)(d:kP l)(vs:List Value),F9 st l xs=some d->eX Y xs vs->
 IE Y (Pg (jk l d)) (vs.flatMap λv=>v.cells.toList) (Fa l xs)
 |[],[],_,[],_,_=>trivial
 |s::r,x::xs,d,v::vs,h,⟨h1,h2⟩=>by
  rw[F9]at h;split at h
  .next a b g1 g2=>cases h;exact IE.append _ _ _ _ _ _ (oC.alZ hst hpos s x a v g1 h1) (aga hst hpos r xs b vs g2 h2)
  .cases h
 |[],_::_,_,_,h,_=>by simp[F9]at h
 |_::_,[],_,_,h,_=>by simp[F9]at h
def Go1(Z:V)(k:Nat)(c:gK)(v:Value):Prop:=bJ Z (c.take k).1 v
def Mc(Z:V):Nat->List gK->List Value->Prop
 |_,[],[]=>True
 |k,c::cs,v::vs=>Go1 Z k c v/\Mc Z (k+1) cs vs
 |_,_,_=>False
theorem Mc.of{Z:V}:∀(cs:List gK)(vs:List Value)(k:Nat),cs.length=vs.length->(∀i c v,cs[i]? =some c->vs[i]? =some v->Go1 Z (k+i) c v)->Mc Z k cs vs
 |[],[],_,_,_=>trivial
 |c::cs,v::vs,k,hl,h=>⟨h 0 c v rfl rfl,Mc.of cs vs (k+1) (by simpa using hl) λi c' v' h1 h2=>by
   have:=h (i+1) c' v' (by simpa using h1) (by simpa using h2)
   rwa [show k+(i+1)=k+1+i by omega]at this⟩
theorem Mc.split{Z:V}:∀(cs:List gK)(vs:List Value)(ds:List gK)(us:List Value)(k:Nat),cs.length=vs.length->Mc Z k (cs++ds) (vs++us)->Mc Z k cs vs/\Mc Z (k+cs.length) ds us
 |[],[],_,_,_,_,h=>⟨trivial,h⟩
 |c::cs,v::vs,ds,us,k,hl,⟨h1,h2⟩=>by obtain⟨g1,g2⟩:=Mc.split cs vs ds us (k+1) (by simpa using hl) h2;exact⟨⟨h1,g1⟩,by rw[show k+(c::cs).length=k+1+cs.length by simp;omega];exact g2⟩
theorem Mc.cells{Z:V}:∀(cs:List gK)(vs:List Value)(k:Nat),Mc Z k cs vs->ak Z (kU k cs).1 vs
 |[],[],_,_=>trivial
 |c::cs,v::vs,k,⟨h1,h2⟩=>⟨h1,Mc.cells cs vs (k+1) h2⟩
theorem oC.go{Y Z:V}:∀(s:oC)(x:SV)(d:s.den)(v:Value)(k:Nat),s.read st x=some d->eU Y x v->Mc Z k (s.out d).2 v.cells.toList->eU Z (zq k (s.out d)).1 v
 |.one c,.one x,d,v,k,h,hv,hg=>by
  rw[Ky v (bJ.one x v hv)]at hg;exact hg.1
 |.agg l,.agg xs,d,v,k,h,⟨vs,hv,hc⟩,hg=>by
  rw[hv]at hg ⊢;exact⟨vs,rfl,Mc.cells _ _ _ hg⟩
 |.one _,.agg _,_,_,_,h,_,_|.agg _,.one _,_,_,_,h,_,_=>by simp[oC.read]at h
theorem aj2{Y Z:V}(hst:Y.ah=st.ah)(hpos:∀o e r l g,st.ah o=some (.arr e r l g)->0<r.len):∀(l:List oC)(xs:List SV)(d:kP l)(vs:List Value)(k:Nat),F9 st l xs=some d->eX Y xs vs->
 Mc Z k (Pg (jk l d)) (vs.flatMap λv=>v.cells.toList)->eX Z (jh k (jk l d)).1 vs
 |[],[],_,[],_,_,_,_=>trivial
 |s::r,x::xs,d,v::vs,k,h,⟨h1,h2⟩,hg=>by
  rw[F9]at h;split at h
  .next a b g1 g2=>cases h;have hl:=IE.length _ _ _ (oC.alZ hst hpos s x a v g1 h1);obtain⟨k1,k2⟩:=Mc.split _ _ _ _ k hl hg;exact⟨oC.go s x a v k g1 h1 k1,aj2 hst hpos r xs b vs _ g2 h2 k2⟩
  .cases h
 |[],_::_,_,_,_,h,_,_=>by simp[F9]at h
 |_::_,[],_,_,_,h,_,_=>by simp[F9]at h
theorem adE:∀(l:List iG)(xs:List Cell)(d:mZ l),kV l xs=some d->xs.flatMap Cell.refs=[]->(iT l d).flatMap Cell.refs=[]
 |[],[],_,_,_=>rfl
 |c::r,x::xs,d,h,hx=>by
  rw[kV]at h;split at h
  .next a b g1 g2=>cases h;rw[axY,axG]at hx;show(c.cell a::iT r b).flatMap Cell.refs=[];rw[axY,iG.aj1 c x a g1 hx.1,adE r xs b g2 hx.2,axK]
  .cases h
 |[],_::_,_,h,_=>by simp[kV]at h
 |_::_,[],_,h,_=>by simp[kV]at h
theorem Ph:∀(sh:List gQ)(i:Nat)(b:kF sh),NT st i sh=some b->∀(j:Nat)(e:Eff),(jm sh b)[j]? =some e->
 e=.lose\/∃l cs cs0,sh[j]? =some (.ptr l)/\e=.var cs/\st.ah ((i+j)*64+48)=some (.var cs0)/\cs0.flatMap Cell.refs=[]/\cs.flatMap Cell.refs=[]/\∀(X:V) vs,ak X cs0 vs->ak X cs vs
 |[],_,_,_,j,e,he=>by simp[jm]at he
 |.ptr l::r,i,b,h,j,e,he=>by
  rw[NT]at h;split at h
  .next cs b' hx hb=>
   split at h
   .next a hr ha=>
    cases h;cases j with
    |zero=>
     simp[jm]at he;subst he;exact .inr ⟨l,_,cs,rfl,rfl,by simpa using hx,hr,adE _ _ _ ha hr,λX vs hc=>IA _ _ _ _ ha hc⟩
    |succ j=>
     rcases Ph r (i+1) b' hb j e (by simpa[jm]using he)with h|⟨l,cs',cs0,h1,h2,h3,h4⟩
     .exact .inl h
     .exact .inr ⟨l,cs',cs0,by simpa using h1,h2,by rw[show i+(j+1)=i+1+j by omega];exact h3,h4⟩
   .cases h
  .cases h
 |.p _::r,i,b,h,j,e,he|.own _ _::r,i,b,h,j,e,he=>by
  rw[NT]at h;cases j with
  |zero=>simp[jm]at he;exact .inl he.symm
  |succ j=>
   rcases Ph r (i+1) b h j e (by simpa[jm]using he)with h|⟨l,cs',cs0,h1,h2,h3,h4⟩
   .exact .inl h
   .exact .inr ⟨l,cs',cs0,by simpa using h1,h2,by rw[show i+(j+1)=i+1+j by omega];exact h3,h4⟩
theorem agb:∀{sh:List gQ}{xs:List Arg}{d:jg sh},jl sh xs=some d->∀(j:Nat)(l:List iG),sh[j]? =some (.ptr l)->∃cs,xs[j]? =some (.ptr cs)
 |[],[],_,_,j,l,h=>by simp at h
 |s::r,x::xs,d,h,j,l,hj=>by
  rw[jl]at h;split at h
  .next a b h1 h2=>
   cases j with
   |zero=>
    simp at hj;subst hj;cases x with
    |ptr cs=>exact⟨cs,rfl⟩
    |_=>simp[gQ.read]at h1
   |succ j=>obtain⟨cs,hc⟩:=agb h2 j l (by simpa using hj);exact⟨cs,by simpa using hc⟩
  .cases h
 |[],_::_,_,h,_,_,_=>by simp[jl]at h
 |_::_,[],_,h,_,_,_=>by simp[jl]at h
theorem ap1{sh:List gQ}{b:kF sh}(hb:NT st 0 sh=some b){q:Nat}{y:aX}(h:l9 (jm sh b) q=some y):
 q%64=48/\∃l cs cs0,sh[q / 64]? =some (.ptr l)/\y=.var cs/\st.ah q=some (.var cs0)/\cs0.flatMap Cell.refs=[]/\cs.flatMap Cell.refs=[]/\∀(X:V) vs,ak X cs0 vs->ak X cs vs:=by
 unfold l9 at h;split at h
 .next e r l he=>rcases Ph sh 0 b hb _ _ he with h'|⟨_,_,_,_,h',_⟩<;>cases h'
 .next cs he=>
  split at h
  .next hm=>
   have hm':=awQ hm;cases h;rcases Ph sh 0 b hb _ _ he with h'|⟨l,cs',cs0,h1,h2,h3,h4⟩
   .cases h'
   .cases h2;refine⟨hm',l,_,cs0,h1,rfl,?_,h4⟩;rw[show q=(0+q / 64)*64+48 by omega];exact h3
  .cases h
 .cases h
def gQ.vz:(s:gQ)->s.den->Prop
 |.p s,x=>s.vz x
 |.own _ r,(l:List r.den)=>∀x∈l,r.vz x
 |.ptr l,x=>acg l x
def KL:(l:List gQ)->jg l->Prop
 |[],_=>True
 |s::r,x=>s.vz x.1/\KL r x.2
theorem jy.ach{X:V}(s:jy)(x:Arg)(d:s.den)(v:Value)(h:s.read x=some d)(hr:rW X x v):s.vz d:=
 (F8 (X:=X) [s] (d,()) [v] ⟨jy.weak s x d v h hr,trivial⟩).1
theorem aam{X:V}{args:List Arg}(ho:∀o x,dO args o=some x->dh X o x):∀(sh:List gQ)(xs:List Arg)(d:jg sh)(vs:List Value)(i:Nat),(∀j a,xs[j]? =some a->args[i+j]? =some a)->
 jl sh xs=some d->Aw X i xs vs->KL sh d
 |[],[],_,_,_,_,_,_=>trivial
 |s::r,x::xs,d,v::vs,i,hj,h,⟨hv,hvs⟩=>by
  rw[jl]at h;split at h
  .next a b h1 h2=>
   cases h;refine⟨?_,aam ho r xs b vs (i+1) (λj c hc=>by have:=hj (j+1) c (by simpa using hc);rwa [show i+(j+1)=i+1+j by omega]at this) h2 hvs⟩;have hx:args[i]? =some x:=hj 0 x rfl;cases s with
   |p s=>
    have h1':s.read x=some a:=by simpa[gQ.read]using h1
    refine jy.ach (X:=X) s x a v h1' ?_;cases x with
    |own _ _ _|ptr _=>cases s<;>simp[jy.read]at h1'
    |_=>exact hv
   |own e r'=>
    cases x with
    |own f s' l=>
     have h1':(match Nat.beq e f with|true=>if h:s'.beq r'=true then some (xB h l)else none|false=>none)=some a:=h1;split at h1'
     .split at h1'
      .next hb hs=>
       cases h1';have hsr:=aK.eq_of_beq s' r' hs;subst hsr;have oI:dO args (i*64+49)=some (.arr f s' l false):=by unfold dO;rw[show(i*64+49) / 64=i by omega,hx];dsimp only;rw[show(i*64+49)%64=49 by omega]
       obtain⟨us,_,_,_,hrow⟩:=ho _ _ oI;intro y hy;have hy':y∈l:=hy;obtain⟨j,hj1,hj2⟩:=ayH.1 hy';exact bQ.vz s' _ _ (hrow j y (by rw[awV hj1,hj2]))
      .cases h1'
     .cases h1'
    |_=>simp[gQ.read]at h1
   |ptr l=>
    cases x with
    |ptr cs=>
     have h1':kV l cs=some a:=h1;have oI:dO args (i*64+48)=some (.var cs):=by unfold dO;rw[show(i*64+48) / 64=i by omega,hx];dsimp only;rw[show(i*64+48)%64=48 by omega]
     obtain⟨_,arr,_,_,_,hc⟩:=ho _ _ oI;exact NS l a _ (IA _ _ _ _ h1' hc)
    |_=>simp[gQ.read]at h1
  .cases h
 |[],_::_,_,_,_,_,h,_=>by simp[jl]at h
 |_::_,[],_,_,_,_,h,_=>by simp[jl]at h
theorem Ov:∀(l:List gQ)(d:jg l),(vY l d).length=l.length
 |[],_=>rfl
 |_::r,d=>by simp[vY,Ov r d.2]
theorem Out.ard(rs:List (Bool×List gK))(k:Nat):((⟨rs,none⟩:Out).take k).2=(jh k rs).2:=by
 unfold Out.take;dsimp only;split
 .next h=>rw[h]
 .next h=>rw[h]
theorem Out.arf(rs:List (Bool×List gK))(k:Nat):((⟨rs,none⟩:Out).take k).1=(match (jh k rs).1 with|[v]=>AV.sv v|vs=>.nS vs):=by
 unfold Out.take;dsimp only;split
 .next h=>rw[h]
 .next vs δ hne h=>
  rw[h];dsimp only;rcases vs with _|⟨v,_|⟨v2,r⟩⟩
  .rfl
  .exact(hne v rfl).elim
  .rfl
theorem au8{args:List Arg}{S:Nat->Prop}{sh:List gQ}{dM:List oC}{x:jg sh}(hx:jl sh args=some x){d:kP dM}{b:kF sh}{k:Nat}{vs:List SV}{us:List Value}
 (hR:Rel w (yg (dO args) γ) (aal args γ S) γ' st a w') (hrs:eX (aA w (aal args γ S) γ' st w') vs us) (hnd:Df (Fa dM vs)=true) (hrd:F9 st dM vs=some d) (hbk:NT st 0 sh=some b)
 (hap:∀o x,look ((⟨jk dM d,none⟩:Out).take k).2 o=some x->l9 (jm sh b) o=none):
 ∃γ2,bK ⟨w',w.heap.size,qI S args (jm sh b) γ,γ2,look ((⟨jk dM d,none⟩:Out).take k).2⟩ ((⟨jk dM d,none⟩:Out).take k).1 (if h:us.toArray.size=1 then us.toArray[0]else .tuple us.toArray)/\
  (∀o x,look ((⟨jk dM d,none⟩:Out).take k).2 o=some x->dh ⟨w',w.heap.size,qI S args (jm sh b) γ,γ2,look ((⟨jk dM d,none⟩:Out).take k).2⟩ o x/\
    ∀b',blk (γ2 o)=some b'->b'<w'.heap.size/\(w.heap.size<=b'\/yg (dO args) γ b')/\∀q y,l9 (jm sh b) q=some y->blk (γ q)≠some b')/\
  (∀o x q y b',look ((⟨jk dM d,none⟩:Out).take k).2 o=some x->look ((⟨jk dM d,none⟩:Out).take k).2 q=some y->o≠q->blk (γ2 o)=some b'->blk (γ2 q)≠some b')/\
  (∀o x,l9 (jm sh b) o=some x->γ2 o=γ o/\dh ⟨w',w.heap.size,qI S args (jm sh b) γ,γ2,look ((⟨jk dM d,none⟩:Out).take k).2⟩ o x):=by
 rw[Out.ard]at hap ⊢;rw[Out.arf]
 skip
 let Y:V:=aA w (aal args γ S) γ' st w'
 let fv:List Value:=us.flatMap λv=>v.cells.toList
 let bD:=jm sh b
 let γ2:Nat->Value:=λp=>match l9 bD p with|some _=>γ p|none=>fv.getD (p-k) undef
 let Z:V:=⟨w',w.heap.size,qI S args bD γ,γ2,look (jh k (jk dM d)).2⟩
 have hpos:∀o e r l g,st.ah o=some (.arr e r l g)->0<r.len:=λo e r l g ho=>by obtain⟨_,_,h,_⟩:=hR.ah o _ ho;exact h
 have hF:IE Y (Pg (jk dM d)) fv (Fa dM vs):=aga (st:=st) rfl hpos dM vs d us hrd hrs;have hbq:∀q y,l9 bD q=some y->γ' q=γ q/\∃cs cs0,y=.var cs/\st.ah q=some (.var cs0)/\cs0.flatMap Cell.refs=[]/\cs.flatMap Cell.refs=[]/\∀(X:V) vs,ak X cs0 vs->ak X cs vs:=by
  intro q y hq;obtain⟨hm,l,cs,cs0,h1,h2,h3,h4,h5,h6⟩:=ap1 hbk hq;refine⟨?_,cs,cs0,h2,h3,h4,h5,h6⟩;obtain⟨ci,hci⟩:=agb hx _ l h1;have ho:dO args q=some (.var ci):=by unfold dO;rw[hci];dsimp only;rw[hm]
  have hN:(aal args γ S).N q=some (γ q):=by show aiA args γ q=_;unfold aiA;rw[ho]
  exact hR.pin q _ _ hN h3
 have hG:∀p X,look (jh k (jk dM d)).2 p=some X->∃i e r l fr,p=k+i/\(Pg (jk dM d))[i]? =some (.own e r l fr)/\X=.arr e r l fr/\0<r.len/\
  ((∃o g,(Fa dM vs)[i]? =some (some o)/\st.ah o=some (.arr e r l g)/\Qq fr g=true/\γ2 p=γ' o/\(γ2 p).oneCell'=true)\/(l=[]/\γ2 p=.slice none 0 0)):=by
  intro p X hp;obtain⟨i,e,r,l,fr,h1,h2,h3⟩:=(EJ _ k p X).1 hp;obtain⟨v,n,g1,g2,hr,hv⟩:=IE.get _ _ _ i _ hF h2;have hγ:γ2 p=v:=by show(match l9 bD p with|some _=>γ p|none=>fv.getD (p-k) undef)=v;rw[hap p X hp];dsimp only;rw[h1,show k+i-k=i by omega,awR,g1];rfl
  refine⟨i,e,r,l,fr,h1,h2,h3,hr,?_⟩;rcases hv with⟨o,g,hn,ho,hb,hv,h1c⟩|⟨hl,hv⟩
  .exact .inl ⟨o,g,by rw[g2,hn],ho,hb,hγ.trans hv,by rw[hγ];exact h1c⟩
  .exact .inr ⟨hl,hγ.trans hv⟩
 have KF:∀b',Y.foot b'->Z.foot b':=by
  intro b' hb';refine⟨hb'.1,λhlt=>⟨hb'.2.1 hlt,λq y hq=>?_⟩,λp X hp=>?_⟩
  .obtain⟨hγ,cs,cs0,_,h3,_⟩:=hbq q y hq;rw[← hγ];exact hb'.2.2 q _ h3
  .obtain⟨i,e,r,l,fr,_,_,_,_,hc⟩:=hG p X hp;show blk (γ2 p)≠some b';rcases hc with⟨o,g,_,ho,_,hγ,_⟩|⟨_,hγ⟩
   .rw[hγ];exact hb'.2.2 o _ ho
   .rw[hγ];intro h;cases h
 have ap2:∀fr b',Y.dJ fr b'->Z.dJ fr b':=λfr b' h=>⟨KF b' h.1,h.2⟩;have hgo:Mc Z k (Pg (jk dM d)) fv:=by
  refine Mc.of _ _ _ (IE.length _ _ _ hF) λi c v hc hv=>?_;obtain⟨v',n,g1,g2,g3⟩:=IE.get _ _ _ i c hF hc;rw[hv]at g1;cases g1;cases c with
  |plain x=>
   exact(Ju (Y:=Y) (Z:=Z) rfl ap2 [x] [v] (by simpa using g3.2) ⟨g3.1,trivial⟩).1
  |own e r l fr=>
   have hp:look (jh k (jk dM d)).2 (k+i)=some (.arr e r l fr):=(EJ _ k _ _).2 ⟨i,e,r,l,fr,rfl,hc,rfl⟩;have hγ:γ2 (k+i)=v:=by show(match l9 bD (k+i)with|some _=>γ (k+i)|none=>fv.getD (k+i-k) undef)=v;rw[hap _ _ hp];dsimp only;rw[show k+i-k=i by omega,awR,hv];rfl
   refine⟨⟨e,r,l,fr,hp⟩,hγ.symm,?_⟩;rcases g3.2 with⟨_,_,_,_,_,_,h⟩|⟨_,h⟩
   .exact h
   .rw[h];rfl
 have hsv:eX Z (jh k (jk dM d)).1 us:=aj2 (st:=st) (Y:=Y) rfl hpos dM vs d us k hrd hrs hgo;refine⟨γ2,?_,λp X hp=>?_,λp X q X' b' hp hq hne hb1 hb2=>?_,λq y hq=>?_⟩
 .have hl:=eX.length _ _ hsv
  match hm:(jh k (jk dM d)).1,us,hsv,hl with
  |[v],[u],hk,_=>exact hk.1
  |[],[],hk,_=>exact⟨_,by simp,hk⟩
  |v::v2::r,u::u2::us,hk,hl=>exact⟨_,by simp,hk⟩
  |[],_::_,hk,h4|_::_,[],hk,h4|[_],_::_::_,hk,h4|_::_::_,[_],hk,h4=>simp at h4
 .obtain⟨i,e,r,l,fr,_,_,rfl,hr,hc⟩:=hG p X hp;rcases hc with⟨o,g,_,ho,hb,hγ,_⟩|⟨rfl,hγ⟩
  .have hO:dh Y o (.arr e r l g):=hR.ah o _ ho;have hold:∀b',blk (γ' o)=some b'->fr=true->w.heap.size<=b':=by intro b' hb' hfr;subst hfr;have hg:g=true:=hb;subst hg;obtain⟨_,_,_,hn,_⟩:=hO;exact hn b' hb' rfl
   refine⟨dh.acd (Y:=Y) (Z:=Z) hO hγ rfl (λb' hb'=>⟨KF b' hb'.1,λhfr=>hb'.2 ?_⟩) hold,λb' hb'=>?_⟩
   .subst hfr;exact hb
   .rw[hγ]at hb';obtain⟨h1,h2⟩:=hR.lt o _ b' ho hb';refine⟨h1,h2,λq y hq=>?_⟩;obtain⟨hγq,cs,cs0,_,h3,_⟩:=hbq q y hq;rw[← hγq];refine hR.sep o _ q _ b' ho h3 ?_ hb';intro e;subst e;rw[ho]at h3;cases h3
  .refine⟨⟨[],⟨by simp,.inl ⟨hγ,rfl⟩⟩,hr,(λb' hb'=>by have h0:blk (γ2 p)=some b':=hb';rw[hγ]at h0;cases h0),λi x hi=>by simp at hi⟩,λb' hb'=>by rw[hγ]at hb';cases hb'⟩
 .obtain⟨i,e,r,l,fr,hi,_,_,_,hc⟩:=hG p X hp;obtain⟨j,e',r',l',fr',hj,_,_,_,hc'⟩:=hG q X' hq;rcases hc with⟨o,g,hn,ho,_,hγ,_⟩|⟨_,hγ⟩
  .rcases hc' with⟨o',g',hn',ho',_,U6,_⟩|⟨_,U6⟩
   .rw[hγ]at hb1;rw[U6]at hb2;have:o≠o':=by intro e;subst e;have:=Ue hnd _ _ _ hn hn';omega
    exact hR.sep o _ o' _ b' ho ho' this hb1 hb2
   .rw[U6]at hb2;cases hb2
  .rw[hγ]at hb1;cases hb1
 .obtain⟨hγ,cs,cs0,rfl,h3,h4,h5,h6⟩:=hbq q y hq;have nV:γ2 q=γ q:=by show(match l9 bD q with|some _=>γ q|none=>fv.getD (q-k) undef)=γ q;rw[hq]
  refine⟨nV,?_⟩;obtain⟨b',arr,t,k1,k2,k3⟩:=hR.ah q _ h3;refine⟨b',arr,t,?_,k2,Ju (Y:=Y) (Z:=Z) rfl ap2 _ _ h5 (h6 _ _ k3)⟩;show γ2 q=_;rw[nV,← hγ];exact k1
theorem aci{G:kR}(hE:EnvB P G Θ Γ)(hm:P.follows .mixedOrders=true){f:FuncId}{fn:Func}{c:Code}(hf:P.funcs[f]? =some fn)(hb:fn.body=some c)(H:Hints)
 {sh:List gQ} {dM:List oC} {F:jg sh->Prop×(kP dM×kF sh->Prop)} (hn:Nat.ble sh.length fn.ntmps=true) (hne:∀x,(F x).1->∃t,(F x).2 t)
 (hwalk:∀x,KL sh x->(F x).1->KI Θ Γ H c (alg Θ fn.results.toList sh dM (F x).2) (IC fn.ntmps (vY sh x))):iP P G f (mX sh dM F):=by
 intro args p ρ hcon hp;unfold mX at hcon;split at hcon
 case h_2=>cases hcon
 next x hx=>
 cases hcon;refine⟨hne x hp,λk S γ vs w hG hrep oI hsep hap=>?_⟩;have hlen:=(Pe hx).1;rw[Ov]at hlen;have hn':args.length<=fn.ntmps:=by rw[← hlen];simpa[ay1]using hn
 have hin:KL sh x:=aam (λo X ho=>(oI o X ho).1) sh args x vs.toList 0 (λj a h=>by rwa [axn]) hx hrep;have hR0:=af8 (S:=S) fn.ntmps hn' hrep (λo X ho=>⟨(oI o X ho).1,λb hb=>((oI o X ho).2 b hb).1⟩) hsep;have hR1:=hR0.covers (YB hx fn.ntmps);refine calls_of_wp hf hb (aak ⟨hE,hG,λb hb=>?_⟩ hm H c _ _ _ _ _ _ hR1 (hwalk x hin hp) ?_)
 .obtain⟨o,X,ho,hb⟩:=hb;exact((oI o X ho).2 b hb).2
 intro e s γ' a' w' he hR;have hret:∃(us:List Value)(t:kP dM×kF sh),(fn.results.mapM (NR a'.tmps)).run P w'=.ok us.toArray w'/\(F x).2 t/\∃γ2,
  bK ⟨w',w.heap.size,qI S args (jm sh t.2) γ,γ2,look ((⟨jk dM t.1,none⟩:Out).take k).2⟩ ((⟨jk dM t.1,none⟩:Out).take k).1 (if h:us.toArray.size=1 then us.toArray[0]else .tuple us.toArray)/\
  (∀o x',look ((⟨jk dM t.1,none⟩:Out).take k).2 o=some x'->dh ⟨w',w.heap.size,qI S args (jm sh t.2) γ,γ2,look ((⟨jk dM t.1,none⟩:Out).take k).2⟩ o x'/\
    ∀b,blk (γ2 o)=some b->b<w'.heap.size/\(w.heap.size<=b\/yg (dO args) γ b)/\∀q y,l9 (jm sh t.2) q=some y->blk (γ q)≠some b)/\
  (∀o x' q y b,look ((⟨jk dM t.1,none⟩:Out).take k).2 o=some x'->look ((⟨jk dM t.1,none⟩:Out).take k).2 q=some y->o≠q->blk (γ2 o)=some b->blk (γ2 q)≠some b)/\
  (∀o x',l9 (jm sh t.2) o=some x'->γ2 o=γ o/\dh ⟨w',w.heap.size,qI S args (jm sh t.2) γ,γ2,look ((⟨jk dM t.1,none⟩:Out).take k).2⟩ o x'):=by
  have he':(e=.normal\/e=.ret)/\alg Θ fn.results.toList sh dM (F x).2 .ret s:=by
   cases e with
   |normal=>exact⟨.inl rfl,he⟩
   |ret=>exact⟨.inr rfl,he⟩
   |_=>exact he.elim
  have he2:=he'.2;simp only[alg]at he2;split at he2
  .next svs awz=>
   split at he2
   .next vs' hvs'=>
    split at he2
    .next d b hnd hd hb'=>have hRf:=hR.freeze (af7 s (Fa dM svs));obtain⟨us,hus,hrs⟩:=Qs hE.types hRf _ _ hvs';refine⟨us,(d,b),?_,he2,au8 hx hRf hrs hnd hd hb' (hap (d,b) he2)⟩;rw[azg,Sem.run_map,hus];rfl
    .exact he2.elim
   .exact he2.elim
  .exact he2.elim
 obtain⟨us,t,hus,ht,γ2,h1,h2,h3,h4⟩:=hret;have hfin:bodyPost P fn (λe w'=>∃t,(F x).2 t/\SG S args γ w k ⟨jk dM t.1,none⟩ (jm sh t.2) e w') .ret a' w':=by refine⟨hR.defers,if h:us.toArray.size=1 then us.toArray[0]else .tuple us.toArray,?_,t,ht,_,γ2,rfl,hR.os,hR.tape,hR.output,hR.grow,hR.kept,h1,h2,h3,h4⟩;rw[WR,axc,hus];simp only[axC,axU]
 cases e with
 |normal=>exact hfin
 |ret=>exact hfin
 |_=>exact he.elim
def alh(rv:List ResultVar)(l:List iG)(K:mZ l->Prop)(e:Exit)(st:St):Prop:=
 match e with
 |.normal|.ret=>match rv with
  |[.tmp t]=>match st.tmps t with
   |.bC o off=>match Nat.beq off 0,(st.freeze (SQ st)).ah o with
    |true,some (.var cs)=>match cs.flatMap Cell.refs,kV l cs with
     |[],some d=>K d
     |_,_=>False
    |_,_=>False
   |_=>False
  |_=>False
 |_=>False
def loses(sh:List gQ):List Eff:=sh.map λ_=>.lose
def arh(sh:List gQ)(l:List iG)(F:jg sh->Prop×(mZ l->Prop)):Cm:=λargs=>
 match jl sh args with
 |some x=>some ((F x).1,⟨mZ l,(F x).2,λt=>⟨[],some (iT l t)⟩,λ_=>loses sh⟩)
 |none=>none
theorem WS(sh:List gQ)(q:Nat):l9 (loses sh) q=none:=by unfold l9 loses;rw[ax1];cases sh[q / 64]? <;>rfl
theorem Vf:∀(l:List iG)(cs:List Cell)(d:mZ l),kV l cs=some d->cs.flatMap Cell.refs=[]->(iT l d).flatMap Cell.refs=[]
 |[],[],_,_,_=>rfl
 |c::l,x::xs,d,h,hn=>by
  rw[kV]at h;rw[axY,axG]at hn;split at h
  .next p q hp hq=>
   cases h;show((c.cell p)::iT l q).flatMap Cell.refs=[];rw[axY,axG];refine⟨?_,Vf l xs q hq hn.2⟩;cases c with
   |ref o=>
    cases x<;>simp[iG.read,Cell.refs]at hp hn
   |_=>rfl
  .cases h
 |[],_::_,_,h,_=>by simp[kV]at h
 |_::_,[],_,h,_=>by simp[kV]at h
theorem asK{G:kR}(hE:EnvB P G Θ Γ)(hm:P.follows .mixedOrders=true){f:FuncId}{fn:Func}{c:Code}(hf:P.funcs[f]? =some fn)(hb:fn.body=some c)(H:Hints)
 {sh:List gQ} {l:List iG} {F:jg sh->Prop×(mZ l->Prop)} (hn:Nat.ble sh.length fn.ntmps=true) (hne:∀x,(F x).1->∃t,(F x).2 t)
 (hwalk:∀x,KL sh x->(F x).1->KI Θ Γ H c (alh fn.results.toList l (F x).2) (IC fn.ntmps (vY sh x))):iP P G f (arh sh l F):=by
 intro args p ρ hcon hp;unfold arh at hcon;split at hcon
 case h_2=>cases hcon
 next x hx=>
 cases hcon;refine⟨hne x hp,λk S γ vs w hG hrep oI hsep hap=>?_⟩;have hlen:=(Pe hx).1;rw[Ov]at hlen;have hn':args.length<=fn.ntmps:=by rw[← hlen];simpa[ay1]using hn
 have hin:KL sh x:=aam (λo X ho=>(oI o X ho).1) sh args x vs.toList 0 (λj a h=>by rwa [axn]) hx hrep;have hR0:=af8 (S:=S) fn.ntmps hn' hrep (λo X ho=>⟨(oI o X ho).1,λb hb=>((oI o X ho).2 b hb).1⟩) hsep;have hR1:=hR0.covers (YB hx fn.ntmps);refine calls_of_wp hf hb (aak ⟨hE,hG,λb hb=>?_⟩ hm H c _ _ _ _ _ _ hR1 (hwalk x hin hp) ?_)
 .obtain⟨o,X,ho,hb⟩:=hb;exact((oI o X ho).2 b hb).2
 intro e s γ' a' w' he hR;have he':alh fn.results.toList l (F x).2 .ret s:=by
  cases e with
  |normal=>exact he
  |ret=>exact he
  |_=>exact he.elim
 have hfin:bodyPost P fn (λe w'=>∃t,(F x).2 t/\SG S args γ w k ⟨[],some (iT l t)⟩ (loses sh) e w') .ret a' w':=by
  simp only[alh]at he';split at he'
  case h_2=>exact he'.elim
  next t hrv=>
  split at he'
  case h_2=>exact he'.elim
  next o off htm=>
  split at he'
  case h_2=>exact he'.elim
  next cs hoff hcs=>
  split at he'
  case h_2=>exact he'.elim
  next d hnr hd=>
  have hoff:=awQ hoff;subst hoff;have hRf:=hR.freeze (SQ s);have hv:=hR.tmps t;rw[htm]at hv;obtain⟨b,cs0,_,hγ,hval⟩:=hv;obtain⟨b',arr,ty,g1,g2,g3⟩:=hRf.ah o _ hcs;have g1:γ' o=.pointer (some ⟨b',0,none⟩):=g1;have hγ:γ' o=.pointer (some ⟨b,0,none⟩):=hγ;rw[hγ]at g1;cases g1;have hblk:blk (γ' o)=some b:=by rw[hγ];rfl
  have hlt:=hRf.lt o _ b hcs hblk
  let γ2:Nat->Value:=λ_=>γ' o
  let Z:V:=⟨w',w.heap.size,qI S args (loses sh) γ,γ2,look (Out.take k ⟨[],some (iT l d)⟩).2⟩
  have hlook:∀q y,look (Out.take k ⟨[],some (iT l d)⟩).2 q=some y->q=k-1/\y=.var (iT l d):=by
   intro q y hq;have hmem:=yc _ q y hq;have:(q,y)=(k-1,.var (iT l d)):=by simpa[Out.take]using hmem
   exact⟨congrArg Prod.fst this,congrArg Prod.snd this⟩
  have KF:∀fr b',(aA w (aal args γ S) γ' (s.freeze (SQ s)) w').dJ fr b'->Z.dJ fr b':=by intro fr b' hb';refine⟨⟨hb'.1.1,λhlt'=>⟨hb'.1.2.1 hlt',λq y hq=>by rw[WS]at hq;cases hq⟩,λq y hq=>?_⟩,hb'.2⟩;exact hb'.1.2.2 o _ hcs
  have hcells:ak Z (iT l d) arr.toList:=
   Ju (Y:=aA w (aal args γ S) γ' (s.freeze (SQ s)) w') (Z:=Z) rfl KF _ _ (Vf l cs d hd hnr) (IA l cs d _ hd g3)
  have hself:look (Out.take k ⟨[],some (iT l d)⟩).2 (k-1)=some (.var (iT l d)):=by simp[Out.take,look]
  refine⟨hR.defers,a'.tmps.getD t undef,?_,d,he',_,γ2,rfl,hR.os,hR.tape,hR.output,hR.grow,hR.kept,?_,λq y hq=>?_,λq y q' y' b' hq hq' hne'=>?_,λq y hq=>by rw[WS]at hq;cases hq⟩
  .have:fn.results=#[.tmp t]:=by apply ayo;simpa using hrv
   have hmap:(Array.mapM (NR a'.tmps) #[ResultVar.tmp t]).run P w'=.ok #[a'.tmps.getD t undef] w':=by rw[azg,Sem.run_map];simp only[az2,List.mapM_nil,NR];rfl
   rw[WR,this,axc,hmap];rfl
  .exact⟨b,iT l d,hself,hγ,hval⟩
  .obtain⟨rfl,rfl⟩:=hlook q y hq;refine⟨⟨b,arr,ty,hγ,g2,hcells⟩,λb' hb'=>?_⟩;have hb':blk (γ' o)=some b':=hb';rw[hblk]at hb';cases hb';exact⟨hlt.1,hlt.2,λq y hq=>by rw[WS]at hq;cases hq⟩
  .obtain⟨rfl,_⟩:=hlook q y hq;obtain⟨rfl,_⟩:=hlook q' y' hq';exact(hne' rfl).elim
 cases e with
 |normal=>exact hfin
 |ret=>exact hfin
 |_=>exact he.elim
end Go.Fw
namespace Go.Fw
open Go
def CT.isZero:CT->Value->Bool
 |.int k,.int l n=>decide (k=l)&&decide (n=0)
 |.bool,.bool b=>!b
 |.str,.string s=>s.data.toList.isEmpty
 |.sl _ _,.slice none 0 0=>true
 |_,_=>false
def aK.Vg:aK->List Value->Bool
 |.nil,[]=>true
 |.cons c r,v::vs=>c.isZero v&&r.Vg vs
 |_,_=>false
theorem CT.ap3:∀(c:CT)(v:Value),c.isZero v=true->v=c.air:=by
 intro c v h;unfold CT.isZero at h;split at h
 .simp at h;rw[h.1,h.2];rfl
 .simp at h;subst h;rfl
 .next s=>obtain⟨⟨l⟩⟩:=s;simp at h;subst h;rfl
 .rfl
 .cases h
theorem aK.agc:∀(r:aK)(vs:List Value),r.Vg vs=true->vs=r.lN
 |.nil,[],_=>rfl
 |.cons c r,v::vs,h=>by
  rw[Vg,awP]at h;rw[aK.lN,CT.ap3 c v h.1,aK.agc r vs h.2]
 |.nil,_::_,h|.cons _ _,[],h=>by simp[Vg]at h
def al0:TypeDesc->TypeDesc->Bool
 |.int k,.int l=>decide (k=l)
 |.bool,.bool=>true
 |.string,.string=>true
 |.slice e,.slice f=>Nat.beq e f
 |_,_=>false
theorem ap4:∀(c d:TypeDesc),al0 c d=true->c=d:=by
 intro c d h;unfold al0 at h;split at h
 .rw[ax8 h]
 .rfl
 .rfl
 .rw[awQ h]
 .cases h
def Qu(P:Program):List (Nat×TypeId)->List Field->Bool
 |[],[]=>true
 |(o,t)::r,f::fs=>Nat.beq o f.offset&&Nat.beq t f.type&&(P.info? f.type).isSome&&Qu P r fs
 |_,_=>false
theorem adF{P:Program}:∀(l:List (Nat×TypeId))(fs:List Field),Qu P l fs=true->l=fs.map (λf=>(f.offset,f.type))/\∀f∈fs,(P.info? f.type).isSome=true
 |[],[],_=>⟨rfl,by simp⟩
 |(o,t)::r,f::fs,h=>by
  rw[Qu,awP,awP,awP]at h;obtain⟨⟨⟨h1,h2⟩,h3⟩,h4⟩:=h;obtain⟨e,hall⟩:=adF r fs h4;refine⟨by rw[axm,← e,awQ h1,awQ h2],λg hg=>?_⟩;rcases axi.1 hg with rfl|hg
  .exact h3
  .exact hall g hg
 |[],_::_,h|_::_,[],h=>by simp[Qu]at h
def ap5(P:Program)(t:TypeId)(ti:TI):Bool:=
 match ti.kind,P.underlying t with
 |.scalar,some d=>match ti.cells.desc with|some c=>al0 c d|none=>false
 |.str,some .string=>ti.cells.beq (.cons .str .nil)
 |.slice e,some (.slice f)=>Nat.beq e f&&(match ti.cells with|.cons (.sl g _) .nil=>Nat.beq g e|_=>false)
 |.struct fs,some (.struct Dh)=>Qu P fs Dh.toList
 |_,_=>false
def anV(ti:TI)(z:Value):Bool:=match ti.kind with
 |.struct _=>true
 |_=>z.oneCell'
def aiB(P:Program)(t:TypeId)(ti:TI):Bool:=
 match P.info? t with
 |some i=>match i.zero with
  |some z=>Nat.beq i.size ti.cells.len&&Nat.beq i.bytes ti.bytes&&ti.cells.Vg z.cells.toList&&anV ti z&&ap5 P t ti&&Nat.ble ti.bytes 4096&&(!ti.cmp||aox P t ti.cells)
  |none=>false
 |none=>false
theorem mM.ari{P:Program}{t:TypeId}{ti:TI}(h:aiB P t ti=true):mM P t ti:=by
 unfold aiB at h;split at h
 .next i hi=>
  split at h
  .next z hz=>
   simp only[awP]at h;obtain⟨⟨⟨⟨⟨⟨h1,h2⟩,h3⟩,h4⟩,h5⟩,h6⟩,h7⟩:=h;refine⟨⟨i,z,hi,awQ h1,awQ h2,hz,aK.agc _ _ h3,λhagg=>?_⟩,?_,by simpa[ay1]using h6,λe w s u X xs ys vs us b hf hx hy he=>asE (by rw[e]at h7;simpa using h7) w s u X xs ys vs us b hf hx hy he⟩
   .unfold anV at h4;unfold TI.agg at hagg;split at h4
    .next hk=>rw[hk]at hagg;cases hagg
    .exact Ky z h4
   .unfold ap5 at h5;split at h5
    .next d hk hu=>
     rw[hk];split at h5
     .next c hc=>exact⟨d,by rw[hc,ap4 c d h5],hu⟩
     .cases h5
    .next hk hu=>rw[hk];exact⟨hu,aK.eq_of_beq _ _ h5⟩
    .next e f hk hu=>
     rw[hk];rw[awP]at h5;have hef:=awQ h5.1;subst hef;refine⟨hu,?_⟩;have h52:=h5.2;split at h52
     .next g r hg=>exact⟨r,by rw[hg,awQ h52]⟩
     .cases h52
    .next fs Dh hk hu=>rw[hk];obtain⟨e,hall⟩:=adF _ _ h5;exact⟨Dh,hu,e,hall⟩
    .cases h5
  .cases h
 .cases h
def Vh(P:Program):List (Nat×TI)->Bool
 |[]=>true
 |(t,ti)::r=>aiB P t ti&&Vh P r
theorem al1{P:Program}:∀{l:List (Nat×TI)},Vh P l=true->∀t ti,af4 l t=some ti->mM P t ti
 |[],_,t,ti,h=>by cases h
 |(i,x)::r,hc,t,ti,h=>by
  rw[Vh,awP]at hc;rw[af4]at h;cases hb:Nat.beq t i with
  |true=>rw[hb]at h;cases h;rw[awQ hb];exact .ari hc.1
  |false=>rw[hb]at h;exact al1 hc.2 t ti h
def acj(fn:Func):Bool:=fn.body.isSome&&!(fn.name== "runtime.NumGoroutine")
theorem lG{P:Program}{f:FuncId}{fn:Func}(hf:P.funcs[f]? =some fn)(hc:acj fn=true):kY P f:=by
 intro args w;unfold acj at hc;rw[awP]at hc;have h1:(fn.name== "runtime.NumGoroutine")=false:=by simpa using hc.2
 have h2:fn.body.isNone=false:=by cases hb:fn.body with|none=>rw[hb]at hc;simp at hc|some _=>rfl
 unfold callFunc;simp only[axc,run_program,axC,hf,h1,h2,ayq,azk,axU]
def ap6(P:Program)(G:kR)(f:FuncId):Ot->Prop
 |.pure c=>rG P G f c/\kY P f
 |.eff _ c=>iP P G f c/\kY P f
theorem ap7{P:Program}{G:kR}{Θ:jT}(hT:∀t ti,Θ t=some ti->mM P t ti):∀{l:List (Nat×Ot)},(∀x∈l,ap6 P G x.1 x.2)->EnvB P G Θ (Kv l)
 |[],_=>⟨hT,(λf con h=>by cases h),(λf ms con h=>by cases h)⟩
 |(i,c)::r,h=>by
  have ih:=ap7 (G:=G) hT λx hx=>h x (aw6 _ hx);refine⟨hT,λf con hf=>?_,λf ms con hf=>?_⟩
  .rw[Kv]at hf;cases hb:Nat.beq f i with
   |true=>rw[hb]at hf;cases hf;rw[awQ hb];exact h (i,.pure con) aw5
   |false=>rw[hb]at hf;exact ih.cons f con hf
  .rw[Kv]at hf;cases hb:Nat.beq f i with
   |true=>rw[hb]at hf;cases hf;rw[awQ hb];exact h (i,.eff ms con) aw5
   |false=>rw[hb]at hf;exact ih.ale f ms con hf
end Go.Fw
namespace Go.Fw
open Go
structure PA where
 n:Nat
 sh:List jy
 dM:List tV
 F:nO sh->Prop×yI dM
structure XA where
 n:Nat
 sh:List gQ
 dM:List oC
 F:jg sh->Prop×(kP dM×kF sh->Prop)
structure QA where
 n:Nat
 sh:List gQ
 dM:List iG
 F:jg sh->Prop×(mZ dM->Prop)
def PA.e(q:PA):Nat×Ot:=(q.n,.pure (H9 q.sh q.dM q.F))
def XA.e(q:XA):Nat×Ot:=(q.n,.eff (oH q.sh) (mX q.sh q.dM q.F))
def QA.e(q:QA):Nat×Ot:=(q.n,.eff (oH q.sh) (arh q.sh q.dM q.F))
def agd(P:Program)(G:kR)(x:Nat×Ot):Prop:=ap6 P G x.1 x.2
def al2(P:Program)(G:kR):List (Nat×Ot)->Prop
 |[]=>True
 |x::l=>agd P G x/\al2 P G l
theorem arj{P:Program}{G:kR}{l':List (Nat×TI)}(hT:Vh P l'=true){l:List (Nat×Ot)}(h:al2 P G l):EnvB P G (af4 l') (Kv l):=
 ap7 (al1 hT) (by
  induction l with
  |nil=>exactλx hx=>by cases hx
  |cons y l ih=>exact List.forall_mem_cons.2 ⟨h.1,ih h.2⟩)
def aiC:(l:List iG)->(mZ l->Prop)->Prop
 |[],p=>p ()
 |c::r,p=>∀x:c.den,aiC r λy=>p (x,y)
theorem Vj:∀{l:List iG}{p:mZ l->Prop},aiC l p->∀x,p x
 |[],_,h,()=>h
 |_::_,_,h,(x,y)=>Vj (h x) y
def aoS:(l:List (List iG))->(E8 l->Prop)->Prop
 |[],p=>p ()
 |c::r,p=>aiC c λx=>aoS r λy=>p (x,y)
theorem al3:∀{l:List (List iG)}{p:E8 l->Prop},aoS l p->∀x,p x
 |[],_,h,()=>h
 |_::_,_,h,(x,y)=>al3 (Vj h x) y
def ark:(s:jy)->(s.den->Prop)->Prop
 |.v (.one c),p=>∀x:c.den,p x
 |.v (.agg l),p=>aiC l p
 |.kp l,p=>aiC l p
 |.fn _ l,p=>aoS l p
theorem anW:∀{s:jy}{p:s.den->Prop},ark s p->∀x,p x
 |.v (.one _),_,h,x=>h x
 |.v (.agg _),_,h,x=>Vj h x
 |.kp _,_,h,x=>Vj h x
 |.fn _ _,_,h,x=>al3 h x
def aoT:(l:List jy)->(nO l->Prop)->Prop
 |[],p=>p ()
 |s::r,p=>ark s λx=>aoT r λy=>p (x,y)
theorem al4:∀{l:List jy}{p:nO l->Prop},aoT l p->∀x,p x
 |[],_,h,()=>h
 |_::_,_,h,(x,y)=>al4 (anW h x) y
def atm:(s:gQ)->(s.den->Prop)->Prop
 |.p s,p=>ark s p
 |.own _ r,p=>∀x:List r.den,p x
 |.ptr l,p=>aiC l p
theorem asL:∀{s:gQ}{p:s.den->Prop},atm s p->∀x,p x
 |.p _,_,h,x=>anW h x
 |.own _ _,_,h,x=>h x
 |.ptr _,_,h,x=>Vj h x
def ali:(l:List gQ)->(jg l->Prop)->Prop
 |[],p=>p ()
 |s::r,p=>atm s λx=>ali r λy=>p (x,y)
theorem aeu:∀{l:List gQ}{p:jg l->Prop},ali l p->∀x,p x
 |[],_,h,()=>h
 |_::_,_,h,(x,y)=>aeu (asL h x) y
abbrev LP{α:Type}(x:α)(f:(α->Prop)->(α->Nat)->α->Prop):Prop:=∃(I:α->Prop),∃(μ:α->Nat),I x/\∀(y:α),I y->f I μ y
abbrev NX{σ α:Type}(s:σ)(I:α->Prop)(μ:α->Nat)(x y:α):Prop:=s=s/\I x/\μ x<μ y
def H0:Hints:=hints [] [] [] [] []
def Fv(P:Program)(n:Nat):Func:=match P.funcs[n]? with|some f=>f|none=>default
def NU(P:Program)(n k:Nat):Bool:=P.funcs[n]?.isSome&&acj (Fv P n)&&Nat.ble k (Fv P n).ntmps
theorem aan{P:Program}{n k:Nat}(h:NU P n k=true):P.funcs[n]? =some (Fv P n)/\(Fv P n).body=some (codeOf (Fv P n))/\kY P n/\Nat.ble k (Fv P n).ntmps=true:=by
 simp only[NU,awP]at h;obtain⟨⟨h1,h2⟩,h3⟩:=h;have e:P.funcs[n]? =some (Fv P n):=by
  unfold Fv;cases hf:P.funcs[n]? with
  |some f=>rfl
  |none=>rw[hf]at h1;cases h1
 refine⟨e,?_,lG e h2,h3⟩;have h4:=h2;unfold acj at h4;rw[awP]at h4;unfold codeOf;cases hb:(Fv P n).body with
 |some c=>rfl
 |none=>rw[hb]at h4;cases h4.1
def PA.goal(q:PA)(g:(yI q.dM->Prop)->Prop)(x:nO q.sh):Prop:=O8 q.sh x->(q.F x).1->g λr=>r=(q.F x).2
def XA.goal(q:XA)(g:(kP q.dM×kF q.sh->Prop)->Prop)(x:jg q.sh):Prop:=KL q.sh x->(q.F x).1->g (q.F x).2
def QA.goal(q:QA)(g:(mZ q.dM->Prop)->Prop)(x:jg q.sh):Prop:=KL q.sh x->(q.F x).1->g (q.F x).2
variable {P:Program} {Θ:jT} {Γ:lC} {G:kR}
theorem PA.ok{q:PA}(hm:P.follows .mixedOrders=true)(hE:EnvB P G Θ Γ)(H:Hints){p:Prop}
 (hp:(bif NU P q.n q.sh.length then aoT q.sh λx=>q.goal (λK=>KI Θ Γ H (codeOf (Fv P q.n)) (af5 Θ (Fv P q.n).results.toList q.dM K) (entry (Fv P q.n).ntmps (yh q.sh x))) x else False)=p) (h:p):agd P G q.e:=by
 subst hp;cases hc:NU P q.n q.sh.length with
 |false=>rw[hc]at h;exact h.elim
 |true=>rw[hc]at h;obtain⟨h1,h2,h3,h4⟩:=aan hc;exact⟨aix hE hm h1 h2 H h4 λx hi hx=>al4 h x hi hx,h3⟩
theorem XA.ok{q:XA}(hm:P.follows .mixedOrders=true)(hE:EnvB P G Θ Γ)(H:Hints)(hne:∀x,(q.F x).1->∃t,(q.F x).2 t){p:Prop}
 (hp:(bif NU P q.n q.sh.length then ali q.sh λx=>q.goal (λK=>KI Θ Γ H (codeOf (Fv P q.n)) (alg Θ (Fv P q.n).results.toList q.sh q.dM K) (IC (Fv P q.n).ntmps (vY q.sh x))) x else False)=p) (h:p):agd P G q.e:=by
 subst hp;cases hc:NU P q.n q.sh.length with
 |false=>rw[hc]at h;exact h.elim
 |true=>rw[hc]at h;obtain⟨h1,h2,h3,h4⟩:=aan hc;exact⟨aci hE hm h1 h2 H h4 hne λx hi hx=>aeu h x hi hx,h3⟩
theorem QA.ok{q:QA}(hm:P.follows .mixedOrders=true)(hE:EnvB P G Θ Γ)(H:Hints)(hne:∀x,(q.F x).1->∃t,(q.F x).2 t){p:Prop}
 (hp:(bif NU P q.n q.sh.length then ali q.sh λx=>q.goal (λK=>KI Θ Γ H (codeOf (Fv P q.n)) (alh (Fv P q.n).results.toList q.dM K) (IC (Fv P q.n).ntmps (vY q.sh x))) x else False)=p) (h:p):agd P G q.e:=by
 subst hp;cases hc:NU P q.n q.sh.length with
 |false=>rw[hc]at h;exact h.elim
 |true=>rw[hc]at h;obtain⟨h1,h2,h3,h4⟩:=aan hc;exact⟨asK hE hm h1 h2 H h4 hne λx hi hx=>aeu h x hi hx,h3⟩
end Go.Fw
namespace Go.Fw
open Go
variable {P:Program} {G:kR} {f:FuncId}
abbrev iE:List UInt8:=[]
abbrev Dk:List (Int×Unit):=[]
theorem rG.weaken{con aao:Yu}(h:rG P G f con)(hc:∀args p out,aao args=some (p,out)->p->∃q,con args=some (q,out)/\q):rG P G f aao:=by intro args p out k S vs w hcon hp hG hrep;obtain⟨q,h1,h2⟩:=hc args p out hcon hp;exact h args q out k S vs w h1 h2 hG hrep
theorem iP.weaken{con aao:Cm}(h:iP P G f con)(hc:∀args p ρ,aao args=some (p,ρ)->p->∃q,con args=some (q,ρ)/\q):iP P G f aao:=by intro args p ρ hcon hp;obtain⟨q,h1,h2⟩:=hc args p ρ hcon hp;exact h args q ρ h1 h2
theorem ap8{sh:List jy}{dM:List tV}{F:nO sh->Prop×yI dM}(Fr Fs:Nat->nO sh->Prop×yI dM)(h0:∀x,¬(Fr 0 x).1)(hs:∀n x,Fr (n+1) x=Fs n x)
 (hf:∀x,(F x).1->∃n,(Fr n x).1) (he:∀n x,(Fr n x).2=(F x).2) (step:∀n,rG P G f (H9 sh dM (Fr n))->rG P G f (H9 sh dM (Fs n))):rG P G f (H9 sh dM F):=by
 have all:∀n,rG P G f (H9 sh dM (Fr n)):=by
  intro n
  induction n with
  |zero=>
   intro args p out k S vs w hcon hp;unfold H9 O9 at hcon;split at hcon
   .next x _=>have e:(Fr 0 x).1=p:=congrArg Prod.fst (Option.some.inj hcon);exact absurd (e.symm▸hp) (h0 x)
   .cases hcon
  |succ n ih=>have:=step n ih;have e:Fr (n+1)=Fs n:=funext (hs n);rw[e];exact this
 intro args p out k S vs w hcon hp hG hrep;have Pj:=hcon;unfold H9 O9 at Pj;split at Pj
 .next x hx=>have e:=Option.some.inj Pj;have e1:(F x).1=p:=congrArg Prod.fst e;obtain⟨n,hn⟩:=hf x (e1.symm▸hp);refine all n args (Fr n x).1 out k S vs w ?_ hn hG hrep;unfold H9 O9;rw[hx];show some ((Fr n x).1,_)=_;rw[he n x];exact congrArg (λz=>some ((Fr n x).1,z)) (congrArg Prod.snd e)
 .cases Pj
theorem aiD{sh:List gQ}{dM:List oC}{F:jg sh->Prop×(kP dM×kF sh->Prop)}(Fr Fs:Nat->jg sh->Prop×(kP dM×kF sh->Prop))(h0:∀x,¬(Fr 0 x).1)(hs:∀n x,Fr (n+1) x=Fs n x)
 (hf:∀x,(F x).1->∃n,(Fr n x).1) (he:∀n x,(Fr n x).2=(F x).2) (step:∀n,iP P G f (mX sh dM (Fr n))->iP P G f (mX sh dM (Fs n))):iP P G f (mX sh dM F):=by
 have all:∀n,iP P G f (mX sh dM (Fr n)):=by
  intro n
  induction n with
  |zero=>
   intro args p ρ hcon hp;unfold mX at hcon;split at hcon
   .next x _=>have e:(Fr 0 x).1=p:=congrArg Prod.fst (Option.some.inj hcon);exact absurd (e.symm▸hp) (h0 x)
   .cases hcon
  |succ n ih=>have:=step n ih;have e:Fr (n+1)=Fs n:=funext (hs n);rw[e];exact this
 intro args p ρ hcon hp;have Pj:=hcon;unfold mX at Pj;split at Pj
 .next x hx=>have e:=Option.some.inj Pj;have e1:(F x).1=p:=congrArg Prod.fst e;obtain⟨n,hn⟩:=hf x (e1.symm▸hp);refine all n args (Fr n x).1 ρ ?_ hn;unfold mX;rw[hx];show some ((Fr n x).1,_)=_;rw[he n x];exact congrArg (λz=>some ((Fr n x).1,z)) (congrArg Prod.snd e)
 .cases Pj
end Go.Fw
namespace Go.Fw
open Go
variable {P:Program} {H:Type} {enc:TypeId×Value->H} {w:World}
def aK.app:aK->aK->aK
 |.nil,s=>s
 |.cons c r,s=>.cons c (r.app s)
def alj:(r s:aK)->r.den->s.den->(r.app s).den
 |.nil,_,_,y=>y
 |.cons _ r,s,x,y=>(x.1,alj r s x.2 y)
theorem bQ.app{h:Array Obj}{S:Nat->Prop}:∀(r s:aK)(x:r.den)(y:s.den)(vs us:List Value),bQ h S r vs x->bQ h S s us y->bQ h S (r.app s) (vs++us) (alj r s x y)
 |.nil,s,x,y,vs,us,h1,h2=>by rw[bQ]at h1;subst h1;exact h2
 |.cons c r,s,(x,x'),y,vs,us,h1,h2=>by rw[bQ]at h1;obtain⟨v,vs',rfl,g1,g2⟩:=h1;show bQ h S (.cons c (r.app s)) (v::(vs'++us)) (x,alj r s x' y);rw[bQ];exact⟨v,vs'++us,rfl,g1,bQ.app r s x' y vs' us g2 h2⟩
theorem add_add(a:Addr)(h:a.spot=none)(m j:Nat):(a.add m).add j=⟨a.block,a.off+m+j,none⟩:=by
 obtain⟨b,o,sp⟩:=a;simp only at h;subst h;unfold Addr.add;by_cases hm:m=0
 .by_cases hj:j=0
  .simp[hm,hj]
  .simp[hm,hj]
 .by_cases hj:j=0
  .simp[hm,hj]
  .simp[hm,hj]
def SY(f:TypeId->Option aK):List Field->Nat->Option aK
 |[],_=>some .nil
 |x::r,off=>match f x.type with
  |some s=>match SY f r (off+s.len),Nat.beq x.offset off with
   |some u,true=>some (s.app u)
   |_,_=>none
  |none=>none
def rowOf(P:Program):Nat->TypeId->Option aK
 |0,_=>none
 |n+1,t=>match P.underlying t with
  |some (.int k)=>some (.cons (.int k) .nil)
  |some .bool=>some (.cons .bool .nil)
  |some .string=>some (.cons .str .nil)
  |some (.slice e)=>match rowOf P n e with
   |some s=>match Nat.beq s.len (P.cellsOf e)&&Nat.ble 1 s.len with
    |true=>some (.cons (.sl e s) .nil)
    |false=>none
   |none=>none
  |some (.struct fs)=>match SY (rowOf P n) fs.toList 0 with
   |some r=>match Nat.beq r.len (P.cellsOf t)with
    |true=>match fs.toList.all λf=>match rowOf P n f.type with|some s=>Nat.beq s.len (P.cellsOf f.type)|none=>false with
     |true=>some r
     |false=>none
    |false=>none
   |none=>none
  |_=>none
theorem anX{α:Type}{Q:Nat->α->Prop}:∀(n:Nat),(∀i,i<n->∃x,Q i x)->∃l:List α,l.length=n/\∀i x,l[i]? =some x->Q i x
 |0,_=>⟨[],rfl,λi x h=>by simp at h⟩
 |n+1,h=>by
  obtain⟨l,hl,hq⟩:=anX n λi hi=>h i (by omega);obtain⟨x,hx⟩:=h n (by omega);refine⟨l++[x],by simp[hl],λi y hy=>?_⟩;rcases aw8 i n with hi|hi
  .rw[axq (by omega)]at hy;exact hq i y hy
  .rw[axl (by omega)]at hy;have:i=n:=by
    rcases aw8 n i with h'|h'
    .rw[axE (by simp;omega)]at hy;cases hy
    .omega
   subst this;simp[hl]at hy;rw[← hy];exact hx
theorem anY:∀(r s:aK),(r.app s).len=r.len+s.len
 |.nil,s=>by simp[aK.app,aK.len]
 |.cons c r,s=>by simp only[aK.app,aK.len,anY r s];omega
theorem agf{f:TypeId->Option aK}{S:Nat->Prop}{h:Array Obj}(cs:List Value)
 (part:∀(t:TypeId)(r:aK)(off:Nat),f t=some r->(∃g:Field,g.type=t/\g.offset=off)->True):∀(fs:List Field)(off:Nat)(r:aK),SY f fs off=some r->
 (∀g∈fs,∀s,f g.type=some s->∃x,bQ h S s ((cs.drop g.offset).take s.len) x)->
 ∃x,bQ h S r ((cs.drop off).take r.len) x
 |[],off,r,hr,_=>by
  cases hr;exact⟨(),by rw[bQ];simp[aK.len]⟩
 |g::fs,off,r,hr,hall=>by
  rw[SY]at hr;split at hr
  .next s hs=>
   split at hr
   .next u hu hb=>
    cases hr;obtain⟨x,hx⟩:=hall g aw5 s hs;rw[awQ hb]at hx;obtain⟨y,hy⟩:=agf cs part fs (off+s.len) u hu λg' hg'=>hall g' (aw6 _ hg');refine⟨alj s u x y,?_⟩;have:=bQ.app s u x y _ _ hx hy;rw[anY];have e:(cs.drop off).take (s.len+u.len)=(cs.drop off).take s.len++(cs.drop (off+s.len)).take u.len:=by rw[List.take_add,ayj]
    rw[e];exact this
   .cases hr
  .cases hr
theorem aev:∀(n:Nat)(t:TypeId)(r:aK),rowOf P n t=some r->∀(m:Nat)(base:Nat)(spare:Nat->Bool)(held:Bool)(cs:List Value)(x:DataW H×List MemPlace),
 DataW.trod enc P w base spare held m t cs=some x->∃y,bQ w.heap (λb=>b<w.heap.size) r cs y
 |0,t,r,hr=>by cases hr
 |n+1,t,r,hr=>by
  intro m base spare held cs x hx;rw[rowOf]at hr;split at hr
  .next k hu=>cases hr;obtain⟨i,rfl,_,hwf⟩:=DataW.trod_int hu hx;simp only[Lit.wf,awP,axj]at hwf;exact⟨(i,()),by rw[bQ];exact⟨_,[],rfl,by rw[jO];exact⟨rfl,hwf⟩,by rw[bQ]⟩⟩
  .next hu=>cases hr;obtain⟨b,rfl,_⟩:=DataW.trod_bool hu hx;exact⟨(b,()),by rw[bQ];exact⟨_,[],rfl,by rw[jO],by rw[bQ]⟩⟩
  .next hu=>cases hr;obtain⟨s,rfl,_,hs⟩:=DataW.trod_string hu hx;refine⟨(s.data.toList,()),by rw[bQ];exact⟨_,[],rfl,by rw[jO];exact⟨by simp,by simpa using hs⟩,by rw[bQ]⟩⟩
  .next e hu=>
   split at hr
   .next s hs=>
    split at hr
    .next hb=>
     cases hr;rw[awP]at hb;have hlen:=awQ hb.1;have hpos:1<=s.len:=by simpa[ay1]using hb.2
     rcases DataW.trod_slice hu hx with⟨rfl,_⟩|⟨a,len,cap,elems,rest,k,_,rfl,_,hbase,hle,hmax,hel,hrow,_,_⟩
     .exact⟨([],()),by rw[bQ];exact⟨_,[],rfl,by rw[jO];exact⟨by simp,.inl ⟨rfl,none,0,rfl⟩⟩,by rw[bQ]⟩⟩
     .by_cases h0:len=0
      .subst h0;exact⟨([],()),by rw[bQ];exact⟨_,[],rfl,by rw[jO];exact⟨by simp,.inl ⟨rfl,some a,cap,rfl⟩⟩,by rw[bQ]⟩⟩
      .have each:∀i,i<len->∃(ys:List Value)(z:s.den),w.cells? base (a.add (i*P.cellsOf e)) (P.cellsOf e)=some ys/\bQ w.heap (λb=>b<w.heap.size) s ys z:=by intro i hi;have h1:=hrow i hi;rw[awV (by omega)]at h1;obtain⟨ys,hys,hy2⟩:=Option.bind_eq_some_iff.1 h1;obtain⟨z,hz⟩:=aev n e s hs k base spare held ys _ hy2;exact⟨ys,z,hys,hz⟩
       obtain⟨ys0,z0,hc0,hz0⟩:=each 0 (by omega);obtain⟨_,hl0,hcell0⟩:=World.cells?_some hc0;have aew:=hcell0 0 (by omega);simp only[ayI,Addr.add,if_true]at aew;have au9:∃v,ys0[0]? =some v:=⟨ys0[0]'(by omega),by simp[show 0<ys0.length by omega]⟩;obtain⟨v0,hv0⟩:=au9;rw[hv0]at aew;unfold World.cell? at aew;split at aew
       .next c ty fz hblk=>
        split at aew
        .cases aew
        .next hsp=>
         have hspot:a.spot=none:=by cases h:a.spot with|none=>rfl|some q=>rw[h]at hsp;simp at hsp
         have ha:a=⟨a.block,a.off,none⟩:=by cases a;simp at hspot;rw[hspot]
         have hb':a.block<w.heap.size:=by obtain⟨hlt,_⟩:=axy.1 hblk;exact hlt
         have rows:∀i,i<len->∃z:s.den,bQ w.heap (λb=>b<w.heap.size) s ((c.toList.drop (a.off+i*s.len)).take s.len) z:=by
          intro i hi;obtain⟨ys,z,hcs,hz⟩:=each i hi;obtain⟨_,hl,hcell⟩:=World.cells?_some hcs;refine⟨z,?_⟩;have:(c.toList.drop (a.off+i*s.len)).take s.len=ys:=by
           refine ayf λj=>?_;rcases aw8 j s.len with hj|hj
           .rw[ax9 hj,axs];have h2:=hcell j (by omega);have hadd:=add_add a hspot (i*P.cellsOf e) j;rw[← hlen]at hadd h2;rw[hadd]at h2;unfold World.cell? at h2;simp only[hblk,Option.isSome_none,ayq,azk]at h2;rw[← h2];simp
           .rw[axE (by simp;omega),axE (by omega)]
          rw[this];exact hz
         obtain⟨l,hll,hlq⟩:=anX len rows;refine⟨(l,()),by rw[bQ];exact⟨_,[],rfl,by rw[jO];exact⟨by omega,.inr ⟨a.block,a.off,cap,c,ty,fz,by rw[hll,← ha],by omega,hb',hblk,hlq⟩⟩,by rw[bQ]⟩⟩
       .cases aew
    .cases hr
   .cases hr
  .next fs hu=>
   split at hr
   .next r' hf=>
    split at hr
    .next hb=>
     split at hr
     .next hall=>
      cases hr;obtain⟨xs,k,_,_,hcl,hxl,hparts⟩:=DataW.trod_struct hu hx;have hlen:=awQ hb;have:=agf (h:=w.heap) (S:=λb=>b<w.heap.size) cs (λ_ _ _ _ _=>trivial) fs.toList 0 _ hf ?_
      .obtain⟨y,hy⟩:=this;refine⟨y,?_⟩;rw[ax3,axZ (by omega)]at hy;exact hy
      .intro g hg s hs;have hg2:=axk.1 hall g hg;rw[hs]at hg2;have hsl:=awQ hg2;obtain⟨i,hi,hgi⟩:=ayH.1 hg;have hp:=hparts i g (by rw[← hgi];simp[show i<fs.size by simpa using hi]);rw[awV (by simp at hi;omega)]at hp;rw[hsl];exact aev n g.type s hs k base spare held _ _ hp
     .cases hr
    .cases hr
   .cases hr
  .cases hr
def CT.csh:CT->iG
 |.int k=>.int k
 |.bool=>.bool
 |.str=>.str
 |.sl e r=>.sl e r false
def toC:(c:CT)->c.den->c.csh.den
 |.int _,x=>x
 |.bool,x=>x
 |.str,x=>x
 |.sl _ _,x=>x
def aK.shs:aK->List iG
 |.nil=>[]
 |.cons c r=>c.csh::r.shs
def toCs:(r:aK)->r.den->mZ r.shs
 |.nil,_=>()
 |.cons c r,x=>(toC c x.1,toCs r x.2)
theorem aiE(X:V):∀(r:aK)(vs:List Value)(x:r.den),bQ X.w.heap (X.dJ false) r vs x->ak X (iT r.shs (toCs r x)) vs
 |.nil,vs,x,h=>by rw[bQ]at h;subst h;trivial
 |.cons c r,vs,(x,y),h=>by
  rw[bQ]at h;obtain⟨v,vs',rfl,h1,h2⟩:=h;refine⟨?_,aiE X r vs' y h2⟩;cases c with
  |int k=>exact h1
  |bool=>exact h1
  |str=>exact h1
  |sl e r=>exact h1
def aoU(P:Program)(t:TypeId):Option tV:=
 match rowOf P 64 t with
 |some r=>match P.underlying t with
  |some (.struct _)=>some (.agg r.shs)
  |some (.array _ _)=>none
  |_=>match r with
   |.cons c .nil=>some (.one c.csh)
   |_=>none
 |none=>none
def Qv(P:Program):List TypeId->Option (List jy)
 |[]=>some []
 |t::ts=>match aoU P t,Qv P ts with
  |some s,some l=>some (.v s::l)
  |_,_=>none
def start(w:World):V:=⟨w,w.heap.size,λb=>b<w.heap.size,λ_=>undef,λ_=>none⟩
theorem asM{t:TypeId}{s:tV}(hs:aoU P t=some s){base base':Nat}{sp:Nat->Bool}{hd:Bool}{v:Value}{d:DataW H}{p:List MemPlace}
 (ht:DataW.Trod enc P w base sp hd t v d p) (hv:Value.okWide P w .any base' t v):∃x:s.den,eU (start w) (s.val x) v:=by
 unfold aoU at hs;split at hs
 .next r hr=>
  obtain⟨m,hm⟩:=ht;obtain⟨y,hy⟩:=aev 64 t r hr m base sp hd _ _ hm;have hy':bQ (start w).w.heap ((start w).dJ false) r v.cells.toList y:=
   bQ.mono (λb hb=>⟨⟨⟨hb,λ_=>hb,λo x hx=>by cases hx⟩,λe=>by cases e⟩,rfl⟩) r _ y hy
  unfold Value.okWide at hv;split at hs
  .next fs hu=>cases hs;rw[hu]at hv;obtain⟨cs,rfl,_,_⟩:=hv;exact⟨toCs r y,cs,rfl,aiE (start w) r _ y hy'⟩
  .cases hs
  .next hns hna=>
   split at hs
   .next c=>
    cases hs;have hcell:v.cells=#[v]:=by
     cases hv2:v<;>first
      |rfl
      |(exfalso
        rw[hv2]at hv;split at hv
        .next hu=>exact hns _ hu
        .next hu=>exact hna _ _ hu
        .unfold Go.Cell.okWide at hv;split at hv<;>first|(rename_i h1 h2;cases h2;done)|(rename_i h2;cases h2;done)|skip;unfold Go.Cell.ok at hv;split at hv<;>first|(rename_i h1 h2;cases h2;done)|exact hv)
    have:=aiE (start w) _ _ y hy';rw[hcell]at this;exact⟨toC c y.1,this.1⟩
   .cases hs
 .cases hs
theorem al5:∀(ts:List TypeId)(sh:List jy),Qv P ts=some sh->∀{base base':Nat}{sp:Nat->Bool}{hd:Bool}(vs:List Value)(ds:List (DataW H))(p:List MemPlace),
 DataW.TrodAll enc P w base sp hd ts vs ds p->(∀(j:Nat) t v,ts[j]? =some t->vs[j]? =some v->Value.okWide P w .any base' t v)->∃x:nO sh,pU (start w) (yh sh x) vs
 |[],sh,hs,_,_,_,_,vs,ds,p,h,_=>by
  cases hs;cases vs with
  |nil=>exact⟨(),trivial⟩
  |cons v vs=>cases ds<;>simp[DataW.TrodAll]at h
 |t::ts,sh,hs,base,base',sp,hd,vs,ds,p,h,hok=>by
  rw[Qv]at hs;split at hs
  .next s l h1 h2=>
   cases hs;cases vs with
   |nil=>cases ds<;>simp[DataW.TrodAll]at h
   |cons v vs=>
    cases ds with
    |nil=>simp[DataW.TrodAll]at h
    |cons d ds=>obtain⟨a,b,g1,g2,_⟩:=h;obtain⟨x,hx⟩:=asM h1 g1 (hok 0 t v rfl rfl);obtain⟨y,hy⟩:=al5 ts l h2 vs ds b g2 λj t' v' ht' hv'=>hok (j+1) t' v' (by simpa using ht') (by simpa using hv');exact⟨(x,y),hx,hy⟩
  .cases hs
mutual
theorem CT.MR:∀(c:CT),c.beq c=true
 |.int k=>by simp[CT.beq]
 |.bool=>rfl
 |.str=>rfl
 |.sl e r=>by simp[CT.beq,aK.MR r]
theorem aK.MR:∀(r:aK),r.beq r=true
 |.nil=>rfl
 |.cons c r=>by simp[aK.beq,CT.MR c,aK.MR r]
end
theorem aj3:∀(c:iG)(x:c.den),c.read (c.cell x)=some x
 |.int k,x=>by simp[iG.cell,iG.read]
 |.bool,x=>rfl
 |.str,x=>rfl
 |.sl e r fr,l=>by
  simp only[iG.cell,iG.read,axB];have h1:Qq fr fr=true:=by cases fr<;>rfl
  have h2:r.beq r=true:=aK.MR r;rw[h1];simp only[Bool.and_self];rw[dif_pos h2];rfl
 |.nil,x=>rfl
 |.ref o,x=>by simp[iG.cell,iG.read]
 |.junk,x=>rfl
theorem agh:∀(l:List iG)(x:mZ l),kV l (iT l x)=some x
 |[],_=>rfl
 |c::r,x=>by rw[iT,kV,aj3 c x.1,agh r x.2]
theorem al6:∀(ts:List TypeId)(l:List jy),Qv P ts=some l->∀(x:nO l),KJ l (yh l x)=some x
 |[],l,h,x=>by cases h;rfl
 |t::ts,l,h,x=>by
  rw[Qv]at h;split at h
  .next s r h1 h2=>
   cases h;have ih:=al6 ts r h2 x.2;cases s with
   |one c=>
    have e:(jy.v (.one c)).read ((jy.v (.one c)).val x.1)=some x.1:=aj3 c x.1;rw[yh,KJ,ih,e]
   |agg l=>have e:(jy.v (.agg l)).read ((jy.v (.agg l)).val x.1)=some x.1:=agh l x.1;rw[yh,KJ,ih,e]
  .cases h
def aiF:Out:=⟨[(false,[.plain (.bool true)])],none⟩
theorem ap9{G:kR}{f:FuncId}{fn:Func}{sh:List jy}{F:nO sh->Prop×Out}(hcon:rG P G f (O9 sh F))(hsh:Qv P fn.params.toList=some sh)
 (hF:∀x,O8 sh x->(F x).1/\(F x).2=aiF) (hG:G.ok w) {base base':Nat} {sp:Nat->Bool} {hd:Bool} {args:Array Value} {ds:List (DataW H)} {p:List MemPlace}
 (hA:DataW.TrodAll enc P w base sp hd fn.params.toList args.toList ds p) (hok:∀(j:Nat) t v,fn.params[j]? =some t->args[j]? =some v->Value.okWide P w .any base' t v):
 Calls P f args w λe w'=>e=.returned (.bool true)/\w'.os=w.os/\w'.output=w.output/\w.heap.size<=w'.heap.size/\∀b,b<w.heap.size->w'.heap[b]? =w.heap[b]? :=by
 obtain⟨x,hx⟩:=al5 _ _ hsh _ _ _ hA λj t v ht hv=>hok j t v (by simpa using ht) (by simpa using hv);have hin:=F8 sh x _ hx;obtain⟨hp,ho⟩:=hF x hin;have hc:O9 sh F (yh sh x)=some ((F x).1,aiF):=by unfold O9;rw[al6 _ _ hsh x];simp only[← ho]
 refine(hcon (yh sh x) _ _ 0 _ args w hc hp hG hx).mono ?_;rintro e w' ⟨v,vals,rfl,h1,h2,h3,h4,h5,h6,_,_⟩;have hv:v=.bool true:=h6;exact⟨by rw[hv],h1,h3,h4,h5⟩
theorem arl{w w':World}(h1:w'.os=w.os)(h3:w'.output=w.output)(h5:∀b,b<w.heap.size->w'.heap[b]? =w.heap[b]?)(may:MemPlace->Prop):w.keptBut w' may:=by
 refine⟨h1,h3,λi hi=>?_⟩;rw[h5 i hi];cases hw:w.heap[i]? with
 |none=>trivial
 |some o=>cases o<;>simp
theorem arn{w w':World}(h5:∀b,b<w.heap.size->w'.heap[b]? =w.heap[b]?){p:MemPlace}(hp:p.block<w.heap.size):w.sameAt w' p:=by
 cases p with
 |cell b off=>
  show w'.cell? _=w.cell? _;unfold World.cell?;simp only;rw[h5 b hp]
 |map b=>exact h5 b hp
end Go.Fw
namespace Go.Fw
open Go
variable {P:Program} {G:kR} {f:FuncId}
theorem ani{args:List Arg}{i:Nat}{x:Arg}{p:Nat}(hp:p / 64≠i):dO (args.set i x) p=dO args p:=by unfold dO;rw[axL (λh=>hp h.symm)]
theorem aap{args:List Arg}{i:Nat}{e:TypeId}{r:aK}{l:List r.den}(hi:i<args.length)(p:Nat)(hp:p / 64=i):dO (args.set i (.own e r l)) p=if p=i*64+49 then some (.arr e r l false)else none:=by
 unfold dO;rw[hp,ax2 hi];by_cases h:p=i*64+49
 .subst h;have:Nat.beq ((i*64+49)%64) 49=true:=by
   have:(i*64+49)%64=49:=by omega
   rw[this];rfl
  simp[this]
 .have:Nat.beq (p%64) 49=false:=by
   cases hb:Nat.beq (p%64) 49 with
   |false=>rfl
   |true=>have:=awQ hb;omega
  simp[this,h]
theorem anZ{args:List Arg}{i:Nat}{v:SV}(ha:args[i]? =some (.sv v))(p:Nat)(hp:p / 64=i):dO args p=none:=by unfold dO;rw[hp,ha]
def Qw(γ:Nat->Value)(i:Nat)(o:Nat):Value:=if o=i*64+49 then .slice none 0 0 else γ o
theorem rW.mono{X Y:V}(h:X.le Y):∀(a:Arg)(v:Value),rW X a v->rW Y a v
 |.sv x,v,H=>eU.mono h x v H
 |.kp cs,v,H=>bK.mono h (.cO cs 0) v H
 |.fn f caps,v,H=>bK.mono h (.fn f caps) v H
 |.own _ _ _,_,H|.ptr _,_,H=>H.elim
theorem Qk.mono{X Y:V}(h:X.le Y)(i:Nat):∀(a:Arg)(v:Value),Qk X i a v->Qk Y i a v
 |.own _ _ _,v,H=>bJ.mono h (.ref (i*64+49)) v H
 |.ptr _,v,H=>bK.mono h (.bC (i*64+48) 0) v H
 |.sv x,v,H=>rW.mono h (.sv x) v H
 |.kp cs,v,H=>rW.mono h (.kp cs) v H
 |.fn f caps,v,H=>rW.mono h (.fn f caps) v H
theorem Aw.nil{X Y:V}(h:X.le Y){e:TypeId}{r:aK}:∀(args:List Arg)(vs:List Value)(j i:Nat),args[i]? =some (.sv (.one .nil))->
 Y.ah ((j+i)*64+49)=some (.arr e r [] false)->Y.γ ((j+i)*64+49)=.slice none 0 0->Aw X j args vs->Aw Y j (args.set i (.own e r [])) vs
 |[],[],_,i,ha,_,_,_=>by simp at ha
 |[],_::_,_,_,_,_,_,H=>H.elim
 |_::_,[],_,_,_,_,_,H=>H.elim
 |a::args,v::vs,j,0,ha,ho,hγ,⟨h1,h2⟩=>by
  have ha:a=.sv (.one .nil):=by simpa using ha
  subst ha;have hv:v=.slice none 0 0:=h1;refine⟨⟨⟨e,r,[],false,ho⟩,?_,by rw[hv];rfl⟩,?_⟩
  .rw[hv];exact hγ.symm
  .show Aw Y (j+1) args vs;clear h1 ha ho hγ hv;generalize j+1=k at h2
   induction args generalizing k vs with
   |nil=>cases vs with
    |nil=>trivial
    |cons _ _=>exact h2.elim
   |cons b args ih=>cases vs with
    |nil=>exact h2.elim
    |cons u vs=>exact⟨Qk.mono h k b u h2.1,ih vs (k+1) h2.2⟩
 |a::args,v::vs,j,i+1,ha,ho,hγ,⟨h1,h2⟩=>by
  have e1:j+(i+1)=j+1+i:=by omega
  rw[e1]at ho hγ;exact⟨Qk.mono h j a v h1,Aw.nil h args vs (j+1) i (by simpa using ha) ho hγ h2⟩
theorem iP.ato{con aao:Cm}(i:Nat)(e:TypeId)(r:aK)(hr:0<r.len)(h:iP P G f con)
 (hc:∀args p ρ,aao args=some (p,ρ)->p->args[i]? =some (.sv (.one .nil))/\(∀t,l9 (ρ.bD t) (i*64+49)=none)/\∃q,con (args.set i (.own e r []))=some (q,ρ)/\q):iP P G f aao:=by
 intro args p ρ hcon hp;obtain⟨ha,hF,q,hq1,hq⟩:=hc args p ρ hcon hp;have hlen:i<args.length:=by have:=aw3.1 ha;exact this.1
 obtain⟨hex,hcall⟩:=h _ q ρ hq1 hq;refine⟨hex,λk S γ vs w hG hrep oI hsep hfree=>?_⟩;have hO:∀o,o≠i*64+49->dO (args.set i (.own e r [])) o=dO args o:=by
  intro o ho;by_cases hd:o / 64=i
  .rw[aap hlen o hd,anZ ha o hd,if_neg ho]
  .exact ani hd
 have hN:dO (args.set i (.own e r [])) (i*64+49)=some (.arr e r [] false):=by rw[aap hlen _ (by omega),if_pos rfl]
 have hN':dO args (i*64+49)=none:=anZ ha _ (by omega);have hγN:Qw γ i (i*64+49)=.slice none 0 0:=if_pos rfl;have hγ:∀o,o≠i*64+49->Qw γ i o=γ o:=λo ho=>if_neg ho;have hne:∀o x,dO args o=some x->o≠i*64+49:=λo x ho e=>by rw[e,hN']at ho;cases ho
 have le:V.le ⟨w,w.heap.size,S,γ,dO args⟩ ⟨w,w.heap.size,S,Qw γ i,dO (args.set i (.own e r []))⟩:=by
  refine⟨aw7 _,λb hb=>⟨⟨hb.1,hb.2.1,λo x hx=>?_⟩,rfl⟩,λo cs hx=>⟨⟨cs,?_⟩,hγ o (hne o _ hx)⟩,λo e r l fr hx=>⟨⟨l,fr,?_⟩,hγ o (hne o _ hx)⟩⟩
  .by_cases ho:o=i*64+49
   .show blk (Qw γ i o)≠some b;rw[ho,hγN];intro hh;cases hh
   .show blk (Qw γ i o)≠some b;rw[hγ o ho];exact hb.2.2 o x ((hO o ho).symm.trans hx)
  .exact(hO o (hne o _ hx)).trans hx
  .exact(hO o (hne o _ hx)).trans hx
 have hbl:∀b,yg (dO (args.set i (.own e r []))) (Qw γ i) b↔yg (dO args) γ b:=by
  intro b;constructor
  .rintro⟨o,x,h1,h2⟩;by_cases ho:o=i*64+49
   .rw[ho,hγN]at h2;cases h2
   .exact⟨o,x,(hO o ho)▸h1,(hγ o ho)▸h2⟩
  .rintro⟨o,x,h1,h2⟩;exact⟨o,x,(hO o (hne o x h1)).trans h1,by rw[hγ o (hne o x h1)];exact h2⟩
 refine Calls.mono (hcall k S (Qw γ i) vs w hG (Aw.nil (Y:=⟨w,w.heap.size,S,Qw γ i,dO (args.set i (.own e r []))⟩) le args vs.toList 0 i ha (by rw[axn];exact hN) (by rw[axn];exact hγN) hrep) ?_ ?_ hfree) ?_
 .intro o x hx;by_cases ho:o=i*64+49
  .subst ho;rw[hN]at hx;cases hx;refine⟨⟨[],?_,hr,λb hb=>?_,λj x hj=>by simp at hj⟩,λb hb=>?_⟩
   .show w.ownsRow 0 e r.len (Qw γ i (i*64+49)) 0 [];rw[hγN];exact azL w 0 e r.len
   .have hb:blk (Qw γ i (i*64+49))=some b:=hb;rw[hγN]at hb;cases hb
   .rw[hγN]at hb;cases hb
  .have hx':dO args o=some x:=(hO o ho)▸hx;have:=oI o x hx';refine⟨dh.mono le o x (λb _=>rfl) (hγ o ho) this.1,λb hb=>this.2 b ((hγ o ho)▸hb)⟩
 .intro o x q y b hx hy hoq hb;by_cases ho:o=i*64+49
  .rw[ho,hγN]at hb;cases hb
  by_cases hq':q=i*64+49
  .rw[hq',hγN];intro hh;cases hh
  rw[hγ o ho]at hb;rw[hγ q hq'];exact hsep o x q y b ((hO o ho)▸hx) ((hO q hq')▸hy) hoq hb
 .rintro en w' ⟨t,ht,v,γ',h1,h2,h3,h4,h5,h6,h7,h8,h9,h10⟩;have aoV:∀o x,l9 (ρ.bD t) o=some x->o≠i*64+49:=λo x ho e=>by rw[e,hF t]at ho;cases ho
  have hL:qI S (args.set i (.own e r [])) (ρ.bD t) (Qw γ i)=qI S args (ρ.bD t) γ:=by
   funext b
   apply propext;constructor
   .rintro⟨a1,a2⟩;refine⟨a1.imp_right (hbl b).1,λq y hy=>?_⟩;have:=a2 q y hy
    rwa [hγ q (aoV q y hy)]at this
   .rintro⟨a1,a2⟩;refine⟨a1.imp_right (hbl b).2,λq y hy=>?_⟩;rw[hγ q (aoV q y hy)];exact a2 q y hy
  rw[hL]at h7 h8 h10;refine⟨t,ht,v,γ',h1,h2,h3,h4,h5,λb hb hn=>h6 b hb (λh=>hn ((hbl b).1 h)),h7,λo x hx=>?_,h9,λo x hx=>?_⟩
  .obtain⟨a1,a2⟩:=h8 o x hx;refine⟨a1,λb hb=>?_⟩;obtain⟨b1,b2,b3⟩:=a2 b hb;refine⟨b1,b2.imp_right (hbl b).1,λq y hy=>?_⟩;have:=b3 q y hy
   rwa [hγ q (aoV q y hy)]at this
  .obtain⟨a1,a2⟩:=h10 o x hx;exact⟨a1.trans (hγ o (aoV o x hx)),a2⟩
theorem aqa{l:List iG}{e:TypeId}{r:aK}{rest:List gQ}{dM:List oC}{F:jg (.ptr l:: .own e r::rest)->Prop×(kP dM×kF (.ptr l:: .own e r::rest)->Prop)}
 {F':jg (.ptr l:: .p (.v (.one .nil))::rest)->Prop×(kP dM×kF (.ptr l:: .own e r::rest)->Prop)} (hr:0<r.len) (h:iP P G f (mX (.ptr l:: .own e r::rest) dM F))
 (hF:∀a x,(F' (a,(),x)).1->(F (a,[],x)).1) (hF2:∀a x,(F' (a,(),x)).1->(F' (a,(),x)).2=(F (a,[],x)).2):iP P G f (mX (.ptr l:: .p (.v (.one .nil))::rest) dM F'):=by
 refine iP.ato 1 e r hr h λargs p ρ hcon hp=>?_
 match args,hcon with
 |[],hcon=>simp[mX,jl]at hcon
 |[a],hcon=>
  have:jl (.ptr l:: .p (.v (.one .nil))::rest) [a]=none:=by simp only[jl];split<;>simp_all
  simp[mX,this]at hcon
 |a::b::args,hcon=>
  cases ha:(gQ.ptr l).read a with
  |none=>simp[mX,jl,ha]at hcon
  |some a'=>
  cases hb:(gQ.p (.v (.one .nil))).read b with
  |none=>simp[mX,jl,ha,hb]at hcon
  |some b'=>
  cases hx:jl rest args with
  |none=>simp[mX,jl,ha,hb,hx]at hcon
  |some x=>
   have hb2:b=.sv (.one .nil):=by
    cases b with
    |sv s=>cases s with
     |one c=>cases c with
      |nil=>rfl
      |int k n=>cases hb
      |bool k=>cases hb
      |str k=>cases hb
      |sl e r l fr=>cases hb
      |ref o=>cases hb
      |junk=>cases hb
     |agg cs=>cases hb
    |_=>cases hb
   subst hb2;simp only[mX,jl,ha,hb,hx]at hcon;have hcon:=Option.some.inj hcon;have h1:(F' (a',(),x)).1=p:=congrArg Prod.fst hcon;have h2:(⟨kP dM×kF (.ptr l:: .own e r::rest),(F' (a',(),x)).2,λt=>⟨jk dM t.1,none⟩,λt=>jm (.ptr l:: .own e r::rest) t.2⟩:Oq)=ρ:=congrArg Prod.snd hcon;have hp':(F' (a',(),x)).1:=h1▸hp;subst h2;refine⟨rfl,λt=>rfl,(F (a',[],x)).1,?_,hF a' x hp'⟩
   .have ho:(gQ.own e r).read (.own e r [])=some []:=by unfold gQ.read;simp only[axB];rw[dif_pos (aK.MR r)];rfl
    simp only[List.set_cons_succ,List.set_cons_zero,mX,jl,ha,ho,hx];have:=hF2 a' x hp';exact congrArg (λz=>some ((F (a',[],x)).1,(⟨kP dM×kF (.ptr l:: .own e r::rest),z,λt=>⟨jk dM t.1,none⟩,λt=>jm (.ptr l:: .own e r::rest) t.2⟩:Oq))) this.symm
end Go.Fw
namespace Go.Fw
open Go
theorem af{b:Bool}{A B:Prop}(h1:b=true->A)(h2:b=false->B):cond b A B:=by
 cases b
 .exact h2 rfl
 .exact h1 rfl
theorem drop_cons{α:Type}(a:List α)(n:Nat)(d:α)(h:n<a.length):a.drop n=a.getD n d::a.drop (n+1):=by rw[azf h,awR,awV h,azt]
theorem fQ(z:Int)(h:-9223372036854775808<=z/\z<=9223372036854775807):IntKind.i64.wrap z=z:=IntWalk.i64_in z (by omega)
theorem maxLen_eq:maxLen=9223372036854775807:=by decide
theorem bM:big=4294967296:=rfl
theorem getD_mem{α:Type}{l:List α}{n:Nat}{d:α}(h:n<l.length):l.getD n d∈l:=by rw[awR,awV h,azt];exact ayb h
end Go.Fw
namespace Go.Fw
open Go
end Go.Fw
namespace Go.Fw
open Go
variable {P:Program}
def qK(cur:Array Value)(o:Nat)(cs:List Value):Array Value:=(cur.toList.take o++cs++cur.toList.drop (o+cs.length)).toArray
theorem wP(cur:Array Value)(o:Nat)(cs:List Value)(h:o+cs.length<=cur.size):(qK cur o cs).size=cur.size:=by simp only[qK,ayF,awW,awT,axt,axd];omega
theorem xk(cur:Array Value)(o:Nat)(cs:List Value)(k:Nat)(h:o+cs.length<=cur.size):
 (qK cur o cs).toList[k]? =if k<o then cur.toList[k]? else if k<o+cs.length then cs[k-o]? else cur.toList[k]? :=by
 have ht:(cur.toList.take o).length=o:=by rw[awT,axd];omega
 simp only[qK];by_cases h1:k<o
 .rw[if_pos h1,axA,axq (by omega),axa,if_pos h1]
 .rw[if_neg h1];by_cases h2:k<o+cs.length
  .rw[if_pos h2,axA,axl (by omega),ht,axq (by omega)]
  .rw[if_neg h2,axl (by rw[awW];omega),awW,ht,axs];congr 1;omega
theorem aoW(R:Array Value)(a:Nat)(vs ds:List Value)(h:a+vs.length+ds.length<=R.size):
 (qK (qK R a vs) (a+vs.length) ds).toList.take (a+vs.length+ds.length)=R.toList.take a++(vs++ds):=by
 have s1:=wP R a vs (by omega);have hl:(R.toList.take a).length=a:=by rw[awT,axd];omega
 apply ayf;intro j;rw[axa];by_cases h1:j<a
 .rw[if_pos (by omega),xk _ _ _ _ (by omega),if_pos (by omega),xk _ _ _ _ (by omega),if_pos h1,axq (by omega),axa,if_pos h1]
 .rw[axl (by omega),hl];by_cases h2:j<a+vs.length
  .rw[if_pos (by omega),xk _ _ _ _ (by omega),if_pos h2,xk _ _ _ _ (by omega),if_neg h1,if_pos h2,axq (by omega)]
  .rw[axl (by omega)];by_cases h3:j<a+vs.length+ds.length
   .rw[if_pos h3,xk _ _ _ _ (by omega),if_neg h2,if_pos h3];congr 1;omega
   .rw[if_neg h3,axE (by omega)]
theorem aoX(R:Array Value)(a:Nat)(vs ds:List Value)(h:a+vs.length+ds.length<=R.size):
 (qK (qK R (a+vs.length) ds) a vs).toList.take (a+vs.length+ds.length)=R.toList.take a++(vs++ds):=by
 have s1:=wP R (a+vs.length) ds (by omega);have hl:(R.toList.take a).length=a:=by rw[awT,axd];omega
 apply ayf;intro j;rw[axa];by_cases h1:j<a
 .rw[if_pos (by omega),xk _ _ _ _ (by omega),if_pos (by omega),xk _ _ _ _ (by omega),if_pos (by omega),axq (by omega),axa,if_pos h1]
 .rw[axl (by omega),hl];by_cases h2:j<a+vs.length
  .rw[if_pos (by omega),xk _ _ _ _ (by omega),if_neg h1,if_pos h2,axq (by omega)]
  .rw[axl (by omega)];by_cases h3:j<a+vs.length+ds.length
   .rw[if_pos h3,xk _ _ _ _ (by omega),if_neg h1,if_neg h2,xk _ _ _ _ (by omega),if_neg h2,if_pos h3];congr 1;omega
   .rw[if_neg h3,axE (by omega)]
theorem al7(w:World)(g:Nat)(a b:Array Value):(w.setRow g a).setRow g b=w.setRow g b:=setRow_setRow w g a b
theorem size_setRow(w:World)(g:Nat)(a:Array Value):(w.setRow g a).heap.size=w.heap.size:=by simp[World.setRow]
theorem G9(w:World)(dT sT ty e:TypeId)(k g o dl dc:Nat)(sa:Addr)(sl sc n:Nat)(cur:Array Value)(t:TypeId)(cs:List Value)
 (hu:P.underlying dT=some (.slice e)) (hs:(P.info? e).map (·.size)=some k) (hg:w.heap[g]? =some (.cells cur t (0,0))) (hn:Nat.min sl dl=n) (hcl:cs.length=n*k)
 (hsrc:∀j v,cs[j]? =some v->w.cell? (sa.add j)=some v) (hfit:o+cs.length<=cur.size) (h1:∀v∈cs,v.oneCell'=true):
 (Builtin.copy_ #[dT,sT] ty #[.slice (some ⟨g,o,none⟩) dl dc,.slice (some sa) sl sc]).run P w=.ok (goInt n) (w.setRow g (qK cur o cs)):=by
 have hl:=run_loadCells_list (P:=P) w sa cs hsrc;have hst:=azK P g o t cs 0 cur w hg (by simpa using hfit) h1;cases hq:P.info? e with
 |none=>simp[hq]at hs
 |some i=>
  have hi:i.size=k:=by simpa[hq]using hs
  simp[Builtin.copy_,axo hu,Builtin.lenOf,Builtin.firstCells,sizeOf,typeInfo,hq,hi,hn,← hcl,hl,hst,qK]
theorem aaq(v:Value)(h:v.ownBlock=none\/True):∀{n:Nat}{e:TypeId}{k b0:Nat}{xs:List Value}{w:World},w.ownsRow b0 e k v n xs->blk v=v.ownBlock:=by intro n e k b0 xs w hw;rcases hw.2 with⟨rfl,_⟩|⟨g,cap,cur,rfl,_⟩<;>rfl
def agi(P:Program)(f:FuncId)(e:TypeId)(k:Nat):Prop:=
 ∀(w:World)(v u:Value)(n i:Nat)(xs ys:List Value),w.ownsRow 0 e k v n xs->w.ownsRow 0 e k u 1 ys->(∀b,v.ownBlock=some b->u.ownBlock≠some b)->i<=n->n<=1000->
  (∀x∈xs,x.oneCell'=true)->(∀x∈ys,x.oneCell'=true)->
  Calls P f #[v,.int .i64 i,u] w λen w'=>∃v',en=.returned v'/\w'.ownsRow 0 e k v' (n+1) (xs.take (i*k)++(ys++xs.drop (i*k)))/\w.grownBy w' v.ownBlock/\
   (∀g,v'.ownBlock=some g->v.ownBlock=some g\/w.heap.size<=g)
theorem al8{h:Array Obj}{S:Nat->Prop}{r:aK}{xs:List Value}{l:List r.den}(hlen:xs.length=l.length*r.len)(hx:∀i x,l[i]? =some x->bQ h S r ((xs.drop (i*r.len)).take r.len) x)(hpos:0<r.len):
 ∀x∈xs,x.oneCell'=true:=by
 intro x hm;obtain⟨j,hj,rfl⟩:=ayH.1 hm;have hq:j / r.len<l.length:=by rw[Nat.div_lt_iff_lt_mul hpos];omega
 refine bQ.ones r _ _ (hx (j / r.len) _ (awV hq)) _ ?_;refine List.mem_iff_getElem?.2 ⟨j%r.len,?_⟩;have hd:=azW j r.len;rw[axa,if_pos (azN _ hpos),axs,azy,hd,awV hj]
theorem anj(xs ys:List Value)(k n i q:Nat)(hxs:xs.length=n*k)(hys:ys.length=k)(hi:i<=n):
 ((xs.take (i*k)++(ys++xs.drop (i*k))).drop (q*k)).take k=if q<i then(xs.drop (q*k)).take k else if q=i then ys else(xs.drop ((q-1)*k)).take k:=by
 have hik:i*k<=xs.length:=by rw[hxs];exact axg _ hi
 have hlt:(xs.take (i*k)).length=i*k:=by rw[awT];omega
 by_cases h1:q<i
 .have hqk:q*k+k<=i*k:=by
   have:(q+1)*k<=i*k:=axg _ h1
   rwa [axw,az0]at this
  rw[if_pos h1,ax7 (by omega),axV (by rw[axt];omega),azD,ayy];congr 1;omega
 .rw[if_neg h1];by_cases h2:q=i
  .subst h2;rw[if_pos rfl];have h0:(xs.take (q*k)++(ys++xs.drop (q*k))).drop (q*k)=ys++xs.drop (q*k):=by rw[ax7 (by omega),ayT (by omega),ayg]
   rw[h0,axV (by omega),axZ (by omega)]
  .rw[if_neg h2];have hqi:i+1<=q:=by omega
   have e1:q*k=i*k+(k+(q-1-i)*k):=by
    have:q=i+(1+(q-1-i)):=by omega
    conv=>lhs;rw[this,axw,axw,az0]
   have e2:(q-1)*k=i*k+(q-1-i)*k:=by rw[← axw];congr 1;omega
   have h0:(xs.take (i*k)++(ys++xs.drop (i*k))).drop (i*k+k)=xs.drop (i*k):=by rw[← ayj,ax7 (by omega),ayT (by omega:(xs.take (i*k)).length<=i*k),ayg,ax7 (by omega),ayT (by omega:ys.length<=k),ayg]
   rw[e1,e2,← azG,← ayj,h0,ayj]
theorem Nw{s:gQ}{sh:List gQ}:∀{args:List Arg}{d:jg (s::sh)},jl (s::sh) args=some d->∃x xs,args=x::xs/\s.read x=some d.1/\jl sh xs=some d.2
 |[],_,h=>by simp[jl]at h
 |x::xs,d,h=>by
  rw[jl]at h;split at h
  .next a b h1 h2=>cases h;exact⟨x,xs,rfl,h1,h2⟩
  .cases h
theorem agj:∀{args:List Arg}{d:jg []},jl [] args=some d->args=[]
 |[],_,_=>rfl
 |_::_,_,h=>by simp[jl]at h
abbrev Qx(e:TypeId)(r:aK):List gQ:=[.own e r,.p (.v (.one (.int .i64))),.own e r]
abbrev al9(e:TypeId)(r:aK):List oC:=[.one (.own e r false)]
theorem gQ.ama{e:TypeId}{r:aK}{x:Arg}{d:List r.den}(h:(gQ.own e r).read x=some d):x=.own e r d:=by
 cases x with
 |own f s l=>
  simp only[gQ.read]at h;split at h
  .next hb=>
   have he:=awQ hb;subst he;split at h
   .next hs=>have hr:=aK.eq_of_beq s r hs;subst hr;cases h;rfl
   .cases h
  .cases h
 |_=>simp[gQ.read]at h
theorem gQ.aro{x:Arg}{d:Int}(h:(gQ.p (.v (.one (.int .i64)))).read x=some d):x=.sv (.one (.int .i64 d)):=by
 cases x with
 |sv x=>
  cases x with
  |one c=>
   cases c with
   |int k n=>
    simp only[gQ.read,jy.read,tV.read,iG.read]at h;cases k<;>simp_all
   |_=>simp[gQ.read,jy.read,tV.read,iG.read]at h
  |agg l=>simp[gQ.read,jy.read,tV.read]at h
 |_=>simp[gQ.read,jy.read]at h
theorem ank{G:kR}{f:FuncId}{e:TypeId}{r:aK}(hpos:0<r.len)(hM:agi P f e r.len)
 {F:jg (Qx e r)->Prop×(kP (al9 e r)×kF (Qx e r)->Prop)}
 (hF:∀(l:List r.den)(i:Int)(lv:List r.den),(F (l,i,lv,())).1->0<=i/\i<=l.length/\l.length<=1000/\lv.length=1/\(F (l,i,lv,())).2 ((l.take i.toNat++(lv++l.drop i.toNat),()),())):
 iP P G f (mX (Qx e r) (al9 e r) F):=by
 intro args p ρ hcon hp;simp only[mX]at hcon;split at hcon
 .next x hx=>
  revert x;show∀x:List r.den×Int×List r.den×Unit,_;rintro⟨l,i,lv,⟨⟩⟩ hx hcon;have hF1:=Option.some.inj hcon;have hp1:(F (l,i,lv,())).1=p:=congrArg Prod.fst hF1;have hρ:=congrArg Prod.snd hF1;simp only at hρ;subst hρ;rw[← hp1]at hp;obtain⟨h0,hi,hn,hv1,hR⟩:=hF l i lv hp;obtain⟨a0,r0,rfl,hx0,h1⟩:=Nw hx;obtain⟨a1,r1,rfl,hx1,h2⟩:=Nw h1;obtain⟨a2,r2,rfl,hx2,h3⟩:=Nw h2;have:=agj h3;subst this;have e0:=gQ.ama hx0;have e2:=gQ.ama hx2;have e1:=gQ.aro hx1;subst e0 e1 e2;refine⟨⟨_,hR⟩,?_⟩;intro k S γ vs w hG hrep oI hap hk;have o49:dO [.own e r l,.sv (.one (.int .i64 i)),.own e r lv] 49=some (.arr e r l false):=rfl;have atp:dO [.own e r l,.sv (.one (.int .i64 i)),.own e r lv] 177=some (.arr e r lv false):=rfl
  match hvs:vs.toList,hrep with
  |[v,vi,u],hrep=>
   have ev:v=γ 49:=hrep.1.2.1;have eu:u=γ 177:=hrep.2.2.1.2.1;have evi:vi=.int .i64 i:=hrep.2.1.1;have evs:vs=#[γ 49,.int .i64 i,γ 177]:=by obtain⟨vl⟩:=vs;simp at hvs;rw[hvs,ev,eu,evi]
   subst evs;obtain⟨⟨xs,hxs,_,_,hxr⟩,awC⟩:=oI 49 _ o49;obtain⟨⟨ys,hys,_,_,hyr⟩,awq⟩:=oI 177 _ atp;have B1:=aaq (γ 49) (.inr trivial) hxs;have B2:=aaq (γ 177) (.inr trivial) hys;have h1:=al8 hxs.1 hxr hpos;have h2:=al8 hys.1 hyr hpos;have hin:i.toNat<=l.length:=by omega
   have hik:((i.toNat:Nat):Int)=i:=by omega
   have arp:w.ownsRow 0 e r.len (γ 177) 1 ys:=by rw[← hv1];exact hys
   have hrun:=hM w (γ 49) (γ 177) l.length i.toNat xs ys hxs arp (λb hb=>by rw[← B2];exact hap 49 _ 177 _ b o49 atp (by decide) (by rw[B1];exact hb)) hin hn h1 h2;rw[hik]at hrun;refine hrun.mono ?_;rintro en w' ⟨v',rfl,hown,hgr,hnew⟩;have Bv:=aaq v' (.inr trivial) hown;have hone:v'.oneCell'=true:=by rcases hown.2 with⟨rfl,_⟩|⟨g,cap,cur,rfl,_⟩<;>rfl
   have at7:look [(k,aX.arr e r (l.take i.toNat++(lv++l.drop i.toNat)) false)] k=some (.arr e r (l.take i.toNat++(lv++l.drop i.toNat)) false):=by simp[look]
   have lookO:∀o x,look [(k,aX.arr e r (l.take i.toNat++(lv++l.drop i.toNat)) false)] o=some x->k=o/\.arr e r (l.take i.toNat++(lv++l.drop i.toNat)) false=x:=by intro o x h;have:=yc _ _ _ h;simp at this;exact⟨this.1.symm,this.2.symm⟩
   have aoY:∀q y,¬l9 (jm (Qx e r) ()) q=some y:=by
    intro q y h;unfold l9 at h
    match hq:q / 64,h with
    |0,h=>simp[jm]at h
    |1,h=>simp[jm]at h
    |2,h=>simp[jm]at h
    |n+3,h=>simp[jm]at h
   refine⟨_,hR,v',λ_=>v',rfl,hgr.os,hgr.tape,hgr.output,hgr.size,λb hb hnb=>?_,?_,?_,?_,?_⟩
   .exact hgr.block b hb λhe=>hnb ⟨49,_,o49,by rw[B1];exact he.symm⟩
   .exact⟨⟨e,r,_,false,at7⟩,rfl,hone⟩
   .intro o x hx;obtain⟨rfl,rfl⟩:=lookO o x hx;refine⟨⟨xs.take (i.toNat*r.len)++(ys++xs.drop (i.toNat*r.len)),?_,hpos,λ_ _ h=>(by cases h),λq x hx=>?_⟩,λb hb=>?_⟩
    .have hlen:(l.take i.toNat++(lv++l.drop i.toNat)).length=l.length+1:=by simp;omega
     rw[hlen];exact hown
    .have hq:q<=l.length:=by have:=(aw3.1 hx).1;simp at this;omega
     rw[anj xs ys r.len l.length i.toNat q hxs.1 (by rw[arp.1,az0]) hin];have KF:∀b,(⟨w,w.heap.size,S,γ,dO [.own e r l,.sv (.one (.int .i64 i)),.own e r lv]⟩:V).dJ false b->
      (⟨w',w.heap.size,qI S [.own e r l,.sv (.one (.int .i64 i)),.own e r lv] (jm (Qx e r) ()) γ,λ_=>v',look [(k,.arr e r (l.take i.toNat++(lv++l.drop i.toNat)) false)]⟩:V).dJ false b/\w'.heap[b]? =w.heap[b]? :=by
      intro b hb;obtain⟨⟨hb1,hb2,hb3⟩,_⟩:=hb;have hb1:b<w.heap.size:=hb1;have hne:some b≠(γ 49).ownBlock:=λhe=>hb3 49 _ o49 (by rw[B1];exact he.symm);refine⟨⟨⟨axI hb1 hgr.size,λ_=>⟨.inl (hb2 hb1),λq y hq=>?_⟩,λo x hx he=>?_⟩,λh=>(by cases h)⟩,hgr.block b hb1 hne⟩
      .exact absurd hq (aoY q y)
      .have he:blk v'=some b:=he;rw[Bv]at he;rcases hnew b he with h|h
       .exact hne h.symm
       .omega
     by_cases c1:q<i.toNat
     .rw[if_pos c1];refine bQ.mono KF r _ x (hxr q x ?_);rw[axq (by rw[awT];omega),axa,if_pos c1]at hx;exact hx
     .rw[if_neg c1];have hlt:(l.take i.toNat).length=i.toNat:=by rw[awT];omega
      rw[axl (by omega),hlt]at hx;by_cases c2:q=i.toNat
      .rw[if_pos c2];rw[c2,ayY,axq (by omega)]at hx;have:=hyr 0 x hx;rw[ayI,ax3,axZ (by rw[arp.1];omega)]at this;exact bQ.mono KF r _ x this
      .rw[if_neg c2];rw[axl (by omega),hv1,axs,show i.toNat+(q-i.toNat-1)=q-1 by omega]at hx;exact bQ.mono KF r _ x (hxr (q-1) x hx)
    .have he:blk v'=some b:=hb;have he2:=he;rw[Bv]at he2;refine⟨?_,?_,λq y hq=>absurd hq (aoY q y)⟩
     .rcases hown.2 with⟨hv,_⟩|⟨g,cap,cur,hv,_,hg,_⟩
      .rw[hv]at he;cases he
      .rw[hv]at he;cases he;exact(axy.1 hg).1
     .rcases hnew b he2 with h|h
      .exact .inr ⟨49,_,o49,by rw[B1];exact h⟩
      .exact .inl h
   .intro o x q y b h1 h2 hne;exact absurd ((lookO o x h1).1.symm.trans (lookO q y h2).1) hne
   .intro o x h;exact absurd h (aoY o x)
 .cases hcon
end Go.Fw
namespace Go.Fw
open Go
variable {P:Program} {H:Type} {enc:TypeId×Value->H} {w:World}
theorem YC(hl:laidOutB P=true){base:Nat}{sp':Nat->Bool}{W W':World}:∀(ts:List TypeId)(_:ts.all (λt=>P.readableRec t&&decide (t<P.types.size))=true)
 (vs:List Value) (ds:List (DataW H)) (ps:List MemPlace),DataW.TrodAll enc P W base (λ_=>true) true ts vs ds ps->(∀p∈ps,W.sameAt W' p)->(∀p∈ps,sp' p.block=true)->DataW.TrodAll enc P W' base sp' true ts vs ds ps
 |[],_,vs,ds,ps,h,_,_=>by
  cases vs<;>cases ds<;>simp[DataW.TrodAll]at h ⊢;exact h
 |t::ts,ht,vs,ds,ps,h,h1,h2=>by
  rw[ax0,awP,awP]at ht;cases vs with
  |nil=>cases ds<;>simp[DataW.TrodAll]at h
  |cons v vs=>
   cases ds with
   |nil=>simp[DataW.TrodAll]at h
   |cons d ds=>
    obtain⟨a,b,g1,g2,rfl⟩:=h;exact⟨a,b,WideElems.Trod_stays hl ht.1.1 (ax8 ht.1.2) g1 (λp hp=>h1 p (axM _ hp)) (λp hp=>h2 p (axM _ hp)),
     YC hl ts ht.2 vs ds b g2 (λp hp=>h1 p (ax5 _ hp)) (λp hp=>h2 p (ax5 _ hp)),rfl⟩
theorem trodAll_length{base:Nat}{sp:Nat->Bool}{hd:Bool}{W:World}:∀(ts:List TypeId)(vs:List Value)(ds:List (DataW H))(ps:List MemPlace),DataW.TrodAll enc P W base sp hd ts vs ds ps->ds.length=ts.length
 |[],vs,ds,ps,h=>by cases vs<;>cases ds<;>simp[DataW.TrodAll]at h ⊢
 |t::ts,vs,ds,ps,h=>by
  cases vs with
  |nil=>cases ds<;>simp[DataW.TrodAll]at h
  |cons v vs=>
   cases ds with
   |nil=>simp[DataW.TrodAll]at h
   |cons d ds=>obtain⟨a,b,g1,g2,rfl⟩:=h;simp[trodAll_length ts vs ds b g2]
theorem arq{fn:Func}{s:ChangeSpec}{apart fresh handsOn again:Bool}{W W':World}{args:Array Value}{ds gs:List (DataW H)}{before:List MemPlace}{tb:TypeId}
 (hvars:s.vars=[]) (hspec:∀l:List (DataW H),l.length=fn.params.toList.length->(s.fn H l).results=[.lit (.bool true)]/\(s.fn H l).args=l/\(s.fn H l).vars=[])
 (hres:fn.resultTypes=#[tb]) (hb:P.underlying tb=some .bool) (hl:laidOutB P=true) (hread:fn.params.toList.all (λt=>P.readableRec t&&decide (t<P.types.size))=true)
 (hW:DataW.Whole enc P fn.params.toList s.vars apart W args.toList ds gs before) (hos:W'.os=W.os) (hout:W'.output=W.output) (hheap:∀b,b<W.heap.size->W'.heap[b]? =W.heap[b]?):
 s.post enc P fn apart fresh handsOn again W args (.bool true) W':=by
 have hlt:=hW.lt;have hW0:=hW;obtain⟨p,q,hA,hV,hpq,hz,hn⟩:=hW;rw[hvars]at hV;have hg:gs=[]/\q=[]:=by
  cases gs with
  |nil=>exact⟨rfl,hV⟩
  |cons g gs=>simp[DataW.TrodVars]at hV
 obtain⟨rfl,rfl⟩:=hg;rw[axK]at hpq;subst hpq;have hlen:=trodAll_length _ _ _ _ hA;obtain⟨r1,r2,r3⟩:=hspec (ds++[]) (by simpa using hlen);rw[axK]at r1 r2 r3;have hsame:∀x∈before,W.sameAt W' x:=λx hx=>arn hheap (hlt x hx);have R:∀(b:Nat)(sp:Nat->Bool)(hd:Bool),DataW.TrodAll enc P W' b sp hd fn.resultTypes.toList ((Value.bool true).resultList fn.resultTypes.size) [.lit (.bool true)] []:=by intro b sp hd;rw[hres];exact⟨[],[],⟨1,by simp[DataW.trod,Value.cells,hb]⟩,rfl,rfl⟩
 have A:∀sp:Nat->Bool,(∀x∈before,sp x.block=true)->DataW.TrodAll enc P W' 0 sp true fn.params.toList args.toList ds before:=λsp hsp=>YC hl _ hread _ _ _ hA hsame hsp;have hold:∀x∈before,(λb=>decide (b<W.heap.size)) x.block=true:=λx hx=>by simpa using hlt x hx
 refine⟨ds,[],before,[],before,[],hW0,?_,?_,?_,arl hos hout hheap _,λ_=>⟨?_,.lit (.bool true)::ds,[],before,⟨before,[],?_,?_,by simp,?_,hn⟩,λx hx _=>hx⟩⟩
 .rw[axK,r1];exact R _ _ _
 .rw[axK,r2];exact A _ hold
 .rw[axK,r3,hvars];rfl
 .intro j t r h1 h2;rw[hres]at h1 h2
  match j with
  |0=>
   simp[Value.resultList]at h1 h2;subst h1 h2;simp[Value.okWide,hb,Go.Cell.okWide,Go.Cell.ok]
  |j+1=>simp at h1
 .exact ChangeShapes.trodAll_append (A _ (λ_ _=>rfl)) (R _ _ _)
 .rw[hvars];rfl
 .intro b off hp;have hbl:=hlt _ hp;have e:W'.frozen? ⟨b,off,none⟩=W.frozen? ⟨b,off,none⟩:=by unfold World.frozen?;simp only;rw[hheap b hbl]
  rw[e];exact hz b off hp
end Go.Fw
namespace Go.Fw
open Go
theorem law_lifted{H:Type}{enc:TypeId×Value->H}{C:Checked}{G:kR}{os:Os}{f:FuncId}{fn:Func}{s:ChangeSpec}{conds:List PathCond}{apart fresh handsOn again:Bool}{tb:TypeId}{sh:List jy}{F:nO sh->Prop×Out}
 (own:ownKnob C.prog.godebug=none) (started:os.Started) (noInit:C.prog.inits.idxOf? f=none) (hfn:C.prog.funcs[f]? =some fn)
 (witness:∃(w:World)(tape:Tape)(i:Input),w.os=os/\(w.forCall tape i).Shaped C.prog/\i.vars=[]/\Input.okWide C.prog (w.forCall tape i) .any w.heap.size f i/\
   s.pre6 enc C.prog fn conds apart (w.forCall tape i).memory i.args/\({}:Assume).holds C.prog (lone (Frame.enter C.prog f i.args .normal) [] (w.forCall tape i)))
 (hcon:rG C.prog G f (O9 sh F)) (hsh:Qv C.prog fn.params.toList=some sh) (hF:∀x,O8 sh x->(F x).1/\(F x).2=aiF) (hG:∀w,G.ok w)
 (hvars:s.vars=[]) (hspec:∀l:List (DataW H),l.length=fn.params.toList.length->(s.fn H l).results=[.lit (.bool true)]/\(s.fn H l).args=l/\(s.fn H l).vars=[])
 (hres:fn.resultTypes=#[tb]) (hb:C.prog.underlying tb=some .bool) (hl:laidOutB C.prog=true) (hread:fn.params.toList.all (λt=>C.prog.readableRec t&&decide (t<C.prog.types.size))=true):
 ReturnsInHanded {} C os f .any (s.pre6 enc C.prog fn conds apart) (s.post enc C.prog fn apart fresh handsOn again):=by
 refine returnsInHanded_of_change own started noInit hfn witness ?_;intro W base args ds gs before hval hW _ _;have hW0:=hW;obtain⟨p,q,hA,_⟩:=hW;refine(ap9 hcon hsh hF (hG W) hA hval).mono ?_;rintro e W' ⟨rfl,h1,h2,_,h3⟩;exact⟨_,rfl,arq hvars hspec hres hb hl hread hW0 h1 h2 h3⟩
end Go.Fw
