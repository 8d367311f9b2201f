import Derived.Test.YtgbobfdlafkijaaGreatFwD
import Derived.Test.YtgbobfdlafkijaaGreatFwB
import Derived.Test.YtgbobfdlafkijaaGreatFwA
import Derived.ChangeArms
import Derived.WideKeyArgs
import Derived.ChangeSame
import Derived.ChangeOld
import Derived.Handed
import Derived.IntWalk
import Derived.Laws.IdiomCopy
import Derived.ProofKit
namespace Go.Fw
open Go
variable {P:Program} {w0:World} {M:Nat→Prop} {T:Ext} {γ γ':Nat→Value} {st:St} {a:Act} {w w':World} {Θ:iP} {Γ:aJ}
structure U2 where
 aAa:List aiL
 c:Shape
 v:Shape
structure Hints where
 own:Nat→Bool
 loops:Nat→Option U2
 cuts:Nat→Option U2
 upd:List Nat
 frz:Nat→List Pre
def F8:Code→Option Nat
 | .region id _ _=>some id
 | .seq x y=>match F8 x with|some n=>some n|none=>F8 y
 | .cond _ x y=>match F8 x with|some n=>some n|none=>F8 y
 | .block _ x| .loop x=>F8 x
 |_=>none
def cutAt (H:Hints) (y:Code):Option U2:=match F8 y with
 |some n=>H.cuts n
 |none=>none
def Xx (Θ:iP) (Γ:aJ) (H:Hints):Code→(Exit→St→Prop)→St→Prop
 | .skip,Q,st=>Q .normal st
 | .region id ops false,Q,st=>ad6 (H.frz id) (runs Θ Γ H.own ops.toList (Q .normal) ops.toList) st
 | .region id ops true,Q,st=>ad6 (H.frz id) (aaI Θ Γ H.own H.upd ops.toList (Q .normal)) st
 | .seq x y,Q,st=>match cutAt H y with
   |none=>Xx Θ Γ H x (fun e s=>match e with| .normal=>Xx Θ Γ H y Q s|e=>Q e s) st
   |some sp=>match sp.c.read (only sp.c sp.v st) with
    |some x0=>∃ (J:sp.v.den→Prop),Xx Θ Γ H x (fun e s=>match e with
      | .normal=>match settles s sp.aAa with
        |some s1=>match Nat.beq s1.n st.n,sp.c.read (only sp.c sp.v s1),sp.v.read (only sp.c sp.v s1) with
         |true,some x1,some y1=>x1=x0∧J y1
         |_,_,_=>False
        |none=>False
      |e=>Q e s) st∧∀ y1,J y1→Xx Θ Γ H y Q (joint st.n sp.c sp.v x0 y1)
    |none=>False
 | .cond c x y,Q,st=>match st.ev c with
   | .sv (.one (.bool b))=>cond b (Xx Θ Γ H x Q st) (Xx Θ Γ H y Q st)
   |_=>False
 | .block id c,Q,st=>Xx Θ Γ H c (fun e s=>match e with
   | .exit i=>match Nat.beq i id with|true=>Q .normal s|false=>Q (.exit i) s
   |e=>Q e s) st
 | .exit id,Q,st=>Q (.exit id) st
 | .ret,Q,st=>Q .ret st
 | .loop c,Q,st=>match F8 c with
   |some n=>match H.loops n with
    |some sp=>match settles st sp.aAa with
     |some s0=>match sp.c.read (only sp.c sp.v s0),sp.v.read (only sp.c sp.v s0) with
      |some x0,some y0=>∃ (I:sp.v.den→Prop) (μ:sp.v.den→Nat),I y0∧∀ y,I y→
        Xx Θ Γ H c (fun e s=>match e with
         | .normal=>match settles s sp.aAa with
           |some s1=>match Nat.beq s1.n s0.n,sp.c.read (only sp.c sp.v s1),sp.v.read (only sp.c sp.v s1) with
            |true,some x1,some y1=>x1=x0∧I y1∧μ y1<μ y
            |_,_,_=>False
           |none=>False
         |e=>Q e s) (joint s0.n sp.c sp.v x0 y)
      |_,_=>False
     |none=>False
    |none=>False
   |none=>False
 |_,_,_=>False
theorem aiM {G:pY} (hE:AO P G Θ Γ w0 M) (hm:P.follows .mixedOrders=true) (H:Hints):∀ (c:Code) (QA:Exit→St→Prop) (Q:Exit→Act→World→Prop) (st:St) (γ:Nat→Value) (a:Act) (w:World),
 Rel w0 M T γ st a w→Xx Θ Γ H c QA st→(∀ e s γ' a' w',QA e s→Rel w0 M T γ' s a' w'→Q e a' w')→c.wp P Q a w:=by
 intro c
 induction c with
 |skip=>intro QA Q st γ a w h ha hQ;exact wp_skip (hQ _ _ _ _ _ ha h)
 |region id ops d=>
  intro QA Q st γ a w h ha hQ
  cases d with
  |false=>
   obtain ⟨s0,γ0,h0,hk0⟩:=MS (K:=runs Θ Γ H.own ops.toList (QA .normal) ops.toList) (H.frz id) st γ h ha
   exact axH hE h0 hk0 fun s γ' a' w' hK hR=>hQ _ _ _ _ _ hK hR
  |true=>
   obtain ⟨s0,γ0,h0,hk0⟩:=MS (K:=aaI Θ Γ H.own H.upd ops.toList (QA .normal)) (H.frz id) st γ h ha
   exact aA9 hE hm h0 hk0 fun s γ' a' w' hK hR=>hQ _ _ _ _ _ hK hR
 |seq x y ihx ihy=>
  intro QA Q st γ a w h ha hQ
  rw [Xx] at ha
  split at ha
  · refine wp_seq (ihx _ _ st γ a w h ha ?_)
    intro e s γ' a' w' hq hR
    cases e<;>first|exact ihy _ _ s γ' a' w' hR hq hQ|exact hQ _ _ _ _ _ hq hR
  · next sp hsp=>
    split at ha
    · next x0 hx=>
      obtain ⟨J,h1,h2⟩:=ha
      refine wp_seq (ihx _ _ st γ a w h h1 ?_)
      intro e s γ' a' w' hq hR
      cases e with
      |normal=>
       simp only at hq
       split at hq
       · next s1 hs1=>
         split at hq
         · next x1 y1 hsn hx1 hy1=>
           obtain ⟨rfl,hJ⟩:=hq
           obtain ⟨γ1,hR1⟩:=Rel.settles _ hR hs1
           have hR2:=hR1.joint hx1 hy1
           rw [Nat.eq_of_beq_eq_true hsn] at hR2
           exact ihy _ _ _ γ1 a' w' hR2 (h2 _ hJ) hQ
         · exact hq.elim
       · exact hq.elim
      |_=>exact hQ _ _ _ _ _ hq hR
    · exact ha.elim
 |cond c x y ihx ihy=>
  intro QA Q st γ a w h ha hQ
  rw [Xx] at ha
  split at ha
  · next b hb=>
    have hv:a.eval c= .bool b:=by
     have:=jZ h c
     rw [hb] at this
     exact this
    refine wp_cond_split hv (fun e=>?_) (fun e=>?_)
    · subst e;exact ihx _ _ st γ a w h ha hQ
    · subst e;exact ihy _ _ st γ a w h ha hQ
  · exact ha.elim
 |block id c ih=>
  intro QA Q st γ a w h ha hQ
  refine wp_block (ih _ _ st γ a w h ha ?_)
  intro e s γ' a' w' hq hR
  cases e with
  |exit i=>
   simp only [Exit.inBlock]
   cases hb:Nat.beq i id with
   |true=>
    simp only [hb] at hq
    rw [if_pos (Nat.eq_of_beq_eq_true hb)]
    exact hQ _ _ _ _ _ hq hR
   |false=>
    simp only [hb] at hq
    rw [if_neg (by rintro rfl;simp at hb)]
    exact hQ _ _ _ _ _ hq hR
  |_=>exact hQ _ _ _ _ _ hq hR
 |loop c ih=>
  intro QA Q st γ a w h ha hQ
  rw [Xx] at ha
  split at ha
  · split at ha
    · next sp hsp=>
      split at ha
      · next s0 hs0=>
        split at ha
        · next x0 y0 hx hy=>
          obtain ⟨I,μ,h0,hI⟩:=ha
          obtain ⟨γ0,hR0⟩:=Rel.settles _ h hs0
          let J:sp.v.den→Act→World→Prop:=fun y a' w'=>∃ γ',Rel w0 M T γ' (joint s0.n sp.c sp.v x0 y) a' w'
          have key:∀ (n:Nat) (y:sp.v.den),μ y=n→I y→∀ a' w',J y a' w'→∀ (b:Frame) (k:List Item) (cs:List Frame),
           ∃ e a'' w'',Q e a'' w''∧Arrives P (lone (b.at a' (.code c:: .inLoop c::k)) cs w') b k cs e a'' w'':=by
           intro n
           induction n using Nat.strongRecOn with
           |_ n ihn=>
            intro y hμ hy' a' w' ⟨γ',hR⟩ b k cs
            have hbody:=ih _ (Exit.then (fun a2 w2=>∃ y2,I y2∧μ y2<μ y∧J y2 a2 w2) Q) _ γ' a' w' hR (hI y hy') ?_
            · obtain ⟨e,a1,w1,hq,harr⟩:=hbody b (.inLoop c::k) cs
              cases e with
              |normal=>
               obtain ⟨y2,hI2,hlt,hJ2⟩:=hq
               obtain ⟨e2,a2,w2,hq2,aEd⟩:=ihn (μ y2) (hμ▸hlt) y2 rfl hI2 a1 w1 hJ2 b k cs
               exact ⟨e2,a2,w2,hq2, .of_steps (Steps.trans harr (.one step_inLoop)) aEd⟩
              |exit id=>exact ⟨_,a1,w1,hq, .pass (x:= .inLoop c) rfl (fun _ _=> .inl (by simp)) harr⟩
              |goto l=>exact ⟨_,a1,w1,hq, .pass (x:= .inLoop c) rfl (fun _ _=> .inl (by simp)) harr⟩
              |ret=>exact ⟨_,a1,w1,hq, .pass (x:= .inLoop c) rfl (fun _ _=> .inl (by simp)) harr⟩
              |panic ch=>exact ⟨_,a1,w1,hq, .pass (x:= .inLoop c) rfl (fun _ _=> .inl (by simp)) harr⟩
              |outgrown=>exact ⟨_,a1,w1,hq, .pass (x:= .inLoop c) rfl (fun _ _=> .inl (by simp)) harr⟩
            · intro e s γ2 a2 w2 hq hR2
              cases e with
              |normal=>
               simp only at hq
               split at hq
               · next s1 hs1=>
                 split at hq
                 · next x1 y1 hsn hx1 hy1=>
                   obtain ⟨rfl,hI1,hlt⟩:=hq
                   obtain ⟨γ3,hR3⟩:=Rel.settles _ hR2 hs1
                   have hJ:=hR3.joint hx1 hy1
                   rw [Nat.eq_of_beq_eq_true hsn] at hJ
                   exact ⟨y1,hI1,hlt,_,hJ⟩
                 · exact hq.elim
               · exact hq.elim
              |_=>exact hQ _ _ _ _ _ hq hR2
          intro b k cs
          obtain ⟨e,a',w',hq,harr⟩:=key _ y0 rfl h0 a w ⟨_,hR0.joint hx hy⟩ b k cs
          exact ⟨e,a',w',hq, .of_steps (.one step_loop) harr⟩
        · exact ha.elim
      · exact ha.elim
    · exact ha.elim
  · exact ha.elim
 |rangeFunc f ps x y ihx ihy=>intro QA Q st γ a w h ha hQ;exact ha.elim
 |exit id=>intro QA Q st γ a w h ha hQ;exact wp_exit (hQ _ _ _ _ _ ha h)
 |scope c ih=>intro QA Q st γ a w h ha hQ;exact ha.elim
 |label l=>intro QA Q st γ a w h ha hQ;exact ha.elim
 |goto l=>intro QA Q st γ a w h ha hQ;exact ha.elim
 |ret=>intro QA Q st γ a w h ha hQ;exact wp_ret (hQ _ _ _ _ _ ha h)
 |refuse s=>intro QA Q st γ a w h ha hQ;exact ha.elim
end Go.Fw
namespace Go.Fw
open Go
variable {P:Program} {w0:World} {M:Nat→Prop} {T:Ext} {γ γ':Nat→Value} {st:St} {a:Act} {w w':World} {Θ:iP} {Γ:aJ}
def Arg.av:Arg→AV
 | .sv v=> .sv v
 | .kp cs=> .fM cs 0
 | .fn f caps=> .fn f caps
 | .own _ _ _| .ptr _=> .undef
def entry (n:Nat) (args:List Arg):St:=
 {n:=n,tmps:=fun t=>match args[t]? with|some v=>v.av|none=> .undef,aj:=fun _=>none}
def aaJ (st:St) (o:Nat):Bool:=match st.aj o with|some (.arr _ _ _ _)=>true|_=>false
def aqV (Θ:iP) (st:St):ResultVar→Option SV
 | .tmp t=>match st.tmps t with| .sv v=>some v|_=>none
 | .cell t ty=>match Θ ty,st.tmps t with
   |some ti, .dW o off=>match st.aj o with
    |some (.var cs)=>qj ti cs off
    |_=>none
   |_,_=>none
def Zh (Θ:iP) (st:St):List ResultVar→Option (List SV)
 |[]=>some []
 |r::rs=>match aqV Θ st r,Zh Θ st rs with
  |some v,some vs=>some (v::vs)
  |_,_=>none
def outOf:SV→Bool×List iy
 | .one c=>(false,[.plain c])
 | .agg cs=>(true,cs.map .plain)
def outs:List SV→List (Bool×List iy)
 |[]=>[]
 |v::vs=>outOf (v.kill fun _=>true)::outs vs
def fin (Θ:iP) (rv:List ResultVar) (st:St):Option Out:=
 match Zh Θ (st.freeze (aaJ st)) rv with
 |some vs=>some ⟨outs vs,none⟩
 |none=>none
theorem aaK:∀ (k:Nat) (cs:List Cell),mV k (cs.map .plain)=(cs,[])
 |_,[]=>rfl
 |k,c::cs=>by simp only [List.map_cons,mV,aaK (k+1) cs,iy.take,List.append_nil]
theorem ayM (k:Nat) (v:SV):EH k (outOf v)=(v,[]):=by
 cases v with
 |one c=>rfl
 |agg cs=>simp only [EH,outOf,aaK]
theorem aDd (v:Value) (t:TypeId) (b off:Nat) (hv:v= .pointer (some ⟨b,off,none⟩)):Instr.loadAt t v=(do loadVar t (← asAddr v)):=by
 subst hv;rfl
def VR (tmps:Array Value):ResultVar→Sem Value
 | .tmp t=>pure (tmps.getD t undef)
 | .cell x t=>do loadVar t (← asAddr (tmps.getD x undef))
theorem ad8 (fn:Func) (tmps:Array Value):results fn tmps=(do let vs ← fn.results.mapM (VR tmps);pure (if h:vs.size=1 then vs[0] else .tuple vs)):=by
 unfold results
 congr 1
theorem axJ (hΘ:∀ t ti,Θ t=some ti→qm P t ti) (h:Rel w0 M T γ st a w) {r:ResultVar} {v:SV} (hf:aqV Θ st r=some v):
 ∃ u,(VR a.tmps r).run P w= .ok u w∧fF (aB w0 T γ st w) v u:=by
 cases r with
 |tmp t=>
  simp only [aqV] at hf
  split at hf
  · next e=>
    cases hf
    have:=h.tmps t
    rw [e] at this
    exact ⟨_,rfl,this⟩
  · cases hf
 |cell x t=>
  simp only [aqV] at hf
  split at hf
  · next ti o off ht hx=>
    split at hf
    · next cs ho=>
      have hv:=h.tmps x
      rw [hx] at hv
      obtain ⟨b,cs',_,_,hv'⟩:=hv
      obtain ⟨u,hu,hr⟩:=aaC hΘ h ht (x:= .tmp x) (.inl ⟨o,off,cs,hx,ho,hf⟩)
      refine ⟨u,?_,hr⟩
      rw [VR,← aDd _ t b off hv']
      exact hu
    · cases hf
  · cases hf
theorem Zi (hΘ:∀ t ti,Θ t=some ti→qm P t ti) (h:Rel w0 M T γ st a w):∀ (rs:List ResultVar) (vs:List SV),Zh Θ st rs=some vs→
 ∃ us,(rs.mapM (VR a.tmps)).run P w= .ok us w∧
   fG (aB w0 T γ st w) vs us
 |[],vs,hf=>by cases hf;exact ⟨[],rfl,trivial⟩
 |r::rs,vs,hf=>by
  rw [Zh] at hf
  split at hf
  · next v vs' h1 h2=>
    cases hf
    obtain ⟨u,hu,hr⟩:=axJ hΘ h h1
    obtain ⟨us,hus,hrs⟩:=Zi hΘ h rs vs' h2
    refine ⟨u::us,?_,hr,hrs⟩
    rw [List.mapM_cons,Sem.run_bind,hu]
    simp only [Result.andThen_ok,Sem.run_bind,hus,Sem.run_pure]
  · cases hf
theorem fG.length {X:V}:∀ (cs:List SV) (vs:List Value),fG X cs vs→vs.length=cs.length
 |[],[],_=>rfl
 |_::cs,_::vs,⟨_,h⟩=>by simp [fG.length cs vs h]
 |[],_::_,H|_::_,[],H=>by cases H
theorem fG.get {X:V}:∀ (cs:List SV) (vs:List Value) (i:Nat) (c:SV),fG X cs vs→cs[i]? =some c→∃ v,vs[i]? =some v∧fF X c v
 |[],_,_,_,_,h=>by simp at h
 |c::cs,v::vs,0,d,⟨h1,_⟩,h=>by simp at h;subst h;exact ⟨v,rfl,h1⟩
 |c::cs,v::vs,i+1,d,⟨_,h2⟩,h=>by
  obtain ⟨u,hu,hr⟩:=fG.get cs vs i d h2 (by simpa using h)
  exact ⟨u,by simpa using hu,hr⟩
 |_::_,[],_,_,H,_=>by cases H
theorem vw.length {X:V}:∀ (cs:List Arg) (vs:List Value),vw X cs vs→vs.length=cs.length
 |[],[],_=>rfl
 |_::cs,_::vs,⟨_,h⟩=>by simp [vw.length cs vs h]
 |[],_::_,H|_::_,[],H=>by cases H
theorem vw.get {X:V}:∀ (cs:List Arg) (vs:List Value) (i:Nat) (c:Arg),vw X cs vs→cs[i]? =some c→∃ v,vs[i]? =some v∧xW X c v
 |[],_,_,_,_,h=>by simp at h
 |c::cs,v::vs,0,d,⟨h1,_⟩,h=>by simp at h;subst h;exact ⟨v,rfl,h1⟩
 |c::cs,v::vs,i+1,d,⟨_,h2⟩,h=>by
  obtain ⟨u,hu,hr⟩:=vw.get cs vs i d h2 (by simpa using h)
  exact ⟨u,by simpa using hu,hr⟩
 |_::_,[],_,_,H,_=>by cases H
theorem xW.av {X:V}:∀ (c:Arg) (v:Value),xW X c v→bI X c.av v
 | .sv _,_,h| .kp _,_,h| .fn _ _,_,h=>h
 | .own _ _ _,_,h| .ptr _,_,h=>h.elim
theorem aBb {args:List Arg} {vs:Array Value} {S:Nat→Prop} (n:Nat) (hn:args.length≤n)
 (h:vw ⟨w,w.heap.size,S,fun _=>undef,fun _=>none⟩ args vs.toList):
 Rel w (fun _=>False) ⟨S,fun _=>none,fun _ _ h=>by cases h⟩ (fun _=>undef) (entry n args) {tmps:=vs++Array.replicate (n-vs.size) undef,defers:=[]} w:=by
 have hl:vs.size=args.length:=by simpa using vw.length _ _ h
 refine ⟨fun _ h=>h.elim,rfl,?_,rfl,rfl,rfl,Nat.le_refl _,fun _ _ _=>rfl,fun t=>?_,(fun o x hx=>by cases hx),(fun o x b hx=>by cases hx),(fun o x p y b hx=>by cases hx),(fun o v cs hN=>by cases hN)⟩
 · simp [entry];omega
 · simp only [entry]
   cases ha:args[t]? with
   |none=>trivial
   |some v=>
    obtain ⟨u,hu,hr⟩:=vw.get _ _ t v h ha
    have:(vs++Array.replicate (n-vs.size) undef).getD t undef=u:=by
     have hlt:t<args.length:=by
      rcases Nat.lt_or_ge t args.length with h'|h'
      · exact h'
      · rw [List.getElem?_eq_none h'] at ha;cases ha
     have hlt':t<vs.size:=by omega
     rw [Array.getD_eq_getD_getElem?,Array.getElem?_append_left hlt']
     have:vs[t]? =some u:=by simpa using hu
     rw [this];rfl
    rw [this]
    exact xW.av v u hr
end Go.Fw
namespace Go.Fw
def codeOf (fn:Func):Code:=match fn.body with|some c=>c|none=> .skip
def aw2:List (Nat×TI)→iP
 |[],_=>none
 |(t,x)::r,i=>match Nat.beq i t with|true=>some x|false=>aw2 r i
def aI:List (Nat×azO)→aJ
 |[],_=>none
 |(t,x)::r,i=>match Nat.beq i t with|true=>some x|false=>aI r i
def aAb:List (Nat×U2)→Nat→Option U2
 |[],_=>none
 |(t,x)::r,i=>match Nat.beq i t with|true=>some x|false=>aAb r i
def aCU:List (Nat×List Pre)→Nat→List Pre
 |[],_=>[]
 |(n,z)::r,i=>match Nat.beq i n with|true=>z|false=>aCU r i
def hints (own:List Nat) (l c:List (Nat×U2)) (u:List Nat) (z:List (Nat×List Pre)):Hints:=⟨bf own,aAb l,aAb c,u,aCU z⟩
end Go.Fw
namespace Go.Fw
open Go
variable {P:Program} {Θ:iP} {Γ:aJ}
inductive dG where
 |one (c:jD)
 |agg (l:List jD)
@[reducible] def dG.den:dG→Type
  | .one c=>c.den
  | .agg l=>vI l
def dG.val:(s:dG)→s.den→SV
 | .one c,x=> .one (c.cell x)
 | .agg l,x=> .agg (jA l x)
def dG.read:(s:dG)→SV→Option s.den
 | .one c, .one x=>c.read x
 | .agg l, .agg xs=>mW l xs
 |_,_=>none
theorem dG.weak {X:V} (s:dG) (x:SV) (d:s.den) (v:Value) (hr:s.read x=some d) (hv:fF X x v):fF X (s.val d) v:=by
 unfold dG.read at hr
 split at hr
 · exact jD.weak _ _ _ _ hr hv
 · obtain ⟨vs,e,h⟩:=hv
   exact ⟨vs,e,OJ _ _ _ _ hr h⟩
 · cases hr
@[reducible] def bg:List dG→Type
  |[]=>Unit
  |s::r=>s.den×bg r
def zB:(l:List dG)→bg l→List SV
 |[],_=>[]
 |s::r,x=>s.val x.1::zB r x.2
def acD:(l:List dG)→List SV→Option (bg l)
 |[],[]=>some ()
 |s::r,x::xs=>match s.read x,acD r xs with
  |some a,some b=>some (a,b)
  |_,_=>none
 |_,_=>none
theorem aBd {X:V}:∀ (l:List dG) (xs:List SV) (d:bg l) (vs:List Value),acD l xs=some d→fG X xs vs→fG X (zB l d) vs
 |[],[],_,_,_,hv=>hv
 |s::r,x::xs,d,vs,hr,hv=>by
  rw [acD] at hr
  split at hr
  · next a b h1 h2=>
    cases hr
    cases vs with
    |nil=>cases hv
    |cons v vs=>exact ⟨dG.weak s x a v h1 hv.1,aBd r xs b vs h2 hv.2⟩
  · cases hr
 |[],_::_,_,_,hr,_=>by simp [acD] at hr
 |_::_,[],_,_,hr,_=>by simp [acD] at hr
mutual
def CT.AP:(c:CT)→c.den→Prop
 | .int k,(n:Int)=>k.min≤n∧n≤k.max
 | .bool,_=>True
 | .str,(s:Bytes)=>s.length≤maxLen
 | .sl _ r,(l:List r.den)=>l.length≤maxLen∧∀ x∈l,r.AP x
def aK.AP:(r:aK)→r.den→Prop
 | .nil,_=>True
 | .cons c r,x=>c.AP x.1∧r.AP x.2
end
mutual
theorem kV.AP {h:Array Obj} {S:Nat→Prop}:∀ (c:CT) (v:Value) (x:c.den),kV h S c v x→c.AP x
 | .int k,v,(n:Int),H=>by rw [kV] at H;rw [CT.AP];exact H.2
 | .bool,v,(b:Bool),H=>by rw [CT.AP];trivial
 | .str,v,(s:Bytes),H=>by rw [kV] at H;rw [CT.AP];exact H.2
 | .sl e r,v,(l:List r.den),H=>by
   rw [kV] at H
   rw [CT.AP]
   refine ⟨H.1,fun x hx=>?_⟩
   obtain ⟨i,hi,rfl⟩:=List.mem_iff_getElem.1 hx
   rcases H.2 with ⟨hnil,_⟩|⟨b,off,cap,cs,t,fz,_,_,_,_,hr⟩
   · subst hnil;simp at hi
   · exact bP.AP r _ _ (hr i _ (List.getElem?_eq_getElem hi))
theorem bP.AP {h:Array Obj} {S:Nat→Prop}:∀ (r:aK) (vs:List Value) (x:r.den),bP h S r vs x→r.AP x
 | .nil,vs,_,H=>by rw [aK.AP];trivial
 | .cons c r,vs,(x,y),H=>by
   rw [bP] at H
   obtain ⟨v,vs',_,h1,h2⟩:=H
   rw [aK.AP]
   exact ⟨kV.AP c v x h1,bP.AP r vs' y h2⟩
end
def jD.AP:(c:jD)→c.den→Prop
 | .int k,(n:Int)=>k.min≤n∧n≤k.max
 | .str,(s:Bytes)=>s.length≤maxLen
 | .sl _ r _,(l:List r.den)=>l.length≤maxLen∧∀ x∈l,r.AP x
 |_,_=>True
def ak0:(l:List jD)→vI l→Prop
 |[],_=>True
 |c::r,x=>c.AP x.1∧ak0 r x.2
def dG.AP:(s:dG)→s.den→Prop
 | .one c,x=>c.AP x
 | .agg l,x=>ak0 l x
theorem jD.ak1 {X:V} (c:jD) (x:c.den) (v:Value) (h:bC X (c.cell x) v):c.AP x:=by
 cases c with
 |int k=>exact h.2
 |str=>exact h.2
 |sl e r fr=>
  have h':kV X.w.heap (X.dP fr) (.sl e r) v x:=h
  have:=kV.AP (.sl e r) v x h'
  rw [CT.AP] at this
  exact this
 |_=>trivial
theorem VS {X:V}:∀ (l:List jD) (x:vI l) (vs:List Value),ax X (jA l x) vs→ak0 l x
 |[],_,_,_=>trivial
 |c::r,x,v::vs,h=>⟨jD.ak1 c x.1 v h.1,VS r x.2 vs h.2⟩
 |_::_,_,[],h=>by cases h
inductive bW where
 |v (s:dG)
 |kp (l:List jD)
 |fn (f:FuncId) (l:List (List jD))
@[reducible] def bW.den:bW→Type
  | .v s=>s.den
  | .kp l=>vI l
  | .fn _ l=>Qv l
def bW.val:(s:bW)→s.den→Arg
 | .v s,x=> .sv (s.val x)
 | .kp l,x=> .kp (jA l x)
 | .fn f l,x=> .fn f (VP l x)
def bW.read:(s:bW)→Arg→Option s.den
 | .v s, .sv x=>s.read x
 | .kp l, .kp xs=>mW l xs
 | .fn f l, .fn g xs=>match Nat.beq f g with|true=>PK l xs|false=>none
 |_,_=>none
theorem bW.weak {X:V} (s:bW) (x:Arg) (d:s.den) (v:Value) (hr:s.read x=some d) (hv:xW X x v):xW X (s.val d) v:=by
 unfold bW.read at hr
 split at hr
 · exact dG.weak _ _ _ _ hr hv
 · obtain ⟨b,e,hk⟩:=hv
   exact ⟨b,e,avJ hr hk⟩
 · split at hr
   · next hb=>
     obtain ⟨us,e,hk⟩:=hv
     rw [bW.val,Nat.eq_of_beq_eq_true hb]
     exact ⟨us,e,aiJ _ _ _ _ hr hk⟩
   · cases hr
 · cases hr
@[reducible] def aY:List bW→Type
  |[]=>Unit
  |s::r=>s.den×aY r
def FI:(l:List bW)→aY l→List Arg
 |[],_=>[]
 |s::r,x=>s.val x.1::FI r x.2
def Sz:(l:List bW)→List Arg→Option (aY l)
 |[],[]=>some ()
 |s::r,x::xs=>match s.read x,Sz r xs with
  |some a,some b=>some (a,b)
  |_,_=>none
 |_,_=>none
theorem aBe {X:V}:∀ (l:List bW) (xs:List Arg) (d:aY l) (vs:List Value),Sz l xs=some d→vw X xs vs→vw X (FI l d) vs
 |[],[],_,_,_,hv=>hv
 |s::r,x::xs,d,vs,hr,hv=>by
  rw [Sz] at hr
  split at hr
  · next a b h1 h2=>
    cases hr
    cases vs with
    |nil=>cases hv
    |cons v vs=>exact ⟨bW.weak s x a v h1 hv.1,aBe r xs b vs h2 hv.2⟩
  · cases hr
 |[],_::_,_,_,hr,_=>by simp [Sz] at hr
 |_::_,[],_,_,hr,_=>by simp [Sz] at hr
theorem afF:∀ (l:List bW) (d:aY l),(FI l d).length=l.length
 |[],_=>rfl
 |_::r,d=>by simp [FI,afF r d.2]
def aue:(l:List (List jD))→Qv l→Prop
 |[],_=>True
 |c::r,x=>ak0 c x.1∧aue r x.2
def bW.AP:(s:bW)→s.den→Prop
 | .v s,x=>s.AP x
 | .kp l,x=>ak0 l x
 | .fn _ l,x=>aue l x
def bF:(l:List bW)→aY l→Prop
 |[],_=>True
 |s::r,x=>s.AP x.1∧bF r x.2
theorem am4 {X:V}:∀ (l:List (List jD)) (x:Qv l) (us:List Value),gK X (VP l x) us→aue l x
 |[],_,_,_=>trivial
 |c::r,x,u::us,h=>by
  obtain ⟨⟨b,hu,arr,t,fz,hf,hh,hc⟩,h2⟩:=h
  exact ⟨VS c x.1 _ hc,am4 r x.2 us h2⟩
 |_::_,_,[],h=>by cases h
theorem Mc {X:V}:∀ (l:List bW) (x:aY l) (vs:List Value),vw X (FI l x) vs→bF l x
 |[],_,_,_=>trivial
 | .v (.one c)::r,x,v::vs,h=>⟨jD.ak1 c x.1 v h.1,Mc r x.2 vs h.2⟩
 | .v (.agg l)::r,x,v::vs,h=>by
   obtain ⟨ws,hv,hc⟩:=h.1
   exact ⟨VS l x.1 _ hc,Mc r x.2 vs h.2⟩
 | .kp l::r,x,v::vs,h=>by
   obtain ⟨b,hu,arr,t,fz,hf,hh,hc⟩:=h.1
   exact ⟨VS l x.1 _ hc,Mc r x.2 vs h.2⟩
 | .fn f l::r,x,v::vs,h=>by
   obtain ⟨us,hv,hk⟩:=h.1
   exact ⟨am4 l x.1 _ hk,Mc r x.2 vs h.2⟩
 |_::_,_,[],h=>by cases h
def XZ (sh:List bW) (F:aY sh→Prop×Out):dX:=fun args=>
 match Sz sh args with
 |some x=>some (F x)
 |none=>none
end Go.Fw
namespace Go.Fw
open Go
variable {P:Program} {Θ:iP} {Γ:aJ}
def JD:List SV→List (Bool×List iy)
 |[]=>[]
 |v::vs=>outOf v::JD vs
theorem acE:∀ (k:Nat) (vs:List SV),jM k (JD vs)=(vs,[])
 |_,[]=>rfl
 |k,v::vs=>by simp only [JD,jM,ayM,acE,List.append_nil]
def aw3 (Θ:iP) (rv:List ResultVar) (fH:List dG) (K:bg fH→Prop) (e:Exit) (st:St):Prop:=
 match e with
 | .normal| .ret=>match Zh Θ (st.freeze (aaJ st)) rv with
   |some vs=>match acD fH (vs.map (SV.kill fun _=>true)) with
    |some d=>K d
    |none=>False
   |none=>False
 |_=>False
theorem aDe {G:pY} (hE:EnvB P G Θ Γ) (hm:P.follows .mixedOrders=true) {f:FuncId} {fn:Func} {c:Code} (hf:P.funcs[f]? =some fn) (hb:fn.body=some c) (H:Hints) {con:dX} {fH:List dG}
 (hwalk:∀ args p out,con args=some (p,out)→p→Nat.ble args.length fn.ntmps=true∧∃ d:bg fH,out=⟨JD (zB fH d),none⟩∧Xx Θ Γ H c (aw3 Θ fn.results.toList fH fun y=>y=d) (entry fn.ntmps args)):aA P G f con:=by
 intro args p out k S vs w hcon hp hG hrep
 obtain ⟨hn,d,hout,hw⟩:=hwalk args p out hcon hp
 subst hout
 have hn':args.length≤fn.ntmps:=by simpa [Nat.ble_eq] using hn
 refine calls_of_wp hf hb (aiM ⟨hE,hG,fun b hb=>hb.elim⟩ hm H c _ _ _ _ _ _ (aBb (S:=S) fn.ntmps hn' hrep) hw ?_)
 have hret:∀ s γ' a' w',aw3 Θ fn.results.toList fH (fun y=>y=d) .ret s→Rel w (fun _=>False) ⟨S,fun _=>none,fun _ _ h=>by cases h⟩ γ' s a' w'→bodyPost P fn (fun e w'=>∃ v vals,e= .returned v∧w'.os=w.os∧w'.tape=w.tape∧w'.output=w.output∧w.heap.size≤w'.heap.size∧
  (∀ b,b<w.heap.size→w'.heap[b]? =w.heap[b]?)∧
  bI ⟨w',w.heap.size,S,vals,look (Out.take k ⟨JD (zB fH d),none⟩).2⟩ (Out.take k ⟨JD (zB fH d),none⟩).1 v∧
  (∀ o x,look (Out.take k ⟨JD (zB fH d),none⟩).2 o=some x→dh ⟨w',w.heap.size,S,vals,look (Out.take k ⟨JD (zB fH d),none⟩).2⟩ o x∧∀ b,blk (vals o)=some b→w.heap.size≤b∧b<w'.heap.size)∧
  (∀ o x q y b,look (Out.take k ⟨JD (zB fH d),none⟩).2 o=some x→look (Out.take k ⟨JD (zB fH d),none⟩).2 q=some y→o≠q→blk (vals o)=some b→blk (vals q)≠some b)) .ret a' w':=by
  intro s γ' a' w' he hR
  refine ⟨hR.defers,?_⟩
  simp only [aw3] at he
  split at he
  · next svs hvs=>
    split at he
    · next y hy=>
      subst he
      have hRf:=hR.freeze (aaJ s)
      obtain ⟨us,hus,hrs⟩:=Zi hE.types hRf _ _ hvs
      have hk0:=fG.kill (fun _=>true) hRf svs us hrs
      have hk:=aBd fH _ y us hy hk0
      have htake:Out.take k ⟨JD (zB fH y),none⟩=(match zB fH y with|[v]=> .sv v|l=> .rP l,[]):=by
       unfold Out.take
       simp only [acE]
       rcases zB fH y with _|⟨v,_|⟨v2,r⟩⟩<;>rfl
      have hmap:(fn.results.mapM (VR a'.tmps)).run P w'= .ok us.toArray w':=by
       rw [Array.mapM_eq_mapM_toList,Sem.run_map,hus]
       rfl
      refine ⟨if h:us.toArray.size=1 then us.toArray[0] else .tuple us.toArray,?_,_,γ',rfl,hR.os,hR.tape,hR.output,hR.grow,fun b hb=>hR.kept b hb (fun h=>h),?_,?_,?_⟩
      · rw [ad8,Sem.run_bind,hmap]
        simp only [Result.andThen_ok,Sem.run_pure]
      · rw [htake]
        have hl:=fG.length _ _ hk
        match hm:zB fH y,us,hk,hl with
        |[v],[u],hk,_=>exact hk.1
        |[],[],hk,_=>exact ⟨_,by simp,hk⟩
        |v::v2::r,u::u2::us,hk,hl=>exact ⟨_,by simp,hk⟩
        |[],_::_,hk,h4|_::_,[],hk,h4|[_],_::_::_,hk,h4|_::_::_,[_],hk,h4=>simp at h4
      · intro o x hx;rw [htake] at hx;cases hx
      · intro o x q y b hx;rw [htake] at hx;cases hx
    · exact he.elim
  · exact he.elim
 intro e s γ' a' w' he hR
 cases e with
 |normal=>exact hret s γ' a' w' he hR
 |ret=>exact hret s γ' a' w' he hR
 |_=>exact he.elim
def bY (sh:List bW) (fH:List dG) (F:aY sh→Prop×bg fH):dX:=XZ sh fun x=>((F x).1,⟨JD (zB fH (F x).2),none⟩)
theorem aT {G:pY} (hE:EnvB P G Θ Γ) (hm:P.follows .mixedOrders=true) {f:FuncId} {fn:Func} {c:Code} (hf:P.funcs[f]? =some fn) (hb:fn.body=some c) (H:Hints)
 {sh:List bW} {fH:List dG} {F:aY sh→Prop×bg fH} (hn:Nat.ble sh.length fn.ntmps=true)
 (hwalk:∀ x,bF sh x→(F x).1→Xx Θ Γ H c (aw3 Θ fn.results.toList fH fun y=>y=(F x).2) (entry fn.ntmps (FI sh x))):aA P G f (bY sh fH F):=by
 have base:∀ x,bF sh x→aA P G f (fun args=>@ite _ (args=FI sh x) (Classical.propDecidable _) (some ((F x).1,⟨JD (zB fH (F x).2),none⟩)) none):=by
  intro x hin
  refine aDe (fH:=fH) hE hm hf hb H ?_
  intro args p out hcon hp
  split at hcon
  · next e=>
    have hF:((F x).1,(⟨JD (zB fH (F x).2),none⟩:Out))=(p,out):=by simpa using hcon
    have h1:(F x).1=p:=congrArg Prod.fst hF
    have h2:(⟨JD (zB fH (F x).2),none⟩:Out)=out:=congrArg Prod.snd hF
    have:=hwalk x hin (by rw [h1];exact hp)
    rw [e]
    exact ⟨by rw [afF];exact hn,(F x).2,h2.symm,this⟩
  · cases hcon
 intro args p out k S vs w hcon hp hG hrep
 unfold bY XZ at hcon
 split at hcon
 · next x hx=>
   have hv:=aBe sh args x vs.toList hx hrep
   exact base x (Mc sh x _ hv) (FI sh x) p out k S vs w (by simp only [if_true];exact hcon) hp hG hv
 · cases hcon
end Go.Fw
namespace Go.Fw
open Go
variable {P:Program} {Θ:iP} {Γ:aJ}
inductive RC where
 |c (s:jD)
 |own (e:TypeId) (r:aK) (fr:Bool)
@[reducible] def RC.den:RC→Type
  | .c s=>s.den
  | .own _ r _=>List r.den
@[reducible] def aqW:List RC→Type
  |[]=>Unit
  |c::r=>c.den×aqW r
def RC.aAc:(c:RC)→c.den→iy
 | .c s,x=> .plain (s.cell x)
 | .own e r fr,l=> .own e r l fr
def auf:(l:List RC)→aqW l→List iy
 |[],_=>[]
 |c::r,x=>c.aAc x.1::auf r x.2
inductive fQ where
 |one (c:RC)
 |agg (l:List RC)
@[reducible] def fQ.den:fQ→Type
  | .one c=>c.den
  | .agg l=>aqW l
@[reducible] def dm:List fQ→Type
  |[]=>Unit
  |s::r=>s.den×dm r
def fQ.out:(s:fQ)→s.den→Bool×List iy
 | .one c,x=>(false,[c.aAc x])
 | .agg l,x=>(true,auf l x)
def jR:(l:List fQ)→dm l→List (Bool×List iy)
 |[],_=>[]
 |s::r,x=>s.out x.1::jR r x.2
def RC.name:RC→Cell→Option Nat
 | .own _ _ _, .ref o=>some o
 |_,_=>none
def aug:List RC→List Cell→List (Option Nat)
 |c::r,x::xs=>c.name x::aug r xs
 |_,_=>[]
def fQ.names:fQ→SV→List (Option Nat)
 | .one c, .one x=>[c.name x]
 | .agg l, .agg xs=>aug l xs
 |_,_=>[]
def Ky:List fQ→List SV→List (Option Nat)
 |s::r,x::xs=>s.names x++Ky r xs
 |_,_=>[]
def RC.read (st:St):(c:RC)→Cell→Option c.den
 | .c s,x=>match x.refs with|[]=>s.read x|_=>none
 | .own e r fr, .ref o=>match st.aj o with
   |some (.arr f s l g)=>match Nat.beq e f&&Zg fr g with
    |true=>if h:s.beq r=true then some (Dn h l) else none
    |false=>none
   |_=>none
 | .own _ r _, .nil=>match Nat.ble 1 r.len with|true=>some []|false=>none
 |_,_=>none
def acF (st:St):(l:List RC)→List Cell→Option (aqW l)
 |[],[]=>some ()
 |c::r,x::xs=>match c.read st x,acF st r xs with
  |some a,some b=>some (a,b)
  |_,_=>none
 |_,_=>none
def fQ.read (st:St):(s:fQ)→SV→Option s.den
 | .one c, .one x=>c.read st x
 | .agg l, .agg xs=>acF st l xs
 |_,_=>none
def Md (st:St):(l:List fQ)→List SV→Option (dm l)
 |[],[]=>some ()
 |s::r,x::xs=>match s.read st x,Md st r xs with
  |some a,some b=>some (a,b)
  |_,_=>none
 |_,_=>none
inductive dM where
 |p (s:bW)
 |own (e:TypeId) (r:aK)
 |ptr (l:List jD)
@[reducible] def dM.den:dM→Type
  | .p s=>s.den
  | .own _ r=>List r.den
  | .ptr l=>vI l
def dM.mode:dM→Mode
 | .p _=> .val
 | .own _ _=> .own
 | .ptr _=> .ptr
def dM.val:(s:dM)→s.den→Arg
 | .p s,x=>s.val x
 | .own e r,l=> .own e r l
 | .ptr l,x=> .ptr (jA l x)
def dM.read:(s:dM)→Arg→Option s.den
 | .p s,x=>s.read x
 | .own e r, .own f s l=>match Nat.beq e f with
   |true=>if h:s.beq r=true then some (Dn h l) else none
   |false=>none
 | .ptr l, .ptr cs=>mW l cs
 |_,_=>none
@[reducible] def cO:List dM→Type
  |[]=>Unit
  |s::r=>s.den×cO r
def FK:(l:List dM)→cO l→List Arg
 |[],_=>[]
 |s::r,x=>s.val x.1::FK r x.2
def jS:(l:List dM)→List Arg→Option (cO l)
 |[],[]=>some ()
 |s::r,x::xs=>match s.read x,jS r xs with
  |some a,some b=>some (a,b)
  |_,_=>none
 |_,_=>none
@[reducible] def cZ:List dM→Type
  |[]=>Unit
  | .ptr l::r=>vI l×cZ r
  | .p _::r| .own _ _::r=>cZ r
def mX:(l:List dM)→cZ l→List Eff
 |[],_=>[]
 | .ptr l::r,x=> .var (jA l x.1)::mX r x.2
 | .p _::r,x| .own _ _::r,x=> .lose::mX r x
def VT (st:St):(i:Nat)→(l:List dM)→Option (cZ l)
 |_,[]=>some ()
 |i, .ptr l::r=>match st.aj (i*64+48),VT st (i+1) r with
  |some (.var cs),some b=>match cs.flatMap Cell.refs,mW l cs with
   |[],some a=>some (a,b)
   |_,_=>none
  |_,_=>none
 |i, .p _::r|i, .own _ _::r=>VT st (i+1) r
def Arg.avX (i:Nat):Arg→AV
 | .own _ _ _=> .sv (.one (.ref (i*64+49)))
 | .ptr _=> .dW (i*64+48) 0
 |a=>a.av
def VU (n:Nat) (args:List Arg):St:=
 {n:=n,tmps:=fun t=>match args[t]? with|some v=>v.avX t|none=> .undef,aj:=dY args}
def aqX (st:St) (W:List (Option Nat)) (o:Nat):Bool:=aaJ st o&&!(air o W)
def aAd (Θ:iP) (rv:List ResultVar) (sh:List dM) (fH:List fQ) (K:dm fH×cZ sh→Prop) (e:Exit) (st:St):Prop:=
 match e with
 | .normal| .ret=>match Zh Θ st rv with
   |some svs=>match Zh Θ (st.freeze (aqX st (Ky fH svs))) rv with
    |some vs=>match Ih (Ky fH vs),Md (st.freeze (aqX st (Ky fH svs))) fH vs,VT (st.freeze (aqX st (Ky fH svs))) 0 sh with
     |true,some d,some b=>K (d,b)
     |_,_,_=>False
    |none=>False
   |none=>False
 |_=>False
def dR (sh:List dM) (fH:List fQ) (F:cO sh→Prop×(dm fH×cZ sh→Prop)):fE:=fun args=>
 match jS sh args with
 |some x=>some ((F x).1,⟨dm fH×cZ sh,(F x).2,fun t=>⟨jR fH t.1,none⟩,fun t=>mX sh t.2⟩)
 |none=>none
def ay (sh:List dM):List Mode:=sh.map dM.mode
end Go.Fw
namespace Go.Fw
open Go
variable {P:Program} {w0:World} {M:Nat→Prop} {T:Ext} {γ γ':Nat→Value} {st:St} {a:Act} {w w':World} {Θ:iP} {Γ:aJ}
def auh (args:List Arg) (γ:Nat→Value) (o:Nat):Option Value:=match dY args o with|some (.var _)=>some (γ o)|_=>none
theorem aB7 {args:List Arg} {o:Nat} {cs:List Cell} (h:dY args o=some (.var cs)):o%64=48:=by
 unfold dY at h
 split at h
 · split at h<;>cases h
 · split at h
   · next hm=>exact Nat.eq_of_beq_eq_true hm
   · cases h
 · cases h
def aiN (args:List Arg) (γ:Nat→Value) (S:Nat→Prop):Ext where
 S:=fun b=>S b∨DU (dY args) γ b
 N:=auh args γ
 n48:=by
  intro p v h
  unfold auh at h
  split at h
  · next cs hc=>exact aB7 hc
  · cases h
theorem FH.get {X:V}:∀ (as:List Arg) (vs:List Value) (i:Nat),FH X i as vs→as.length=vs.length∧∀ (j:Nat) (b:Arg),as[j]? =some b→∃ v,vs[j]? =some v∧Za X (i+j) b v
 |[],[],_,_=>⟨rfl,fun j b h=>by simp at h⟩
 |x::as,v::vs,i,⟨h1,h2⟩=>by
  obtain ⟨g1,g2⟩:=FH.get as vs (i+1) h2
  refine ⟨by simp [g1],fun j b hb=>?_⟩
  cases j with
  |zero=>simp at hb;subst hb;exact ⟨v,rfl,h1⟩
  |succ j=>
   obtain ⟨u,hu,hr⟩:=g2 j b (by simpa using hb)
   exact ⟨u,by simpa using hu,by rw [show i+(j+1)=i+1+j by omega];exact hr⟩
 |[],_::_,_,H|_::_,[],_,H=>by cases H
theorem Za.av {X:V} (i:Nat):∀ (c:Arg) (v:Value),Za X i c v→bI X (c.avX i) v
 | .own _ _ _,_,h=>h
 | .ptr _,_,h=>h
 | .sv _,_,h| .kp _,_,h| .fn _ _,_,h=>h
theorem aqY {args:List Arg} {vs:Array Value} {S:Nat→Prop} (n:Nat) (hn:args.length≤n)
 (h:FH ⟨w,w.heap.size,S,γ,dY args⟩ 0 args vs.toList)
 (ho:∀ o x,dY args o=some x→dh ⟨w,w.heap.size,S,γ,dY args⟩ o x∧∀ b,blk (γ o)=some b→b<w.heap.size)
 (hs:∀ o x q y b,dY args o=some x→dY args q=some y→o≠q→blk (γ o)=some b→blk (γ q)≠some b):
 Rel w (DU (dY args) γ) (aiN args γ S) γ (VU n args) {tmps:=vs++Array.replicate (n-vs.size) undef,defers:=[]} w:=by
 obtain ⟨hl0,hget⟩:=FH.get _ _ 0 h
 have hl:vs.size=args.length:=by simpa using hl0.symm
 have le:V.le ⟨w,w.heap.size,S,γ,dY args⟩ ⟨w,w.heap.size,(aiN args γ S).S,γ,dY args⟩:=
  ⟨Nat.le_refl _,fun b hb=>⟨⟨hb.1,fun hlt=> .inl (hb.2.1 hlt),hb.2.2⟩,rfl⟩,fun o cs hx=>⟨⟨cs,hx⟩,rfl⟩,fun o e r l fr hx=>⟨⟨l,fr,hx⟩,rfl⟩⟩
 refine ⟨fun b hb=> .inr hb,rfl,?_,rfl,rfl,rfl,Nat.le_refl _,fun _ _ _=>rfl,fun t=>?_,fun o x hx=>dh.mono le o x (fun _ _=>rfl) rfl (ho o x hx).1,fun o x b hx hb=>⟨(ho o x hx).2 b hb, .inr ⟨o,x,hx,hb⟩⟩,fun o x p y b hx hy hop hb=>hs o x p y b hx hy hop hb,fun o v cs hN hx=>?_⟩
 · simp [VU];omega
 · simp only [VU]
   cases ha:args[t]? with
   |none=>trivial
   |some v=>
    obtain ⟨u,hu,hr⟩:=hget t v ha
    have:(vs++Array.replicate (n-vs.size) undef).getD t undef=u:=by
     have hlt:t<args.length:=by
      rcases Nat.lt_or_ge t args.length with h'|h'
      · exact h'
      · rw [List.getElem?_eq_none h'] at ha;cases ha
     have hlt':t<vs.size:=by omega
     rw [Array.getD_eq_getD_getElem?,Array.getElem?_append_left hlt']
     have:vs[t]? =some u:=by simpa using hu
     rw [this];rfl
    rw [this]
    rw [Nat.zero_add] at hr
    exact bI.mono le _ _ (Za.av t v u hr)
 · have hx':dY args o=some (.var cs):=hx
   have hN':auh args γ o=some v:=hN
   unfold auh at hN'
   rw [hx'] at hN'
   exact Option.some.inj hN'
def AW (a a':Arg):Prop:=
 (∃ e r l,a= .own e r l∧a'= .own e r l)∨(∃ cs cs',a= .ptr cs∧a'= .ptr cs'∧∀ (X:V) vs,ax X cs vs→ax X cs' vs)∨
 ((∀ (X:V) v,bI X a.av v→bI X a'.av v)∧(∀ i,a.avX i=a.av)∧(∀ i,a'.avX i=a'.av)∧(∀ e r l,a≠ .own e r l)∧(∀ cs,a≠ .ptr cs)∧(∀ e r l,a'≠ .own e r l)∧(∀ cs,a'≠ .ptr cs))
theorem bW.aAe {s:bW} {x:Arg} {d:s.den} (h:s.read x=some d):AW x (s.val d):=by
 refine .inr (.inr ⟨fun X v hv=>?_,?_⟩)
 · have hx:xW X x v:=by
    cases x with
    |sv _|kp _|fn _ _=>exact hv
    |own _ _ _|ptr _=>cases s<;>simp [bW.read] at h
   exact xW.av _ _ (bW.weak s x d v h hx)
 · cases x<;>cases s<;>first
    |(simp [bW.read] at h;done)
    |exact ⟨fun _=>rfl,fun _=>rfl,(fun _ _ _ e=>by cases e),(fun _ e=>by cases e),(fun _ _ _ e=>by cases e),(fun _ e=>by cases e)⟩
theorem dM.aAe {s:dM} {x:Arg} {d:s.den} (h:s.read x=some d):AW x (s.val d):=by
 unfold dM.read at h
 split at h
 · exact bW.aAe h
 · next e r f s l=>
   split at h
   · next hb=>
     split at h
     · next hs=>
       cases h
       have he:=Nat.eq_of_beq_eq_true hb
       subst he
       have hsr:=aK.eq_of_beq s r hs
       subst hsr
       exact .inl ⟨e,s,l,rfl,rfl⟩
     · cases h
   · cases h
 · next l cs=>exact .inr (.inl ⟨cs,_,rfl,rfl,fun X vs hc=>OJ _ _ _ _ h hc⟩)
 · cases h
theorem X0:∀ {l:List dM} {xs:List Arg} {d:cO l},jS l xs=some d→(FK l d).length=xs.length∧∀ (i:Nat) (a:Arg),xs[i]? =some a→∃ a',(FK l d)[i]? =some a'∧AW a a'
 |[],[],_,_=>⟨rfl,fun i a h=>by simp at h⟩
 |s::r,x::xs,d,h=>by
  rw [jS] at h
  split at h
  · next a b h1 h2=>
    cases h
    obtain ⟨g1,g2⟩:=X0 h2
    refine ⟨by simp [FK,g1],fun i c hc=>?_⟩
    cases i with
    |zero=>simp at hc;subst hc;exact ⟨_,rfl,dM.aAe h1⟩
    |succ i=>
     obtain ⟨c',k1,k2⟩:=g2 i c (by simpa using hc)
     exact ⟨c',by simpa [FK] using k1,k2⟩
  · cases h
 |[],_::_,_,h=>by simp [jS] at h
 |_::_,[],_,h=>by simp [jS] at h
theorem aaL {args:List Arg} {o:Nat} (h:∀ b,args[o / 64]? =some b→(∀ e r l,b≠ .own e r l)∧∀ cs,b≠ .ptr cs):dY args o=none:=by
 unfold dY
 split
 · next e r l ha=>exact ((h _ ha).1 e r l rfl).elim
 · next cs ha=>exact ((h _ ha).2 cs rfl).elim
 · rfl
theorem afG {sh:List dM} {args:List Arg} {x:cO sh} (h:jS sh args=some x) (n:Nat):Covers (VU n (FK sh x)) (VU n args):=by
 obtain ⟨hl,hget⟩:=X0 h
 refine ⟨rfl,fun t X v hv=>?_,fun o=>?_⟩
 · simp only [VU] at hv ⊢
   cases ha:args[t]? with
   |none=>
    have:(FK sh x)[t]? =none:=by
     rw [List.getElem?_eq_none_iff] at ha ⊢;omega
    rw [this];trivial
   |some b=>
    obtain ⟨b',hb',hw⟩:=hget t b ha
    rw [ha] at hv
    rw [hb']
    dsimp only at hv ⊢
    rcases hw with ⟨e,r,l,rfl,rfl⟩|⟨cs,cs',rfl,rfl,_⟩|⟨hw,e1,e2,_⟩
    · exact hv
    · exact hv
    · rw [e1] at hv;rw [e2];exact hw X v hv
 · show (dY (FK sh x) o=none∧dY args o=none)∨∃ y y',dY args o=some y∧dY (FK sh x) o=some y'∧U1 y y'
   cases ha:args[o / 64]? with
   |none=>
    have h2:(FK sh x)[o / 64]? =none:=by
     rw [List.getElem?_eq_none_iff] at ha ⊢;omega
    exact .inl ⟨aaL (by rw [h2];intro b hb;cases hb),aaL (by rw [ha];intro b hb;cases hb)⟩
   |some b=>
    obtain ⟨b',hb',hw⟩:=hget _ b ha
    rcases hw with ⟨e,r,l,rfl,rfl⟩|⟨cs,cs',rfl,rfl,hc⟩|⟨_,_,_,n1,n2,n3,n4⟩
    · unfold dY
      rw [ha,hb']
      dsimp only
      cases hm:Nat.beq (o%64) 49 with
      |true=>exact .inr ⟨_,_,rfl,rfl, .inr ⟨e,r,l,false,false,rfl,rfl,id⟩⟩
      |false=>exact .inl ⟨rfl,rfl⟩
    · unfold dY
      rw [ha,hb']
      dsimp only
      cases hm:Nat.beq (o%64) 48 with
      |true=>exact .inr ⟨_,_,rfl,rfl, .inl ⟨cs,cs',rfl,rfl,hc⟩⟩
      |false=>exact .inl ⟨rfl,rfl⟩
    · exact .inl ⟨aaL (by rw [hb'];intro c hc;cases hc;exact ⟨n3,n4⟩),aaL (by rw [ha];intro c hc;cases hc;exact ⟨n1,n2⟩)⟩
theorem am5 (a b:List (Nat×aP)) (p:Nat):look (a++b) p=match look b p with|some y=>some y|none=>look a p:=by
 induction a with
 |nil=>simp only [List.nil_append,look];cases look b p<;>rfl
 |cons x a ih=>
  obtain ⟨o,z⟩:=x
  rw [List.cons_append,look,ih,look]
  cases look b p<;>rfl
theorem Dp:∀ (cs:List iy) (k p:Nat) (x:aP),look (mV k cs).2 p=some x↔∃ i e r l fr,p=k+i∧cs[i]? =some (.own e r l fr)∧x= .arr e r l fr
 |[],k,p,x=>by simp [mV,look]
 |c::cs,k,p,x=>by
  rw [mV,am5]
  have ih:=Dp cs (k+1) p x
  constructor
  · intro h
    split at h
    · next y hy=>
      cases h
      obtain ⟨i,e,r,l,fr,h1,h2,h3⟩:=(Dp cs (k+1) p x).1 hy
      exact ⟨i+1,e,r,l,fr,by omega,by simpa using h2,h3⟩
    · next hn=>
      cases c with
      |plain c=>simp [iy.take,look] at h
      |own e r l fr=>
       simp only [iy.take,look] at h
       split at h
       · next hb=>
         cases h
         exact ⟨0,e,r,l,fr,by have:=Nat.eq_of_beq_eq_true hb;omega,rfl,rfl⟩
       · cases h
  · rintro ⟨i,e,r,l,fr,h1,h2,rfl⟩
    cases i with
    |succ i=>
     have:=(Dp cs (k+1) p (.arr e r l fr)).2 ⟨i,e,r,l,fr,by omega,by simpa using h2,rfl⟩
     rw [this]
    |zero=>
     simp at h2
     subst h2
     have hn:look (mV (k+1) cs).2 p=none:=by
      cases hl:look (mV (k+1) cs).2 p with
      |none=>rfl
      |some y=>
       obtain ⟨i,_,_,_,_,g1,_⟩:=(Dp cs (k+1) p y).1 hl
       omega
     rw [hn]
     have hp:p=k:=by omega
     subst hp
     simp [iy.take,look]
def X3 (rs:List (Bool×List iy)):List iy:=rs.flatMap (·.2)
theorem ayN (k:Nat) (x:Bool×List iy):(EH k x).2=(mV k x.2).2:=by
 unfold EH
 split
 · next e1 e2=>rw [e2]
 · next e1 e2=>rw [e2]
 · next e1 e2=>rw [e2]
theorem J5:∀ (rs:List (Bool×List iy)) (k p:Nat) (x:aP),look (jM k rs).2 p=some x↔∃ i e r l fr,p=k+i∧(X3 rs)[i]? =some (.own e r l fr)∧x= .arr e r l fr
 |[],k,p,x=>by simp [jM,look,X3]
 |y::rs,k,p,x=>by
  rw [jM,am5,ayN]
  have aAf:X3 (y::rs)=y.2++X3 rs:=rfl
  constructor
  · intro h
    split at h
    · next z hz=>
      cases h
      obtain ⟨i,e,r,l,fr,h1,h2,h3⟩:=(J5 rs (k+y.2.length) p x).1 hz
      refine ⟨y.2.length+i,e,r,l,fr,by omega,?_,h3⟩
      rw [aAf,List.getElem?_append_right (by omega)]
      simpa using h2
    · obtain ⟨i,e,r,l,fr,h1,h2,h3⟩:=(Dp y.2 k p x).1 h
      refine ⟨i,e,r,l,fr,h1,?_,h3⟩
      rw [aAf,List.getElem?_append_left (List.getElem?_eq_some_iff.1 h2).1]
      exact h2
  · rintro ⟨i,e,r,l,fr,h1,h2,rfl⟩
    rw [aAf] at h2
    rcases Nat.lt_or_ge i y.2.length with hlt|hge
    · rw [List.getElem?_append_left hlt] at h2
      have hn:look (jM (k+y.2.length) rs).2 p=none:=by
       cases hl:look (jM (k+y.2.length) rs).2 p with
       |none=>rfl
       |some z=>
        obtain ⟨j,_,_,_,_,g1,_⟩:=(J5 rs (k+y.2.length) p z).1 hl
        omega
      rw [hn]
      exact (Dp y.2 k p _).2 ⟨i,e,r,l,fr,h1,h2,rfl⟩
    · rw [List.getElem?_append_right hge] at h2
      have:=(J5 rs (k+y.2.length) p (.arr e r l fr)).2 ⟨i-y.2.length,e,r,l,fr,by omega,h2,rfl⟩
      rw [this]
end Go.Fw
namespace Go.Fw
open Go
set_option linter.unusedVariables false
variable {P:Program} {w0:World} {M:Nat→Prop} {T:Ext} {γ γ':Nat→Value} {st:St} {a:Act} {w w':World} {Θ:iP} {Γ:aJ}
def RF (Y:V) (c:iy) (v:Value) (n:Option Nat):Prop:=
 match c with
 | .plain x=>bC Y x v∧x.refs=[]
 | .own e r l fr=>0<r.len∧((∃ o g,n=some o∧Y.aj o=some (.arr e r l g)∧Zg fr g=true∧v=Y.γ o∧v.oneCell'=true)∨(l=[]∧v= .slice none 0 0))
def OM (Y:V):List iy→List Value→List (Option Nat)→Prop
 |[],[],[]=>True
 |c::cs,v::vs,n::ns=>RF Y c v n∧OM Y cs vs ns
 |_,_,_=>False
theorem OM.append {Y:V}:∀ (cs:List iy) (vs:List Value) (ns:List (Option Nat)) (ds:List iy) (us:List Value) (ms:List (Option Nat)),OM Y cs vs ns→OM Y ds us ms→OM Y (cs++ds) (vs++us) (ns++ms)
 |[],[],[],_,_,_,_,h=>h
 |_::cs,_::vs,_::ns,ds,us,ms,⟨h1,h2⟩,h=>⟨h1,OM.append cs vs ns ds us ms h2 h⟩
theorem OM.length {Y:V}:∀ (cs:List iy) (vs:List Value) (ns:List (Option Nat)),OM Y cs vs ns→cs.length=vs.length
 |[],[],[],_=>rfl
 |_::cs,_::vs,_::ns,⟨_,h2⟩=>by simp [OM.length cs vs ns h2]
theorem OM.get {Y:V}:∀ (cs:List iy) (vs:List Value) (ns:List (Option Nat)) (i:Nat) (c:iy),OM Y cs vs ns→cs[i]? =some c→∃ v n,vs[i]? =some v∧ns[i]? =some n∧RF Y c v n
 |[],[],[],i,c,_,h=>by simp at h
 |x::cs,v::vs,n::ns,0,c,⟨h1,_⟩,h=>by simp at h;subst h;exact ⟨v,n,rfl,rfl,h1⟩
 |x::cs,v::vs,n::ns,i+1,c,⟨_,h2⟩,h=>by
  obtain ⟨u,m,g1,g2,g3⟩:=OM.get cs vs ns i c h2 (by simpa using h)
  exact ⟨u,m,by simpa using g1,by simpa using g2,g3⟩
theorem jD.avM (c:jD) (x:Cell) (d:c.den) (h:c.read x=some d) (hx:x.refs=[]):(c.cell d).refs=[]:=by
 cases c<;>cases x<;>first|rfl|(simp [jD.read] at h;done)|(cases hx)
theorem RC.azl {Y:V} (hst:Y.aj=st.aj) (hpos:∀ o e r l g,st.aj o=some (.arr e r l g)→0<r.len):∀ (c:RC) (x:Cell) (d:c.den) (v:Value),c.read st x=some d→bC Y x v→RF Y (c.aAc d) v (c.name x):=by
 intro c x d v hr hv
 cases c with
 |c s=>
  rw [RC.read] at hr
  split at hr
  · next hx=>exact ⟨jD.weak s x d v hr hv,jD.avM s x d hr hx⟩
  · cases hr
 |own e r fr=>
  cases x with
  |ref o=>
   simp only [RC.read] at hr
   split at hr
   · next f s l g ho=>
     split at hr
     · next hb=>
       split at hr
       · next hs=>
         cases hr
         rw [Bool.and_eq_true] at hb
         have he:=Nat.eq_of_beq_eq_true hb.1
         subst he
         have hsr:=aK.eq_of_beq s r hs
         subst hsr
         exact ⟨hpos _ _ _ _ _ ho, .inl ⟨o,g,rfl,by rw [hst];exact ho,hb.2,hv.2.1,hv.2.2⟩⟩
       · cases hr
     · cases hr
   · cases hr
  |nil=>
   simp only [RC.read] at hr
   split at hr
   · next hb=>
     cases hr
     exact ⟨Nat.lt_of_lt_of_le Nat.zero_lt_one (by simpa [Nat.ble_eq] using hb), .inr ⟨rfl,hv⟩⟩
   · cases hr
  |_=>simp [RC.read] at hr
theorem aqZ {Y:V} (hst:Y.aj=st.aj) (hpos:∀ o e r l g,st.aj o=some (.arr e r l g)→0<r.len):∀ (l:List RC) (xs:List Cell) (d:aqW l) (vs:List Value),acF st l xs=some d→ax Y xs vs→OM Y (auf l d) vs (aug l xs)
 |[],[],_,[],_,_=>trivial
 |c::r,x::xs,d,v::vs,h,⟨h1,h2⟩=>by
  rw [acF] at h
  split at h
  · next a b g1 g2=>
    cases h
    exact ⟨RC.azl hst hpos c x a v g1 h1,aqZ hst hpos r xs b vs g2 h2⟩
  · cases h
 |[],_::_,_,_,h,_=>by simp [acF] at h
 |_::_,[],_,_,h,_=>by simp [acF] at h
theorem fQ.axL {Y:V} (hst:Y.aj=st.aj) (hpos:∀ o e r l g,st.aj o=some (.arr e r l g)→0<r.len):∀ (s:fQ) (x:SV) (d:s.den) (v:Value),s.read st x=some d→fF Y x v→OM Y (s.out d).2 v.cells.toList (s.names x)
 | .one c, .one x,d,v,h,hv=>by
   rw [RY v (bC.one x v hv)]
   exact ⟨RC.azl hst hpos c x d v h hv,trivial⟩
 | .agg l, .agg xs,d,v,h,⟨vs,hv,hc⟩=>by
   rw [hv]
   exact aqZ hst hpos l xs d _ h hc
 | .one _, .agg _,_,_,h,_| .agg _, .one _,_,_,h,_=>by simp [fQ.read] at h
theorem aq0 {Y:V} (hst:Y.aj=st.aj) (hpos:∀ o e r l g,st.aj o=some (.arr e r l g)→0<r.len):∀ (l:List fQ) (xs:List SV) (d:dm l) (vs:List Value),Md st l xs=some d→fG Y xs vs→
 OM Y (X3 (jR l d)) (vs.flatMap fun v=>v.cells.toList) (Ky l xs)
 |[],[],_,[],_,_=>trivial
 |s::r,x::xs,d,v::vs,h,⟨h1,h2⟩=>by
  rw [Md] at h
  split at h
  · next a b g1 g2=>
    cases h
    exact OM.append _ _ _ _ _ _ (fQ.axL hst hpos s x a v g1 h1) (aq0 hst hpos r xs b vs g2 h2)
  · cases h
 |[],_::_,_,_,h,_=>by simp [Md] at h
 |_::_,[],_,_,h,_=>by simp [Md] at h
def Go1 (Z:V) (k:Nat) (c:iy) (v:Value):Prop:=bC Z (c.take k).1 v
def Un (Z:V):Nat→List iy→List Value→Prop
 |_,[],[]=>True
 |k,c::cs,v::vs=>Go1 Z k c v∧Un Z (k+1) cs vs
 |_,_,_=>False
theorem Un.of {Z:V}:∀ (cs:List iy) (vs:List Value) (k:Nat),cs.length=vs.length→(∀ i c v,cs[i]? =some c→vs[i]? =some v→Go1 Z (k+i) c v)→Un Z k cs vs
 |[],[],_,_,_=>trivial
 |c::cs,v::vs,k,hl,h=>⟨h 0 c v rfl rfl,Un.of cs vs (k+1) (by simpa using hl) fun i c' v' h1 h2=>by
   have:=h (i+1) c' v' (by simpa using h1) (by simpa using h2)
   rwa [show k+(i+1)=k+1+i by omega] at this⟩
theorem Un.split {Z:V}:∀ (cs:List iy) (vs:List Value) (ds:List iy) (us:List Value) (k:Nat),cs.length=vs.length→Un Z k (cs++ds) (vs++us)→Un Z k cs vs∧Un Z (k+cs.length) ds us
 |[],[],_,_,_,_,h=>⟨trivial,h⟩
 |c::cs,v::vs,ds,us,k,hl,⟨h1,h2⟩=>by
  obtain ⟨g1,g2⟩:=Un.split cs vs ds us (k+1) (by simpa using hl) h2
  exact ⟨⟨h1,g1⟩,by rw [show k+(c::cs).length=k+1+cs.length by simp;omega];exact g2⟩
theorem Un.cells {Z:V}:∀ (cs:List iy) (vs:List Value) (k:Nat),Un Z k cs vs→ax Z (mV k cs).1 vs
 |[],[],_,_=>trivial
 |c::cs,v::vs,k,⟨h1,h2⟩=>⟨h1,Un.cells cs vs (k+1) h2⟩
theorem fQ.go {Y Z:V}:∀ (s:fQ) (x:SV) (d:s.den) (v:Value) (k:Nat),s.read st x=some d→fF Y x v→Un Z k (s.out d).2 v.cells.toList→fF Z (EH k (s.out d)).1 v
 | .one c, .one x,d,v,k,h,hv,hg=>by
   rw [RY v (bC.one x v hv)] at hg
   exact hg.1
 | .agg l, .agg xs,d,v,k,h,⟨vs,hv,hc⟩,hg=>by
   rw [hv] at hg ⊢
   exact ⟨vs,rfl,Un.cells _ _ _ hg⟩
 | .one _, .agg _,_,_,_,h,_,_| .agg _, .one _,_,_,_,h,_,_=>by simp [fQ.read] at h
theorem avN {Y Z:V} (hst:Y.aj=st.aj) (hpos:∀ o e r l g,st.aj o=some (.arr e r l g)→0<r.len):∀ (l:List fQ) (xs:List SV) (d:dm l) (vs:List Value) (k:Nat),Md st l xs=some d→fG Y xs vs→
 Un Z k (X3 (jR l d)) (vs.flatMap fun v=>v.cells.toList)→fG Z (jM k (jR l d)).1 vs
 |[],[],_,[],_,_,_,_=>trivial
 |s::r,x::xs,d,v::vs,k,h,⟨h1,h2⟩,hg=>by
  rw [Md] at h
  split at h
  · next a b g1 g2=>
    cases h
    have hl:=OM.length _ _ _ (fQ.axL hst hpos s x a v g1 h1)
    obtain ⟨k1,k2⟩:=Un.split _ _ _ _ k hl hg
    exact ⟨fQ.go s x a v k g1 h1 k1,avN hst hpos r xs b vs _ g2 h2 k2⟩
  · cases h
 |[],_::_,_,_,_,h,_,_=>by simp [Md] at h
 |_::_,[],_,_,_,h,_,_=>by simp [Md] at h
theorem am6:∀ (l:List jD) (xs:List Cell) (d:vI l),mW l xs=some d→xs.flatMap Cell.refs=[]→(jA l d).flatMap Cell.refs=[]
 |[],[],_,_,_=>rfl
 |c::r,x::xs,d,h,hx=>by
  rw [mW] at h
  split at h
  · next a b g1 g2=>
    cases h
    rw [List.flatMap_cons,List.append_eq_nil_iff] at hx
    show (c.cell a::jA r b).flatMap Cell.refs=[]
    rw [List.flatMap_cons,jD.avM c x a g1 hx.1,am6 r xs b g2 hx.2,List.append_nil]
  · cases h
 |[],_::_,_,h,_=>by simp [mW] at h
 |_::_,[],_,h,_=>by simp [mW] at h
theorem X4:∀ (sh:List dM) (i:Nat) (b:cZ sh),VT st i sh=some b→∀ (j:Nat) (e:Eff),(mX sh b)[j]? =some e→
 e= .lose∨∃ l cs cs0,sh[j]? =some (.ptr l)∧e= .var cs∧st.aj ((i+j)*64+48)=some (.var cs0)∧cs0.flatMap Cell.refs=[]∧cs.flatMap Cell.refs=[]∧∀ (X:V) vs,ax X cs0 vs→ax X cs vs
 |[],_,_,_,j,e,he=>by simp [mX] at he
 | .ptr l::r,i,b,h,j,e,he=>by
   rw [VT] at h
   split at h
   · next cs b' hx hb=>
     split at h
     · next a hr ha=>
       cases h
       cases j with
       |zero=>
        simp [mX] at he
        subst he
        exact .inr ⟨l,_,cs,rfl,rfl,by simpa using hx,hr,am6 _ _ _ ha hr,fun X vs hc=>OJ _ _ _ _ ha hc⟩
       |succ j=>
        rcases X4 r (i+1) b' hb j e (by simpa [mX] using he) with h|⟨l,cs',cs0,h1,h2,h3,h4⟩
        · exact .inl h
        · exact .inr ⟨l,cs',cs0,by simpa using h1,h2,by rw [show i+(j+1)=i+1+j by omega];exact h3,h4⟩
     · cases h
   · cases h
 | .p _::r,i,b,h,j,e,he| .own _ _::r,i,b,h,j,e,he=>by
   rw [VT] at h
   cases j with
   |zero=>simp [mX] at he;exact .inl he.symm
   |succ j=>
    rcases X4 r (i+1) b h j e (by simpa [mX] using he) with h|⟨l,cs',cs0,h1,h2,h3,h4⟩
    · exact .inl h
    · exact .inr ⟨l,cs',cs0,by simpa using h1,h2,by rw [show i+(j+1)=i+1+j by omega];exact h3,h4⟩
theorem aq1:∀ {sh:List dM} {xs:List Arg} {d:cO sh},jS sh xs=some d→∀ (j:Nat) (l:List jD),sh[j]? =some (.ptr l)→∃ cs,xs[j]? =some (.ptr cs)
 |[],[],_,_,j,l,h=>by simp at h
 |s::r,x::xs,d,h,j,l,hj=>by
  rw [jS] at h
  split at h
  · next a b h1 h2=>
    cases j with
    |zero=>
     simp at hj
     subst hj
     cases x with
     |ptr cs=>exact ⟨cs,rfl⟩
     |_=>simp [dM.read] at h1
    |succ j=>
     obtain ⟨cs,hc⟩:=aq1 h2 j l (by simpa using hj)
     exact ⟨cs,by simpa using hc⟩
  · cases h
 |[],_::_,_,h,_,_,_=>by simp [jS] at h
 |_::_,[],_,h,_,_,_=>by simp [jS] at h
theorem aBf {sh:List dM} {b:cZ sh} (hb:VT st 0 sh=some b) {q:Nat} {y:aP} (h:rC (mX sh b) q=some y):
 q%64=48∧∃ l cs cs0,sh[q / 64]? =some (.ptr l)∧y= .var cs∧st.aj q=some (.var cs0)∧cs0.flatMap Cell.refs=[]∧cs.flatMap Cell.refs=[]∧∀ (X:V) vs,ax X cs0 vs→ax X cs vs:=by
 unfold rC at h
 split at h
 · next e r l he=>
   rcases X4 sh 0 b hb _ _ he with h'|⟨_,_,_,_,h',_⟩<;>cases h'
 · next cs he=>
   split at h
   · next hm=>
     have hm':=Nat.eq_of_beq_eq_true hm
     cases h
     rcases X4 sh 0 b hb _ _ he with h'|⟨l,cs',cs0,h1,h2,h3,h4⟩
     · cases h'
     · cases h2
       refine ⟨hm',l,_,cs0,h1,rfl,?_,h4⟩
       rw [show q=(0+q / 64)*64+48 by omega]
       exact h3
   · cases h
 · cases h
def dM.AP:(s:dM)→s.den→Prop
 | .p s,x=>s.AP x
 | .own _ r,(l:List r.den)=>∀ x∈l,r.AP x
 | .ptr l,x=>ak0 l x
def dO:(l:List dM)→cO l→Prop
 |[],_=>True
 |s::r,x=>s.AP x.1∧dO r x.2
theorem bW.ak1 {X:V} (s:bW) (x:Arg) (d:s.den) (v:Value) (h:s.read x=some d) (hr:xW X x v):s.AP d:=
 (Mc (X:=X) [s] (d,()) [v] ⟨bW.weak s x d v h hr,trivial⟩).1
theorem aiO {X:V} {args:List Arg} (ho:∀ o x,dY args o=some x→dh X o x):∀ (sh:List dM) (xs:List Arg) (d:cO sh) (vs:List Value) (i:Nat),(∀ j a,xs[j]? =some a→args[i+j]? =some a)→
 jS sh xs=some d→FH X i xs vs→dO sh d
 |[],[],_,_,_,_,_,_=>trivial
 |s::r,x::xs,d,v::vs,i,hj,h,⟨hv,hvs⟩=>by
  rw [jS] at h
  split at h
  · next a b h1 h2=>
    cases h
    refine ⟨?_,aiO ho r xs b vs (i+1) (fun j c hc=>by have:=hj (j+1) c (by simpa using hc);rwa [show i+(j+1)=i+1+j by omega] at this) h2 hvs⟩
    have hx:args[i]? =some x:=hj 0 x rfl
    cases s with
    |p s=>
     have h1':s.read x=some a:=by simpa [dM.read] using h1
     refine bW.ak1 (X:=X) s x a v h1' ?_
     cases x with
     |own _ _ _|ptr _=>cases s<;>simp [bW.read] at h1'
     |_=>exact hv
    |own e r'=>
     cases x with
     |own f s' l=>
      have h1':(match Nat.beq e f with|true=>if h:s'.beq r'=true then some (Dn h l) else none|false=>none)=some a:=h1
      split at h1'
      · split at h1'
        · next hb hs=>
          cases h1'
          have hsr:=aK.eq_of_beq s' r' hs
          subst hsr
          have wC:dY args (i*64+49)=some (.arr f s' l false):=by
           unfold dY
           rw [show (i*64+49) / 64=i by omega,hx]
           dsimp only
           rw [show (i*64+49)%64=49 by omega]
          obtain ⟨us,_,_,_,hrow⟩:=ho _ _ wC
          intro y hy
          have hy':y∈l:=hy
          obtain ⟨j,hj1,hj2⟩:=List.mem_iff_getElem.1 hy'
          exact bP.AP s' _ _ (hrow j y (by rw [List.getElem?_eq_getElem hj1,hj2]))
        · cases h1'
      · cases h1'
     |_=>simp [dM.read] at h1
    |ptr l=>
     cases x with
     |ptr cs=>
      have h1':mW l cs=some a:=h1
      have wC:dY args (i*64+48)=some (.var cs):=by
       unfold dY
       rw [show (i*64+48) / 64=i by omega,hx]
       dsimp only
       rw [show (i*64+48)%64=48 by omega]
      obtain ⟨_,arr,_,_,_,hc⟩:=ho _ _ wC
      exact VS l a _ (OJ _ _ _ _ h1' hc)
     |_=>simp [dM.read] at h1
  · cases h
 |[],_::_,_,_,_,_,h,_=>by simp [jS] at h
 |_::_,[],_,_,_,_,h,_=>by simp [jS] at h
theorem WC:∀ (l:List dM) (d:cO l),(FK l d).length=l.length
 |[],_=>rfl
 |_::r,d=>by simp [FK,WC r d.2]
theorem Out.aB8 (rs:List (Bool×List iy)) (k:Nat):((⟨rs,none⟩:Out).take k).2=(jM k rs).2:=by
 unfold Out.take
 dsimp only
 split
 · next h=>rw [h]
 · next h=>rw [h]
theorem Out.aB9 (rs:List (Bool×List iy)) (k:Nat):((⟨rs,none⟩:Out).take k).1=(match (jM k rs).1 with|[v]=>AV.sv v|vs=> .rP vs):=by
 unfold Out.take
 dsimp only
 split
 · next h=>rw [h]
 · next vs δ hne h=>
   rw [h]
   dsimp only
   rcases vs with _|⟨v,_|⟨v2,r⟩⟩
   · rfl
   · exact (hne v rfl).elim
   · rfl
theorem aE6 {args:List Arg} {S:Nat→Prop} {sh:List dM} {fH:List fQ} {x:cO sh} (hx:jS sh args=some x) {d:dm fH} {b:cZ sh} {k:Nat} {vs:List SV} {us:List Value}
 (hR:Rel w (DU (dY args) γ) (aiN args γ S) γ' st a w') (hrs:fG (aB w (aiN args γ S) γ' st w') vs us) (hnd:Ih (Ky fH vs)=true) (hrd:Md st fH vs=some d) (hbk:VT st 0 sh=some b)
 (hap:∀ o x,look ((⟨jR fH d,none⟩:Out).take k).2 o=some x→rC (mX sh b) o=none):
 ∃ γ2,bI ⟨w',w.heap.size,xX S args (mX sh b) γ,γ2,look ((⟨jR fH d,none⟩:Out).take k).2⟩ ((⟨jR fH d,none⟩:Out).take k).1 (if h:us.toArray.size=1 then us.toArray[0] else .tuple us.toArray)∧
   (∀ o x,look ((⟨jR fH d,none⟩:Out).take k).2 o=some x→dh ⟨w',w.heap.size,xX S args (mX sh b) γ,γ2,look ((⟨jR fH d,none⟩:Out).take k).2⟩ o x∧
     ∀ b',blk (γ2 o)=some b'→b'<w'.heap.size∧(w.heap.size≤b'∨DU (dY args) γ b')∧∀ q y,rC (mX sh b) q=some y→blk (γ q)≠some b')∧
   (∀ o x q y b',look ((⟨jR fH d,none⟩:Out).take k).2 o=some x→look ((⟨jR fH d,none⟩:Out).take k).2 q=some y→o≠q→blk (γ2 o)=some b'→blk (γ2 q)≠some b')∧
   (∀ o x,rC (mX sh b) o=some x→γ2 o=γ o∧dh ⟨w',w.heap.size,xX S args (mX sh b) γ,γ2,look ((⟨jR fH d,none⟩:Out).take k).2⟩ o x):=by
 rw [Out.aB8] at hap ⊢
 rw [Out.aB9]
 skip
 let Y:V:=aB w (aiN args γ S) γ' st w'
 let fv:List Value:=us.flatMap fun v=>v.cells.toList
 let aV:=mX sh b
 let γ2:Nat→Value:=fun p=>match rC aV p with|some _=>γ p|none=>fv.getD (p-k) undef
 let Z:V:=⟨w',w.heap.size,xX S args aV γ,γ2,look (jM k (jR fH d)).2⟩
 have hpos:∀ o e r l g,st.aj o=some (.arr e r l g)→0<r.len:=fun o e r l g ho=>by
  obtain ⟨_,_,h,_⟩:=hR.aj o _ ho
  exact h
 have hF:OM Y (X3 (jR fH d)) fv (Ky fH vs):=aq0 (st:=st) rfl hpos fH vs d us hrd hrs
 have hbq:∀ q y,rC aV q=some y→γ' q=γ q∧∃ cs cs0,y= .var cs∧st.aj q=some (.var cs0)∧cs0.flatMap Cell.refs=[]∧cs.flatMap Cell.refs=[]∧∀ (X:V) vs,ax X cs0 vs→ax X cs vs:=by
  intro q y hq
  obtain ⟨hm,l,cs,cs0,h1,h2,h3,h4,h5,h6⟩:=aBf hbk hq
  refine ⟨?_,cs,cs0,h2,h3,h4,h5,h6⟩
  obtain ⟨ci,hci⟩:=aq1 hx _ l h1
  have ho:dY args q=some (.var ci):=by
   unfold dY
   rw [hci]
   dsimp only
   rw [hm]
  have hN:(aiN args γ S).N q=some (γ q):=by
   show auh args γ q=_
   unfold auh
   rw [ho]
  exact hR.pin q _ _ hN h3
 have hG:∀ p X,look (jM k (jR fH d)).2 p=some X→∃ i e r l fr,p=k+i∧(X3 (jR fH d))[i]? =some (.own e r l fr)∧X= .arr e r l fr∧0<r.len∧
  ((∃ o g,(Ky fH vs)[i]? =some (some o)∧st.aj o=some (.arr e r l g)∧Zg fr g=true∧γ2 p=γ' o∧(γ2 p).oneCell'=true)∨(l=[]∧γ2 p= .slice none 0 0)):=by
  intro p X hp
  obtain ⟨i,e,r,l,fr,h1,h2,h3⟩:=(J5 _ k p X).1 hp
  obtain ⟨v,n,g1,g2,hr,hv⟩:=OM.get _ _ _ i _ hF h2
  have hγ:γ2 p=v:=by
   show (match rC aV p with|some _=>γ p|none=>fv.getD (p-k) undef)=v
   rw [hap p X hp]
   dsimp only
   rw [h1,show k+i-k=i by omega,List.getD_eq_getElem?_getD,g1]
   rfl
  refine ⟨i,e,r,l,fr,h1,h2,h3,hr,?_⟩
  rcases hv with ⟨o,g,hn,ho,hb,hv,h1c⟩|⟨hl,hv⟩
  · exact .inl ⟨o,g,by rw [g2,hn],ho,hb,hγ.trans hv,by rw [hγ];exact h1c⟩
  · exact .inr ⟨hl,hγ.trans hv⟩
 have ad2:∀ b',Y.foot b'→Z.foot b':=by
  intro b' hb'
  refine ⟨hb'.1,fun hlt=>⟨hb'.2.1 hlt,fun q y hq=>?_⟩,fun p X hp=>?_⟩
  · obtain ⟨hγ,cs,cs0,_,h3,_⟩:=hbq q y hq
    rw [← hγ]
    exact hb'.2.2 q _ h3
  · obtain ⟨i,e,r,l,fr,_,_,_,_,hc⟩:=hG p X hp
    show blk (γ2 p)≠some b'
    rcases hc with ⟨o,g,_,ho,_,hγ,_⟩|⟨_,hγ⟩
    · rw [hγ];exact hb'.2.2 o _ ho
    · rw [hγ];intro h;cases h
 have aBg:∀ fr b',Y.dP fr b'→Z.dP fr b':=fun fr b' h=>⟨ad2 b' h.1,h.2⟩
 have hgo:Un Z k (X3 (jR fH d)) fv:=by
  refine Un.of _ _ _ (OM.length _ _ _ hF) fun i c v hc hv=>?_
  obtain ⟨v',n,g1,g2,g3⟩:=OM.get _ _ _ i c hF hc
  rw [hv] at g1
  cases g1
  cases c with
  |plain x=>
   exact (PI (Y:=Y) (Z:=Z) rfl aBg [x] [v] (by simpa using g3.2) ⟨g3.1,trivial⟩).1
  |own e r l fr=>
   have hp:look (jM k (jR fH d)).2 (k+i)=some (.arr e r l fr):=(J5 _ k _ _).2 ⟨i,e,r,l,fr,rfl,hc,rfl⟩
   have hγ:γ2 (k+i)=v:=by
    show (match rC aV (k+i) with|some _=>γ (k+i)|none=>fv.getD (k+i-k) undef)=v
    rw [hap _ _ hp]
    dsimp only
    rw [show k+i-k=i by omega,List.getD_eq_getElem?_getD,hv]
    rfl
   refine ⟨⟨e,r,l,fr,hp⟩,hγ.symm,?_⟩
   rcases g3.2 with ⟨_,_,_,_,_,_,h⟩|⟨_,h⟩
   · exact h
   · rw [h];rfl
 have hsv:fG Z (jM k (jR fH d)).1 us:=avN (st:=st) (Y:=Y) rfl hpos fH vs d us k hrd hrs hgo
 refine ⟨γ2,?_,fun p X hp=>?_,fun p X q X' b' hp hq hne hb1 hb2=>?_,fun q y hq=>?_⟩
 · have hl:=fG.length _ _ hsv
   match hm:(jM k (jR fH d)).1,us,hsv,hl with
   |[v],[u],hk,_=>exact hk.1
   |[],[],hk,_=>exact ⟨_,by simp,hk⟩
   |v::v2::r,u::u2::us,hk,hl=>exact ⟨_,by simp,hk⟩
   |[],_::_,hk,h4|_::_,[],hk,h4|[_],_::_::_,hk,h4|_::_::_,[_],hk,h4=>simp at h4
 · obtain ⟨i,e,r,l,fr,_,_,rfl,hr,hc⟩:=hG p X hp
   rcases hc with ⟨o,g,_,ho,hb,hγ,_⟩|⟨rfl,hγ⟩
   · have hO:dh Y o (.arr e r l g):=hR.aj o _ ho
     have hold:∀ b',blk (γ' o)=some b'→fr=true→w.heap.size≤b':=by
      intro b' hb' hfr
      subst hfr
      have hg:g=true:=hb
      subst hg
      obtain ⟨_,_,_,hn,_⟩:=hO
      exact hn b' hb' rfl
     refine ⟨dh.akX (Y:=Y) (Z:=Z) hO hγ rfl (fun b' hb'=>⟨ad2 b' hb'.1,fun hfr=>hb'.2 ?_⟩) hold,fun b' hb'=>?_⟩
     · subst hfr;exact hb
     · rw [hγ] at hb'
       obtain ⟨h1,h2⟩:=hR.lt o _ b' ho hb'
       refine ⟨h1,h2,fun q y hq=>?_⟩
       obtain ⟨hγq,cs,cs0,_,h3,_⟩:=hbq q y hq
       rw [← hγq]
       refine hR.sep o _ q _ b' ho h3 ?_ hb'
       intro e;subst e;rw [ho] at h3;cases h3
   · refine ⟨⟨[],⟨by simp, .inl ⟨hγ,rfl⟩⟩,hr,(fun b' hb'=>by have h0:blk (γ2 p)=some b':=hb';rw [hγ] at h0;cases h0),fun i x hi=>by simp at hi⟩,fun b' hb'=>by rw [hγ] at hb';cases hb'⟩
 · obtain ⟨i,e,r,l,fr,hi,_,_,_,hc⟩:=hG p X hp
   obtain ⟨j,e',r',l',fr',hj,_,_,_,hc'⟩:=hG q X' hq
   rcases hc with ⟨o,g,hn,ho,_,hγ,_⟩|⟨_,hγ⟩
   · rcases hc' with ⟨o',g',hn',ho',_,hγ',_⟩|⟨_,hγ'⟩
     · rw [hγ] at hb1
       rw [hγ'] at hb2
       have:o≠o':=by
        intro e
        subst e
        have:=abl hnd _ _ _ hn hn'
        omega
       exact hR.sep o _ o' _ b' ho ho' this hb1 hb2
     · rw [hγ'] at hb2;cases hb2
   · rw [hγ] at hb1;cases hb1
 · obtain ⟨hγ,cs,cs0,rfl,h3,h4,h5,h6⟩:=hbq q y hq
   have rV:γ2 q=γ q:=by
    show (match rC aV q with|some _=>γ q|none=>fv.getD (q-k) undef)=γ q
    rw [hq]
   refine ⟨rV,?_⟩
   obtain ⟨b',arr,t,k1,k2,k3⟩:=hR.aj q _ h3
   refine ⟨b',arr,t,?_,k2,PI (Y:=Y) (Z:=Z) rfl aBg _ _ h5 (h6 _ _ k3)⟩
   show γ2 q=_
   rw [rV,← hγ]
   exact k1
theorem bZ {G:pY} (hE:EnvB P G Θ Γ) (hm:P.follows .mixedOrders=true) {f:FuncId} {fn:Func} {c:Code} (hf:P.funcs[f]? =some fn) (hb:fn.body=some c) (H:Hints)
 {sh:List dM} {fH:List fQ} {F:cO sh→Prop×(dm fH×cZ sh→Prop)} (hn:Nat.ble sh.length fn.ntmps=true) (hne:∀ x,(F x).1→∃ t,(F x).2 t)
 (hwalk:∀ x,dO sh x→(F x).1→Xx Θ Γ H c (aAd Θ fn.results.toList sh fH (F x).2) (VU fn.ntmps (FK sh x))):aG P G f (dR sh fH F):=by
 intro args p ρ hcon hp
 unfold dR at hcon
 split at hcon
 case h_2=>cases hcon
 next x hx=>
 cases hcon
 refine ⟨hne x hp,fun k S γ vs w hG hrep wC hsep hap=>?_⟩
 have hlen:=(X0 hx).1
 rw [WC] at hlen
 have hn':args.length≤fn.ntmps:=by rw [← hlen];simpa [Nat.ble_eq] using hn
 have hin:dO sh x:=aiO (fun o X ho=>(wC o X ho).1) sh args x vs.toList 0 (fun j a h=>by rwa [Nat.zero_add]) hx hrep
 have hR0:=aqY (S:=S) fn.ntmps hn' hrep (fun o X ho=>⟨(wC o X ho).1,fun b hb=>((wC o X ho).2 b hb).1⟩) hsep
 have hR1:=hR0.covers (afG hx fn.ntmps)
 refine calls_of_wp hf hb (aiM ⟨hE,hG,fun b hb=>?_⟩ hm H c _ _ _ _ _ _ hR1 (hwalk x hin hp) ?_)
 · obtain ⟨o,X,ho,hb⟩:=hb
   exact ((wC o X ho).2 b hb).2
 intro e s γ' a' w' he hR
 have hret:∃ (us:List Value) (t:dm fH×cZ sh),(fn.results.mapM (VR a'.tmps)).run P w'= .ok us.toArray w'∧(F x).2 t∧∃ γ2,
  bI ⟨w',w.heap.size,xX S args (mX sh t.2) γ,γ2,look ((⟨jR fH t.1,none⟩:Out).take k).2⟩ ((⟨jR fH t.1,none⟩:Out).take k).1 (if h:us.toArray.size=1 then us.toArray[0] else .tuple us.toArray)∧
  (∀ o x',look ((⟨jR fH t.1,none⟩:Out).take k).2 o=some x'→dh ⟨w',w.heap.size,xX S args (mX sh t.2) γ,γ2,look ((⟨jR fH t.1,none⟩:Out).take k).2⟩ o x'∧
    ∀ b,blk (γ2 o)=some b→b<w'.heap.size∧(w.heap.size≤b∨DU (dY args) γ b)∧∀ q y,rC (mX sh t.2) q=some y→blk (γ q)≠some b)∧
  (∀ o x' q y b,look ((⟨jR fH t.1,none⟩:Out).take k).2 o=some x'→look ((⟨jR fH t.1,none⟩:Out).take k).2 q=some y→o≠q→blk (γ2 o)=some b→blk (γ2 q)≠some b)∧
  (∀ o x',rC (mX sh t.2) o=some x'→γ2 o=γ o∧dh ⟨w',w.heap.size,xX S args (mX sh t.2) γ,γ2,look ((⟨jR fH t.1,none⟩:Out).take k).2⟩ o x'):=by
  have he':(e= .normal∨e= .ret)∧aAd Θ fn.results.toList sh fH (F x).2 .ret s:=by
   cases e with
   |normal=>exact ⟨.inl rfl,he⟩
   |ret=>exact ⟨.inr rfl,he⟩
   |_=>exact he.elim
  have he2:=he'.2
  simp only [aAd] at he2
  split at he2
  · next svs aGq=>
    split at he2
    · next vs' hvs'=>
      split at he2
      · next d b hnd hd hb'=>
        have hRf:=hR.freeze (aqX s (Ky fH svs))
        obtain ⟨us,hus,hrs⟩:=Zi hE.types hRf _ _ hvs'
        refine ⟨us,(d,b),?_,he2,aE6 hx hRf hrs hnd hd hb' (hap (d,b) he2)⟩
        rw [Array.mapM_eq_mapM_toList,Sem.run_map,hus]
        rfl
      · exact he2.elim
    · exact he2.elim
  · exact he2.elim
 obtain ⟨us,t,hus,ht,γ2,h1,h2,h3,h4⟩:=hret
 have hfin:bodyPost P fn (fun e w'=>∃ t,(F x).2 t∧aaD S args γ w k ⟨jR fH t.1,none⟩ (mX sh t.2) e w') .ret a' w':=by
  refine ⟨hR.defers,if h:us.toArray.size=1 then us.toArray[0] else .tuple us.toArray,?_,t,ht,_,γ2,rfl,hR.os,hR.tape,hR.output,hR.grow,hR.kept,h1,h2,h3,h4⟩
  rw [ad8,Sem.run_bind,hus]
  simp only [Result.andThen_ok,Sem.run_pure]
 cases e with
 |normal=>exact hfin
 |ret=>exact hfin
 |_=>exact he.elim
end Go.Fw
namespace Go.Fw
open Go
variable {P:Program} {w0:World} {M:Nat→Prop} {T:Ext} {γ γ':Nat→Value} {st:St} {a:Act} {w w':World} {Θ:iP} {Γ:aJ}
def aAg (rv:List ResultVar) (l:List jD) (K:vI l→Prop) (e:Exit) (st:St):Prop:=
 match e with
 | .normal| .ret=>match rv with
   |[.tmp t]=>match st.tmps t with
    | .dW o off=>match Nat.beq off 0,(st.freeze (aaJ st)).aj o with
      |true,some (.var cs)=>match cs.flatMap Cell.refs,mW l cs with
       |[],some d=>K d
       |_,_=>False
      |_,_=>False
    |_=>False
   |_=>False
 |_=>False
def loses (sh:List dM):List Eff:=sh.map fun _=> .lose
def aB2 (sh:List dM) (l:List jD) (F:cO sh→Prop×(vI l→Prop)):fE:=fun args=>
 match jS sh args with
 |some x=>some ((F x).1,⟨vI l,(F x).2,fun t=>⟨[],some (jA l t)⟩,fun _=>loses sh⟩)
 |none=>none
theorem ad9 (sh:List dM) (q:Nat):rC (loses sh) q=none:=by
 unfold rC loses
 rw [List.getElem?_map]
 cases sh[q / 64]? <;>rfl
theorem acG:∀ (l:List jD) (cs:List Cell) (d:vI l),mW l cs=some d→cs.flatMap Cell.refs=[]→(jA l d).flatMap Cell.refs=[]
 |[],[],_,_,_=>rfl
 |c::l,x::xs,d,h,hn=>by
  rw [mW] at h
  rw [List.flatMap_cons,List.append_eq_nil_iff] at hn
  split at h
  · next p q hp hq=>
    cases h
    show ((c.cell p)::jA l q).flatMap Cell.refs=[]
    rw [List.flatMap_cons,List.append_eq_nil_iff]
    refine ⟨?_,acG l xs q hq hn.2⟩
    cases c with
    |ref o=>
     cases x<;>simp [jD.read,Cell.refs] at hp hn
    |_=>rfl
  · cases h
 |[],_::_,_,h,_=>by simp [mW] at h
 |_::_,[],_,h,_=>by simp [mW] at h
theorem aDf {G:pY} (hE:EnvB P G Θ Γ) (hm:P.follows .mixedOrders=true) {f:FuncId} {fn:Func} {c:Code} (hf:P.funcs[f]? =some fn) (hb:fn.body=some c) (H:Hints)
 {sh:List dM} {l:List jD} {F:cO sh→Prop×(vI l→Prop)} (hn:Nat.ble sh.length fn.ntmps=true) (hne:∀ x,(F x).1→∃ t,(F x).2 t)
 (hwalk:∀ x,dO sh x→(F x).1→Xx Θ Γ H c (aAg fn.results.toList l (F x).2) (VU fn.ntmps (FK sh x))):aG P G f (aB2 sh l F):=by
 intro args p ρ hcon hp
 unfold aB2 at hcon
 split at hcon
 case h_2=>cases hcon
 next x hx=>
 cases hcon
 refine ⟨hne x hp,fun k S γ vs w hG hrep wC hsep hap=>?_⟩
 have hlen:=(X0 hx).1
 rw [WC] at hlen
 have hn':args.length≤fn.ntmps:=by rw [← hlen];simpa [Nat.ble_eq] using hn
 have hin:dO sh x:=aiO (fun o X ho=>(wC o X ho).1) sh args x vs.toList 0 (fun j a h=>by rwa [Nat.zero_add]) hx hrep
 have hR0:=aqY (S:=S) fn.ntmps hn' hrep (fun o X ho=>⟨(wC o X ho).1,fun b hb=>((wC o X ho).2 b hb).1⟩) hsep
 have hR1:=hR0.covers (afG hx fn.ntmps)
 refine calls_of_wp hf hb (aiM ⟨hE,hG,fun b hb=>?_⟩ hm H c _ _ _ _ _ _ hR1 (hwalk x hin hp) ?_)
 · obtain ⟨o,X,ho,hb⟩:=hb
   exact ((wC o X ho).2 b hb).2
 intro e s γ' a' w' he hR
 have he':aAg fn.results.toList l (F x).2 .ret s:=by
  cases e with
  |normal=>exact he
  |ret=>exact he
  |_=>exact he.elim
 have hfin:bodyPost P fn (fun e w'=>∃ t,(F x).2 t∧aaD S args γ w k ⟨[],some (jA l t)⟩ (loses sh) e w') .ret a' w':=by
  simp only [aAg] at he'
  split at he'
  case h_2=>exact he'.elim
  next t hrv=>
  split at he'
  case h_2=>exact he'.elim
  next o off htm=>
  split at he'
  case h_2=>exact he'.elim
  next cs hoff hcs=>
  split at he'
  case h_2=>exact he'.elim
  next d hnr hd=>
  have hoff:=Nat.eq_of_beq_eq_true hoff
  subst hoff
  have hRf:=hR.freeze (aaJ s)
  have hv:=hR.tmps t
  rw [htm] at hv
  obtain ⟨b,cs0,_,hγ,hval⟩:=hv
  obtain ⟨b',arr,ty,g1,g2,g3⟩:=hRf.aj o _ hcs
  have g1:γ' o= .pointer (some ⟨b',0,none⟩):=g1
  have hγ:γ' o= .pointer (some ⟨b,0,none⟩):=hγ
  rw [hγ] at g1
  cases g1
  have hblk:blk (γ' o)=some b:=by rw [hγ];rfl
  have hlt:=hRf.lt o _ b hcs hblk
  let γ2:Nat→Value:=fun _=>γ' o
  let Z:V:=⟨w',w.heap.size,xX S args (loses sh) γ,γ2,look (Out.take k ⟨[],some (jA l d)⟩).2⟩
  have hlook:∀ q y,look (Out.take k ⟨[],some (jA l d)⟩).2 q=some y→q=k-1∧y= .var (jA l d):=by
   intro q y hq
   have hmem:=F7 _ q y hq
   have:(q,y)=(k-1, .var (jA l d)):=by simpa [Out.take] using hmem
   exact ⟨congrArg Prod.fst this,congrArg Prod.snd this⟩
  have ad2:∀ fr b',(aB w (aiN args γ S) γ' (s.freeze (aaJ s)) w').dP fr b'→Z.dP fr b':=by
   intro fr b' hb'
   refine ⟨⟨hb'.1.1,fun hlt'=>⟨hb'.1.2.1 hlt',fun q y hq=>by rw [ad9] at hq;cases hq⟩,fun q y hq=>?_⟩,hb'.2⟩
   exact hb'.1.2.2 o _ hcs
  have hcells:ax Z (jA l d) arr.toList:=
   PI (Y:=aB w (aiN args γ S) γ' (s.freeze (aaJ s)) w') (Z:=Z) rfl ad2 _ _ (acG l cs d hd hnr) (OJ l cs d _ hd g3)
  have hself:look (Out.take k ⟨[],some (jA l d)⟩).2 (k-1)=some (.var (jA l d)):=by simp [Out.take,look]
  refine ⟨hR.defers,a'.tmps.getD t undef,?_,d,he',_,γ2,rfl,hR.os,hR.tape,hR.output,hR.grow,hR.kept,?_,fun q y hq=>?_,fun q y q' y' b' hq hq' hne'=>?_,fun q y hq=>by rw [ad9] at hq;cases hq⟩
  · have:fn.results=#[.tmp t]:=by apply Array.ext';simpa using hrv
    have hmap:(Array.mapM (VR a'.tmps) #[ResultVar.tmp t]).run P w'= .ok #[a'.tmps.getD t undef] w':=by
     rw [Array.mapM_eq_mapM_toList,Sem.run_map]
     simp only [List.mapM_cons,List.mapM_nil,VR]
     rfl
    rw [ad8,this,Sem.run_bind,hmap]
    rfl
  · exact ⟨b,jA l d,hself,hγ,hval⟩
  · obtain ⟨rfl,rfl⟩:=hlook q y hq
    refine ⟨⟨b,arr,ty,hγ,g2,hcells⟩,fun b' hb'=>?_⟩
    have hb':blk (γ' o)=some b':=hb'
    rw [hblk] at hb'
    cases hb'
    exact ⟨hlt.1,hlt.2,fun q y hq=>by rw [ad9] at hq;cases hq⟩
  · obtain ⟨rfl,_⟩:=hlook q y hq
    obtain ⟨rfl,_⟩:=hlook q' y' hq'
    exact (hne' rfl).elim
 cases e with
 |normal=>exact hfin
 |ret=>exact hfin
 |_=>exact he.elim
end Go.Fw
namespace Go.Fw
open Go
def CT.isZero:CT→Value→Bool
 | .int k, .int l n=>decide (k=l)&&decide (n=0)
 | .bool, .bool b=>!b
 | .str, .string s=>s.data.toList.isEmpty
 | .sl _ _, .slice none 0 0=>true
 |_,_=>false
def aK.acH:aK→List Value→Bool
 | .nil,[]=>true
 | .cons c r,v::vs=>c.isZero v&&r.acH vs
 |_,_=>false
theorem CT.aBh:∀ (c:CT) (v:Value),c.isZero v=true→v=c.at7:=by
 intro c v h
 unfold CT.isZero at h
 split at h
 · simp at h;rw [h.1,h.2];rfl
 · simp at h;subst h;rfl
 · next s=>
   obtain ⟨⟨l⟩⟩:=s
   simp at h
   subst h;rfl
 · rfl
 · cases h
theorem aK.aq2:∀ (r:aK) (vs:List Value),r.acH vs=true→vs=r.oL
 | .nil,[],_=>rfl
 | .cons c r,v::vs,h=>by
   rw [acH,Bool.and_eq_true] at h
   rw [aK.oL,CT.aBh c v h.1,aK.aq2 r vs h.2]
 | .nil,_::_,h| .cons _ _,[],h=>by simp [acH] at h
def axM:TypeDesc→TypeDesc→Bool
 | .int k, .int l=>decide (k=l)
 | .bool, .bool=>true
 | .string, .string=>true
 | .slice e, .slice f=>Nat.beq e f
 |_,_=>false
theorem aBi:∀ (c d:TypeDesc),axM c d=true→c=d:=by
 intro c d h
 unfold axM at h
 split at h
 · rw [of_decide_eq_true h]
 · rfl
 · rfl
 · rw [Nat.eq_of_beq_eq_true h]
 · cases h
def Zj (P:Program):List (Nat×TypeId)→List Field→Bool
 |[],[]=>true
 |(o,t)::r,f::fs=>Nat.beq o f.offset&&Nat.beq t f.type&&(P.info? f.type).isSome&&Zj P r fs
 |_,_=>false
theorem am7 {P:Program}:∀ (l:List (Nat×TypeId)) (fs:List Field),Zj P l fs=true→l=fs.map (fun f=>(f.offset,f.type))∧∀ f∈fs,(P.info? f.type).isSome=true
 |[],[],_=>⟨rfl,by simp⟩
 |(o,t)::r,f::fs,h=>by
  rw [Zj,Bool.and_eq_true,Bool.and_eq_true,Bool.and_eq_true] at h
  obtain ⟨⟨⟨h1,h2⟩,h3⟩,h4⟩:=h
  obtain ⟨e,hall⟩:=am7 r fs h4
  refine ⟨by rw [List.map_cons,← e,Nat.eq_of_beq_eq_true h1,Nat.eq_of_beq_eq_true h2],fun g hg=>?_⟩
  rcases List.mem_cons.1 hg with rfl|hg
  · exact h3
  · exact hall g hg
 |[],_::_,h|_::_,[],h=>by simp [Zj] at h
def aBj (P:Program) (t:TypeId) (ti:TI):Bool:=
 match ti.kind,P.underlying t with
 | .scalar,some d=>match ti.cells.desc with|some c=>axM c d|none=>false
 | .str,some .string=>ti.cells.beq (.cons .str .nil)
 | .slice e,some (.slice f)=>Nat.beq e f&&(match ti.cells with| .cons (.sl g _) .nil=>Nat.beq g e|_=>false)
 | .struct fs,some (.struct Ii)=>Zj P fs Ii.toList
 |_,_=>false
def azm (ti:TI) (z:Value):Bool:=match ti.kind with
 | .struct _=>true
 |_=>z.oneCell'
def aui (P:Program) (t:TypeId) (ti:TI):Bool:=
 match P.info? t with
 |some i=>match i.zero with
  |some z=>Nat.beq i.size ti.cells.len&&Nat.beq i.bytes ti.bytes&&ti.cells.acH z.cells.toList&&azm ti z&&aBj P t ti&&Nat.ble ti.bytes 4096&&(!ti.cmp||azV P t ti.cells)
  |none=>false
 |none=>false
theorem qm.aCa {P:Program} {t:TypeId} {ti:TI} (h:aui P t ti=true):qm P t ti:=by
 unfold aui at h
 split at h
 · next i hi=>
   split at h
   · next z hz=>
     simp only [Bool.and_eq_true] at h
     obtain ⟨⟨⟨⟨⟨⟨h1,h2⟩,h3⟩,h4⟩,h5⟩,h6⟩,h7⟩:=h
     refine ⟨⟨i,z,hi,Nat.eq_of_beq_eq_true h1,Nat.eq_of_beq_eq_true h2,hz,aK.aq2 _ _ h3,fun hagg=>?_⟩,?_,by simpa [Nat.ble_eq] using h6,fun e w s u X xs ys vs us b hf hx hy he=>aC9 (by rw [e] at h7;simpa using h7) w s u X xs ys vs us b hf hx hy he⟩
     · unfold azm at h4
       unfold TI.agg at hagg
       split at h4
       · next hk=>rw [hk] at hagg;cases hagg
       · exact RY z h4
     · unfold aBj at h5
       split at h5
       · next d hk hu=>
         rw [hk]
         split at h5
         · next c hc=>exact ⟨d,by rw [hc,aBi c d h5],hu⟩
         · cases h5
       · next hk hu=>rw [hk];exact ⟨hu,aK.eq_of_beq _ _ h5⟩
       · next e f hk hu=>
         rw [hk]
         rw [Bool.and_eq_true] at h5
         have hef:=Nat.eq_of_beq_eq_true h5.1
         subst hef
         refine ⟨hu,?_⟩
         have h52:=h5.2
         split at h52
         · next g r hg=>exact ⟨r,by rw [hg,Nat.eq_of_beq_eq_true h52]⟩
         · cases h52
       · next fs Ii hk hu=>
         rw [hk]
         obtain ⟨e,hall⟩:=am7 _ _ h5
         exact ⟨Ii,hu,e,hall⟩
       · cases h5
   · cases h
 · cases h
def ak2 (P:Program):List (Nat×TI)→Bool
 |[]=>true
 |(t,ti)::r=>aui P t ti&&ak2 P r
theorem au {P:Program}:∀ {l:List (Nat×TI)},ak2 P l=true→∀ t ti,aw2 l t=some ti→qm P t ti
 |[],_,t,ti,h=>by cases h
 |(i,x)::r,hc,t,ti,h=>by
  rw [ak2,Bool.and_eq_true] at hc
  rw [aw2] at h
  cases hb:Nat.beq t i with
  |true=>rw [hb] at h;cases h;rw [Nat.eq_of_beq_eq_true hb];exact .aCa hc.1
  |false=>rw [hb] at h;exact au hc.2 t ti h
def azn (fn:Func):Bool:=fn.body.isSome&&!(fn.name== "runtime.NumGoroutine")
theorem ai {P:Program} {f:FuncId} {fn:Func} (hf:P.funcs[f]? =some fn) (hc:azn fn=true):ak P f:=by
 intro args w
 unfold azn at hc
 rw [Bool.and_eq_true] at hc
 have h1:(fn.name== "runtime.NumGoroutine")=false:=by simpa using hc.2
 have h2:fn.body.isNone=false:=by cases hb:fn.body with|none=>rw [hb] at hc;simp at hc|some _=>rfl
 unfold callFunc
 simp only [Sem.run_bind,run_program,Result.andThen_ok,hf,h1,h2,Bool.false_eq_true,if_false,Sem.run_pure]
def aDH (P:Program) (G:pY) (f:FuncId):azO→Prop
 | .pure c=>aA P G f c∧ak P f
 | .eff _ c=>aG P G f c∧ak P f
theorem aC {P:Program} {G:pY} {Θ:iP} (hT:∀ t ti,Θ t=some ti→qm P t ti):∀ {l:List (Nat×azO)},(∀ x∈l,aDH P G x.1 x.2)→EnvB P G Θ (aI l)
 |[],_=>⟨hT,(fun f con h=>by cases h),(fun f ms con h=>by cases h)⟩
 |(i,c)::r,h=>by
  have ih:=aC (G:=G) hT fun x hx=>h x (List.mem_cons_of_mem _ hx)
  refine ⟨hT,fun f con hf=>?_,fun f ms con hf=>?_⟩
  · rw [aI] at hf
    cases hb:Nat.beq f i with
    |true=>rw [hb] at hf;cases hf;rw [Nat.eq_of_beq_eq_true hb];exact h (i, .pure con) List.mem_cons_self
    |false=>rw [hb] at hf;exact ih.cons f con hf
  · rw [aI] at hf
    cases hb:Nat.beq f i with
    |true=>rw [hb] at hf;cases hf;rw [Nat.eq_of_beq_eq_true hb];exact h (i, .eff ms con) List.mem_cons_self
    |false=>rw [hb] at hf;exact ih.aw0 f ms con hf
end Go.Fw
namespace Go.Fw
open Go
variable {P:Program} {G:pY} {f:FuncId}
abbrev lJ:List UInt8:=[]
abbrev U3:List (Int×Unit):=[]
theorem aA.weaken {con aiP:dX} (h:aA P G f con) (hc:∀ args p out,aiP args=some (p,out)→p→∃ q,con args=some (q,out)∧q):aA P G f aiP:=by
 intro args p out k S vs w hcon hp hG hrep
 obtain ⟨q,h1,h2⟩:=hc args p out hcon hp
 exact h args q out k S vs w h1 h2 hG hrep
theorem aG.weaken {con aiP:fE} (h:aG P G f con) (hc:∀ args p ρ,aiP args=some (p,ρ)→p→∃ q,con args=some (q,ρ)∧q):aG P G f aiP:=by
 intro args p ρ hcon hp
 obtain ⟨q,h1,h2⟩:=hc args p ρ hcon hp
 exact h args q ρ h1 h2
theorem aBk {sh:List bW} {fH:List dG} {F:aY sh→Prop×bg fH} (Fr Fs:Nat→aY sh→Prop×bg fH) (h0:∀ x,¬ (Fr 0 x).1) (hs:∀ n x,Fr (n+1) x=Fs n x)
 (hf:∀ x,(F x).1→∃ n,(Fr n x).1) (he:∀ n x,(Fr n x).2=(F x).2) (step:∀ n,aA P G f (bY sh fH (Fr n))→aA P G f (bY sh fH (Fs n))):aA P G f (bY sh fH F):=by
 have all:∀ n,aA P G f (bY sh fH (Fr n)):=by
  intro n
  induction n with
  |zero=>
   intro args p out k S vs w hcon hp
   unfold bY XZ at hcon
   split at hcon
   · next x _=>
     have e:(Fr 0 x).1=p:=congrArg Prod.fst (Option.some.inj hcon)
     exact absurd (e.symm▸hp) (h0 x)
   · cases hcon
  |succ n ih=>
   have:=step n ih
   have e:Fr (n+1)=Fs n:=funext (hs n)
   rw [e];exact this
 intro args p out k S vs w hcon hp hG hrep
 have X5:=hcon
 unfold bY XZ at X5
 split at X5
 · next x hx=>
   have e:=Option.some.inj X5
   have e1:(F x).1=p:=congrArg Prod.fst e
   obtain ⟨n,hn⟩:=hf x (e1.symm▸hp)
   refine all n args (Fr n x).1 out k S vs w ?_ hn hG hrep
   unfold bY XZ
   rw [hx]
   show some ((Fr n x).1,_)=_
   rw [he n x]
   exact congrArg (fun z=>some ((Fr n x).1,z)) (congrArg Prod.snd e)
 · cases X5
theorem aDg {sh:List dM} {fH:List fQ} {F:cO sh→Prop×(dm fH×cZ sh→Prop)} (Fr Fs:Nat→cO sh→Prop×(dm fH×cZ sh→Prop)) (h0:∀ x,¬ (Fr 0 x).1) (hs:∀ n x,Fr (n+1) x=Fs n x)
 (hf:∀ x,(F x).1→∃ n,(Fr n x).1) (he:∀ n x,(Fr n x).2=(F x).2) (step:∀ n,aG P G f (dR sh fH (Fr n))→aG P G f (dR sh fH (Fs n))):aG P G f (dR sh fH F):=by
 have all:∀ n,aG P G f (dR sh fH (Fr n)):=by
  intro n
  induction n with
  |zero=>
   intro args p ρ hcon hp
   unfold dR at hcon
   split at hcon
   · next x _=>
     have e:(Fr 0 x).1=p:=congrArg Prod.fst (Option.some.inj hcon)
     exact absurd (e.symm▸hp) (h0 x)
   · cases hcon
  |succ n ih=>
   have:=step n ih
   have e:Fr (n+1)=Fs n:=funext (hs n)
   rw [e];exact this
 intro args p ρ hcon hp
 have X5:=hcon
 unfold dR at X5
 split at X5
 · next x hx=>
   have e:=Option.some.inj X5
   have e1:(F x).1=p:=congrArg Prod.fst e
   obtain ⟨n,hn⟩:=hf x (e1.symm▸hp)
   refine all n args (Fr n x).1 ρ ?_ hn
   unfold dR
   rw [hx]
   show some ((Fr n x).1,_)=_
   rw [he n x]
   exact congrArg (fun z=>some ((Fr n x).1,z)) (congrArg Prod.snd e)
 · cases X5
end Go.Fw
namespace Go.Fw
open Go
variable {P:Program} {H:Type} {enc:TypeId×Value→H} {w:World}
def aK.app:aK→aK→aK
 | .nil,s=>s
 | .cons c r,s=> .cons c (r.app s)
def aw4:(r s:aK)→r.den→s.den→(r.app s).den
 | .nil,_,_,y=>y
 | .cons _ r,s,x,y=>(x.1,aw4 r s x.2 y)
theorem bP.app {h:Array Obj} {S:Nat→Prop}:∀ (r s:aK) (x:r.den) (y:s.den) (vs us:List Value),bP h S r vs x→bP h S s us y→bP h S (r.app s) (vs++us) (aw4 r s x y)
 | .nil,s,x,y,vs,us,h1,h2=>by rw [bP] at h1;subst h1;exact h2
 | .cons c r,s,(x,x'),y,vs,us,h1,h2=>by
   rw [bP] at h1
   obtain ⟨v,vs',rfl,g1,g2⟩:=h1
   show bP h S (.cons c (r.app s)) (v::(vs'++us)) (x,aw4 r s x' y)
   rw [bP]
   exact ⟨v,vs'++us,rfl,g1,bP.app r s x' y vs' us g2 h2⟩
theorem add_add (a:Addr) (h:a.spot=none) (m j:Nat):(a.add m).add j=⟨a.block,a.off+m+j,none⟩:=by
 obtain ⟨b,o,sp⟩:=a
 simp only at h
 subst h
 unfold Addr.add
 by_cases hm:m=0
 · by_cases hj:j=0
   · simp [hm,hj]
   · simp [hm,hj]
 · by_cases hj:j=0
   · simp [hm,hj]
   · simp [hm,hj]
def aaM (f:TypeId→Option aK):List Field→Nat→Option aK
 |[],_=>some .nil
 |x::r,off=>match f x.type with
  |some s=>match aaM f r (off+s.len),Nat.beq x.offset off with
   |some u,true=>some (s.app u)
   |_,_=>none
  |none=>none
def rowOf (P:Program):Nat→TypeId→Option aK
 |0,_=>none
 |n+1,t=>match P.underlying t with
  |some (.int k)=>some (.cons (.int k) .nil)
  |some .bool=>some (.cons .bool .nil)
  |some .string=>some (.cons .str .nil)
  |some (.slice e)=>match rowOf P n e with
   |some s=>match Nat.beq s.len (P.cellsOf e)&&Nat.ble 1 s.len with
    |true=>some (.cons (.sl e s) .nil)
    |false=>none
   |none=>none
  |some (.struct fs)=>match aaM (rowOf P n) fs.toList 0 with
   |some r=>match Nat.beq r.len (P.cellsOf t) with
    |true=>match fs.toList.all fun f=>match rowOf P n f.type with|some s=>Nat.beq s.len (P.cellsOf f.type)|none=>false with
     |true=>some r
     |false=>none
    |false=>none
   |none=>none
  |_=>none
theorem azo {α:Type} {Q:Nat→α→Prop}:∀ (n:Nat),(∀ i,i<n→∃ x,Q i x)→∃ l:List α,l.length=n∧∀ i x,l[i]? =some x→Q i x
 |0,_=>⟨[],rfl,fun i x h=>by simp at h⟩
 |n+1,h=>by
  obtain ⟨l,hl,hq⟩:=azo n fun i hi=>h i (by omega)
  obtain ⟨x,hx⟩:=h n (by omega)
  refine ⟨l++[x],by simp [hl],fun i y hy=>?_⟩
  rcases Nat.lt_or_ge i n with hi|hi
  · rw [List.getElem?_append_left (by omega)] at hy;exact hq i y hy
  · rw [List.getElem?_append_right (by omega)] at hy
    have:i=n:=by
     rcases Nat.lt_or_ge n i with h'|h'
     · rw [List.getElem?_eq_none (by simp;omega)] at hy;cases hy
     · omega
    subst this
    simp [hl] at hy
    rw [← hy];exact hx
theorem azp:∀ (r s:aK),(r.app s).len=r.len+s.len
 | .nil,s=>by simp [aK.app,aK.len]
 | .cons c r,s=>by simp only [aK.app,aK.len,azp r s];omega
theorem aq3 {f:TypeId→Option aK} {S:Nat→Prop} {h:Array Obj} (cs:List Value)
 (part:∀ (t:TypeId) (r:aK) (off:Nat),f t=some r→(∃ g:Field,g.type=t∧g.offset=off)→True):∀ (fs:List Field) (off:Nat) (r:aK),aaM f fs off=some r→
 (∀ g∈fs,∀ s,f g.type=some s→∃ x,bP h S s ((cs.drop g.offset).take s.len) x)→
 ∃ x,bP h S r ((cs.drop off).take r.len) x
 |[],off,r,hr,_=>by
  cases hr
  exact ⟨(),by rw [bP];simp [aK.len]⟩
 |g::fs,off,r,hr,hall=>by
  rw [aaM] at hr
  split at hr
  · next s hs=>
    split at hr
    · next u hu hb=>
      cases hr
      obtain ⟨x,hx⟩:=hall g List.mem_cons_self s hs
      rw [Nat.eq_of_beq_eq_true hb] at hx
      obtain ⟨y,hy⟩:=aq3 cs part fs (off+s.len) u hu fun g' hg'=>hall g' (List.mem_cons_of_mem _ hg')
      refine ⟨aw4 s u x y,?_⟩
      have:=bP.app s u x y _ _ hx hy
      rw [azp]
      have e:(cs.drop off).take (s.len+u.len)=(cs.drop off).take s.len++(cs.drop (off+s.len)).take u.len:=by
       rw [List.take_add,List.drop_drop]
      rw [e];exact this
    · cases hr
  · cases hr
theorem aoj:∀ (n:Nat) (t:TypeId) (r:aK),rowOf P n t=some r→∀ (m:Nat) (base:Nat) (spare:Nat→Bool) (held:Bool) (cs:List Value) (x:DataW H×List MemPlace),
 DataW.trod enc P w base spare held m t cs=some x→∃ y,bP w.heap (fun b=>b<w.heap.size) r cs y
 |0,t,r,hr=>by cases hr
 |n+1,t,r,hr=>by
  intro m base spare held cs x hx
  rw [rowOf] at hr
  split at hr
  · next k hu=>
    cases hr
    obtain ⟨i,rfl,_,hwf⟩:=DataW.trod_int hu hx
    simp only [Lit.wf,Bool.and_eq_true,decide_eq_true_eq] at hwf
    exact ⟨(i,()),by rw [bP];exact ⟨_,[],rfl,by rw [kV];exact ⟨rfl,hwf⟩,by rw [bP]⟩⟩
  · next hu=>
    cases hr
    obtain ⟨b,rfl,_⟩:=DataW.trod_bool hu hx
    exact ⟨(b,()),by rw [bP];exact ⟨_,[],rfl,by rw [kV],by rw [bP]⟩⟩
  · next hu=>
    cases hr
    obtain ⟨s,rfl,_,hs⟩:=DataW.trod_string hu hx
    refine ⟨(s.data.toList,()),by rw [bP];exact ⟨_,[],rfl,by rw [kV];exact ⟨by simp,by simpa using hs⟩,by rw [bP]⟩⟩
  · next e hu=>
    split at hr
    · next s hs=>
      split at hr
      · next hb=>
        cases hr
        rw [Bool.and_eq_true] at hb
        have hlen:=Nat.eq_of_beq_eq_true hb.1
        have hpos:1≤s.len:=by simpa [Nat.ble_eq] using hb.2
        rcases DataW.trod_slice hu hx with ⟨rfl,_⟩|⟨a,len,cap,elems,rest,k,_,rfl,_,hbase,hle,hmax,hel,hrow,_,_⟩
        · exact ⟨([],()),by rw [bP];exact ⟨_,[],rfl,by rw [kV];exact ⟨by simp, .inl ⟨rfl,none,0,rfl⟩⟩,by rw [bP]⟩⟩
        · by_cases h0:len=0
          · subst h0
            exact ⟨([],()),by rw [bP];exact ⟨_,[],rfl,by rw [kV];exact ⟨by simp, .inl ⟨rfl,some a,cap,rfl⟩⟩,by rw [bP]⟩⟩
          · have each:∀ i,i<len→∃ (ys:List Value) (z:s.den),w.cells? base (a.add (i*P.cellsOf e)) (P.cellsOf e)=some ys∧bP w.heap (fun b=>b<w.heap.size) s ys z:=by
             intro i hi
             have h1:=hrow i hi
             rw [List.getElem?_eq_getElem (by omega)] at h1
             obtain ⟨ys,hys,hy2⟩:=Option.bind_eq_some_iff.1 h1
             obtain ⟨z,hz⟩:=aoj n e s hs k base spare held ys _ hy2
             exact ⟨ys,z,hys,hz⟩
            obtain ⟨ys0,z0,hc0,hz0⟩:=each 0 (by omega)
            obtain ⟨_,hl0,hcell0⟩:=World.cells?_some hc0
            have aok:=hcell0 0 (by omega)
            simp only [Nat.zero_mul,Addr.add,if_true] at aok
            have aE7:∃ v,ys0[0]? =some v:=⟨ys0[0]'(by omega),by simp [show 0<ys0.length by omega]⟩
            obtain ⟨v0,hv0⟩:=aE7
            rw [hv0] at aok
            unfold World.cell? at aok
            split at aok
            · next c ty fz hblk=>
              split at aok
              · cases aok
              · next hsp=>
                have hspot:a.spot=none:=by cases h:a.spot with|none=>rfl|some q=>rw [h] at hsp;simp at hsp
                have ha:a=⟨a.block,a.off,none⟩:=by cases a;simp at hspot;rw [hspot]
                have hb':a.block<w.heap.size:=by
                 obtain ⟨hlt,_⟩:=Array.getElem?_eq_some_iff.1 hblk
                 exact hlt
                have rows:∀ i,i<len→∃ z:s.den,bP w.heap (fun b=>b<w.heap.size) s ((c.toList.drop (a.off+i*s.len)).take s.len) z:=by
                 intro i hi
                 obtain ⟨ys,z,hcs,hz⟩:=each i hi
                 obtain ⟨_,hl,hcell⟩:=World.cells?_some hcs
                 refine ⟨z,?_⟩
                 have:(c.toList.drop (a.off+i*s.len)).take s.len=ys:=by
                  refine List.ext_getElem? fun j=>?_
                  rcases Nat.lt_or_ge j s.len with hj|hj
                  · rw [List.getElem?_take_of_lt hj,List.getElem?_drop]
                    have h2:=hcell j (by omega)
                    have hadd:=add_add a hspot (i*P.cellsOf e) j
                    rw [← hlen] at hadd h2
                    rw [hadd] at h2
                    unfold World.cell? at h2
                    simp only [hblk,Option.isSome_none,Bool.false_eq_true,if_false] at h2
                    rw [← h2]
                    simp
                  · rw [List.getElem?_eq_none (by simp;omega),List.getElem?_eq_none (by omega)]
                 rw [this];exact hz
                obtain ⟨l,hll,hlq⟩:=azo len rows
                refine ⟨(l,()),by rw [bP];exact ⟨_,[],rfl,by rw [kV];exact ⟨by omega, .inr ⟨a.block,a.off,cap,c,ty,fz,by rw [hll,← ha],by omega,hb',hblk,hlq⟩⟩,by rw [bP]⟩⟩
            · cases aok
      · cases hr
    · cases hr
  · next fs hu=>
    split at hr
    · next r' hf=>
      split at hr
      · next hb=>
        split at hr
        · next hall=>
          cases hr
          obtain ⟨xs,k,_,_,hcl,hxl,hparts⟩:=DataW.trod_struct hu hx
          have hlen:=Nat.eq_of_beq_eq_true hb
          have:=aq3 (h:=w.heap) (S:=fun b=>b<w.heap.size) cs (fun _ _ _ _ _=>trivial) fs.toList 0 _ hf ?_
          · obtain ⟨y,hy⟩:=this
            refine ⟨y,?_⟩
            rw [List.drop_zero,List.take_of_length_le (by omega)] at hy
            exact hy
          · intro g hg s hs
            have hg2:=List.all_eq_true.1 hall g hg
            rw [hs] at hg2
            have hsl:=Nat.eq_of_beq_eq_true hg2
            obtain ⟨i,hi,hgi⟩:=List.mem_iff_getElem.1 hg
            have hp:=hparts i g (by rw [← hgi];simp [show i<fs.size by simpa using hi])
            rw [List.getElem?_eq_getElem (by simp at hi;omega)] at hp
            rw [hsl]
            exact aoj n g.type s hs k base spare held _ _ hp
        · cases hr
      · cases hr
    · cases hr
  · cases hr
end Go.Fw
namespace Go.Fw
open Go
variable {P:Program} {H:Type} {enc:TypeId×Value→H} {w:World}
def CT.csh:CT→jD
 | .int k=> .int k
 | .bool=> .bool
 | .str=> .str
 | .sl e r=> .sl e r false
def toC:(c:CT)→c.den→c.csh.den
 | .int _,x=>x
 | .bool,x=>x
 | .str,x=>x
 | .sl _ _,x=>x
def aK.shs:aK→List jD
 | .nil=>[]
 | .cons c r=>c.csh::r.shs
def toCs:(r:aK)→r.den→vI r.shs
 | .nil,_=>()
 | .cons c r,x=>(toC c x.1,toCs r x.2)
theorem auj (X:V):∀ (r:aK) (vs:List Value) (x:r.den),bP X.w.heap (X.dP false) r vs x→ax X (jA r.shs (toCs r x)) vs
 | .nil,vs,x,h=>by rw [bP] at h;subst h;trivial
 | .cons c r,vs,(x,y),h=>by
   rw [bP] at h
   obtain ⟨v,vs',rfl,h1,h2⟩:=h
   refine ⟨?_,auj X r vs' y h2⟩
   cases c with
   |int k=>exact h1
   |bool=>exact h1
   |str=>exact h1
   |sl e r=>exact h1
def aAh (P:Program) (t:TypeId):Option dG:=
 match rowOf P 64 t with
 |some r=>match P.underlying t with
  |some (.struct _)=>some (.agg r.shs)
  |some (.array _ _)=>none
  |_=>match r with
   | .cons c .nil=>some (.one c.csh)
   |_=>none
 |none=>none
def Zk (P:Program):List TypeId→Option (List bW)
 |[]=>some []
 |t::ts=>match aAh P t,Zk P ts with
  |some s,some l=>some (.v s::l)
  |_,_=>none
def start (w:World):V:=⟨w,w.heap.size,fun b=>b<w.heap.size,fun _=>undef,fun _=>none⟩
theorem aDh {t:TypeId} {s:dG} (hs:aAh P t=some s) {base base':Nat} {sp:Nat→Bool} {hd:Bool} {v:Value} {d:DataW H} {p:List MemPlace}
 (ht:DataW.Trod enc P w base sp hd t v d p) (hv:Value.okWide P w .any base' t v):∃ x:s.den,fF (start w) (s.val x) v:=by
 unfold aAh at hs
 split at hs
 · next r hr=>
   obtain ⟨m,hm⟩:=ht
   obtain ⟨y,hy⟩:=aoj 64 t r hr m base sp hd _ _ hm
   have hy':bP (start w).w.heap ((start w).dP false) r v.cells.toList y:=
    bP.mono (fun b hb=>⟨⟨⟨hb,fun _=>hb,fun o x hx=>by cases hx⟩,fun e=>by cases e⟩,rfl⟩) r _ y hy
   unfold Value.okWide at hv
   split at hs
   · next fs hu=>
     cases hs
     rw [hu] at hv
     obtain ⟨cs,rfl,_,_⟩:=hv
     exact ⟨toCs r y,cs,rfl,auj (start w) r _ y hy'⟩
   · cases hs
   · next hns hna=>
     split at hs
     · next c=>
       cases hs
       have hcell:v.cells=#[v]:=by
        cases hv2:v<;>first
         |rfl
         |(exfalso
           rw [hv2] at hv
           split at hv
           · next hu=>exact hns _ hu
           · next hu=>exact hna _ _ hu
           · unfold Go.Cell.okWide at hv
             split at hv<;>first|(rename_i h1 h2;cases h2;done)|(rename_i h2;cases h2;done)|skip
             unfold Go.Cell.ok at hv
             split at hv<;>first|(rename_i h1 h2;cases h2;done)|exact hv)
       have:=auj (start w) _ _ y hy'
       rw [hcell] at this
       exact ⟨toC c y.1,this.1⟩
     · cases hs
 · cases hs
theorem axN:∀ (ts:List TypeId) (sh:List bW),Zk P ts=some sh→∀ {base base':Nat} {sp:Nat→Bool} {hd:Bool} (vs:List Value) (ds:List (DataW H)) (p:List MemPlace),
 DataW.TrodAll enc P w base sp hd ts vs ds p→(∀ (j:Nat) t v,ts[j]? =some t→vs[j]? =some v→Value.okWide P w .any base' t v)→∃ x:aY sh,vw (start w) (FI sh x) vs
 |[],sh,hs,_,_,_,_,vs,ds,p,h,_=>by
  cases hs
  cases vs with
  |nil=>exact ⟨(),trivial⟩
  |cons v vs=>cases ds<;>simp [DataW.TrodAll] at h
 |t::ts,sh,hs,base,base',sp,hd,vs,ds,p,h,hok=>by
  rw [Zk] at hs
  split at hs
  · next s l h1 h2=>
    cases hs
    cases vs with
    |nil=>cases ds<;>simp [DataW.TrodAll] at h
    |cons v vs=>
     cases ds with
     |nil=>simp [DataW.TrodAll] at h
     |cons d ds=>
      obtain ⟨a,b,g1,g2,_⟩:=h
      obtain ⟨x,hx⟩:=aDh h1 g1 (hok 0 t v rfl rfl)
      obtain ⟨y,hy⟩:=axN ts l h2 vs ds b g2 fun j t' v' ht' hv'=>hok (j+1) t' v' (by simpa using ht') (by simpa using hv')
      exact ⟨(x,y),hx,hy⟩
  · cases hs
mutual
theorem CT.U4:∀ (c:CT),c.beq c=true
 | .int k=>by simp [CT.beq]
 | .bool=>rfl
 | .str=>rfl
 | .sl e r=>by simp [CT.beq,aK.U4 r]
theorem aK.U4:∀ (r:aK),r.beq r=true
 | .nil=>rfl
 | .cons c r=>by simp [aK.beq,CT.U4 c,aK.U4 r]
end
theorem avO:∀ (c:jD) (x:c.den),c.read (c.cell x)=some x
 | .int k,x=>by simp [jD.cell,jD.read]
 | .bool,x=>rfl
 | .str,x=>rfl
 | .sl e r fr,l=>by
   simp only [jD.cell,jD.read,Nat.beq_refl]
   have h1:Zg fr fr=true:=by cases fr<;>rfl
   have h2:r.beq r=true:=aK.U4 r
   rw [h1]
   simp only [Bool.and_self]
   rw [dif_pos h2]
   rfl
 | .nil,x=>rfl
 | .ref o,x=>by simp [jD.cell,jD.read]
 | .junk,x=>rfl
theorem aq4:∀ (l:List jD) (x:vI l),mW l (jA l x)=some x
 |[],_=>rfl
 |c::r,x=>by rw [jA,mW,avO c x.1,aq4 r x.2]
theorem axO:∀ (ts:List TypeId) (l:List bW),Zk P ts=some l→∀ (x:aY l),Sz l (FI l x)=some x
 |[],l,h,x=>by cases h;rfl
 |t::ts,l,h,x=>by
  rw [Zk] at h
  split at h
  · next s r h1 h2=>
    cases h
    have ih:=axO ts r h2 x.2
    cases s with
    |one c=>
     have e:(bW.v (.one c)).read ((bW.v (.one c)).val x.1)=some x.1:=avO c x.1
     rw [FI,Sz,ih,e]
    |agg l=>
     have e:(bW.v (.agg l)).read ((bW.v (.agg l)).val x.1)=some x.1:=aq4 l x.1
     rw [FI,Sz,ih,e]
  · cases h
def auk:Out:=⟨[(false,[.plain (.bool true)])],none⟩
theorem aBl {G:pY} {f:FuncId} {fn:Func} {sh:List bW} {F:aY sh→Prop×Out} (hcon:aA P G f (XZ sh F)) (hsh:Zk P fn.params.toList=some sh)
 (hF:∀ x,bF sh x→(F x).1∧(F x).2=auk) (hG:G.ok w) {base base':Nat} {sp:Nat→Bool} {hd:Bool} {args:Array Value} {ds:List (DataW H)} {p:List MemPlace}
 (hA:DataW.TrodAll enc P w base sp hd fn.params.toList args.toList ds p) (hok:∀ (j:Nat) t v,fn.params[j]? =some t→args[j]? =some v→Value.okWide P w .any base' t v):
 Calls P f args w fun e w'=>e= .returned (.bool true)∧w'.os=w.os∧w'.output=w.output∧w.heap.size≤w'.heap.size∧∀ b,b<w.heap.size→w'.heap[b]? =w.heap[b]? :=by
 obtain ⟨x,hx⟩:=axN _ _ hsh _ _ _ hA fun j t v ht hv=>hok j t v (by simpa using ht) (by simpa using hv)
 have hin:=Mc sh x _ hx
 obtain ⟨hp,ho⟩:=hF x hin
 have hc:XZ sh F (FI sh x)=some ((F x).1,auk):=by
  unfold XZ
  rw [axO _ _ hsh x]
  simp only [← ho]
 refine (hcon (FI sh x) _ _ 0 _ args w hc hp hG hx).mono ?_
 rintro e w' ⟨v,vals,rfl,h1,h2,h3,h4,h5,h6,_,_⟩
 have hv:v= .bool true:=h6
 exact ⟨by rw [hv],h1,h3,h4,h5⟩
theorem aCb {w w':World} (h1:w'.os=w.os) (h3:w'.output=w.output) (h5:∀ b,b<w.heap.size→w'.heap[b]? =w.heap[b]?) (may:MemPlace→Prop):w.keptBut w' may:=by
 refine ⟨h1,h3,fun i hi=>?_⟩
 rw [h5 i hi]
 cases hw:w.heap[i]? with
 |none=>trivial
 |some o=>cases o<;>simp
theorem aCc {w w':World} (h5:∀ b,b<w.heap.size→w'.heap[b]? =w.heap[b]?) {p:MemPlace} (hp:p.block<w.heap.size):w.sameAt w' p:=by
 cases p with
 |cell b off=>
  show w'.cell? _=w.cell? _
  unfold World.cell?
  simp only
  rw [h5 b hp]
 |map b=>exact h5 b hp
end Go.Fw
namespace Go.Fw
open Go
variable {P:Program} {G:pY} {f:FuncId}
theorem ayO {args:List Arg} {i:Nat} {x:Arg} {p:Nat} (hp:p / 64≠i):dY (args.set i x) p=dY args p:=by
 unfold dY
 rw [List.getElem?_set_ne (fun h=>hp h.symm)]
theorem aiQ {args:List Arg} {i:Nat} {e:TypeId} {r:aK} {l:List r.den} (hi:i<args.length) (p:Nat) (hp:p / 64=i):dY (args.set i (.own e r l)) p=if p=i*64+49 then some (.arr e r l false) else none:=by
 unfold dY
 rw [hp,List.getElem?_set_self hi]
 by_cases h:p=i*64+49
 · subst h
   have:Nat.beq ((i*64+49)%64) 49=true:=by
    have:(i*64+49)%64=49:=by omega
    rw [this];rfl
   simp [this]
 · have:Nat.beq (p%64) 49=false:=by
    cases hb:Nat.beq (p%64) 49 with
    |false=>rfl
    |true=>have:=Nat.eq_of_beq_eq_true hb;omega
   simp [this,h]
theorem azq {args:List Arg} {i:Nat} {v:SV} (ha:args[i]? =some (.sv v)) (p:Nat) (hp:p / 64=i):dY args p=none:=by
 unfold dY
 rw [hp,ha]
def Zl (γ:Nat→Value) (i:Nat) (o:Nat):Value:=if o=i*64+49 then .slice none 0 0 else γ o
theorem xW.mono {X Y:V} (h:X.le Y):∀ (a:Arg) (v:Value),xW X a v→xW Y a v
 | .sv x,v,H=>fF.mono h x v H
 | .kp cs,v,H=>bI.mono h (.fM cs 0) v H
 | .fn f caps,v,H=>bI.mono h (.fn f caps) v H
 | .own _ _ _,_,H| .ptr _,_,H=>H.elim
theorem Za.mono {X Y:V} (h:X.le Y) (i:Nat):∀ (a:Arg) (v:Value),Za X i a v→Za Y i a v
 | .own _ _ _,v,H=>bC.mono h (.ref (i*64+49)) v H
 | .ptr _,v,H=>bI.mono h (.dW (i*64+48) 0) v H
 | .sv x,v,H=>xW.mono h (.sv x) v H
 | .kp cs,v,H=>xW.mono h (.kp cs) v H
 | .fn f caps,v,H=>xW.mono h (.fn f caps) v H
theorem FH.nil {X Y:V} (h:X.le Y) {e:TypeId} {r:aK}:∀ (args:List Arg) (vs:List Value) (j i:Nat),args[i]? =some (.sv (.one .nil))→
 Y.aj ((j+i)*64+49)=some (.arr e r [] false)→Y.γ ((j+i)*64+49)= .slice none 0 0→FH X j args vs→FH Y j (args.set i (.own e r [])) vs
 |[],[],_,i,ha,_,_,_=>by simp at ha
 |[],_::_,_,_,_,_,_,H=>H.elim
 |_::_,[],_,_,_,_,_,H=>H.elim
 |a::args,v::vs,j,0,ha,ho,hγ,⟨h1,h2⟩=>by
  have ha:a= .sv (.one .nil):=by simpa using ha
  subst ha
  have hv:v= .slice none 0 0:=h1
  refine ⟨⟨⟨e,r,[],false,ho⟩,?_,by rw [hv];rfl⟩,?_⟩
  · rw [hv];exact hγ.symm
  · show FH Y (j+1) args vs
    clear h1 ha ho hγ hv
    generalize j+1=k at h2
    induction args generalizing k vs with
    |nil=>cases vs with
     |nil=>trivial
     |cons _ _=>exact h2.elim
    |cons b args ih=>cases vs with
     |nil=>exact h2.elim
     |cons u vs=>exact ⟨Za.mono h k b u h2.1,ih vs (k+1) h2.2⟩
 |a::args,v::vs,j,i+1,ha,ho,hγ,⟨h1,h2⟩=>by
  have e1:j+(i+1)=j+1+i:=by omega
  rw [e1] at ho hγ
  exact ⟨Za.mono h j a v h1,FH.nil h args vs (j+1) i (by simpa using ha) ho hγ h2⟩
theorem aG.aDJ {con aiP:fE} (i:Nat) (e:TypeId) (r:aK) (hr:0<r.len) (h:aG P G f con)
 (hc:∀ args p ρ,aiP args=some (p,ρ)→p→args[i]? =some (.sv (.one .nil))∧(∀ t,rC (ρ.aV t) (i*64+49)=none)∧∃ q,con (args.set i (.own e r []))=some (q,ρ)∧q):aG P G f aiP:=by
 intro args p ρ hcon hp
 obtain ⟨ha,hF,q,hq1,hq⟩:=hc args p ρ hcon hp
 have hlen:i<args.length:=by
  have:=List.getElem?_eq_some_iff.1 ha
  exact this.1
 obtain ⟨hex,hcall⟩:=h _ q ρ hq1 hq
 refine ⟨hex,fun k S γ vs w hG hrep wC hsep hfree=>?_⟩
 have hO:∀ o,o≠i*64+49→dY (args.set i (.own e r [])) o=dY args o:=by
  intro o ho
  by_cases hd:o / 64=i
  · rw [aiQ hlen o hd,azq ha o hd,if_neg ho]
  · exact ayO hd
 have hN:dY (args.set i (.own e r [])) (i*64+49)=some (.arr e r [] false):=by
  rw [aiQ hlen _ (by omega),if_pos rfl]
 have hN':dY args (i*64+49)=none:=azq ha _ (by omega)
 have hγN:Zl γ i (i*64+49)= .slice none 0 0:=if_pos rfl
 have hγ:∀ o,o≠i*64+49→Zl γ i o=γ o:=fun o ho=>if_neg ho
 have hne:∀ o x,dY args o=some x→o≠i*64+49:=fun o x ho e=>by rw [e,hN'] at ho;cases ho
 have le:V.le ⟨w,w.heap.size,S,γ,dY args⟩ ⟨w,w.heap.size,S,Zl γ i,dY (args.set i (.own e r []))⟩:=by
  refine ⟨Nat.le_refl _,fun b hb=>⟨⟨hb.1,hb.2.1,fun o x hx=>?_⟩,rfl⟩,fun o cs hx=>⟨⟨cs,?_⟩,hγ o (hne o _ hx)⟩,fun o e r l fr hx=>⟨⟨l,fr,?_⟩,hγ o (hne o _ hx)⟩⟩
  · by_cases ho:o=i*64+49
    · show blk (Zl γ i o)≠some b
      rw [ho,hγN];intro hh;cases hh
    · show blk (Zl γ i o)≠some b
      rw [hγ o ho]
      exact hb.2.2 o x ((hO o ho).symm.trans hx)
  · exact (hO o (hne o _ hx)).trans hx
  · exact (hO o (hne o _ hx)).trans hx
 have hbl:∀ b,DU (dY (args.set i (.own e r []))) (Zl γ i) b↔DU (dY args) γ b:=by
  intro b
  constructor
  · rintro ⟨o,x,h1,h2⟩
    by_cases ho:o=i*64+49
    · rw [ho,hγN] at h2;cases h2
    · exact ⟨o,x,(hO o ho)▸h1,(hγ o ho)▸h2⟩
  · rintro ⟨o,x,h1,h2⟩
    exact ⟨o,x,(hO o (hne o x h1)).trans h1,by rw [hγ o (hne o x h1)];exact h2⟩
 refine Calls.mono (hcall k S (Zl γ i) vs w hG (FH.nil (Y:=⟨w,w.heap.size,S,Zl γ i,dY (args.set i (.own e r []))⟩) le args vs.toList 0 i ha (by rw [Nat.zero_add];exact hN) (by rw [Nat.zero_add];exact hγN) hrep) ?_ ?_ hfree) ?_
 · intro o x hx
   by_cases ho:o=i*64+49
   · subst ho
     rw [hN] at hx
     cases hx
     refine ⟨⟨[],?_,hr,fun b hb=>?_,fun j x hj=>by simp at hj⟩,fun b hb=>?_⟩
     · show w.ownsRow 0 e r.len (Zl γ i (i*64+49)) 0 []
       rw [hγN];exact World.ownsRow_nil w 0 e r.len
     · have hb:blk (Zl γ i (i*64+49))=some b:=hb
       rw [hγN] at hb;cases hb
     · rw [hγN] at hb;cases hb
   · have hx':dY args o=some x:=(hO o ho)▸hx
     have:=wC o x hx'
     refine ⟨dh.mono le o x (fun b _=>rfl) (hγ o ho) this.1,fun b hb=>this.2 b ((hγ o ho)▸hb)⟩
 · intro o x q y b hx hy hoq hb
   by_cases ho:o=i*64+49
   · rw [ho,hγN] at hb;cases hb
   by_cases hq':q=i*64+49
   · rw [hq',hγN];intro hh;cases hh
   rw [hγ o ho] at hb
   rw [hγ q hq']
   exact hsep o x q y b ((hO o ho)▸hx) ((hO q hq')▸hy) hoq hb
 · rintro en w' ⟨t,ht,v,γ',h1,h2,h3,h4,h5,h6,h7,h8,h9,h10⟩
   have aAi:∀ o x,rC (ρ.aV t) o=some x→o≠i*64+49:=fun o x ho e=>by rw [e,hF t] at ho;cases ho
   have hL:xX S (args.set i (.own e r [])) (ρ.aV t) (Zl γ i)=xX S args (ρ.aV t) γ:=by
    funext b
    apply propext
    constructor
    · rintro ⟨a1,a2⟩
      refine ⟨a1.imp_right (hbl b).1,fun q y hy=>?_⟩
      have:=a2 q y hy
      rwa [hγ q (aAi q y hy)] at this
    · rintro ⟨a1,a2⟩
      refine ⟨a1.imp_right (hbl b).2,fun q y hy=>?_⟩
      rw [hγ q (aAi q y hy)]
      exact a2 q y hy
   rw [hL] at h7 h8 h10
   refine ⟨t,ht,v,γ',h1,h2,h3,h4,h5,fun b hb hn=>h6 b hb (fun h=>hn ((hbl b).1 h)),h7,fun o x hx=>?_,h9,fun o x hx=>?_⟩
   · obtain ⟨a1,a2⟩:=h8 o x hx
     refine ⟨a1,fun b hb=>?_⟩
     obtain ⟨b1,b2,b3⟩:=a2 b hb
     refine ⟨b1,b2.imp_right (hbl b).1,fun q y hy=>?_⟩
     have:=b3 q y hy
     rwa [hγ q (aAi q y hy)] at this
   · obtain ⟨a1,a2⟩:=h10 o x hx
     exact ⟨a1.trans (hγ o (aAi o x hx)),a2⟩
theorem aBm {l:List jD} {e:TypeId} {r:aK} {rest:List dM} {fH:List fQ} {F:cO (.ptr l:: .own e r::rest)→Prop×(dm fH×cZ (.ptr l:: .own e r::rest)→Prop)}
 {F':cO (.ptr l:: .p (.v (.one .nil))::rest)→Prop×(dm fH×cZ (.ptr l:: .own e r::rest)→Prop)} (hr:0<r.len) (h:aG P G f (dR (.ptr l:: .own e r::rest) fH F))
 (hF:∀ a x,(F' (a,(),x)).1→(F (a,[],x)).1) (hF2:∀ a x,(F' (a,(),x)).1→(F' (a,(),x)).2=(F (a,[],x)).2):aG P G f (dR (.ptr l:: .p (.v (.one .nil))::rest) fH F'):=by
 refine aG.aDJ 1 e r hr h fun args p ρ hcon hp=>?_
 match args,hcon with
 |[],hcon=>simp [dR,jS] at hcon
 |[a],hcon=>
  have:jS (.ptr l:: .p (.v (.one .nil))::rest) [a]=none:=by
   simp only [jS]
   split<;>simp_all
  simp [dR,this] at hcon
 |a::b::args,hcon=>
  cases ha:(dM.ptr l).read a with
  |none=>simp [dR,jS,ha] at hcon
  |some a'=>
  cases hb:(dM.p (.v (.one .nil))).read b with
  |none=>simp [dR,jS,ha,hb] at hcon
  |some b'=>
  cases hx:jS rest args with
  |none=>simp [dR,jS,ha,hb,hx] at hcon
  |some x=>
   have hb2:b= .sv (.one .nil):=by
    cases b with
    |sv s=>cases s with
     |one c=>cases c with
      |nil=>rfl
      |int k n=>cases hb
      |bool k=>cases hb
      |str k=>cases hb
      |sl e r l fr=>cases hb
      |ref o=>cases hb
      |junk=>cases hb
     |agg cs=>cases hb
    |_=>cases hb
   subst hb2
   simp only [dR,jS,ha,hb,hx] at hcon
   have hcon:=Option.some.inj hcon
   have h1:(F' (a',(),x)).1=p:=congrArg Prod.fst hcon
   have h2:(⟨dm fH×cZ (.ptr l:: .own e r::rest),(F' (a',(),x)).2,fun t=>⟨jR fH t.1,none⟩,fun t=>mX (.ptr l:: .own e r::rest) t.2⟩:WA)=ρ:=congrArg Prod.snd hcon
   have hp':(F' (a',(),x)).1:=h1▸hp
   subst h2
   refine ⟨rfl,fun t=>rfl,(F (a',[],x)).1,?_,hF a' x hp'⟩
   · have ho:(dM.own e r).read (.own e r [])=some []:=by
      unfold dM.read
      simp only [Nat.beq_refl]
      rw [dif_pos (aK.U4 r)]
      rfl
     simp only [List.set_cons_succ,List.set_cons_zero,dR,jS,ha,ho,hx]
     have:=hF2 a' x hp'
     exact congrArg (fun z=>some ((F (a',[],x)).1,(⟨dm fH×cZ (.ptr l:: .own e r::rest),z,fun t=>⟨jR fH t.1,none⟩,fun t=>mX (.ptr l:: .own e r::rest) t.2⟩:WA))) this.symm
end Go.Fw
namespace Go.Fw
open Go
theorem af {b:Bool} {A B:Prop} (h1:b=true→A) (h2:b=false→B):cond b A B:=by
 cases b
 · exact h2 rfl
 · exact h1 rfl
theorem iM (z:Int) (h:-9223372036854775808≤z∧z≤9223372036854775807):IntKind.i64.wrap z=z:=IntWalk.i64_in z (by omega)
theorem maxLen_eq:maxLen=9223372036854775807:=by decide
theorem dU:big=4294967296:=rfl
theorem getD_mem {α:Type} {l:List α} {n:Nat} {d:α} (h:n<l.length):l.getD n d∈l:=by
 rw [List.getD_eq_getElem?_getD,List.getElem?_eq_getElem h,Option.getD_some];exact List.getElem_mem h
end Go.Fw
namespace Go.Fw
open Go
end Go.Fw
namespace Go.Fw
open Go
variable {P:Program}
end Go.Fw
namespace Go.Fw
open Go
variable {P:Program}
theorem ayP {s:dM} {sh:List dM}:∀ {args:List Arg} {d:cO (s::sh)},jS (s::sh) args=some d→∃ x xs,args=x::xs∧s.read x=some d.1∧jS sh xs=some d.2
 |[],_,h=>by simp [jS] at h
 |x::xs,d,h=>by
  rw [jS] at h
  split at h
  · next a b h1 h2=>cases h;exact ⟨x,xs,rfl,h1,h2⟩
  · cases h
theorem aAj:∀ {args:List Arg} {d:cO []},jS [] args=some d→args=[]
 |[],_,_=>rfl
 |_::_,_,h=>by simp [jS] at h
end Go.Fw
namespace Go.Fw
open Go
variable {P:Program} {H:Type} {enc:TypeId×Value→H} {w:World}
theorem afH (hl:laidOutB P=true) {base:Nat} {sp':Nat→Bool} {W W':World}:∀ (ts:List TypeId) (_:ts.all (fun t=>P.readableRec t&&decide (t<P.types.size))=true)
 (vs:List Value) (ds:List (DataW H)) (ps:List MemPlace),DataW.TrodAll enc P W base (fun _=>true) true ts vs ds ps→(∀ p∈ps,W.sameAt W' p)→(∀ p∈ps,sp' p.block=true)→DataW.TrodAll enc P W' base sp' true ts vs ds ps
 |[],_,vs,ds,ps,h,_,_=>by
  cases vs<;>cases ds<;>simp [DataW.TrodAll] at h ⊢
  exact h
 |t::ts,ht,vs,ds,ps,h,h1,h2=>by
  rw [List.all_cons,Bool.and_eq_true,Bool.and_eq_true] at ht
  cases vs with
  |nil=>cases ds<;>simp [DataW.TrodAll] at h
  |cons v vs=>
   cases ds with
   |nil=>simp [DataW.TrodAll] at h
   |cons d ds=>
    obtain ⟨a,b,g1,g2,rfl⟩:=h
    exact ⟨a,b,WideElems.Trod_stays hl ht.1.1 (of_decide_eq_true ht.1.2) g1 (fun p hp=>h1 p (List.mem_append_left _ hp)) (fun p hp=>h2 p (List.mem_append_left _ hp)),
     afH hl ts ht.2 vs ds b g2 (fun p hp=>h1 p (List.mem_append_right _ hp)) (fun p hp=>h2 p (List.mem_append_right _ hp)),rfl⟩
theorem trodAll_length {base:Nat} {sp:Nat→Bool} {hd:Bool} {W:World}:∀ (ts:List TypeId) (vs:List Value) (ds:List (DataW H)) (ps:List MemPlace),DataW.TrodAll enc P W base sp hd ts vs ds ps→ds.length=ts.length
 |[],vs,ds,ps,h=>by cases vs<;>cases ds<;>simp [DataW.TrodAll] at h ⊢
 |t::ts,vs,ds,ps,h=>by
  cases vs with
  |nil=>cases ds<;>simp [DataW.TrodAll] at h
  |cons v vs=>
   cases ds with
   |nil=>simp [DataW.TrodAll] at h
   |cons d ds=>
    obtain ⟨a,b,g1,g2,rfl⟩:=h
    simp [trodAll_length ts vs ds b g2]
theorem aCd {fn:Func} {s:ChangeSpec} {apart fresh handsOn again:Bool} {W W':World} {args:Array Value} {ds gs:List (DataW H)} {before:List MemPlace} {tb:TypeId}
 (hvars:s.vars=[]) (hspec:∀ l:List (DataW H),l.length=fn.params.toList.length→(s.fn H l).results=[.lit (.bool true)]∧(s.fn H l).args=l∧(s.fn H l).vars=[])
 (hres:fn.resultTypes=#[tb]) (hb:P.underlying tb=some .bool) (hl:laidOutB P=true) (hread:fn.params.toList.all (fun t=>P.readableRec t&&decide (t<P.types.size))=true)
 (hW:DataW.Whole enc P fn.params.toList s.vars apart W args.toList ds gs before) (hos:W'.os=W.os) (hout:W'.output=W.output) (hheap:∀ b,b<W.heap.size→W'.heap[b]? =W.heap[b]?):
 s.post enc P fn apart fresh handsOn again W args (.bool true) W':=by
 have hlt:=hW.lt
 have hW0:=hW
 obtain ⟨p,q,hA,hV,hpq,hz,hn⟩:=hW
 rw [hvars] at hV
 have hg:gs=[]∧q=[]:=by
  cases gs with
  |nil=>exact ⟨rfl,hV⟩
  |cons g gs=>simp [DataW.TrodVars] at hV
 obtain ⟨rfl,rfl⟩:=hg
 rw [List.append_nil] at hpq
 subst hpq
 have hlen:=trodAll_length _ _ _ _ hA
 obtain ⟨r1,r2,r3⟩:=hspec (ds++[]) (by simpa using hlen)
 rw [List.append_nil] at r1 r2 r3
 have hsame:∀ x∈before,W.sameAt W' x:=fun x hx=>aCc hheap (hlt x hx)
 have R:∀ (b:Nat) (sp:Nat→Bool) (hd:Bool),DataW.TrodAll enc P W' b sp hd fn.resultTypes.toList ((Value.bool true).resultList fn.resultTypes.size) [.lit (.bool true)] []:=by
  intro b sp hd
  rw [hres]
  exact ⟨[],[],⟨1,by simp [DataW.trod,Value.cells,hb]⟩,rfl,rfl⟩
 have A:∀ sp:Nat→Bool,(∀ x∈before,sp x.block=true)→DataW.TrodAll enc P W' 0 sp true fn.params.toList args.toList ds before:=fun sp hsp=>afH hl _ hread _ _ _ hA hsame hsp
 have hold:∀ x∈before,(fun b=>decide (b<W.heap.size)) x.block=true:=fun x hx=>by simpa using hlt x hx
 refine ⟨ds,[],before,[],before,[],hW0,?_,?_,?_,aCb hos hout hheap _,fun _=>⟨?_, .lit (.bool true)::ds,[],before,⟨before,[],?_,?_,by simp,?_,hn⟩,fun x hx _=>hx⟩⟩
 · rw [List.append_nil,r1];exact R _ _ _
 · rw [List.append_nil,r2];exact A _ hold
 · rw [List.append_nil,r3,hvars];rfl
 · intro j t r h1 h2
   rw [hres] at h1 h2
   match j with
   |0=>
    simp [Value.resultList] at h1 h2
    subst h1 h2
    simp [Value.okWide,hb,Go.Cell.okWide,Go.Cell.ok]
   |j+1=>simp at h1
 · exact ChangeShapes.trodAll_append (A _ (fun _ _=>rfl)) (R _ _ _)
 · rw [hvars];rfl
 · intro b off hp
   have hbl:=hlt _ hp
   have e:W'.frozen? ⟨b,off,none⟩=W.frozen? ⟨b,off,none⟩:=by
    unfold World.frozen?
    simp only
    rw [hheap b hbl]
   rw [e]
   exact hz b off hp
end Go.Fw
namespace Go.Fw
open Go
theorem law_lifted {H:Type} {enc:TypeId×Value→H} {C:Checked} {G:pY} {os:Os} {f:FuncId} {fn:Func} {s:ChangeSpec} {conds:List PathCond} {apart fresh handsOn again:Bool} {tb:TypeId} {sh:List bW} {F:aY sh→Prop×Out}
 (own:ownKnob C.prog.godebug=none) (started:os.Started) (noInit:C.prog.inits.idxOf? f=none) (hfn:C.prog.funcs[f]? =some fn)
 (witness:∃ (w:World) (tape:Tape) (i:Input),w.os=os∧(w.forCall tape i).Shaped C.prog∧i.vars=[]∧Input.okWide C.prog (w.forCall tape i) .any w.heap.size f i∧
   s.pre6 enc C.prog fn conds apart (w.forCall tape i).memory i.args∧({}:Assume).holds C.prog (lone (Frame.enter C.prog f i.args .normal) [] (w.forCall tape i)))
 (hcon:aA C.prog G f (XZ sh F)) (hsh:Zk C.prog fn.params.toList=some sh) (hF:∀ x,bF sh x→(F x).1∧(F x).2=auk) (hG:∀ w,G.ok w)
 (hvars:s.vars=[]) (hspec:∀ l:List (DataW H),l.length=fn.params.toList.length→(s.fn H l).results=[.lit (.bool true)]∧(s.fn H l).args=l∧(s.fn H l).vars=[])
 (hres:fn.resultTypes=#[tb]) (hb:C.prog.underlying tb=some .bool) (hl:laidOutB C.prog=true) (hread:fn.params.toList.all (fun t=>C.prog.readableRec t&&decide (t<C.prog.types.size))=true):
 ReturnsInHanded {} C os f .any (s.pre6 enc C.prog fn conds apart) (s.post enc C.prog fn apart fresh handsOn again):=by
 refine returnsInHanded_of_change own started noInit hfn witness ?_
 intro W base args ds gs before hval hW _ _
 have hW0:=hW
 obtain ⟨p,q,hA,_⟩:=hW
 refine (aBl hcon hsh hF (hG W) hA hval).mono ?_
 rintro e W' ⟨rfl,h1,h2,_,h3⟩
 exact ⟨_,rfl,aCd hvars hspec hres hb hl hread hW0 h1 h2 h3⟩
end Go.Fw
