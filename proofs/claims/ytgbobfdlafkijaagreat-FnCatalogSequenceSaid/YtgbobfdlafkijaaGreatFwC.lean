import Derived.Test.YtgbobfdlafkijaaGreatFwD
import Derived.Test.YtgbobfdlafkijaaGreatFwB
import Derived.Test.YtgbobfdlafkijaaGreatFwA
import Derived.ChangeArms
import Derived.WideKeyArgs
import Derived.ChangeSame
import Derived.ChangeOld
import Derived.Handed
import Derived.IntWalk
import Derived.Laws.IdiomCopy
import Derived.ProofKit
namespace Go.Fw
open Go
variable {P:Program} {w0:World} {M:Nat→Prop} {T:Ext} {γ γ':Nat→Value} {st:St} {a:Act} {w w':World} {Θ:je} {Γ:aK}
structure Xn where
 aDp:List alr
 c:Shape
 v:Shape
structure Hints where
 own:Nat→Bool
 loops:Nat→Option Xn
 cuts:Nat→Option Xn
 upd:List Nat
 frz:Nat→List Pre
def Iu:Code→Option Nat
 | .region id _ _=>some id
 | .seq x y=>match Iu x with|some n=>some n|none=>Iu y
 | .cond _ x y=>match Iu x with|some n=>some n|none=>Iu y
 | .block _ x| .loop x=>Iu x
 |_=>none
def cutAt (H:Hints) (y:Code):Option Xn:=match Iu y with
 |some n=>H.cuts n
 |none=>none
def ZG (Θ:je) (Γ:aK) (H:Hints):Code→(Exit→St→Prop)→St→Prop
 | .skip,Q,st=>Q .normal st
 | .region id ops false,Q,st=>agt (H.frz id) (runs Θ Γ H.own ops.toList (Q .normal) ops.toList) st
 | .region id ops true,Q,st=>agt (H.frz id) (ade Θ Γ H.own H.upd ops.toList (Q .normal)) st
 | .seq x y,Q,st=>match cutAt H y with
   |none=>ZG Θ Γ H x (fun e s=>match e with| .normal=>ZG Θ Γ H y Q s|e=>Q e s) st
   |some sp=>match sp.c.read (only sp.c sp.v st) with
    |some x0=>∃ (J:sp.v.den→Prop),ZG Θ Γ H x (fun e s=>match e with
      | .normal=>match settles s sp.aDp with
        |some s1=>match Nat.beq s1.n st.n,sp.c.read (only sp.c sp.v s1),sp.v.read (only sp.c sp.v s1) with
         |true,some x1,some y1=>x1=x0∧J y1
         |_,_,_=>False
        |none=>False
      |e=>Q e s) st∧∀ y1,J y1→ZG Θ Γ H y Q (joint st.n sp.c sp.v x0 y1)
    |none=>False
 | .cond c x y,Q,st=>match st.ev c with
   | .sv (.one (.bool b))=>cond b (ZG Θ Γ H x Q st) (ZG Θ Γ H y Q st)
   |_=>False
 | .block id c,Q,st=>ZG Θ Γ H c (fun e s=>match e with
   | .exit i=>match Nat.beq i id with|true=>Q .normal s|false=>Q (.exit i) s
   |e=>Q e s) st
 | .exit id,Q,st=>Q (.exit id) st
 | .ret,Q,st=>Q .ret st
 | .loop c,Q,st=>match Iu c with
   |some n=>match H.loops n with
    |some sp=>match settles st sp.aDp with
     |some s0=>match sp.c.read (only sp.c sp.v s0),sp.v.read (only sp.c sp.v s0) with
      |some x0,some y0=>∃ (I:sp.v.den→Prop) (μ:sp.v.den→Nat),I y0∧∀ y,I y→
        ZG Θ Γ H c (fun e s=>match e with
         | .normal=>match settles s sp.aDp with
           |some s1=>match Nat.beq s1.n s0.n,sp.c.read (only sp.c sp.v s1),sp.v.read (only sp.c sp.v s1) with
            |true,some x1,some y1=>x1=x0∧I y1∧μ y1<μ y
            |_,_,_=>False
           |none=>False
         |e=>Q e s) (joint s0.n sp.c sp.v x0 y)
      |_,_=>False
     |none=>False
    |none=>False
   |none=>False
 |_,_,_=>False
theorem als {G:qU} (hE:CS P G Θ Γ w0 M) (hm:P.follows .mixedOrders=true) (H:Hints):∀ (c:Code) (QA:Exit→St→Prop) (Q:Exit→Act→World→Prop) (st:St) (γ:Nat→Value) (a:Act) (w:World),
 Rel w0 M T γ st a w→ZG Θ Γ H c QA st→(∀ e s γ' a' w',QA e s→Rel w0 M T γ' s a' w'→Q e a' w')→c.wp P Q a w:=by
 intro c
 induction c with
 |skip=>intro QA Q st γ a w h ha hQ;exact wp_skip (hQ _ _ _ _ _ ha h)
 |region id ops d=>
  intro QA Q st γ a w h ha hQ
  cases d with
  |false=>
   obtain ⟨s0,γ0,h0,hk0⟩:=O7 (K:=runs Θ Γ H.own ops.toList (QA .normal) ops.toList) (H.frz id) st γ h ha
   exact aAY hE h0 hk0 fun s γ' a' w' hK hR=>hQ _ _ _ _ _ hK hR
  |true=>
   obtain ⟨s0,γ0,h0,hk0⟩:=O7 (K:=ade Θ Γ H.own H.upd ops.toList (QA .normal)) (H.frz id) st γ h ha
   exact aEm hE hm h0 hk0 fun s γ' a' w' hK hR=>hQ _ _ _ _ _ hK hR
 |seq x y ihx ihy=>
  intro QA Q st γ a w h ha hQ
  rw [ZG] at ha
  split at ha
  · refine wp_seq (ihx _ _ st γ a w h ha ?_)
    intro e s γ' a' w' hq hR
    cases e<;>first|exact ihy _ _ s γ' a' w' hR hq hQ|exact hQ _ _ _ _ _ hq hR
  · next sp hsp=>
    split at ha
    · next x0 hx=>
      obtain ⟨J,h1,h2⟩:=ha
      refine wp_seq (ihx _ _ st γ a w h h1 ?_)
      intro e s γ' a' w' hq hR
      cases e with
      |normal=>
       simp only at hq
       split at hq
       · next s1 hs1=>
         split at hq
         · next x1 y1 hsn hx1 hy1=>
           obtain ⟨rfl,hJ⟩:=hq
           obtain ⟨γ1,hR1⟩:=Rel.settles _ hR hs1
           have hR2:=hR1.joint hx1 hy1
           rw [Nat.eq_of_beq_eq_true hsn] at hR2
           exact ihy _ _ _ γ1 a' w' hR2 (h2 _ hJ) hQ
         · exact hq.elim
       · exact hq.elim
      |_=>exact hQ _ _ _ _ _ hq hR
    · exact ha.elim
 |cond c x y ihx ihy=>
  intro QA Q st γ a w h ha hQ
  rw [ZG] at ha
  split at ha
  · next b hb=>
    have hv:a.eval c= .bool b:=by
     have:=kU h c
     rw [hb] at this
     exact this
    refine wp_cond_split hv (fun e=>?_) (fun e=>?_)
    · subst e;exact ihx _ _ st γ a w h ha hQ
    · subst e;exact ihy _ _ st γ a w h ha hQ
  · exact ha.elim
 |block id c ih=>
  intro QA Q st γ a w h ha hQ
  refine wp_block (ih _ _ st γ a w h ha ?_)
  intro e s γ' a' w' hq hR
  cases e with
  |exit i=>
   simp only [Exit.inBlock]
   cases hb:Nat.beq i id with
   |true=>
    simp only [hb] at hq
    rw [if_pos (Nat.eq_of_beq_eq_true hb)]
    exact hQ _ _ _ _ _ hq hR
   |false=>
    simp only [hb] at hq
    rw [if_neg (by rintro rfl;simp at hb)]
    exact hQ _ _ _ _ _ hq hR
  |_=>exact hQ _ _ _ _ _ hq hR
 |loop c ih=>
  intro QA Q st γ a w h ha hQ
  rw [ZG] at ha
  split at ha
  · split at ha
    · next sp hsp=>
      split at ha
      · next s0 hs0=>
        split at ha
        · next x0 y0 hx hy=>
          obtain ⟨I,μ,h0,hI⟩:=ha
          obtain ⟨γ0,hR0⟩:=Rel.settles _ h hs0
          let J:sp.v.den→Act→World→Prop:=fun y a' w'=>∃ γ',Rel w0 M T γ' (joint s0.n sp.c sp.v x0 y) a' w'
          have key:∀ (n:Nat) (y:sp.v.den),μ y=n→I y→∀ a' w',J y a' w'→∀ (b:Frame) (k:List Item) (cs:List Frame),
           ∃ e a'' w'',Q e a'' w''∧Arrives P (lone (b.at a' (.code c:: .inLoop c::k)) cs w') b k cs e a'' w'':=by
           intro n
           induction n using Nat.strongRecOn with
           |_ n ihn=>
            intro y hμ hy' a' w' ⟨γ',hR⟩ b k cs
            have hbody:=ih _ (Exit.then (fun a2 w2=>∃ y2,I y2∧μ y2<μ y∧J y2 a2 w2) Q) _ γ' a' w' hR (hI y hy') ?_
            · obtain ⟨e,a1,w1,hq,harr⟩:=hbody b (.inLoop c::k) cs
              cases e with
              |normal=>
               obtain ⟨y2,hI2,hlt,hJ2⟩:=hq
               obtain ⟨e2,a2,w2,hq2,aHk⟩:=ihn (μ y2) (hμ▸hlt) y2 rfl hI2 a1 w1 hJ2 b k cs
               exact ⟨e2,a2,w2,hq2, .of_steps (Steps.trans harr (.one step_inLoop)) aHk⟩
              |exit id=>exact ⟨_,a1,w1,hq, .pass (x:= .inLoop c) rfl (fun _ _=> .inl (by simp)) harr⟩
              |goto l=>exact ⟨_,a1,w1,hq, .pass (x:= .inLoop c) rfl (fun _ _=> .inl (by simp)) harr⟩
              |ret=>exact ⟨_,a1,w1,hq, .pass (x:= .inLoop c) rfl (fun _ _=> .inl (by simp)) harr⟩
              |panic ch=>exact ⟨_,a1,w1,hq, .pass (x:= .inLoop c) rfl (fun _ _=> .inl (by simp)) harr⟩
              |outgrown=>exact ⟨_,a1,w1,hq, .pass (x:= .inLoop c) rfl (fun _ _=> .inl (by simp)) harr⟩
            · intro e s γ2 a2 w2 hq hR2
              cases e with
              |normal=>
               simp only at hq
               split at hq
               · next s1 hs1=>
                 split at hq
                 · next x1 y1 hsn hx1 hy1=>
                   obtain ⟨rfl,hI1,hlt⟩:=hq
                   obtain ⟨γ3,hR3⟩:=Rel.settles _ hR2 hs1
                   have hJ:=hR3.joint hx1 hy1
                   rw [Nat.eq_of_beq_eq_true hsn] at hJ
                   exact ⟨y1,hI1,hlt,_,hJ⟩
                 · exact hq.elim
               · exact hq.elim
              |_=>exact hQ _ _ _ _ _ hq hR2
          intro b k cs
          obtain ⟨e,a',w',hq,harr⟩:=key _ y0 rfl h0 a w ⟨_,hR0.joint hx hy⟩ b k cs
          exact ⟨e,a',w',hq, .of_steps (.one step_loop) harr⟩
        · exact ha.elim
      · exact ha.elim
    · exact ha.elim
  · exact ha.elim
 |rangeFunc f ps x y ihx ihy=>intro QA Q st γ a w h ha hQ;exact ha.elim
 |exit id=>intro QA Q st γ a w h ha hQ;exact wp_exit (hQ _ _ _ _ _ ha h)
 |scope c ih=>intro QA Q st γ a w h ha hQ;exact ha.elim
 |label l=>intro QA Q st γ a w h ha hQ;exact ha.elim
 |goto l=>intro QA Q st γ a w h ha hQ;exact ha.elim
 |ret=>intro QA Q st γ a w h ha hQ;exact wp_ret (hQ _ _ _ _ _ ha h)
 |refuse s=>intro QA Q st γ a w h ha hQ;exact ha.elim
end Go.Fw
namespace Go.Fw
open Go
variable {P:Program} {w0:World} {M:Nat→Prop} {T:Ext} {γ γ':Nat→Value} {st:St} {a:Act} {w w':World} {Θ:je} {Γ:aK}
def Arg.av:Arg→AV
 | .sv v=> .sv v
 | .kp cs=> .fA cs 0
 | .fn f caps=> .fn f caps
 | .own _ _ _| .ptr _=> .undef
def entry (n:Nat) (args:List Arg):St:=
 {n:=n,tmps:=fun t=>match args[t]? with|some v=>v.av|none=> .undef,aj:=fun _=>none}
def adf (st:St) (o:Nat):Bool:=match st.aj o with|some (.arr _ _ _ _)=>true|_=>false
def auu (Θ:je) (st:St):ResultVar→Option SV
 | .tmp t=>match st.tmps t with| .sv v=>some v|_=>none
 | .cell t ty=>match Θ ty,st.tmps t with
   |some ti, .fE o off=>match st.aj o with
    |some (.var cs)=>ru ti cs off
    |_=>none
   |_,_=>none
def abC (Θ:je) (st:St):List ResultVar→Option (List SV)
 |[]=>some []
 |r::rs=>match auu Θ st r,abC Θ st rs with
  |some v,some vs=>some (v::vs)
  |_,_=>none
def outOf:SV→Bool×List iQ
 | .one c=>(false,[.plain c])
 | .agg cs=>(true,cs.map .plain)
def outs:List SV→List (Bool×List iQ)
 |[]=>[]
 |v::vs=>outOf (v.kill fun _=>true)::outs vs
def fin (Θ:je) (rv:List ResultVar) (st:St):Option Out:=
 match abC Θ (st.freeze (adf st)) rv with
 |some vs=>some ⟨outs vs,none⟩
 |none=>none
theorem adg:∀ (k:Nat) (cs:List Cell),oh k (cs.map .plain)=(cs,[])
 |_,[]=>rfl
 |k,c::cs=>by simp only [List.map_cons,oh,adg (k+1) cs,iQ.take,List.append_nil]
theorem aB0 (k:Nat) (v:SV):Gu k (outOf v)=(v,[]):=by
 cases v with
 |one c=>rfl
 |agg cs=>simp only [Gu,outOf,adg]
theorem aGk (v:Value) (t:TypeId) (b off:Nat) (hv:v= .pointer (some ⟨b,off,none⟩)):Instr.loadAt t v=(do loadVar t (← asAddr v)):=by
 subst hv;rfl
def Ym (tmps:Array Value):ResultVar→Sem Value
 | .tmp t=>pure (tmps.getD t undef)
 | .cell x t=>do loadVar t (← asAddr (tmps.getD x undef))
theorem agv (fn:Func) (tmps:Array Value):results fn tmps=(do let vs ← fn.results.mapM (Ym tmps);pure (if h:vs.size=1 then vs[0] else .tuple vs)):=by
 unfold results
 congr 1
theorem aA0 (hΘ:∀ t ti,Θ t=some ti→rE P t ti) (h:Rel w0 M T γ st a w) {r:ResultVar} {v:SV} (hf:auu Θ st r=some v):
 ∃ u,(Ym a.tmps r).run P w= .ok u w∧gy (aC w0 T γ st w) v u:=by
 cases r with
 |tmp t=>
  simp only [auu] at hf
  split at hf
  · next e=>
    cases hf
    have:=h.tmps t
    rw [e] at this
    exact ⟨_,rfl,this⟩
  · cases hf
 |cell x t=>
  simp only [auu] at hf
  split at hf
  · next ti o off ht hx=>
    split at hf
    · next cs ho=>
      have hv:=h.tmps x
      rw [hx] at hv
      obtain ⟨b,cs',_,_,hv'⟩:=hv
      obtain ⟨u,hu,hr⟩:=ac6 hΘ h ht (x:= .tmp x) (.inl ⟨o,off,cs,hx,ho,hf⟩)
      refine ⟨u,?_,hr⟩
      rw [Ym,← aGk _ t b off hv']
      exact hu
    · cases hf
  · cases hf
theorem abD (hΘ:∀ t ti,Θ t=some ti→rE P t ti) (h:Rel w0 M T γ st a w):∀ (rs:List ResultVar) (vs:List SV),abC Θ st rs=some vs→
 ∃ us,(rs.mapM (Ym a.tmps)).run P w= .ok us w∧
   gB (aC w0 T γ st w) vs us
 |[],vs,hf=>by cases hf;exact ⟨[],rfl,trivial⟩
 |r::rs,vs,hf=>by
  rw [abC] at hf
  split at hf
  · next v vs' h1 h2=>
    cases hf
    obtain ⟨u,hu,hr⟩:=aA0 hΘ h h1
    obtain ⟨us,hus,hrs⟩:=abD hΘ h rs vs' h2
    refine ⟨u::us,?_,hr,hrs⟩
    rw [List.mapM_cons,Sem.run_bind,hu]
    simp only [Result.andThen_ok,Sem.run_bind,hus,Sem.run_pure]
  · cases hf
theorem gB.length {X:V}:∀ (cs:List SV) (vs:List Value),gB X cs vs→vs.length=cs.length
 |[],[],_=>rfl
 |_::cs,_::vs,⟨_,h⟩=>by simp [gB.length cs vs h]
 |[],_::_,H|_::_,[],H=>by cases H
theorem gB.get {X:V}:∀ (cs:List SV) (vs:List Value) (i:Nat) (c:SV),gB X cs vs→cs[i]? =some c→∃ v,vs[i]? =some v∧gy X c v
 |[],_,_,_,_,h=>by simp at h
 |c::cs,v::vs,0,d,⟨h1,_⟩,h=>by simp at h;subst h;exact ⟨v,rfl,h1⟩
 |c::cs,v::vs,i+1,d,⟨_,h2⟩,h=>by
  obtain ⟨u,hu,hr⟩:=gB.get cs vs i d h2 (by simpa using h)
  exact ⟨u,by simpa using hu,hr⟩
 |_::_,[],_,_,H,_=>by cases H
theorem wX.length {X:V}:∀ (cs:List Arg) (vs:List Value),wX X cs vs→vs.length=cs.length
 |[],[],_=>rfl
 |_::cs,_::vs,⟨_,h⟩=>by simp [wX.length cs vs h]
 |[],_::_,H|_::_,[],H=>by cases H
theorem wX.get {X:V}:∀ (cs:List Arg) (vs:List Value) (i:Nat) (c:Arg),wX X cs vs→cs[i]? =some c→∃ v,vs[i]? =some v∧zn X c v
 |[],_,_,_,_,h=>by simp at h
 |c::cs,v::vs,0,d,⟨h1,_⟩,h=>by simp at h;subst h;exact ⟨v,rfl,h1⟩
 |c::cs,v::vs,i+1,d,⟨_,h2⟩,h=>by
  obtain ⟨u,hu,hr⟩:=wX.get cs vs i d h2 (by simpa using h)
  exact ⟨u,by simpa using hu,hr⟩
 |_::_,[],_,_,H,_=>by cases H
theorem zn.av {X:V}:∀ (c:Arg) (v:Value),zn X c v→bW X c.av v
 | .sv _,_,h| .kp _,_,h| .fn _ _,_,h=>h
 | .own _ _ _,_,h| .ptr _,_,h=>h.elim
theorem aEo {args:List Arg} {vs:Array Value} {S:Nat→Prop} (n:Nat) (hn:args.length≤n)
 (h:wX ⟨w,w.heap.size,S,fun _=>undef,fun _=>none⟩ args vs.toList):
 Rel w (fun _=>False) ⟨S,fun _=>none,fun _ _ h=>by cases h⟩ (fun _=>undef) (entry n args) {tmps:=vs++Array.replicate (n-vs.size) undef,defers:=[]} w:=by
 have hl:vs.size=args.length:=by simpa using wX.length _ _ h
 refine ⟨fun _ h=>h.elim,rfl,?_,rfl,rfl,rfl,Nat.le_refl _,fun _ _ _=>rfl,fun t=>?_,(fun o x hx=>by cases hx),(fun o x b hx=>by cases hx),(fun o x p y b hx=>by cases hx),(fun o v cs hN=>by cases hN)⟩
 · simp [entry];omega
 · simp only [entry]
   cases ha:args[t]? with
   |none=>trivial
   |some v=>
    obtain ⟨u,hu,hr⟩:=wX.get _ _ t v h ha
    have:(vs++Array.replicate (n-vs.size) undef).getD t undef=u:=by
     have hlt:t<args.length:=by
      rcases Nat.lt_or_ge t args.length with h'|h'
      · exact h'
      · rw [List.getElem?_eq_none h'] at ha;cases ha
     have hlt':t<vs.size:=by omega
     rw [Array.getD_eq_getD_getElem?,Array.getElem?_append_left hlt']
     have:vs[t]? =some u:=by simpa using hu
     rw [this];rfl
    rw [this]
    exact zn.av v u hr
end Go.Fw
namespace Go.Fw
def codeOf (fn:Func):Code:=match fn.body with|some c=>c|none=> .skip
def aAj:List (Nat×TI)→je
 |[],_=>none
 |(t,x)::r,i=>match Nat.beq i t with|true=>some x|false=>aAj r i
def aJ:List (Nat×aC3)→aK
 |[],_=>none
 |(t,x)::r,i=>match Nat.beq i t with|true=>some x|false=>aJ r i
def aDq:List (Nat×Xn)→Nat→Option Xn
 |[],_=>none
 |(t,x)::r,i=>match Nat.beq i t with|true=>some x|false=>aDq r i
def aF1:List (Nat×List Pre)→Nat→List Pre
 |[],_=>[]
 |(n,z)::r,i=>match Nat.beq i n with|true=>z|false=>aF1 r i
def hints (own:List Nat) (l c:List (Nat×Xn)) (u:List Nat) (z:List (Nat×List Pre)):Hints:=⟨bJ own,aDq l,aDq c,u,aF1 z⟩
end Go.Fw
namespace Go.Fw
open Go
variable {P:Program} {Θ:je} {Γ:aK}
inductive dP where
 |one (c:jW)
 |agg (l:List jW)
@[reducible] def dP.den:dP→Type
  | .one c=>c.den
  | .agg l=>xq l
def dP.val:(s:dP)→s.den→SV
 | .one c,x=> .one (c.cell x)
 | .agg l,x=> .agg (jR l x)
def dP.read:(s:dP)→SV→Option s.den
 | .one c, .one x=>c.read x
 | .agg l, .agg xs=>oq l xs
 |_,_=>none
theorem dP.weak {X:V} (s:dP) (x:SV) (d:s.den) (v:Value) (hr:s.read x=some d) (hv:gy X x v):gy X (s.val d) v:=by
 unfold dP.read at hr
 split at hr
 · exact jW.weak _ _ _ _ hr hv
 · obtain ⟨vs,e,h⟩:=hv
   exact ⟨vs,e,QV _ _ _ _ hr h⟩
 · cases hr
@[reducible] def bG:List dP→Type
  |[]=>Unit
  |s::r=>s.den×bG r
def AU:(l:List dP)→bG l→List SV
 |[],_=>[]
 |s::r,x=>s.val x.1::AU r x.2
def aeX:(l:List dP)→List SV→Option (bG l)
 |[],[]=>some ()
 |s::r,x::xs=>match s.read x,aeX r xs with
  |some a,some b=>some (a,b)
  |_,_=>none
 |_,_=>none
theorem aEp {X:V}:∀ (l:List dP) (xs:List SV) (d:bG l) (vs:List Value),aeX l xs=some d→gB X xs vs→gB X (AU l d) vs
 |[],[],_,_,_,hv=>hv
 |s::r,x::xs,d,vs,hr,hv=>by
  rw [aeX] at hr
  split at hr
  · next a b h1 h2=>
    cases hr
    cases vs with
    |nil=>cases hv
    |cons v vs=>exact ⟨dP.weak s x a v h1 hv.1,aEp r xs b vs h2 hv.2⟩
  · cases hr
 |[],_::_,_,_,hr,_=>by simp [aeX] at hr
 |_::_,[],_,_,hr,_=>by simp [aeX] at hr
mutual
def CT.CU:(c:CT)→c.den→Prop
 | .int k,(n:Int)=>k.min≤n∧n≤k.max
 | .bool,_=>True
 | .str,(s:Bytes)=>s.length≤maxLen
 | .sl _ r,(l:List r.den)=>l.length≤maxLen∧∀ x∈l,r.CU x
def aP.CU:(r:aP)→r.den→Prop
 | .nil,_=>True
 | .cons c r,x=>c.CU x.1∧r.CU x.2
end
mutual
theorem lM.CU {h:Array Obj} {S:Nat→Prop}:∀ (c:CT) (v:Value) (x:c.den),lM h S c v x→c.CU x
 | .int k,v,(n:Int),H=>by rw [lM] at H;rw [CT.CU];exact H.2
 | .bool,v,(b:Bool),H=>by rw [CT.CU];trivial
 | .str,v,(s:Bytes),H=>by rw [lM] at H;rw [CT.CU];exact H.2
 | .sl e r,v,(l:List r.den),H=>by
   rw [lM] at H
   rw [CT.CU]
   refine ⟨H.1,fun x hx=>?_⟩
   obtain ⟨i,hi,rfl⟩:=List.mem_iff_getElem.1 hx
   rcases H.2 with ⟨hnil,_⟩|⟨b,off,cap,cs,t,fz,_,_,_,_,hr⟩
   · subst hnil;simp at hi
   · exact dh.CU r _ _ (hr i _ (List.getElem?_eq_getElem hi))
theorem dh.CU {h:Array Obj} {S:Nat→Prop}:∀ (r:aP) (vs:List Value) (x:r.den),dh h S r vs x→r.CU x
 | .nil,vs,_,H=>by rw [aP.CU];trivial
 | .cons c r,vs,(x,y),H=>by
   rw [dh] at H
   obtain ⟨v,vs',_,h1,h2⟩:=H
   rw [aP.CU]
   exact ⟨lM.CU c v x h1,dh.CU r vs' y h2⟩
end
def jW.CU:(c:jW)→c.den→Prop
 | .int k,(n:Int)=>k.min≤n∧n≤k.max
 | .str,(s:Bytes)=>s.length≤maxLen
 | .sl _ r _,(l:List r.den)=>l.length≤maxLen∧∀ x∈l,r.CU x
 |_,_=>True
def anV:(l:List jW)→xq l→Prop
 |[],_=>True
 |c::r,x=>c.CU x.1∧anV r x.2
def dP.CU:(s:dP)→s.den→Prop
 | .one c,x=>c.CU x
 | .agg l,x=>anV l x
theorem jW.anW {X:V} (c:jW) (x:c.den) (v:Value) (h:bQ X (c.cell x) v):c.CU x:=by
 cases c with
 |int k=>exact h.2
 |str=>exact h.2
 |sl e r fr=>
  have h':lM X.w.heap (X.eU fr) (.sl e r) v x:=h
  have:=lM.CU (.sl e r) v x h'
  rw [CT.CU] at this
  exact this
 |_=>trivial
theorem Yn {X:V}:∀ (l:List jW) (x:xq l) (vs:List Value),ay X (jR l x) vs→anV l x
 |[],_,_,_=>trivial
 |c::r,x,v::vs,h=>⟨jW.anW c x.1 v h.1,Yn r x.2 vs h.2⟩
 |_::_,_,[],h=>by cases h
inductive dw where
 |v (s:dP)
 |kp (l:List jW)
 |fn (f:FuncId) (l:List (List jW))
@[reducible] def dw.den:dw→Type
  | .v s=>s.den
  | .kp l=>xq l
  | .fn _ l=>TP l
def dw.val:(s:dw)→s.den→Arg
 | .v s,x=> .sv (s.val x)
 | .kp l,x=> .kp (jR l x)
 | .fn f l,x=> .fn f (Yk l x)
def dw.read:(s:dw)→Arg→Option s.den
 | .v s, .sv x=>s.read x
 | .kp l, .kp xs=>oq l xs
 | .fn f l, .fn g xs=>match Nat.beq f g with|true=>Sr l xs|false=>none
 |_,_=>none
theorem dw.weak {X:V} (s:dw) (x:Arg) (d:s.den) (v:Value) (hr:s.read x=some d) (hv:zn X x v):zn X (s.val d) v:=by
 unfold dw.read at hr
 split at hr
 · exact dP.weak _ _ _ _ hr hv
 · obtain ⟨b,e,hk⟩:=hv
   exact ⟨b,e,ay7 hr hk⟩
 · split at hr
   · next hb=>
     obtain ⟨us,e,hk⟩:=hv
     rw [dw.val,Nat.eq_of_beq_eq_true hb]
     exact ⟨us,e,alp _ _ _ _ hr hk⟩
   · cases hr
 · cases hr
@[reducible] def bn:List dw→Type
  |[]=>Unit
  |s::r=>s.den×bn r
def Hz:(l:List dw)→bn l→List Arg
 |[],_=>[]
 |s::r,x=>s.val x.1::Hz r x.2
def Vg:(l:List dw)→List Arg→Option (bn l)
 |[],[]=>some ()
 |s::r,x::xs=>match s.read x,Vg r xs with
  |some a,some b=>some (a,b)
  |_,_=>none
 |_,_=>none
theorem aEq {X:V}:∀ (l:List dw) (xs:List Arg) (d:bn l) (vs:List Value),Vg l xs=some d→wX X xs vs→wX X (Hz l d) vs
 |[],[],_,_,_,hv=>hv
 |s::r,x::xs,d,vs,hr,hv=>by
  rw [Vg] at hr
  split at hr
  · next a b h1 h2=>
    cases hr
    cases vs with
    |nil=>cases hv
    |cons v vs=>exact ⟨dw.weak s x a v h1 hv.1,aEq r xs b vs h2 hv.2⟩
  · cases hr
 |[],_::_,_,_,hr,_=>by simp [Vg] at hr
 |_::_,[],_,_,hr,_=>by simp [Vg] at hr
theorem aic:∀ (l:List dw) (d:bn l),(Hz l d).length=l.length
 |[],_=>rfl
 |_::r,d=>by simp [Hz,aic r d.2]
def axG:(l:List (List jW))→TP l→Prop
 |[],_=>True
 |c::r,x=>anV c x.1∧axG r x.2
def dw.CU:(s:dw)→s.den→Prop
 | .v s,x=>s.CU x
 | .kp l,x=>anV l x
 | .fn _ l,x=>axG l x
def bP:(l:List dw)→bn l→Prop
 |[],_=>True
 |s::r,x=>s.CU x.1∧bP r x.2
theorem ap8 {X:V}:∀ (l:List (List jW)) (x:TP l) (us:List Value),iI X (Yk l x) us→axG l x
 |[],_,_,_=>trivial
 |c::r,x,u::us,h=>by
  obtain ⟨⟨b,hu,arr,t,fz,hf,hh,hc⟩,h2⟩:=h
  exact ⟨Yn c x.1 _ hc,ap8 r x.2 us h2⟩
 |_::_,_,[],h=>by cases h
theorem OH {X:V}:∀ (l:List dw) (x:bn l) (vs:List Value),wX X (Hz l x) vs→bP l x
 |[],_,_,_=>trivial
 | .v (.one c)::r,x,v::vs,h=>⟨jW.anW c x.1 v h.1,OH r x.2 vs h.2⟩
 | .v (.agg l)::r,x,v::vs,h=>by
   obtain ⟨ws,hv,hc⟩:=h.1
   exact ⟨Yn l x.1 _ hc,OH r x.2 vs h.2⟩
 | .kp l::r,x,v::vs,h=>by
   obtain ⟨b,hu,arr,t,fz,hf,hh,hc⟩:=h.1
   exact ⟨Yn l x.1 _ hc,OH r x.2 vs h.2⟩
 | .fn f l::r,x,v::vs,h=>by
   obtain ⟨us,hv,hk⟩:=h.1
   exact ⟨ap8 l x.1 _ hk,OH r x.2 vs h.2⟩
 |_::_,_,[],h=>by cases h
def aad (sh:List dw) (F:bn sh→Prop×Out):fB:=fun args=>
 match Vg sh args with
 |some x=>some (F x)
 |none=>none
end Go.Fw
namespace Go.Fw
open Go
variable {P:Program} {Θ:je} {Γ:aK}
def LC:List SV→List (Bool×List iQ)
 |[]=>[]
 |v::vs=>outOf v::LC vs
theorem aeY:∀ (k:Nat) (vs:List SV),kF k (LC vs)=(vs,[])
 |_,[]=>rfl
 |k,v::vs=>by simp only [LC,kF,aB0,aeY,List.append_nil]
def aAk (Θ:je) (rv:List ResultVar) (gG:List dP) (K:bG gG→Prop) (e:Exit) (st:St):Prop:=
 match e with
 | .normal| .ret=>match abC Θ (st.freeze (adf st)) rv with
   |some vs=>match aeX gG (vs.map (SV.kill fun _=>true)) with
    |some d=>K d
    |none=>False
   |none=>False
 |_=>False
theorem aGl {G:qU} (hE:EnvB P G Θ Γ) (hm:P.follows .mixedOrders=true) {f:FuncId} {fn:Func} {c:Code} (hf:P.funcs[f]? =some fn) (hb:fn.body=some c) (H:Hints) {con:fB} {gG:List dP}
 (hwalk:∀ args p out,con args=some (p,out)→p→Nat.ble args.length fn.ntmps=true∧∃ d:bG gG,out=⟨LC (AU gG d),none⟩∧ZG Θ Γ H c (aAk Θ fn.results.toList gG fun y=>y=d) (entry fn.ntmps args)):aA P G f con:=by
 intro args p out k S vs w hcon hp hG hrep
 obtain ⟨hn,d,hout,hw⟩:=hwalk args p out hcon hp
 subst hout
 have hn':args.length≤fn.ntmps:=by simpa [Nat.ble_eq] using hn
 refine calls_of_wp hf hb (als ⟨hE,hG,fun b hb=>hb.elim⟩ hm H c _ _ _ _ _ _ (aEo (S:=S) fn.ntmps hn' hrep) hw ?_)
 have hret:∀ s γ' a' w',aAk Θ fn.results.toList gG (fun y=>y=d) .ret s→Rel w (fun _=>False) ⟨S,fun _=>none,fun _ _ h=>by cases h⟩ γ' s a' w'→bodyPost P fn (fun e w'=>∃ v vals,e= .returned v∧w'.os=w.os∧w'.tape=w.tape∧w'.output=w.output∧w.heap.size≤w'.heap.size∧
  (∀ b,b<w.heap.size→w'.heap[b]? =w.heap[b]?)∧
  bW ⟨w',w.heap.size,S,vals,look (Out.take k ⟨LC (AU gG d),none⟩).2⟩ (Out.take k ⟨LC (AU gG d),none⟩).1 v∧
  (∀ o x,look (Out.take k ⟨LC (AU gG d),none⟩).2 o=some x→dG ⟨w',w.heap.size,S,vals,look (Out.take k ⟨LC (AU gG d),none⟩).2⟩ o x∧∀ b,blk (vals o)=some b→w.heap.size≤b∧b<w'.heap.size)∧
  (∀ o x q y b,look (Out.take k ⟨LC (AU gG d),none⟩).2 o=some x→look (Out.take k ⟨LC (AU gG d),none⟩).2 q=some y→o≠q→blk (vals o)=some b→blk (vals q)≠some b)) .ret a' w':=by
  intro s γ' a' w' he hR
  refine ⟨hR.defers,?_⟩
  simp only [aAk] at he
  split at he
  · next svs hvs=>
    split at he
    · next y hy=>
      subst he
      have hRf:=hR.freeze (adf s)
      obtain ⟨us,hus,hrs⟩:=abD hE.types hRf _ _ hvs
      have hk0:=gB.kill (fun _=>true) hRf svs us hrs
      have hk:=aEp gG _ y us hy hk0
      have htake:Out.take k ⟨LC (AU gG y),none⟩=(match AU gG y with|[v]=> .sv v|l=> .uf l,[]):=by
       unfold Out.take
       simp only [aeY]
       rcases AU gG y with _|⟨v,_|⟨v2,r⟩⟩<;>rfl
      have hmap:(fn.results.mapM (Ym a'.tmps)).run P w'= .ok us.toArray w':=by
       rw [Array.mapM_eq_mapM_toList,Sem.run_map,hus]
       rfl
      refine ⟨if h:us.toArray.size=1 then us.toArray[0] else .tuple us.toArray,?_,_,γ',rfl,hR.os,hR.tape,hR.output,hR.grow,fun b hb=>hR.kept b hb (fun h=>h),?_,?_,?_⟩
      · rw [agv,Sem.run_bind,hmap]
        simp only [Result.andThen_ok,Sem.run_pure]
      · rw [htake]
        have hl:=gB.length _ _ hk
        match hm:AU gG y,us,hk,hl with
        |[v],[u],hk,_=>exact hk.1
        |[],[],hk,_=>exact ⟨_,by simp,hk⟩
        |v::v2::r,u::u2::us,hk,hl=>exact ⟨_,by simp,hk⟩
        |[],_::_,hk,h4|_::_,[],hk,h4|[_],_::_::_,hk,h4|_::_::_,[_],hk,h4=>simp at h4
      · intro o x hx;rw [htake] at hx;cases hx
      · intro o x q y b hx;rw [htake] at hx;cases hx
    · exact he.elim
  · exact he.elim
 intro e s γ' a' w' he hR
 cases e with
 |normal=>exact hret s γ' a' w' he hR
 |ret=>exact hret s γ' a' w' he hR
 |_=>exact he.elim
def dm (sh:List dw) (gG:List dP) (F:bn sh→Prop×bG gG):fB:=aad sh fun x=>((F x).1,⟨LC (AU gG (F x).2),none⟩)
theorem aU {G:qU} (hE:EnvB P G Θ Γ) (hm:P.follows .mixedOrders=true) {f:FuncId} {fn:Func} {c:Code} (hf:P.funcs[f]? =some fn) (hb:fn.body=some c) (H:Hints)
 {sh:List dw} {gG:List dP} {F:bn sh→Prop×bG gG} (hn:Nat.ble sh.length fn.ntmps=true)
 (hwalk:∀ x,bP sh x→(F x).1→ZG Θ Γ H c (aAk Θ fn.results.toList gG fun y=>y=(F x).2) (entry fn.ntmps (Hz sh x))):aA P G f (dm sh gG F):=by
 have base:∀ x,bP sh x→aA P G f (fun args=>@ite _ (args=Hz sh x) (Classical.propDecidable _) (some ((F x).1,⟨LC (AU gG (F x).2),none⟩)) none):=by
  intro x hin
  refine aGl (gG:=gG) hE hm hf hb H ?_
  intro args p out hcon hp
  split at hcon
  · next e=>
    have hF:((F x).1,(⟨LC (AU gG (F x).2),none⟩:Out))=(p,out):=by simpa using hcon
    have h1:(F x).1=p:=congrArg Prod.fst hF
    have h2:(⟨LC (AU gG (F x).2),none⟩:Out)=out:=congrArg Prod.snd hF
    have:=hwalk x hin (by rw [h1];exact hp)
    rw [e]
    exact ⟨by rw [aic];exact hn,(F x).2,h2.symm,this⟩
  · cases hcon
 intro args p out k S vs w hcon hp hG hrep
 unfold dm aad at hcon
 split at hcon
 · next x hx=>
   have hv:=aEq sh args x vs.toList hx hrep
   exact base x (OH sh x _ hv) (Hz sh x) p out k S vs w (by simp only [if_true];exact hcon) hp hG hv
 · cases hcon
end Go.Fw
namespace Go.Fw
open Go
variable {P:Program} {Θ:je} {Γ:aK}
inductive RC where
 |c (s:jW)
 |own (e:TypeId) (r:aP) (fr:Bool)
@[reducible] def RC.den:RC→Type
  | .c s=>s.den
  | .own _ r _=>List r.den
@[reducible] def auv:List RC→Type
  |[]=>Unit
  |c::r=>c.den×auv r
def RC.aDr:(c:RC)→c.den→iQ
 | .c s,x=> .plain (s.cell x)
 | .own e r fr,l=> .own e r l fr
def axH:(l:List RC)→auv l→List iQ
 |[],_=>[]
 |c::r,x=>c.aDr x.1::axH r x.2
inductive fG where
 |one (c:RC)
 |agg (l:List RC)
@[reducible] def fG.den:fG→Type
  | .one c=>c.den
  | .agg l=>auv l
@[reducible] def cu:List fG→Type
  |[]=>Unit
  |s::r=>s.den×cu r
def fG.out:(s:fG)→s.den→Bool×List iQ
 | .one c,x=>(false,[c.aDr x])
 | .agg l,x=>(true,axH l x)
def kK:(l:List fG)→cu l→List (Bool×List iQ)
 |[],_=>[]
 |s::r,x=>s.out x.1::kK r x.2
def RC.name:RC→Cell→Option Nat
 | .own _ _ _, .ref o=>some o
 |_,_=>none
def axI:List RC→List Cell→List (Option Nat)
 |c::r,x::xs=>c.name x::axI r xs
 |_,_=>[]
def fG.names:fG→SV→List (Option Nat)
 | .one c, .one x=>[c.name x]
 | .agg l, .agg xs=>axI l xs
 |_,_=>[]
def MV:List fG→List SV→List (Option Nat)
 |s::r,x::xs=>s.names x++MV r xs
 |_,_=>[]
def RC.read (st:St):(c:RC)→Cell→Option c.den
 | .c s,x=>match x.refs with|[]=>s.read x|_=>none
 | .own e r fr, .ref o=>match st.aj o with
   |some (.arr f s l g)=>match Nat.beq e f&&abB fr g with
    |true=>if h:s.beq r=true then some (EO h l) else none
    |false=>none
   |_=>none
 | .own _ r _, .nil=>match Nat.ble 1 r.len with|true=>some []|false=>none
 |_,_=>none
def aeZ (st:St):(l:List RC)→List Cell→Option (auv l)
 |[],[]=>some ()
 |c::r,x::xs=>match c.read st x,aeZ st r xs with
  |some a,some b=>some (a,b)
  |_,_=>none
 |_,_=>none
def fG.read (st:St):(s:fG)→SV→Option s.den
 | .one c, .one x=>c.read st x
 | .agg l, .agg xs=>aeZ st l xs
 |_,_=>none
def OI (st:St):(l:List fG)→List SV→Option (cu l)
 |[],[]=>some ()
 |s::r,x::xs=>match s.read st x,OI st r xs with
  |some a,some b=>some (a,b)
  |_,_=>none
 |_,_=>none
inductive dO where
 |p (s:dw)
 |own (e:TypeId) (r:aP)
 |ptr (l:List jW)
@[reducible] def dO.den:dO→Type
  | .p s=>s.den
  | .own _ r=>List r.den
  | .ptr l=>xq l
def dO.mode:dO→Mode
 | .p _=> .val
 | .own _ _=> .own
 | .ptr _=> .ptr
def dO.val:(s:dO)→s.den→Arg
 | .p s,x=>s.val x
 | .own e r,l=> .own e r l
 | .ptr l,x=> .ptr (jR l x)
def dO.read:(s:dO)→Arg→Option s.den
 | .p s,x=>s.read x
 | .own e r, .own f s l=>match Nat.beq e f with
   |true=>if h:s.beq r=true then some (EO h l) else none
   |false=>none
 | .ptr l, .ptr cs=>oq l cs
 |_,_=>none
@[reducible] def bV:List dO→Type
  |[]=>Unit
  |s::r=>s.den×bV r
def HY:(l:List dO)→bV l→List Arg
 |[],_=>[]
 |s::r,x=>s.val x.1::HY r x.2
def kL:(l:List dO)→List Arg→Option (bV l)
 |[],[]=>some ()
 |s::r,x::xs=>match s.read x,kL r xs with
  |some a,some b=>some (a,b)
  |_,_=>none
 |_,_=>none
@[reducible] def bZ:List dO→Type
  |[]=>Unit
  | .ptr l::r=>xq l×bZ r
  | .p _::r| .own _ _::r=>bZ r
def ou:(l:List dO)→bZ l→List Eff
 |[],_=>[]
 | .ptr l::r,x=> .var (jR l x.1)::ou r x.2
 | .p _::r,x| .own _ _::r,x=> .lose::ou r x
def Yo (st:St):(i:Nat)→(l:List dO)→Option (bZ l)
 |_,[]=>some ()
 |i, .ptr l::r=>match st.aj (i*64+48),Yo st (i+1) r with
  |some (.var cs),some b=>match cs.flatMap Cell.refs,oq l cs with
   |[],some a=>some (a,b)
   |_,_=>none
  |_,_=>none
 |i, .p _::r|i, .own _ _::r=>Yo st (i+1) r
def Arg.avX (i:Nat):Arg→AV
 | .own _ _ _=> .sv (.one (.ref (i*64+49)))
 | .ptr _=> .fE (i*64+48) 0
 |a=>a.av
def Yp (n:Nat) (args:List Arg):St:=
 {n:=n,tmps:=fun t=>match args[t]? with|some v=>v.avX t|none=> .undef,aj:=fF args}
def auw (st:St) (W:List (Option Nat)) (o:Nat):Bool:=adf st o&&!(ak6 o W)
def aDs (Θ:je) (rv:List ResultVar) (sh:List dO) (gG:List fG) (K:cu gG×bZ sh→Prop) (e:Exit) (st:St):Prop:=
 match e with
 | .normal| .ret=>match abC Θ st rv with
   |some svs=>match abC Θ (st.freeze (auw st (MV gG svs))) rv with
    |some vs=>match JJ (MV gG vs),OI (st.freeze (auw st (MV gG svs))) gG vs,Yo (st.freeze (auw st (MV gG svs))) 0 sh with
     |true,some d,some b=>K (d,b)
     |_,_,_=>False
    |none=>False
   |none=>False
 |_=>False
def dM (sh:List dO) (gG:List fG) (F:bV sh→Prop×(cu gG×bZ sh→Prop)):eF:=fun args=>
 match kL sh args with
 |some x=>some ((F x).1,⟨cu gG×bZ sh,(F x).2,fun t=>⟨kK gG t.1,none⟩,fun t=>ou sh t.2⟩)
 |none=>none
def ax (sh:List dO):List Mode:=sh.map dO.mode
end Go.Fw
namespace Go.Fw
open Go
variable {P:Program} {w0:World} {M:Nat→Prop} {T:Ext} {γ γ':Nat→Value} {st:St} {a:Act} {w w':World} {Θ:je} {Γ:aK}
def axJ (args:List Arg) (γ:Nat→Value) (o:Nat):Option Value:=match fF args o with|some (.var _)=>some (γ o)|_=>none
theorem aFj {args:List Arg} {o:Nat} {cs:List Cell} (h:fF args o=some (.var cs)):o%64=48:=by
 unfold fF at h
 split at h
 · split at h<;>cases h
 · split at h
   · next hm=>exact Nat.eq_of_beq_eq_true hm
   · cases h
 · cases h
def alu (args:List Arg) (γ:Nat→Value) (S:Nat→Prop):Ext where
 S:=fun b=>S b∨Fv (fF args) γ b
 N:=axJ args γ
 n48:=by
  intro p v h
  unfold axJ at h
  split at h
  · next cs hc=>exact aFj hc
  · cases h
theorem Hy.get {X:V}:∀ (as:List Arg) (vs:List Value) (i:Nat),Hy X i as vs→as.length=vs.length∧∀ (j:Nat) (b:Arg),as[j]? =some b→∃ v,vs[j]? =some v∧abv X (i+j) b v
 |[],[],_,_=>⟨rfl,fun j b h=>by simp at h⟩
 |x::as,v::vs,i,⟨h1,h2⟩=>by
  obtain ⟨g1,g2⟩:=Hy.get as vs (i+1) h2
  refine ⟨by simp [g1],fun j b hb=>?_⟩
  cases j with
  |zero=>simp at hb;subst hb;exact ⟨v,rfl,h1⟩
  |succ j=>
   obtain ⟨u,hu,hr⟩:=g2 j b (by simpa using hb)
   exact ⟨u,by simpa using hu,by rw [show i+(j+1)=i+1+j by omega];exact hr⟩
 |[],_::_,_,H|_::_,[],_,H=>by cases H
theorem abv.av {X:V} (i:Nat):∀ (c:Arg) (v:Value),abv X i c v→bW X (c.avX i) v
 | .own _ _ _,_,h=>h
 | .ptr _,_,h=>h
 | .sv _,_,h| .kp _,_,h| .fn _ _,_,h=>h
theorem auy {args:List Arg} {vs:Array Value} {S:Nat→Prop} (n:Nat) (hn:args.length≤n)
 (h:Hy ⟨w,w.heap.size,S,γ,fF args⟩ 0 args vs.toList)
 (ho:∀ o x,fF args o=some x→dG ⟨w,w.heap.size,S,γ,fF args⟩ o x∧∀ b,blk (γ o)=some b→b<w.heap.size)
 (hs:∀ o x q y b,fF args o=some x→fF args q=some y→o≠q→blk (γ o)=some b→blk (γ q)≠some b):
 Rel w (Fv (fF args) γ) (alu args γ S) γ (Yp n args) {tmps:=vs++Array.replicate (n-vs.size) undef,defers:=[]} w:=by
 obtain ⟨hl0,hget⟩:=Hy.get _ _ 0 h
 have hl:vs.size=args.length:=by simpa using hl0.symm
 have le:V.le ⟨w,w.heap.size,S,γ,fF args⟩ ⟨w,w.heap.size,(alu args γ S).S,γ,fF args⟩:=
  ⟨Nat.le_refl _,fun b hb=>⟨⟨hb.1,fun hlt=> .inl (hb.2.1 hlt),hb.2.2⟩,rfl⟩,fun o cs hx=>⟨⟨cs,hx⟩,rfl⟩,fun o e r l fr hx=>⟨⟨l,fr,hx⟩,rfl⟩⟩
 refine ⟨fun b hb=> .inr hb,rfl,?_,rfl,rfl,rfl,Nat.le_refl _,fun _ _ _=>rfl,fun t=>?_,fun o x hx=>dG.mono le o x (fun _ _=>rfl) rfl (ho o x hx).1,fun o x b hx hb=>⟨(ho o x hx).2 b hb, .inr ⟨o,x,hx,hb⟩⟩,fun o x p y b hx hy hop hb=>hs o x p y b hx hy hop hb,fun o v cs hN hx=>?_⟩
 · simp [Yp];omega
 · simp only [Yp]
   cases ha:args[t]? with
   |none=>trivial
   |some v=>
    obtain ⟨u,hu,hr⟩:=hget t v ha
    have:(vs++Array.replicate (n-vs.size) undef).getD t undef=u:=by
     have hlt:t<args.length:=by
      rcases Nat.lt_or_ge t args.length with h'|h'
      · exact h'
      · rw [List.getElem?_eq_none h'] at ha;cases ha
     have hlt':t<vs.size:=by omega
     rw [Array.getD_eq_getD_getElem?,Array.getElem?_append_left hlt']
     have:vs[t]? =some u:=by simpa using hu
     rw [this];rfl
    rw [this]
    rw [Nat.zero_add] at hr
    exact bW.mono le _ _ (abv.av t v u hr)
 · have hx':fF args o=some (.var cs):=hx
   have hN':axJ args γ o=some v:=hN
   unfold axJ at hN'
   rw [hx'] at hN'
   exact Option.some.inj hN'
def AW (a a':Arg):Prop:=
 (∃ e r l,a= .own e r l∧a'= .own e r l)∨(∃ cs cs',a= .ptr cs∧a'= .ptr cs'∧∀ (X:V) vs,ay X cs vs→ay X cs' vs)∨
 ((∀ (X:V) v,bW X a.av v→bW X a'.av v)∧(∀ i,a.avX i=a.av)∧(∀ i,a'.avX i=a'.av)∧(∀ e r l,a≠ .own e r l)∧(∀ cs,a≠ .ptr cs)∧(∀ e r l,a'≠ .own e r l)∧(∀ cs,a'≠ .ptr cs))
theorem dw.aDt {s:dw} {x:Arg} {d:s.den} (h:s.read x=some d):AW x (s.val d):=by
 refine .inr (.inr ⟨fun X v hv=>?_,?_⟩)
 · have hx:zn X x v:=by
    cases x with
    |sv _|kp _|fn _ _=>exact hv
    |own _ _ _|ptr _=>cases s<;>simp [dw.read] at h
   exact zn.av _ _ (dw.weak s x d v h hx)
 · cases x<;>cases s<;>first
    |(simp [dw.read] at h;done)
    |exact ⟨fun _=>rfl,fun _=>rfl,(fun _ _ _ e=>by cases e),(fun _ e=>by cases e),(fun _ _ _ e=>by cases e),(fun _ e=>by cases e)⟩
theorem dO.aDt {s:dO} {x:Arg} {d:s.den} (h:s.read x=some d):AW x (s.val d):=by
 unfold dO.read at h
 split at h
 · exact dw.aDt h
 · next e r f s l=>
   split at h
   · next hb=>
     split at h
     · next hs=>
       cases h
       have he:=Nat.eq_of_beq_eq_true hb
       subst he
       have hsr:=aP.eq_of_beq s r hs
       subst hsr
       exact .inl ⟨e,s,l,rfl,rfl⟩
     · cases h
   · cases h
 · next l cs=>exact .inr (.inl ⟨cs,_,rfl,rfl,fun X vs hc=>QV _ _ _ _ h hc⟩)
 · cases h
theorem aae:∀ {l:List dO} {xs:List Arg} {d:bV l},kL l xs=some d→(HY l d).length=xs.length∧∀ (i:Nat) (a:Arg),xs[i]? =some a→∃ a',(HY l d)[i]? =some a'∧AW a a'
 |[],[],_,_=>⟨rfl,fun i a h=>by simp at h⟩
 |s::r,x::xs,d,h=>by
  rw [kL] at h
  split at h
  · next a b h1 h2=>
    cases h
    obtain ⟨g1,g2⟩:=aae h2
    refine ⟨by simp [HY,g1],fun i c hc=>?_⟩
    cases i with
    |zero=>simp at hc;subst hc;exact ⟨_,rfl,dO.aDt h1⟩
    |succ i=>
     obtain ⟨c',k1,k2⟩:=g2 i c (by simpa using hc)
     exact ⟨c',by simpa [HY] using k1,k2⟩
  · cases h
 |[],_::_,_,h=>by simp [kL] at h
 |_::_,[],_,h=>by simp [kL] at h
theorem adh {args:List Arg} {o:Nat} (h:∀ b,args[o / 64]? =some b→(∀ e r l,b≠ .own e r l)∧∀ cs,b≠ .ptr cs):fF args o=none:=by
 unfold fF
 split
 · next e r l ha=>exact ((h _ ha).1 e r l rfl).elim
 · next cs ha=>exact ((h _ ha).2 cs rfl).elim
 · rfl
theorem aid {sh:List dO} {args:List Arg} {x:bV sh} (h:kL sh args=some x) (n:Nat):Covers (Yp n (HY sh x)) (Yp n args):=by
 obtain ⟨hl,hget⟩:=aae h
 refine ⟨rfl,fun t X v hv=>?_,fun o=>?_⟩
 · simp only [Yp] at hv ⊢
   cases ha:args[t]? with
   |none=>
    have:(HY sh x)[t]? =none:=by
     rw [List.getElem?_eq_none_iff] at ha ⊢;omega
    rw [this];trivial
   |some b=>
    obtain ⟨b',hb',hw⟩:=hget t b ha
    rw [ha] at hv
    rw [hb']
    dsimp only at hv ⊢
    rcases hw with ⟨e,r,l,rfl,rfl⟩|⟨cs,cs',rfl,rfl,_⟩|⟨hw,e1,e2,_⟩
    · exact hv
    · exact hv
    · rw [e1] at hv;rw [e2];exact hw X v hv
 · show (fF (HY sh x) o=none∧fF args o=none)∨∃ y y',fF args o=some y∧fF (HY sh x) o=some y'∧Xm y y'
   cases ha:args[o / 64]? with
   |none=>
    have h2:(HY sh x)[o / 64]? =none:=by
     rw [List.getElem?_eq_none_iff] at ha ⊢;omega
    exact .inl ⟨adh (by rw [h2];intro b hb;cases hb),adh (by rw [ha];intro b hb;cases hb)⟩
   |some b=>
    obtain ⟨b',hb',hw⟩:=hget _ b ha
    rcases hw with ⟨e,r,l,rfl,rfl⟩|⟨cs,cs',rfl,rfl,hc⟩|⟨_,_,_,n1,n2,n3,n4⟩
    · unfold fF
      rw [ha,hb']
      dsimp only
      cases hm:Nat.beq (o%64) 49 with
      |true=>exact .inr ⟨_,_,rfl,rfl, .inr ⟨e,r,l,false,false,rfl,rfl,id⟩⟩
      |false=>exact .inl ⟨rfl,rfl⟩
    · unfold fF
      rw [ha,hb']
      dsimp only
      cases hm:Nat.beq (o%64) 48 with
      |true=>exact .inr ⟨_,_,rfl,rfl, .inl ⟨cs,cs',rfl,rfl,hc⟩⟩
      |false=>exact .inl ⟨rfl,rfl⟩
    · exact .inl ⟨adh (by rw [hb'];intro c hc;cases hc;exact ⟨n3,n4⟩),adh (by rw [ha];intro c hc;cases hc;exact ⟨n1,n2⟩)⟩
theorem ap9 (a b:List (Nat×aS)) (p:Nat):look (a++b) p=match look b p with|some y=>some y|none=>look a p:=by
 induction a with
 |nil=>simp only [List.nil_append,look];cases look b p<;>rfl
 |cons x a ih=>
  obtain ⟨o,z⟩:=x
  rw [List.cons_append,look,ih,look]
  cases look b p<;>rfl
theorem EP:∀ (cs:List iQ) (k p:Nat) (x:aS),look (oh k cs).2 p=some x↔∃ i e r l fr,p=k+i∧cs[i]? =some (.own e r l fr)∧x= .arr e r l fr
 |[],k,p,x=>by simp [oh,look]
 |c::cs,k,p,x=>by
  rw [oh,ap9]
  have ih:=EP cs (k+1) p x
  constructor
  · intro h
    split at h
    · next y hy=>
      cases h
      obtain ⟨i,e,r,l,fr,h1,h2,h3⟩:=(EP cs (k+1) p x).1 hy
      exact ⟨i+1,e,r,l,fr,by omega,by simpa using h2,h3⟩
    · next hn=>
      cases c with
      |plain c=>simp [iQ.take,look] at h
      |own e r l fr=>
       simp only [iQ.take,look] at h
       split at h
       · next hb=>
         cases h
         exact ⟨0,e,r,l,fr,by have:=Nat.eq_of_beq_eq_true hb;omega,rfl,rfl⟩
       · cases h
  · rintro ⟨i,e,r,l,fr,h1,h2,rfl⟩
    cases i with
    |succ i=>
     have:=(EP cs (k+1) p (.arr e r l fr)).2 ⟨i,e,r,l,fr,by omega,by simpa using h2,rfl⟩
     rw [this]
    |zero=>
     simp at h2
     subst h2
     have hn:look (oh (k+1) cs).2 p=none:=by
      cases hl:look (oh (k+1) cs).2 p with
      |none=>rfl
      |some y=>
       obtain ⟨i,_,_,_,_,g1,_⟩:=(EP cs (k+1) p y).1 hl
       omega
     rw [hn]
     have hp:p=k:=by omega
     subst hp
     simp [iQ.take,look]
def aaf (rs:List (Bool×List iQ)):List iQ:=rs.flatMap (·.2)
theorem aB1 (k:Nat) (x:Bool×List iQ):(Gu k x).2=(oh k x.2).2:=by
 unfold Gu
 split
 · next e1 e2=>rw [e2]
 · next e1 e2=>rw [e2]
 · next e1 e2=>rw [e2]
theorem MG:∀ (rs:List (Bool×List iQ)) (k p:Nat) (x:aS),look (kF k rs).2 p=some x↔∃ i e r l fr,p=k+i∧(aaf rs)[i]? =some (.own e r l fr)∧x= .arr e r l fr
 |[],k,p,x=>by simp [kF,look,aaf]
 |y::rs,k,p,x=>by
  rw [kF,ap9,aB1]
  have aDu:aaf (y::rs)=y.2++aaf rs:=rfl
  constructor
  · intro h
    split at h
    · next z hz=>
      cases h
      obtain ⟨i,e,r,l,fr,h1,h2,h3⟩:=(MG rs (k+y.2.length) p x).1 hz
      refine ⟨y.2.length+i,e,r,l,fr,by omega,?_,h3⟩
      rw [aDu,List.getElem?_append_right (by omega)]
      simpa using h2
    · obtain ⟨i,e,r,l,fr,h1,h2,h3⟩:=(EP y.2 k p x).1 h
      refine ⟨i,e,r,l,fr,h1,?_,h3⟩
      rw [aDu,List.getElem?_append_left (List.getElem?_eq_some_iff.1 h2).1]
      exact h2
  · rintro ⟨i,e,r,l,fr,h1,h2,rfl⟩
    rw [aDu] at h2
    rcases Nat.lt_or_ge i y.2.length with hlt|hge
    · rw [List.getElem?_append_left hlt] at h2
      have hn:look (kF (k+y.2.length) rs).2 p=none:=by
       cases hl:look (kF (k+y.2.length) rs).2 p with
       |none=>rfl
       |some z=>
        obtain ⟨j,_,_,_,_,g1,_⟩:=(MG rs (k+y.2.length) p z).1 hl
        omega
      rw [hn]
      exact (EP y.2 k p _).2 ⟨i,e,r,l,fr,h1,h2,rfl⟩
    · rw [List.getElem?_append_right hge] at h2
      have:=(MG rs (k+y.2.length) p (.arr e r l fr)).2 ⟨i-y.2.length,e,r,l,fr,by omega,h2,rfl⟩
      rw [this]
end Go.Fw
namespace Go.Fw
open Go
set_option linter.unusedVariables false
variable {P:Program} {w0:World} {M:Nat→Prop} {T:Ext} {γ γ':Nat→Value} {st:St} {a:Act} {w w':World} {Θ:je} {Γ:aK}
def RF (Y:V) (c:iQ) (v:Value) (n:Option Nat):Prop:=
 match c with
 | .plain x=>bQ Y x v∧x.refs=[]
 | .own e r l fr=>0<r.len∧((∃ o g,n=some o∧Y.aj o=some (.arr e r l g)∧abB fr g=true∧v=Y.γ o∧v.oneCell'=true)∨(l=[]∧v= .slice none 0 0))
def QX (Y:V):List iQ→List Value→List (Option Nat)→Prop
 |[],[],[]=>True
 |c::cs,v::vs,n::ns=>RF Y c v n∧QX Y cs vs ns
 |_,_,_=>False
theorem QX.append {Y:V}:∀ (cs:List iQ) (vs:List Value) (ns:List (Option Nat)) (ds:List iQ) (us:List Value) (ms:List (Option Nat)),QX Y cs vs ns→QX Y ds us ms→QX Y (cs++ds) (vs++us) (ns++ms)
 |[],[],[],_,_,_,_,h=>h
 |_::cs,_::vs,_::ns,ds,us,ms,⟨h1,h2⟩,h=>⟨h1,QX.append cs vs ns ds us ms h2 h⟩
theorem QX.length {Y:V}:∀ (cs:List iQ) (vs:List Value) (ns:List (Option Nat)),QX Y cs vs ns→cs.length=vs.length
 |[],[],[],_=>rfl
 |_::cs,_::vs,_::ns,⟨_,h2⟩=>by simp [QX.length cs vs ns h2]
theorem QX.get {Y:V}:∀ (cs:List iQ) (vs:List Value) (ns:List (Option Nat)) (i:Nat) (c:iQ),QX Y cs vs ns→cs[i]? =some c→∃ v n,vs[i]? =some v∧ns[i]? =some n∧RF Y c v n
 |[],[],[],i,c,_,h=>by simp at h
 |x::cs,v::vs,n::ns,0,c,⟨h1,_⟩,h=>by simp at h;subst h;exact ⟨v,n,rfl,rfl,h1⟩
 |x::cs,v::vs,n::ns,i+1,c,⟨_,h2⟩,h=>by
  obtain ⟨u,m,g1,g2,g3⟩:=QX.get cs vs ns i c h2 (by simpa using h)
  exact ⟨u,m,by simpa using g1,by simpa using g2,g3⟩
theorem jW.aza (c:jW) (x:Cell) (d:c.den) (h:c.read x=some d) (hx:x.refs=[]):(c.cell d).refs=[]:=by
 cases c<;>cases x<;>first|rfl|(simp [jW.read] at h;done)|(cases hx)
theorem RC.aCx {Y:V} (hst:Y.aj=st.aj) (hpos:∀ o e r l g,st.aj o=some (.arr e r l g)→0<r.len):∀ (c:RC) (x:Cell) (d:c.den) (v:Value),c.read st x=some d→bQ Y x v→RF Y (c.aDr d) v (c.name x):=by
 intro c x d v hr hv
 cases c with
 |c s=>
  rw [RC.read] at hr
  split at hr
  · next hx=>exact ⟨jW.weak s x d v hr hv,jW.aza s x d hr hx⟩
  · cases hr
 |own e r fr=>
  cases x with
  |ref o=>
   simp only [RC.read] at hr
   split at hr
   · next f s l g ho=>
     split at hr
     · next hb=>
       split at hr
       · next hs=>
         cases hr
         rw [Bool.and_eq_true] at hb
         have he:=Nat.eq_of_beq_eq_true hb.1
         subst he
         have hsr:=aP.eq_of_beq s r hs
         subst hsr
         exact ⟨hpos _ _ _ _ _ ho, .inl ⟨o,g,rfl,by rw [hst];exact ho,hb.2,hv.2.1,hv.2.2⟩⟩
       · cases hr
     · cases hr
   · cases hr
  |nil=>
   simp only [RC.read] at hr
   split at hr
   · next hb=>
     cases hr
     exact ⟨Nat.lt_of_lt_of_le Nat.zero_lt_one (by simpa [Nat.ble_eq] using hb), .inr ⟨rfl,hv⟩⟩
   · cases hr
  |_=>simp [RC.read] at hr
theorem auz {Y:V} (hst:Y.aj=st.aj) (hpos:∀ o e r l g,st.aj o=some (.arr e r l g)→0<r.len):∀ (l:List RC) (xs:List Cell) (d:auv l) (vs:List Value),aeZ st l xs=some d→ay Y xs vs→QX Y (axH l d) vs (axI l xs)
 |[],[],_,[],_,_=>trivial
 |c::r,x::xs,d,v::vs,h,⟨h1,h2⟩=>by
  rw [aeZ] at h
  split at h
  · next a b g1 g2=>
    cases h
    exact ⟨RC.aCx hst hpos c x a v g1 h1,auz hst hpos r xs b vs g2 h2⟩
  · cases h
 |[],_::_,_,_,h,_=>by simp [aeZ] at h
 |_::_,[],_,_,h,_=>by simp [aeZ] at h
theorem fG.aA2 {Y:V} (hst:Y.aj=st.aj) (hpos:∀ o e r l g,st.aj o=some (.arr e r l g)→0<r.len):∀ (s:fG) (x:SV) (d:s.den) (v:Value),s.read st x=some d→gy Y x v→QX Y (s.out d).2 v.cells.toList (s.names x)
 | .one c, .one x,d,v,h,hv=>by
   rw [U7 v (bQ.one x v hv)]
   exact ⟨RC.aCx hst hpos c x d v h hv,trivial⟩
 | .agg l, .agg xs,d,v,h,⟨vs,hv,hc⟩=>by
   rw [hv]
   exact auz hst hpos l xs d _ h hc
 | .one _, .agg _,_,_,h,_| .agg _, .one _,_,_,h,_=>by simp [fG.read] at h
theorem auA {Y:V} (hst:Y.aj=st.aj) (hpos:∀ o e r l g,st.aj o=some (.arr e r l g)→0<r.len):∀ (l:List fG) (xs:List SV) (d:cu l) (vs:List Value),OI st l xs=some d→gB Y xs vs→
 QX Y (aaf (kK l d)) (vs.flatMap fun v=>v.cells.toList) (MV l xs)
 |[],[],_,[],_,_=>trivial
 |s::r,x::xs,d,v::vs,h,⟨h1,h2⟩=>by
  rw [OI] at h
  split at h
  · next a b g1 g2=>
    cases h
    exact QX.append _ _ _ _ _ _ (fG.aA2 hst hpos s x a v g1 h1) (auA hst hpos r xs b vs g2 h2)
  · cases h
 |[],_::_,_,_,h,_=>by simp [OI] at h
 |_::_,[],_,_,h,_=>by simp [OI] at h
def Go1 (Z:V) (k:Nat) (c:iQ) (v:Value):Prop:=bQ Z (c.take k).1 v
def WA (Z:V):Nat→List iQ→List Value→Prop
 |_,[],[]=>True
 |k,c::cs,v::vs=>Go1 Z k c v∧WA Z (k+1) cs vs
 |_,_,_=>False
theorem WA.of {Z:V}:∀ (cs:List iQ) (vs:List Value) (k:Nat),cs.length=vs.length→(∀ i c v,cs[i]? =some c→vs[i]? =some v→Go1 Z (k+i) c v)→WA Z k cs vs
 |[],[],_,_,_=>trivial
 |c::cs,v::vs,k,hl,h=>⟨h 0 c v rfl rfl,WA.of cs vs (k+1) (by simpa using hl) fun i c' v' h1 h2=>by
   have:=h (i+1) c' v' (by simpa using h1) (by simpa using h2)
   rwa [show k+(i+1)=k+1+i by omega] at this⟩
theorem WA.split {Z:V}:∀ (cs:List iQ) (vs:List Value) (ds:List iQ) (us:List Value) (k:Nat),cs.length=vs.length→WA Z k (cs++ds) (vs++us)→WA Z k cs vs∧WA Z (k+cs.length) ds us
 |[],[],_,_,_,_,h=>⟨trivial,h⟩
 |c::cs,v::vs,ds,us,k,hl,⟨h1,h2⟩=>by
  obtain ⟨g1,g2⟩:=WA.split cs vs ds us (k+1) (by simpa using hl) h2
  exact ⟨⟨h1,g1⟩,by rw [show k+(c::cs).length=k+1+cs.length by simp;omega];exact g2⟩
theorem WA.cells {Z:V}:∀ (cs:List iQ) (vs:List Value) (k:Nat),WA Z k cs vs→ay Z (oh k cs).1 vs
 |[],[],_,_=>trivial
 |c::cs,v::vs,k,⟨h1,h2⟩=>⟨h1,WA.cells cs vs (k+1) h2⟩
theorem fG.go {Y Z:V}:∀ (s:fG) (x:SV) (d:s.den) (v:Value) (k:Nat),s.read st x=some d→gy Y x v→WA Z k (s.out d).2 v.cells.toList→gy Z (Gu k (s.out d)).1 v
 | .one c, .one x,d,v,k,h,hv,hg=>by
   rw [U7 v (bQ.one x v hv)] at hg
   exact hg.1
 | .agg l, .agg xs,d,v,k,h,⟨vs,hv,hc⟩,hg=>by
   rw [hv] at hg ⊢
   exact ⟨vs,rfl,WA.cells _ _ _ hg⟩
 | .one _, .agg _,_,_,_,h,_,_| .agg _, .one _,_,_,_,h,_,_=>by simp [fG.read] at h
theorem azb {Y Z:V} (hst:Y.aj=st.aj) (hpos:∀ o e r l g,st.aj o=some (.arr e r l g)→0<r.len):∀ (l:List fG) (xs:List SV) (d:cu l) (vs:List Value) (k:Nat),OI st l xs=some d→gB Y xs vs→
 WA Z k (aaf (kK l d)) (vs.flatMap fun v=>v.cells.toList)→gB Z (kF k (kK l d)).1 vs
 |[],[],_,[],_,_,_,_=>trivial
 |s::r,x::xs,d,v::vs,k,h,⟨h1,h2⟩,hg=>by
  rw [OI] at h
  split at h
  · next a b g1 g2=>
    cases h
    have hl:=QX.length _ _ _ (fG.aA2 hst hpos s x a v g1 h1)
    obtain ⟨k1,k2⟩:=WA.split _ _ _ _ k hl hg
    exact ⟨fG.go s x a v k g1 h1 k1,azb hst hpos r xs b vs _ g2 h2 k2⟩
  · cases h
 |[],_::_,_,_,_,h,_,_=>by simp [OI] at h
 |_::_,[],_,_,_,h,_,_=>by simp [OI] at h
theorem aqa:∀ (l:List jW) (xs:List Cell) (d:xq l),oq l xs=some d→xs.flatMap Cell.refs=[]→(jR l d).flatMap Cell.refs=[]
 |[],[],_,_,_=>rfl
 |c::r,x::xs,d,h,hx=>by
  rw [oq] at h
  split at h
  · next a b g1 g2=>
    cases h
    rw [List.flatMap_cons,List.append_eq_nil_iff] at hx
    show (c.cell a::jR r b).flatMap Cell.refs=[]
    rw [List.flatMap_cons,jW.aza c x a g1 hx.1,aqa r xs b g2 hx.2,List.append_nil]
  · cases h
 |[],_::_,_,h,_=>by simp [oq] at h
 |_::_,[],_,h,_=>by simp [oq] at h
theorem aag:∀ (sh:List dO) (i:Nat) (b:bZ sh),Yo st i sh=some b→∀ (j:Nat) (e:Eff),(ou sh b)[j]? =some e→
 e= .lose∨∃ l cs cs0,sh[j]? =some (.ptr l)∧e= .var cs∧st.aj ((i+j)*64+48)=some (.var cs0)∧cs0.flatMap Cell.refs=[]∧cs.flatMap Cell.refs=[]∧∀ (X:V) vs,ay X cs0 vs→ay X cs vs
 |[],_,_,_,j,e,he=>by simp [ou] at he
 | .ptr l::r,i,b,h,j,e,he=>by
   rw [Yo] at h
   split at h
   · next cs b' hx hb=>
     split at h
     · next a hr ha=>
       cases h
       cases j with
       |zero=>
        simp [ou] at he
        subst he
        exact .inr ⟨l,_,cs,rfl,rfl,by simpa using hx,hr,aqa _ _ _ ha hr,fun X vs hc=>QV _ _ _ _ ha hc⟩
       |succ j=>
        rcases aag r (i+1) b' hb j e (by simpa [ou] using he) with h|⟨l,cs',cs0,h1,h2,h3,h4⟩
        · exact .inl h
        · exact .inr ⟨l,cs',cs0,by simpa using h1,h2,by rw [show i+(j+1)=i+1+j by omega];exact h3,h4⟩
     · cases h
   · cases h
 | .p _::r,i,b,h,j,e,he| .own _ _::r,i,b,h,j,e,he=>by
   rw [Yo] at h
   cases j with
   |zero=>simp [ou] at he;exact .inl he.symm
   |succ j=>
    rcases aag r (i+1) b h j e (by simpa [ou] using he) with h|⟨l,cs',cs0,h1,h2,h3,h4⟩
    · exact .inl h
    · exact .inr ⟨l,cs',cs0,by simpa using h1,h2,by rw [show i+(j+1)=i+1+j by omega];exact h3,h4⟩
theorem auB:∀ {sh:List dO} {xs:List Arg} {d:bV sh},kL sh xs=some d→∀ (j:Nat) (l:List jW),sh[j]? =some (.ptr l)→∃ cs,xs[j]? =some (.ptr cs)
 |[],[],_,_,j,l,h=>by simp at h
 |s::r,x::xs,d,h,j,l,hj=>by
  rw [kL] at h
  split at h
  · next a b h1 h2=>
    cases j with
    |zero=>
     simp at hj
     subst hj
     cases x with
     |ptr cs=>exact ⟨cs,rfl⟩
     |_=>simp [dO.read] at h1
    |succ j=>
     obtain ⟨cs,hc⟩:=auB h2 j l (by simpa using hj)
     exact ⟨cs,by simpa using hc⟩
  · cases h
 |[],_::_,_,h,_,_,_=>by simp [kL] at h
 |_::_,[],_,h,_,_,_=>by simp [kL] at h
theorem aEr {sh:List dO} {b:bZ sh} (hb:Yo st 0 sh=some b) {q:Nat} {y:aS} (h:tH (ou sh b) q=some y):
 q%64=48∧∃ l cs cs0,sh[q / 64]? =some (.ptr l)∧y= .var cs∧st.aj q=some (.var cs0)∧cs0.flatMap Cell.refs=[]∧cs.flatMap Cell.refs=[]∧∀ (X:V) vs,ay X cs0 vs→ay X cs vs:=by
 unfold tH at h
 split at h
 · next e r l he=>
   rcases aag sh 0 b hb _ _ he with h'|⟨_,_,_,_,h',_⟩<;>cases h'
 · next cs he=>
   split at h
   · next hm=>
     have hm':=Nat.eq_of_beq_eq_true hm
     cases h
     rcases aag sh 0 b hb _ _ he with h'|⟨l,cs',cs0,h1,h2,h3,h4⟩
     · cases h'
     · cases h2
       refine ⟨hm',l,_,cs0,h1,rfl,?_,h4⟩
       rw [show q=(0+q / 64)*64+48 by omega]
       exact h3
   · cases h
 · cases h
def dO.CU:(s:dO)→s.den→Prop
 | .p s,x=>s.CU x
 | .own _ r,(l:List r.den)=>∀ x∈l,r.CU x
 | .ptr l,x=>anV l x
def dH:(l:List dO)→bV l→Prop
 |[],_=>True
 |s::r,x=>s.CU x.1∧dH r x.2
theorem dw.anW {X:V} (s:dw) (x:Arg) (d:s.den) (v:Value) (h:s.read x=some d) (hr:zn X x v):s.CU d:=
 (OH (X:=X) [s] (d,()) [v] ⟨dw.weak s x d v h hr,trivial⟩).1
theorem alv {X:V} {args:List Arg} (ho:∀ o x,fF args o=some x→dG X o x):∀ (sh:List dO) (xs:List Arg) (d:bV sh) (vs:List Value) (i:Nat),(∀ j a,xs[j]? =some a→args[i+j]? =some a)→
 kL sh xs=some d→Hy X i xs vs→dH sh d
 |[],[],_,_,_,_,_,_=>trivial
 |s::r,x::xs,d,v::vs,i,hj,h,⟨hv,hvs⟩=>by
  rw [kL] at h
  split at h
  · next a b h1 h2=>
    cases h
    refine ⟨?_,alv ho r xs b vs (i+1) (fun j c hc=>by have:=hj (j+1) c (by simpa using hc);rwa [show i+(j+1)=i+1+j by omega] at this) h2 hvs⟩
    have hx:args[i]? =some x:=hj 0 x rfl
    cases s with
    |p s=>
     have h1':s.read x=some a:=by simpa [dO.read] using h1
     refine dw.anW (X:=X) s x a v h1' ?_
     cases x with
     |own _ _ _|ptr _=>cases s<;>simp [dw.read] at h1'
     |_=>exact hv
    |own e r'=>
     cases x with
     |own f s' l=>
      have h1':(match Nat.beq e f with|true=>if h:s'.beq r'=true then some (EO h l) else none|false=>none)=some a:=h1
      split at h1'
      · split at h1'
        · next hb hs=>
          cases h1'
          have hsr:=aP.eq_of_beq s' r' hs
          subst hsr
          have xY:fF args (i*64+49)=some (.arr f s' l false):=by
           unfold fF
           rw [show (i*64+49) / 64=i by omega,hx]
           dsimp only
           rw [show (i*64+49)%64=49 by omega]
          obtain ⟨us,_,_,_,hrow⟩:=ho _ _ xY
          intro y hy
          have hy':y∈l:=hy
          obtain ⟨j,hj1,hj2⟩:=List.mem_iff_getElem.1 hy'
          exact dh.CU s' _ _ (hrow j y (by rw [List.getElem?_eq_getElem hj1,hj2]))
        · cases h1'
      · cases h1'
     |_=>simp [dO.read] at h1
    |ptr l=>
     cases x with
     |ptr cs=>
      have h1':oq l cs=some a:=h1
      have xY:fF args (i*64+48)=some (.var cs):=by
       unfold fF
       rw [show (i*64+48) / 64=i by omega,hx]
       dsimp only
       rw [show (i*64+48)%64=48 by omega]
      obtain ⟨_,arr,_,_,_,hc⟩:=ho _ _ xY
      exact Yn l a _ (QV _ _ _ _ h1' hc)
     |_=>simp [dO.read] at h1
  · cases h
 |[],_::_,_,_,_,_,h,_=>by simp [kL] at h
 |_::_,[],_,_,_,_,h,_=>by simp [kL] at h
theorem YR:∀ (l:List dO) (d:bV l),(HY l d).length=l.length
 |[],_=>rfl
 |_::r,d=>by simp [HY,YR r d.2]
theorem Out.aFk (rs:List (Bool×List iQ)) (k:Nat):((⟨rs,none⟩:Out).take k).2=(kF k rs).2:=by
 unfold Out.take
 dsimp only
 split
 · next h=>rw [h]
 · next h=>rw [h]
theorem Out.aFl (rs:List (Bool×List iQ)) (k:Nat):((⟨rs,none⟩:Out).take k).1=(match (kF k rs).1 with|[v]=>AV.sv v|vs=> .uf vs):=by
 unfold Out.take
 dsimp only
 split
 · next h=>rw [h]
 · next vs δ hne h=>
   rw [h]
   dsimp only
   rcases vs with _|⟨v,_|⟨v2,r⟩⟩
   · rfl
   · exact (hne v rfl).elim
   · rfl
theorem aIf {args:List Arg} {S:Nat→Prop} {sh:List dO} {gG:List fG} {x:bV sh} (hx:kL sh args=some x) {d:cu gG} {b:bZ sh} {k:Nat} {vs:List SV} {us:List Value}
 (hR:Rel w (Fv (fF args) γ) (alu args γ S) γ' st a w') (hrs:gB (aC w (alu args γ S) γ' st w') vs us) (hnd:JJ (MV gG vs)=true) (hrd:OI st gG vs=some d) (hbk:Yo st 0 sh=some b)
 (hap:∀ o x,look ((⟨kK gG d,none⟩:Out).take k).2 o=some x→tH (ou sh b) o=none):
 ∃ γ2,bW ⟨w',w.heap.size,zo S args (ou sh b) γ,γ2,look ((⟨kK gG d,none⟩:Out).take k).2⟩ ((⟨kK gG d,none⟩:Out).take k).1 (if h:us.toArray.size=1 then us.toArray[0] else .tuple us.toArray)∧
   (∀ o x,look ((⟨kK gG d,none⟩:Out).take k).2 o=some x→dG ⟨w',w.heap.size,zo S args (ou sh b) γ,γ2,look ((⟨kK gG d,none⟩:Out).take k).2⟩ o x∧
     ∀ b',blk (γ2 o)=some b'→b'<w'.heap.size∧(w.heap.size≤b'∨Fv (fF args) γ b')∧∀ q y,tH (ou sh b) q=some y→blk (γ q)≠some b')∧
   (∀ o x q y b',look ((⟨kK gG d,none⟩:Out).take k).2 o=some x→look ((⟨kK gG d,none⟩:Out).take k).2 q=some y→o≠q→blk (γ2 o)=some b'→blk (γ2 q)≠some b')∧
   (∀ o x,tH (ou sh b) o=some x→γ2 o=γ o∧dG ⟨w',w.heap.size,zo S args (ou sh b) γ,γ2,look ((⟨kK gG d,none⟩:Out).take k).2⟩ o x):=by
 rw [Out.aFk] at hap ⊢
 rw [Out.aFl]
 skip
 let Y:V:=aC w (alu args γ S) γ' st w'
 let fv:List Value:=us.flatMap fun v=>v.cells.toList
 let bg:=ou sh b
 let γ2:Nat→Value:=fun p=>match tH bg p with|some _=>γ p|none=>fv.getD (p-k) undef
 let Z:V:=⟨w',w.heap.size,zo S args bg γ,γ2,look (kF k (kK gG d)).2⟩
 have hpos:∀ o e r l g,st.aj o=some (.arr e r l g)→0<r.len:=fun o e r l g ho=>by
  obtain ⟨_,_,h,_⟩:=hR.aj o _ ho
  exact h
 have hF:QX Y (aaf (kK gG d)) fv (MV gG vs):=auA (st:=st) rfl hpos gG vs d us hrd hrs
 have hbq:∀ q y,tH bg q=some y→γ' q=γ q∧∃ cs cs0,y= .var cs∧st.aj q=some (.var cs0)∧cs0.flatMap Cell.refs=[]∧cs.flatMap Cell.refs=[]∧∀ (X:V) vs,ay X cs0 vs→ay X cs vs:=by
  intro q y hq
  obtain ⟨hm,l,cs,cs0,h1,h2,h3,h4,h5,h6⟩:=aEr hbk hq
  refine ⟨?_,cs,cs0,h2,h3,h4,h5,h6⟩
  obtain ⟨ci,hci⟩:=auB hx _ l h1
  have ho:fF args q=some (.var ci):=by
   unfold fF
   rw [hci]
   dsimp only
   rw [hm]
  have hN:(alu args γ S).N q=some (γ q):=by
   show axJ args γ q=_
   unfold axJ
   rw [ho]
  exact hR.pin q _ _ hN h3
 have hG:∀ p X,look (kF k (kK gG d)).2 p=some X→∃ i e r l fr,p=k+i∧(aaf (kK gG d))[i]? =some (.own e r l fr)∧X= .arr e r l fr∧0<r.len∧
  ((∃ o g,(MV gG vs)[i]? =some (some o)∧st.aj o=some (.arr e r l g)∧abB fr g=true∧γ2 p=γ' o∧(γ2 p).oneCell'=true)∨(l=[]∧γ2 p= .slice none 0 0)):=by
  intro p X hp
  obtain ⟨i,e,r,l,fr,h1,h2,h3⟩:=(MG _ k p X).1 hp
  obtain ⟨v,n,g1,g2,hr,hv⟩:=QX.get _ _ _ i _ hF h2
  have hγ:γ2 p=v:=by
   show (match tH bg p with|some _=>γ p|none=>fv.getD (p-k) undef)=v
   rw [hap p X hp]
   dsimp only
   rw [h1,show k+i-k=i by omega,List.getD_eq_getElem?_getD,g1]
   rfl
  refine ⟨i,e,r,l,fr,h1,h2,h3,hr,?_⟩
  rcases hv with ⟨o,g,hn,ho,hb,hv,h1c⟩|⟨hl,hv⟩
  · exact .inl ⟨o,g,by rw [g2,hn],ho,hb,hγ.trans hv,by rw [hγ];exact h1c⟩
  · exact .inr ⟨hl,hγ.trans hv⟩
 have agp:∀ b',Y.foot b'→Z.foot b':=by
  intro b' hb'
  refine ⟨hb'.1,fun hlt=>⟨hb'.2.1 hlt,fun q y hq=>?_⟩,fun p X hp=>?_⟩
  · obtain ⟨hγ,cs,cs0,_,h3,_⟩:=hbq q y hq
    rw [← hγ]
    exact hb'.2.2 q _ h3
  · obtain ⟨i,e,r,l,fr,_,_,_,_,hc⟩:=hG p X hp
    show blk (γ2 p)≠some b'
    rcases hc with ⟨o,g,_,ho,_,hγ,_⟩|⟨_,hγ⟩
    · rw [hγ];exact hb'.2.2 o _ ho
    · rw [hγ];intro h;cases h
 have aEs:∀ fr b',Y.eU fr b'→Z.eU fr b':=fun fr b' h=>⟨agp b' h.1,h.2⟩
 have hgo:WA Z k (aaf (kK gG d)) fv:=by
  refine WA.of _ _ _ (QX.length _ _ _ hF) fun i c v hc hv=>?_
  obtain ⟨v',n,g1,g2,g3⟩:=QX.get _ _ _ i c hF hc
  rw [hv] at g1
  cases g1
  cases c with
  |plain x=>
   exact (Sm (Y:=Y) (Z:=Z) rfl aEs [x] [v] (by simpa using g3.2) ⟨g3.1,trivial⟩).1
  |own e r l fr=>
   have hp:look (kF k (kK gG d)).2 (k+i)=some (.arr e r l fr):=(MG _ k _ _).2 ⟨i,e,r,l,fr,rfl,hc,rfl⟩
   have hγ:γ2 (k+i)=v:=by
    show (match tH bg (k+i) with|some _=>γ (k+i)|none=>fv.getD (k+i-k) undef)=v
    rw [hap _ _ hp]
    dsimp only
    rw [show k+i-k=i by omega,List.getD_eq_getElem?_getD,hv]
    rfl
   refine ⟨⟨e,r,l,fr,hp⟩,hγ.symm,?_⟩
   rcases g3.2 with ⟨_,_,_,_,_,_,h⟩|⟨_,h⟩
   · exact h
   · rw [h];rfl
 have hsv:gB Z (kF k (kK gG d)).1 us:=azb (st:=st) (Y:=Y) rfl hpos gG vs d us k hrd hrs hgo
 refine ⟨γ2,?_,fun p X hp=>?_,fun p X q X' b' hp hq hne hb1 hb2=>?_,fun q y hq=>?_⟩
 · have hl:=gB.length _ _ hsv
   match hm:(kF k (kK gG d)).1,us,hsv,hl with
   |[v],[u],hk,_=>exact hk.1
   |[],[],hk,_=>exact ⟨_,by simp,hk⟩
   |v::v2::r,u::u2::us,hk,hl=>exact ⟨_,by simp,hk⟩
   |[],_::_,hk,h4|_::_,[],hk,h4|[_],_::_::_,hk,h4|_::_::_,[_],hk,h4=>simp at h4
 · obtain ⟨i,e,r,l,fr,_,_,rfl,hr,hc⟩:=hG p X hp
   rcases hc with ⟨o,g,_,ho,hb,hγ,_⟩|⟨rfl,hγ⟩
   · have hO:dG Y o (.arr e r l g):=hR.aj o _ ho
     have hold:∀ b',blk (γ' o)=some b'→fr=true→w.heap.size≤b':=by
      intro b' hb' hfr
      subst hfr
      have hg:g=true:=hb
      subst hg
      obtain ⟨_,_,_,hn,_⟩:=hO
      exact hn b' hb' rfl
     refine ⟨dG.anS (Y:=Y) (Z:=Z) hO hγ rfl (fun b' hb'=>⟨agp b' hb'.1,fun hfr=>hb'.2 ?_⟩) hold,fun b' hb'=>?_⟩
     · subst hfr;exact hb
     · rw [hγ] at hb'
       obtain ⟨h1,h2⟩:=hR.lt o _ b' ho hb'
       refine ⟨h1,h2,fun q y hq=>?_⟩
       obtain ⟨hγq,cs,cs0,_,h3,_⟩:=hbq q y hq
       rw [← hγq]
       refine hR.sep o _ q _ b' ho h3 ?_ hb'
       intro e;subst e;rw [ho] at h3;cases h3
   · refine ⟨⟨[],⟨by simp, .inl ⟨hγ,rfl⟩⟩,hr,(fun b' hb'=>by have h0:blk (γ2 p)=some b':=hb';rw [hγ] at h0;cases h0),fun i x hi=>by simp at hi⟩,fun b' hb'=>by rw [hγ] at hb';cases hb'⟩
 · obtain ⟨i,e,r,l,fr,hi,_,_,_,hc⟩:=hG p X hp
   obtain ⟨j,e',r',l',fr',hj,_,_,_,hc'⟩:=hG q X' hq
   rcases hc with ⟨o,g,hn,ho,_,hγ,_⟩|⟨_,hγ⟩
   · rcases hc' with ⟨o',g',hn',ho',_,hγ',_⟩|⟨_,hγ'⟩
     · rw [hγ] at hb1
       rw [hγ'] at hb2
       have:o≠o':=by
        intro e
        subst e
        have:=adR hnd _ _ _ hn hn'
        omega
       exact hR.sep o _ o' _ b' ho ho' this hb1 hb2
     · rw [hγ'] at hb2;cases hb2
   · rw [hγ] at hb1;cases hb1
 · obtain ⟨hγ,cs,cs0,rfl,h3,h4,h5,h6⟩:=hbq q y hq
   have uj:γ2 q=γ q:=by
    show (match tH bg q with|some _=>γ q|none=>fv.getD (q-k) undef)=γ q
    rw [hq]
   refine ⟨uj,?_⟩
   obtain ⟨b',arr,t,k1,k2,k3⟩:=hR.aj q _ h3
   refine ⟨b',arr,t,?_,k2,Sm (Y:=Y) (Z:=Z) rfl aEs _ _ h5 (h6 _ _ k3)⟩
   show γ2 q=_
   rw [uj,← hγ]
   exact k1
theorem bT {G:qU} (hE:EnvB P G Θ Γ) (hm:P.follows .mixedOrders=true) {f:FuncId} {fn:Func} {c:Code} (hf:P.funcs[f]? =some fn) (hb:fn.body=some c) (H:Hints)
 {sh:List dO} {gG:List fG} {F:bV sh→Prop×(cu gG×bZ sh→Prop)} (hn:Nat.ble sh.length fn.ntmps=true) (hne:∀ x,(F x).1→∃ t,(F x).2 t)
 (hwalk:∀ x,dH sh x→(F x).1→ZG Θ Γ H c (aDs Θ fn.results.toList sh gG (F x).2) (Yp fn.ntmps (HY sh x))):aG P G f (dM sh gG F):=by
 intro args p ρ hcon hp
 unfold dM at hcon
 split at hcon
 case h_2=>cases hcon
 next x hx=>
 cases hcon
 refine ⟨hne x hp,fun k S γ vs w hG hrep xY hsep hap=>?_⟩
 have hlen:=(aae hx).1
 rw [YR] at hlen
 have hn':args.length≤fn.ntmps:=by rw [← hlen];simpa [Nat.ble_eq] using hn
 have hin:dH sh x:=alv (fun o X ho=>(xY o X ho).1) sh args x vs.toList 0 (fun j a h=>by rwa [Nat.zero_add]) hx hrep
 have hR0:=auy (S:=S) fn.ntmps hn' hrep (fun o X ho=>⟨(xY o X ho).1,fun b hb=>((xY o X ho).2 b hb).1⟩) hsep
 have hR1:=hR0.covers (aid hx fn.ntmps)
 refine calls_of_wp hf hb (als ⟨hE,hG,fun b hb=>?_⟩ hm H c _ _ _ _ _ _ hR1 (hwalk x hin hp) ?_)
 · obtain ⟨o,X,ho,hb⟩:=hb
   exact ((xY o X ho).2 b hb).2
 intro e s γ' a' w' he hR
 have hret:∃ (us:List Value) (t:cu gG×bZ sh),(fn.results.mapM (Ym a'.tmps)).run P w'= .ok us.toArray w'∧(F x).2 t∧∃ γ2,
  bW ⟨w',w.heap.size,zo S args (ou sh t.2) γ,γ2,look ((⟨kK gG t.1,none⟩:Out).take k).2⟩ ((⟨kK gG t.1,none⟩:Out).take k).1 (if h:us.toArray.size=1 then us.toArray[0] else .tuple us.toArray)∧
  (∀ o x',look ((⟨kK gG t.1,none⟩:Out).take k).2 o=some x'→dG ⟨w',w.heap.size,zo S args (ou sh t.2) γ,γ2,look ((⟨kK gG t.1,none⟩:Out).take k).2⟩ o x'∧
    ∀ b,blk (γ2 o)=some b→b<w'.heap.size∧(w.heap.size≤b∨Fv (fF args) γ b)∧∀ q y,tH (ou sh t.2) q=some y→blk (γ q)≠some b)∧
  (∀ o x' q y b,look ((⟨kK gG t.1,none⟩:Out).take k).2 o=some x'→look ((⟨kK gG t.1,none⟩:Out).take k).2 q=some y→o≠q→blk (γ2 o)=some b→blk (γ2 q)≠some b)∧
  (∀ o x',tH (ou sh t.2) o=some x'→γ2 o=γ o∧dG ⟨w',w.heap.size,zo S args (ou sh t.2) γ,γ2,look ((⟨kK gG t.1,none⟩:Out).take k).2⟩ o x'):=by
  have he':(e= .normal∨e= .ret)∧aDs Θ fn.results.toList sh gG (F x).2 .ret s:=by
   cases e with
   |normal=>exact ⟨.inl rfl,he⟩
   |ret=>exact ⟨.inr rfl,he⟩
   |_=>exact he.elim
  have he2:=he'.2
  simp only [aDs] at he2
  split at he2
  · next svs aJq=>
    split at he2
    · next vs' hvs'=>
      split at he2
      · next d b hnd hd hb'=>
        have hRf:=hR.freeze (auw s (MV gG svs))
        obtain ⟨us,hus,hrs⟩:=abD hE.types hRf _ _ hvs'
        refine ⟨us,(d,b),?_,he2,aIf hx hRf hrs hnd hd hb' (hap (d,b) he2)⟩
        rw [Array.mapM_eq_mapM_toList,Sem.run_map,hus]
        rfl
      · exact he2.elim
    · exact he2.elim
  · exact he2.elim
 obtain ⟨us,t,hus,ht,γ2,h1,h2,h3,h4⟩:=hret
 have hfin:bodyPost P fn (fun e w'=>∃ t,(F x).2 t∧ac7 S args γ w k ⟨kK gG t.1,none⟩ (ou sh t.2) e w') .ret a' w':=by
  refine ⟨hR.defers,if h:us.toArray.size=1 then us.toArray[0] else .tuple us.toArray,?_,t,ht,_,γ2,rfl,hR.os,hR.tape,hR.output,hR.grow,hR.kept,h1,h2,h3,h4⟩
  rw [agv,Sem.run_bind,hus]
  simp only [Result.andThen_ok,Sem.run_pure]
 cases e with
 |normal=>exact hfin
 |ret=>exact hfin
 |_=>exact he.elim
end Go.Fw
namespace Go.Fw
open Go
variable {P:Program} {w0:World} {M:Nat→Prop} {T:Ext} {γ γ':Nat→Value} {st:St} {a:Act} {w w':World} {Θ:je} {Γ:aK}
def aDv (rv:List ResultVar) (l:List jW) (K:xq l→Prop) (e:Exit) (st:St):Prop:=
 match e with
 | .normal| .ret=>match rv with
   |[.tmp t]=>match st.tmps t with
    | .fE o off=>match Nat.beq off 0,(st.freeze (adf st)).aj o with
      |true,some (.var cs)=>match cs.flatMap Cell.refs,oq l cs with
       |[],some d=>K d
       |_,_=>False
      |_,_=>False
    |_=>False
   |_=>False
 |_=>False
def loses (sh:List dO):List Eff:=sh.map fun _=> .lose
def aFe (sh:List dO) (l:List jW) (F:bV sh→Prop×(xq l→Prop)):eF:=fun args=>
 match kL sh args with
 |some x=>some ((F x).1,⟨xq l,(F x).2,fun t=>⟨[],some (jR l t)⟩,fun _=>loses sh⟩)
 |none=>none
theorem agw (sh:List dO) (q:Nat):tH (loses sh) q=none:=by
 unfold tH loses
 rw [List.getElem?_map]
 cases sh[q / 64]? <;>rfl
theorem ae0:∀ (l:List jW) (cs:List Cell) (d:xq l),oq l cs=some d→cs.flatMap Cell.refs=[]→(jR l d).flatMap Cell.refs=[]
 |[],[],_,_,_=>rfl
 |c::l,x::xs,d,h,hn=>by
  rw [oq] at h
  rw [List.flatMap_cons,List.append_eq_nil_iff] at hn
  split at h
  · next p q hp hq=>
    cases h
    show ((c.cell p)::jR l q).flatMap Cell.refs=[]
    rw [List.flatMap_cons,List.append_eq_nil_iff]
    refine ⟨?_,ae0 l xs q hq hn.2⟩
    cases c with
    |ref o=>
     cases x<;>simp [jW.read,Cell.refs] at hp hn
    |_=>rfl
  · cases h
 |[],_::_,_,h,_=>by simp [oq] at h
 |_::_,[],_,h,_=>by simp [oq] at h
theorem aGm {G:qU} (hE:EnvB P G Θ Γ) (hm:P.follows .mixedOrders=true) {f:FuncId} {fn:Func} {c:Code} (hf:P.funcs[f]? =some fn) (hb:fn.body=some c) (H:Hints)
 {sh:List dO} {l:List jW} {F:bV sh→Prop×(xq l→Prop)} (hn:Nat.ble sh.length fn.ntmps=true) (hne:∀ x,(F x).1→∃ t,(F x).2 t)
 (hwalk:∀ x,dH sh x→(F x).1→ZG Θ Γ H c (aDv fn.results.toList l (F x).2) (Yp fn.ntmps (HY sh x))):aG P G f (aFe sh l F):=by
 intro args p ρ hcon hp
 unfold aFe at hcon
 split at hcon
 case h_2=>cases hcon
 next x hx=>
 cases hcon
 refine ⟨hne x hp,fun k S γ vs w hG hrep xY hsep hap=>?_⟩
 have hlen:=(aae hx).1
 rw [YR] at hlen
 have hn':args.length≤fn.ntmps:=by rw [← hlen];simpa [Nat.ble_eq] using hn
 have hin:dH sh x:=alv (fun o X ho=>(xY o X ho).1) sh args x vs.toList 0 (fun j a h=>by rwa [Nat.zero_add]) hx hrep
 have hR0:=auy (S:=S) fn.ntmps hn' hrep (fun o X ho=>⟨(xY o X ho).1,fun b hb=>((xY o X ho).2 b hb).1⟩) hsep
 have hR1:=hR0.covers (aid hx fn.ntmps)
 refine calls_of_wp hf hb (als ⟨hE,hG,fun b hb=>?_⟩ hm H c _ _ _ _ _ _ hR1 (hwalk x hin hp) ?_)
 · obtain ⟨o,X,ho,hb⟩:=hb
   exact ((xY o X ho).2 b hb).2
 intro e s γ' a' w' he hR
 have he':aDv fn.results.toList l (F x).2 .ret s:=by
  cases e with
  |normal=>exact he
  |ret=>exact he
  |_=>exact he.elim
 have hfin:bodyPost P fn (fun e w'=>∃ t,(F x).2 t∧ac7 S args γ w k ⟨[],some (jR l t)⟩ (loses sh) e w') .ret a' w':=by
  simp only [aDv] at he'
  split at he'
  case h_2=>exact he'.elim
  next t hrv=>
  split at he'
  case h_2=>exact he'.elim
  next o off htm=>
  split at he'
  case h_2=>exact he'.elim
  next cs hoff hcs=>
  split at he'
  case h_2=>exact he'.elim
  next d hnr hd=>
  have hoff:=Nat.eq_of_beq_eq_true hoff
  subst hoff
  have hRf:=hR.freeze (adf s)
  have hv:=hR.tmps t
  rw [htm] at hv
  obtain ⟨b,cs0,_,hγ,hval⟩:=hv
  obtain ⟨b',arr,ty,g1,g2,g3⟩:=hRf.aj o _ hcs
  have g1:γ' o= .pointer (some ⟨b',0,none⟩):=g1
  have hγ:γ' o= .pointer (some ⟨b,0,none⟩):=hγ
  rw [hγ] at g1
  cases g1
  have hblk:blk (γ' o)=some b:=by rw [hγ];rfl
  have hlt:=hRf.lt o _ b hcs hblk
  let γ2:Nat→Value:=fun _=>γ' o
  let Z:V:=⟨w',w.heap.size,zo S args (loses sh) γ,γ2,look (Out.take k ⟨[],some (jR l d)⟩).2⟩
  have hlook:∀ q y,look (Out.take k ⟨[],some (jR l d)⟩).2 q=some y→q=k-1∧y= .var (jR l d):=by
   intro q y hq
   have hmem:=Ir _ q y hq
   have:(q,y)=(k-1, .var (jR l d)):=by simpa [Out.take] using hmem
   exact ⟨congrArg Prod.fst this,congrArg Prod.snd this⟩
  have agp:∀ fr b',(aC w (alu args γ S) γ' (s.freeze (adf s)) w').eU fr b'→Z.eU fr b':=by
   intro fr b' hb'
   refine ⟨⟨hb'.1.1,fun hlt'=>⟨hb'.1.2.1 hlt',fun q y hq=>by rw [agw] at hq;cases hq⟩,fun q y hq=>?_⟩,hb'.2⟩
   exact hb'.1.2.2 o _ hcs
  have hcells:ay Z (jR l d) arr.toList:=
   Sm (Y:=aC w (alu args γ S) γ' (s.freeze (adf s)) w') (Z:=Z) rfl agp _ _ (ae0 l cs d hd hnr) (QV l cs d _ hd g3)
  have hself:look (Out.take k ⟨[],some (jR l d)⟩).2 (k-1)=some (.var (jR l d)):=by simp [Out.take,look]
  refine ⟨hR.defers,a'.tmps.getD t undef,?_,d,he',_,γ2,rfl,hR.os,hR.tape,hR.output,hR.grow,hR.kept,?_,fun q y hq=>?_,fun q y q' y' b' hq hq' hne'=>?_,fun q y hq=>by rw [agw] at hq;cases hq⟩
  · have:fn.results=#[.tmp t]:=by apply Array.ext';simpa using hrv
    have hmap:(Array.mapM (Ym a'.tmps) #[ResultVar.tmp t]).run P w'= .ok #[a'.tmps.getD t undef] w':=by
     rw [Array.mapM_eq_mapM_toList,Sem.run_map]
     simp only [List.mapM_cons,List.mapM_nil,Ym]
     rfl
    rw [agv,this,Sem.run_bind,hmap]
    rfl
  · exact ⟨b,jR l d,hself,hγ,hval⟩
  · obtain ⟨rfl,rfl⟩:=hlook q y hq
    refine ⟨⟨b,arr,ty,hγ,g2,hcells⟩,fun b' hb'=>?_⟩
    have hb':blk (γ' o)=some b':=hb'
    rw [hblk] at hb'
    cases hb'
    exact ⟨hlt.1,hlt.2,fun q y hq=>by rw [agw] at hq;cases hq⟩
  · obtain ⟨rfl,_⟩:=hlook q y hq
    obtain ⟨rfl,_⟩:=hlook q' y' hq'
    exact (hne' rfl).elim
 cases e with
 |normal=>exact hfin
 |ret=>exact hfin
 |_=>exact he.elim
end Go.Fw
namespace Go.Fw
open Go
def CT.isZero:CT→Value→Bool
 | .int k, .int l n=>decide (k=l)&&decide (n=0)
 | .bool, .bool b=>!b
 | .str, .string s=>s.data.toList.isEmpty
 | .sl _ _, .slice none 0 0=>true
 |_,_=>false
def aP.ae1:aP→List Value→Bool
 | .nil,[]=>true
 | .cons c r,v::vs=>c.isZero v&&r.ae1 vs
 |_,_=>false
theorem CT.aEt:∀ (c:CT) (v:Value),c.isZero v=true→v=c.axB:=by
 intro c v h
 unfold CT.isZero at h
 split at h
 · simp at h;rw [h.1,h.2];rfl
 · simp at h;subst h;rfl
 · next s=>
   obtain ⟨⟨l⟩⟩:=s
   simp at h
   subst h;rfl
 · rfl
 · cases h
theorem aP.auC:∀ (r:aP) (vs:List Value),r.ae1 vs=true→vs=r.qg
 | .nil,[],_=>rfl
 | .cons c r,v::vs,h=>by
   rw [ae1,Bool.and_eq_true] at h
   rw [aP.qg,CT.aEt c v h.1,aP.auC r vs h.2]
 | .nil,_::_,h| .cons _ _,[],h=>by simp [ae1] at h
def aA3:TypeDesc→TypeDesc→Bool
 | .int k, .int l=>decide (k=l)
 | .bool, .bool=>true
 | .string, .string=>true
 | .slice e, .slice f=>Nat.beq e f
 |_,_=>false
theorem aEu:∀ (c d:TypeDesc),aA3 c d=true→c=d:=by
 intro c d h
 unfold aA3 at h
 split at h
 · rw [of_decide_eq_true h]
 · rfl
 · rfl
 · rw [Nat.eq_of_beq_eq_true h]
 · cases h
def abE (P:Program):List (Nat×TypeId)→List Field→Bool
 |[],[]=>true
 |(o,t)::r,f::fs=>Nat.beq o f.offset&&Nat.beq t f.type&&(P.info? f.type).isSome&&abE P r fs
 |_,_=>false
theorem aqb {P:Program}:∀ (l:List (Nat×TypeId)) (fs:List Field),abE P l fs=true→l=fs.map (fun f=>(f.offset,f.type))∧∀ f∈fs,(P.info? f.type).isSome=true
 |[],[],_=>⟨rfl,by simp⟩
 |(o,t)::r,f::fs,h=>by
  rw [abE,Bool.and_eq_true,Bool.and_eq_true,Bool.and_eq_true] at h
  obtain ⟨⟨⟨h1,h2⟩,h3⟩,h4⟩:=h
  obtain ⟨e,hall⟩:=aqb r fs h4
  refine ⟨by rw [List.map_cons,← e,Nat.eq_of_beq_eq_true h1,Nat.eq_of_beq_eq_true h2],fun g hg=>?_⟩
  rcases List.mem_cons.1 hg with rfl|hg
  · exact h3
  · exact hall g hg
 |[],_::_,h|_::_,[],h=>by simp [abE] at h
def aEv (P:Program) (t:TypeId) (ti:TI):Bool:=
 match ti.kind,P.underlying t with
 | .scalar,some d=>match ti.cells.desc with|some c=>aA3 c d|none=>false
 | .str,some .string=>ti.cells.beq (.cons .str .nil)
 | .slice e,some (.slice f)=>Nat.beq e f&&(match ti.cells with| .cons (.sl g _) .nil=>Nat.beq g e|_=>false)
 | .struct fs,some (.struct JK)=>abE P fs JK.toList
 |_,_=>false
def aCy (ti:TI) (z:Value):Bool:=match ti.kind with
 | .struct _=>true
 |_=>z.oneCell'
def axK (P:Program) (t:TypeId) (ti:TI):Bool:=
 match P.info? t with
 |some i=>match i.zero with
  |some z=>Nat.beq i.size ti.cells.len&&Nat.beq i.bytes ti.bytes&&ti.cells.ae1 z.cells.toList&&aCy ti z&&aEv P t ti&&Nat.ble ti.bytes 4096&&(!ti.cmp||aDa P t ti.cells)
  |none=>false
 |none=>false
theorem rE.aFm {P:Program} {t:TypeId} {ti:TI} (h:axK P t ti=true):rE P t ti:=by
 unfold axK at h
 split at h
 · next i hi=>
   split at h
   · next z hz=>
     simp only [Bool.and_eq_true] at h
     obtain ⟨⟨⟨⟨⟨⟨h1,h2⟩,h3⟩,h4⟩,h5⟩,h6⟩,h7⟩:=h
     refine ⟨⟨i,z,hi,Nat.eq_of_beq_eq_true h1,Nat.eq_of_beq_eq_true h2,hz,aP.auC _ _ h3,fun hagg=>?_⟩,?_,by simpa [Nat.ble_eq] using h6,fun e w s u X xs ys vs us b hf hx hy he=>aGg (by rw [e] at h7;simpa using h7) w s u X xs ys vs us b hf hx hy he⟩
     · unfold aCy at h4
       unfold TI.agg at hagg
       split at h4
       · next hk=>rw [hk] at hagg;cases hagg
       · exact U7 z h4
     · unfold aEv at h5
       split at h5
       · next d hk hu=>
         rw [hk]
         split at h5
         · next c hc=>exact ⟨d,by rw [hc,aEu c d h5],hu⟩
         · cases h5
       · next hk hu=>rw [hk];exact ⟨hu,aP.eq_of_beq _ _ h5⟩
       · next e f hk hu=>
         rw [hk]
         rw [Bool.and_eq_true] at h5
         have hef:=Nat.eq_of_beq_eq_true h5.1
         subst hef
         refine ⟨hu,?_⟩
         have h52:=h5.2
         split at h52
         · next g r hg=>exact ⟨r,by rw [hg,Nat.eq_of_beq_eq_true h52]⟩
         · cases h52
       · next fs JK hk hu=>
         rw [hk]
         obtain ⟨e,hall⟩:=aqb _ _ h5
         exact ⟨JK,hu,e,hall⟩
       · cases h5
   · cases h
 · cases h
def anX (P:Program):List (Nat×TI)→Bool
 |[]=>true
 |(t,ti)::r=>axK P t ti&&anX P r
theorem au {P:Program}:∀ {l:List (Nat×TI)},anX P l=true→∀ t ti,aAj l t=some ti→rE P t ti
 |[],_,t,ti,h=>by cases h
 |(i,x)::r,hc,t,ti,h=>by
  rw [anX,Bool.and_eq_true] at hc
  rw [aAj] at h
  cases hb:Nat.beq t i with
  |true=>rw [hb] at h;cases h;rw [Nat.eq_of_beq_eq_true hb];exact .aFm hc.1
  |false=>rw [hb] at h;exact au hc.2 t ti h
def aCz (fn:Func):Bool:=fn.body.isSome&&!(fn.name== "runtime.NumGoroutine")
theorem ai {P:Program} {f:FuncId} {fn:Func} (hf:P.funcs[f]? =some fn) (hc:aCz fn=true):ak P f:=by
 intro args w
 unfold aCz at hc
 rw [Bool.and_eq_true] at hc
 have h1:(fn.name== "runtime.NumGoroutine")=false:=by simpa using hc.2
 have h2:fn.body.isNone=false:=by cases hb:fn.body with|none=>rw [hb] at hc;simp at hc|some _=>rfl
 unfold callFunc
 simp only [Sem.run_bind,run_program,Result.andThen_ok,hf,h1,h2,Bool.false_eq_true,if_false,Sem.run_pure]
def aGQ (P:Program) (G:qU) (f:FuncId):aC3→Prop
 | .pure c=>aA P G f c∧ak P f
 | .eff _ c=>aG P G f c∧ak P f
theorem aB {P:Program} {G:qU} {Θ:je} (hT:∀ t ti,Θ t=some ti→rE P t ti):∀ {l:List (Nat×aC3)},(∀ x∈l,aGQ P G x.1 x.2)→EnvB P G Θ (aJ l)
 |[],_=>⟨hT,(fun f con h=>by cases h),(fun f ms con h=>by cases h)⟩
 |(i,c)::r,h=>by
  have ih:=aB (G:=G) hT fun x hx=>h x (List.mem_cons_of_mem _ hx)
  refine ⟨hT,fun f con hf=>?_,fun f ms con hf=>?_⟩
  · rw [aJ] at hf
    cases hb:Nat.beq f i with
    |true=>rw [hb] at hf;cases hf;rw [Nat.eq_of_beq_eq_true hb];exact h (i, .pure con) List.mem_cons_self
    |false=>rw [hb] at hf;exact ih.cons f con hf
  · rw [aJ] at hf
    cases hb:Nat.beq f i with
    |true=>rw [hb] at hf;cases hf;rw [Nat.eq_of_beq_eq_true hb];exact h (i, .eff ms con) List.mem_cons_self
    |false=>rw [hb] at hf;exact ih.aAh f ms con hf
end Go.Fw
namespace Go.Fw
open Go
variable {P:Program} {G:qU} {f:FuncId}
abbrev jw:List UInt8:=[]
abbrev JO:List (Int×Unit):=[]
theorem aA.weaken {con alx:fB} (h:aA P G f con) (hc:∀ args p out,alx args=some (p,out)→p→∃ q,con args=some (q,out)∧q):aA P G f alx:=by
 intro args p out k S vs w hcon hp hG hrep
 obtain ⟨q,h1,h2⟩:=hc args p out hcon hp
 exact h args q out k S vs w h1 h2 hG hrep
theorem aG.weaken {con alx:eF} (h:aG P G f con) (hc:∀ args p ρ,alx args=some (p,ρ)→p→∃ q,con args=some (q,ρ)∧q):aG P G f alx:=by
 intro args p ρ hcon hp
 obtain ⟨q,h1,h2⟩:=hc args p ρ hcon hp
 exact h args q ρ h1 h2
theorem aEw {sh:List dw} {gG:List dP} {F:bn sh→Prop×bG gG} (Fr Fs:Nat→bn sh→Prop×bG gG) (h0:∀ x,¬ (Fr 0 x).1) (hs:∀ n x,Fr (n+1) x=Fs n x)
 (hf:∀ x,(F x).1→∃ n,(Fr n x).1) (he:∀ n x,(Fr n x).2=(F x).2) (step:∀ n,aA P G f (dm sh gG (Fr n))→aA P G f (dm sh gG (Fs n))):aA P G f (dm sh gG F):=by
 have all:∀ n,aA P G f (dm sh gG (Fr n)):=by
  intro n
  induction n with
  |zero=>
   intro args p out k S vs w hcon hp
   unfold dm aad at hcon
   split at hcon
   · next x _=>
     have e:(Fr 0 x).1=p:=congrArg Prod.fst (Option.some.inj hcon)
     exact absurd (e.symm▸hp) (h0 x)
   · cases hcon
  |succ n ih=>
   have:=step n ih
   have e:Fr (n+1)=Fs n:=funext (hs n)
   rw [e];exact this
 intro args p out k S vs w hcon hp hG hrep
 have aah:=hcon
 unfold dm aad at aah
 split at aah
 · next x hx=>
   have e:=Option.some.inj aah
   have e1:(F x).1=p:=congrArg Prod.fst e
   obtain ⟨n,hn⟩:=hf x (e1.symm▸hp)
   refine all n args (Fr n x).1 out k S vs w ?_ hn hG hrep
   unfold dm aad
   rw [hx]
   show some ((Fr n x).1,_)=_
   rw [he n x]
   exact congrArg (fun z=>some ((Fr n x).1,z)) (congrArg Prod.snd e)
 · cases aah
theorem aGn {sh:List dO} {gG:List fG} {F:bV sh→Prop×(cu gG×bZ sh→Prop)} (Fr Fs:Nat→bV sh→Prop×(cu gG×bZ sh→Prop)) (h0:∀ x,¬ (Fr 0 x).1) (hs:∀ n x,Fr (n+1) x=Fs n x)
 (hf:∀ x,(F x).1→∃ n,(Fr n x).1) (he:∀ n x,(Fr n x).2=(F x).2) (step:∀ n,aG P G f (dM sh gG (Fr n))→aG P G f (dM sh gG (Fs n))):aG P G f (dM sh gG F):=by
 have all:∀ n,aG P G f (dM sh gG (Fr n)):=by
  intro n
  induction n with
  |zero=>
   intro args p ρ hcon hp
   unfold dM at hcon
   split at hcon
   · next x _=>
     have e:(Fr 0 x).1=p:=congrArg Prod.fst (Option.some.inj hcon)
     exact absurd (e.symm▸hp) (h0 x)
   · cases hcon
  |succ n ih=>
   have:=step n ih
   have e:Fr (n+1)=Fs n:=funext (hs n)
   rw [e];exact this
 intro args p ρ hcon hp
 have aah:=hcon
 unfold dM at aah
 split at aah
 · next x hx=>
   have e:=Option.some.inj aah
   have e1:(F x).1=p:=congrArg Prod.fst e
   obtain ⟨n,hn⟩:=hf x (e1.symm▸hp)
   refine all n args (Fr n x).1 ρ ?_ hn
   unfold dM
   rw [hx]
   show some ((Fr n x).1,_)=_
   rw [he n x]
   exact congrArg (fun z=>some ((Fr n x).1,z)) (congrArg Prod.snd e)
 · cases aah
end Go.Fw
namespace Go.Fw
open Go
variable {P:Program} {H:Type} {enc:TypeId×Value→H} {w:World}
def aP.app:aP→aP→aP
 | .nil,s=>s
 | .cons c r,s=> .cons c (r.app s)
def aAl:(r s:aP)→r.den→s.den→(r.app s).den
 | .nil,_,_,y=>y
 | .cons _ r,s,x,y=>(x.1,aAl r s x.2 y)
theorem dh.app {h:Array Obj} {S:Nat→Prop}:∀ (r s:aP) (x:r.den) (y:s.den) (vs us:List Value),dh h S r vs x→dh h S s us y→dh h S (r.app s) (vs++us) (aAl r s x y)
 | .nil,s,x,y,vs,us,h1,h2=>by rw [dh] at h1;subst h1;exact h2
 | .cons c r,s,(x,x'),y,vs,us,h1,h2=>by
   rw [dh] at h1
   obtain ⟨v,vs',rfl,g1,g2⟩:=h1
   show dh h S (.cons c (r.app s)) (v::(vs'++us)) (x,aAl r s x' y)
   rw [dh]
   exact ⟨v,vs'++us,rfl,g1,dh.app r s x' y vs' us g2 h2⟩
theorem add_add (a:Addr) (h:a.spot=none) (m j:Nat):(a.add m).add j=⟨a.block,a.off+m+j,none⟩:=by
 obtain ⟨b,o,sp⟩:=a
 simp only at h
 subst h
 unfold Addr.add
 by_cases hm:m=0
 · by_cases hj:j=0
   · simp [hm,hj]
   · simp [hm,hj]
 · by_cases hj:j=0
   · simp [hm,hj]
   · simp [hm,hj]
def adi (f:TypeId→Option aP):List Field→Nat→Option aP
 |[],_=>some .nil
 |x::r,off=>match f x.type with
  |some s=>match adi f r (off+s.len),Nat.beq x.offset off with
   |some u,true=>some (s.app u)
   |_,_=>none
  |none=>none
def rowOf (P:Program):Nat→TypeId→Option aP
 |0,_=>none
 |n+1,t=>match P.underlying t with
  |some (.int k)=>some (.cons (.int k) .nil)
  |some .bool=>some (.cons .bool .nil)
  |some .string=>some (.cons .str .nil)
  |some (.slice e)=>match rowOf P n e with
   |some s=>match Nat.beq s.len (P.cellsOf e)&&Nat.ble 1 s.len with
    |true=>some (.cons (.sl e s) .nil)
    |false=>none
   |none=>none
  |some (.struct fs)=>match adi (rowOf P n) fs.toList 0 with
   |some r=>match Nat.beq r.len (P.cellsOf t) with
    |true=>match fs.toList.all fun f=>match rowOf P n f.type with|some s=>Nat.beq s.len (P.cellsOf f.type)|none=>false with
     |true=>some r
     |false=>none
    |false=>none
   |none=>none
  |_=>none
theorem aCA {α:Type} {Q:Nat→α→Prop}:∀ (n:Nat),(∀ i,i<n→∃ x,Q i x)→∃ l:List α,l.length=n∧∀ i x,l[i]? =some x→Q i x
 |0,_=>⟨[],rfl,fun i x h=>by simp at h⟩
 |n+1,h=>by
  obtain ⟨l,hl,hq⟩:=aCA n fun i hi=>h i (by omega)
  obtain ⟨x,hx⟩:=h n (by omega)
  refine ⟨l++[x],by simp [hl],fun i y hy=>?_⟩
  rcases Nat.lt_or_ge i n with hi|hi
  · rw [List.getElem?_append_left (by omega)] at hy;exact hq i y hy
  · rw [List.getElem?_append_right (by omega)] at hy
    have:i=n:=by
     rcases Nat.lt_or_ge n i with h'|h'
     · rw [List.getElem?_eq_none (by simp;omega)] at hy;cases hy
     · omega
    subst this
    simp [hl] at hy
    rw [← hy];exact hx
theorem aCB:∀ (r s:aP),(r.app s).len=r.len+s.len
 | .nil,s=>by simp [aP.app,aP.len]
 | .cons c r,s=>by simp only [aP.app,aP.len,aCB r s];omega
theorem auD {f:TypeId→Option aP} {S:Nat→Prop} {h:Array Obj} (cs:List Value)
 (part:∀ (t:TypeId) (r:aP) (off:Nat),f t=some r→(∃ g:Field,g.type=t∧g.offset=off)→True):∀ (fs:List Field) (off:Nat) (r:aP),adi f fs off=some r→
 (∀ g∈fs,∀ s,f g.type=some s→∃ x,dh h S s ((cs.drop g.offset).take s.len) x)→
 ∃ x,dh h S r ((cs.drop off).take r.len) x
 |[],off,r,hr,_=>by
  cases hr
  exact ⟨(),by rw [dh];simp [aP.len]⟩
 |g::fs,off,r,hr,hall=>by
  rw [adi] at hr
  split at hr
  · next s hs=>
    split at hr
    · next u hu hb=>
      cases hr
      obtain ⟨x,hx⟩:=hall g List.mem_cons_self s hs
      rw [Nat.eq_of_beq_eq_true hb] at hx
      obtain ⟨y,hy⟩:=auD cs part fs (off+s.len) u hu fun g' hg'=>hall g' (List.mem_cons_of_mem _ hg')
      refine ⟨aAl s u x y,?_⟩
      have:=dh.app s u x y _ _ hx hy
      rw [aCB]
      have e:(cs.drop off).take (s.len+u.len)=(cs.drop off).take s.len++(cs.drop (off+s.len)).take u.len:=by
       rw [List.take_add,List.drop_drop]
      rw [e];exact this
    · cases hr
  · cases hr
theorem aru:∀ (n:Nat) (t:TypeId) (r:aP),rowOf P n t=some r→∀ (m:Nat) (base:Nat) (spare:Nat→Bool) (held:Bool) (cs:List Value) (x:DataW H×List MemPlace),
 DataW.trod enc P w base spare held m t cs=some x→∃ y,dh w.heap (fun b=>b<w.heap.size) r cs y
 |0,t,r,hr=>by cases hr
 |n+1,t,r,hr=>by
  intro m base spare held cs x hx
  rw [rowOf] at hr
  split at hr
  · next k hu=>
    cases hr
    obtain ⟨i,rfl,_,hwf⟩:=DataW.trod_int hu hx
    simp only [Lit.wf,Bool.and_eq_true,decide_eq_true_eq] at hwf
    exact ⟨(i,()),by rw [dh];exact ⟨_,[],rfl,by rw [lM];exact ⟨rfl,hwf⟩,by rw [dh]⟩⟩
  · next hu=>
    cases hr
    obtain ⟨b,rfl,_⟩:=DataW.trod_bool hu hx
    exact ⟨(b,()),by rw [dh];exact ⟨_,[],rfl,by rw [lM],by rw [dh]⟩⟩
  · next hu=>
    cases hr
    obtain ⟨s,rfl,_,hs⟩:=DataW.trod_string hu hx
    refine ⟨(s.data.toList,()),by rw [dh];exact ⟨_,[],rfl,by rw [lM];exact ⟨by simp,by simpa using hs⟩,by rw [dh]⟩⟩
  · next e hu=>
    split at hr
    · next s hs=>
      split at hr
      · next hb=>
        cases hr
        rw [Bool.and_eq_true] at hb
        have hlen:=Nat.eq_of_beq_eq_true hb.1
        have hpos:1≤s.len:=by simpa [Nat.ble_eq] using hb.2
        rcases DataW.trod_slice hu hx with ⟨rfl,_⟩|⟨a,len,cap,elems,rest,k,_,rfl,_,hbase,hle,hmax,hel,hrow,_,_⟩
        · exact ⟨([],()),by rw [dh];exact ⟨_,[],rfl,by rw [lM];exact ⟨by simp, .inl ⟨rfl,none,0,rfl⟩⟩,by rw [dh]⟩⟩
        · by_cases h0:len=0
          · subst h0
            exact ⟨([],()),by rw [dh];exact ⟨_,[],rfl,by rw [lM];exact ⟨by simp, .inl ⟨rfl,some a,cap,rfl⟩⟩,by rw [dh]⟩⟩
          · have each:∀ i,i<len→∃ (ys:List Value) (z:s.den),w.cells? base (a.add (i*P.cellsOf e)) (P.cellsOf e)=some ys∧dh w.heap (fun b=>b<w.heap.size) s ys z:=by
             intro i hi
             have h1:=hrow i hi
             rw [List.getElem?_eq_getElem (by omega)] at h1
             obtain ⟨ys,hys,hy2⟩:=Option.bind_eq_some_iff.1 h1
             obtain ⟨z,hz⟩:=aru n e s hs k base spare held ys _ hy2
             exact ⟨ys,z,hys,hz⟩
            obtain ⟨ys0,z0,hc0,hz0⟩:=each 0 (by omega)
            obtain ⟨_,hl0,hcell0⟩:=World.cells?_some hc0
            have arv:=hcell0 0 (by omega)
            simp only [Nat.zero_mul,Addr.add,if_true] at arv
            have aIg:∃ v,ys0[0]? =some v:=⟨ys0[0]'(by omega),by simp [show 0<ys0.length by omega]⟩
            obtain ⟨v0,hv0⟩:=aIg
            rw [hv0] at arv
            unfold World.cell? at arv
            split at arv
            · next c ty fz hblk=>
              split at arv
              · cases arv
              · next hsp=>
                have hspot:a.spot=none:=by cases h:a.spot with|none=>rfl|some q=>rw [h] at hsp;simp at hsp
                have ha:a=⟨a.block,a.off,none⟩:=by cases a;simp at hspot;rw [hspot]
                have hb':a.block<w.heap.size:=by
                 obtain ⟨hlt,_⟩:=Array.getElem?_eq_some_iff.1 hblk
                 exact hlt
                have rows:∀ i,i<len→∃ z:s.den,dh w.heap (fun b=>b<w.heap.size) s ((c.toList.drop (a.off+i*s.len)).take s.len) z:=by
                 intro i hi
                 obtain ⟨ys,z,hcs,hz⟩:=each i hi
                 obtain ⟨_,hl,hcell⟩:=World.cells?_some hcs
                 refine ⟨z,?_⟩
                 have:(c.toList.drop (a.off+i*s.len)).take s.len=ys:=by
                  refine List.ext_getElem? fun j=>?_
                  rcases Nat.lt_or_ge j s.len with hj|hj
                  · rw [List.getElem?_take_of_lt hj,List.getElem?_drop]
                    have h2:=hcell j (by omega)
                    have hadd:=add_add a hspot (i*P.cellsOf e) j
                    rw [← hlen] at hadd h2
                    rw [hadd] at h2
                    unfold World.cell? at h2
                    simp only [hblk,Option.isSome_none,Bool.false_eq_true,if_false] at h2
                    rw [← h2]
                    simp
                  · rw [List.getElem?_eq_none (by simp;omega),List.getElem?_eq_none (by omega)]
                 rw [this];exact hz
                obtain ⟨l,hll,hlq⟩:=aCA len rows
                refine ⟨(l,()),by rw [dh];exact ⟨_,[],rfl,by rw [lM];exact ⟨by omega, .inr ⟨a.block,a.off,cap,c,ty,fz,by rw [hll,← ha],by omega,hb',hblk,hlq⟩⟩,by rw [dh]⟩⟩
            · cases arv
      · cases hr
    · cases hr
  · next fs hu=>
    split at hr
    · next r' hf=>
      split at hr
      · next hb=>
        split at hr
        · next hall=>
          cases hr
          obtain ⟨xs,k,_,_,hcl,hxl,hparts⟩:=DataW.trod_struct hu hx
          have hlen:=Nat.eq_of_beq_eq_true hb
          have:=auD (h:=w.heap) (S:=fun b=>b<w.heap.size) cs (fun _ _ _ _ _=>trivial) fs.toList 0 _ hf ?_
          · obtain ⟨y,hy⟩:=this
            refine ⟨y,?_⟩
            rw [List.drop_zero,List.take_of_length_le (by omega)] at hy
            exact hy
          · intro g hg s hs
            have hg2:=List.all_eq_true.1 hall g hg
            rw [hs] at hg2
            have hsl:=Nat.eq_of_beq_eq_true hg2
            obtain ⟨i,hi,hgi⟩:=List.mem_iff_getElem.1 hg
            have hp:=hparts i g (by rw [← hgi];simp [show i<fs.size by simpa using hi])
            rw [List.getElem?_eq_getElem (by simp at hi;omega)] at hp
            rw [hsl]
            exact aru n g.type s hs k base spare held _ _ hp
        · cases hr
      · cases hr
    · cases hr
  · cases hr
end Go.Fw
namespace Go.Fw
open Go
variable {P:Program} {H:Type} {enc:TypeId×Value→H} {w:World}
def CT.csh:CT→jW
 | .int k=> .int k
 | .bool=> .bool
 | .str=> .str
 | .sl e r=> .sl e r false
def toC:(c:CT)→c.den→c.csh.den
 | .int _,x=>x
 | .bool,x=>x
 | .str,x=>x
 | .sl _ _,x=>x
def aP.shs:aP→List jW
 | .nil=>[]
 | .cons c r=>c.csh::r.shs
def toCs:(r:aP)→r.den→xq r.shs
 | .nil,_=>()
 | .cons c r,x=>(toC c x.1,toCs r x.2)
theorem axL (X:V):∀ (r:aP) (vs:List Value) (x:r.den),dh X.w.heap (X.eU false) r vs x→ay X (jR r.shs (toCs r x)) vs
 | .nil,vs,x,h=>by rw [dh] at h;subst h;trivial
 | .cons c r,vs,(x,y),h=>by
   rw [dh] at h
   obtain ⟨v,vs',rfl,h1,h2⟩:=h
   refine ⟨?_,axL X r vs' y h2⟩
   cases c with
   |int k=>exact h1
   |bool=>exact h1
   |str=>exact h1
   |sl e r=>exact h1
def aDw (P:Program) (t:TypeId):Option dP:=
 match rowOf P 64 t with
 |some r=>match P.underlying t with
  |some (.struct _)=>some (.agg r.shs)
  |some (.array _ _)=>none
  |_=>match r with
   | .cons c .nil=>some (.one c.csh)
   |_=>none
 |none=>none
def abG (P:Program):List TypeId→Option (List dw)
 |[]=>some []
 |t::ts=>match aDw P t,abG P ts with
  |some s,some l=>some (.v s::l)
  |_,_=>none
def start (w:World):V:=⟨w,w.heap.size,fun b=>b<w.heap.size,fun _=>undef,fun _=>none⟩
theorem aGo {t:TypeId} {s:dP} (hs:aDw P t=some s) {base base':Nat} {sp:Nat→Bool} {hd:Bool} {v:Value} {d:DataW H} {p:List MemPlace}
 (ht:DataW.Trod enc P w base sp hd t v d p) (hv:Value.okWide P w .any base' t v):∃ x:s.den,gy (start w) (s.val x) v:=by
 unfold aDw at hs
 split at hs
 · next r hr=>
   obtain ⟨m,hm⟩:=ht
   obtain ⟨y,hy⟩:=aru 64 t r hr m base sp hd _ _ hm
   have hy':dh (start w).w.heap ((start w).eU false) r v.cells.toList y:=
    dh.mono (fun b hb=>⟨⟨⟨hb,fun _=>hb,fun o x hx=>by cases hx⟩,fun e=>by cases e⟩,rfl⟩) r _ y hy
   unfold Value.okWide at hv
   split at hs
   · next fs hu=>
     cases hs
     rw [hu] at hv
     obtain ⟨cs,rfl,_,_⟩:=hv
     exact ⟨toCs r y,cs,rfl,axL (start w) r _ y hy'⟩
   · cases hs
   · next hns hna=>
     split at hs
     · next c=>
       cases hs
       have hcell:v.cells=#[v]:=by
        cases hv2:v<;>first
         |rfl
         |(exfalso
           rw [hv2] at hv
           split at hv
           · next hu=>exact hns _ hu
           · next hu=>exact hna _ _ hu
           · unfold Go.Cell.okWide at hv
             split at hv<;>first|(rename_i h1 h2;cases h2;done)|(rename_i h2;cases h2;done)|skip
             unfold Go.Cell.ok at hv
             split at hv<;>first|(rename_i h1 h2;cases h2;done)|exact hv)
       have:=axL (start w) _ _ y hy'
       rw [hcell] at this
       exact ⟨toC c y.1,this.1⟩
     · cases hs
 · cases hs
theorem aA4:∀ (ts:List TypeId) (sh:List dw),abG P ts=some sh→∀ {base base':Nat} {sp:Nat→Bool} {hd:Bool} (vs:List Value) (ds:List (DataW H)) (p:List MemPlace),
 DataW.TrodAll enc P w base sp hd ts vs ds p→(∀ (j:Nat) t v,ts[j]? =some t→vs[j]? =some v→Value.okWide P w .any base' t v)→∃ x:bn sh,wX (start w) (Hz sh x) vs
 |[],sh,hs,_,_,_,_,vs,ds,p,h,_=>by
  cases hs
  cases vs with
  |nil=>exact ⟨(),trivial⟩
  |cons v vs=>cases ds<;>simp [DataW.TrodAll] at h
 |t::ts,sh,hs,base,base',sp,hd,vs,ds,p,h,hok=>by
  rw [abG] at hs
  split at hs
  · next s l h1 h2=>
    cases hs
    cases vs with
    |nil=>cases ds<;>simp [DataW.TrodAll] at h
    |cons v vs=>
     cases ds with
     |nil=>simp [DataW.TrodAll] at h
     |cons d ds=>
      obtain ⟨a,b,g1,g2,_⟩:=h
      obtain ⟨x,hx⟩:=aGo h1 g1 (hok 0 t v rfl rfl)
      obtain ⟨y,hy⟩:=aA4 ts l h2 vs ds b g2 fun j t' v' ht' hv'=>hok (j+1) t' v' (by simpa using ht') (by simpa using hv')
      exact ⟨(x,y),hx,hy⟩
  · cases hs
mutual
theorem CT.Xo:∀ (c:CT),c.beq c=true
 | .int k=>by simp [CT.beq]
 | .bool=>rfl
 | .str=>rfl
 | .sl e r=>by simp [CT.beq,aP.Xo r]
theorem aP.Xo:∀ (r:aP),r.beq r=true
 | .nil=>rfl
 | .cons c r=>by simp [aP.beq,CT.Xo c,aP.Xo r]
end
theorem azc:∀ (c:jW) (x:c.den),c.read (c.cell x)=some x
 | .int k,x=>by simp [jW.cell,jW.read]
 | .bool,x=>rfl
 | .str,x=>rfl
 | .sl e r fr,l=>by
   simp only [jW.cell,jW.read,Nat.beq_refl]
   have h1:abB fr fr=true:=by cases fr<;>rfl
   have h2:r.beq r=true:=aP.Xo r
   rw [h1]
   simp only [Bool.and_self]
   rw [dif_pos h2]
   rfl
 | .nil,x=>rfl
 | .ref o,x=>by simp [jW.cell,jW.read]
 | .junk,x=>rfl
theorem auE:∀ (l:List jW) (x:xq l),oq l (jR l x)=some x
 |[],_=>rfl
 |c::r,x=>by rw [jR,oq,azc c x.1,auE r x.2]
theorem aA5:∀ (ts:List TypeId) (l:List dw),abG P ts=some l→∀ (x:bn l),Vg l (Hz l x)=some x
 |[],l,h,x=>by cases h;rfl
 |t::ts,l,h,x=>by
  rw [abG] at h
  split at h
  · next s r h1 h2=>
    cases h
    have ih:=aA5 ts r h2 x.2
    cases s with
    |one c=>
     have e:(dw.v (.one c)).read ((dw.v (.one c)).val x.1)=some x.1:=azc c x.1
     rw [Hz,Vg,ih,e]
    |agg l=>
     have e:(dw.v (.agg l)).read ((dw.v (.agg l)).val x.1)=some x.1:=auE l x.1
     rw [Hz,Vg,ih,e]
  · cases h
def axM:Out:=⟨[(false,[.plain (.bool true)])],none⟩
theorem aEx {G:qU} {f:FuncId} {fn:Func} {sh:List dw} {F:bn sh→Prop×Out} (hcon:aA P G f (aad sh F)) (hsh:abG P fn.params.toList=some sh)
 (hF:∀ x,bP sh x→(F x).1∧(F x).2=axM) (hG:G.ok w) {base base':Nat} {sp:Nat→Bool} {hd:Bool} {args:Array Value} {ds:List (DataW H)} {p:List MemPlace}
 (hA:DataW.TrodAll enc P w base sp hd fn.params.toList args.toList ds p) (hok:∀ (j:Nat) t v,fn.params[j]? =some t→args[j]? =some v→Value.okWide P w .any base' t v):
 Calls P f args w fun e w'=>e= .returned (.bool true)∧w'.os=w.os∧w'.output=w.output∧w.heap.size≤w'.heap.size∧∀ b,b<w.heap.size→w'.heap[b]? =w.heap[b]? :=by
 obtain ⟨x,hx⟩:=aA4 _ _ hsh _ _ _ hA fun j t v ht hv=>hok j t v (by simpa using ht) (by simpa using hv)
 have hin:=OH sh x _ hx
 obtain ⟨hp,ho⟩:=hF x hin
 have hc:aad sh F (Hz sh x)=some ((F x).1,axM):=by
  unfold aad
  rw [aA5 _ _ hsh x]
  simp only [← ho]
 refine (hcon (Hz sh x) _ _ 0 _ args w hc hp hG hx).mono ?_
 rintro e w' ⟨v,vals,rfl,h1,h2,h3,h4,h5,h6,_,_⟩
 have hv:v= .bool true:=h6
 exact ⟨by rw [hv],h1,h3,h4,h5⟩
theorem aFn {w w':World} (h1:w'.os=w.os) (h3:w'.output=w.output) (h5:∀ b,b<w.heap.size→w'.heap[b]? =w.heap[b]?) (may:MemPlace→Prop):w.keptBut w' may:=by
 refine ⟨h1,h3,fun i hi=>?_⟩
 rw [h5 i hi]
 cases hw:w.heap[i]? with
 |none=>trivial
 |some o=>cases o<;>simp
theorem aFo {w w':World} (h5:∀ b,b<w.heap.size→w'.heap[b]? =w.heap[b]?) {p:MemPlace} (hp:p.block<w.heap.size):w.sameAt w' p:=by
 cases p with
 |cell b off=>
  show w'.cell? _=w.cell? _
  unfold World.cell?
  simp only
  rw [h5 b hp]
 |map b=>exact h5 b hp
end Go.Fw
namespace Go.Fw
open Go
variable {P:Program} {G:qU} {f:FuncId}
theorem aB2 {args:List Arg} {i:Nat} {x:Arg} {p:Nat} (hp:p / 64≠i):fF (args.set i x) p=fF args p:=by
 unfold fF
 rw [List.getElem?_set_ne (fun h=>hp h.symm)]
theorem aly {args:List Arg} {i:Nat} {e:TypeId} {r:aP} {l:List r.den} (hi:i<args.length) (p:Nat) (hp:p / 64=i):fF (args.set i (.own e r l)) p=if p=i*64+49 then some (.arr e r l false) else none:=by
 unfold fF
 rw [hp,List.getElem?_set_self hi]
 by_cases h:p=i*64+49
 · subst h
   have:Nat.beq ((i*64+49)%64) 49=true:=by
    have:(i*64+49)%64=49:=by omega
    rw [this];rfl
   simp [this]
 · have:Nat.beq (p%64) 49=false:=by
    cases hb:Nat.beq (p%64) 49 with
    |false=>rfl
    |true=>have:=Nat.eq_of_beq_eq_true hb;omega
   simp [this,h]
theorem aCC {args:List Arg} {i:Nat} {v:SV} (ha:args[i]? =some (.sv v)) (p:Nat) (hp:p / 64=i):fF args p=none:=by
 unfold fF
 rw [hp,ha]
def abH (γ:Nat→Value) (i:Nat) (o:Nat):Value:=if o=i*64+49 then .slice none 0 0 else γ o
theorem zn.mono {X Y:V} (h:X.le Y):∀ (a:Arg) (v:Value),zn X a v→zn Y a v
 | .sv x,v,H=>gy.mono h x v H
 | .kp cs,v,H=>bW.mono h (.fA cs 0) v H
 | .fn f caps,v,H=>bW.mono h (.fn f caps) v H
 | .own _ _ _,_,H| .ptr _,_,H=>H.elim
theorem abv.mono {X Y:V} (h:X.le Y) (i:Nat):∀ (a:Arg) (v:Value),abv X i a v→abv Y i a v
 | .own _ _ _,v,H=>bQ.mono h (.ref (i*64+49)) v H
 | .ptr _,v,H=>bW.mono h (.fE (i*64+48) 0) v H
 | .sv x,v,H=>zn.mono h (.sv x) v H
 | .kp cs,v,H=>zn.mono h (.kp cs) v H
 | .fn f caps,v,H=>zn.mono h (.fn f caps) v H
theorem Hy.nil {X Y:V} (h:X.le Y) {e:TypeId} {r:aP}:∀ (args:List Arg) (vs:List Value) (j i:Nat),args[i]? =some (.sv (.one .nil))→
 Y.aj ((j+i)*64+49)=some (.arr e r [] false)→Y.γ ((j+i)*64+49)= .slice none 0 0→Hy X j args vs→Hy Y j (args.set i (.own e r [])) vs
 |[],[],_,i,ha,_,_,_=>by simp at ha
 |[],_::_,_,_,_,_,_,H=>H.elim
 |_::_,[],_,_,_,_,_,H=>H.elim
 |a::args,v::vs,j,0,ha,ho,hγ,⟨h1,h2⟩=>by
  have ha:a= .sv (.one .nil):=by simpa using ha
  subst ha
  have hv:v= .slice none 0 0:=h1
  refine ⟨⟨⟨e,r,[],false,ho⟩,?_,by rw [hv];rfl⟩,?_⟩
  · rw [hv];exact hγ.symm
  · show Hy Y (j+1) args vs
    clear h1 ha ho hγ hv
    generalize j+1=k at h2
    induction args generalizing k vs with
    |nil=>cases vs with
     |nil=>trivial
     |cons _ _=>exact h2.elim
    |cons b args ih=>cases vs with
     |nil=>exact h2.elim
     |cons u vs=>exact ⟨abv.mono h k b u h2.1,ih vs (k+1) h2.2⟩
 |a::args,v::vs,j,i+1,ha,ho,hγ,⟨h1,h2⟩=>by
  have e1:j+(i+1)=j+1+i:=by omega
  rw [e1] at ho hγ
  exact ⟨abv.mono h j a v h1,Hy.nil h args vs (j+1) i (by simpa using ha) ho hγ h2⟩
theorem aG.aGS {con alx:eF} (i:Nat) (e:TypeId) (r:aP) (hr:0<r.len) (h:aG P G f con)
 (hc:∀ args p ρ,alx args=some (p,ρ)→p→args[i]? =some (.sv (.one .nil))∧(∀ t,tH (ρ.bg t) (i*64+49)=none)∧∃ q,con (args.set i (.own e r []))=some (q,ρ)∧q):aG P G f alx:=by
 intro args p ρ hcon hp
 obtain ⟨ha,hF,q,hq1,hq⟩:=hc args p ρ hcon hp
 have hlen:i<args.length:=by
  have:=List.getElem?_eq_some_iff.1 ha
  exact this.1
 obtain ⟨hex,hcall⟩:=h _ q ρ hq1 hq
 refine ⟨hex,fun k S γ vs w hG hrep xY hsep hfree=>?_⟩
 have hO:∀ o,o≠i*64+49→fF (args.set i (.own e r [])) o=fF args o:=by
  intro o ho
  by_cases hd:o / 64=i
  · rw [aly hlen o hd,aCC ha o hd,if_neg ho]
  · exact aB2 hd
 have hN:fF (args.set i (.own e r [])) (i*64+49)=some (.arr e r [] false):=by
  rw [aly hlen _ (by omega),if_pos rfl]
 have hN':fF args (i*64+49)=none:=aCC ha _ (by omega)
 have hγN:abH γ i (i*64+49)= .slice none 0 0:=if_pos rfl
 have hγ:∀ o,o≠i*64+49→abH γ i o=γ o:=fun o ho=>if_neg ho
 have hne:∀ o x,fF args o=some x→o≠i*64+49:=fun o x ho e=>by rw [e,hN'] at ho;cases ho
 have le:V.le ⟨w,w.heap.size,S,γ,fF args⟩ ⟨w,w.heap.size,S,abH γ i,fF (args.set i (.own e r []))⟩:=by
  refine ⟨Nat.le_refl _,fun b hb=>⟨⟨hb.1,hb.2.1,fun o x hx=>?_⟩,rfl⟩,fun o cs hx=>⟨⟨cs,?_⟩,hγ o (hne o _ hx)⟩,fun o e r l fr hx=>⟨⟨l,fr,?_⟩,hγ o (hne o _ hx)⟩⟩
  · by_cases ho:o=i*64+49
    · show blk (abH γ i o)≠some b
      rw [ho,hγN];intro hh;cases hh
    · show blk (abH γ i o)≠some b
      rw [hγ o ho]
      exact hb.2.2 o x ((hO o ho).symm.trans hx)
  · exact (hO o (hne o _ hx)).trans hx
  · exact (hO o (hne o _ hx)).trans hx
 have hbl:∀ b,Fv (fF (args.set i (.own e r []))) (abH γ i) b↔Fv (fF args) γ b:=by
  intro b
  constructor
  · rintro ⟨o,x,h1,h2⟩
    by_cases ho:o=i*64+49
    · rw [ho,hγN] at h2;cases h2
    · exact ⟨o,x,(hO o ho)▸h1,(hγ o ho)▸h2⟩
  · rintro ⟨o,x,h1,h2⟩
    exact ⟨o,x,(hO o (hne o x h1)).trans h1,by rw [hγ o (hne o x h1)];exact h2⟩
 refine Calls.mono (hcall k S (abH γ i) vs w hG (Hy.nil (Y:=⟨w,w.heap.size,S,abH γ i,fF (args.set i (.own e r []))⟩) le args vs.toList 0 i ha (by rw [Nat.zero_add];exact hN) (by rw [Nat.zero_add];exact hγN) hrep) ?_ ?_ hfree) ?_
 · intro o x hx
   by_cases ho:o=i*64+49
   · subst ho
     rw [hN] at hx
     cases hx
     refine ⟨⟨[],?_,hr,fun b hb=>?_,fun j x hj=>by simp at hj⟩,fun b hb=>?_⟩
     · show w.ownsRow 0 e r.len (abH γ i (i*64+49)) 0 []
       rw [hγN];exact World.ownsRow_nil w 0 e r.len
     · have hb:blk (abH γ i (i*64+49))=some b:=hb
       rw [hγN] at hb;cases hb
     · rw [hγN] at hb;cases hb
   · have hx':fF args o=some x:=(hO o ho)▸hx
     have:=xY o x hx'
     refine ⟨dG.mono le o x (fun b _=>rfl) (hγ o ho) this.1,fun b hb=>this.2 b ((hγ o ho)▸hb)⟩
 · intro o x q y b hx hy hoq hb
   by_cases ho:o=i*64+49
   · rw [ho,hγN] at hb;cases hb
   by_cases hq':q=i*64+49
   · rw [hq',hγN];intro hh;cases hh
   rw [hγ o ho] at hb
   rw [hγ q hq']
   exact hsep o x q y b ((hO o ho)▸hx) ((hO q hq')▸hy) hoq hb
 · rintro en w' ⟨t,ht,v,γ',h1,h2,h3,h4,h5,h6,h7,h8,h9,h10⟩
   have aDx:∀ o x,tH (ρ.bg t) o=some x→o≠i*64+49:=fun o x ho e=>by rw [e,hF t] at ho;cases ho
   have hL:zo S (args.set i (.own e r [])) (ρ.bg t) (abH γ i)=zo S args (ρ.bg t) γ:=by
    funext b
    apply propext
    constructor
    · rintro ⟨a1,a2⟩
      refine ⟨a1.imp_right (hbl b).1,fun q y hy=>?_⟩
      have:=a2 q y hy
      rwa [hγ q (aDx q y hy)] at this
    · rintro ⟨a1,a2⟩
      refine ⟨a1.imp_right (hbl b).2,fun q y hy=>?_⟩
      rw [hγ q (aDx q y hy)]
      exact a2 q y hy
   rw [hL] at h7 h8 h10
   refine ⟨t,ht,v,γ',h1,h2,h3,h4,h5,fun b hb hn=>h6 b hb (fun h=>hn ((hbl b).1 h)),h7,fun o x hx=>?_,h9,fun o x hx=>?_⟩
   · obtain ⟨a1,a2⟩:=h8 o x hx
     refine ⟨a1,fun b hb=>?_⟩
     obtain ⟨b1,b2,b3⟩:=a2 b hb
     refine ⟨b1,b2.imp_right (hbl b).1,fun q y hy=>?_⟩
     have:=b3 q y hy
     rwa [hγ q (aDx q y hy)] at this
   · obtain ⟨a1,a2⟩:=h10 o x hx
     exact ⟨a1.trans (hγ o (aDx o x hx)),a2⟩
theorem aEy {l:List jW} {e:TypeId} {r:aP} {rest:List dO} {gG:List fG} {F:bV (.ptr l:: .own e r::rest)→Prop×(cu gG×bZ (.ptr l:: .own e r::rest)→Prop)}
 {F':bV (.ptr l:: .p (.v (.one .nil))::rest)→Prop×(cu gG×bZ (.ptr l:: .own e r::rest)→Prop)} (hr:0<r.len) (h:aG P G f (dM (.ptr l:: .own e r::rest) gG F))
 (hF:∀ a x,(F' (a,(),x)).1→(F (a,[],x)).1) (hF2:∀ a x,(F' (a,(),x)).1→(F' (a,(),x)).2=(F (a,[],x)).2):aG P G f (dM (.ptr l:: .p (.v (.one .nil))::rest) gG F'):=by
 refine aG.aGS 1 e r hr h fun args p ρ hcon hp=>?_
 match args,hcon with
 |[],hcon=>simp [dM,kL] at hcon
 |[a],hcon=>
  have:kL (.ptr l:: .p (.v (.one .nil))::rest) [a]=none:=by
   simp only [kL]
   split<;>simp_all
  simp [dM,this] at hcon
 |a::b::args,hcon=>
  cases ha:(dO.ptr l).read a with
  |none=>simp [dM,kL,ha] at hcon
  |some a'=>
  cases hb:(dO.p (.v (.one .nil))).read b with
  |none=>simp [dM,kL,ha,hb] at hcon
  |some b'=>
  cases hx:kL rest args with
  |none=>simp [dM,kL,ha,hb,hx] at hcon
  |some x=>
   have hb2:b= .sv (.one .nil):=by
    cases b with
    |sv s=>cases s with
     |one c=>cases c with
      |nil=>rfl
      |int k n=>cases hb
      |bool k=>cases hb
      |str k=>cases hb
      |sl e r l fr=>cases hb
      |ref o=>cases hb
      |junk=>cases hb
     |agg cs=>cases hb
    |_=>cases hb
   subst hb2
   simp only [dM,kL,ha,hb,hx] at hcon
   have hcon:=Option.some.inj hcon
   have h1:(F' (a',(),x)).1=p:=congrArg Prod.fst hcon
   have h2:(⟨cu gG×bZ (.ptr l:: .own e r::rest),(F' (a',(),x)).2,fun t=>⟨kK gG t.1,none⟩,fun t=>ou (.ptr l:: .own e r::rest) t.2⟩:YP)=ρ:=congrArg Prod.snd hcon
   have hp':(F' (a',(),x)).1:=h1▸hp
   subst h2
   refine ⟨rfl,fun t=>rfl,(F (a',[],x)).1,?_,hF a' x hp'⟩
   · have ho:(dO.own e r).read (.own e r [])=some []:=by
      unfold dO.read
      simp only [Nat.beq_refl]
      rw [dif_pos (aP.Xo r)]
      rfl
     simp only [List.set_cons_succ,List.set_cons_zero,dM,kL,ha,ho,hx]
     have:=hF2 a' x hp'
     exact congrArg (fun z=>some ((F (a',[],x)).1,(⟨cu gG×bZ (.ptr l:: .own e r::rest),z,fun t=>⟨kK gG t.1,none⟩,fun t=>ou (.ptr l:: .own e r::rest) t.2⟩:YP))) this.symm
end Go.Fw
namespace Go.Fw
open Go
theorem af {b:Bool} {A B:Prop} (h1:b=true→A) (h2:b=false→B):cond b A B:=by
 cases b
 · exact h2 rfl
 · exact h1 rfl
theorem iL (z:Int) (h:-9223372036854775808≤z∧z≤9223372036854775807):IntKind.i64.wrap z=z:=IntWalk.i64_in z (by omega)
theorem maxLen_eq:maxLen=9223372036854775807:=by decide
theorem dS:big=4294967296:=rfl
theorem getD_mem {α:Type} {l:List α} {n:Nat} {d:α} (h:n<l.length):l.getD n d∈l:=by
 rw [List.getD_eq_getElem?_getD,List.getElem?_eq_getElem h,Option.getD_some];exact List.getElem_mem h
end Go.Fw
namespace Go.Fw
open Go
end Go.Fw
namespace Go.Fw
open Go
variable {P:Program}
end Go.Fw
namespace Go.Fw
open Go
variable {P:Program}
theorem aB3 {s:dO} {sh:List dO}:∀ {args:List Arg} {d:bV (s::sh)},kL (s::sh) args=some d→∃ x xs,args=x::xs∧s.read x=some d.1∧kL sh xs=some d.2
 |[],_,h=>by simp [kL] at h
 |x::xs,d,h=>by
  rw [kL] at h
  split at h
  · next a b h1 h2=>cases h;exact ⟨x,xs,rfl,h1,h2⟩
  · cases h
theorem aDy:∀ {args:List Arg} {d:bV []},kL [] args=some d→args=[]
 |[],_,_=>rfl
 |_::_,_,h=>by simp [kL] at h
end Go.Fw
namespace Go.Fw
open Go
variable {P:Program} {H:Type} {enc:TypeId×Value→H} {w:World}
theorem aie (hl:laidOutB P=true) {base:Nat} {sp':Nat→Bool} {W W':World}:∀ (ts:List TypeId) (_:ts.all (fun t=>P.readableRec t&&decide (t<P.types.size))=true)
 (vs:List Value) (ds:List (DataW H)) (ps:List MemPlace),DataW.TrodAll enc P W base (fun _=>true) true ts vs ds ps→(∀ p∈ps,W.sameAt W' p)→(∀ p∈ps,sp' p.block=true)→DataW.TrodAll enc P W' base sp' true ts vs ds ps
 |[],_,vs,ds,ps,h,_,_=>by
  cases vs<;>cases ds<;>simp [DataW.TrodAll] at h ⊢
  exact h
 |t::ts,ht,vs,ds,ps,h,h1,h2=>by
  rw [List.all_cons,Bool.and_eq_true,Bool.and_eq_true] at ht
  cases vs with
  |nil=>cases ds<;>simp [DataW.TrodAll] at h
  |cons v vs=>
   cases ds with
   |nil=>simp [DataW.TrodAll] at h
   |cons d ds=>
    obtain ⟨a,b,g1,g2,rfl⟩:=h
    exact ⟨a,b,WideElems.Trod_stays hl ht.1.1 (of_decide_eq_true ht.1.2) g1 (fun p hp=>h1 p (List.mem_append_left _ hp)) (fun p hp=>h2 p (List.mem_append_left _ hp)),
     aie hl ts ht.2 vs ds b g2 (fun p hp=>h1 p (List.mem_append_right _ hp)) (fun p hp=>h2 p (List.mem_append_right _ hp)),rfl⟩
theorem trodAll_length {base:Nat} {sp:Nat→Bool} {hd:Bool} {W:World}:∀ (ts:List TypeId) (vs:List Value) (ds:List (DataW H)) (ps:List MemPlace),DataW.TrodAll enc P W base sp hd ts vs ds ps→ds.length=ts.length
 |[],vs,ds,ps,h=>by cases vs<;>cases ds<;>simp [DataW.TrodAll] at h ⊢
 |t::ts,vs,ds,ps,h=>by
  cases vs with
  |nil=>cases ds<;>simp [DataW.TrodAll] at h
  |cons v vs=>
   cases ds with
   |nil=>simp [DataW.TrodAll] at h
   |cons d ds=>
    obtain ⟨a,b,g1,g2,rfl⟩:=h
    simp [trodAll_length ts vs ds b g2]
theorem aFp {fn:Func} {s:ChangeSpec} {apart fresh handsOn again:Bool} {W W':World} {args:Array Value} {ds gs:List (DataW H)} {before:List MemPlace} {tb:TypeId}
 (hvars:s.vars=[]) (hspec:∀ l:List (DataW H),l.length=fn.params.toList.length→(s.fn H l).results=[.lit (.bool true)]∧(s.fn H l).args=l∧(s.fn H l).vars=[])
 (hres:fn.resultTypes=#[tb]) (hb:P.underlying tb=some .bool) (hl:laidOutB P=true) (hread:fn.params.toList.all (fun t=>P.readableRec t&&decide (t<P.types.size))=true)
 (hW:DataW.Whole enc P fn.params.toList s.vars apart W args.toList ds gs before) (hos:W'.os=W.os) (hout:W'.output=W.output) (hheap:∀ b,b<W.heap.size→W'.heap[b]? =W.heap[b]?):
 s.post enc P fn apart fresh handsOn again W args (.bool true) W':=by
 have hlt:=hW.lt
 have hW0:=hW
 obtain ⟨p,q,hA,hV,hpq,hz,hn⟩:=hW
 rw [hvars] at hV
 have hg:gs=[]∧q=[]:=by
  cases gs with
  |nil=>exact ⟨rfl,hV⟩
  |cons g gs=>simp [DataW.TrodVars] at hV
 obtain ⟨rfl,rfl⟩:=hg
 rw [List.append_nil] at hpq
 subst hpq
 have hlen:=trodAll_length _ _ _ _ hA
 obtain ⟨r1,r2,r3⟩:=hspec (ds++[]) (by simpa using hlen)
 rw [List.append_nil] at r1 r2 r3
 have hsame:∀ x∈before,W.sameAt W' x:=fun x hx=>aFo hheap (hlt x hx)
 have R:∀ (b:Nat) (sp:Nat→Bool) (hd:Bool),DataW.TrodAll enc P W' b sp hd fn.resultTypes.toList ((Value.bool true).resultList fn.resultTypes.size) [.lit (.bool true)] []:=by
  intro b sp hd
  rw [hres]
  exact ⟨[],[],⟨1,by simp [DataW.trod,Value.cells,hb]⟩,rfl,rfl⟩
 have A:∀ sp:Nat→Bool,(∀ x∈before,sp x.block=true)→DataW.TrodAll enc P W' 0 sp true fn.params.toList args.toList ds before:=fun sp hsp=>aie hl _ hread _ _ _ hA hsame hsp
 have hold:∀ x∈before,(fun b=>decide (b<W.heap.size)) x.block=true:=fun x hx=>by simpa using hlt x hx
 refine ⟨ds,[],before,[],before,[],hW0,?_,?_,?_,aFn hos hout hheap _,fun _=>⟨?_, .lit (.bool true)::ds,[],before,⟨before,[],?_,?_,by simp,?_,hn⟩,fun x hx _=>hx⟩⟩
 · rw [List.append_nil,r1];exact R _ _ _
 · rw [List.append_nil,r2];exact A _ hold
 · rw [List.append_nil,r3,hvars];rfl
 · intro j t r h1 h2
   rw [hres] at h1 h2
   match j with
   |0=>
    simp [Value.resultList] at h1 h2
    subst h1 h2
    simp [Value.okWide,hb,Go.Cell.okWide,Go.Cell.ok]
   |j+1=>simp at h1
 · exact ChangeShapes.trodAll_append (A _ (fun _ _=>rfl)) (R _ _ _)
 · rw [hvars];rfl
 · intro b off hp
   have hbl:=hlt _ hp
   have e:W'.frozen? ⟨b,off,none⟩=W.frozen? ⟨b,off,none⟩:=by
    unfold World.frozen?
    simp only
    rw [hheap b hbl]
   rw [e]
   exact hz b off hp
end Go.Fw
namespace Go.Fw
open Go
theorem law_lifted {H:Type} {enc:TypeId×Value→H} {C:Checked} {G:qU} {os:Os} {f:FuncId} {fn:Func} {s:ChangeSpec} {conds:List PathCond} {apart fresh handsOn again:Bool} {tb:TypeId} {sh:List dw} {F:bn sh→Prop×Out}
 (own:ownKnob C.prog.godebug=none) (started:os.Started) (noInit:C.prog.inits.idxOf? f=none) (hfn:C.prog.funcs[f]? =some fn)
 (witness:∃ (w:World) (tape:Tape) (i:Input),w.os=os∧(w.forCall tape i).Shaped C.prog∧i.vars=[]∧Input.okWide C.prog (w.forCall tape i) .any w.heap.size f i∧
   s.pre6 enc C.prog fn conds apart (w.forCall tape i).memory i.args∧({}:Assume).holds C.prog (lone (Frame.enter C.prog f i.args .normal) [] (w.forCall tape i)))
 (hcon:aA C.prog G f (aad sh F)) (hsh:abG C.prog fn.params.toList=some sh) (hF:∀ x,bP sh x→(F x).1∧(F x).2=axM) (hG:∀ w,G.ok w)
 (hvars:s.vars=[]) (hspec:∀ l:List (DataW H),l.length=fn.params.toList.length→(s.fn H l).results=[.lit (.bool true)]∧(s.fn H l).args=l∧(s.fn H l).vars=[])
 (hres:fn.resultTypes=#[tb]) (hb:C.prog.underlying tb=some .bool) (hl:laidOutB C.prog=true) (hread:fn.params.toList.all (fun t=>C.prog.readableRec t&&decide (t<C.prog.types.size))=true):
 ReturnsInHanded {} C os f .any (s.pre6 enc C.prog fn conds apart) (s.post enc C.prog fn apart fresh handsOn again):=by
 refine returnsInHanded_of_change own started noInit hfn witness ?_
 intro W base args ds gs before hval hW _ _
 have hW0:=hW
 obtain ⟨p,q,hA,_⟩:=hW
 refine (aEx hcon hsh hF (hG W) hA hval).mono ?_
 rintro e W' ⟨rfl,h1,h2,_,h3⟩
 exact ⟨_,rfl,aFp hvars hspec hres hb hl hread hW0 h1 h2 h3⟩
end Go.Fw
