import Derived.Test.YtgbobfdlafkijaaGreatFwD
import Derived.Test.YtgbobfdlafkijaaGreatFwB
import Derived.Test.YtgbobfdlafkijaaGreatFwA
import Derived.ChangeArms
import Derived.WideKeyArgs
import Derived.ChangeSame
import Derived.ChangeOld
import Derived.Handed
import Derived.IntWalk
import Derived.Laws.IdiomCopy
import Derived.ProofKit
namespace Go.Fw
open Go
variable {P:Program} {w0:World} {M:Nat→Prop} {T:Ext} {γ γ':Nat→Value} {st:St} {a:Act} {w w':World} {Θ:fU} {Γ:aN}
structure LJ where
 aoF:List aa3
 c:Shape
 v:Shape
structure Hints where
 own:Nat→Bool
 loops:Nat→Option LJ
 cuts:Nat→Option LJ
 upd:List Nat
 frz:Nat→List Pre
def Aj:Code→Option Nat
 | .region id _ _=>some id
 | .seq x y=>match Aj x with|some n=>some n|none=>Aj y
 | .cond _ x y=>match Aj x with|some n=>some n|none=>Aj y
 | .block _ x| .loop x=>Aj x
 |_=>none
def cutAt (H:Hints) (y:Code):Option LJ:=match Aj y with
 |some n=>H.cuts n
 |none=>none
def OA (Θ:fU) (Γ:aN) (H:Hints):Code→(Exit→St→Prop)→St→Prop
 | .skip,Q,st=>Q .normal st
 | .region id ops false,Q,st=>aaY (H.frz id) (runs Θ Γ H.own ops.toList (Q .normal) ops.toList) st
 | .region id ops true,Q,st=>aaY (H.frz id) (SY Θ Γ H.own H.upd ops.toList (Q .normal)) st
 | .seq x y,Q,st=>match cutAt H y with
   |none=>OA Θ Γ H x (fun e s=>match e with| .normal=>OA Θ Γ H y Q s|e=>Q e s) st
   |some sp=>match sp.c.read (only sp.c sp.v st) with
    |some x0=>∃ (J:sp.v.den→Prop),OA Θ Γ H x (fun e s=>match e with
      | .normal=>match settles s sp.aoF with
        |some s1=>match Nat.beq s1.n st.n,sp.c.read (only sp.c sp.v s1),sp.v.read (only sp.c sp.v s1) with
         |true,some x1,some y1=>x1=x0∧J y1
         |_,_,_=>False
        |none=>False
      |e=>Q e s) st∧∀ y1,J y1→OA Θ Γ H y Q (joint st.n sp.c sp.v x0 y1)
    |none=>False
 | .cond c x y,Q,st=>match st.ev c with
   | .sv (.one (.bool b))=>cond b (OA Θ Γ H x Q st) (OA Θ Γ H y Q st)
   |_=>False
 | .block id c,Q,st=>OA Θ Γ H c (fun e s=>match e with
   | .exit i=>match Nat.beq i id with|true=>Q .normal s|false=>Q (.exit i) s
   |e=>Q e s) st
 | .exit id,Q,st=>Q (.exit id) st
 | .ret,Q,st=>Q .ret st
 | .loop c,Q,st=>match Aj c with
   |some n=>match H.loops n with
    |some sp=>match settles st sp.aoF with
     |some s0=>match sp.c.read (only sp.c sp.v s0),sp.v.read (only sp.c sp.v s0) with
      |some x0,some y0=>∃ (I:sp.v.den→Prop) (μ:sp.v.den→Nat),I y0∧∀ y,I y→
        OA Θ Γ H c (fun e s=>match e with
         | .normal=>match settles s sp.aoF with
           |some s1=>match Nat.beq s1.n s0.n,sp.c.read (only sp.c sp.v s1),sp.v.read (only sp.c sp.v s1) with
            |true,some x1,some y1=>x1=x0∧I y1∧μ y1<μ y
            |_,_,_=>False
           |none=>False
         |e=>Q e s) (joint s0.n sp.c sp.v x0 y)
      |_,_=>False
     |none=>False
    |none=>False
   |none=>False
 |_,_,_=>False
theorem aa4 {G:mD} (hE:vO P G Θ Γ w0 M) (hm:P.follows .mixedOrders=true) (H:Hints):∀ (c:Code) (QA:Exit→St→Prop) (Q:Exit→Act→World→Prop) (st:St) (γ:Nat→Value) (a:Act) (w:World),
 Rel w0 M T γ st a w→OA Θ Γ H c QA st→(∀ e s γ' a' w',QA e s→Rel w0 M T γ' s a' w'→Q e a' w')→c.wp P Q a w:=by
 intro c
 induction c with
 |skip=>intro QA Q st γ a w h ha hQ;exact wp_skip (hQ _ _ _ _ _ ha h)
 |region id ops d=>
  intro QA Q st γ a w h ha hQ
  cases d with
  |false=>
   obtain ⟨s0,γ0,h0,hk0⟩:=JW (K:=runs Θ Γ H.own ops.toList (QA .normal) ops.toList) (H.frz id) st γ h ha
   exact amy hE h0 hk0 fun s γ' a' w' hK hR=>hQ _ _ _ _ _ hK hR
  |true=>
   obtain ⟨s0,γ0,h0,hk0⟩:=JW (K:=SY Θ Γ H.own H.upd ops.toList (QA .normal)) (H.frz id) st γ h ha
   exact apr hE hm h0 hk0 fun s γ' a' w' hK hR=>hQ _ _ _ _ _ hK hR
 |seq x y ihx ihy=>
  intro QA Q st γ a w h ha hQ
  rw [OA] at ha
  split at ha
  · refine wp_seq (ihx _ _ st γ a w h ha ?_)
    intro e s γ' a' w' hq hR
    cases e<;>first|exact ihy _ _ s γ' a' w' hR hq hQ|exact hQ _ _ _ _ _ hq hR
  · next sp hsp=>
    split at ha
    · next x0 hx=>
      obtain ⟨J,h1,h2⟩:=ha
      refine wp_seq (ihx _ _ st γ a w h h1 ?_)
      intro e s γ' a' w' hq hR
      cases e with
      |normal=>
       simp only at hq
       split at hq
       · next s1 hs1=>
         split at hq
         · next x1 y1 hsn hx1 hy1=>
           obtain ⟨rfl,hJ⟩:=hq
           obtain ⟨γ1,hR1⟩:=Rel.settles _ hR hs1
           have hR2:=hR1.joint hx1 hy1
           rw [Nat.eq_of_beq_eq_true hsn] at hR2
           exact ihy _ _ _ γ1 a' w' hR2 (h2 _ hJ) hQ
         · exact hq.elim
       · exact hq.elim
      |_=>exact hQ _ _ _ _ _ hq hR
    · exact ha.elim
 |cond c x y ihx ihy=>
  intro QA Q st γ a w h ha hQ
  rw [OA] at ha
  split at ha
  · next b hb=>
    have hv:a.eval c= .bool b:=by
     have:=iZ h c
     rw [hb] at this
     exact this
    refine wp_cond_split hv (fun e=>?_) (fun e=>?_)
    · subst e;exact ihx _ _ st γ a w h ha hQ
    · subst e;exact ihy _ _ st γ a w h ha hQ
  · exact ha.elim
 |block id c ih=>
  intro QA Q st γ a w h ha hQ
  refine wp_block (ih _ _ st γ a w h ha ?_)
  intro e s γ' a' w' hq hR
  cases e with
  |exit i=>
   simp only [Exit.inBlock]
   cases hb:Nat.beq i id with
   |true=>
    simp only [hb] at hq
    rw [if_pos (Nat.eq_of_beq_eq_true hb)]
    exact hQ _ _ _ _ _ hq hR
   |false=>
    simp only [hb] at hq
    rw [if_neg (by rintro rfl;simp at hb)]
    exact hQ _ _ _ _ _ hq hR
  |_=>exact hQ _ _ _ _ _ hq hR
 |loop c ih=>
  intro QA Q st γ a w h ha hQ
  rw [OA] at ha
  split at ha
  · split at ha
    · next sp hsp=>
      split at ha
      · next s0 hs0=>
        split at ha
        · next x0 y0 hx hy=>
          obtain ⟨I,μ,h0,hI⟩:=ha
          obtain ⟨γ0,hR0⟩:=Rel.settles _ h hs0
          let J:sp.v.den→Act→World→Prop:=fun y a' w'=>∃ γ',Rel w0 M T γ' (joint s0.n sp.c sp.v x0 y) a' w'
          have key:∀ (n:Nat) (y:sp.v.den),μ y=n→I y→∀ a' w',J y a' w'→∀ (b:Frame) (k:List Item) (cs:List Frame),
           ∃ e a'' w'',Q e a'' w''∧Arrives P (lone (b.at a' (.code c:: .inLoop c::k)) cs w') b k cs e a'' w'':=by
           intro n
           induction n using Nat.strongRecOn with
           |_ n ihn=>
            intro y hμ hy' a' w' ⟨γ',hR⟩ b k cs
            have hbody:=ih _ (Exit.then (fun a2 w2=>∃ y2,I y2∧μ y2<μ y∧J y2 a2 w2) Q) _ γ' a' w' hR (hI y hy') ?_
            · obtain ⟨e,a1,w1,hq,harr⟩:=hbody b (.inLoop c::k) cs
              cases e with
              |normal=>
               obtain ⟨y2,hI2,hlt,hJ2⟩:=hq
               obtain ⟨e2,a2,w2,hq2,arN⟩:=ihn (μ y2) (hμ▸hlt) y2 rfl hI2 a1 w1 hJ2 b k cs
               exact ⟨e2,a2,w2,hq2, .of_steps (Steps.trans harr (.one step_inLoop)) arN⟩
              |exit id=>exact ⟨_,a1,w1,hq, .pass (x:= .inLoop c) rfl (fun _ _=> .inl (by simp)) harr⟩
              |goto l=>exact ⟨_,a1,w1,hq, .pass (x:= .inLoop c) rfl (fun _ _=> .inl (by simp)) harr⟩
              |ret=>exact ⟨_,a1,w1,hq, .pass (x:= .inLoop c) rfl (fun _ _=> .inl (by simp)) harr⟩
              |panic ch=>exact ⟨_,a1,w1,hq, .pass (x:= .inLoop c) rfl (fun _ _=> .inl (by simp)) harr⟩
              |outgrown=>exact ⟨_,a1,w1,hq, .pass (x:= .inLoop c) rfl (fun _ _=> .inl (by simp)) harr⟩
            · intro e s γ2 a2 w2 hq hR2
              cases e with
              |normal=>
               simp only at hq
               split at hq
               · next s1 hs1=>
                 split at hq
                 · next x1 y1 hsn hx1 hy1=>
                   obtain ⟨rfl,hI1,hlt⟩:=hq
                   obtain ⟨γ3,hR3⟩:=Rel.settles _ hR2 hs1
                   have hJ:=hR3.joint hx1 hy1
                   rw [Nat.eq_of_beq_eq_true hsn] at hJ
                   exact ⟨y1,hI1,hlt,_,hJ⟩
                 · exact hq.elim
               · exact hq.elim
              |_=>exact hQ _ _ _ _ _ hq hR2
          intro b k cs
          obtain ⟨e,a',w',hq,harr⟩:=key _ y0 rfl h0 a w ⟨_,hR0.joint hx hy⟩ b k cs
          exact ⟨e,a',w',hq, .of_steps (.one step_loop) harr⟩
        · exact ha.elim
      · exact ha.elim
    · exact ha.elim
  · exact ha.elim
 |rangeFunc f ps x y ihx ihy=>intro QA Q st γ a w h ha hQ;exact ha.elim
 |exit id=>intro QA Q st γ a w h ha hQ;exact wp_exit (hQ _ _ _ _ _ ha h)
 |scope c ih=>intro QA Q st γ a w h ha hQ;exact ha.elim
 |label l=>intro QA Q st γ a w h ha hQ;exact ha.elim
 |goto l=>intro QA Q st γ a w h ha hQ;exact ha.elim
 |ret=>intro QA Q st γ a w h ha hQ;exact wp_ret (hQ _ _ _ _ _ ha h)
 |refuse s=>intro QA Q st γ a w h ha hQ;exact ha.elim
end Go.Fw
namespace Go.Fw
open Go
variable {P:Program} {w0:World} {M:Nat→Prop} {T:Ext} {γ γ':Nat→Value} {st:St} {a:Act} {w w':World} {Θ:fU} {Γ:aN}
def Arg.av:Arg→AV
 | .sv v=> .sv v
 | .kp cs=> .gB cs 0
 | .fn f caps=> .fn f caps
 | .own _ _ _| .ptr _=> .undef
def entry (n:Nat) (args:List Arg):St:=
 {n:=n,tmps:=fun t=>match args[t]? with|some v=>v.av|none=> .undef,ai:=fun _=>none}
def S9 (st:St) (o:Nat):Bool:=match st.ai o with|some (.arr _ _ _ _)=>true|_=>false
def agI (Θ:fU) (st:St):ResultVar→Option SV
 | .tmp t=>match st.tmps t with| .sv v=>some v|_=>none
 | .cell t ty=>match Θ ty,st.tmps t with
   |some ti, .dw o off=>match st.ai o with
    |some (.var cs)=>mO ti cs off
    |_=>none
   |_,_=>none
def Qp (Θ:fU) (st:St):List ResultVar→Option (List SV)
 |[]=>some []
 |r::rs=>match agI Θ st r,Qp Θ st rs with
  |some v,some vs=>some (v::vs)
  |_,_=>none
def outOf:SV→Bool×List fG
 | .one c=>(false,[.plain c])
 | .agg cs=>(true,cs.map .plain)
def outs:List SV→List (Bool×List fG)
 |[]=>[]
 |v::vs=>outOf (v.kill fun _=>true)::outs vs
def fin (Θ:fU) (rv:List ResultVar) (st:St):Option Out:=
 match Qp Θ (st.freeze (S9 st)) rv with
 |some vs=>some ⟨outs vs,none⟩
 |none=>none
theorem Tc:∀ (k:Nat) (cs:List Cell),jT k (cs.map .plain)=(cs,[])
 |_,[]=>rfl
 |k,c::cs=>by simp only [List.map_cons,jT,Tc (k+1) cs,fG.take,List.append_nil]
theorem ant (k:Nat) (v:SV):zh k (outOf v)=(v,[]):=by
 cases v with
 |one c=>rfl
 |agg cs=>simp only [zh,outOf,Tc]
theorem aqX (v:Value) (t:TypeId) (b off:Nat) (hv:v= .pointer (some ⟨b,off,none⟩)):Instr.loadAt t v=(do loadVar t (← asAddr v)):=by
 subst hv;rfl
def MV (tmps:Array Value):ResultVar→Sem Value
 | .tmp t=>pure (tmps.getD t undef)
 | .cell x t=>do loadVar t (← asAddr (tmps.getD x undef))
theorem WU (fn:Func) (tmps:Array Value):results fn tmps=(do let vs ← fn.results.mapM (MV tmps);pure (if h:vs.size=1 then vs[0] else .tuple vs)):=by
 unfold results
 congr 1
theorem amA (hΘ:∀ t ti,Θ t=some ti→mP P t ti) (h:Rel w0 M T γ st a w) {r:ResultVar} {v:SV} (hf:agI Θ st r=some v):
 ∃ u,(MV a.tmps r).run P w= .ok u w∧dK (ax w0 T γ st w) v u:=by
 cases r with
 |tmp t=>
  simp only [agI] at hf
  split at hf
  · next e=>
    cases hf
    have:=h.tmps t
    rw [e] at this
    exact ⟨_,rfl,this⟩
  · cases hf
 |cell x t=>
  simp only [agI] at hf
  split at hf
  · next ti o off ht hx=>
    split at hf
    · next cs ho=>
      have hv:=h.tmps x
      rw [hx] at hv
      obtain ⟨b,cs',_,_,hv'⟩:=hv
      obtain ⟨u,hu,hr⟩:=SK hΘ h ht (x:= .tmp x) (.inl ⟨o,off,cs,hx,ho,hf⟩)
      refine ⟨u,?_,hr⟩
      rw [MV,← aqX _ t b off hv']
      exact hu
    · cases hf
  · cases hf
theorem Qq (hΘ:∀ t ti,Θ t=some ti→mP P t ti) (h:Rel w0 M T γ st a w):∀ (rs:List ResultVar) (vs:List SV),Qp Θ st rs=some vs→
 ∃ us,(rs.mapM (MV a.tmps)).run P w= .ok us w∧
   dM (ax w0 T γ st w) vs us
 |[],vs,hf=>by cases hf;exact ⟨[],rfl,trivial⟩
 |r::rs,vs,hf=>by
  rw [Qp] at hf
  split at hf
  · next v vs' h1 h2=>
    cases hf
    obtain ⟨u,hu,hr⟩:=amA hΘ h h1
    obtain ⟨us,hus,hrs⟩:=Qq hΘ h rs vs' h2
    refine ⟨u::us,?_,hr,hrs⟩
    rw [List.mapM_cons,Sem.run_bind,hu]
    simp only [Result.andThen_ok,Sem.run_bind,hus,Sem.run_pure]
  · cases hf
theorem dM.length {X:V}:∀ (cs:List SV) (vs:List Value),dM X cs vs→vs.length=cs.length
 |[],[],_=>rfl
 |_::cs,_::vs,⟨_,h⟩=>by simp [dM.length cs vs h]
 |[],_::_,H|_::_,[],H=>by cases H
theorem dM.get {X:V}:∀ (cs:List SV) (vs:List Value) (i:Nat) (c:SV),dM X cs vs→cs[i]? =some c→∃ v,vs[i]? =some v∧dK X c v
 |[],_,_,_,_,h=>by simp at h
 |c::cs,v::vs,0,d,⟨h1,_⟩,h=>by simp at h;subst h;exact ⟨v,rfl,h1⟩
 |c::cs,v::vs,i+1,d,⟨_,h2⟩,h=>by
  obtain ⟨u,hu,hr⟩:=dM.get cs vs i d h2 (by simpa using h)
  exact ⟨u,by simpa using hu,hr⟩
 |_::_,[],_,_,H,_=>by cases H
theorem qj.length {X:V}:∀ (cs:List Arg) (vs:List Value),qj X cs vs→vs.length=cs.length
 |[],[],_=>rfl
 |_::cs,_::vs,⟨_,h⟩=>by simp [qj.length cs vs h]
 |[],_::_,H|_::_,[],H=>by cases H
theorem qj.get {X:V}:∀ (cs:List Arg) (vs:List Value) (i:Nat) (c:Arg),qj X cs vs→cs[i]? =some c→∃ v,vs[i]? =some v∧sK X c v
 |[],_,_,_,_,h=>by simp at h
 |c::cs,v::vs,0,d,⟨h1,_⟩,h=>by simp at h;subst h;exact ⟨v,rfl,h1⟩
 |c::cs,v::vs,i+1,d,⟨_,h2⟩,h=>by
  obtain ⟨u,hu,hr⟩:=qj.get cs vs i d h2 (by simpa using h)
  exact ⟨u,by simpa using hu,hr⟩
 |_::_,[],_,_,H,_=>by cases H
theorem sK.av {X:V}:∀ (c:Arg) (v:Value),sK X c v→aX X c.av v
 | .sv _,_,h| .kp _,_,h| .fn _ _,_,h=>h
 | .own _ _ _,_,h| .ptr _,_,h=>h.elim
theorem apt {args:List Arg} {vs:Array Value} {S:Nat→Prop} (n:Nat) (hn:args.length≤n)
 (h:qj ⟨w,w.heap.size,S,fun _=>undef,fun _=>none⟩ args vs.toList):
 Rel w (fun _=>False) ⟨S,fun _=>none,fun _ _ h=>by cases h⟩ (fun _=>undef) (entry n args) {tmps:=vs++Array.replicate (n-vs.size) undef,defers:=[]} w:=by
 have hl:vs.size=args.length:=by simpa using qj.length _ _ h
 refine ⟨fun _ h=>h.elim,rfl,?_,rfl,rfl,rfl,Nat.le_refl _,fun _ _ _=>rfl,fun t=>?_,(fun o x hx=>by cases hx),(fun o x b hx=>by cases hx),(fun o x p y b hx=>by cases hx),(fun o v cs hN=>by cases hN)⟩
 · simp [entry];omega
 · simp only [entry]
   cases ha:args[t]? with
   |none=>trivial
   |some v=>
    obtain ⟨u,hu,hr⟩:=qj.get _ _ t v h ha
    have:(vs++Array.replicate (n-vs.size) undef).getD t undef=u:=by
     have hlt:t<args.length:=by
      rcases Nat.lt_or_ge t args.length with h'|h'
      · exact h'
      · rw [List.getElem?_eq_none h'] at ha;cases ha
     have hlt':t<vs.size:=by omega
     rw [Array.getD_eq_getD_getElem?,Array.getElem?_append_left hlt']
     have:vs[t]? =some u:=by simpa using hu
     rw [this];rfl
    rw [this]
    exact sK.av v u hr
end Go.Fw
namespace Go.Fw
def codeOf (fn:Func):Code:=match fn.body with|some c=>c|none=> .skip
def alQ:List (Nat×TI)→fU
 |[],_=>none
 |(t,x)::r,i=>match Nat.beq i t with|true=>some x|false=>alQ r i
def aQ:List (Nat×aoj)→aN
 |[],_=>none
 |(t,x)::r,i=>match Nat.beq i t with|true=>some x|false=>aQ r i
def aoG:List (Nat×LJ)→Nat→Option LJ
 |[],_=>none
 |(t,x)::r,i=>match Nat.beq i t with|true=>some x|false=>aoG r i
def aqI:List (Nat×List Pre)→Nat→List Pre
 |[],_=>[]
 |(n,z)::r,i=>match Nat.beq i n with|true=>z|false=>aqI r i
def hints (own:List Nat) (l c:List (Nat×LJ)) (u:List Nat) (z:List (Nat×List Pre)):Hints:=⟨aU own,aoG l,aoG c,u,aqI z⟩
end Go.Fw
namespace Go.Fw
open Go
variable {P:Program} {Θ:fU} {Γ:aN}
inductive dX where
 |one (c:iD)
 |agg (l:List iD)
@[reducible] def dX.den:dX→Type
  | .one c=>c.den
  | .agg l=>qy l
def dX.val:(s:dX)→s.den→SV
 | .one c,x=> .one (c.cell x)
 | .agg l,x=> .agg (iw l x)
def dX.read:(s:dX)→SV→Option s.den
 | .one c, .one x=>c.read x
 | .agg l, .agg xs=>jU l xs
 |_,_=>none
theorem dX.weak {X:V} (s:dX) (x:SV) (d:s.den) (v:Value) (hr:s.read x=some d) (hv:dK X x v):dK X (s.val d) v:=by
 unfold dX.read at hr
 split at hr
 · exact iD.weak _ _ _ _ hr hv
 · obtain ⟨vs,e,h⟩:=hv
   exact ⟨vs,e,GN _ _ _ _ hr h⟩
 · cases hr
@[reducible] def bI:List dX→Type
  |[]=>Unit
  |s::r=>s.den×bI r
def uQ:(l:List dX)→bI l→List SV
 |[],_=>[]
 |s::r,x=>s.val x.1::uQ r x.2
def U8:(l:List dX)→List SV→Option (bI l)
 |[],[]=>some ()
 |s::r,x::xs=>match s.read x,U8 r xs with
  |some a,some b=>some (a,b)
  |_,_=>none
 |_,_=>none
theorem apu {X:V}:∀ (l:List dX) (xs:List SV) (d:bI l) (vs:List Value),U8 l xs=some d→dM X xs vs→dM X (uQ l d) vs
 |[],[],_,_,_,hv=>hv
 |s::r,x::xs,d,vs,hr,hv=>by
  rw [U8] at hr
  split at hr
  · next a b h1 h2=>
    cases hr
    cases vs with
    |nil=>cases hv
    |cons v vs=>exact ⟨dX.weak s x a v h1 hv.1,apu r xs b vs h2 hv.2⟩
  · cases hr
 |[],_::_,_,_,hr,_=>by simp [U8] at hr
 |_::_,[],_,_,hr,_=>by simp [U8] at hr
mutual
def CT.vP:(c:CT)→c.den→Prop
 | .int k,(n:Int)=>k.min≤n∧n≤k.max
 | .bool,_=>True
 | .str,(s:Bytes)=>s.length≤maxLen
 | .sl _ r,(l:List r.den)=>l.length≤maxLen∧∀ x∈l,r.vP x
def aB.vP:(r:aB)→r.den→Prop
 | .nil,_=>True
 | .cons c r,x=>c.vP x.1∧r.vP x.2
end
mutual
theorem jq.vP {h:Array Obj} {S:Nat→Prop}:∀ (c:CT) (v:Value) (x:c.den),jq h S c v x→c.vP x
 | .int k,v,(n:Int),H=>by rw [jq] at H;rw [CT.vP];exact H.2
 | .bool,v,(b:Bool),H=>by rw [CT.vP];trivial
 | .str,v,(s:Bytes),H=>by rw [jq] at H;rw [CT.vP];exact H.2
 | .sl e r,v,(l:List r.den),H=>by
   rw [jq] at H
   rw [CT.vP]
   refine ⟨H.1,fun x hx=>?_⟩
   obtain ⟨i,hi,rfl⟩:=List.mem_iff_getElem.1 hx
   rcases H.2 with ⟨hnil,_⟩|⟨b,off,cap,cs,t,fz,_,_,_,_,hr⟩
   · subst hnil;simp at hi
   · exact bf.vP r _ _ (hr i _ (List.getElem?_eq_getElem hi))
theorem bf.vP {h:Array Obj} {S:Nat→Prop}:∀ (r:aB) (vs:List Value) (x:r.den),bf h S r vs x→r.vP x
 | .nil,vs,_,H=>by rw [aB.vP];trivial
 | .cons c r,vs,(x,y),H=>by
   rw [bf] at H
   obtain ⟨v,vs',_,h1,h2⟩:=H
   rw [aB.vP]
   exact ⟨jq.vP c v x h1,bf.vP r vs' y h2⟩
end
def iD.vP:(c:iD)→c.den→Prop
 | .int k,(n:Int)=>k.min≤n∧n≤k.max
 | .str,(s:Bytes)=>s.length≤maxLen
 | .sl _ r _,(l:List r.den)=>l.length≤maxLen∧∀ x∈l,r.vP x
 |_,_=>True
def acw:(l:List iD)→qy l→Prop
 |[],_=>True
 |c::r,x=>c.vP x.1∧acw r x.2
def dX.vP:(s:dX)→s.den→Prop
 | .one c,x=>c.vP x
 | .agg l,x=>acw l x
theorem iD.acy {X:V} (c:iD) (x:c.den) (v:Value) (h:aV X (c.cell x) v):c.vP x:=by
 cases c with
 |int k=>exact h.2
 |str=>exact h.2
 |sl e r fr=>
  have h':jq X.w.heap (X.cu fr) (.sl e r) v x:=h
  have:=jq.vP (.sl e r) v x h'
  rw [CT.vP] at this
  exact this
 |_=>trivial
theorem MW {X:V}:∀ (l:List iD) (x:qy l) (vs:List Value),au X (iw l x) vs→acw l x
 |[],_,_,_=>trivial
 |c::r,x,v::vs,h=>⟨iD.acy c x.1 v h.1,MW r x.2 vs h.2⟩
 |_::_,_,[],h=>by cases h
inductive bZ where
 |v (s:dX)
 |kp (l:List iD)
 |fn (f:FuncId) (l:List (List iD))
@[reducible] def bZ.den:bZ→Type
  | .v s=>s.den
  | .kp l=>qy l
  | .fn _ l=>IJ l
def bZ.val:(s:bZ)→s.den→Arg
 | .v s,x=> .sv (s.val x)
 | .kp l,x=> .kp (iw l x)
 | .fn f l,x=> .fn f (MR l x)
def bZ.read:(s:bZ)→Arg→Option s.den
 | .v s, .sv x=>s.read x
 | .kp l, .kp xs=>jU l xs
 | .fn f l, .fn g xs=>match Nat.beq f g with|true=>H6 l xs|false=>none
 |_,_=>none
theorem bZ.weak {X:V} (s:bZ) (x:Arg) (d:s.den) (v:Value) (hr:s.read x=some d) (hv:sK X x v):sK X (s.val d) v:=by
 unfold bZ.read at hr
 split at hr
 · exact dX.weak _ _ _ _ hr hv
 · obtain ⟨b,e,hk⟩:=hv
   exact ⟨b,e,akx hr hk⟩
 · split at hr
   · next hb=>
     obtain ⟨us,e,hk⟩:=hv
     rw [bZ.val,Nat.eq_of_beq_eq_true hb]
     exact ⟨us,e,aa1 _ _ _ _ hr hk⟩
   · cases hr
 · cases hr
@[reducible] def bD:List bZ→Type
  |[]=>Unit
  |s::r=>s.den×bD r
def zT:(l:List bZ)→bD l→List Arg
 |[],_=>[]
 |s::r,x=>s.val x.1::zT r x.2
def JY:(l:List bZ)→List Arg→Option (bD l)
 |[],[]=>some ()
 |s::r,x::xs=>match s.read x,JY r xs with
  |some a,some b=>some (a,b)
  |_,_=>none
 |_,_=>none
theorem apv {X:V}:∀ (l:List bZ) (xs:List Arg) (d:bD l) (vs:List Value),JY l xs=some d→qj X xs vs→qj X (zT l d) vs
 |[],[],_,_,_,hv=>hv
 |s::r,x::xs,d,vs,hr,hv=>by
  rw [JY] at hr
  split at hr
  · next a b h1 h2=>
    cases hr
    cases vs with
    |nil=>cases hv
    |cons v vs=>exact ⟨bZ.weak s x a v h1 hv.1,apv r xs b vs h2 hv.2⟩
  · cases hr
 |[],_::_,_,_,hr,_=>by simp [JY] at hr
 |_::_,[],_,_,hr,_=>by simp [JY] at hr
theorem Yy:∀ (l:List bZ) (d:bD l),(zT l d).length=l.length
 |[],_=>rfl
 |_::r,d=>by simp [zT,Yy r d.2]
def ai3:(l:List (List iD))→IJ l→Prop
 |[],_=>True
 |c::r,x=>acw c x.1∧ai3 r x.2
def bZ.vP:(s:bZ)→s.den→Prop
 | .v s,x=>s.vP x
 | .kp l,x=>acw l x
 | .fn _ l,x=>ai3 l x
def bP:(l:List bZ)→bD l→Prop
 |[],_=>True
 |s::r,x=>s.vP x.1∧bP r x.2
theorem adO {X:V}:∀ (l:List (List iD)) (x:IJ l) (us:List Value),eU X (MR l x) us→ai3 l x
 |[],_,_,_=>trivial
 |c::r,x,u::us,h=>by
  obtain ⟨⟨b,hu,arr,t,fz,hf,hh,hc⟩,h2⟩:=h
  exact ⟨MW c x.1 _ hc,adO r x.2 us h2⟩
 |_::_,_,[],h=>by cases h
theorem Fj {X:V}:∀ (l:List bZ) (x:bD l) (vs:List Value),qj X (zT l x) vs→bP l x
 |[],_,_,_=>trivial
 | .v (.one c)::r,x,v::vs,h=>⟨iD.acy c x.1 v h.1,Fj r x.2 vs h.2⟩
 | .v (.agg l)::r,x,v::vs,h=>by
   obtain ⟨ws,hv,hc⟩:=h.1
   exact ⟨MW l x.1 _ hc,Fj r x.2 vs h.2⟩
 | .kp l::r,x,v::vs,h=>by
   obtain ⟨b,hu,arr,t,fz,hf,hh,hc⟩:=h.1
   exact ⟨MW l x.1 _ hc,Fj r x.2 vs h.2⟩
 | .fn f l::r,x,v::vs,h=>by
   obtain ⟨us,hv,hk⟩:=h.1
   exact ⟨adO l x.1 _ hk,Fj r x.2 vs h.2⟩
 |_::_,_,[],h=>by cases h
def acz (sh:List bZ) (F:bD sh→Prop×Out):gq:=fun args=>
 match JY sh args with
 |some x=>some (F x)
 |none=>none
end Go.Fw
namespace Go.Fw
open Go
variable {P:Program} {Θ:fU} {Γ:aN}
def Dq:List SV→List (Bool×List fG)
 |[]=>[]
 |v::vs=>outOf v::Dq vs
theorem U9:∀ (k:Nat) (vs:List SV),iL k (Dq vs)=(vs,[])
 |_,[]=>rfl
 |k,v::vs=>by simp only [Dq,iL,ant,U9,List.append_nil]
def alR (Θ:fU) (rv:List ResultVar) (dY:List dX) (K:bI dY→Prop) (e:Exit) (st:St):Prop:=
 match e with
 | .normal| .ret=>match Qp Θ (st.freeze (S9 st)) rv with
   |some vs=>match U8 dY (vs.map (SV.kill fun _=>true)) with
    |some d=>K d
    |none=>False
   |none=>False
 |_=>False
theorem aqY {G:mD} (hE:EnvB P G Θ Γ) (hm:P.follows .mixedOrders=true) {f:FuncId} {fn:Func} {c:Code} (hf:P.funcs[f]? =some fn) (hb:fn.body=some c) (H:Hints) {con:gq} {dY:List dX}
 (hwalk:∀ args p out,con args=some (p,out)→p→Nat.ble args.length fn.ntmps=true∧∃ d:bI dY,out=⟨Dq (uQ dY d),none⟩∧OA Θ Γ H c (alR Θ fn.results.toList dY fun y=>y=d) (entry fn.ntmps args)):aG P G f con:=by
 intro args p out k S vs w hcon hp hG hrep
 obtain ⟨hn,d,hout,hw⟩:=hwalk args p out hcon hp
 subst hout
 have hn':args.length≤fn.ntmps:=by simpa [Nat.ble_eq] using hn
 refine calls_of_wp hf hb (aa4 ⟨hE,hG,fun b hb=>hb.elim⟩ hm H c _ _ _ _ _ _ (apt (S:=S) fn.ntmps hn' hrep) hw ?_)
 have hret:∀ s γ' a' w',alR Θ fn.results.toList dY (fun y=>y=d) .ret s→Rel w (fun _=>False) ⟨S,fun _=>none,fun _ _ h=>by cases h⟩ γ' s a' w'→bodyPost P fn (fun e w'=>∃ v vals,e= .returned v∧w'.os=w.os∧w'.tape=w.tape∧w'.output=w.output∧w.heap.size≤w'.heap.size∧
  (∀ b,b<w.heap.size→w'.heap[b]? =w.heap[b]?)∧
  aX ⟨w',w.heap.size,S,vals,look (Out.take k ⟨Dq (uQ dY d),none⟩).2⟩ (Out.take k ⟨Dq (uQ dY d),none⟩).1 v∧
  (∀ o x,look (Out.take k ⟨Dq (uQ dY d),none⟩).2 o=some x→bC ⟨w',w.heap.size,S,vals,look (Out.take k ⟨Dq (uQ dY d),none⟩).2⟩ o x∧∀ b,blk (vals o)=some b→w.heap.size≤b∧b<w'.heap.size)∧
  (∀ o x q y b,look (Out.take k ⟨Dq (uQ dY d),none⟩).2 o=some x→look (Out.take k ⟨Dq (uQ dY d),none⟩).2 q=some y→o≠q→blk (vals o)=some b→blk (vals q)≠some b)) .ret a' w':=by
  intro s γ' a' w' he hR
  refine ⟨hR.defers,?_⟩
  simp only [alR] at he
  split at he
  · next svs hvs=>
    split at he
    · next y hy=>
      subst he
      have hRf:=hR.freeze (S9 s)
      obtain ⟨us,hus,hrs⟩:=Qq hE.types hRf _ _ hvs
      have hk0:=dM.kill (fun _=>true) hRf svs us hrs
      have hk:=apu dY _ y us hy hk0
      have htake:Out.take k ⟨Dq (uQ dY y),none⟩=(match uQ dY y with|[v]=> .sv v|l=> .nX l,[]):=by
       unfold Out.take
       simp only [U9]
       rcases uQ dY y with _|⟨v,_|⟨v2,r⟩⟩<;>rfl
      have hmap:(fn.results.mapM (MV a'.tmps)).run P w'= .ok us.toArray w':=by
       rw [Array.mapM_eq_mapM_toList,Sem.run_map,hus]
       rfl
      refine ⟨if h:us.toArray.size=1 then us.toArray[0] else .tuple us.toArray,?_,_,γ',rfl,hR.os,hR.tape,hR.output,hR.grow,fun b hb=>hR.kept b hb (fun h=>h),?_,?_,?_⟩
      · rw [WU,Sem.run_bind,hmap]
        simp only [Result.andThen_ok,Sem.run_pure]
      · rw [htake]
        have hl:=dM.length _ _ hk
        match hm:uQ dY y,us,hk,hl with
        |[v],[u],hk,_=>exact hk.1
        |[],[],hk,_=>exact ⟨_,by simp,hk⟩
        |v::v2::r,u::u2::us,hk,hl=>exact ⟨_,by simp,hk⟩
        |[],_::_,hk,h4|_::_,[],hk,h4|[_],_::_::_,hk,h4|_::_::_,[_],hk,h4=>simp at h4
      · intro o x hx;rw [htake] at hx;cases hx
      · intro o x q y b hx;rw [htake] at hx;cases hx
    · exact he.elim
  · exact he.elim
 intro e s γ' a' w' he hR
 cases e with
 |normal=>exact hret s γ' a' w' he hR
 |ret=>exact hret s γ' a' w' he hR
 |_=>exact he.elim
def dS (sh:List bZ) (dY:List dX) (F:bD sh→Prop×bI dY):gq:=acz sh fun x=>((F x).1,⟨Dq (uQ dY (F x).2),none⟩)
theorem aZ {G:mD} (hE:EnvB P G Θ Γ) (hm:P.follows .mixedOrders=true) {f:FuncId} {fn:Func} {c:Code} (hf:P.funcs[f]? =some fn) (hb:fn.body=some c) (H:Hints)
 {sh:List bZ} {dY:List dX} {F:bD sh→Prop×bI dY} (hn:Nat.ble sh.length fn.ntmps=true)
 (hwalk:∀ x,bP sh x→(F x).1→OA Θ Γ H c (alR Θ fn.results.toList dY fun y=>y=(F x).2) (entry fn.ntmps (zT sh x))):aG P G f (dS sh dY F):=by
 have base:∀ x,bP sh x→aG P G f (fun args=>@ite _ (args=zT sh x) (Classical.propDecidable _) (some ((F x).1,⟨Dq (uQ dY (F x).2),none⟩)) none):=by
  intro x hin
  refine aqY (dY:=dY) hE hm hf hb H ?_
  intro args p out hcon hp
  split at hcon
  · next e=>
    have hF:((F x).1,(⟨Dq (uQ dY (F x).2),none⟩:Out))=(p,out):=by simpa using hcon
    have h1:(F x).1=p:=congrArg Prod.fst hF
    have h2:(⟨Dq (uQ dY (F x).2),none⟩:Out)=out:=congrArg Prod.snd hF
    have:=hwalk x hin (by rw [h1];exact hp)
    rw [e]
    exact ⟨by rw [Yy];exact hn,(F x).2,h2.symm,this⟩
  · cases hcon
 intro args p out k S vs w hcon hp hG hrep
 unfold dS acz at hcon
 split at hcon
 · next x hx=>
   have hv:=apv sh args x vs.toList hx hrep
   exact base x (Fj sh x _ hv) (zT sh x) p out k S vs w (by simp only [if_true];exact hcon) hp hG hv
 · cases hcon
end Go.Fw
namespace Go.Fw
open Go
variable {P:Program} {Θ:fU} {Γ:aN}
inductive RC where
 |c (s:iD)
 |own (e:TypeId) (r:aB) (fr:Bool)
@[reducible] def RC.den:RC→Type
  | .c s=>s.den
  | .own _ r _=>List r.den
@[reducible] def agJ:List RC→Type
  |[]=>Unit
  |c::r=>c.den×agJ r
def RC.aoH:(c:RC)→c.den→fG
 | .c s,x=> .plain (s.cell x)
 | .own e r fr,l=> .own e r l fr
def ai4:(l:List RC)→agJ l→List fG
 |[],_=>[]
 |c::r,x=>c.aoH x.1::ai4 r x.2
inductive fA where
 |one (c:RC)
 |agg (l:List RC)
@[reducible] def fA.den:fA→Type
  | .one c=>c.den
  | .agg l=>agJ l
@[reducible] def bV:List fA→Type
  |[]=>Unit
  |s::r=>s.den×bV r
def fA.out:(s:fA)→s.den→Bool×List fG
 | .one c,x=>(false,[c.aoH x])
 | .agg l,x=>(true,ai4 l x)
def iQ:(l:List fA)→bV l→List (Bool×List fG)
 |[],_=>[]
 |s::r,x=>s.out x.1::iQ r x.2
def RC.name:RC→Cell→Option Nat
 | .own _ _ _, .ref o=>some o
 |_,_=>none
def ai5:List RC→List Cell→List (Option Nat)
 |c::r,x::xs=>c.name x::ai5 r xs
 |_,_=>[]
def fA.names:fA→SV→List (Option Nat)
 | .one c, .one x=>[c.name x]
 | .agg l, .agg xs=>ai5 l xs
 |_,_=>[]
def D9:List fA→List SV→List (Option Nat)
 |s::r,x::xs=>s.names x++D9 r xs
 |_,_=>[]
def RC.read (st:St):(c:RC)→Cell→Option c.den
 | .c s,x=>match x.refs with|[]=>s.read x|_=>none
 | .own e r fr, .ref o=>match st.ai o with
   |some (.arr f s l g)=>match Nat.beq e f&&Qo fr g with
    |true=>if h:s.beq r=true then some (xW h l) else none
    |false=>none
   |_=>none
 | .own _ r _, .nil=>match Nat.ble 1 r.len with|true=>some []|false=>none
 |_,_=>none
def Va (st:St):(l:List RC)→List Cell→Option (agJ l)
 |[],[]=>some ()
 |c::r,x::xs=>match c.read st x,Va st r xs with
  |some a,some b=>some (a,b)
  |_,_=>none
 |_,_=>none
def fA.read (st:St):(s:fA)→SV→Option s.den
 | .one c, .one x=>c.read st x
 | .agg l, .agg xs=>Va st l xs
 |_,_=>none
def Fp (st:St):(l:List fA)→List SV→Option (bV l)
 |[],[]=>some ()
 |s::r,x::xs=>match s.read st x,Fp st r xs with
  |some a,some b=>some (a,b)
  |_,_=>none
 |_,_=>none
inductive dB where
 |p (s:bZ)
 |own (e:TypeId) (r:aB)
 |ptr (l:List iD)
@[reducible] def dB.den:dB→Type
  | .p s=>s.den
  | .own _ r=>List r.den
  | .ptr l=>qy l
def dB.mode:dB→Mode
 | .p _=> .val
 | .own _ _=> .own
 | .ptr _=> .ptr
def dB.val:(s:dB)→s.den→Arg
 | .p s,x=>s.val x
 | .own e r,l=> .own e r l
 | .ptr l,x=> .ptr (iw l x)
def dB.read:(s:dB)→Arg→Option s.den
 | .p s,x=>s.read x
 | .own e r, .own f s l=>match Nat.beq e f with
   |true=>if h:s.beq r=true then some (xW h l) else none
   |false=>none
 | .ptr l, .ptr cs=>jU l cs
 |_,_=>none
@[reducible] def bH:List dB→Type
  |[]=>Unit
  |s::r=>s.den×bH r
def zU:(l:List dB)→bH l→List Arg
 |[],_=>[]
 |s::r,x=>s.val x.1::zU r x.2
def iR:(l:List dB)→List Arg→Option (bH l)
 |[],[]=>some ()
 |s::r,x::xs=>match s.read x,iR r xs with
  |some a,some b=>some (a,b)
  |_,_=>none
 |_,_=>none
@[reducible] def bT:List dB→Type
  |[]=>Unit
  | .ptr l::r=>qy l×bT r
  | .p _::r| .own _ _::r=>bT r
def jV:(l:List dB)→bT l→List Eff
 |[],_=>[]
 | .ptr l::r,x=> .var (iw l x.1)::jV r x.2
 | .p _::r,x| .own _ _::r,x=> .lose::jV r x
def MX (st:St):(i:Nat)→(l:List dB)→Option (bT l)
 |_,[]=>some ()
 |i, .ptr l::r=>match st.ai (i*64+48),MX st (i+1) r with
  |some (.var cs),some b=>match cs.flatMap Cell.refs,jU l cs with
   |[],some a=>some (a,b)
   |_,_=>none
  |_,_=>none
 |i, .p _::r|i, .own _ _::r=>MX st (i+1) r
def Arg.avX (i:Nat):Arg→AV
 | .own _ _ _=> .sv (.one (.ref (i*64+49)))
 | .ptr _=> .dw (i*64+48) 0
 |a=>a.av
def MZ (n:Nat) (args:List Arg):St:=
 {n:=n,tmps:=fun t=>match args[t]? with|some v=>v.avX t|none=> .undef,ai:=dA args}
def agK (st:St) (W:List (Option Nat)) (o:Nat):Bool:=S9 st o&&!(aaJ o W)
def aoI (Θ:fU) (rv:List ResultVar) (sh:List dB) (dY:List fA) (K:bV dY×bT sh→Prop) (e:Exit) (st:St):Prop:=
 match e with
 | .normal| .ret=>match Qp Θ st rv with
   |some svs=>match Qp Θ (st.freeze (agK st (D9 dY svs))) rv with
    |some vs=>match BA (D9 dY vs),Fp (st.freeze (agK st (D9 dY svs))) dY vs,MX (st.freeze (agK st (D9 dY svs))) 0 sh with
     |true,some d,some b=>K (d,b)
     |_,_,_=>False
    |none=>False
   |none=>False
 |_=>False
def dJ (sh:List dB) (dY:List fA) (F:bH sh→Prop×(bV dY×bT sh→Prop)):eH:=fun args=>
 match iR sh args with
 |some x=>some ((F x).1,⟨bV dY×bT sh,(F x).2,fun t=>⟨iQ dY t.1,none⟩,fun t=>jV sh t.2⟩)
 |none=>none
def aj (sh:List dB):List Mode:=sh.map dB.mode
end Go.Fw
namespace Go.Fw
open Go
variable {P:Program} {w0:World} {M:Nat→Prop} {T:Ext} {γ γ':Nat→Value} {st:St} {a:Act} {w w':World} {Θ:fU} {Γ:aN}
def ai6 (args:List Arg) (γ:Nat→Value) (o:Nat):Option Value:=match dA args o with|some (.var _)=>some (γ o)|_=>none
theorem ap8 {args:List Arg} {o:Nat} {cs:List Cell} (h:dA args o=some (.var cs)):o%64=48:=by
 unfold dA at h
 split at h
 · split at h<;>cases h
 · split at h
   · next hm=>exact Nat.eq_of_beq_eq_true hm
   · cases h
 · cases h
def aa5 (args:List Arg) (γ:Nat→Value) (S:Nat→Prop):Ext where
 S:=fun b=>S b∨yH (dA args) γ b
 N:=ai6 args γ
 n48:=by
  intro p v h
  unfold ai6 at h
  split at h
  · next cs hc=>exact ap8 hc
  · cases h
theorem zS.get {X:V}:∀ (as:List Arg) (vs:List Value) (i:Nat),zS X i as vs→as.length=vs.length∧∀ (j:Nat) (b:Arg),as[j]? =some b→∃ v,vs[j]? =some v∧Qi X (i+j) b v
 |[],[],_,_=>⟨rfl,fun j b h=>by simp at h⟩
 |x::as,v::vs,i,⟨h1,h2⟩=>by
  obtain ⟨g1,g2⟩:=zS.get as vs (i+1) h2
  refine ⟨by simp [g1],fun j b hb=>?_⟩
  cases j with
  |zero=>simp at hb;subst hb;exact ⟨v,rfl,h1⟩
  |succ j=>
   obtain ⟨u,hu,hr⟩:=g2 j b (by simpa using hb)
   exact ⟨u,by simpa using hu,by rw [show i+(j+1)=i+1+j by omega];exact hr⟩
 |[],_::_,_,H|_::_,[],_,H=>by cases H
theorem Qi.av {X:V} (i:Nat):∀ (c:Arg) (v:Value),Qi X i c v→aX X (c.avX i) v
 | .own _ _ _,_,h=>h
 | .ptr _,_,h=>h
 | .sv _,_,h| .kp _,_,h| .fn _ _,_,h=>h
theorem agL {args:List Arg} {vs:Array Value} {S:Nat→Prop} (n:Nat) (hn:args.length≤n)
 (h:zS ⟨w,w.heap.size,S,γ,dA args⟩ 0 args vs.toList)
 (ho:∀ o x,dA args o=some x→bC ⟨w,w.heap.size,S,γ,dA args⟩ o x∧∀ b,blk (γ o)=some b→b<w.heap.size)
 (hs:∀ o x q y b,dA args o=some x→dA args q=some y→o≠q→blk (γ o)=some b→blk (γ q)≠some b):
 Rel w (yH (dA args) γ) (aa5 args γ S) γ (MZ n args) {tmps:=vs++Array.replicate (n-vs.size) undef,defers:=[]} w:=by
 obtain ⟨hl0,hget⟩:=zS.get _ _ 0 h
 have hl:vs.size=args.length:=by simpa using hl0.symm
 have le:V.le ⟨w,w.heap.size,S,γ,dA args⟩ ⟨w,w.heap.size,(aa5 args γ S).S,γ,dA args⟩:=
  ⟨Nat.le_refl _,fun b hb=>⟨⟨hb.1,fun hlt=> .inl (hb.2.1 hlt),hb.2.2⟩,rfl⟩,fun o cs hx=>⟨⟨cs,hx⟩,rfl⟩,fun o e r l fr hx=>⟨⟨l,fr,hx⟩,rfl⟩⟩
 refine ⟨fun b hb=> .inr hb,rfl,?_,rfl,rfl,rfl,Nat.le_refl _,fun _ _ _=>rfl,fun t=>?_,fun o x hx=>bC.mono le o x (fun _ _=>rfl) rfl (ho o x hx).1,fun o x b hx hb=>⟨(ho o x hx).2 b hb, .inr ⟨o,x,hx,hb⟩⟩,fun o x p y b hx hy hop hb=>hs o x p y b hx hy hop hb,fun o v cs hN hx=>?_⟩
 · simp [MZ];omega
 · simp only [MZ]
   cases ha:args[t]? with
   |none=>trivial
   |some v=>
    obtain ⟨u,hu,hr⟩:=hget t v ha
    have:(vs++Array.replicate (n-vs.size) undef).getD t undef=u:=by
     have hlt:t<args.length:=by
      rcases Nat.lt_or_ge t args.length with h'|h'
      · exact h'
      · rw [List.getElem?_eq_none h'] at ha;cases ha
     have hlt':t<vs.size:=by omega
     rw [Array.getD_eq_getD_getElem?,Array.getElem?_append_left hlt']
     have:vs[t]? =some u:=by simpa using hu
     rw [this];rfl
    rw [this]
    rw [Nat.zero_add] at hr
    exact aX.mono le _ _ (Qi.av t v u hr)
 · have hx':dA args o=some (.var cs):=hx
   have hN':ai6 args γ o=some v:=hN
   unfold ai6 at hN'
   rw [hx'] at hN'
   exact Option.some.inj hN'
def AW (a a':Arg):Prop:=
 (∃ e r l,a= .own e r l∧a'= .own e r l)∨(∃ cs cs',a= .ptr cs∧a'= .ptr cs'∧∀ (X:V) vs,au X cs vs→au X cs' vs)∨
 ((∀ (X:V) v,aX X a.av v→aX X a'.av v)∧(∀ i,a.avX i=a.av)∧(∀ i,a'.avX i=a'.av)∧(∀ e r l,a≠ .own e r l)∧(∀ cs,a≠ .ptr cs)∧(∀ e r l,a'≠ .own e r l)∧(∀ cs,a'≠ .ptr cs))
theorem bZ.aoJ {s:bZ} {x:Arg} {d:s.den} (h:s.read x=some d):AW x (s.val d):=by
 refine .inr (.inr ⟨fun X v hv=>?_,?_⟩)
 · have hx:sK X x v:=by
    cases x with
    |sv _|kp _|fn _ _=>exact hv
    |own _ _ _|ptr _=>cases s<;>simp [bZ.read] at h
   exact sK.av _ _ (bZ.weak s x d v h hx)
 · cases x<;>cases s<;>first
    |(simp [bZ.read] at h;done)
    |exact ⟨fun _=>rfl,fun _=>rfl,(fun _ _ _ e=>by cases e),(fun _ e=>by cases e),(fun _ _ _ e=>by cases e),(fun _ e=>by cases e)⟩
theorem dB.aoJ {s:dB} {x:Arg} {d:s.den} (h:s.read x=some d):AW x (s.val d):=by
 unfold dB.read at h
 split at h
 · exact bZ.aoJ h
 · next e r f s l=>
   split at h
   · next hb=>
     split at h
     · next hs=>
       cases h
       have he:=Nat.eq_of_beq_eq_true hb
       subst he
       have hsr:=aB.eq_of_beq s r hs
       subst hsr
       exact .inl ⟨e,s,l,rfl,rfl⟩
     · cases h
   · cases h
 · next l cs=>exact .inr (.inl ⟨cs,_,rfl,rfl,fun X vs hc=>GN _ _ _ _ h hc⟩)
 · cases h
theorem OW:∀ {l:List dB} {xs:List Arg} {d:bH l},iR l xs=some d→(zU l d).length=xs.length∧∀ (i:Nat) (a:Arg),xs[i]? =some a→∃ a',(zU l d)[i]? =some a'∧AW a a'
 |[],[],_,_=>⟨rfl,fun i a h=>by simp at h⟩
 |s::r,x::xs,d,h=>by
  rw [iR] at h
  split at h
  · next a b h1 h2=>
    cases h
    obtain ⟨g1,g2⟩:=OW h2
    refine ⟨by simp [zU,g1],fun i c hc=>?_⟩
    cases i with
    |zero=>simp at hc;subst hc;exact ⟨_,rfl,dB.aoJ h1⟩
    |succ i=>
     obtain ⟨c',k1,k2⟩:=g2 i c (by simpa using hc)
     exact ⟨c',by simpa [zU] using k1,k2⟩
  · cases h
 |[],_::_,_,h=>by simp [iR] at h
 |_::_,[],_,h=>by simp [iR] at h
theorem Td {args:List Arg} {o:Nat} (h:∀ b,args[o / 64]? =some b→(∀ e r l,b≠ .own e r l)∧∀ cs,b≠ .ptr cs):dA args o=none:=by
 unfold dA
 split
 · next e r l ha=>exact ((h _ ha).1 e r l rfl).elim
 · next cs ha=>exact ((h _ ha).2 cs rfl).elim
 · rfl
theorem Yz {sh:List dB} {args:List Arg} {x:bH sh} (h:iR sh args=some x) (n:Nat):Covers (MZ n (zU sh x)) (MZ n args):=by
 obtain ⟨hl,hget⟩:=OW h
 refine ⟨rfl,fun t X v hv=>?_,fun o=>?_⟩
 · simp only [MZ] at hv ⊢
   cases ha:args[t]? with
   |none=>
    have:(zU sh x)[t]? =none:=by
     rw [List.getElem?_eq_none_iff] at ha ⊢;omega
    rw [this];trivial
   |some b=>
    obtain ⟨b',hb',hw⟩:=hget t b ha
    rw [ha] at hv
    rw [hb']
    dsimp only at hv ⊢
    rcases hw with ⟨e,r,l,rfl,rfl⟩|⟨cs,cs',rfl,rfl,_⟩|⟨hw,e1,e2,_⟩
    · exact hv
    · exact hv
    · rw [e1] at hv;rw [e2];exact hw X v hv
 · show (dA (zU sh x) o=none∧dA args o=none)∨∃ y y',dA args o=some y∧dA (zU sh x) o=some y'∧LH y y'
   cases ha:args[o / 64]? with
   |none=>
    have h2:(zU sh x)[o / 64]? =none:=by
     rw [List.getElem?_eq_none_iff] at ha ⊢;omega
    exact .inl ⟨Td (by rw [h2];intro b hb;cases hb),Td (by rw [ha];intro b hb;cases hb)⟩
   |some b=>
    obtain ⟨b',hb',hw⟩:=hget _ b ha
    rcases hw with ⟨e,r,l,rfl,rfl⟩|⟨cs,cs',rfl,rfl,hc⟩|⟨_,_,_,n1,n2,n3,n4⟩
    · unfold dA
      rw [ha,hb']
      dsimp only
      cases hm:Nat.beq (o%64) 49 with
      |true=>exact .inr ⟨_,_,rfl,rfl, .inr ⟨e,r,l,false,false,rfl,rfl,id⟩⟩
      |false=>exact .inl ⟨rfl,rfl⟩
    · unfold dA
      rw [ha,hb']
      dsimp only
      cases hm:Nat.beq (o%64) 48 with
      |true=>exact .inr ⟨_,_,rfl,rfl, .inl ⟨cs,cs',rfl,rfl,hc⟩⟩
      |false=>exact .inl ⟨rfl,rfl⟩
    · exact .inl ⟨Td (by rw [hb'];intro c hc;cases hc;exact ⟨n3,n4⟩),Td (by rw [ha];intro c hc;cases hc;exact ⟨n1,n2⟩)⟩
theorem adP (a b:List (Nat×aH)) (p:Nat):look (a++b) p=match look b p with|some y=>some y|none=>look a p:=by
 induction a with
 |nil=>simp only [List.nil_append,look];cases look b p<;>rfl
 |cons x a ih=>
  obtain ⟨o,z⟩:=x
  rw [List.cons_append,look,ih,look]
  cases look b p<;>rfl
theorem xX:∀ (cs:List fG) (k p:Nat) (x:aH),look (jT k cs).2 p=some x↔∃ i e r l fr,p=k+i∧cs[i]? =some (.own e r l fr)∧x= .arr e r l fr
 |[],k,p,x=>by simp [jT,look]
 |c::cs,k,p,x=>by
  rw [jT,adP]
  have ih:=xX cs (k+1) p x
  constructor
  · intro h
    split at h
    · next y hy=>
      cases h
      obtain ⟨i,e,r,l,fr,h1,h2,h3⟩:=(xX cs (k+1) p x).1 hy
      exact ⟨i+1,e,r,l,fr,by omega,by simpa using h2,h3⟩
    · next hn=>
      cases c with
      |plain c=>simp [fG.take,look] at h
      |own e r l fr=>
       simp only [fG.take,look] at h
       split at h
       · next hb=>
         cases h
         exact ⟨0,e,r,l,fr,by have:=Nat.eq_of_beq_eq_true hb;omega,rfl,rfl⟩
       · cases h
  · rintro ⟨i,e,r,l,fr,h1,h2,rfl⟩
    cases i with
    |succ i=>
     have:=(xX cs (k+1) p (.arr e r l fr)).2 ⟨i,e,r,l,fr,by omega,by simpa using h2,rfl⟩
     rw [this]
    |zero=>
     simp at h2
     subst h2
     have hn:look (jT (k+1) cs).2 p=none:=by
      cases hl:look (jT (k+1) cs).2 p with
      |none=>rfl
      |some y=>
       obtain ⟨i,_,_,_,_,g1,_⟩:=(xX cs (k+1) p y).1 hl
       omega
     rw [hn]
     have hp:p=k:=by omega
     subst hp
     simp [fG.take,look]
def OX (rs:List (Bool×List fG)):List fG:=rs.flatMap (·.2)
theorem anu (k:Nat) (x:Bool×List fG):(zh k x).2=(jT k x.2).2:=by
 unfold zh
 split
 · next e1 e2=>rw [e2]
 · next e1 e2=>rw [e2]
 · next e1 e2=>rw [e2]
theorem DX:∀ (rs:List (Bool×List fG)) (k p:Nat) (x:aH),look (iL k rs).2 p=some x↔∃ i e r l fr,p=k+i∧(OX rs)[i]? =some (.own e r l fr)∧x= .arr e r l fr
 |[],k,p,x=>by simp [iL,look,OX]
 |y::rs,k,p,x=>by
  rw [iL,adP,anu]
  have aoK:OX (y::rs)=y.2++OX rs:=rfl
  constructor
  · intro h
    split at h
    · next z hz=>
      cases h
      obtain ⟨i,e,r,l,fr,h1,h2,h3⟩:=(DX rs (k+y.2.length) p x).1 hz
      refine ⟨y.2.length+i,e,r,l,fr,by omega,?_,h3⟩
      rw [aoK,List.getElem?_append_right (by omega)]
      simpa using h2
    · obtain ⟨i,e,r,l,fr,h1,h2,h3⟩:=(xX y.2 k p x).1 h
      refine ⟨i,e,r,l,fr,h1,?_,h3⟩
      rw [aoK,List.getElem?_append_left (List.getElem?_eq_some_iff.1 h2).1]
      exact h2
  · rintro ⟨i,e,r,l,fr,h1,h2,rfl⟩
    rw [aoK] at h2
    rcases Nat.lt_or_ge i y.2.length with hlt|hge
    · rw [List.getElem?_append_left hlt] at h2
      have hn:look (iL (k+y.2.length) rs).2 p=none:=by
       cases hl:look (iL (k+y.2.length) rs).2 p with
       |none=>rfl
       |some z=>
        obtain ⟨j,_,_,_,_,g1,_⟩:=(DX rs (k+y.2.length) p z).1 hl
        omega
      rw [hn]
      exact (xX y.2 k p _).2 ⟨i,e,r,l,fr,h1,h2,rfl⟩
    · rw [List.getElem?_append_right hge] at h2
      have:=(DX rs (k+y.2.length) p (.arr e r l fr)).2 ⟨i-y.2.length,e,r,l,fr,by omega,h2,rfl⟩
      rw [this]
end Go.Fw
namespace Go.Fw
open Go
set_option linter.unusedVariables false
variable {P:Program} {w0:World} {M:Nat→Prop} {T:Ext} {γ γ':Nat→Value} {st:St} {a:Act} {w w':World} {Θ:fU} {Γ:aN}
def RF (Y:V) (c:fG) (v:Value) (n:Option Nat):Prop:=
 match c with
 | .plain x=>aV Y x v∧x.refs=[]
 | .own e r l fr=>0<r.len∧((∃ o g,n=some o∧Y.ai o=some (.arr e r l g)∧Qo fr g=true∧v=Y.γ o∧v.oneCell'=true)∨(l=[]∧v= .slice none 0 0))
def GU (Y:V):List fG→List Value→List (Option Nat)→Prop
 |[],[],[]=>True
 |c::cs,v::vs,n::ns=>RF Y c v n∧GU Y cs vs ns
 |_,_,_=>False
theorem GU.append {Y:V}:∀ (cs:List fG) (vs:List Value) (ns:List (Option Nat)) (ds:List fG) (us:List Value) (ms:List (Option Nat)),GU Y cs vs ns→GU Y ds us ms→GU Y (cs++ds) (vs++us) (ns++ms)
 |[],[],[],_,_,_,_,h=>h
 |_::cs,_::vs,_::ns,ds,us,ms,⟨h1,h2⟩,h=>⟨h1,GU.append cs vs ns ds us ms h2 h⟩
theorem GU.length {Y:V}:∀ (cs:List fG) (vs:List Value) (ns:List (Option Nat)),GU Y cs vs ns→cs.length=vs.length
 |[],[],[],_=>rfl
 |_::cs,_::vs,_::ns,⟨_,h2⟩=>by simp [GU.length cs vs ns h2]
theorem GU.get {Y:V}:∀ (cs:List fG) (vs:List Value) (ns:List (Option Nat)) (i:Nat) (c:fG),GU Y cs vs ns→cs[i]? =some c→∃ v n,vs[i]? =some v∧ns[i]? =some n∧RF Y c v n
 |[],[],[],i,c,_,h=>by simp at h
 |x::cs,v::vs,n::ns,0,c,⟨h1,_⟩,h=>by simp at h;subst h;exact ⟨v,n,rfl,rfl,h1⟩
 |x::cs,v::vs,n::ns,i+1,c,⟨_,h2⟩,h=>by
  obtain ⟨u,m,g1,g2,g3⟩:=GU.get cs vs ns i c h2 (by simpa using h)
  exact ⟨u,m,by simpa using g1,by simpa using g2,g3⟩
theorem iD.akA (c:iD) (x:Cell) (d:c.den) (h:c.read x=some d) (hx:x.refs=[]):(c.cell d).refs=[]:=by
 cases c<;>cases x<;>first|rfl|(simp [iD.read] at h;done)|(cases hx)
theorem RC.an0 {Y:V} (hst:Y.ai=st.ai) (hpos:∀ o e r l g,st.ai o=some (.arr e r l g)→0<r.len):∀ (c:RC) (x:Cell) (d:c.den) (v:Value),c.read st x=some d→aV Y x v→RF Y (c.aoH d) v (c.name x):=by
 intro c x d v hr hv
 cases c with
 |c s=>
  rw [RC.read] at hr
  split at hr
  · next hx=>exact ⟨iD.weak s x d v hr hv,iD.akA s x d hr hx⟩
  · cases hr
 |own e r fr=>
  cases x with
  |ref o=>
   simp only [RC.read] at hr
   split at hr
   · next f s l g ho=>
     split at hr
     · next hb=>
       split at hr
       · next hs=>
         cases hr
         rw [Bool.and_eq_true] at hb
         have he:=Nat.eq_of_beq_eq_true hb.1
         subst he
         have hsr:=aB.eq_of_beq s r hs
         subst hsr
         exact ⟨hpos _ _ _ _ _ ho, .inl ⟨o,g,rfl,by rw [hst];exact ho,hb.2,hv.2.1,hv.2.2⟩⟩
       · cases hr
     · cases hr
   · cases hr
  |nil=>
   simp only [RC.read] at hr
   split at hr
   · next hb=>
     cases hr
     exact ⟨Nat.lt_of_lt_of_le Nat.zero_lt_one (by simpa [Nat.ble_eq] using hb), .inr ⟨rfl,hv⟩⟩
   · cases hr
  |_=>simp [RC.read] at hr
theorem agM {Y:V} (hst:Y.ai=st.ai) (hpos:∀ o e r l g,st.ai o=some (.arr e r l g)→0<r.len):∀ (l:List RC) (xs:List Cell) (d:agJ l) (vs:List Value),Va st l xs=some d→au Y xs vs→GU Y (ai4 l d) vs (ai5 l xs)
 |[],[],_,[],_,_=>trivial
 |c::r,x::xs,d,v::vs,h,⟨h1,h2⟩=>by
  rw [Va] at h
  split at h
  · next a b g1 g2=>
    cases h
    exact ⟨RC.an0 hst hpos c x a v g1 h1,agM hst hpos r xs b vs g2 h2⟩
  · cases h
 |[],_::_,_,_,h,_=>by simp [Va] at h
 |_::_,[],_,_,h,_=>by simp [Va] at h
theorem fA.amC {Y:V} (hst:Y.ai=st.ai) (hpos:∀ o e r l g,st.ai o=some (.arr e r l g)→0<r.len):∀ (s:fA) (x:SV) (d:s.den) (v:Value),s.read st x=some d→dK Y x v→GU Y (s.out d).2 v.cells.toList (s.names x)
 | .one c, .one x,d,v,h,hv=>by
   rw [JM v (aV.one x v hv)]
   exact ⟨RC.an0 hst hpos c x d v h hv,trivial⟩
 | .agg l, .agg xs,d,v,h,⟨vs,hv,hc⟩=>by
   rw [hv]
   exact agM hst hpos l xs d _ h hc
 | .one _, .agg _,_,_,h,_| .agg _, .one _,_,_,h,_=>by simp [fA.read] at h
theorem agN {Y:V} (hst:Y.ai=st.ai) (hpos:∀ o e r l g,st.ai o=some (.arr e r l g)→0<r.len):∀ (l:List fA) (xs:List SV) (d:bV l) (vs:List Value),Fp st l xs=some d→dM Y xs vs→
 GU Y (OX (iQ l d)) (vs.flatMap fun v=>v.cells.toList) (D9 l xs)
 |[],[],_,[],_,_=>trivial
 |s::r,x::xs,d,v::vs,h,⟨h1,h2⟩=>by
  rw [Fp] at h
  split at h
  · next a b g1 g2=>
    cases h
    exact GU.append _ _ _ _ _ _ (fA.amC hst hpos s x a v g1 h1) (agN hst hpos r xs b vs g2 h2)
  · cases h
 |[],_::_,_,_,h,_=>by simp [Fp] at h
 |_::_,[],_,_,h,_=>by simp [Fp] at h
def Go1 (Z:V) (k:Nat) (c:fG) (v:Value):Prop:=aV Z (c.take k).1 v
def KP (Z:V):Nat→List fG→List Value→Prop
 |_,[],[]=>True
 |k,c::cs,v::vs=>Go1 Z k c v∧KP Z (k+1) cs vs
 |_,_,_=>False
theorem KP.of {Z:V}:∀ (cs:List fG) (vs:List Value) (k:Nat),cs.length=vs.length→(∀ i c v,cs[i]? =some c→vs[i]? =some v→Go1 Z (k+i) c v)→KP Z k cs vs
 |[],[],_,_,_=>trivial
 |c::cs,v::vs,k,hl,h=>⟨h 0 c v rfl rfl,KP.of cs vs (k+1) (by simpa using hl) fun i c' v' h1 h2=>by
   have:=h (i+1) c' v' (by simpa using h1) (by simpa using h2)
   rwa [show k+(i+1)=k+1+i by omega] at this⟩
theorem KP.split {Z:V}:∀ (cs:List fG) (vs:List Value) (ds:List fG) (us:List Value) (k:Nat),cs.length=vs.length→KP Z k (cs++ds) (vs++us)→KP Z k cs vs∧KP Z (k+cs.length) ds us
 |[],[],_,_,_,_,h=>⟨trivial,h⟩
 |c::cs,v::vs,ds,us,k,hl,⟨h1,h2⟩=>by
  obtain ⟨g1,g2⟩:=KP.split cs vs ds us (k+1) (by simpa using hl) h2
  exact ⟨⟨h1,g1⟩,by rw [show k+(c::cs).length=k+1+cs.length by simp;omega];exact g2⟩
theorem KP.cells {Z:V}:∀ (cs:List fG) (vs:List Value) (k:Nat),KP Z k cs vs→au Z (jT k cs).1 vs
 |[],[],_,_=>trivial
 |c::cs,v::vs,k,⟨h1,h2⟩=>⟨h1,KP.cells cs vs (k+1) h2⟩
theorem fA.go {Y Z:V}:∀ (s:fA) (x:SV) (d:s.den) (v:Value) (k:Nat),s.read st x=some d→dK Y x v→KP Z k (s.out d).2 v.cells.toList→dK Z (zh k (s.out d)).1 v
 | .one c, .one x,d,v,k,h,hv,hg=>by
   rw [JM v (aV.one x v hv)] at hg
   exact hg.1
 | .agg l, .agg xs,d,v,k,h,⟨vs,hv,hc⟩,hg=>by
   rw [hv] at hg ⊢
   exact ⟨vs,rfl,KP.cells _ _ _ hg⟩
 | .one _, .agg _,_,_,_,h,_,_| .agg _, .one _,_,_,_,h,_,_=>by simp [fA.read] at h
theorem akB {Y Z:V} (hst:Y.ai=st.ai) (hpos:∀ o e r l g,st.ai o=some (.arr e r l g)→0<r.len):∀ (l:List fA) (xs:List SV) (d:bV l) (vs:List Value) (k:Nat),Fp st l xs=some d→dM Y xs vs→
 KP Z k (OX (iQ l d)) (vs.flatMap fun v=>v.cells.toList)→dM Z (iL k (iQ l d)).1 vs
 |[],[],_,[],_,_,_,_=>trivial
 |s::r,x::xs,d,v::vs,k,h,⟨h1,h2⟩,hg=>by
  rw [Fp] at h
  split at h
  · next a b g1 g2=>
    cases h
    have hl:=GU.length _ _ _ (fA.amC hst hpos s x a v g1 h1)
    obtain ⟨k1,k2⟩:=KP.split _ _ _ _ k hl hg
    exact ⟨fA.go s x a v k g1 h1 k1,akB hst hpos r xs b vs _ g2 h2 k2⟩
  · cases h
 |[],_::_,_,_,_,h,_,_=>by simp [Fp] at h
 |_::_,[],_,_,_,h,_,_=>by simp [Fp] at h
theorem adQ:∀ (l:List iD) (xs:List Cell) (d:qy l),jU l xs=some d→xs.flatMap Cell.refs=[]→(iw l d).flatMap Cell.refs=[]
 |[],[],_,_,_=>rfl
 |c::r,x::xs,d,h,hx=>by
  rw [jU] at h
  split at h
  · next a b g1 g2=>
    cases h
    rw [List.flatMap_cons,List.append_eq_nil_iff] at hx
    show (c.cell a::iw r b).flatMap Cell.refs=[]
    rw [List.flatMap_cons,iD.akA c x a g1 hx.1,adQ r xs b g2 hx.2,List.append_nil]
  · cases h
 |[],_::_,_,h,_=>by simp [jU] at h
 |_::_,[],_,h,_=>by simp [jU] at h
theorem OY:∀ (sh:List dB) (i:Nat) (b:bT sh),MX st i sh=some b→∀ (j:Nat) (e:Eff),(jV sh b)[j]? =some e→
 e= .lose∨∃ l cs cs0,sh[j]? =some (.ptr l)∧e= .var cs∧st.ai ((i+j)*64+48)=some (.var cs0)∧cs0.flatMap Cell.refs=[]∧cs.flatMap Cell.refs=[]∧∀ (X:V) vs,au X cs0 vs→au X cs vs
 |[],_,_,_,j,e,he=>by simp [jV] at he
 | .ptr l::r,i,b,h,j,e,he=>by
   rw [MX] at h
   split at h
   · next cs b' hx hb=>
     split at h
     · next a hr ha=>
       cases h
       cases j with
       |zero=>
        simp [jV] at he
        subst he
        exact .inr ⟨l,_,cs,rfl,rfl,by simpa using hx,hr,adQ _ _ _ ha hr,fun X vs hc=>GN _ _ _ _ ha hc⟩
       |succ j=>
        rcases OY r (i+1) b' hb j e (by simpa [jV] using he) with h|⟨l,cs',cs0,h1,h2,h3,h4⟩
        · exact .inl h
        · exact .inr ⟨l,cs',cs0,by simpa using h1,h2,by rw [show i+(j+1)=i+1+j by omega];exact h3,h4⟩
     · cases h
   · cases h
 | .p _::r,i,b,h,j,e,he| .own _ _::r,i,b,h,j,e,he=>by
   rw [MX] at h
   cases j with
   |zero=>simp [jV] at he;exact .inl he.symm
   |succ j=>
    rcases OY r (i+1) b h j e (by simpa [jV] using he) with h|⟨l,cs',cs0,h1,h2,h3,h4⟩
    · exact .inl h
    · exact .inr ⟨l,cs',cs0,by simpa using h1,h2,by rw [show i+(j+1)=i+1+j by omega];exact h3,h4⟩
theorem agO:∀ {sh:List dB} {xs:List Arg} {d:bH sh},iR sh xs=some d→∀ (j:Nat) (l:List iD),sh[j]? =some (.ptr l)→∃ cs,xs[j]? =some (.ptr cs)
 |[],[],_,_,j,l,h=>by simp at h
 |s::r,x::xs,d,h,j,l,hj=>by
  rw [iR] at h
  split at h
  · next a b h1 h2=>
    cases j with
    |zero=>
     simp at hj
     subst hj
     cases x with
     |ptr cs=>exact ⟨cs,rfl⟩
     |_=>simp [dB.read] at h1
    |succ j=>
     obtain ⟨cs,hc⟩:=agO h2 j l (by simpa using hj)
     exact ⟨cs,by simpa using hc⟩
  · cases h
 |[],_::_,_,h,_,_,_=>by simp [iR] at h
 |_::_,[],_,h,_,_,_=>by simp [iR] at h
theorem apw {sh:List dB} {b:bT sh} (hb:MX st 0 sh=some b) {q:Nat} {y:aH} (h:nK (jV sh b) q=some y):
 q%64=48∧∃ l cs cs0,sh[q / 64]? =some (.ptr l)∧y= .var cs∧st.ai q=some (.var cs0)∧cs0.flatMap Cell.refs=[]∧cs.flatMap Cell.refs=[]∧∀ (X:V) vs,au X cs0 vs→au X cs vs:=by
 unfold nK at h
 split at h
 · next e r l he=>
   rcases OY sh 0 b hb _ _ he with h'|⟨_,_,_,_,h',_⟩<;>cases h'
 · next cs he=>
   split at h
   · next hm=>
     have hm':=Nat.eq_of_beq_eq_true hm
     cases h
     rcases OY sh 0 b hb _ _ he with h'|⟨l,cs',cs0,h1,h2,h3,h4⟩
     · cases h'
     · cases h2
       refine ⟨hm',l,_,cs0,h1,rfl,?_,h4⟩
       rw [show q=(0+q / 64)*64+48 by omega]
       exact h3
   · cases h
 · cases h
def dB.vP:(s:dB)→s.den→Prop
 | .p s,x=>s.vP x
 | .own _ r,(l:List r.den)=>∀ x∈l,r.vP x
 | .ptr l,x=>acw l x
def dL:(l:List dB)→bH l→Prop
 |[],_=>True
 |s::r,x=>s.vP x.1∧dL r x.2
theorem bZ.acy {X:V} (s:bZ) (x:Arg) (d:s.den) (v:Value) (h:s.read x=some d) (hr:sK X x v):s.vP d:=
 (Fj (X:=X) [s] (d,()) [v] ⟨bZ.weak s x d v h hr,trivial⟩).1
theorem aa6 {X:V} {args:List Arg} (ho:∀ o x,dA args o=some x→bC X o x):∀ (sh:List dB) (xs:List Arg) (d:bH sh) (vs:List Value) (i:Nat),(∀ j a,xs[j]? =some a→args[i+j]? =some a)→
 iR sh xs=some d→zS X i xs vs→dL sh d
 |[],[],_,_,_,_,_,_=>trivial
 |s::r,x::xs,d,v::vs,i,hj,h,⟨hv,hvs⟩=>by
  rw [iR] at h
  split at h
  · next a b h1 h2=>
    cases h
    refine ⟨?_,aa6 ho r xs b vs (i+1) (fun j c hc=>by have:=hj (j+1) c (by simpa using hc);rwa [show i+(j+1)=i+1+j by omega] at this) h2 hvs⟩
    have hx:args[i]? =some x:=hj 0 x rfl
    cases s with
    |p s=>
     have h1':s.read x=some a:=by simpa [dB.read] using h1
     refine bZ.acy (X:=X) s x a v h1' ?_
     cases x with
     |own _ _ _|ptr _=>cases s<;>simp [bZ.read] at h1'
     |_=>exact hv
    |own e r'=>
     cases x with
     |own f s' l=>
      have h1':(match Nat.beq e f with|true=>if h:s'.beq r'=true then some (xW h l) else none|false=>none)=some a:=h1
      split at h1'
      · split at h1'
        · next hb hs=>
          cases h1'
          have hsr:=aB.eq_of_beq s' r' hs
          subst hsr
          have qW:dA args (i*64+49)=some (.arr f s' l false):=by
           unfold dA
           rw [show (i*64+49) / 64=i by omega,hx]
           dsimp only
           rw [show (i*64+49)%64=49 by omega]
          obtain ⟨us,_,_,_,hrow⟩:=ho _ _ qW
          intro y hy
          have hy':y∈l:=hy
          obtain ⟨j,hj1,hj2⟩:=List.mem_iff_getElem.1 hy'
          exact bf.vP s' _ _ (hrow j y (by rw [List.getElem?_eq_getElem hj1,hj2]))
        · cases h1'
      · cases h1'
     |_=>simp [dB.read] at h1
    |ptr l=>
     cases x with
     |ptr cs=>
      have h1':jU l cs=some a:=h1
      have qW:dA args (i*64+48)=some (.var cs):=by
       unfold dA
       rw [show (i*64+48) / 64=i by omega,hx]
       dsimp only
       rw [show (i*64+48)%64=48 by omega]
      obtain ⟨_,arr,_,_,_,hc⟩:=ho _ _ qW
      exact MW l a _ (GN _ _ _ _ h1' hc)
     |_=>simp [dB.read] at h1
  · cases h
 |[],_::_,_,_,_,_,h,_=>by simp [iR] at h
 |_::_,[],_,_,_,_,h,_=>by simp [iR] at h
theorem NI:∀ (l:List dB) (d:bH l),(zU l d).length=l.length
 |[],_=>rfl
 |_::r,d=>by simp [zU,NI r d.2]
theorem Out.ap9 (rs:List (Bool×List fG)) (k:Nat):((⟨rs,none⟩:Out).take k).2=(iL k rs).2:=by
 unfold Out.take
 dsimp only
 split
 · next h=>rw [h]
 · next h=>rw [h]
theorem Out.aqa (rs:List (Bool×List fG)) (k:Nat):((⟨rs,none⟩:Out).take k).1=(match (iL k rs).1 with|[v]=>AV.sv v|vs=> .nX vs):=by
 unfold Out.take
 dsimp only
 split
 · next h=>rw [h]
 · next vs δ hne h=>
   rw [h]
   dsimp only
   rcases vs with _|⟨v,_|⟨v2,r⟩⟩
   · rfl
   · exact (hne v rfl).elim
   · rfl
theorem asC {args:List Arg} {S:Nat→Prop} {sh:List dB} {dY:List fA} {x:bH sh} (hx:iR sh args=some x) {d:bV dY} {b:bT sh} {k:Nat} {vs:List SV} {us:List Value}
 (hR:Rel w (yH (dA args) γ) (aa5 args γ S) γ' st a w') (hrs:dM (ax w (aa5 args γ S) γ' st w') vs us) (hnd:BA (D9 dY vs)=true) (hrd:Fp st dY vs=some d) (hbk:MX st 0 sh=some b)
 (hap:∀ o x,look ((⟨iQ dY d,none⟩:Out).take k).2 o=some x→nK (jV sh b) o=none):
 ∃ γ2,aX ⟨w',w.heap.size,sN S args (jV sh b) γ,γ2,look ((⟨iQ dY d,none⟩:Out).take k).2⟩ ((⟨iQ dY d,none⟩:Out).take k).1 (if h:us.toArray.size=1 then us.toArray[0] else .tuple us.toArray)∧
   (∀ o x,look ((⟨iQ dY d,none⟩:Out).take k).2 o=some x→bC ⟨w',w.heap.size,sN S args (jV sh b) γ,γ2,look ((⟨iQ dY d,none⟩:Out).take k).2⟩ o x∧
     ∀ b',blk (γ2 o)=some b'→b'<w'.heap.size∧(w.heap.size≤b'∨yH (dA args) γ b')∧∀ q y,nK (jV sh b) q=some y→blk (γ q)≠some b')∧
   (∀ o x q y b',look ((⟨iQ dY d,none⟩:Out).take k).2 o=some x→look ((⟨iQ dY d,none⟩:Out).take k).2 q=some y→o≠q→blk (γ2 o)=some b'→blk (γ2 q)≠some b')∧
   (∀ o x,nK (jV sh b) o=some x→γ2 o=γ o∧bC ⟨w',w.heap.size,sN S args (jV sh b) γ,γ2,look ((⟨iQ dY d,none⟩:Out).take k).2⟩ o x):=by
 rw [Out.ap9] at hap ⊢
 rw [Out.aqa]
 skip
 let Y:V:=ax w (aa5 args γ S) γ' st w'
 let fv:List Value:=us.flatMap fun v=>v.cells.toList
 let aT:=jV sh b
 let γ2:Nat→Value:=fun p=>match nK aT p with|some _=>γ p|none=>fv.getD (p-k) undef
 let Z:V:=⟨w',w.heap.size,sN S args aT γ,γ2,look (iL k (iQ dY d)).2⟩
 have hpos:∀ o e r l g,st.ai o=some (.arr e r l g)→0<r.len:=fun o e r l g ho=>by
  obtain ⟨_,_,h,_⟩:=hR.ai o _ ho
  exact h
 have hF:GU Y (OX (iQ dY d)) fv (D9 dY vs):=agN (st:=st) rfl hpos dY vs d us hrd hrs
 have hbq:∀ q y,nK aT q=some y→γ' q=γ q∧∃ cs cs0,y= .var cs∧st.ai q=some (.var cs0)∧cs0.flatMap Cell.refs=[]∧cs.flatMap Cell.refs=[]∧∀ (X:V) vs,au X cs0 vs→au X cs vs:=by
  intro q y hq
  obtain ⟨hm,l,cs,cs0,h1,h2,h3,h4,h5,h6⟩:=apw hbk hq
  refine ⟨?_,cs,cs0,h2,h3,h4,h5,h6⟩
  obtain ⟨ci,hci⟩:=agO hx _ l h1
  have ho:dA args q=some (.var ci):=by
   unfold dA
   rw [hci]
   dsimp only
   rw [hm]
  have hN:(aa5 args γ S).N q=some (γ q):=by
   show ai6 args γ q=_
   unfold ai6
   rw [ho]
  exact hR.pin q _ _ hN h3
 have hG:∀ p X,look (iL k (iQ dY d)).2 p=some X→∃ i e r l fr,p=k+i∧(OX (iQ dY d))[i]? =some (.own e r l fr)∧X= .arr e r l fr∧0<r.len∧
  ((∃ o g,(D9 dY vs)[i]? =some (some o)∧st.ai o=some (.arr e r l g)∧Qo fr g=true∧γ2 p=γ' o∧(γ2 p).oneCell'=true)∨(l=[]∧γ2 p= .slice none 0 0)):=by
  intro p X hp
  obtain ⟨i,e,r,l,fr,h1,h2,h3⟩:=(DX _ k p X).1 hp
  obtain ⟨v,n,g1,g2,hr,hv⟩:=GU.get _ _ _ i _ hF h2
  have hγ:γ2 p=v:=by
   show (match nK aT p with|some _=>γ p|none=>fv.getD (p-k) undef)=v
   rw [hap p X hp]
   dsimp only
   rw [h1,show k+i-k=i by omega,List.getD_eq_getElem?_getD,g1]
   rfl
  refine ⟨i,e,r,l,fr,h1,h2,h3,hr,?_⟩
  rcases hv with ⟨o,g,hn,ho,hb,hv,h1c⟩|⟨hl,hv⟩
  · exact .inl ⟨o,g,by rw [g2,hn],ho,hb,hγ.trans hv,by rw [hγ];exact h1c⟩
  · exact .inr ⟨hl,hγ.trans hv⟩
 have WO:∀ b',Y.foot b'→Z.foot b':=by
  intro b' hb'
  refine ⟨hb'.1,fun hlt=>⟨hb'.2.1 hlt,fun q y hq=>?_⟩,fun p X hp=>?_⟩
  · obtain ⟨hγ,cs,cs0,_,h3,_⟩:=hbq q y hq
    rw [← hγ]
    exact hb'.2.2 q _ h3
  · obtain ⟨i,e,r,l,fr,_,_,_,_,hc⟩:=hG p X hp
    show blk (γ2 p)≠some b'
    rcases hc with ⟨o,g,_,ho,_,hγ,_⟩|⟨_,hγ⟩
    · rw [hγ];exact hb'.2.2 o _ ho
    · rw [hγ];intro h;cases h
 have apx:∀ fr b',Y.cu fr b'→Z.cu fr b':=fun fr b' h=>⟨WO b' h.1,h.2⟩
 have hgo:KP Z k (OX (iQ dY d)) fv:=by
  refine KP.of _ _ _ (GU.length _ _ _ hF) fun i c v hc hv=>?_
  obtain ⟨v',n,g1,g2,g3⟩:=GU.get _ _ _ i c hF hc
  rw [hv] at g1
  cases g1
  cases c with
  |plain x=>
   exact (HY (Y:=Y) (Z:=Z) rfl apx [x] [v] (by simpa using g3.2) ⟨g3.1,trivial⟩).1
  |own e r l fr=>
   have hp:look (iL k (iQ dY d)).2 (k+i)=some (.arr e r l fr):=(DX _ k _ _).2 ⟨i,e,r,l,fr,rfl,hc,rfl⟩
   have hγ:γ2 (k+i)=v:=by
    show (match nK aT (k+i) with|some _=>γ (k+i)|none=>fv.getD (k+i-k) undef)=v
    rw [hap _ _ hp]
    dsimp only
    rw [show k+i-k=i by omega,List.getD_eq_getElem?_getD,hv]
    rfl
   refine ⟨⟨e,r,l,fr,hp⟩,hγ.symm,?_⟩
   rcases g3.2 with ⟨_,_,_,_,_,_,h⟩|⟨_,h⟩
   · exact h
   · rw [h];rfl
 have hsv:dM Z (iL k (iQ dY d)).1 us:=akB (st:=st) (Y:=Y) rfl hpos dY vs d us k hrd hrs hgo
 refine ⟨γ2,?_,fun p X hp=>?_,fun p X q X' b' hp hq hne hb1 hb2=>?_,fun q y hq=>?_⟩
 · have hl:=dM.length _ _ hsv
   match hm:(iL k (iQ dY d)).1,us,hsv,hl with
   |[v],[u],hk,_=>exact hk.1
   |[],[],hk,_=>exact ⟨_,by simp,hk⟩
   |v::v2::r,u::u2::us,hk,hl=>exact ⟨_,by simp,hk⟩
   |[],_::_,hk,h4|_::_,[],hk,h4|[_],_::_::_,hk,h4|_::_::_,[_],hk,h4=>simp at h4
 · obtain ⟨i,e,r,l,fr,_,_,rfl,hr,hc⟩:=hG p X hp
   rcases hc with ⟨o,g,_,ho,hb,hγ,_⟩|⟨rfl,hγ⟩
   · have hO:bC Y o (.arr e r l g):=hR.ai o _ ho
     have hold:∀ b',blk (γ' o)=some b'→fr=true→w.heap.size≤b':=by
      intro b' hb' hfr
      subst hfr
      have hg:g=true:=hb
      subst hg
      obtain ⟨_,_,_,hn,_⟩:=hO
      exact hn b' hb' rfl
     refine ⟨bC.acs (Y:=Y) (Z:=Z) hO hγ rfl (fun b' hb'=>⟨WO b' hb'.1,fun hfr=>hb'.2 ?_⟩) hold,fun b' hb'=>?_⟩
     · subst hfr;exact hb
     · rw [hγ] at hb'
       obtain ⟨h1,h2⟩:=hR.lt o _ b' ho hb'
       refine ⟨h1,h2,fun q y hq=>?_⟩
       obtain ⟨hγq,cs,cs0,_,h3,_⟩:=hbq q y hq
       rw [← hγq]
       refine hR.sep o _ q _ b' ho h3 ?_ hb'
       intro e;subst e;rw [ho] at h3;cases h3
   · refine ⟨⟨[],⟨by simp, .inl ⟨hγ,rfl⟩⟩,hr,(fun b' hb'=>by have h0:blk (γ2 p)=some b':=hb';rw [hγ] at h0;cases h0),fun i x hi=>by simp at hi⟩,fun b' hb'=>by rw [hγ] at hb';cases hb'⟩
 · obtain ⟨i,e,r,l,fr,hi,_,_,_,hc⟩:=hG p X hp
   obtain ⟨j,e',r',l',fr',hj,_,_,_,hc'⟩:=hG q X' hq
   rcases hc with ⟨o,g,hn,ho,_,hγ,_⟩|⟨_,hγ⟩
   · rcases hc' with ⟨o',g',hn',ho',_,U3,_⟩|⟨_,U3⟩
     · rw [hγ] at hb1
       rw [U3] at hb2
       have:o≠o':=by
        intro e
        subst e
        have:=Ul hnd _ _ _ hn hn'
        omega
       exact hR.sep o _ o' _ b' ho ho' this hb1 hb2
     · rw [U3] at hb2;cases hb2
   · rw [hγ] at hb1;cases hb1
 · obtain ⟨hγ,cs,cs0,rfl,h3,h4,h5,h6⟩:=hbq q y hq
   have oh:γ2 q=γ q:=by
    show (match nK aT q with|some _=>γ q|none=>fv.getD (q-k) undef)=γ q
    rw [hq]
   refine ⟨oh,?_⟩
   obtain ⟨b',arr,t,k1,k2,k3⟩:=hR.ai q _ h3
   refine ⟨b',arr,t,?_,k2,HY (Y:=Y) (Z:=Z) rfl apx _ _ h5 (h6 _ _ k3)⟩
   show γ2 q=_
   rw [oh,← hγ]
   exact k1
theorem bQ {G:mD} (hE:EnvB P G Θ Γ) (hm:P.follows .mixedOrders=true) {f:FuncId} {fn:Func} {c:Code} (hf:P.funcs[f]? =some fn) (hb:fn.body=some c) (H:Hints)
 {sh:List dB} {dY:List fA} {F:bH sh→Prop×(bV dY×bT sh→Prop)} (hn:Nat.ble sh.length fn.ntmps=true) (hne:∀ x,(F x).1→∃ t,(F x).2 t)
 (hwalk:∀ x,dL sh x→(F x).1→OA Θ Γ H c (aoI Θ fn.results.toList sh dY (F x).2) (MZ fn.ntmps (zU sh x))):aC P G f (dJ sh dY F):=by
 intro args p ρ hcon hp
 unfold dJ at hcon
 split at hcon
 case h_2=>cases hcon
 next x hx=>
 cases hcon
 refine ⟨hne x hp,fun k S γ vs w hG hrep qW hsep hap=>?_⟩
 have hlen:=(OW hx).1
 rw [NI] at hlen
 have hn':args.length≤fn.ntmps:=by rw [← hlen];simpa [Nat.ble_eq] using hn
 have hin:dL sh x:=aa6 (fun o X ho=>(qW o X ho).1) sh args x vs.toList 0 (fun j a h=>by rwa [Nat.zero_add]) hx hrep
 have hR0:=agL (S:=S) fn.ntmps hn' hrep (fun o X ho=>⟨(qW o X ho).1,fun b hb=>((qW o X ho).2 b hb).1⟩) hsep
 have hR1:=hR0.covers (Yz hx fn.ntmps)
 refine calls_of_wp hf hb (aa4 ⟨hE,hG,fun b hb=>?_⟩ hm H c _ _ _ _ _ _ hR1 (hwalk x hin hp) ?_)
 · obtain ⟨o,X,ho,hb⟩:=hb
   exact ((qW o X ho).2 b hb).2
 intro e s γ' a' w' he hR
 have hret:∃ (us:List Value) (t:bV dY×bT sh),(fn.results.mapM (MV a'.tmps)).run P w'= .ok us.toArray w'∧(F x).2 t∧∃ γ2,
  aX ⟨w',w.heap.size,sN S args (jV sh t.2) γ,γ2,look ((⟨iQ dY t.1,none⟩:Out).take k).2⟩ ((⟨iQ dY t.1,none⟩:Out).take k).1 (if h:us.toArray.size=1 then us.toArray[0] else .tuple us.toArray)∧
  (∀ o x',look ((⟨iQ dY t.1,none⟩:Out).take k).2 o=some x'→bC ⟨w',w.heap.size,sN S args (jV sh t.2) γ,γ2,look ((⟨iQ dY t.1,none⟩:Out).take k).2⟩ o x'∧
    ∀ b,blk (γ2 o)=some b→b<w'.heap.size∧(w.heap.size≤b∨yH (dA args) γ b)∧∀ q y,nK (jV sh t.2) q=some y→blk (γ q)≠some b)∧
  (∀ o x' q y b,look ((⟨iQ dY t.1,none⟩:Out).take k).2 o=some x'→look ((⟨iQ dY t.1,none⟩:Out).take k).2 q=some y→o≠q→blk (γ2 o)=some b→blk (γ2 q)≠some b)∧
  (∀ o x',nK (jV sh t.2) o=some x'→γ2 o=γ o∧bC ⟨w',w.heap.size,sN S args (jV sh t.2) γ,γ2,look ((⟨iQ dY t.1,none⟩:Out).take k).2⟩ o x'):=by
  have he':(e= .normal∨e= .ret)∧aoI Θ fn.results.toList sh dY (F x).2 .ret s:=by
   cases e with
   |normal=>exact ⟨.inl rfl,he⟩
   |ret=>exact ⟨.inr rfl,he⟩
   |_=>exact he.elim
  have he2:=he'.2
  simp only [aoI] at he2
  split at he2
  · next svs atU=>
    split at he2
    · next vs' hvs'=>
      split at he2
      · next d b hnd hd hb'=>
        have hRf:=hR.freeze (agK s (D9 dY svs))
        obtain ⟨us,hus,hrs⟩:=Qq hE.types hRf _ _ hvs'
        refine ⟨us,(d,b),?_,he2,asC hx hRf hrs hnd hd hb' (hap (d,b) he2)⟩
        rw [Array.mapM_eq_mapM_toList,Sem.run_map,hus]
        rfl
      · exact he2.elim
    · exact he2.elim
  · exact he2.elim
 obtain ⟨us,t,hus,ht,γ2,h1,h2,h3,h4⟩:=hret
 have hfin:bodyPost P fn (fun e w'=>∃ t,(F x).2 t∧SL S args γ w k ⟨iQ dY t.1,none⟩ (jV sh t.2) e w') .ret a' w':=by
  refine ⟨hR.defers,if h:us.toArray.size=1 then us.toArray[0] else .tuple us.toArray,?_,t,ht,_,γ2,rfl,hR.os,hR.tape,hR.output,hR.grow,hR.kept,h1,h2,h3,h4⟩
  rw [WU,Sem.run_bind,hus]
  simp only [Result.andThen_ok,Sem.run_pure]
 cases e with
 |normal=>exact hfin
 |ret=>exact hfin
 |_=>exact he.elim
end Go.Fw
namespace Go.Fw
open Go
variable {P:Program} {w0:World} {M:Nat→Prop} {T:Ext} {γ γ':Nat→Value} {st:St} {a:Act} {w w':World} {Θ:fU} {Γ:aN}
def aoL (rv:List ResultVar) (l:List iD) (K:qy l→Prop) (e:Exit) (st:St):Prop:=
 match e with
 | .normal| .ret=>match rv with
   |[.tmp t]=>match st.tmps t with
    | .dw o off=>match Nat.beq off 0,(st.freeze (S9 st)).ai o with
      |true,some (.var cs)=>match cs.flatMap Cell.refs,jU l cs with
       |[],some d=>K d
       |_,_=>False
      |_,_=>False
    |_=>False
   |_=>False
 |_=>False
def loses (sh:List dB):List Eff:=sh.map fun _=> .lose
def ap4 (sh:List dB) (l:List iD) (F:bH sh→Prop×(qy l→Prop)):eH:=fun args=>
 match iR sh args with
 |some x=>some ((F x).1,⟨qy l,(F x).2,fun t=>⟨[],some (iw l t)⟩,fun _=>loses sh⟩)
 |none=>none
theorem WV (sh:List dB) (q:Nat):nK (loses sh) q=none:=by
 unfold nK loses
 rw [List.getElem?_map]
 cases sh[q / 64]? <;>rfl
theorem Vb:∀ (l:List iD) (cs:List Cell) (d:qy l),jU l cs=some d→cs.flatMap Cell.refs=[]→(iw l d).flatMap Cell.refs=[]
 |[],[],_,_,_=>rfl
 |c::l,x::xs,d,h,hn=>by
  rw [jU] at h
  rw [List.flatMap_cons,List.append_eq_nil_iff] at hn
  split at h
  · next p q hp hq=>
    cases h
    show ((c.cell p)::iw l q).flatMap Cell.refs=[]
    rw [List.flatMap_cons,List.append_eq_nil_iff]
    refine ⟨?_,Vb l xs q hq hn.2⟩
    cases c with
    |ref o=>
     cases x<;>simp [iD.read,Cell.refs] at hp hn
    |_=>rfl
  · cases h
 |[],_::_,_,h,_=>by simp [jU] at h
 |_::_,[],_,h,_=>by simp [jU] at h
theorem aqZ {G:mD} (hE:EnvB P G Θ Γ) (hm:P.follows .mixedOrders=true) {f:FuncId} {fn:Func} {c:Code} (hf:P.funcs[f]? =some fn) (hb:fn.body=some c) (H:Hints)
 {sh:List dB} {l:List iD} {F:bH sh→Prop×(qy l→Prop)} (hn:Nat.ble sh.length fn.ntmps=true) (hne:∀ x,(F x).1→∃ t,(F x).2 t)
 (hwalk:∀ x,dL sh x→(F x).1→OA Θ Γ H c (aoL fn.results.toList l (F x).2) (MZ fn.ntmps (zU sh x))):aC P G f (ap4 sh l F):=by
 intro args p ρ hcon hp
 unfold ap4 at hcon
 split at hcon
 case h_2=>cases hcon
 next x hx=>
 cases hcon
 refine ⟨hne x hp,fun k S γ vs w hG hrep qW hsep hap=>?_⟩
 have hlen:=(OW hx).1
 rw [NI] at hlen
 have hn':args.length≤fn.ntmps:=by rw [← hlen];simpa [Nat.ble_eq] using hn
 have hin:dL sh x:=aa6 (fun o X ho=>(qW o X ho).1) sh args x vs.toList 0 (fun j a h=>by rwa [Nat.zero_add]) hx hrep
 have hR0:=agL (S:=S) fn.ntmps hn' hrep (fun o X ho=>⟨(qW o X ho).1,fun b hb=>((qW o X ho).2 b hb).1⟩) hsep
 have hR1:=hR0.covers (Yz hx fn.ntmps)
 refine calls_of_wp hf hb (aa4 ⟨hE,hG,fun b hb=>?_⟩ hm H c _ _ _ _ _ _ hR1 (hwalk x hin hp) ?_)
 · obtain ⟨o,X,ho,hb⟩:=hb
   exact ((qW o X ho).2 b hb).2
 intro e s γ' a' w' he hR
 have he':aoL fn.results.toList l (F x).2 .ret s:=by
  cases e with
  |normal=>exact he
  |ret=>exact he
  |_=>exact he.elim
 have hfin:bodyPost P fn (fun e w'=>∃ t,(F x).2 t∧SL S args γ w k ⟨[],some (iw l t)⟩ (loses sh) e w') .ret a' w':=by
  simp only [aoL] at he'
  split at he'
  case h_2=>exact he'.elim
  next t hrv=>
  split at he'
  case h_2=>exact he'.elim
  next o off htm=>
  split at he'
  case h_2=>exact he'.elim
  next cs hoff hcs=>
  split at he'
  case h_2=>exact he'.elim
  next d hnr hd=>
  have hoff:=Nat.eq_of_beq_eq_true hoff
  subst hoff
  have hRf:=hR.freeze (S9 s)
  have hv:=hR.tmps t
  rw [htm] at hv
  obtain ⟨b,cs0,_,hγ,hval⟩:=hv
  obtain ⟨b',arr,ty,g1,g2,g3⟩:=hRf.ai o _ hcs
  have g1:γ' o= .pointer (some ⟨b',0,none⟩):=g1
  have hγ:γ' o= .pointer (some ⟨b,0,none⟩):=hγ
  rw [hγ] at g1
  cases g1
  have hblk:blk (γ' o)=some b:=by rw [hγ];rfl
  have hlt:=hRf.lt o _ b hcs hblk
  let γ2:Nat→Value:=fun _=>γ' o
  let Z:V:=⟨w',w.heap.size,sN S args (loses sh) γ,γ2,look (Out.take k ⟨[],some (iw l d)⟩).2⟩
  have hlook:∀ q y,look (Out.take k ⟨[],some (iw l d)⟩).2 q=some y→q=k-1∧y= .var (iw l d):=by
   intro q y hq
   have hmem:=Ai _ q y hq
   have:(q,y)=(k-1, .var (iw l d)):=by simpa [Out.take] using hmem
   exact ⟨congrArg Prod.fst this,congrArg Prod.snd this⟩
  have WO:∀ fr b',(ax w (aa5 args γ S) γ' (s.freeze (S9 s)) w').cu fr b'→Z.cu fr b':=by
   intro fr b' hb'
   refine ⟨⟨hb'.1.1,fun hlt'=>⟨hb'.1.2.1 hlt',fun q y hq=>by rw [WV] at hq;cases hq⟩,fun q y hq=>?_⟩,hb'.2⟩
   exact hb'.1.2.2 o _ hcs
  have hcells:au Z (iw l d) arr.toList:=
   HY (Y:=ax w (aa5 args γ S) γ' (s.freeze (S9 s)) w') (Z:=Z) rfl WO _ _ (Vb l cs d hd hnr) (GN l cs d _ hd g3)
  have hself:look (Out.take k ⟨[],some (iw l d)⟩).2 (k-1)=some (.var (iw l d)):=by simp [Out.take,look]
  refine ⟨hR.defers,a'.tmps.getD t undef,?_,d,he',_,γ2,rfl,hR.os,hR.tape,hR.output,hR.grow,hR.kept,?_,fun q y hq=>?_,fun q y q' y' b' hq hq' hne'=>?_,fun q y hq=>by rw [WV] at hq;cases hq⟩
  · have:fn.results=#[.tmp t]:=by apply Array.ext';simpa using hrv
    have hmap:(Array.mapM (MV a'.tmps) #[ResultVar.tmp t]).run P w'= .ok #[a'.tmps.getD t undef] w':=by
     rw [Array.mapM_eq_mapM_toList,Sem.run_map]
     simp only [List.mapM_cons,List.mapM_nil,MV]
     rfl
    rw [WU,this,Sem.run_bind,hmap]
    rfl
  · exact ⟨b,iw l d,hself,hγ,hval⟩
  · obtain ⟨rfl,rfl⟩:=hlook q y hq
    refine ⟨⟨b,arr,ty,hγ,g2,hcells⟩,fun b' hb'=>?_⟩
    have hb':blk (γ' o)=some b':=hb'
    rw [hblk] at hb'
    cases hb'
    exact ⟨hlt.1,hlt.2,fun q y hq=>by rw [WV] at hq;cases hq⟩
  · obtain ⟨rfl,_⟩:=hlook q y hq
    obtain ⟨rfl,_⟩:=hlook q' y' hq'
    exact (hne' rfl).elim
 cases e with
 |normal=>exact hfin
 |ret=>exact hfin
 |_=>exact he.elim
end Go.Fw
namespace Go.Fw
open Go
def CT.isZero:CT→Value→Bool
 | .int k, .int l n=>decide (k=l)&&decide (n=0)
 | .bool, .bool b=>!b
 | .str, .string s=>s.data.toList.isEmpty
 | .sl _ _, .slice none 0 0=>true
 |_,_=>false
def aB.Vd:aB→List Value→Bool
 | .nil,[]=>true
 | .cons c r,v::vs=>c.isZero v&&r.Vd vs
 |_,_=>false
theorem CT.apy:∀ (c:CT) (v:Value),c.isZero v=true→v=c.aiY:=by
 intro c v h
 unfold CT.isZero at h
 split at h
 · simp at h;rw [h.1,h.2];rfl
 · simp at h;subst h;rfl
 · next s=>
   obtain ⟨⟨l⟩⟩:=s
   simp at h
   subst h;rfl
 · rfl
 · cases h
theorem aB.agP:∀ (r:aB) (vs:List Value),r.Vd vs=true→vs=r.kX
 | .nil,[],_=>rfl
 | .cons c r,v::vs,h=>by
   rw [Vd,Bool.and_eq_true] at h
   rw [aB.kX,CT.apy c v h.1,aB.agP r vs h.2]
 | .nil,_::_,h| .cons _ _,[],h=>by simp [Vd] at h
def amD:TypeDesc→TypeDesc→Bool
 | .int k, .int l=>decide (k=l)
 | .bool, .bool=>true
 | .string, .string=>true
 | .slice e, .slice f=>Nat.beq e f
 |_,_=>false
theorem apz:∀ (c d:TypeDesc),amD c d=true→c=d:=by
 intro c d h
 unfold amD at h
 split at h
 · rw [of_decide_eq_true h]
 · rfl
 · rfl
 · rw [Nat.eq_of_beq_eq_true h]
 · cases h
def Qr (P:Program):List (Nat×TypeId)→List Field→Bool
 |[],[]=>true
 |(o,t)::r,f::fs=>Nat.beq o f.offset&&Nat.beq t f.type&&(P.info? f.type).isSome&&Qr P r fs
 |_,_=>false
theorem adR {P:Program}:∀ (l:List (Nat×TypeId)) (fs:List Field),Qr P l fs=true→l=fs.map (fun f=>(f.offset,f.type))∧∀ f∈fs,(P.info? f.type).isSome=true
 |[],[],_=>⟨rfl,by simp⟩
 |(o,t)::r,f::fs,h=>by
  rw [Qr,Bool.and_eq_true,Bool.and_eq_true,Bool.and_eq_true] at h
  obtain ⟨⟨⟨h1,h2⟩,h3⟩,h4⟩:=h
  obtain ⟨e,hall⟩:=adR r fs h4
  refine ⟨by rw [List.map_cons,← e,Nat.eq_of_beq_eq_true h1,Nat.eq_of_beq_eq_true h2],fun g hg=>?_⟩
  rcases List.mem_cons.1 hg with rfl|hg
  · exact h3
  · exact hall g hg
 |[],_::_,h|_::_,[],h=>by simp [Qr] at h
def apA (P:Program) (t:TypeId) (ti:TI):Bool:=
 match ti.kind,P.underlying t with
 | .scalar,some d=>match ti.cells.desc with|some c=>amD c d|none=>false
 | .str,some .string=>ti.cells.beq (.cons .str .nil)
 | .slice e,some (.slice f)=>Nat.beq e f&&(match ti.cells with| .cons (.sl g _) .nil=>Nat.beq g e|_=>false)
 | .struct fs,some (.struct BB)=>Qr P fs BB.toList
 |_,_=>false
def an1 (ti:TI) (z:Value):Bool:=match ti.kind with
 | .struct _=>true
 |_=>z.oneCell'
def ai7 (P:Program) (t:TypeId) (ti:TI):Bool:=
 match P.info? t with
 |some i=>match i.zero with
  |some z=>Nat.beq i.size ti.cells.len&&Nat.beq i.bytes ti.bytes&&ti.cells.Vd z.cells.toList&&an1 ti z&&apA P t ti&&Nat.ble ti.bytes 4096&&(!ti.cmp||aoq P t ti.cells)
  |none=>false
 |none=>false
theorem mP.aqb {P:Program} {t:TypeId} {ti:TI} (h:ai7 P t ti=true):mP P t ti:=by
 unfold ai7 at h
 split at h
 · next i hi=>
   split at h
   · next z hz=>
     simp only [Bool.and_eq_true] at h
     obtain ⟨⟨⟨⟨⟨⟨h1,h2⟩,h3⟩,h4⟩,h5⟩,h6⟩,h7⟩:=h
     refine ⟨⟨i,z,hi,Nat.eq_of_beq_eq_true h1,Nat.eq_of_beq_eq_true h2,hz,aB.agP _ _ h3,fun hagg=>?_⟩,?_,by simpa [Nat.ble_eq] using h6,fun e w s u X xs ys vs us b hf hx hy he=>aqT (by rw [e] at h7;simpa using h7) w s u X xs ys vs us b hf hx hy he⟩
     · unfold an1 at h4
       unfold TI.agg at hagg
       split at h4
       · next hk=>rw [hk] at hagg;cases hagg
       · exact JM z h4
     · unfold apA at h5
       split at h5
       · next d hk hu=>
         rw [hk]
         split at h5
         · next c hc=>exact ⟨d,by rw [hc,apz c d h5],hu⟩
         · cases h5
       · next hk hu=>rw [hk];exact ⟨hu,aB.eq_of_beq _ _ h5⟩
       · next e f hk hu=>
         rw [hk]
         rw [Bool.and_eq_true] at h5
         have hef:=Nat.eq_of_beq_eq_true h5.1
         subst hef
         refine ⟨hu,?_⟩
         have h52:=h5.2
         split at h52
         · next g r hg=>exact ⟨r,by rw [hg,Nat.eq_of_beq_eq_true h52]⟩
         · cases h52
       · next fs BB hk hu=>
         rw [hk]
         obtain ⟨e,hall⟩:=adR _ _ h5
         exact ⟨BB,hu,e,hall⟩
       · cases h5
   · cases h
 · cases h
def acA (P:Program):List (Nat×TI)→Bool
 |[]=>true
 |(t,ti)::r=>ai7 P t ti&&acA P r
theorem aA {P:Program}:∀ {l:List (Nat×TI)},acA P l=true→∀ t ti,alQ l t=some ti→mP P t ti
 |[],_,t,ti,h=>by cases h
 |(i,x)::r,hc,t,ti,h=>by
  rw [acA,Bool.and_eq_true] at hc
  rw [alQ] at h
  cases hb:Nat.beq t i with
  |true=>rw [hb] at h;cases h;rw [Nat.eq_of_beq_eq_true hb];exact .aqb hc.1
  |false=>rw [hb] at h;exact aA hc.2 t ti h
def an2 (fn:Func):Bool:=fn.body.isSome&&!(fn.name== "runtime.NumGoroutine")
theorem ak {P:Program} {f:FuncId} {fn:Func} (hf:P.funcs[f]? =some fn) (hc:an2 fn=true):ay P f:=by
 intro args w
 unfold an2 at hc
 rw [Bool.and_eq_true] at hc
 have h1:(fn.name== "runtime.NumGoroutine")=false:=by simpa using hc.2
 have h2:fn.body.isNone=false:=by cases hb:fn.body with|none=>rw [hb] at hc;simp at hc|some _=>rfl
 unfold callFunc
 simp only [Sem.run_bind,run_program,Result.andThen_ok,hf,h1,h2,Bool.false_eq_true,if_false,Sem.run_pure]
def arq (P:Program) (G:mD) (f:FuncId):aoj→Prop
 | .pure c=>aG P G f c∧ay P f
 | .eff _ c=>aC P G f c∧ay P f
theorem aF {P:Program} {G:mD} {Θ:fU} (hT:∀ t ti,Θ t=some ti→mP P t ti):∀ {l:List (Nat×aoj)},(∀ x∈l,arq P G x.1 x.2)→EnvB P G Θ (aQ l)
 |[],_=>⟨hT,(fun f con h=>by cases h),(fun f ms con h=>by cases h)⟩
 |(i,c)::r,h=>by
  have ih:=aF (G:=G) hT fun x hx=>h x (List.mem_cons_of_mem _ hx)
  refine ⟨hT,fun f con hf=>?_,fun f ms con hf=>?_⟩
  · rw [aQ] at hf
    cases hb:Nat.beq f i with
    |true=>rw [hb] at hf;cases hf;rw [Nat.eq_of_beq_eq_true hb];exact h (i, .pure con) List.mem_cons_self
    |false=>rw [hb] at hf;exact ih.cons f con hf
  · rw [aQ] at hf
    cases hb:Nat.beq f i with
    |true=>rw [hb] at hf;cases hf;rw [Nat.eq_of_beq_eq_true hb];exact h (i, .eff ms con) List.mem_cons_self
    |false=>rw [hb] at hf;exact ih.alO f ms con hf
end Go.Fw
namespace Go.Fw
open Go
variable {P:Program} {G:mD} {f:FuncId}
abbrev BG:List UInt8:=[]
theorem aG.weaken {con aa7:gq} (h:aG P G f con) (hc:∀ args p out,aa7 args=some (p,out)→p→∃ q,con args=some (q,out)∧q):aG P G f aa7:=by
 intro args p out k S vs w hcon hp hG hrep
 obtain ⟨q,h1,h2⟩:=hc args p out hcon hp
 exact h args q out k S vs w h1 h2 hG hrep
theorem aC.weaken {con aa7:eH} (h:aC P G f con) (hc:∀ args p ρ,aa7 args=some (p,ρ)→p→∃ q,con args=some (q,ρ)∧q):aC P G f aa7:=by
 intro args p ρ hcon hp
 obtain ⟨q,h1,h2⟩:=hc args p ρ hcon hp
 exact h args q ρ h1 h2
theorem aq0 {sh:List dB} {dY:List fA} {F:bH sh→Prop×(bV dY×bT sh→Prop)} (Fr Fs:Nat→bH sh→Prop×(bV dY×bT sh→Prop)) (h0:∀ x,¬ (Fr 0 x).1) (hs:∀ n x,Fr (n+1) x=Fs n x)
 (hf:∀ x,(F x).1→∃ n,(Fr n x).1) (he:∀ n x,(Fr n x).2=(F x).2) (step:∀ n,aC P G f (dJ sh dY (Fr n))→aC P G f (dJ sh dY (Fs n))):aC P G f (dJ sh dY F):=by
 have all:∀ n,aC P G f (dJ sh dY (Fr n)):=by
  intro n
  induction n with
  |zero=>
   intro args p ρ hcon hp
   unfold dJ at hcon
   split at hcon
   · next x _=>
     have e:(Fr 0 x).1=p:=congrArg Prod.fst (Option.some.inj hcon)
     exact absurd (e.symm▸hp) (h0 x)
   · cases hcon
  |succ n ih=>
   have:=step n ih
   have e:Fr (n+1)=Fs n:=funext (hs n)
   rw [e];exact this
 intro args p ρ hcon hp
 have alS:=hcon
 unfold dJ at alS
 split at alS
 · next x hx=>
   have e:=Option.some.inj alS
   have e1:(F x).1=p:=congrArg Prod.fst e
   obtain ⟨n,hn⟩:=hf x (e1.symm▸hp)
   refine all n args (Fr n x).1 ρ ?_ hn
   unfold dJ
   rw [hx]
   show some ((Fr n x).1,_)=_
   rw [he n x]
   exact congrArg (fun z=>some ((Fr n x).1,z)) (congrArg Prod.snd e)
 · cases alS
end Go.Fw
namespace Go.Fw
open Go
variable {P:Program} {H:Type} {enc:TypeId×Value→H} {w:World}
def aB.app:aB→aB→aB
 | .nil,s=>s
 | .cons c r,s=> .cons c (r.app s)
def alT:(r s:aB)→r.den→s.den→(r.app s).den
 | .nil,_,_,y=>y
 | .cons _ r,s,x,y=>(x.1,alT r s x.2 y)
theorem bf.app {h:Array Obj} {S:Nat→Prop}:∀ (r s:aB) (x:r.den) (y:s.den) (vs us:List Value),bf h S r vs x→bf h S s us y→bf h S (r.app s) (vs++us) (alT r s x y)
 | .nil,s,x,y,vs,us,h1,h2=>by rw [bf] at h1;subst h1;exact h2
 | .cons c r,s,(x,x'),y,vs,us,h1,h2=>by
   rw [bf] at h1
   obtain ⟨v,vs',rfl,g1,g2⟩:=h1
   show bf h S (.cons c (r.app s)) (v::(vs'++us)) (x,alT r s x' y)
   rw [bf]
   exact ⟨v,vs'++us,rfl,g1,bf.app r s x' y vs' us g2 h2⟩
theorem add_add (a:Addr) (h:a.spot=none) (m j:Nat):(a.add m).add j=⟨a.block,a.off+m+j,none⟩:=by
 obtain ⟨b,o,sp⟩:=a
 simp only at h
 subst h
 unfold Addr.add
 by_cases hm:m=0
 · by_cases hj:j=0
   · simp [hm,hj]
   · simp [hm,hj]
 · by_cases hj:j=0
   · simp [hm,hj]
   · simp [hm,hj]
def Tf (f:TypeId→Option aB):List Field→Nat→Option aB
 |[],_=>some .nil
 |x::r,off=>match f x.type with
  |some s=>match Tf f r (off+s.len),Nat.beq x.offset off with
   |some u,true=>some (s.app u)
   |_,_=>none
  |none=>none
def rowOf (P:Program):Nat→TypeId→Option aB
 |0,_=>none
 |n+1,t=>match P.underlying t with
  |some (.int k)=>some (.cons (.int k) .nil)
  |some .bool=>some (.cons .bool .nil)
  |some .string=>some (.cons .str .nil)
  |some (.slice e)=>match rowOf P n e with
   |some s=>match Nat.beq s.len (P.cellsOf e)&&Nat.ble 1 s.len with
    |true=>some (.cons (.sl e s) .nil)
    |false=>none
   |none=>none
  |some (.struct fs)=>match Tf (rowOf P n) fs.toList 0 with
   |some r=>match Nat.beq r.len (P.cellsOf t) with
    |true=>match fs.toList.all fun f=>match rowOf P n f.type with|some s=>Nat.beq s.len (P.cellsOf f.type)|none=>false with
     |true=>some r
     |false=>none
    |false=>none
   |none=>none
  |_=>none
theorem an3 {α:Type} {Q:Nat→α→Prop}:∀ (n:Nat),(∀ i,i<n→∃ x,Q i x)→∃ l:List α,l.length=n∧∀ i x,l[i]? =some x→Q i x
 |0,_=>⟨[],rfl,fun i x h=>by simp at h⟩
 |n+1,h=>by
  obtain ⟨l,hl,hq⟩:=an3 n fun i hi=>h i (by omega)
  obtain ⟨x,hx⟩:=h n (by omega)
  refine ⟨l++[x],by simp [hl],fun i y hy=>?_⟩
  rcases Nat.lt_or_ge i n with hi|hi
  · rw [List.getElem?_append_left (by omega)] at hy;exact hq i y hy
  · rw [List.getElem?_append_right (by omega)] at hy
    have:i=n:=by
     rcases Nat.lt_or_ge n i with h'|h'
     · rw [List.getElem?_eq_none (by simp;omega)] at hy;cases hy
     · omega
    subst this
    simp [hl] at hy
    rw [← hy];exact hx
theorem an4:∀ (r s:aB),(r.app s).len=r.len+s.len
 | .nil,s=>by simp [aB.app,aB.len]
 | .cons c r,s=>by simp only [aB.app,aB.len,an4 r s];omega
theorem agQ {f:TypeId→Option aB} {S:Nat→Prop} {h:Array Obj} (cs:List Value)
 (part:∀ (t:TypeId) (r:aB) (off:Nat),f t=some r→(∃ g:Field,g.type=t∧g.offset=off)→True):∀ (fs:List Field) (off:Nat) (r:aB),Tf f fs off=some r→
 (∀ g∈fs,∀ s,f g.type=some s→∃ x,bf h S s ((cs.drop g.offset).take s.len) x)→
 ∃ x,bf h S r ((cs.drop off).take r.len) x
 |[],off,r,hr,_=>by
  cases hr
  exact ⟨(),by rw [bf];simp [aB.len]⟩
 |g::fs,off,r,hr,hall=>by
  rw [Tf] at hr
  split at hr
  · next s hs=>
    split at hr
    · next u hu hb=>
      cases hr
      obtain ⟨x,hx⟩:=hall g List.mem_cons_self s hs
      rw [Nat.eq_of_beq_eq_true hb] at hx
      obtain ⟨y,hy⟩:=agQ cs part fs (off+s.len) u hu fun g' hg'=>hall g' (List.mem_cons_of_mem _ hg')
      refine ⟨alT s u x y,?_⟩
      have:=bf.app s u x y _ _ hx hy
      rw [an4]
      have e:(cs.drop off).take (s.len+u.len)=(cs.drop off).take s.len++(cs.drop (off+s.len)).take u.len:=by
       rw [List.take_add,List.drop_drop]
      rw [e];exact this
    · cases hr
  · cases hr
theorem aeK:∀ (n:Nat) (t:TypeId) (r:aB),rowOf P n t=some r→∀ (m:Nat) (base:Nat) (spare:Nat→Bool) (held:Bool) (cs:List Value) (x:DataW H×List MemPlace),
 DataW.trod enc P w base spare held m t cs=some x→∃ y,bf w.heap (fun b=>b<w.heap.size) r cs y
 |0,t,r,hr=>by cases hr
 |n+1,t,r,hr=>by
  intro m base spare held cs x hx
  rw [rowOf] at hr
  split at hr
  · next k hu=>
    cases hr
    obtain ⟨i,rfl,_,hwf⟩:=DataW.trod_int hu hx
    simp only [Lit.wf,Bool.and_eq_true,decide_eq_true_eq] at hwf
    exact ⟨(i,()),by rw [bf];exact ⟨_,[],rfl,by rw [jq];exact ⟨rfl,hwf⟩,by rw [bf]⟩⟩
  · next hu=>
    cases hr
    obtain ⟨b,rfl,_⟩:=DataW.trod_bool hu hx
    exact ⟨(b,()),by rw [bf];exact ⟨_,[],rfl,by rw [jq],by rw [bf]⟩⟩
  · next hu=>
    cases hr
    obtain ⟨s,rfl,_,hs⟩:=DataW.trod_string hu hx
    refine ⟨(s.data.toList,()),by rw [bf];exact ⟨_,[],rfl,by rw [jq];exact ⟨by simp,by simpa using hs⟩,by rw [bf]⟩⟩
  · next e hu=>
    split at hr
    · next s hs=>
      split at hr
      · next hb=>
        cases hr
        rw [Bool.and_eq_true] at hb
        have hlen:=Nat.eq_of_beq_eq_true hb.1
        have hpos:1≤s.len:=by simpa [Nat.ble_eq] using hb.2
        rcases DataW.trod_slice hu hx with ⟨rfl,_⟩|⟨a,len,cap,elems,rest,k,_,rfl,_,hbase,hle,hmax,hel,hrow,_,_⟩
        · exact ⟨([],()),by rw [bf];exact ⟨_,[],rfl,by rw [jq];exact ⟨by simp, .inl ⟨rfl,none,0,rfl⟩⟩,by rw [bf]⟩⟩
        · by_cases h0:len=0
          · subst h0
            exact ⟨([],()),by rw [bf];exact ⟨_,[],rfl,by rw [jq];exact ⟨by simp, .inl ⟨rfl,some a,cap,rfl⟩⟩,by rw [bf]⟩⟩
          · have each:∀ i,i<len→∃ (ys:List Value) (z:s.den),w.cells? base (a.add (i*P.cellsOf e)) (P.cellsOf e)=some ys∧bf w.heap (fun b=>b<w.heap.size) s ys z:=by
             intro i hi
             have h1:=hrow i hi
             rw [List.getElem?_eq_getElem (by omega)] at h1
             obtain ⟨ys,hys,hy2⟩:=Option.bind_eq_some_iff.1 h1
             obtain ⟨z,hz⟩:=aeK n e s hs k base spare held ys _ hy2
             exact ⟨ys,z,hys,hz⟩
            obtain ⟨ys0,z0,hc0,hz0⟩:=each 0 (by omega)
            obtain ⟨_,hl0,hcell0⟩:=World.cells?_some hc0
            have aeL:=hcell0 0 (by omega)
            simp only [Nat.zero_mul,Addr.add,if_true] at aeL
            have asD:∃ v,ys0[0]? =some v:=⟨ys0[0]'(by omega),by simp [show 0<ys0.length by omega]⟩
            obtain ⟨v0,hv0⟩:=asD
            rw [hv0] at aeL
            unfold World.cell? at aeL
            split at aeL
            · next c ty fz hblk=>
              split at aeL
              · cases aeL
              · next hsp=>
                have hspot:a.spot=none:=by cases h:a.spot with|none=>rfl|some q=>rw [h] at hsp;simp at hsp
                have ha:a=⟨a.block,a.off,none⟩:=by cases a;simp at hspot;rw [hspot]
                have hb':a.block<w.heap.size:=by
                 obtain ⟨hlt,_⟩:=Array.getElem?_eq_some_iff.1 hblk
                 exact hlt
                have rows:∀ i,i<len→∃ z:s.den,bf w.heap (fun b=>b<w.heap.size) s ((c.toList.drop (a.off+i*s.len)).take s.len) z:=by
                 intro i hi
                 obtain ⟨ys,z,hcs,hz⟩:=each i hi
                 obtain ⟨_,hl,hcell⟩:=World.cells?_some hcs
                 refine ⟨z,?_⟩
                 have:(c.toList.drop (a.off+i*s.len)).take s.len=ys:=by
                  refine List.ext_getElem? fun j=>?_
                  rcases Nat.lt_or_ge j s.len with hj|hj
                  · rw [List.getElem?_take_of_lt hj,List.getElem?_drop]
                    have h2:=hcell j (by omega)
                    have hadd:=add_add a hspot (i*P.cellsOf e) j
                    rw [← hlen] at hadd h2
                    rw [hadd] at h2
                    unfold World.cell? at h2
                    simp only [hblk,Option.isSome_none,Bool.false_eq_true,if_false] at h2
                    rw [← h2]
                    simp
                  · rw [List.getElem?_eq_none (by simp;omega),List.getElem?_eq_none (by omega)]
                 rw [this];exact hz
                obtain ⟨l,hll,hlq⟩:=an3 len rows
                refine ⟨(l,()),by rw [bf];exact ⟨_,[],rfl,by rw [jq];exact ⟨by omega, .inr ⟨a.block,a.off,cap,c,ty,fz,by rw [hll,← ha],by omega,hb',hblk,hlq⟩⟩,by rw [bf]⟩⟩
            · cases aeL
      · cases hr
    · cases hr
  · next fs hu=>
    split at hr
    · next r' hf=>
      split at hr
      · next hb=>
        split at hr
        · next hall=>
          cases hr
          obtain ⟨xs,k,_,_,hcl,hxl,hparts⟩:=DataW.trod_struct hu hx
          have hlen:=Nat.eq_of_beq_eq_true hb
          have:=agQ (h:=w.heap) (S:=fun b=>b<w.heap.size) cs (fun _ _ _ _ _=>trivial) fs.toList 0 _ hf ?_
          · obtain ⟨y,hy⟩:=this
            refine ⟨y,?_⟩
            rw [List.drop_zero,List.take_of_length_le (by omega)] at hy
            exact hy
          · intro g hg s hs
            have hg2:=List.all_eq_true.1 hall g hg
            rw [hs] at hg2
            have hsl:=Nat.eq_of_beq_eq_true hg2
            obtain ⟨i,hi,hgi⟩:=List.mem_iff_getElem.1 hg
            have hp:=hparts i g (by rw [← hgi];simp [show i<fs.size by simpa using hi])
            rw [List.getElem?_eq_getElem (by simp at hi;omega)] at hp
            rw [hsl]
            exact aeK n g.type s hs k base spare held _ _ hp
        · cases hr
      · cases hr
    · cases hr
  · cases hr
end Go.Fw
namespace Go.Fw
open Go
variable {P:Program} {H:Type} {enc:TypeId×Value→H} {w:World}
def CT.csh:CT→iD
 | .int k=> .int k
 | .bool=> .bool
 | .str=> .str
 | .sl e r=> .sl e r false
def toC:(c:CT)→c.den→c.csh.den
 | .int _,x=>x
 | .bool,x=>x
 | .str,x=>x
 | .sl _ _,x=>x
def aB.shs:aB→List iD
 | .nil=>[]
 | .cons c r=>c.csh::r.shs
def toCs:(r:aB)→r.den→qy r.shs
 | .nil,_=>()
 | .cons c r,x=>(toC c x.1,toCs r x.2)
theorem ai8 (X:V):∀ (r:aB) (vs:List Value) (x:r.den),bf X.w.heap (X.cu false) r vs x→au X (iw r.shs (toCs r x)) vs
 | .nil,vs,x,h=>by rw [bf] at h;subst h;trivial
 | .cons c r,vs,(x,y),h=>by
   rw [bf] at h
   obtain ⟨v,vs',rfl,h1,h2⟩:=h
   refine ⟨?_,ai8 X r vs' y h2⟩
   cases c with
   |int k=>exact h1
   |bool=>exact h1
   |str=>exact h1
   |sl e r=>exact h1
def aoM (P:Program) (t:TypeId):Option dX:=
 match rowOf P 64 t with
 |some r=>match P.underlying t with
  |some (.struct _)=>some (.agg r.shs)
  |some (.array _ _)=>none
  |_=>match r with
   | .cons c .nil=>some (.one c.csh)
   |_=>none
 |none=>none
def Qs (P:Program):List TypeId→Option (List bZ)
 |[]=>some []
 |t::ts=>match aoM P t,Qs P ts with
  |some s,some l=>some (.v s::l)
  |_,_=>none
def start (w:World):V:=⟨w,w.heap.size,fun b=>b<w.heap.size,fun _=>undef,fun _=>none⟩
theorem aq1 {t:TypeId} {s:dX} (hs:aoM P t=some s) {base base':Nat} {sp:Nat→Bool} {hd:Bool} {v:Value} {d:DataW H} {p:List MemPlace}
 (ht:DataW.Trod enc P w base sp hd t v d p) (hv:Value.okWide P w .any base' t v):∃ x:s.den,dK (start w) (s.val x) v:=by
 unfold aoM at hs
 split at hs
 · next r hr=>
   obtain ⟨m,hm⟩:=ht
   obtain ⟨y,hy⟩:=aeK 64 t r hr m base sp hd _ _ hm
   have hy':bf (start w).w.heap ((start w).cu false) r v.cells.toList y:=
    bf.mono (fun b hb=>⟨⟨⟨hb,fun _=>hb,fun o x hx=>by cases hx⟩,fun e=>by cases e⟩,rfl⟩) r _ y hy
   unfold Value.okWide at hv
   split at hs
   · next fs hu=>
     cases hs
     rw [hu] at hv
     obtain ⟨cs,rfl,_,_⟩:=hv
     exact ⟨toCs r y,cs,rfl,ai8 (start w) r _ y hy'⟩
   · cases hs
   · next hns hna=>
     split at hs
     · next c=>
       cases hs
       have hcell:v.cells=#[v]:=by
        cases hv2:v<;>first
         |rfl
         |(exfalso
           rw [hv2] at hv
           split at hv
           · next hu=>exact hns _ hu
           · next hu=>exact hna _ _ hu
           · unfold Go.Cell.okWide at hv
             split at hv<;>first|(rename_i h1 h2;cases h2;done)|(rename_i h2;cases h2;done)|skip
             unfold Go.Cell.ok at hv
             split at hv<;>first|(rename_i h1 h2;cases h2;done)|exact hv)
       have:=ai8 (start w) _ _ y hy'
       rw [hcell] at this
       exact ⟨toC c y.1,this.1⟩
     · cases hs
 · cases hs
theorem amE:∀ (ts:List TypeId) (sh:List bZ),Qs P ts=some sh→∀ {base base':Nat} {sp:Nat→Bool} {hd:Bool} (vs:List Value) (ds:List (DataW H)) (p:List MemPlace),
 DataW.TrodAll enc P w base sp hd ts vs ds p→(∀ (j:Nat) t v,ts[j]? =some t→vs[j]? =some v→Value.okWide P w .any base' t v)→∃ x:bD sh,qj (start w) (zT sh x) vs
 |[],sh,hs,_,_,_,_,vs,ds,p,h,_=>by
  cases hs
  cases vs with
  |nil=>exact ⟨(),trivial⟩
  |cons v vs=>cases ds<;>simp [DataW.TrodAll] at h
 |t::ts,sh,hs,base,base',sp,hd,vs,ds,p,h,hok=>by
  rw [Qs] at hs
  split at hs
  · next s l h1 h2=>
    cases hs
    cases vs with
    |nil=>cases ds<;>simp [DataW.TrodAll] at h
    |cons v vs=>
     cases ds with
     |nil=>simp [DataW.TrodAll] at h
     |cons d ds=>
      obtain ⟨a,b,g1,g2,_⟩:=h
      obtain ⟨x,hx⟩:=aq1 h1 g1 (hok 0 t v rfl rfl)
      obtain ⟨y,hy⟩:=amE ts l h2 vs ds b g2 fun j t' v' ht' hv'=>hok (j+1) t' v' (by simpa using ht') (by simpa using hv')
      exact ⟨(x,y),hx,hy⟩
  · cases hs
mutual
theorem CT.LK:∀ (c:CT),c.beq c=true
 | .int k=>by simp [CT.beq]
 | .bool=>rfl
 | .str=>rfl
 | .sl e r=>by simp [CT.beq,aB.LK r]
theorem aB.LK:∀ (r:aB),r.beq r=true
 | .nil=>rfl
 | .cons c r=>by simp [aB.beq,CT.LK c,aB.LK r]
end
theorem akC:∀ (c:iD) (x:c.den),c.read (c.cell x)=some x
 | .int k,x=>by simp [iD.cell,iD.read]
 | .bool,x=>rfl
 | .str,x=>rfl
 | .sl e r fr,l=>by
   simp only [iD.cell,iD.read,Nat.beq_refl]
   have h1:Qo fr fr=true:=by cases fr<;>rfl
   have h2:r.beq r=true:=aB.LK r
   rw [h1]
   simp only [Bool.and_self]
   rw [dif_pos h2]
   rfl
 | .nil,x=>rfl
 | .ref o,x=>by simp [iD.cell,iD.read]
 | .junk,x=>rfl
theorem agR:∀ (l:List iD) (x:qy l),jU l (iw l x)=some x
 |[],_=>rfl
 |c::r,x=>by rw [iw,jU,akC c x.1,agR r x.2]
theorem amF:∀ (ts:List TypeId) (l:List bZ),Qs P ts=some l→∀ (x:bD l),JY l (zT l x)=some x
 |[],l,h,x=>by cases h;rfl
 |t::ts,l,h,x=>by
  rw [Qs] at h
  split at h
  · next s r h1 h2=>
    cases h
    have ih:=amF ts r h2 x.2
    cases s with
    |one c=>
     have e:(bZ.v (.one c)).read ((bZ.v (.one c)).val x.1)=some x.1:=akC c x.1
     rw [zT,JY,ih,e]
    |agg l=>
     have e:(bZ.v (.agg l)).read ((bZ.v (.agg l)).val x.1)=some x.1:=agR l x.1
     rw [zT,JY,ih,e]
  · cases h
def ai9:Out:=⟨[(false,[.plain (.bool true)])],none⟩
theorem apB {G:mD} {f:FuncId} {fn:Func} {sh:List bZ} {F:bD sh→Prop×Out} (hcon:aG P G f (acz sh F)) (hsh:Qs P fn.params.toList=some sh)
 (hF:∀ x,bP sh x→(F x).1∧(F x).2=ai9) (hG:G.ok w) {base base':Nat} {sp:Nat→Bool} {hd:Bool} {args:Array Value} {ds:List (DataW H)} {p:List MemPlace}
 (hA:DataW.TrodAll enc P w base sp hd fn.params.toList args.toList ds p) (hok:∀ (j:Nat) t v,fn.params[j]? =some t→args[j]? =some v→Value.okWide P w .any base' t v):
 Calls P f args w fun e w'=>e= .returned (.bool true)∧w'.os=w.os∧w'.output=w.output∧w.heap.size≤w'.heap.size∧∀ b,b<w.heap.size→w'.heap[b]? =w.heap[b]? :=by
 obtain ⟨x,hx⟩:=amE _ _ hsh _ _ _ hA fun j t v ht hv=>hok j t v (by simpa using ht) (by simpa using hv)
 have hin:=Fj sh x _ hx
 obtain ⟨hp,ho⟩:=hF x hin
 have hc:acz sh F (zT sh x)=some ((F x).1,ai9):=by
  unfold acz
  rw [amF _ _ hsh x]
  simp only [← ho]
 refine (hcon (zT sh x) _ _ 0 _ args w hc hp hG hx).mono ?_
 rintro e w' ⟨v,vals,rfl,h1,h2,h3,h4,h5,h6,_,_⟩
 have hv:v= .bool true:=h6
 exact ⟨by rw [hv],h1,h3,h4,h5⟩
theorem aqc {w w':World} (h1:w'.os=w.os) (h3:w'.output=w.output) (h5:∀ b,b<w.heap.size→w'.heap[b]? =w.heap[b]?) (may:MemPlace→Prop):w.keptBut w' may:=by
 refine ⟨h1,h3,fun i hi=>?_⟩
 rw [h5 i hi]
 cases hw:w.heap[i]? with
 |none=>trivial
 |some o=>cases o<;>simp
theorem aqd {w w':World} (h5:∀ b,b<w.heap.size→w'.heap[b]? =w.heap[b]?) {p:MemPlace} (hp:p.block<w.heap.size):w.sameAt w' p:=by
 cases p with
 |cell b off=>
  show w'.cell? _=w.cell? _
  unfold World.cell?
  simp only
  rw [h5 b hp]
 |map b=>exact h5 b hp
end Go.Fw
namespace Go.Fw
open Go
variable {P:Program} {G:mD} {f:FuncId}
theorem anv {args:List Arg} {i:Nat} {x:Arg} {p:Nat} (hp:p / 64≠i):dA (args.set i x) p=dA args p:=by
 unfold dA
 rw [List.getElem?_set_ne (fun h=>hp h.symm)]
theorem aa8 {args:List Arg} {i:Nat} {e:TypeId} {r:aB} {l:List r.den} (hi:i<args.length) (p:Nat) (hp:p / 64=i):dA (args.set i (.own e r l)) p=if p=i*64+49 then some (.arr e r l false) else none:=by
 unfold dA
 rw [hp,List.getElem?_set_self hi]
 by_cases h:p=i*64+49
 · subst h
   have:Nat.beq ((i*64+49)%64) 49=true:=by
    have:(i*64+49)%64=49:=by omega
    rw [this];rfl
   simp [this]
 · have:Nat.beq (p%64) 49=false:=by
    cases hb:Nat.beq (p%64) 49 with
    |false=>rfl
    |true=>have:=Nat.eq_of_beq_eq_true hb;omega
   simp [this,h]
theorem an5 {args:List Arg} {i:Nat} {v:SV} (ha:args[i]? =some (.sv v)) (p:Nat) (hp:p / 64=i):dA args p=none:=by
 unfold dA
 rw [hp,ha]
def Qu (γ:Nat→Value) (i:Nat) (o:Nat):Value:=if o=i*64+49 then .slice none 0 0 else γ o
theorem sK.mono {X Y:V} (h:X.le Y):∀ (a:Arg) (v:Value),sK X a v→sK Y a v
 | .sv x,v,H=>dK.mono h x v H
 | .kp cs,v,H=>aX.mono h (.gB cs 0) v H
 | .fn f caps,v,H=>aX.mono h (.fn f caps) v H
 | .own _ _ _,_,H| .ptr _,_,H=>H.elim
theorem Qi.mono {X Y:V} (h:X.le Y) (i:Nat):∀ (a:Arg) (v:Value),Qi X i a v→Qi Y i a v
 | .own _ _ _,v,H=>aV.mono h (.ref (i*64+49)) v H
 | .ptr _,v,H=>aX.mono h (.dw (i*64+48) 0) v H
 | .sv x,v,H=>sK.mono h (.sv x) v H
 | .kp cs,v,H=>sK.mono h (.kp cs) v H
 | .fn f caps,v,H=>sK.mono h (.fn f caps) v H
theorem zS.nil {X Y:V} (h:X.le Y) {e:TypeId} {r:aB}:∀ (args:List Arg) (vs:List Value) (j i:Nat),args[i]? =some (.sv (.one .nil))→
 Y.ai ((j+i)*64+49)=some (.arr e r [] false)→Y.γ ((j+i)*64+49)= .slice none 0 0→zS X j args vs→zS Y j (args.set i (.own e r [])) vs
 |[],[],_,i,ha,_,_,_=>by simp at ha
 |[],_::_,_,_,_,_,_,H=>H.elim
 |_::_,[],_,_,_,_,_,H=>H.elim
 |a::args,v::vs,j,0,ha,ho,hγ,⟨h1,h2⟩=>by
  have ha:a= .sv (.one .nil):=by simpa using ha
  subst ha
  have hv:v= .slice none 0 0:=h1
  refine ⟨⟨⟨e,r,[],false,ho⟩,?_,by rw [hv];rfl⟩,?_⟩
  · rw [hv];exact hγ.symm
  · show zS Y (j+1) args vs
    clear h1 ha ho hγ hv
    generalize j+1=k at h2
    induction args generalizing k vs with
    |nil=>cases vs with
     |nil=>trivial
     |cons _ _=>exact h2.elim
    |cons b args ih=>cases vs with
     |nil=>exact h2.elim
     |cons u vs=>exact ⟨Qi.mono h k b u h2.1,ih vs (k+1) h2.2⟩
 |a::args,v::vs,j,i+1,ha,ho,hγ,⟨h1,h2⟩=>by
  have e1:j+(i+1)=j+1+i:=by omega
  rw [e1] at ho hγ
  exact ⟨Qi.mono h j a v h1,zS.nil h args vs (j+1) i (by simpa using ha) ho hγ h2⟩
theorem aC.aru {con aa7:eH} (i:Nat) (e:TypeId) (r:aB) (hr:0<r.len) (h:aC P G f con)
 (hc:∀ args p ρ,aa7 args=some (p,ρ)→p→args[i]? =some (.sv (.one .nil))∧(∀ t,nK (ρ.aT t) (i*64+49)=none)∧∃ q,con (args.set i (.own e r []))=some (q,ρ)∧q):aC P G f aa7:=by
 intro args p ρ hcon hp
 obtain ⟨ha,hF,q,hq1,hq⟩:=hc args p ρ hcon hp
 have hlen:i<args.length:=by
  have:=List.getElem?_eq_some_iff.1 ha
  exact this.1
 obtain ⟨hex,hcall⟩:=h _ q ρ hq1 hq
 refine ⟨hex,fun k S γ vs w hG hrep qW hsep hfree=>?_⟩
 have hO:∀ o,o≠i*64+49→dA (args.set i (.own e r [])) o=dA args o:=by
  intro o ho
  by_cases hd:o / 64=i
  · rw [aa8 hlen o hd,an5 ha o hd,if_neg ho]
  · exact anv hd
 have hN:dA (args.set i (.own e r [])) (i*64+49)=some (.arr e r [] false):=by
  rw [aa8 hlen _ (by omega),if_pos rfl]
 have hN':dA args (i*64+49)=none:=an5 ha _ (by omega)
 have hγN:Qu γ i (i*64+49)= .slice none 0 0:=if_pos rfl
 have hγ:∀ o,o≠i*64+49→Qu γ i o=γ o:=fun o ho=>if_neg ho
 have hne:∀ o x,dA args o=some x→o≠i*64+49:=fun o x ho e=>by rw [e,hN'] at ho;cases ho
 have le:V.le ⟨w,w.heap.size,S,γ,dA args⟩ ⟨w,w.heap.size,S,Qu γ i,dA (args.set i (.own e r []))⟩:=by
  refine ⟨Nat.le_refl _,fun b hb=>⟨⟨hb.1,hb.2.1,fun o x hx=>?_⟩,rfl⟩,fun o cs hx=>⟨⟨cs,?_⟩,hγ o (hne o _ hx)⟩,fun o e r l fr hx=>⟨⟨l,fr,?_⟩,hγ o (hne o _ hx)⟩⟩
  · by_cases ho:o=i*64+49
    · show blk (Qu γ i o)≠some b
      rw [ho,hγN];intro hh;cases hh
    · show blk (Qu γ i o)≠some b
      rw [hγ o ho]
      exact hb.2.2 o x ((hO o ho).symm.trans hx)
  · exact (hO o (hne o _ hx)).trans hx
  · exact (hO o (hne o _ hx)).trans hx
 have hbl:∀ b,yH (dA (args.set i (.own e r []))) (Qu γ i) b↔yH (dA args) γ b:=by
  intro b
  constructor
  · rintro ⟨o,x,h1,h2⟩
    by_cases ho:o=i*64+49
    · rw [ho,hγN] at h2;cases h2
    · exact ⟨o,x,(hO o ho)▸h1,(hγ o ho)▸h2⟩
  · rintro ⟨o,x,h1,h2⟩
    exact ⟨o,x,(hO o (hne o x h1)).trans h1,by rw [hγ o (hne o x h1)];exact h2⟩
 refine Calls.mono (hcall k S (Qu γ i) vs w hG (zS.nil (Y:=⟨w,w.heap.size,S,Qu γ i,dA (args.set i (.own e r []))⟩) le args vs.toList 0 i ha (by rw [Nat.zero_add];exact hN) (by rw [Nat.zero_add];exact hγN) hrep) ?_ ?_ hfree) ?_
 · intro o x hx
   by_cases ho:o=i*64+49
   · subst ho
     rw [hN] at hx
     cases hx
     refine ⟨⟨[],?_,hr,fun b hb=>?_,fun j x hj=>by simp at hj⟩,fun b hb=>?_⟩
     · show w.ownsRow 0 e r.len (Qu γ i (i*64+49)) 0 []
       rw [hγN];exact World.ownsRow_nil w 0 e r.len
     · have hb:blk (Qu γ i (i*64+49))=some b:=hb
       rw [hγN] at hb;cases hb
     · rw [hγN] at hb;cases hb
   · have hx':dA args o=some x:=(hO o ho)▸hx
     have:=qW o x hx'
     refine ⟨bC.mono le o x (fun b _=>rfl) (hγ o ho) this.1,fun b hb=>this.2 b ((hγ o ho)▸hb)⟩
 · intro o x q y b hx hy hoq hb
   by_cases ho:o=i*64+49
   · rw [ho,hγN] at hb;cases hb
   by_cases hq':q=i*64+49
   · rw [hq',hγN];intro hh;cases hh
   rw [hγ o ho] at hb
   rw [hγ q hq']
   exact hsep o x q y b ((hO o ho)▸hx) ((hO q hq')▸hy) hoq hb
 · rintro en w' ⟨t,ht,v,γ',h1,h2,h3,h4,h5,h6,h7,h8,h9,h10⟩
   have aoN:∀ o x,nK (ρ.aT t) o=some x→o≠i*64+49:=fun o x ho e=>by rw [e,hF t] at ho;cases ho
   have hL:sN S (args.set i (.own e r [])) (ρ.aT t) (Qu γ i)=sN S args (ρ.aT t) γ:=by
    funext b
    apply propext
    constructor
    · rintro ⟨a1,a2⟩
      refine ⟨a1.imp_right (hbl b).1,fun q y hy=>?_⟩
      have:=a2 q y hy
      rwa [hγ q (aoN q y hy)] at this
    · rintro ⟨a1,a2⟩
      refine ⟨a1.imp_right (hbl b).2,fun q y hy=>?_⟩
      rw [hγ q (aoN q y hy)]
      exact a2 q y hy
   rw [hL] at h7 h8 h10
   refine ⟨t,ht,v,γ',h1,h2,h3,h4,h5,fun b hb hn=>h6 b hb (fun h=>hn ((hbl b).1 h)),h7,fun o x hx=>?_,h9,fun o x hx=>?_⟩
   · obtain ⟨a1,a2⟩:=h8 o x hx
     refine ⟨a1,fun b hb=>?_⟩
     obtain ⟨b1,b2,b3⟩:=a2 b hb
     refine ⟨b1,b2.imp_right (hbl b).1,fun q y hy=>?_⟩
     have:=b3 q y hy
     rwa [hγ q (aoN q y hy)] at this
   · obtain ⟨a1,a2⟩:=h10 o x hx
     exact ⟨a1.trans (hγ o (aoN o x hx)),a2⟩
theorem apC {l:List iD} {e:TypeId} {r:aB} {rest:List dB} {dY:List fA} {F:bH (.ptr l:: .own e r::rest)→Prop×(bV dY×bT (.ptr l:: .own e r::rest)→Prop)}
 {F':bH (.ptr l:: .p (.v (.one .nil))::rest)→Prop×(bV dY×bT (.ptr l:: .own e r::rest)→Prop)} (hr:0<r.len) (h:aC P G f (dJ (.ptr l:: .own e r::rest) dY F))
 (hF:∀ a x,(F' (a,(),x)).1→(F (a,[],x)).1) (hF2:∀ a x,(F' (a,(),x)).1→(F' (a,(),x)).2=(F (a,[],x)).2):aC P G f (dJ (.ptr l:: .p (.v (.one .nil))::rest) dY F'):=by
 refine aC.aru 1 e r hr h fun args p ρ hcon hp=>?_
 match args,hcon with
 |[],hcon=>simp [dJ,iR] at hcon
 |[a],hcon=>
  have:iR (.ptr l:: .p (.v (.one .nil))::rest) [a]=none:=by
   simp only [iR]
   split<;>simp_all
  simp [dJ,this] at hcon
 |a::b::args,hcon=>
  cases ha:(dB.ptr l).read a with
  |none=>simp [dJ,iR,ha] at hcon
  |some a'=>
  cases hb:(dB.p (.v (.one .nil))).read b with
  |none=>simp [dJ,iR,ha,hb] at hcon
  |some b'=>
  cases hx:iR rest args with
  |none=>simp [dJ,iR,ha,hb,hx] at hcon
  |some x=>
   have hb2:b= .sv (.one .nil):=by
    cases b with
    |sv s=>cases s with
     |one c=>cases c with
      |nil=>rfl
      |int k n=>cases hb
      |bool k=>cases hb
      |str k=>cases hb
      |sl e r l fr=>cases hb
      |ref o=>cases hb
      |junk=>cases hb
     |agg cs=>cases hb
    |_=>cases hb
   subst hb2
   simp only [dJ,iR,ha,hb,hx] at hcon
   have hcon:=Option.some.inj hcon
   have h1:(F' (a',(),x)).1=p:=congrArg Prod.fst hcon
   have h2:(⟨bV dY×bT (.ptr l:: .own e r::rest),(F' (a',(),x)).2,fun t=>⟨iQ dY t.1,none⟩,fun t=>jV (.ptr l:: .own e r::rest) t.2⟩:NG)=ρ:=congrArg Prod.snd hcon
   have hp':(F' (a',(),x)).1:=h1▸hp
   subst h2
   refine ⟨rfl,fun t=>rfl,(F (a',[],x)).1,?_,hF a' x hp'⟩
   · have ho:(dB.own e r).read (.own e r [])=some []:=by
      unfold dB.read
      simp only [Nat.beq_refl]
      rw [dif_pos (aB.LK r)]
      rfl
     simp only [List.set_cons_succ,List.set_cons_zero,dJ,iR,ha,ho,hx]
     have:=hF2 a' x hp'
     exact congrArg (fun z=>some ((F (a',[],x)).1,(⟨bV dY×bT (.ptr l:: .own e r::rest),z,fun t=>⟨iQ dY t.1,none⟩,fun t=>jV (.ptr l:: .own e r::rest) t.2⟩:NG))) this.symm
end Go.Fw
namespace Go.Fw
open Go
theorem af {b:Bool} {A B:Prop} (h1:b=true→A) (h2:b=false→B):cond b A B:=by
 cases b
 · exact h2 rfl
 · exact h1 rfl
theorem gK (z:Int) (h:-9223372036854775808≤z∧z≤9223372036854775807):IntKind.i64.wrap z=z:=IntWalk.i64_in z (by omega)
theorem maxLen_eq:maxLen=9223372036854775807:=by decide
theorem fD:big=4294967296:=rfl
theorem getD_mem {α:Type} {l:List α} {n:Nat} {d:α} (h:n<l.length):l.getD n d∈l:=by
 rw [List.getD_eq_getElem?_getD,List.getElem?_eq_getElem h,Option.getD_some];exact List.getElem_mem h
end Go.Fw
namespace Go.Fw
open Go
end Go.Fw
namespace Go.Fw
open Go
variable {P:Program}
end Go.Fw
namespace Go.Fw
open Go
variable {P:Program}
theorem anw {s:dB} {sh:List dB}:∀ {args:List Arg} {d:bH (s::sh)},iR (s::sh) args=some d→∃ x xs,args=x::xs∧s.read x=some d.1∧iR sh xs=some d.2
 |[],_,h=>by simp [iR] at h
 |x::xs,d,h=>by
  rw [iR] at h
  split at h
  · next a b h1 h2=>cases h;exact ⟨x,xs,rfl,h1,h2⟩
  · cases h
theorem aoO:∀ {args:List Arg} {d:bH []},iR [] args=some d→args=[]
 |[],_,_=>rfl
 |_::_,_,h=>by simp [iR] at h
end Go.Fw
namespace Go.Fw
open Go
variable {P:Program} {H:Type} {enc:TypeId×Value→H} {w:World}
theorem YA (hl:laidOutB P=true) {base:Nat} {sp':Nat→Bool} {W W':World}:∀ (ts:List TypeId) (_:ts.all (fun t=>P.readableRec t&&decide (t<P.types.size))=true)
 (vs:List Value) (ds:List (DataW H)) (ps:List MemPlace),DataW.TrodAll enc P W base (fun _=>true) true ts vs ds ps→(∀ p∈ps,W.sameAt W' p)→(∀ p∈ps,sp' p.block=true)→DataW.TrodAll enc P W' base sp' true ts vs ds ps
 |[],_,vs,ds,ps,h,_,_=>by
  cases vs<;>cases ds<;>simp [DataW.TrodAll] at h ⊢
  exact h
 |t::ts,ht,vs,ds,ps,h,h1,h2=>by
  rw [List.all_cons,Bool.and_eq_true,Bool.and_eq_true] at ht
  cases vs with
  |nil=>cases ds<;>simp [DataW.TrodAll] at h
  |cons v vs=>
   cases ds with
   |nil=>simp [DataW.TrodAll] at h
   |cons d ds=>
    obtain ⟨a,b,g1,g2,rfl⟩:=h
    exact ⟨a,b,WideElems.Trod_stays hl ht.1.1 (of_decide_eq_true ht.1.2) g1 (fun p hp=>h1 p (List.mem_append_left _ hp)) (fun p hp=>h2 p (List.mem_append_left _ hp)),
     YA hl ts ht.2 vs ds b g2 (fun p hp=>h1 p (List.mem_append_right _ hp)) (fun p hp=>h2 p (List.mem_append_right _ hp)),rfl⟩
theorem trodAll_length {base:Nat} {sp:Nat→Bool} {hd:Bool} {W:World}:∀ (ts:List TypeId) (vs:List Value) (ds:List (DataW H)) (ps:List MemPlace),DataW.TrodAll enc P W base sp hd ts vs ds ps→ds.length=ts.length
 |[],vs,ds,ps,h=>by cases vs<;>cases ds<;>simp [DataW.TrodAll] at h ⊢
 |t::ts,vs,ds,ps,h=>by
  cases vs with
  |nil=>cases ds<;>simp [DataW.TrodAll] at h
  |cons v vs=>
   cases ds with
   |nil=>simp [DataW.TrodAll] at h
   |cons d ds=>
    obtain ⟨a,b,g1,g2,rfl⟩:=h
    simp [trodAll_length ts vs ds b g2]
theorem aqe {fn:Func} {s:ChangeSpec} {apart fresh handsOn again:Bool} {W W':World} {args:Array Value} {ds gs:List (DataW H)} {before:List MemPlace} {tb:TypeId}
 (hvars:s.vars=[]) (hspec:∀ l:List (DataW H),l.length=fn.params.toList.length→(s.fn H l).results=[.lit (.bool true)]∧(s.fn H l).args=l∧(s.fn H l).vars=[])
 (hres:fn.resultTypes=#[tb]) (hb:P.underlying tb=some .bool) (hl:laidOutB P=true) (hread:fn.params.toList.all (fun t=>P.readableRec t&&decide (t<P.types.size))=true)
 (hW:DataW.Whole enc P fn.params.toList s.vars apart W args.toList ds gs before) (hos:W'.os=W.os) (hout:W'.output=W.output) (hheap:∀ b,b<W.heap.size→W'.heap[b]? =W.heap[b]?):
 s.post enc P fn apart fresh handsOn again W args (.bool true) W':=by
 have hlt:=hW.lt
 have hW0:=hW
 obtain ⟨p,q,hA,hV,hpq,hz,hn⟩:=hW
 rw [hvars] at hV
 have hg:gs=[]∧q=[]:=by
  cases gs with
  |nil=>exact ⟨rfl,hV⟩
  |cons g gs=>simp [DataW.TrodVars] at hV
 obtain ⟨rfl,rfl⟩:=hg
 rw [List.append_nil] at hpq
 subst hpq
 have hlen:=trodAll_length _ _ _ _ hA
 obtain ⟨r1,r2,r3⟩:=hspec (ds++[]) (by simpa using hlen)
 rw [List.append_nil] at r1 r2 r3
 have hsame:∀ x∈before,W.sameAt W' x:=fun x hx=>aqd hheap (hlt x hx)
 have R:∀ (b:Nat) (sp:Nat→Bool) (hd:Bool),DataW.TrodAll enc P W' b sp hd fn.resultTypes.toList ((Value.bool true).resultList fn.resultTypes.size) [.lit (.bool true)] []:=by
  intro b sp hd
  rw [hres]
  exact ⟨[],[],⟨1,by simp [DataW.trod,Value.cells,hb]⟩,rfl,rfl⟩
 have A:∀ sp:Nat→Bool,(∀ x∈before,sp x.block=true)→DataW.TrodAll enc P W' 0 sp true fn.params.toList args.toList ds before:=fun sp hsp=>YA hl _ hread _ _ _ hA hsame hsp
 have hold:∀ x∈before,(fun b=>decide (b<W.heap.size)) x.block=true:=fun x hx=>by simpa using hlt x hx
 refine ⟨ds,[],before,[],before,[],hW0,?_,?_,?_,aqc hos hout hheap _,fun _=>⟨?_, .lit (.bool true)::ds,[],before,⟨before,[],?_,?_,by simp,?_,hn⟩,fun x hx _=>hx⟩⟩
 · rw [List.append_nil,r1];exact R _ _ _
 · rw [List.append_nil,r2];exact A _ hold
 · rw [List.append_nil,r3,hvars];rfl
 · intro j t r h1 h2
   rw [hres] at h1 h2
   match j with
   |0=>
    simp [Value.resultList] at h1 h2
    subst h1 h2
    simp [Value.okWide,hb,Go.Cell.okWide,Go.Cell.ok]
   |j+1=>simp at h1
 · exact ChangeShapes.trodAll_append (A _ (fun _ _=>rfl)) (R _ _ _)
 · rw [hvars];rfl
 · intro b off hp
   have hbl:=hlt _ hp
   have e:W'.frozen? ⟨b,off,none⟩=W.frozen? ⟨b,off,none⟩:=by
    unfold World.frozen?
    simp only
    rw [hheap b hbl]
   rw [e]
   exact hz b off hp
end Go.Fw
namespace Go.Fw
open Go
theorem law_lifted {H:Type} {enc:TypeId×Value→H} {C:Checked} {G:mD} {os:Os} {f:FuncId} {fn:Func} {s:ChangeSpec} {conds:List PathCond} {apart fresh handsOn again:Bool} {tb:TypeId} {sh:List bZ} {F:bD sh→Prop×Out}
 (own:ownKnob C.prog.godebug=none) (started:os.Started) (noInit:C.prog.inits.idxOf? f=none) (hfn:C.prog.funcs[f]? =some fn)
 (witness:∃ (w:World) (tape:Tape) (i:Input),w.os=os∧(w.forCall tape i).Shaped C.prog∧i.vars=[]∧Input.okWide C.prog (w.forCall tape i) .any w.heap.size f i∧
   s.pre6 enc C.prog fn conds apart (w.forCall tape i).memory i.args∧({}:Assume).holds C.prog (lone (Frame.enter C.prog f i.args .normal) [] (w.forCall tape i)))
 (hcon:aG C.prog G f (acz sh F)) (hsh:Qs C.prog fn.params.toList=some sh) (hF:∀ x,bP sh x→(F x).1∧(F x).2=ai9) (hG:∀ w,G.ok w)
 (hvars:s.vars=[]) (hspec:∀ l:List (DataW H),l.length=fn.params.toList.length→(s.fn H l).results=[.lit (.bool true)]∧(s.fn H l).args=l∧(s.fn H l).vars=[])
 (hres:fn.resultTypes=#[tb]) (hb:C.prog.underlying tb=some .bool) (hl:laidOutB C.prog=true) (hread:fn.params.toList.all (fun t=>C.prog.readableRec t&&decide (t<C.prog.types.size))=true):
 ReturnsInHanded {} C os f .any (s.pre6 enc C.prog fn conds apart) (s.post enc C.prog fn apart fresh handsOn again):=by
 refine returnsInHanded_of_change own started noInit hfn witness ?_
 intro W base args ds gs before hval hW _ _
 have hW0:=hW
 obtain ⟨p,q,hA,_⟩:=hW
 refine (apB hcon hsh hF (hG W) hA hval).mono ?_
 rintro e W' ⟨rfl,h1,h2,_,h3⟩
 exact ⟨_,rfl,aqe hvars hspec hres hb hl hread hW0 h1 h2 h3⟩
end Go.Fw
