import Derived.Test.YtlhclabldgampaaGreatDoorFwD
import Derived.Test.YtlhclabldgampaaGreatDoorFwB
import Derived.Test.YtlhclabldgampaaGreatDoorFwA
import Derived.IntWalk
import Derived.ChangeArms
import Derived.WideKeyArgs
import Derived.ChangeSame
import Derived.ChangeOld
import Derived.Handed
import Derived.ProofKit
/- The walk of a function's code. -/
namespace Go.Fw
open Go

variable {P : Program} {w0 : World} {M : Nat → Prop} {T : Ext} {γ γ' : Nat → Value} {st : St} {a : Act} {w w' : World} {Θ : TEnv} {Γ : CEnv}

/-- What is laid down for a loop or a cut: places that hold own arrays there, what stays as it is, what changes. -/
structure LoopSpec where
  adopt : List Settle
  c : Shape
  v : Shape

/-- What is laid down for a function's walk: which slots keep own arrays, and its loops by the number of their first region. -/
structure Hints where
  own : Nat → Bool
  loops : Nat → Option LoopSpec
  cuts : Nat → Option LoopSpec
  upd : List Nat
  frz : Nat → List Pre

/-- The number of the first region. -/
def firstRegion : Code → Option Nat
  | .region id _ _ => some id
  | .seq x y => match firstRegion x with | some n => some n | none => firstRegion y
  | .cond _ x y => match firstRegion x with | some n => some n | none => firstRegion y
  | .block _ x | .loop x => firstRegion x
  | _ => none

/-- Is there a cut ahead of this code? -/
def cutAt (H : Hints) (y : Code) : Option LoopSpec := match firstRegion y with
  | some n => H.cuts n
  | none => none

def awp (Θ : TEnv) (Γ : CEnv) (H : Hints) : Code → (Exit → St → Prop) → St → Prop
  | .skip, Q, st => Q .normal st
  | .region id ops false, Q, st => prep (H.frz id) (runs Θ Γ H.own ops.toList (Q .normal) ops.toList) st
  | .region id ops true, Q, st => prep (H.frz id) (anyRegion Θ Γ H.own H.upd ops.toList (Q .normal)) st
  | .seq x y, Q, st => match cutAt H y with
    | none => awp Θ Γ H x (fun e s => match e with | .normal => awp Θ Γ H y Q s | e => Q e s) st
    | some sp => match sp.c.read (only sp.c sp.v st) with
      | some x0 => ∃ (J : sp.v.den → Prop), awp Θ Γ H x (fun e s => match e with
          | .normal => match settles s sp.adopt with
            | some s1 => match Nat.beq s1.n st.n, sp.c.read (only sp.c sp.v s1), sp.v.read (only sp.c sp.v s1) with
              | true, some x1, some y1 => x1 = x0 ∧ J y1
              | _, _, _ => False
            | none => False
          | e => Q e s) st ∧ ∀ y1, J y1 → awp Θ Γ H y Q (joint st.n sp.c sp.v x0 y1)
      | none => False
  | .cond c x y, Q, st => match st.ev c with
    | .sv (.one (.bool b)) => cond b (awp Θ Γ H x Q st) (awp Θ Γ H y Q st)
    | _ => False
  | .block id c, Q, st => awp Θ Γ H c (fun e s => match e with
    | .exit i => match Nat.beq i id with | true => Q .normal s | false => Q (.exit i) s
    | e => Q e s) st
  | .exit id, Q, st => Q (.exit id) st
  | .ret, Q, st => Q .ret st
  | .loop c, Q, st => match firstRegion c with
    | some n => match H.loops n with
      | some sp => match settles st sp.adopt with
        | some s0 => match sp.c.read (only sp.c sp.v s0), sp.v.read (only sp.c sp.v s0) with
          | some x0, some y0 => ∃ (I : sp.v.den → Prop) (μ : sp.v.den → Nat), I y0 ∧ ∀ y, I y →
              awp Θ Γ H c (fun e s => match e with
                | .normal => match settles s sp.adopt with
                  | some s1 => match Nat.beq s1.n s0.n, sp.c.read (only sp.c sp.v s1), sp.v.read (only sp.c sp.v s1) with
                    | true, some x1, some y1 => x1 = x0 ∧ I y1 ∧ μ y1 < μ y
                    | _, _, _ => False
                  | none => False
                | e => Q e s) (joint s0.n sp.c sp.v x0 y)
          | _, _ => False
        | none => False
      | none => False
    | none => False
  | _, _, _ => False

theorem awp_sound {G : Glob} (hE : EnvOK P G Θ Γ w0 M) (hm : P.follows .mixedOrders = true) (H : Hints) : ∀ (c : Code) (QA : Exit → St → Prop) (Q : Exit → Act → World → Prop) (st : St) (γ : Nat → Value) (a : Act) (w : World),
    Rel w0 M T γ st a w → awp Θ Γ H c QA st → (∀ e s γ' a' w', QA e s → Rel w0 M T γ' s a' w' → Q e a' w') → c.wp P Q a w := by
  intro c
  induction c with
  | skip => intro QA Q st γ a w h ha hQ; exact wp_skip (hQ _ _ _ _ _ ha h)
  | region id ops d =>
    intro QA Q st γ a w h ha hQ
    cases d with
    | false =>
      obtain ⟨s0, γ0, h0, hk0⟩ := prep_sound (K := runs Θ Γ H.own ops.toList (QA .normal) ops.toList) (H.frz id) st γ h ha
      exact region_sound hE h0 hk0 fun s γ' a' w' hK hR => hQ _ _ _ _ _ hK hR
    | true =>
      obtain ⟨s0, γ0, h0, hk0⟩ := prep_sound (K := anyRegion Θ Γ H.own H.upd ops.toList (QA .normal)) (H.frz id) st γ h ha
      exact any_sound hE hm h0 hk0 fun s γ' a' w' hK hR => hQ _ _ _ _ _ hK hR
  | seq x y ihx ihy =>
    intro QA Q st γ a w h ha hQ
    rw [awp] at ha
    split at ha
    · refine wp_seq (ihx _ _ st γ a w h ha ?_)
      intro e s γ' a' w' hq hR
      cases e <;> first | exact ihy _ _ s γ' a' w' hR hq hQ | exact hQ _ _ _ _ _ hq hR
    · next sp hsp =>
      split at ha
      · next x0 hx =>
        obtain ⟨J, h1, h2⟩ := ha
        refine wp_seq (ihx _ _ st γ a w h h1 ?_)
        intro e s γ' a' w' hq hR
        cases e with
        | normal =>
          simp only at hq
          split at hq
          · next s1 hs1 =>
            split at hq
            · next x1 y1 hsn hx1 hy1 =>
              obtain ⟨rfl, hJ⟩ := hq
              obtain ⟨γ1, hR1⟩ := Rel.settles _ hR hs1
              have hR2 := hR1.joint hx1 hy1
              rw [Nat.eq_of_beq_eq_true hsn] at hR2
              exact ihy _ _ _ γ1 a' w' hR2 (h2 _ hJ) hQ
            · exact hq.elim
          · exact hq.elim
        | _ => exact hQ _ _ _ _ _ hq hR
      · exact ha.elim
  | cond c x y ihx ihy =>
    intro QA Q st γ a w h ha hQ
    rw [awp] at ha
    split at ha
    · next b hb =>
      have hv : a.eval c = .bool b := by
        have := ev_rep h c
        rw [hb] at this
        exact this
      refine wp_cond_split hv (fun e => ?_) (fun e => ?_)
      · subst e; exact ihx _ _ st γ a w h ha hQ
      · subst e; exact ihy _ _ st γ a w h ha hQ
    · exact ha.elim
  | block id c ih =>
    intro QA Q st γ a w h ha hQ
    refine wp_block (ih _ _ st γ a w h ha ?_)
    intro e s γ' a' w' hq hR
    cases e with
    | exit i =>
      simp only [Exit.inBlock]
      cases hb : Nat.beq i id with
      | true =>
        simp only [hb] at hq
        rw [if_pos (Nat.eq_of_beq_eq_true hb)]
        exact hQ _ _ _ _ _ hq hR
      | false =>
        simp only [hb] at hq
        rw [if_neg (by rintro rfl; simp at hb)]
        exact hQ _ _ _ _ _ hq hR
    | _ => exact hQ _ _ _ _ _ hq hR
  | loop c ih =>
    intro QA Q st γ a w h ha hQ
    rw [awp] at ha
    split at ha
    · split at ha
      · next sp hsp =>
        split at ha
        · next s0 hs0 =>
          split at ha
          · next x0 y0 hx hy =>
            obtain ⟨I, μ, h0, hI⟩ := ha
            obtain ⟨γ0, hR0⟩ := Rel.settles _ h hs0
            let J : sp.v.den → Act → World → Prop := fun y a' w' => ∃ γ', Rel w0 M T γ' (joint s0.n sp.c sp.v x0 y) a' w'
            have key : ∀ (n : Nat) (y : sp.v.den), μ y = n → I y → ∀ a' w', J y a' w' → ∀ (b : Frame) (k : List Item) (cs : List Frame),
                ∃ e a'' w'', Q e a'' w'' ∧ Arrives P (lone (b.at a' (.code c :: .inLoop c :: k)) cs w') b k cs e a'' w'' := by
              intro n
              induction n using Nat.strongRecOn with
              | _ n ihn =>
                intro y hμ hy' a' w' ⟨γ', hR⟩ b k cs
                have hbody := ih _ (Exit.then (fun a2 w2 => ∃ y2, I y2 ∧ μ y2 < μ y ∧ J y2 a2 w2) Q) _ γ' a' w' hR (hI y hy') ?_
                · obtain ⟨e, a1, w1, hq, harr⟩ := hbody b (.inLoop c :: k) cs
                  cases e with
                  | normal =>
                    obtain ⟨y2, hI2, hlt, hJ2⟩ := hq
                    obtain ⟨e2, a2, w2, hq2, harr2⟩ := ihn (μ y2) (hμ ▸ hlt) y2 rfl hI2 a1 w1 hJ2 b k cs
                    exact ⟨e2, a2, w2, hq2, .of_steps (Steps.trans harr (.one step_inLoop)) harr2⟩
                  | exit id => exact ⟨_, a1, w1, hq, .pass (x := .inLoop c) rfl (fun _ _ => .inl (by simp)) harr⟩
                  | goto l => exact ⟨_, a1, w1, hq, .pass (x := .inLoop c) rfl (fun _ _ => .inl (by simp)) harr⟩
                  | ret => exact ⟨_, a1, w1, hq, .pass (x := .inLoop c) rfl (fun _ _ => .inl (by simp)) harr⟩
                  | panic ch => exact ⟨_, a1, w1, hq, .pass (x := .inLoop c) rfl (fun _ _ => .inl (by simp)) harr⟩
                  | outgrown => exact ⟨_, a1, w1, hq, .pass (x := .inLoop c) rfl (fun _ _ => .inl (by simp)) harr⟩
                · intro e s γ2 a2 w2 hq hR2
                  cases e with
                  | normal =>
                    simp only at hq
                    split at hq
                    · next s1 hs1 =>
                      split at hq
                      · next x1 y1 hsn hx1 hy1 =>
                        obtain ⟨rfl, hI1, hlt⟩ := hq
                        obtain ⟨γ3, hR3⟩ := Rel.settles _ hR2 hs1
                        have hJ := hR3.joint hx1 hy1
                        rw [Nat.eq_of_beq_eq_true hsn] at hJ
                        exact ⟨y1, hI1, hlt, _, hJ⟩
                      · exact hq.elim
                    · exact hq.elim
                  | _ => exact hQ _ _ _ _ _ hq hR2
            intro b k cs
            obtain ⟨e, a', w', hq, harr⟩ := key _ y0 rfl h0 a w ⟨_, hR0.joint hx hy⟩ b k cs
            exact ⟨e, a', w', hq, .of_steps (.one step_loop) harr⟩
          · exact ha.elim
        · exact ha.elim
      · exact ha.elim
    · exact ha.elim
  | rangeFunc f ps x y ihx ihy => intro QA Q st γ a w h ha hQ; exact ha.elim
  | exit id => intro QA Q st γ a w h ha hQ; exact wp_exit (hQ _ _ _ _ _ ha h)
  | scope c ih => intro QA Q st γ a w h ha hQ; exact ha.elim
  | label l => intro QA Q st γ a w h ha hQ; exact ha.elim
  | goto l => intro QA Q st γ a w h ha hQ; exact ha.elim
  | ret => intro QA Q st γ a w h ha hQ; exact wp_ret (hQ _ _ _ _ _ ha h)
  | refuse s => intro QA Q st γ a w h ha hQ; exact ha.elim
end Go.Fw
/- A function: from the walk of its code to what is known of its calls. -/
namespace Go.Fw
open Go

variable {P : Program} {w0 : World} {M : Nat → Prop} {T : Ext} {γ γ' : Nat → Value} {st : St} {a : Act} {w w' : World} {Θ : TEnv} {Γ : CEnv}

def Arg.av : Arg → AV
  | .sv v => .sv v
  | .kp cs => .kptr cs 0
  | .fn f caps => .fn f caps
  | .own _ _ _ | .ptr _ => .undef
/-- The state at the entry. -/
def entry (n : Nat) (args : List Arg) : St :=
  { n := n, tmps := fun t => match args[t]? with | some v => v.av | none => .undef, objs := fun _ => none }

def isArr (st : St) (o : Nat) : Bool := match st.objs o with | some (.arr _ _ _ _) => true | _ => false

def finOne (Θ : TEnv) (st : St) : ResultVar → Option SV
  | .tmp t => match st.tmps t with | .sv v => some v | _ => none
  | .cell t ty => match Θ ty, st.tmps t with
    | some ti, .vptr o off => match st.objs o with
      | some (.var cs) => loadAtCells ti cs off
      | _ => none
    | _, _ => none
def finAll (Θ : TEnv) (st : St) : List ResultVar → Option (List SV)
  | [] => some []
  | r :: rs => match finOne Θ st r, finAll Θ st rs with
    | some v, some vs => some (v :: vs)
    | _, _ => none
def outOf : SV → Bool × List OCell
  | .one c => (false, [.plain c])
  | .agg cs => (true, cs.map .plain)
def outs : List SV → List (Bool × List OCell)
  | [] => []
  | v :: vs => outOf (v.kill fun _ => true) :: outs vs
/-- What the state hands back. -/
def fin (Θ : TEnv) (rv : List ResultVar) (st : St) : Option Out :=
  match finAll Θ (st.freeze (isArr st)) rv with
  | some vs => some ⟨outs vs, none⟩
  | none => none

theorem takeCells_plain : ∀ (k : Nat) (cs : List Cell), takeCells k (cs.map .plain) = (cs, [])
  | _, [] => rfl
  | k, c :: cs => by simp only [List.map_cons, takeCells, takeCells_plain (k + 1) cs, OCell.take, List.append_nil]
theorem takeRet_out (k : Nat) (v : SV) : takeRet k (outOf v) = (v, []) := by
  cases v with
  | one c => rfl
  | agg cs => simp only [takeRet, outOf, takeCells_plain]
theorem takeRets_outs : ∀ (k : Nat) (vs : List SV), takeRets k (outs vs) = (vs.map (SV.kill fun _ => true), [])
  | _, [] => rfl
  | k, v :: vs => by simp only [outs, takeRets, takeRet_out, takeRets_outs, List.map_cons, List.append_nil]

theorem sure_eq (v : Value) (t : TypeId) (b off : Nat) (hv : v = .pointer (some ⟨b, off, none⟩)) : Instr.loadAt t v = (do loadVar t (← asAddr v)) := by
  subst hv; rfl

def resOne (tmps : Array Value) : ResultVar → Sem Value
  | .tmp t => pure (tmps.getD t undef)
  | .cell x t => do loadVar t (← asAddr (tmps.getD x undef))
theorem results_eq (fn : Func) (tmps : Array Value) : results fn tmps = (do let vs ← fn.results.mapM (resOne tmps); pure (if h : vs.size = 1 then vs[0] else .tuple vs)) := by
  unfold results
  congr 1

theorem finOne_sound (hΘ : ∀ t ti, Θ t = some ti → TOK P t ti) (h : Rel w0 M T γ st a w) {r : ResultVar} {v : SV} (hf : finOne Θ st r = some v) :
    ∃ u, (resOne a.tmps r).run P w = .ok u w ∧ RepSV (viewOf w0 T γ st w) v u := by
  cases r with
  | tmp t =>
    simp only [finOne] at hf
    split at hf
    · next e =>
      cases hf
      have := h.tmps t
      rw [e] at this
      exact ⟨_, rfl, this⟩
    · cases hf
  | cell x t =>
    simp only [finOne] at hf
    split at hf
    · next ti o off ht hx =>
      split at hf
      · next cs ho =>
        have hv := h.tmps x
        rw [hx] at hv
        obtain ⟨b, cs', _, _, hv'⟩ := hv
        obtain ⟨u, hu, hr⟩ := calm_load hΘ h ht (x := .tmp x) (.inl ⟨o, off, cs, hx, ho, hf⟩)
        refine ⟨u, ?_, hr⟩
        rw [resOne, ← sure_eq _ t b off hv']
        exact hu
      · cases hf
    · cases hf

theorem finAll_sound (hΘ : ∀ t ti, Θ t = some ti → TOK P t ti) (h : Rel w0 M T γ st a w) : ∀ (rs : List ResultVar) (vs : List SV), finAll Θ st rs = some vs →
    ∃ us, (rs.mapM (resOne a.tmps)).run P w = .ok us w ∧
      RepSVs (viewOf w0 T γ st w) vs us
  | [], vs, hf => by cases hf; exact ⟨[], rfl, trivial⟩
  | r :: rs, vs, hf => by
    rw [finAll] at hf
    split at hf
    · next v vs' h1 h2 =>
      cases hf
      obtain ⟨u, hu, hr⟩ := finOne_sound hΘ h h1
      obtain ⟨us, hus, hrs⟩ := finAll_sound hΘ h rs vs' h2
      refine ⟨u :: us, ?_, hr, hrs⟩
      rw [List.mapM_cons, Sem.run_bind, hu]
      simp only [Result.andThen_ok, Sem.run_bind, hus, Sem.run_pure]
    · cases hf

theorem RepSVs.length {X : V} : ∀ (cs : List SV) (vs : List Value), RepSVs X cs vs → vs.length = cs.length
  | [], [], _ => rfl
  | _ :: cs, _ :: vs, ⟨_, h⟩ => by simp [RepSVs.length cs vs h]
  | [], _ :: _, H | _ :: _, [], H => by cases H
theorem RepSVs.get {X : V} : ∀ (cs : List SV) (vs : List Value) (i : Nat) (c : SV), RepSVs X cs vs → cs[i]? = some c → ∃ v, vs[i]? = some v ∧ RepSV X c v
  | [], _, _, _, _, h => by simp at h
  | c :: cs, v :: vs, 0, d, ⟨h1, _⟩, h => by simp at h; subst h; exact ⟨v, rfl, h1⟩
  | c :: cs, v :: vs, i + 1, d, ⟨_, h2⟩, h => by
    obtain ⟨u, hu, hr⟩ := RepSVs.get cs vs i d h2 (by simpa using h)
    exact ⟨u, by simpa using hu, hr⟩
  | _ :: _, [], _, _, H, _ => by cases H

theorem RepArgs.length {X : V} : ∀ (cs : List Arg) (vs : List Value), RepArgs X cs vs → vs.length = cs.length
  | [], [], _ => rfl
  | _ :: cs, _ :: vs, ⟨_, h⟩ => by simp [RepArgs.length cs vs h]
  | [], _ :: _, H | _ :: _, [], H => by cases H
theorem RepArgs.get {X : V} : ∀ (cs : List Arg) (vs : List Value) (i : Nat) (c : Arg), RepArgs X cs vs → cs[i]? = some c → ∃ v, vs[i]? = some v ∧ RepArg X c v
  | [], _, _, _, _, h => by simp at h
  | c :: cs, v :: vs, 0, d, ⟨h1, _⟩, h => by simp at h; subst h; exact ⟨v, rfl, h1⟩
  | c :: cs, v :: vs, i + 1, d, ⟨_, h2⟩, h => by
    obtain ⟨u, hu, hr⟩ := RepArgs.get cs vs i d h2 (by simpa using h)
    exact ⟨u, by simpa using hu, hr⟩
  | _ :: _, [], _, _, H, _ => by cases H
theorem RepArg.av {X : V} : ∀ (c : Arg) (v : Value), RepArg X c v → RepAV X c.av v
  | .sv _, _, h | .kp _, _, h | .fn _ _, _, h => h
  | .own _ _ _, _, h | .ptr _, _, h => h.elim
theorem entry_rel {args : List Arg} {vs : Array Value} {S : Nat → Prop} (n : Nat) (hn : args.length ≤ n)
    (h : RepArgs ⟨w, w.heap.size, S, fun _ => undef, fun _ => none⟩ args vs.toList) :
    Rel w (fun _ => False) ⟨S, fun _ => none, fun _ _ h => by cases h⟩ (fun _ => undef) (entry n args) { tmps := vs ++ Array.replicate (n - vs.size) undef, defers := [] } w := by
  have hl : vs.size = args.length := by simpa using RepArgs.length _ _ h
  refine ⟨fun _ h => h.elim, rfl, ?_, rfl, rfl, rfl, Nat.le_refl _, fun _ _ _ => rfl, fun t => ?_, (fun o x hx => by cases hx), (fun o x b hx => by cases hx), (fun o x p y b hx => by cases hx), (fun o v cs hN => by cases hN)⟩
  · simp [entry]; omega
  · simp only [entry]
    cases ha : args[t]? with
    | none => trivial
    | some v =>
      obtain ⟨u, hu, hr⟩ := RepArgs.get _ _ t v h ha
      have : (vs ++ Array.replicate (n - vs.size) undef).getD t undef = u := by
        have hlt : t < args.length := by
          rcases Nat.lt_or_ge t args.length with h' | h'
          · exact h'
          · rw [List.getElem?_eq_none h'] at ha; cases ha
        have hlt' : t < vs.size := by omega
        rw [Array.getD_eq_getD_getElem?, Array.getElem?_append_left hlt']
        have : vs[t]? = some u := by simpa using hu
        rw [this]; rfl
      rw [this]
      exact RepArg.av v u hr

/-- What is to be shown of a walk's end. -/
def endsK (Θ : TEnv) (rv : List ResultVar) (K : Out → Prop) (e : Exit) (st : St) : Prop :=
  match e with
  | .normal | .ret => match fin Θ rv st with
    | some o => K o
    | none => False
  | _ => False
def ends (Θ : TEnv) (rv : List ResultVar) (out : Out) : Exit → St → Prop := endsK Θ rv (fun o => o = out)

/-- From the walk of its code to what is known of a function's calls. -/
theorem conOK_of {G : Glob} (hE : EnvB P G Θ Γ) (hm : P.follows .mixedOrders = true) {f : FuncId} {fn : Func} {c : Code} (hf : P.funcs[f]? = some fn) (hb : fn.body = some c) (H : Hints) {con : Con}
    (hwalk : ∀ args p out, con args = some (p, out) → p → Nat.ble args.length fn.ntmps = true ∧ awp Θ Γ H c (ends Θ fn.results.toList out) (entry fn.ntmps args)) : ConOK P G f con := by
  intro args p out k S vs w hcon hp hG hrep
  obtain ⟨hn, hw⟩ := hwalk args p out hcon hp
  have hn' : args.length ≤ fn.ntmps := by simpa [Nat.ble_eq] using hn
  refine calls_of_wp hf hb (awp_sound ⟨hE, hG, fun b hb => hb.elim⟩ hm H c _ _ _ _ _ _ (entry_rel (S := S) fn.ntmps hn' hrep) hw ?_)
  have hret : ∀ s γ' a' w', ends Θ fn.results.toList out .ret s → Rel w (fun _ => False) ⟨S, fun _ => none, fun _ _ h => by cases h⟩ γ' s a' w' → bodyPost P fn (fun e w' => ∃ v vals, e = .returned v ∧ w'.os = w.os ∧ w'.tape = w.tape ∧ w'.output = w.output ∧ w.heap.size ≤ w'.heap.size ∧
      (∀ b, b < w.heap.size → w'.heap[b]? = w.heap[b]?) ∧
      RepAV ⟨w', w.heap.size, S, vals, look (out.take k).2⟩ (out.take k).1 v ∧
      (∀ o x, look (out.take k).2 o = some x → RepObj ⟨w', w.heap.size, S, vals, look (out.take k).2⟩ o x ∧ ∀ b, blk (vals o) = some b → w.heap.size ≤ b ∧ b < w'.heap.size) ∧
      (∀ o x q y b, look (out.take k).2 o = some x → look (out.take k).2 q = some y → o ≠ q → blk (vals o) = some b → blk (vals q) ≠ some b)) .ret a' w' := by
    intro s γ' a' w' he hR
    refine ⟨hR.defers, ?_⟩
    simp only [ends, endsK] at he
    split at he
    · next o ho =>
      subst he
      unfold fin at ho
      split at ho
      · next svs hvs =>
        cases ho
        have hRf := hR.freeze (isArr s)
        obtain ⟨us, hus, hrs⟩ := finAll_sound hE.types hRf _ _ hvs
        have hk := RepSVs.kill (fun _ => true) hRf svs us hrs
        have htake : Out.take k ⟨outs svs, none⟩ = (match svs.map (SV.kill fun _ => true) with | [v] => .sv v | l => .tup l, []) := by
          unfold Out.take
          simp only [takeRets_outs]
          rcases svs with _ | ⟨v, _ | ⟨v2, r⟩⟩ <;> rfl
        have hmap : (fn.results.mapM (resOne a'.tmps)).run P w' = .ok us.toArray w' := by
          rw [Array.mapM_eq_mapM_toList, Sem.run_map, hus]
          rfl
        refine ⟨if h : us.toArray.size = 1 then us.toArray[0] else .tuple us.toArray, ?_, _, γ', rfl, hR.os, hR.tape, hR.output, hR.grow, fun b hb => hR.kept b hb (fun h => h), ?_, ?_, ?_⟩
        · rw [results_eq, Sem.run_bind, hmap]
          simp only [Result.andThen_ok, Sem.run_pure]
        · rw [htake]
          have hl := RepSVs.length _ _ hk
          match hm : svs.map (SV.kill fun _ => true), us, hk, hl with
          | [v], [u], hk, _ => exact hk.1
          | [], [], hk, _ => exact ⟨_, by simp, hk⟩
          | v :: v2 :: r, u :: u2 :: us, hk, hl => exact ⟨_, by simp, hk⟩
          | [], _ :: _, hk, h4 | _ :: _, [], hk, h4 | [_], _ :: _ :: _, hk, h4 | _ :: _ :: _, [_], hk, h4 => simp at h4
        · intro o x hx; rw [htake] at hx; cases hx
        · intro o x q y b hx; rw [htake] at hx; cases hx
      · cases ho
    · exact he.elim
  intro e s γ' a' w' he hR
  cases e with
  | normal => exact hret s γ' a' w' he hR
  | ret => exact hret s γ' a' w' he hR
  | _ => exact he.elim
end Go.Fw

namespace Go.Fw
def codeOf (fn : Func) : Code := match fn.body with | some c => c | none => .skip
/-- Tables by number. -/
def findT : List (Nat × TI) → TEnv
  | [], _ => none
  | (t, x) :: r, i => match Nat.beq i t with | true => some x | false => findT r i
def findC : List (Nat × FCon) → CEnv
  | [], _ => none
  | (t, x) :: r, i => match Nat.beq i t with | true => some x | false => findC r i
def findL : List (Nat × LoopSpec) → Nat → Option LoopSpec
  | [], _ => none
  | (t, x) :: r, i => match Nat.beq i t with | true => some x | false => findL r i
def findZ : List (Nat × List Pre) → Nat → List Pre
  | [], _ => []
  | (n, z) :: r, i => match Nat.beq i n with | true => z | false => findZ r i
def hints (own : List Nat) (l c : List (Nat × LoopSpec)) (u : List Nat) (z : List (Nat × List Pre)) : Hints := ⟨memNum own, findL l, findL c, u, findZ z⟩
end Go.Fw
/- What is known of a function, at the shapes of its arguments. -/
namespace Go.Fw
open Go

variable {P : Program} {Θ : TEnv} {Γ : CEnv}

/-- The shape of an argument. -/
inductive VSh where
  | one (c : CSh)
  | agg (l : List CSh)
@[reducible] def VSh.den : VSh → Type
  | .one c => c.den
  | .agg l => csDen l
def VSh.val : (s : VSh) → s.den → SV
  | .one c, x => .one (c.cell x)
  | .agg l, x => .agg (csCells l x)
def VSh.read : (s : VSh) → SV → Option s.den
  | .one c, .one x => c.read x
  | .agg l, .agg xs => csRead l xs
  | _, _ => none
theorem VSh.weak {X : V} (s : VSh) (x : SV) (d : s.den) (v : Value) (hr : s.read x = some d) (hv : RepSV X x v) : RepSV X (s.val d) v := by
  unfold VSh.read at hr
  split at hr
  · exact CSh.weak _ _ _ _ hr hv
  · obtain ⟨vs, e, h⟩ := hv
    exact ⟨vs, e, csWeak _ _ _ _ hr h⟩
  · cases hr
@[reducible] def vsDen : List VSh → Type
  | [] => Unit
  | s :: r => s.den × vsDen r
def vsVals : (l : List VSh) → vsDen l → List SV
  | [], _ => []
  | s :: r, x => s.val x.1 :: vsVals r x.2
def vsRead : (l : List VSh) → List SV → Option (vsDen l)
  | [], [] => some ()
  | s :: r, x :: xs => match s.read x, vsRead r xs with
    | some a, some b => some (a, b)
    | _, _ => none
  | _, _ => none
theorem vsWeak {X : V} : ∀ (l : List VSh) (xs : List SV) (d : vsDen l) (vs : List Value), vsRead l xs = some d → RepSVs X xs vs → RepSVs X (vsVals l d) vs
  | [], [], _, _, _, hv => hv
  | s :: r, x :: xs, d, vs, hr, hv => by
    rw [vsRead] at hr
    split at hr
    · next a b h1 h2 =>
      cases hr
      cases vs with
      | nil => cases hv
      | cons v vs => exact ⟨VSh.weak s x a v h1 hv.1, vsWeak r xs b vs h2 hv.2⟩
    · cases hr
  | [], _ :: _, _, _, hr, _ => by simp [vsRead] at hr
  | _ :: _, [], _, _, hr, _ => by simp [vsRead] at hr
theorem vsVals_length : ∀ (l : List VSh) (d : vsDen l), (vsVals l d).length = l.length
  | [], _ => rfl
  | _ :: r, d => by simp [vsVals, vsVals_length r d.2]

mutual
/-- What every value of a type keeps to. -/
def CT.inR : (c : CT) → c.den → Prop
  | .int k, (n : Int) => k.min ≤ n ∧ n ≤ k.max
  | .bool, _ => True
  | .str, (s : Bytes) => s.length ≤ maxLen
  | .sl _ r, (l : List r.den) => l.length ≤ maxLen ∧ ∀ x ∈ l, r.inR x
def CTs.inR : (r : CTs) → r.den → Prop
  | .nil, _ => True
  | .cons c r, x => c.inR x.1 ∧ r.inR x.2
end
mutual
theorem RepC.inR {h : Array Obj} {S : Nat → Prop} : ∀ (c : CT) (v : Value) (x : c.den), RepC h S c v x → c.inR x
  | .int k, v, (n : Int), H => by rw [RepC] at H; rw [CT.inR]; exact H.2
  | .bool, v, (b : Bool), H => by rw [CT.inR]; trivial
  | .str, v, (s : Bytes), H => by rw [RepC] at H; rw [CT.inR]; exact H.2
  | .sl e r, v, (l : List r.den), H => by
    rw [RepC] at H
    rw [CT.inR]
    refine ⟨H.1, fun x hx => ?_⟩
    obtain ⟨i, hi, rfl⟩ := List.mem_iff_getElem.1 hx
    rcases H.2 with ⟨hnil, _⟩ | ⟨b, off, cap, cs, t, fz, _, _, _, _, hr⟩
    · subst hnil; simp at hi
    · exact RepR.inR r _ _ (hr i _ (List.getElem?_eq_getElem hi))
theorem RepR.inR {h : Array Obj} {S : Nat → Prop} : ∀ (r : CTs) (vs : List Value) (x : r.den), RepR h S r vs x → r.inR x
  | .nil, vs, _, H => by rw [CTs.inR]; trivial
  | .cons c r, vs, (x, y), H => by
    rw [RepR] at H
    obtain ⟨v, vs', _, h1, h2⟩ := H
    rw [CTs.inR]
    exact ⟨RepC.inR c v x h1, RepR.inR r vs' y h2⟩
end
def CSh.inR : (c : CSh) → c.den → Prop
  | .int k, (n : Int) => k.min ≤ n ∧ n ≤ k.max
  | .str, (s : Bytes) => s.length ≤ maxLen
  | .sl _ r _, (l : List r.den) => l.length ≤ maxLen ∧ ∀ x ∈ l, r.inR x
  | _, _ => True
def csInR : (l : List CSh) → csDen l → Prop
  | [], _ => True
  | c :: r, x => c.inR x.1 ∧ csInR r x.2
def VSh.inR : (s : VSh) → s.den → Prop
  | .one c, x => c.inR x
  | .agg l, x => csInR l x
def vsInR : (l : List VSh) → vsDen l → Prop
  | [], _ => True
  | s :: r, x => s.inR x.1 ∧ vsInR r x.2
theorem CSh.rep_inR {X : V} (c : CSh) (x : c.den) (v : Value) (h : RepCell X (c.cell x) v) : c.inR x := by
  cases c with
  | int k => exact h.2
  | str => exact h.2
  | sl e r fr =>
    have h' : RepC X.w.heap (X.footF fr) (.sl e r) v x := h
    have := RepC.inR (.sl e r) v x h'
    rw [CT.inR] at this
    exact this
  | _ => trivial
theorem csRep_inR {X : V} : ∀ (l : List CSh) (x : csDen l) (vs : List Value), RepCells X (csCells l x) vs → csInR l x
  | [], _, _, _ => trivial
  | c :: r, x, v :: vs, h => ⟨CSh.rep_inR c x.1 v h.1, csRep_inR r x.2 vs h.2⟩
  | _ :: _, _, [], h => by cases h
theorem vsRep_inR {X : V} : ∀ (l : List VSh) (x : vsDen l) (vs : List Value), RepSVs X (vsVals l x) vs → vsInR l x
  | [], _, _, _ => trivial
  | .one c :: r, x, v :: vs, h => ⟨CSh.rep_inR c x.1 v h.1, vsRep_inR r x.2 vs h.2⟩
  | .agg l :: r, x, v :: vs, h => by
    obtain ⟨ws, hv, hc⟩ := h.1
    exact ⟨csRep_inR l x.1 _ hc, vsRep_inR r x.2 vs h.2⟩
  | _ :: _, _, [], h => by cases h

/-- The shape of an argument. -/
inductive PSh where
  | v (s : VSh)
  | kp (l : List CSh)
  | fn (f : FuncId) (l : List (List CSh))
@[reducible] def PSh.den : PSh → Type
  | .v s => s.den
  | .kp l => csDen l
  | .fn _ l => capsDen l
def PSh.val : (s : PSh) → s.den → Arg
  | .v s, x => .sv (s.val x)
  | .kp l, x => .kp (csCells l x)
  | .fn f l, x => .fn f (capsCells l x)
def PSh.read : (s : PSh) → Arg → Option s.den
  | .v s, .sv x => s.read x
  | .kp l, .kp xs => csRead l xs
  | .fn f l, .fn g xs => match Nat.beq f g with | true => capsRead l xs | false => none
  | _, _ => none
theorem PSh.weak {X : V} (s : PSh) (x : Arg) (d : s.den) (v : Value) (hr : s.read x = some d) (hv : RepArg X x v) : RepArg X (s.val d) v := by
  unfold PSh.read at hr
  split at hr
  · exact VSh.weak _ _ _ _ hr hv
  · obtain ⟨b, e, hk⟩ := hv
    exact ⟨b, e, kept_weak hr hk⟩
  · split at hr
    · next hb =>
      obtain ⟨us, e, hk⟩ := hv
      rw [PSh.val, Nat.eq_of_beq_eq_true hb]
      exact ⟨us, e, caps_weak _ _ _ _ hr hk⟩
    · cases hr
  · cases hr
@[reducible] def psDen : List PSh → Type
  | [] => Unit
  | s :: r => s.den × psDen r
def psVals : (l : List PSh) → psDen l → List Arg
  | [], _ => []
  | s :: r, x => s.val x.1 :: psVals r x.2
def psRead : (l : List PSh) → List Arg → Option (psDen l)
  | [], [] => some ()
  | s :: r, x :: xs => match s.read x, psRead r xs with
    | some a, some b => some (a, b)
    | _, _ => none
  | _, _ => none
theorem psWeak {X : V} : ∀ (l : List PSh) (xs : List Arg) (d : psDen l) (vs : List Value), psRead l xs = some d → RepArgs X xs vs → RepArgs X (psVals l d) vs
  | [], [], _, _, _, hv => hv
  | s :: r, x :: xs, d, vs, hr, hv => by
    rw [psRead] at hr
    split at hr
    · next a b h1 h2 =>
      cases hr
      cases vs with
      | nil => cases hv
      | cons v vs => exact ⟨PSh.weak s x a v h1 hv.1, psWeak r xs b vs h2 hv.2⟩
    · cases hr
  | [], _ :: _, _, _, hr, _ => by simp [psRead] at hr
  | _ :: _, [], _, _, hr, _ => by simp [psRead] at hr
theorem psVals_length : ∀ (l : List PSh) (d : psDen l), (psVals l d).length = l.length
  | [], _ => rfl
  | _ :: r, d => by simp [psVals, psVals_length r d.2]
def capsInR : (l : List (List CSh)) → capsDen l → Prop
  | [], _ => True
  | c :: r, x => csInR c x.1 ∧ capsInR r x.2
def PSh.inR : (s : PSh) → s.den → Prop
  | .v s, x => s.inR x
  | .kp l, x => csInR l x
  | .fn _ l, x => capsInR l x
def psInR : (l : List PSh) → psDen l → Prop
  | [], _ => True
  | s :: r, x => s.inR x.1 ∧ psInR r x.2
theorem capsRep_inR {X : V} : ∀ (l : List (List CSh)) (x : capsDen l) (us : List Value), RepHeld X (capsCells l x) us → capsInR l x
  | [], _, _, _ => trivial
  | c :: r, x, u :: us, h => by
    obtain ⟨⟨b, hu, arr, t, fz, hf, hh, hc⟩, h2⟩ := h
    exact ⟨csRep_inR c x.1 _ hc, capsRep_inR r x.2 us h2⟩
  | _ :: _, _, [], h => by cases h
theorem psRep_inR {X : V} : ∀ (l : List PSh) (x : psDen l) (vs : List Value), RepArgs X (psVals l x) vs → psInR l x
  | [], _, _, _ => trivial
  | .v (.one c) :: r, x, v :: vs, h => ⟨CSh.rep_inR c x.1 v h.1, psRep_inR r x.2 vs h.2⟩
  | .v (.agg l) :: r, x, v :: vs, h => by
    obtain ⟨ws, hv, hc⟩ := h.1
    exact ⟨csRep_inR l x.1 _ hc, psRep_inR r x.2 vs h.2⟩
  | .kp l :: r, x, v :: vs, h => by
    obtain ⟨b, hu, arr, t, fz, hf, hh, hc⟩ := h.1
    exact ⟨csRep_inR l x.1 _ hc, psRep_inR r x.2 vs h.2⟩
  | .fn f l :: r, x, v :: vs, h => by
    obtain ⟨us, hv, hk⟩ := h.1
    exact ⟨capsRep_inR l x.1 _ hk, psRep_inR r x.2 vs h.2⟩
  | _ :: _, _, [], h => by cases h

/-- What is known of a function at arguments of these shapes. -/
def conBy (sh : List PSh) (F : psDen sh → Prop × Out) : Con := fun args =>
  match psRead sh args with
  | some x => some (F x)
  | none => none

theorem conBy_ok {G : Glob} (hE : EnvB P G Θ Γ) (hm : P.follows .mixedOrders = true) {f : FuncId} {fn : Func} {c : Code} (hf : P.funcs[f]? = some fn) (hb : fn.body = some c) (H : Hints)
    {sh : List PSh} {F : psDen sh → Prop × Out} (hn : Nat.ble sh.length fn.ntmps = true)
    (hwalk : ∀ x, psInR sh x → (F x).1 → awp Θ Γ H c (ends Θ fn.results.toList (F x).2) (entry fn.ntmps (psVals sh x))) : ConOK P G f (conBy sh F) := by
  have base : ∀ x, psInR sh x → ConOK P G f (fun args => @ite _ (args = psVals sh x) (Classical.propDecidable _) (some (F x)) none) := by
    intro x hin
    refine conOK_of hE hm hf hb H ?_
    intro args p out hcon hp
    split at hcon
    · next e =>
      have hF : F x = (p, out) := by simpa using hcon
      have := hwalk x hin (by rw [hF]; exact hp)
      rw [hF] at this
      rw [e]
      exact ⟨by rw [psVals_length]; exact hn, this⟩
    · cases hcon
  intro args p out k S vs w hcon hp hG hrep
  unfold conBy at hcon
  split at hcon
  · next x hx =>
    have hv := psWeak sh args x vs.toList hx hrep
    exact base x (psRep_inR sh x _ hv) (psVals sh x) p out k S vs w (by simp only [if_true]; exact hcon) hp hG hv
  · cases hcon
end Go.Fw
/- Contracts whose results are read by shapes. -/
namespace Go.Fw
open Go

variable {P : Program} {Θ : TEnv} {Γ : CEnv}

def outs0 : List SV → List (Bool × List OCell)
  | [] => []
  | v :: vs => outOf v :: outs0 vs
theorem takeRets_outs0 : ∀ (k : Nat) (vs : List SV), takeRets k (outs0 vs) = (vs, [])
  | _, [] => rfl
  | k, v :: vs => by simp only [outs0, takeRets, takeRet_out, takeRets_outs0, List.append_nil]

/-- What is to be shown of a walk's end: the results, read by their shapes. -/
def endsV (Θ : TEnv) (rv : List ResultVar) (rsh : List VSh) (K : vsDen rsh → Prop) (e : Exit) (st : St) : Prop :=
  match e with
  | .normal | .ret => match finAll Θ (st.freeze (isArr st)) rv with
    | some vs => match vsRead rsh (vs.map (SV.kill fun _ => true)) with
      | some d => K d
      | none => False
    | none => False
  | _ => False

theorem conV_of {G : Glob} (hE : EnvB P G Θ Γ) (hm : P.follows .mixedOrders = true) {f : FuncId} {fn : Func} {c : Code} (hf : P.funcs[f]? = some fn) (hb : fn.body = some c) (H : Hints) {con : Con} {rsh : List VSh}
    (hwalk : ∀ args p out, con args = some (p, out) → p → Nat.ble args.length fn.ntmps = true ∧ ∃ d : vsDen rsh, out = ⟨outs0 (vsVals rsh d), none⟩ ∧ awp Θ Γ H c (endsV Θ fn.results.toList rsh fun y => y = d) (entry fn.ntmps args)) : ConOK P G f con := by
  intro args p out k S vs w hcon hp hG hrep
  obtain ⟨hn, d, hout, hw⟩ := hwalk args p out hcon hp
  subst hout
  have hn' : args.length ≤ fn.ntmps := by simpa [Nat.ble_eq] using hn
  refine calls_of_wp hf hb (awp_sound ⟨hE, hG, fun b hb => hb.elim⟩ hm H c _ _ _ _ _ _ (entry_rel (S := S) fn.ntmps hn' hrep) hw ?_)
  have hret : ∀ s γ' a' w', endsV Θ fn.results.toList rsh (fun y => y = d) .ret s → Rel w (fun _ => False) ⟨S, fun _ => none, fun _ _ h => by cases h⟩ γ' s a' w' → bodyPost P fn (fun e w' => ∃ v vals, e = .returned v ∧ w'.os = w.os ∧ w'.tape = w.tape ∧ w'.output = w.output ∧ w.heap.size ≤ w'.heap.size ∧
      (∀ b, b < w.heap.size → w'.heap[b]? = w.heap[b]?) ∧
      RepAV ⟨w', w.heap.size, S, vals, look (Out.take k ⟨outs0 (vsVals rsh d), none⟩).2⟩ (Out.take k ⟨outs0 (vsVals rsh d), none⟩).1 v ∧
      (∀ o x, look (Out.take k ⟨outs0 (vsVals rsh d), none⟩).2 o = some x → RepObj ⟨w', w.heap.size, S, vals, look (Out.take k ⟨outs0 (vsVals rsh d), none⟩).2⟩ o x ∧ ∀ b, blk (vals o) = some b → w.heap.size ≤ b ∧ b < w'.heap.size) ∧
      (∀ o x q y b, look (Out.take k ⟨outs0 (vsVals rsh d), none⟩).2 o = some x → look (Out.take k ⟨outs0 (vsVals rsh d), none⟩).2 q = some y → o ≠ q → blk (vals o) = some b → blk (vals q) ≠ some b)) .ret a' w' := by
    intro s γ' a' w' he hR
    refine ⟨hR.defers, ?_⟩
    simp only [endsV] at he
    split at he
    · next svs hvs =>
      split at he
      · next y hy =>
        subst he
        have hRf := hR.freeze (isArr s)
        obtain ⟨us, hus, hrs⟩ := finAll_sound hE.types hRf _ _ hvs
        have hk0 := RepSVs.kill (fun _ => true) hRf svs us hrs
        have hk := vsWeak rsh _ y us hy hk0
        have htake : Out.take k ⟨outs0 (vsVals rsh y), none⟩ = (match vsVals rsh y with | [v] => .sv v | l => .tup l, []) := by
          unfold Out.take
          simp only [takeRets_outs0]
          rcases vsVals rsh y with _ | ⟨v, _ | ⟨v2, r⟩⟩ <;> rfl
        have hmap : (fn.results.mapM (resOne a'.tmps)).run P w' = .ok us.toArray w' := by
          rw [Array.mapM_eq_mapM_toList, Sem.run_map, hus]
          rfl
        refine ⟨if h : us.toArray.size = 1 then us.toArray[0] else .tuple us.toArray, ?_, _, γ', rfl, hR.os, hR.tape, hR.output, hR.grow, fun b hb => hR.kept b hb (fun h => h), ?_, ?_, ?_⟩
        · rw [results_eq, Sem.run_bind, hmap]
          simp only [Result.andThen_ok, Sem.run_pure]
        · rw [htake]
          have hl := RepSVs.length _ _ hk
          match hm : vsVals rsh y, us, hk, hl with
          | [v], [u], hk, _ => exact hk.1
          | [], [], hk, _ => exact ⟨_, by simp, hk⟩
          | v :: v2 :: r, u :: u2 :: us, hk, hl => exact ⟨_, by simp, hk⟩
          | [], _ :: _, hk, h4 | _ :: _, [], hk, h4 | [_], _ :: _ :: _, hk, h4 | _ :: _ :: _, [_], hk, h4 => simp at h4
        · intro o x hx; rw [htake] at hx; cases hx
        · intro o x q y b hx; rw [htake] at hx; cases hx
      · exact he.elim
    · exact he.elim
  intro e s γ' a' w' he hR
  cases e with
  | normal => exact hret s γ' a' w' he hR
  | ret => exact hret s γ' a' w' he hR
  | _ => exact he.elim

/-- What is known of a function at arguments and results of these shapes. -/
def conR (sh : List PSh) (rsh : List VSh) (F : psDen sh → Prop × vsDen rsh) : Con := conBy sh fun x => ((F x).1, ⟨outs0 (vsVals rsh (F x).2), none⟩)

theorem conR_ok {G : Glob} (hE : EnvB P G Θ Γ) (hm : P.follows .mixedOrders = true) {f : FuncId} {fn : Func} {c : Code} (hf : P.funcs[f]? = some fn) (hb : fn.body = some c) (H : Hints)
    {sh : List PSh} {rsh : List VSh} {F : psDen sh → Prop × vsDen rsh} (hn : Nat.ble sh.length fn.ntmps = true)
    (hwalk : ∀ x, psInR sh x → (F x).1 → awp Θ Γ H c (endsV Θ fn.results.toList rsh fun y => y = (F x).2) (entry fn.ntmps (psVals sh x))) : ConOK P G f (conR sh rsh F) := by
  have base : ∀ x, psInR sh x → ConOK P G f (fun args => @ite _ (args = psVals sh x) (Classical.propDecidable _) (some ((F x).1, ⟨outs0 (vsVals rsh (F x).2), none⟩)) none) := by
    intro x hin
    refine conV_of (rsh := rsh) hE hm hf hb H ?_
    intro args p out hcon hp
    split at hcon
    · next e =>
      have hF : ((F x).1, (⟨outs0 (vsVals rsh (F x).2), none⟩ : Out)) = (p, out) := by simpa using hcon
      have h1 : (F x).1 = p := congrArg Prod.fst hF
      have h2 : (⟨outs0 (vsVals rsh (F x).2), none⟩ : Out) = out := congrArg Prod.snd hF
      have := hwalk x hin (by rw [h1]; exact hp)
      rw [e]
      exact ⟨by rw [psVals_length]; exact hn, (F x).2, h2.symm, this⟩
    · cases hcon
  intro args p out k S vs w hcon hp hG hrep
  unfold conR conBy at hcon
  split at hcon
  · next x hx =>
    have hv := psWeak sh args x vs.toList hx hrep
    exact base x (psRep_inR sh x _ hv) (psVals sh x) p out k S vs w (by simp only [if_true]; exact hcon) hp hG hv
  · cases hcon
end Go.Fw
/- Functions that change what is handed over, and functions that hand back arrays of their caller's own. -/
namespace Go.Fw
open Go

variable {P : Program} {Θ : TEnv} {Γ : CEnv}

/-- A cell of a result. -/
inductive RC where
  | c (s : CSh)
  | own (e : TypeId) (r : CTs) (fr : Bool)
@[reducible] def RC.den : RC → Type
  | .c s => s.den
  | .own _ r _ => List r.den
@[reducible] def rcDen : List RC → Type
  | [] => Unit
  | c :: r => c.den × rcDen r
def RC.ocell : (c : RC) → c.den → OCell
  | .c s, x => .plain (s.cell x)
  | .own e r fr, l => .own e r l fr
def rcCells : (l : List RC) → rcDen l → List OCell
  | [], _ => []
  | c :: r, x => c.ocell x.1 :: rcCells r x.2
/-- The shape of a result. -/
inductive RSh where
  | one (c : RC)
  | agg (l : List RC)
@[reducible] def RSh.den : RSh → Type
  | .one c => c.den
  | .agg l => rcDen l
@[reducible] def rsDen : List RSh → Type
  | [] => Unit
  | s :: r => s.den × rsDen r
def RSh.out : (s : RSh) → s.den → Bool × List OCell
  | .one c, x => (false, [c.ocell x])
  | .agg l, x => (true, rcCells l x)
def rsOuts : (l : List RSh) → rsDen l → List (Bool × List OCell)
  | [], _ => []
  | s :: r, x => s.out x.1 :: rsOuts r x.2

/-- The own arrays that are handed back, cell by cell. -/
def RC.name : RC → Cell → Option Nat
  | .own _ _ _, .ref o => some o
  | _, _ => none
def rcNames : List RC → List Cell → List (Option Nat)
  | c :: r, x :: xs => c.name x :: rcNames r xs
  | _, _ => []
def RSh.names : RSh → SV → List (Option Nat)
  | .one c, .one x => [c.name x]
  | .agg l, .agg xs => rcNames l xs
  | _, _ => []
def rsNames : List RSh → List SV → List (Option Nat)
  | s :: r, x :: xs => s.names x ++ rsNames r xs
  | _, _ => []
/-- What a cell holds behind the call. -/
def RC.read (st : St) : (c : RC) → Cell → Option c.den
  | .c s, x => match x.refs with | [] => s.read x | _ => none
  | .own e r fr, .ref o => match st.objs o with
    | some (.arr f s l g) => match Nat.beq e f && boolLe fr g with
      | true => if h : s.beq r = true then some (castRow h l) else none
      | false => none
    | _ => none
  | .own _ r _, .nil => match Nat.ble 1 r.len with | true => some [] | false => none
  | _, _ => none
def rcRead (st : St) : (l : List RC) → List Cell → Option (rcDen l)
  | [], [] => some ()
  | c :: r, x :: xs => match c.read st x, rcRead st r xs with
    | some a, some b => some (a, b)
    | _, _ => none
  | _, _ => none
def RSh.read (st : St) : (s : RSh) → SV → Option s.den
  | .one c, .one x => c.read st x
  | .agg l, .agg xs => rcRead st l xs
  | _, _ => none
def rsRead (st : St) : (l : List RSh) → List SV → Option (rsDen l)
  | [], [] => some ()
  | s :: r, x :: xs => match s.read st x, rsRead st r xs with
    | some a, some b => some (a, b)
    | _, _ => none
  | _, _ => none

/-- How an argument is handed over. -/
inductive XSh where
  | p (s : PSh)
  | own (e : TypeId) (r : CTs)
  | ptr (l : List CSh)
@[reducible] def XSh.den : XSh → Type
  | .p s => s.den
  | .own _ r => List r.den
  | .ptr l => csDen l
def XSh.mode : XSh → Mode
  | .p _ => .val
  | .own _ _ => .own
  | .ptr _ => .ptr
def XSh.val : (s : XSh) → s.den → Arg
  | .p s, x => s.val x
  | .own e r, l => .own e r l
  | .ptr l, x => .ptr (csCells l x)
def XSh.read : (s : XSh) → Arg → Option s.den
  | .p s, x => s.read x
  | .own e r, .own f s l => match Nat.beq e f with
    | true => if h : s.beq r = true then some (castRow h l) else none
    | false => none
  | .ptr l, .ptr cs => csRead l cs
  | _, _ => none
@[reducible] def xsDen : List XSh → Type
  | [] => Unit
  | s :: r => s.den × xsDen r
def xsVals : (l : List XSh) → xsDen l → List Arg
  | [], _ => []
  | s :: r, x => s.val x.1 :: xsVals r x.2
def xsRead : (l : List XSh) → List Arg → Option (xsDen l)
  | [], [] => some ()
  | s :: r, x :: xs => match s.read x, xsRead r xs with
    | some a, some b => some (a, b)
    | _, _ => none
  | _, _ => none
/-- What the variables hold behind the call, that are pointed to. -/
@[reducible] def bkDen : List XSh → Type
  | [] => Unit
  | .ptr l :: r => csDen l × bkDen r
  | .p _ :: r | .own _ _ :: r => bkDen r
def bkEffs : (l : List XSh) → bkDen l → List Eff
  | [], _ => []
  | .ptr l :: r, x => .var (csCells l x.1) :: bkEffs r x.2
  | .p _ :: r, x | .own _ _ :: r, x => .lose :: bkEffs r x
/-- Their cells in the state. -/
def bkRead (st : St) : (i : Nat) → (l : List XSh) → Option (bkDen l)
  | _, [] => some ()
  | i, .ptr l :: r => match st.objs (i * 64 + 48), bkRead st (i + 1) r with
    | some (.var cs), some b => match cs.flatMap Cell.refs, csRead l cs with
      | [], some a => some (a, b)
      | _, _ => none
    | _, _ => none
  | i, .p _ :: r | i, .own _ _ :: r => bkRead st (i + 1) r

/-- The state at the entry. -/
def Arg.avX (i : Nat) : Arg → AV
  | .own _ _ _ => .sv (.one (.ref (i * 64 + 49)))
  | .ptr _ => .vptr (i * 64 + 48) 0
  | a => a.av
def entryX (n : Nat) (args : List Arg) : St :=
  { n := n, tmps := fun t => match args[t]? with | some v => v.avX t | none => .undef, objs := objE args }
/-- Which arrays are let go at the end. -/
def letAll (st : St) (W : List (Option Nat)) (o : Nat) : Bool := isArr st o && !(memO o W)
/-- What is to be shown of a walk's end. -/
def endsX (Θ : TEnv) (rv : List ResultVar) (sh : List XSh) (rsh : List RSh) (K : rsDen rsh × bkDen sh → Prop) (e : Exit) (st : St) : Prop :=
  match e with
  | .normal | .ret => match finAll Θ st rv with
    | some svs => match finAll Θ (st.freeze (letAll st (rsNames rsh svs))) rv with
      | some vs => match nodupO (rsNames rsh vs), rsRead (st.freeze (letAll st (rsNames rsh svs))) rsh vs, bkRead (st.freeze (letAll st (rsNames rsh svs))) 0 sh with
        | true, some d, some b => K (d, b)
        | _, _, _ => False
      | none => False
    | none => False
  | _ => False
/-- What is known of such a function: for each case of which R holds. -/
def conX (sh : List XSh) (rsh : List RSh) (F : xsDen sh → Prop × (rsDen rsh × bkDen sh → Prop)) : XCon := fun args =>
  match xsRead sh args with
  | some x => some ((F x).1, ⟨rsDen rsh × bkDen sh, (F x).2, fun t => ⟨rsOuts rsh t.1, none⟩, fun t => bkEffs sh t.2⟩)
  | none => none
def xmodes (sh : List XSh) : List Mode := sh.map XSh.mode
end Go.Fw
/- From the walk to what is known of a function that changes what is handed over. -/
namespace Go.Fw
open Go

variable {P : Program} {w0 : World} {M : Nat → Prop} {T : Ext} {γ γ' : Nat → Value} {st : St} {a : Act} {w w' : World} {Θ : TEnv} {Γ : CEnv}

def pinE (args : List Arg) (γ : Nat → Value) (o : Nat) : Option Value := match objE args o with | some (.var _) => some (γ o) | _ => none
theorem objE_var {args : List Arg} {o : Nat} {cs : List Cell} (h : objE args o = some (.var cs)) : o % 64 = 48 := by
  unfold objE at h
  split at h
  · split at h <;> cases h
  · split at h
    · next hm => exact Nat.eq_of_beq_eq_true hm
    · cases h
  · cases h
def extE (args : List Arg) (γ : Nat → Value) (S : Nat → Prop) : Ext where
  S := fun b => S b ∨ blocksOf (objE args) γ b
  N := pinE args γ
  n48 := by
    intro p v h
    unfold pinE at h
    split at h
    · next cs hc => exact objE_var hc
    · cases h

theorem RepXs.get {X : V} : ∀ (as : List Arg) (vs : List Value) (i : Nat), RepXs X i as vs → as.length = vs.length ∧ ∀ (j : Nat) (b : Arg), as[j]? = some b → ∃ v, vs[j]? = some v ∧ RepX X (i + j) b v
  | [], [], _, _ => ⟨rfl, fun j b h => by simp at h⟩
  | x :: as, v :: vs, i, ⟨h1, h2⟩ => by
    obtain ⟨g1, g2⟩ := RepXs.get as vs (i + 1) h2
    refine ⟨by simp [g1], fun j b hb => ?_⟩
    cases j with
    | zero => simp at hb; subst hb; exact ⟨v, rfl, h1⟩
    | succ j =>
      obtain ⟨u, hu, hr⟩ := g2 j b (by simpa using hb)
      exact ⟨u, by simpa using hu, by rw [show i + (j + 1) = i + 1 + j by omega]; exact hr⟩
  | [], _ :: _, _, H | _ :: _, [], _, H => by cases H
theorem RepX.av {X : V} (i : Nat) : ∀ (c : Arg) (v : Value), RepX X i c v → RepAV X (c.avX i) v
  | .own _ _ _, _, h => h
  | .ptr _, _, h => h
  | .sv _, _, h | .kp _, _, h | .fn _ _, _, h => h

theorem entryX_rel {args : List Arg} {vs : Array Value} {S : Nat → Prop} (n : Nat) (hn : args.length ≤ n)
    (h : RepXs ⟨w, w.heap.size, S, γ, objE args⟩ 0 args vs.toList)
    (ho : ∀ o x, objE args o = some x → RepObj ⟨w, w.heap.size, S, γ, objE args⟩ o x ∧ ∀ b, blk (γ o) = some b → b < w.heap.size)
    (hs : ∀ o x q y b, objE args o = some x → objE args q = some y → o ≠ q → blk (γ o) = some b → blk (γ q) ≠ some b) :
    Rel w (blocksOf (objE args) γ) (extE args γ S) γ (entryX n args) { tmps := vs ++ Array.replicate (n - vs.size) undef, defers := [] } w := by
  obtain ⟨hl0, hget⟩ := RepXs.get _ _ 0 h
  have hl : vs.size = args.length := by simpa using hl0.symm
  have le : V.le ⟨w, w.heap.size, S, γ, objE args⟩ ⟨w, w.heap.size, (extE args γ S).S, γ, objE args⟩ :=
    ⟨Nat.le_refl _, fun b hb => ⟨⟨hb.1, fun hlt => .inl (hb.2.1 hlt), hb.2.2⟩, rfl⟩, fun o cs hx => ⟨⟨cs, hx⟩, rfl⟩, fun o e r l fr hx => ⟨⟨l, fr, hx⟩, rfl⟩⟩
  refine ⟨fun b hb => .inr hb, rfl, ?_, rfl, rfl, rfl, Nat.le_refl _, fun _ _ _ => rfl, fun t => ?_, fun o x hx => RepObj.mono le o x (fun _ _ => rfl) rfl (ho o x hx).1, fun o x b hx hb => ⟨(ho o x hx).2 b hb, .inr ⟨o, x, hx, hb⟩⟩, fun o x p y b hx hy hop hb => hs o x p y b hx hy hop hb, fun o v cs hN hx => ?_⟩
  · simp [entryX]; omega
  · simp only [entryX]
    cases ha : args[t]? with
    | none => trivial
    | some v =>
      obtain ⟨u, hu, hr⟩ := hget t v ha
      have : (vs ++ Array.replicate (n - vs.size) undef).getD t undef = u := by
        have hlt : t < args.length := by
          rcases Nat.lt_or_ge t args.length with h' | h'
          · exact h'
          · rw [List.getElem?_eq_none h'] at ha; cases ha
        have hlt' : t < vs.size := by omega
        rw [Array.getD_eq_getD_getElem?, Array.getElem?_append_left hlt']
        have : vs[t]? = some u := by simpa using hu
        rw [this]; rfl
      rw [this]
      rw [Nat.zero_add] at hr
      exact RepAV.mono le _ _ (RepX.av t v u hr)
  · have hx' : objE args o = some (.var cs) := hx
    have hN' : pinE args γ o = some v := hN
    unfold pinE at hN'
    rw [hx'] at hN'
    exact Option.some.inj hN'

/-- An argument of which less is known. -/
def AW (a a' : Arg) : Prop :=
  (∃ e r l, a = .own e r l ∧ a' = .own e r l) ∨ (∃ cs cs', a = .ptr cs ∧ a' = .ptr cs' ∧ ∀ (X : V) vs, RepCells X cs vs → RepCells X cs' vs) ∨
  ((∀ (X : V) v, RepAV X a.av v → RepAV X a'.av v) ∧ (∀ i, a.avX i = a.av) ∧ (∀ i, a'.avX i = a'.av) ∧ (∀ e r l, a ≠ .own e r l) ∧ (∀ cs, a ≠ .ptr cs) ∧ (∀ e r l, a' ≠ .own e r l) ∧ (∀ cs, a' ≠ .ptr cs))
theorem PSh.readW {s : PSh} {x : Arg} {d : s.den} (h : s.read x = some d) : AW x (s.val d) := by
  refine .inr (.inr ⟨fun X v hv => ?_, ?_⟩)
  · have hx : RepArg X x v := by
      cases x with
      | sv _ | kp _ | fn _ _ => exact hv
      | own _ _ _ | ptr _ => cases s <;> simp [PSh.read] at h
    exact RepArg.av _ _ (PSh.weak s x d v h hx)
  · cases x <;> cases s <;> first
      | (simp [PSh.read] at h; done)
      | exact ⟨fun _ => rfl, fun _ => rfl, (fun _ _ _ e => by cases e), (fun _ e => by cases e), (fun _ _ _ e => by cases e), (fun _ e => by cases e)⟩
theorem XSh.readW {s : XSh} {x : Arg} {d : s.den} (h : s.read x = some d) : AW x (s.val d) := by
  unfold XSh.read at h
  split at h
  · exact PSh.readW h
  · next e r f s l =>
    split at h
    · next hb =>
      split at h
      · next hs =>
        cases h
        have he := Nat.eq_of_beq_eq_true hb
        subst he
        have hsr := CTs.eq_of_beq s r hs
        subst hsr
        exact .inl ⟨e, s, l, rfl, rfl⟩
      · cases h
    · cases h
  · next l cs => exact .inr (.inl ⟨cs, _, rfl, rfl, fun X vs hc => csWeak _ _ _ _ h hc⟩)
  · cases h
theorem xsRead_get : ∀ {l : List XSh} {xs : List Arg} {d : xsDen l}, xsRead l xs = some d → (xsVals l d).length = xs.length ∧ ∀ (i : Nat) (a : Arg), xs[i]? = some a → ∃ a', (xsVals l d)[i]? = some a' ∧ AW a a'
  | [], [], _, _ => ⟨rfl, fun i a h => by simp at h⟩
  | s :: r, x :: xs, d, h => by
    rw [xsRead] at h
    split at h
    · next a b h1 h2 =>
      cases h
      obtain ⟨g1, g2⟩ := xsRead_get h2
      refine ⟨by simp [xsVals, g1], fun i c hc => ?_⟩
      cases i with
      | zero => simp at hc; subst hc; exact ⟨_, rfl, XSh.readW h1⟩
      | succ i =>
        obtain ⟨c', k1, k2⟩ := g2 i c (by simpa using hc)
        exact ⟨c', by simpa [xsVals] using k1, k2⟩
    · cases h
  | [], _ :: _, _, h => by simp [xsRead] at h
  | _ :: _, [], _, h => by simp [xsRead] at h
theorem objE_none {args : List Arg} {o : Nat} (h : ∀ b, args[o / 64]? = some b → (∀ e r l, b ≠ .own e r l) ∧ ∀ cs, b ≠ .ptr cs) : objE args o = none := by
  unfold objE
  split
  · next e r l ha => exact ((h _ ha).1 e r l rfl).elim
  · next cs ha => exact ((h _ ha).2 cs rfl).elim
  · rfl
theorem entryX_covers {sh : List XSh} {args : List Arg} {x : xsDen sh} (h : xsRead sh args = some x) (n : Nat) : Covers (entryX n (xsVals sh x)) (entryX n args) := by
  obtain ⟨hl, hget⟩ := xsRead_get h
  refine ⟨rfl, fun t X v hv => ?_, fun o => ?_⟩
  · simp only [entryX] at hv ⊢
    cases ha : args[t]? with
    | none =>
      have : (xsVals sh x)[t]? = none := by
        rw [List.getElem?_eq_none_iff] at ha ⊢; omega
      rw [this]; trivial
    | some b =>
      obtain ⟨b', hb', hw⟩ := hget t b ha
      rw [ha] at hv
      rw [hb']
      dsimp only at hv ⊢
      rcases hw with ⟨e, r, l, rfl, rfl⟩ | ⟨cs, cs', rfl, rfl, _⟩ | ⟨hw, e1, e2, _⟩
      · exact hv
      · exact hv
      · rw [e1] at hv; rw [e2]; exact hw X v hv
  · show (objE (xsVals sh x) o = none ∧ objE args o = none) ∨ ∃ y y', objE args o = some y ∧ objE (xsVals sh x) o = some y' ∧ ObjWeak y y'
    cases ha : args[o / 64]? with
    | none =>
      have h2 : (xsVals sh x)[o / 64]? = none := by
        rw [List.getElem?_eq_none_iff] at ha ⊢; omega
      exact .inl ⟨objE_none (by rw [h2]; intro b hb; cases hb), objE_none (by rw [ha]; intro b hb; cases hb)⟩
    | some b =>
      obtain ⟨b', hb', hw⟩ := hget _ b ha
      rcases hw with ⟨e, r, l, rfl, rfl⟩ | ⟨cs, cs', rfl, rfl, hc⟩ | ⟨_, _, _, n1, n2, n3, n4⟩
      · unfold objE
        rw [ha, hb']
        dsimp only
        cases hm : Nat.beq (o % 64) 49 with
        | true => exact .inr ⟨_, _, rfl, rfl, .inr ⟨e, r, l, false, false, rfl, rfl, id⟩⟩
        | false => exact .inl ⟨rfl, rfl⟩
      · unfold objE
        rw [ha, hb']
        dsimp only
        cases hm : Nat.beq (o % 64) 48 with
        | true => exact .inr ⟨_, _, rfl, rfl, .inl ⟨cs, cs', rfl, rfl, hc⟩⟩
        | false => exact .inl ⟨rfl, rfl⟩
      · exact .inl ⟨objE_none (by rw [hb']; intro c hc; cases hc; exact ⟨n3, n4⟩), objE_none (by rw [ha]; intro c hc; cases hc; exact ⟨n1, n2⟩)⟩

theorem look_append (a b : List (Nat × AObj)) (p : Nat) : look (a ++ b) p = match look b p with | some y => some y | none => look a p := by
  induction a with
  | nil => simp only [List.nil_append, look]; cases look b p <;> rfl
  | cons x a ih =>
    obtain ⟨o, z⟩ := x
    rw [List.cons_append, look, ih, look]
    cases look b p <;> rfl
theorem takeCells_look : ∀ (cs : List OCell) (k p : Nat) (x : AObj), look (takeCells k cs).2 p = some x ↔ ∃ i e r l fr, p = k + i ∧ cs[i]? = some (.own e r l fr) ∧ x = .arr e r l fr
  | [], k, p, x => by simp [takeCells, look]
  | c :: cs, k, p, x => by
    rw [takeCells, look_append]
    have ih := takeCells_look cs (k + 1) p x
    constructor
    · intro h
      split at h
      · next y hy =>
        cases h
        obtain ⟨i, e, r, l, fr, h1, h2, h3⟩ := (takeCells_look cs (k + 1) p x).1 hy
        exact ⟨i + 1, e, r, l, fr, by omega, by simpa using h2, h3⟩
      · next hn =>
        cases c with
        | plain c => simp [OCell.take, look] at h
        | own e r l fr =>
          simp only [OCell.take, look] at h
          split at h
          · next hb =>
            cases h
            exact ⟨0, e, r, l, fr, by have := Nat.eq_of_beq_eq_true hb; omega, rfl, rfl⟩
          · cases h
    · rintro ⟨i, e, r, l, fr, h1, h2, rfl⟩
      cases i with
      | succ i =>
        have := (takeCells_look cs (k + 1) p (.arr e r l fr)).2 ⟨i, e, r, l, fr, by omega, by simpa using h2, rfl⟩
        rw [this]
      | zero =>
        simp at h2
        subst h2
        have hn : look (takeCells (k + 1) cs).2 p = none := by
          cases hl : look (takeCells (k + 1) cs).2 p with
          | none => rfl
          | some y =>
            obtain ⟨i, _, _, _, _, g1, _⟩ := (takeCells_look cs (k + 1) p y).1 hl
            omega
        rw [hn]
        have hp : p = k := by omega
        subst hp
        simp [OCell.take, look]
def flatO (rs : List (Bool × List OCell)) : List OCell := rs.flatMap (·.2)
theorem takeRet_snd (k : Nat) (x : Bool × List OCell) : (takeRet k x).2 = (takeCells k x.2).2 := by
  unfold takeRet
  split
  · next e1 e2 => rw [e2]
  · next e1 e2 => rw [e2]
  · next e1 e2 => rw [e2]
theorem takeRets_look : ∀ (rs : List (Bool × List OCell)) (k p : Nat) (x : AObj), look (takeRets k rs).2 p = some x ↔ ∃ i e r l fr, p = k + i ∧ (flatO rs)[i]? = some (.own e r l fr) ∧ x = .arr e r l fr
  | [], k, p, x => by simp [takeRets, look, flatO]
  | y :: rs, k, p, x => by
    rw [takeRets, look_append, takeRet_snd]
    have hflat : flatO (y :: rs) = y.2 ++ flatO rs := rfl
    constructor
    · intro h
      split at h
      · next z hz =>
        cases h
        obtain ⟨i, e, r, l, fr, h1, h2, h3⟩ := (takeRets_look rs (k + y.2.length) p x).1 hz
        refine ⟨y.2.length + i, e, r, l, fr, by omega, ?_, h3⟩
        rw [hflat, List.getElem?_append_right (by omega)]
        simpa using h2
      · obtain ⟨i, e, r, l, fr, h1, h2, h3⟩ := (takeCells_look y.2 k p x).1 h
        refine ⟨i, e, r, l, fr, h1, ?_, h3⟩
        rw [hflat, List.getElem?_append_left (List.getElem?_eq_some_iff.1 h2).1]
        exact h2
    · rintro ⟨i, e, r, l, fr, h1, h2, rfl⟩
      rw [hflat] at h2
      rcases Nat.lt_or_ge i y.2.length with hlt | hge
      · rw [List.getElem?_append_left hlt] at h2
        have hn : look (takeRets (k + y.2.length) rs).2 p = none := by
          cases hl : look (takeRets (k + y.2.length) rs).2 p with
          | none => rfl
          | some z =>
            obtain ⟨j, _, _, _, _, g1, _⟩ := (takeRets_look rs (k + y.2.length) p z).1 hl
            omega
        rw [hn]
        exact (takeCells_look y.2 k p _).2 ⟨i, e, r, l, fr, h1, h2, rfl⟩
      · rw [List.getElem?_append_right hge] at h2
        have := (takeRets_look rs (k + y.2.length) p (.arr e r l fr)).2 ⟨i - y.2.length, e, r, l, fr, by omega, h2, rfl⟩
        rw [this]
end Go.Fw
/- The end of a walk whose function hands own arrays back or changes what it was handed. -/
namespace Go.Fw
open Go

set_option linter.unusedVariables false
variable {P : Program} {w0 : World} {M : Nat → Prop} {T : Ext} {γ γ' : Nat → Value} {st : St} {a : Act} {w w' : World} {Θ : TEnv} {Γ : CEnv}

/-- What a cell of a result stands for at the end of the walk; n: the array that it hands back. -/
def RF (Y : V) (c : OCell) (v : Value) (n : Option Nat) : Prop :=
  match c with
  | .plain x => RepCell Y x v ∧ x.refs = []
  | .own e r l fr => 0 < r.len ∧ ((∃ o g, n = some o ∧ Y.objs o = some (.arr e r l g) ∧ boolLe fr g = true ∧ v = Y.γ o ∧ v.oneCell' = true) ∨ (l = [] ∧ v = .slice none 0 0))
def RFs (Y : V) : List OCell → List Value → List (Option Nat) → Prop
  | [], [], [] => True
  | c :: cs, v :: vs, n :: ns => RF Y c v n ∧ RFs Y cs vs ns
  | _, _, _ => False
theorem RFs.append {Y : V} : ∀ (cs : List OCell) (vs : List Value) (ns : List (Option Nat)) (ds : List OCell) (us : List Value) (ms : List (Option Nat)), RFs Y cs vs ns → RFs Y ds us ms → RFs Y (cs ++ ds) (vs ++ us) (ns ++ ms)
  | [], [], [], _, _, _, _, h => h
  | _ :: cs, _ :: vs, _ :: ns, ds, us, ms, ⟨h1, h2⟩, h => ⟨h1, RFs.append cs vs ns ds us ms h2 h⟩
theorem RFs.length {Y : V} : ∀ (cs : List OCell) (vs : List Value) (ns : List (Option Nat)), RFs Y cs vs ns → cs.length = vs.length
  | [], [], [], _ => rfl
  | _ :: cs, _ :: vs, _ :: ns, ⟨_, h2⟩ => by simp [RFs.length cs vs ns h2]
theorem RFs.get {Y : V} : ∀ (cs : List OCell) (vs : List Value) (ns : List (Option Nat)) (i : Nat) (c : OCell), RFs Y cs vs ns → cs[i]? = some c → ∃ v n, vs[i]? = some v ∧ ns[i]? = some n ∧ RF Y c v n
  | [], [], [], i, c, _, h => by simp at h
  | x :: cs, v :: vs, n :: ns, 0, c, ⟨h1, _⟩, h => by simp at h; subst h; exact ⟨v, n, rfl, rfl, h1⟩
  | x :: cs, v :: vs, n :: ns, i + 1, c, ⟨_, h2⟩, h => by
    obtain ⟨u, m, g1, g2, g3⟩ := RFs.get cs vs ns i c h2 (by simpa using h)
    exact ⟨u, m, by simpa using g1, by simpa using g2, g3⟩

theorem CSh.cell_refs (c : CSh) (x : Cell) (d : c.den) (h : c.read x = some d) (hx : x.refs = []) : (c.cell d).refs = [] := by
  cases c <;> cases x <;> first | rfl | (simp [CSh.read] at h; done) | (cases hx)
theorem RC.read_RF {Y : V} (hst : Y.objs = st.objs) (hpos : ∀ o e r l g, st.objs o = some (.arr e r l g) → 0 < r.len) : ∀ (c : RC) (x : Cell) (d : c.den) (v : Value), c.read st x = some d → RepCell Y x v → RF Y (c.ocell d) v (c.name x) := by
  intro c x d v hr hv
  cases c with
  | c s =>
    rw [RC.read] at hr
    split at hr
    · next hx => exact ⟨CSh.weak s x d v hr hv, CSh.cell_refs s x d hr hx⟩
    · cases hr
  | own e r fr =>
    cases x with
    | ref o =>
      simp only [RC.read] at hr
      split at hr
      · next f s l g ho =>
        split at hr
        · next hb =>
          split at hr
          · next hs =>
            cases hr
            rw [Bool.and_eq_true] at hb
            have he := Nat.eq_of_beq_eq_true hb.1
            subst he
            have hsr := CTs.eq_of_beq s r hs
            subst hsr
            exact ⟨hpos _ _ _ _ _ ho, .inl ⟨o, g, rfl, by rw [hst]; exact ho, hb.2, hv.2.1, hv.2.2⟩⟩
          · cases hr
        · cases hr
      · cases hr
    | nil =>
      simp only [RC.read] at hr
      split at hr
      · next hb =>
        cases hr
        exact ⟨Nat.lt_of_lt_of_le Nat.zero_lt_one (by simpa [Nat.ble_eq] using hb), .inr ⟨rfl, hv⟩⟩
      · cases hr
    | _ => simp [RC.read] at hr
theorem rcRead_RFs {Y : V} (hst : Y.objs = st.objs) (hpos : ∀ o e r l g, st.objs o = some (.arr e r l g) → 0 < r.len) : ∀ (l : List RC) (xs : List Cell) (d : rcDen l) (vs : List Value), rcRead st l xs = some d → RepCells Y xs vs → RFs Y (rcCells l d) vs (rcNames l xs)
  | [], [], _, [], _, _ => trivial
  | c :: r, x :: xs, d, v :: vs, h, ⟨h1, h2⟩ => by
    rw [rcRead] at h
    split at h
    · next a b g1 g2 =>
      cases h
      exact ⟨RC.read_RF hst hpos c x a v g1 h1, rcRead_RFs hst hpos r xs b vs g2 h2⟩
    · cases h
  | [], _ :: _, _, _, h, _ => by simp [rcRead] at h
  | _ :: _, [], _, _, h, _ => by simp [rcRead] at h
theorem RSh.read_RFs {Y : V} (hst : Y.objs = st.objs) (hpos : ∀ o e r l g, st.objs o = some (.arr e r l g) → 0 < r.len) : ∀ (s : RSh) (x : SV) (d : s.den) (v : Value), s.read st x = some d → RepSV Y x v → RFs Y (s.out d).2 v.cells.toList (s.names x)
  | .one c, .one x, d, v, h, hv => by
    rw [cells_of_one v (RepCell.one x v hv)]
    exact ⟨RC.read_RF hst hpos c x d v h hv, trivial⟩
  | .agg l, .agg xs, d, v, h, ⟨vs, hv, hc⟩ => by
    rw [hv]
    exact rcRead_RFs hst hpos l xs d _ h hc
  | .one _, .agg _, _, _, h, _ | .agg _, .one _, _, _, h, _ => by simp [RSh.read] at h
theorem rsRead_RFs {Y : V} (hst : Y.objs = st.objs) (hpos : ∀ o e r l g, st.objs o = some (.arr e r l g) → 0 < r.len) : ∀ (l : List RSh) (xs : List SV) (d : rsDen l) (vs : List Value), rsRead st l xs = some d → RepSVs Y xs vs →
    RFs Y (flatO (rsOuts l d)) (vs.flatMap fun v => v.cells.toList) (rsNames l xs)
  | [], [], _, [], _, _ => trivial
  | s :: r, x :: xs, d, v :: vs, h, ⟨h1, h2⟩ => by
    rw [rsRead] at h
    split at h
    · next a b g1 g2 =>
      cases h
      exact RFs.append _ _ _ _ _ _ (RSh.read_RFs hst hpos s x a v g1 h1) (rsRead_RFs hst hpos r xs b vs g2 h2)
    · cases h
  | [], _ :: _, _, _, h, _ => by simp [rsRead] at h
  | _ :: _, [], _, _, h, _ => by simp [rsRead] at h

/-- What the caller gets. -/
def Go1 (Z : V) (k : Nat) (c : OCell) (v : Value) : Prop := RepCell Z (c.take k).1 v
def GoS (Z : V) : Nat → List OCell → List Value → Prop
  | _, [], [] => True
  | k, c :: cs, v :: vs => Go1 Z k c v ∧ GoS Z (k + 1) cs vs
  | _, _, _ => False
theorem GoS.of {Z : V} : ∀ (cs : List OCell) (vs : List Value) (k : Nat), cs.length = vs.length → (∀ i c v, cs[i]? = some c → vs[i]? = some v → Go1 Z (k + i) c v) → GoS Z k cs vs
  | [], [], _, _, _ => trivial
  | c :: cs, v :: vs, k, hl, h => ⟨h 0 c v rfl rfl, GoS.of cs vs (k + 1) (by simpa using hl) fun i c' v' h1 h2 => by
      have := h (i + 1) c' v' (by simpa using h1) (by simpa using h2)
      rwa [show k + (i + 1) = k + 1 + i by omega] at this⟩
theorem GoS.split {Z : V} : ∀ (cs : List OCell) (vs : List Value) (ds : List OCell) (us : List Value) (k : Nat), cs.length = vs.length → GoS Z k (cs ++ ds) (vs ++ us) → GoS Z k cs vs ∧ GoS Z (k + cs.length) ds us
  | [], [], _, _, _, _, h => ⟨trivial, h⟩
  | c :: cs, v :: vs, ds, us, k, hl, ⟨h1, h2⟩ => by
    obtain ⟨g1, g2⟩ := GoS.split cs vs ds us (k + 1) (by simpa using hl) h2
    exact ⟨⟨h1, g1⟩, by rw [show k + (c :: cs).length = k + 1 + cs.length by simp; omega]; exact g2⟩
theorem GoS.cells {Z : V} : ∀ (cs : List OCell) (vs : List Value) (k : Nat), GoS Z k cs vs → RepCells Z (takeCells k cs).1 vs
  | [], [], _, _ => trivial
  | c :: cs, v :: vs, k, ⟨h1, h2⟩ => ⟨h1, GoS.cells cs vs (k + 1) h2⟩
theorem RSh.go {Y Z : V} : ∀ (s : RSh) (x : SV) (d : s.den) (v : Value) (k : Nat), s.read st x = some d → RepSV Y x v → GoS Z k (s.out d).2 v.cells.toList → RepSV Z (takeRet k (s.out d)).1 v
  | .one c, .one x, d, v, k, h, hv, hg => by
    rw [cells_of_one v (RepCell.one x v hv)] at hg
    exact hg.1
  | .agg l, .agg xs, d, v, k, h, ⟨vs, hv, hc⟩, hg => by
    rw [hv] at hg ⊢
    exact ⟨vs, rfl, GoS.cells _ _ _ hg⟩
  | .one _, .agg _, _, _, _, h, _, _ | .agg _, .one _, _, _, _, h, _, _ => by simp [RSh.read] at h
theorem rsRead_go {Y Z : V} (hst : Y.objs = st.objs) (hpos : ∀ o e r l g, st.objs o = some (.arr e r l g) → 0 < r.len) : ∀ (l : List RSh) (xs : List SV) (d : rsDen l) (vs : List Value) (k : Nat), rsRead st l xs = some d → RepSVs Y xs vs →
    GoS Z k (flatO (rsOuts l d)) (vs.flatMap fun v => v.cells.toList) → RepSVs Z (takeRets k (rsOuts l d)).1 vs
  | [], [], _, [], _, _, _, _ => trivial
  | s :: r, x :: xs, d, v :: vs, k, h, ⟨h1, h2⟩, hg => by
    rw [rsRead] at h
    split at h
    · next a b g1 g2 =>
      cases h
      have hl := RFs.length _ _ _ (RSh.read_RFs hst hpos s x a v g1 h1)
      obtain ⟨k1, k2⟩ := GoS.split _ _ _ _ k hl hg
      exact ⟨RSh.go s x a v k g1 h1 k1, rsRead_go hst hpos r xs b vs _ g2 h2 k2⟩
    · cases h
  | [], _ :: _, _, _, _, h, _, _ => by simp [rsRead] at h
  | _ :: _, [], _, _, _, h, _, _ => by simp [rsRead] at h
theorem csRead_refs : ∀ (l : List CSh) (xs : List Cell) (d : csDen l), csRead l xs = some d → xs.flatMap Cell.refs = [] → (csCells l d).flatMap Cell.refs = []
  | [], [], _, _, _ => rfl
  | c :: r, x :: xs, d, h, hx => by
    rw [csRead] at h
    split at h
    · next a b g1 g2 =>
      cases h
      rw [List.flatMap_cons, List.append_eq_nil_iff] at hx
      show (c.cell a :: csCells r b).flatMap Cell.refs = []
      rw [List.flatMap_cons, CSh.cell_refs c x a g1 hx.1, csRead_refs r xs b g2 hx.2, List.append_nil]
    · cases h
  | [], _ :: _, _, h, _ => by simp [csRead] at h
  | _ :: _, [], _, h, _ => by simp [csRead] at h
theorem bkRead_get : ∀ (sh : List XSh) (i : Nat) (b : bkDen sh), bkRead st i sh = some b → ∀ (j : Nat) (e : Eff), (bkEffs sh b)[j]? = some e →
    e = .lose ∨ ∃ l cs cs0, sh[j]? = some (.ptr l) ∧ e = .var cs ∧ st.objs ((i + j) * 64 + 48) = some (.var cs0) ∧ cs0.flatMap Cell.refs = [] ∧ cs.flatMap Cell.refs = [] ∧ ∀ (X : V) vs, RepCells X cs0 vs → RepCells X cs vs
  | [], _, _, _, j, e, he => by simp [bkEffs] at he
  | .ptr l :: r, i, b, h, j, e, he => by
    rw [bkRead] at h
    split at h
    · next cs b' hx hb =>
      split at h
      · next a hr ha =>
        cases h
        cases j with
        | zero =>
          simp [bkEffs] at he
          subst he
          exact .inr ⟨l, _, cs, rfl, rfl, by simpa using hx, hr, csRead_refs _ _ _ ha hr, fun X vs hc => csWeak _ _ _ _ ha hc⟩
        | succ j =>
          rcases bkRead_get r (i + 1) b' hb j e (by simpa [bkEffs] using he) with h | ⟨l, cs', cs0, h1, h2, h3, h4⟩
          · exact .inl h
          · exact .inr ⟨l, cs', cs0, by simpa using h1, h2, by rw [show i + (j + 1) = i + 1 + j by omega]; exact h3, h4⟩
      · cases h
    · cases h
  | .p _ :: r, i, b, h, j, e, he | .own _ _ :: r, i, b, h, j, e, he => by
    rw [bkRead] at h
    cases j with
    | zero => simp [bkEffs] at he; exact .inl he.symm
    | succ j =>
      rcases bkRead_get r (i + 1) b h j e (by simpa [bkEffs] using he) with h | ⟨l, cs', cs0, h1, h2, h3, h4⟩
      · exact .inl h
      · exact .inr ⟨l, cs', cs0, by simpa using h1, h2, by rw [show i + (j + 1) = i + 1 + j by omega]; exact h3, h4⟩
theorem xsRead_ptr : ∀ {sh : List XSh} {xs : List Arg} {d : xsDen sh}, xsRead sh xs = some d → ∀ (j : Nat) (l : List CSh), sh[j]? = some (.ptr l) → ∃ cs, xs[j]? = some (.ptr cs)
  | [], [], _, _, j, l, h => by simp at h
  | s :: r, x :: xs, d, h, j, l, hj => by
    rw [xsRead] at h
    split at h
    · next a b h1 h2 =>
      cases j with
      | zero =>
        simp at hj
        subst hj
        cases x with
        | ptr cs => exact ⟨cs, rfl⟩
        | _ => simp [XSh.read] at h1
      | succ j =>
        obtain ⟨cs, hc⟩ := xsRead_ptr h2 j l (by simpa using hj)
        exact ⟨cs, by simpa using hc⟩
    · cases h
  | [], _ :: _, _, h, _, _, _ => by simp [xsRead] at h
  | _ :: _, [], _, h, _, _, _ => by simp [xsRead] at h

/-- The variables that are handed back: how they lie in the state at the end. -/
theorem backs_get {sh : List XSh} {b : bkDen sh} (hb : bkRead st 0 sh = some b) {q : Nat} {y : AObj} (h : objF (bkEffs sh b) q = some y) :
    q % 64 = 48 ∧ ∃ l cs cs0, sh[q / 64]? = some (.ptr l) ∧ y = .var cs ∧ st.objs q = some (.var cs0) ∧ cs0.flatMap Cell.refs = [] ∧ cs.flatMap Cell.refs = [] ∧ ∀ (X : V) vs, RepCells X cs0 vs → RepCells X cs vs := by
  unfold objF at h
  split at h
  · next e r l he =>
    rcases bkRead_get sh 0 b hb _ _ he with h' | ⟨_, _, _, _, h', _⟩ <;> cases h'
  · next cs he =>
    split at h
    · next hm =>
      have hm' := Nat.eq_of_beq_eq_true hm
      cases h
      rcases bkRead_get sh 0 b hb _ _ he with h' | ⟨l, cs', cs0, h1, h2, h3, h4⟩
      · cases h'
      · cases h2
        refine ⟨hm', l, _, cs0, h1, rfl, ?_, h4⟩
        rw [show q = (0 + q / 64) * 64 + 48 by omega]
        exact h3
    · cases h
  · cases h

def XSh.inR : (s : XSh) → s.den → Prop
  | .p s, x => s.inR x
  | .own _ r, (l : List r.den) => ∀ x ∈ l, r.inR x
  | .ptr l, x => csInR l x
def xsInR : (l : List XSh) → xsDen l → Prop
  | [], _ => True
  | s :: r, x => s.inR x.1 ∧ xsInR r x.2
theorem PSh.rep_inR {X : V} (s : PSh) (x : Arg) (d : s.den) (v : Value) (h : s.read x = some d) (hr : RepArg X x v) : s.inR d :=
  (psRep_inR (X := X) [s] (d, ()) [v] ⟨PSh.weak s x d v h hr, trivial⟩).1
theorem xsRep_inR {X : V} {args : List Arg} (ho : ∀ o x, objE args o = some x → RepObj X o x) : ∀ (sh : List XSh) (xs : List Arg) (d : xsDen sh) (vs : List Value) (i : Nat), (∀ j a, xs[j]? = some a → args[i + j]? = some a) →
    xsRead sh xs = some d → RepXs X i xs vs → xsInR sh d
  | [], [], _, _, _, _, _, _ => trivial
  | s :: r, x :: xs, d, v :: vs, i, hj, h, ⟨hv, hvs⟩ => by
    rw [xsRead] at h
    split at h
    · next a b h1 h2 =>
      cases h
      refine ⟨?_, xsRep_inR ho r xs b vs (i + 1) (fun j c hc => by have := hj (j + 1) c (by simpa using hc); rwa [show i + (j + 1) = i + 1 + j by omega] at this) h2 hvs⟩
      have hx : args[i]? = some x := hj 0 x rfl
      cases s with
      | p s =>
        have h1' : s.read x = some a := by simpa [XSh.read] using h1
        refine PSh.rep_inR (X := X) s x a v h1' ?_
        cases x with
        | own _ _ _ | ptr _ => cases s <;> simp [PSh.read] at h1'
        | _ => exact hv
      | own e r' =>
        cases x with
        | own f s' l =>
          have h1' : (match Nat.beq e f with | true => if h : s'.beq r' = true then some (castRow h l) else none | false => none) = some a := h1
          split at h1'
          · split at h1'
            · next hb hs =>
              cases h1'
              have hsr := CTs.eq_of_beq s' r' hs
              subst hsr
              have hobj : objE args (i * 64 + 49) = some (.arr f s' l false) := by
                unfold objE
                rw [show (i * 64 + 49) / 64 = i by omega, hx]
                dsimp only
                rw [show (i * 64 + 49) % 64 = 49 by omega]
              obtain ⟨us, _, _, _, hrow⟩ := ho _ _ hobj
              intro y hy
              have hy' : y ∈ l := hy
              obtain ⟨j, hj1, hj2⟩ := List.mem_iff_getElem.1 hy'
              exact RepR.inR s' _ _ (hrow j y (by rw [List.getElem?_eq_getElem hj1, hj2]))
            · cases h1'
          · cases h1'
        | _ => simp [XSh.read] at h1
      | ptr l =>
        cases x with
        | ptr cs =>
          have h1' : csRead l cs = some a := h1
          have hobj : objE args (i * 64 + 48) = some (.var cs) := by
            unfold objE
            rw [show (i * 64 + 48) / 64 = i by omega, hx]
            dsimp only
            rw [show (i * 64 + 48) % 64 = 48 by omega]
          obtain ⟨_, arr, _, _, _, hc⟩ := ho _ _ hobj
          exact csRep_inR l a _ (csWeak _ _ _ _ h1' hc)
        | _ => simp [XSh.read] at h1
    · cases h
  | [], _ :: _, _, _, _, _, h, _ => by simp [xsRead] at h
  | _ :: _, [], _, _, _, _, h, _ => by simp [xsRead] at h
theorem xsVals_length : ∀ (l : List XSh) (d : xsDen l), (xsVals l d).length = l.length
  | [], _ => rfl
  | _ :: r, d => by simp [xsVals, xsVals_length r d.2]

theorem Out.take_snd (rs : List (Bool × List OCell)) (k : Nat) : ((⟨rs, none⟩ : Out).take k).2 = (takeRets k rs).2 := by
  unfold Out.take
  dsimp only
  split
  · next h => rw [h]
  · next h => rw [h]
theorem Out.take_fst (rs : List (Bool × List OCell)) (k : Nat) : ((⟨rs, none⟩ : Out).take k).1 = (match (takeRets k rs).1 with | [v] => AV.sv v | vs => .tup vs) := by
  unfold Out.take
  dsimp only
  split
  · next h => rw [h]
  · next vs δ hne h =>
    rw [h]
    dsimp only
    rcases vs with _ | ⟨v, _ | ⟨v2, r⟩⟩
    · rfl
    · exact (hne v rfl).elim
    · rfl

/-- From the end of the walk to what the caller is told. -/
theorem xEnd {args : List Arg} {S : Nat → Prop} {sh : List XSh} {rsh : List RSh} {x : xsDen sh} (hx : xsRead sh args = some x) {d : rsDen rsh} {b : bkDen sh} {k : Nat} {vs : List SV} {us : List Value}
    (hR : Rel w (blocksOf (objE args) γ) (extE args γ S) γ' st a w') (hrs : RepSVs (viewOf w (extE args γ S) γ' st w') vs us) (hnd : nodupO (rsNames rsh vs) = true) (hrd : rsRead st rsh vs = some d) (hbk : bkRead st 0 sh = some b)
    (hap : ∀ o x, look ((⟨rsOuts rsh d, none⟩ : Out).take k).2 o = some x → objF (bkEffs sh b) o = none) :
    ∃ γ2, RepAV ⟨w', w.heap.size, leftBy S args (bkEffs sh b) γ, γ2, look ((⟨rsOuts rsh d, none⟩ : Out).take k).2⟩ ((⟨rsOuts rsh d, none⟩ : Out).take k).1 (if h : us.toArray.size = 1 then us.toArray[0] else .tuple us.toArray) ∧
      (∀ o x, look ((⟨rsOuts rsh d, none⟩ : Out).take k).2 o = some x → RepObj ⟨w', w.heap.size, leftBy S args (bkEffs sh b) γ, γ2, look ((⟨rsOuts rsh d, none⟩ : Out).take k).2⟩ o x ∧
        ∀ b', blk (γ2 o) = some b' → b' < w'.heap.size ∧ (w.heap.size ≤ b' ∨ blocksOf (objE args) γ b') ∧ ∀ q y, objF (bkEffs sh b) q = some y → blk (γ q) ≠ some b') ∧
      (∀ o x q y b', look ((⟨rsOuts rsh d, none⟩ : Out).take k).2 o = some x → look ((⟨rsOuts rsh d, none⟩ : Out).take k).2 q = some y → o ≠ q → blk (γ2 o) = some b' → blk (γ2 q) ≠ some b') ∧
      (∀ o x, objF (bkEffs sh b) o = some x → γ2 o = γ o ∧ RepObj ⟨w', w.heap.size, leftBy S args (bkEffs sh b) γ, γ2, look ((⟨rsOuts rsh d, none⟩ : Out).take k).2⟩ o x) := by
  rw [Out.take_snd] at hap ⊢
  rw [Out.take_fst]
  skip
  let Y : V := viewOf w (extE args γ S) γ' st w'
  let fv : List Value := us.flatMap fun v => v.cells.toList
  let effs := bkEffs sh b
  let γ2 : Nat → Value := fun p => match objF effs p with | some _ => γ p | none => fv.getD (p - k) undef
  let Z : V := ⟨w', w.heap.size, leftBy S args effs γ, γ2, look (takeRets k (rsOuts rsh d)).2⟩
  have hpos : ∀ o e r l g, st.objs o = some (.arr e r l g) → 0 < r.len := fun o e r l g ho => by
    obtain ⟨_, _, h, _⟩ := hR.objs o _ ho
    exact h
  have hF : RFs Y (flatO (rsOuts rsh d)) fv (rsNames rsh vs) := rsRead_RFs (st := st) rfl hpos rsh vs d us hrd hrs
  -- what is handed back lies where it lay
  have hbq : ∀ q y, objF effs q = some y → γ' q = γ q ∧ ∃ cs cs0, y = .var cs ∧ st.objs q = some (.var cs0) ∧ cs0.flatMap Cell.refs = [] ∧ cs.flatMap Cell.refs = [] ∧ ∀ (X : V) vs, RepCells X cs0 vs → RepCells X cs vs := by
    intro q y hq
    obtain ⟨hm, l, cs, cs0, h1, h2, h3, h4, h5, h6⟩ := backs_get hbk hq
    refine ⟨?_, cs, cs0, h2, h3, h4, h5, h6⟩
    obtain ⟨ci, hci⟩ := xsRead_ptr hx _ l h1
    have ho : objE args q = some (.var ci) := by
      unfold objE
      rw [hci]
      dsimp only
      rw [hm]
    have hN : (extE args γ S).N q = some (γ q) := by
      show pinE args γ q = _
      unfold pinE
      rw [ho]
    exact hR.pin q _ _ hN h3
  -- where a new array lies
  have hG : ∀ p X, look (takeRets k (rsOuts rsh d)).2 p = some X → ∃ i e r l fr, p = k + i ∧ (flatO (rsOuts rsh d))[i]? = some (.own e r l fr) ∧ X = .arr e r l fr ∧ 0 < r.len ∧
      ((∃ o g, (rsNames rsh vs)[i]? = some (some o) ∧ st.objs o = some (.arr e r l g) ∧ boolLe fr g = true ∧ γ2 p = γ' o ∧ (γ2 p).oneCell' = true) ∨ (l = [] ∧ γ2 p = .slice none 0 0)) := by
    intro p X hp
    obtain ⟨i, e, r, l, fr, h1, h2, h3⟩ := (takeRets_look _ k p X).1 hp
    obtain ⟨v, n, g1, g2, hr, hv⟩ := RFs.get _ _ _ i _ hF h2
    have hγ : γ2 p = v := by
      show (match objF effs p with | some _ => γ p | none => fv.getD (p - k) undef) = v
      rw [hap p X hp]
      dsimp only
      rw [h1, show k + i - k = i by omega, List.getD_eq_getElem?_getD, g1]
      rfl
    refine ⟨i, e, r, l, fr, h1, h2, h3, hr, ?_⟩
    rcases hv with ⟨o, g, hn, ho, hb, hv, h1c⟩ | ⟨hl, hv⟩
    · exact .inl ⟨o, g, by rw [g2, hn], ho, hb, hγ.trans hv, by rw [hγ]; exact h1c⟩
    · exact .inr ⟨hl, hγ.trans hv⟩
  have hfoot : ∀ b', Y.foot b' → Z.foot b' := by
    intro b' hb'
    refine ⟨hb'.1, fun hlt => ⟨hb'.2.1 hlt, fun q y hq => ?_⟩, fun p X hp => ?_⟩
    · obtain ⟨hγ, cs, cs0, _, h3, _⟩ := hbq q y hq
      rw [← hγ]
      exact hb'.2.2 q _ h3
    · obtain ⟨i, e, r, l, fr, _, _, _, _, hc⟩ := hG p X hp
      show blk (γ2 p) ≠ some b'
      rcases hc with ⟨o, g, _, ho, _, hγ, _⟩ | ⟨_, hγ⟩
      · rw [hγ]; exact hb'.2.2 o _ ho
      · rw [hγ]; intro h; cases h
  have hfootF : ∀ fr b', Y.footF fr b' → Z.footF fr b' := fun fr b' h => ⟨hfoot b' h.1, h.2⟩
  have hgo : GoS Z k (flatO (rsOuts rsh d)) fv := by
    refine GoS.of _ _ _ (RFs.length _ _ _ hF) fun i c v hc hv => ?_
    obtain ⟨v', n, g1, g2, g3⟩ := RFs.get _ _ _ i c hF hc
    rw [hv] at g1
    cases g1
    cases c with
    | plain x =>
      exact (noref_le (Y := Y) (Z := Z) rfl hfootF [x] [v] (by simpa using g3.2) ⟨g3.1, trivial⟩).1
    | own e r l fr =>
      have hp : look (takeRets k (rsOuts rsh d)).2 (k + i) = some (.arr e r l fr) := (takeRets_look _ k _ _).2 ⟨i, e, r, l, fr, rfl, hc, rfl⟩
      have hγ : γ2 (k + i) = v := by
        show (match objF effs (k + i) with | some _ => γ (k + i) | none => fv.getD (k + i - k) undef) = v
        rw [hap _ _ hp]
        dsimp only
        rw [show k + i - k = i by omega, List.getD_eq_getElem?_getD, hv]
        rfl
      refine ⟨⟨e, r, l, fr, hp⟩, hγ.symm, ?_⟩
      rcases g3.2 with ⟨_, _, _, _, _, _, h⟩ | ⟨_, h⟩
      · exact h
      · rw [h]; rfl
  have hsv : RepSVs Z (takeRets k (rsOuts rsh d)).1 us := rsRead_go (st := st) (Y := Y) rfl hpos rsh vs d us k hrd hrs hgo
  refine ⟨γ2, ?_, fun p X hp => ?_, fun p X q X' b' hp hq hne hb1 hb2 => ?_, fun q y hq => ?_⟩
  · have hl := RepSVs.length _ _ hsv
    match hm : (takeRets k (rsOuts rsh d)).1, us, hsv, hl with
    | [v], [u], hk, _ => exact hk.1
    | [], [], hk, _ => exact ⟨_, by simp, hk⟩
    | v :: v2 :: r, u :: u2 :: us, hk, hl => exact ⟨_, by simp, hk⟩
    | [], _ :: _, hk, h4 | _ :: _, [], hk, h4 | [_], _ :: _ :: _, hk, h4 | _ :: _ :: _, [_], hk, h4 => simp at h4
  · obtain ⟨i, e, r, l, fr, _, _, rfl, hr, hc⟩ := hG p X hp
    rcases hc with ⟨o, g, _, ho, hb, hγ, _⟩ | ⟨rfl, hγ⟩
    · have hO : RepObj Y o (.arr e r l g) := hR.objs o _ ho
      have hold : ∀ b', blk (γ' o) = some b' → fr = true → w.heap.size ≤ b' := by
        intro b' hb' hfr
        subst hfr
        have hg : g = true := hb
        subst hg
        obtain ⟨_, _, _, hn, _⟩ := hO
        exact hn b' hb' rfl
      refine ⟨RepObj.moveArr (Y := Y) (Z := Z) hO hγ rfl (fun b' hb' => ⟨hfoot b' hb'.1, fun hfr => hb'.2 ?_⟩) hold, fun b' hb' => ?_⟩
      · subst hfr; exact hb
      · rw [hγ] at hb'
        obtain ⟨h1, h2⟩ := hR.lt o _ b' ho hb'
        refine ⟨h1, h2, fun q y hq => ?_⟩
        obtain ⟨hγq, cs, cs0, _, h3, _⟩ := hbq q y hq
        rw [← hγq]
        refine hR.sep o _ q _ b' ho h3 ?_ hb'
        intro e; subst e; rw [ho] at h3; cases h3
    · refine ⟨⟨[], ⟨by simp, .inl ⟨hγ, rfl⟩⟩, hr, (fun b' hb' => by have h0 : blk (γ2 p) = some b' := hb'; rw [hγ] at h0; cases h0), fun i x hi => by simp at hi⟩, fun b' hb' => by rw [hγ] at hb'; cases hb'⟩
  · obtain ⟨i, e, r, l, fr, hi, _, _, _, hc⟩ := hG p X hp
    obtain ⟨j, e', r', l', fr', hj, _, _, _, hc'⟩ := hG q X' hq
    rcases hc with ⟨o, g, hn, ho, _, hγ, _⟩ | ⟨_, hγ⟩
    · rcases hc' with ⟨o', g', hn', ho', _, hγ', _⟩ | ⟨_, hγ'⟩
      · rw [hγ] at hb1
        rw [hγ'] at hb2
        have : o ≠ o' := by
          intro e
          subst e
          have := nodupO_spec hnd _ _ _ hn hn'
          omega
        exact hR.sep o _ o' _ b' ho ho' this hb1 hb2
      · rw [hγ'] at hb2; cases hb2
    · rw [hγ] at hb1; cases hb1
  · obtain ⟨hγ, cs, cs0, rfl, h3, h4, h5, h6⟩ := hbq q y hq
    have hγ2 : γ2 q = γ q := by
      show (match objF effs q with | some _ => γ q | none => fv.getD (q - k) undef) = γ q
      rw [hq]
    refine ⟨hγ2, ?_⟩
    obtain ⟨b', arr, t, k1, k2, k3⟩ := hR.objs q _ h3
    refine ⟨b', arr, t, ?_, k2, noref_le (Y := Y) (Z := Z) rfl hfootF _ _ h5 (h6 _ _ k3)⟩
    show γ2 q = _
    rw [hγ2, ← hγ]
    exact k1

theorem conX_ok {G : Glob} (hE : EnvB P G Θ Γ) (hm : P.follows .mixedOrders = true) {f : FuncId} {fn : Func} {c : Code} (hf : P.funcs[f]? = some fn) (hb : fn.body = some c) (H : Hints)
    {sh : List XSh} {rsh : List RSh} {F : xsDen sh → Prop × (rsDen rsh × bkDen sh → Prop)} (hn : Nat.ble sh.length fn.ntmps = true) (hne : ∀ x, (F x).1 → ∃ t, (F x).2 t)
    (hwalk : ∀ x, xsInR sh x → (F x).1 → awp Θ Γ H c (endsX Θ fn.results.toList sh rsh (F x).2) (entryX fn.ntmps (xsVals sh x))) : XConOK P G f (conX sh rsh F) := by
  intro args p ρ hcon hp
  unfold conX at hcon
  split at hcon
  case h_2 => cases hcon
  next x hx =>
  cases hcon
  refine ⟨hne x hp, fun k S γ vs w hG hrep hobj hsep hap => ?_⟩
  have hlen := (xsRead_get hx).1
  rw [xsVals_length] at hlen
  have hn' : args.length ≤ fn.ntmps := by rw [← hlen]; simpa [Nat.ble_eq] using hn
  have hin : xsInR sh x := xsRep_inR (fun o X ho => (hobj o X ho).1) sh args x vs.toList 0 (fun j a h => by rwa [Nat.zero_add]) hx hrep
  have hR0 := entryX_rel (S := S) fn.ntmps hn' hrep (fun o X ho => ⟨(hobj o X ho).1, fun b hb => ((hobj o X ho).2 b hb).1⟩) hsep
  have hR1 := hR0.covers (entryX_covers hx fn.ntmps)
  refine calls_of_wp hf hb (awp_sound ⟨hE, hG, fun b hb => ?_⟩ hm H c _ _ _ _ _ _ hR1 (hwalk x hin hp) ?_)
  · obtain ⟨o, X, ho, hb⟩ := hb
    exact ((hobj o X ho).2 b hb).2
  intro e s γ' a' w' he hR
  have hret : ∃ (us : List Value) (t : rsDen rsh × bkDen sh), (fn.results.mapM (resOne a'.tmps)).run P w' = .ok us.toArray w' ∧ (F x).2 t ∧ ∃ γ2,
      RepAV ⟨w', w.heap.size, leftBy S args (bkEffs sh t.2) γ, γ2, look ((⟨rsOuts rsh t.1, none⟩ : Out).take k).2⟩ ((⟨rsOuts rsh t.1, none⟩ : Out).take k).1 (if h : us.toArray.size = 1 then us.toArray[0] else .tuple us.toArray) ∧ 
    (∀ o x', look ((⟨rsOuts rsh t.1, none⟩ : Out).take k).2 o = some x' → RepObj ⟨w', w.heap.size, leftBy S args (bkEffs sh t.2) γ, γ2, look ((⟨rsOuts rsh t.1, none⟩ : Out).take k).2⟩ o x' ∧
      ∀ b, blk (γ2 o) = some b → b < w'.heap.size ∧ (w.heap.size ≤ b ∨ blocksOf (objE args) γ b) ∧ ∀ q y, objF (bkEffs sh t.2) q = some y → blk (γ q) ≠ some b) ∧
    (∀ o x' q y b, look ((⟨rsOuts rsh t.1, none⟩ : Out).take k).2 o = some x' → look ((⟨rsOuts rsh t.1, none⟩ : Out).take k).2 q = some y → o ≠ q → blk (γ2 o) = some b → blk (γ2 q) ≠ some b) ∧
    (∀ o x', objF (bkEffs sh t.2) o = some x' → γ2 o = γ o ∧ RepObj ⟨w', w.heap.size, leftBy S args (bkEffs sh t.2) γ, γ2, look ((⟨rsOuts rsh t.1, none⟩ : Out).take k).2⟩ o x') := by
    have he' : (e = .normal ∨ e = .ret) ∧ endsX Θ fn.results.toList sh rsh (F x).2 .ret s := by
      cases e with
      | normal => exact ⟨.inl rfl, he⟩
      | ret => exact ⟨.inr rfl, he⟩
      | _ => exact he.elim
    have he2 := he'.2
    simp only [endsX] at he2
    split at he2
    · next svs hsvs =>
      split at he2
      · next vs' hvs' =>
        split at he2
        · next d b hnd hd hb' =>
          have hRf := hR.freeze (letAll s (rsNames rsh svs))
          obtain ⟨us, hus, hrs⟩ := finAll_sound hE.types hRf _ _ hvs'
          refine ⟨us, (d, b), ?_, he2, xEnd hx hRf hrs hnd hd hb' (hap (d, b) he2)⟩
          rw [Array.mapM_eq_mapM_toList, Sem.run_map, hus]
          rfl
        · exact he2.elim
      · exact he2.elim
    · exact he2.elim
  obtain ⟨us, t, hus, ht, γ2, h1, h2, h3, h4⟩ := hret
  have hfin : bodyPost P fn (fun e w' => ∃ t, (F x).2 t ∧ XPost S args γ w k ⟨rsOuts rsh t.1, none⟩ (bkEffs sh t.2) e w') .ret a' w' := by
    refine ⟨hR.defers, if h : us.toArray.size = 1 then us.toArray[0] else .tuple us.toArray, ?_, t, ht, _, γ2, rfl, hR.os, hR.tape, hR.output, hR.grow, hR.kept, h1, h2, h3, h4⟩
    rw [results_eq, Sem.run_bind, hus]
    simp only [Result.andThen_ok, Sem.run_pure]
  cases e with
  | normal => exact hfin
  | ret => exact hfin
  | _ => exact he.elim
end Go.Fw
/- Functions that hand back a pointer to a new variable. -/
namespace Go.Fw
open Go

variable {P : Program} {w0 : World} {M : Nat → Prop} {T : Ext} {γ γ' : Nat → Value} {st : St} {a : Act} {w w' : World} {Θ : TEnv} {Γ : CEnv}

/-- What is to be shown of a walk's end: a pointer to a variable of the call's own. -/
def endsP (rv : List ResultVar) (l : List CSh) (K : csDen l → Prop) (e : Exit) (st : St) : Prop :=
  match e with
  | .normal | .ret => match rv with
    | [.tmp t] => match st.tmps t with
      | .vptr o off => match Nat.beq off 0, (st.freeze (isArr st)).objs o with
        | true, some (.var cs) => match cs.flatMap Cell.refs, csRead l cs with
          | [], some d => K d
          | _, _ => False
        | _, _ => False
      | _ => False
    | _ => False
  | _ => False
def loses (sh : List XSh) : List Eff := sh.map fun _ => .lose
/-- What is known of such a function. -/
def conP (sh : List XSh) (l : List CSh) (F : xsDen sh → Prop × (csDen l → Prop)) : XCon := fun args =>
  match xsRead sh args with
  | some x => some ((F x).1, ⟨csDen l, (F x).2, fun t => ⟨[], some (csCells l t)⟩, fun _ => loses sh⟩)
  | none => none
theorem objF_loses (sh : List XSh) (q : Nat) : objF (loses sh) q = none := by
  unfold objF loses
  rw [List.getElem?_map]
  cases sh[q / 64]? <;> rfl
theorem csCells_norefs : ∀ (l : List CSh) (cs : List Cell) (d : csDen l), csRead l cs = some d → cs.flatMap Cell.refs = [] → (csCells l d).flatMap Cell.refs = []
  | [], [], _, _, _ => rfl
  | c :: l, x :: xs, d, h, hn => by
    rw [csRead] at h
    rw [List.flatMap_cons, List.append_eq_nil_iff] at hn
    split at h
    · next p q hp hq =>
      cases h
      show ((c.cell p) :: csCells l q).flatMap Cell.refs = []
      rw [List.flatMap_cons, List.append_eq_nil_iff]
      refine ⟨?_, csCells_norefs l xs q hq hn.2⟩
      cases c with
      | ref o =>
        cases x <;> simp [CSh.read, Cell.refs] at hp hn
      | _ => rfl
    · cases h
  | [], _ :: _, _, h, _ => by simp [csRead] at h
  | _ :: _, [], _, h, _ => by simp [csRead] at h
theorem conP_ok {G : Glob} (hE : EnvB P G Θ Γ) (hm : P.follows .mixedOrders = true) {f : FuncId} {fn : Func} {c : Code} (hf : P.funcs[f]? = some fn) (hb : fn.body = some c) (H : Hints)
    {sh : List XSh} {l : List CSh} {F : xsDen sh → Prop × (csDen l → Prop)} (hn : Nat.ble sh.length fn.ntmps = true) (hne : ∀ x, (F x).1 → ∃ t, (F x).2 t)
    (hwalk : ∀ x, xsInR sh x → (F x).1 → awp Θ Γ H c (endsP fn.results.toList l (F x).2) (entryX fn.ntmps (xsVals sh x))) : XConOK P G f (conP sh l F) := by
  intro args p ρ hcon hp
  unfold conP at hcon
  split at hcon
  case h_2 => cases hcon
  next x hx =>
  cases hcon
  refine ⟨hne x hp, fun k S γ vs w hG hrep hobj hsep hap => ?_⟩
  have hlen := (xsRead_get hx).1
  rw [xsVals_length] at hlen
  have hn' : args.length ≤ fn.ntmps := by rw [← hlen]; simpa [Nat.ble_eq] using hn
  have hin : xsInR sh x := xsRep_inR (fun o X ho => (hobj o X ho).1) sh args x vs.toList 0 (fun j a h => by rwa [Nat.zero_add]) hx hrep
  have hR0 := entryX_rel (S := S) fn.ntmps hn' hrep (fun o X ho => ⟨(hobj o X ho).1, fun b hb => ((hobj o X ho).2 b hb).1⟩) hsep
  have hR1 := hR0.covers (entryX_covers hx fn.ntmps)
  refine calls_of_wp hf hb (awp_sound ⟨hE, hG, fun b hb => ?_⟩ hm H c _ _ _ _ _ _ hR1 (hwalk x hin hp) ?_)
  · obtain ⟨o, X, ho, hb⟩ := hb
    exact ((hobj o X ho).2 b hb).2
  intro e s γ' a' w' he hR
  have he' : endsP fn.results.toList l (F x).2 .ret s := by
    cases e with
    | normal => exact he
    | ret => exact he
    | _ => exact he.elim
  have hfin : bodyPost P fn (fun e w' => ∃ t, (F x).2 t ∧ XPost S args γ w k ⟨[], some (csCells l t)⟩ (loses sh) e w') .ret a' w' := by
    simp only [endsP] at he'
    split at he'
    case h_2 => exact he'.elim
    next t hrv =>
    split at he'
    case h_2 => exact he'.elim
    next o off htm =>
    split at he'
    case h_2 => exact he'.elim
    next cs hoff hcs =>
    split at he'
    case h_2 => exact he'.elim
    next d hnr hd =>
    have hoff := Nat.eq_of_beq_eq_true hoff
    subst hoff
    have hRf := hR.freeze (isArr s)
    have hv := hR.tmps t
    rw [htm] at hv
    obtain ⟨b, cs0, _, hγ, hval⟩ := hv
    obtain ⟨b', arr, ty, g1, g2, g3⟩ := hRf.objs o _ hcs
    have g1 : γ' o = .pointer (some ⟨b', 0, none⟩) := g1
    have hγ : γ' o = .pointer (some ⟨b, 0, none⟩) := hγ
    rw [hγ] at g1
    cases g1
    have hblk : blk (γ' o) = some b := by rw [hγ]; rfl
    have hlt := hRf.lt o _ b hcs hblk
    let γ2 : Nat → Value := fun _ => γ' o
    let Z : V := ⟨w', w.heap.size, leftBy S args (loses sh) γ, γ2, look (Out.take k ⟨[], some (csCells l d)⟩).2⟩
    have hlook : ∀ q y, look (Out.take k ⟨[], some (csCells l d)⟩).2 q = some y → q = k - 1 ∧ y = .var (csCells l d) := by
      intro q y hq
      have hmem := look_mem _ q y hq
      have : (q, y) = (k - 1, .var (csCells l d)) := by simpa [Out.take] using hmem
      exact ⟨congrArg Prod.fst this, congrArg Prod.snd this⟩
    have hfoot : ∀ fr b', (viewOf w (extE args γ S) γ' (s.freeze (isArr s)) w').footF fr b' → Z.footF fr b' := by
      intro fr b' hb'
      refine ⟨⟨hb'.1.1, fun hlt' => ⟨hb'.1.2.1 hlt', fun q y hq => by rw [objF_loses] at hq; cases hq⟩, fun q y hq => ?_⟩, hb'.2⟩
      exact hb'.1.2.2 o _ hcs
    have hcells : RepCells Z (csCells l d) arr.toList :=
      noref_le (Y := viewOf w (extE args γ S) γ' (s.freeze (isArr s)) w') (Z := Z) rfl hfoot _ _ (csCells_norefs l cs d hd hnr) (csWeak l cs d _ hd g3)
    have hself : look (Out.take k ⟨[], some (csCells l d)⟩).2 (k - 1) = some (.var (csCells l d)) := by simp [Out.take, look]
    refine ⟨hR.defers, a'.tmps.getD t undef, ?_, d, he', _, γ2, rfl, hR.os, hR.tape, hR.output, hR.grow, hR.kept, ?_, fun q y hq => ?_, fun q y q' y' b' hq hq' hne' => ?_, fun q y hq => by rw [objF_loses] at hq; cases hq⟩
    · have : fn.results = #[.tmp t] := by apply Array.ext'; simpa using hrv
      have hmap : (Array.mapM (resOne a'.tmps) #[ResultVar.tmp t]).run P w' = .ok #[a'.tmps.getD t undef] w' := by
        rw [Array.mapM_eq_mapM_toList, Sem.run_map]
        simp only [List.mapM_cons, List.mapM_nil, resOne]
        rfl
      rw [results_eq, this, Sem.run_bind, hmap]
      rfl
    · exact ⟨b, csCells l d, hself, hγ, hval⟩
    · obtain ⟨rfl, rfl⟩ := hlook q y hq
      refine ⟨⟨b, arr, ty, hγ, g2, hcells⟩, fun b' hb' => ?_⟩
      have hb' : blk (γ' o) = some b' := hb'
      rw [hblk] at hb'
      cases hb'
      exact ⟨hlt.1, hlt.2, fun q y hq => by rw [objF_loses] at hq; cases hq⟩
    · obtain ⟨rfl, _⟩ := hlook q y hq
      obtain ⟨rfl, _⟩ := hlook q' y' hq'
      exact (hne' rfl).elim
  cases e with
  | normal => exact hfin
  | ret => exact hfin
  | _ => exact he.elim
end Go.Fw
/- The facts on types and functions, by a check. -/
namespace Go.Fw
open Go

def CT.isZero : CT → Value → Bool
  | .int k, .int l n => decide (k = l) && decide (n = 0)
  | .bool, .bool b => !b
  | .str, .string s => s.data.toList.isEmpty
  | .sl _ _, .slice none 0 0 => true
  | _, _ => false
def CTs.isZeros : CTs → List Value → Bool
  | .nil, [] => true
  | .cons c r, v :: vs => c.isZero v && r.isZeros vs
  | _, _ => false
theorem CT.isZero_eq : ∀ (c : CT) (v : Value), c.isZero v = true → v = c.zeroVal := by
  intro c v h
  unfold CT.isZero at h
  split at h
  · simp at h; rw [h.1, h.2]; rfl
  · simp at h; subst h; rfl
  · next s =>
    obtain ⟨⟨l⟩⟩ := s
    simp at h
    subst h; rfl
  · rfl
  · cases h
theorem CTs.isZeros_eq : ∀ (r : CTs) (vs : List Value), r.isZeros vs = true → vs = r.zeroVals
  | .nil, [], _ => rfl
  | .cons c r, v :: vs, h => by
    rw [isZeros, Bool.and_eq_true] at h
    rw [CTs.zeroVals, CT.isZero_eq c v h.1, CTs.isZeros_eq r vs h.2]
  | .nil, _ :: _, h | .cons _ _, [], h => by simp [isZeros] at h

def descEq : TypeDesc → TypeDesc → Bool
  | .int k, .int l => decide (k = l)
  | .bool, .bool => true
  | .string, .string => true
  | .slice e, .slice f => Nat.beq e f
  | _, _ => false
theorem descEq_eq : ∀ (c d : TypeDesc), descEq c d = true → c = d := by
  intro c d h
  unfold descEq at h
  split at h
  · rw [of_decide_eq_true h]
  · rfl
  · rfl
  · rw [Nat.eq_of_beq_eq_true h]
  · cases h
def fieldsEq (P : Program) : List (Nat × TypeId) → List Field → Bool
  | [], [] => true
  | (o, t) :: r, f :: fs => Nat.beq o f.offset && Nat.beq t f.type && (P.info? f.type).isSome && fieldsEq P r fs
  | _, _ => false
theorem fieldsEq_eq {P : Program} : ∀ (l : List (Nat × TypeId)) (fs : List Field), fieldsEq P l fs = true → l = fs.map (fun f => (f.offset, f.type)) ∧ ∀ f ∈ fs, (P.info? f.type).isSome = true
  | [], [], _ => ⟨rfl, by simp⟩
  | (o, t) :: r, f :: fs, h => by
    rw [fieldsEq, Bool.and_eq_true, Bool.and_eq_true, Bool.and_eq_true] at h
    obtain ⟨⟨⟨h1, h2⟩, h3⟩, h4⟩ := h
    obtain ⟨e, hall⟩ := fieldsEq_eq r fs h4
    refine ⟨by rw [List.map_cons, ← e, Nat.eq_of_beq_eq_true h1, Nat.eq_of_beq_eq_true h2], fun g hg => ?_⟩
    rcases List.mem_cons.1 hg with rfl | hg
    · exact h3
    · exact hall g hg
  | [], _ :: _, h | _ :: _, [], h => by simp [fieldsEq] at h

def kindOK (P : Program) (t : TypeId) (ti : TI) : Bool :=
  match ti.kind, P.underlying t with
  | .scalar, some d => match ti.cells.desc with | some c => descEq c d | none => false
  | .str, some .string => ti.cells.beq (.cons .str .nil)
  | .slice e, some (.slice f) => Nat.beq e f && (match ti.cells with | .cons (.sl g _) .nil => Nat.beq g e | _ => false)
  | .struct fs, some (.struct flds) => fieldsEq P fs flds.toList
  | _, _ => false
def oneZero (ti : TI) (z : Value) : Bool := match ti.kind with
  | .struct _ => true
  | _ => z.oneCell'
def checkTI (P : Program) (t : TypeId) (ti : TI) : Bool :=
  match P.info? t with
  | some i => match i.zero with
    | some z => Nat.beq i.size ti.cells.len && Nat.beq i.bytes ti.bytes && ti.cells.isZeros z.cells.toList && oneZero ti z && kindOK P t ti && Nat.ble ti.bytes 4096 && (!ti.cmp || cmpOK P t ti.cells)
    | none => false
  | none => false
theorem TOK.of_check {P : Program} {t : TypeId} {ti : TI} (h : checkTI P t ti = true) : TOK P t ti := by
  unfold checkTI at h
  split at h
  · next i hi =>
    split at h
    · next z hz =>
      simp only [Bool.and_eq_true] at h
      obtain ⟨⟨⟨⟨⟨⟨h1, h2⟩, h3⟩, h4⟩, h5⟩, h6⟩, h7⟩ := h
      refine ⟨⟨i, z, hi, Nat.eq_of_beq_eq_true h1, Nat.eq_of_beq_eq_true h2, hz, CTs.isZeros_eq _ _ h3, fun hagg => ?_⟩, ?_, by simpa [Nat.ble_eq] using h6, fun e w s u X xs ys vs us b hf hx hy he => cmp_run (by rw [e] at h7; simpa using h7) w s u X xs ys vs us b hf hx hy he⟩
      · unfold oneZero at h4
        unfold TI.agg at hagg
        split at h4
        · next hk => rw [hk] at hagg; cases hagg
        · exact cells_of_one z h4
      · unfold kindOK at h5
        split at h5
        · next d hk hu =>
          rw [hk]
          split at h5
          · next c hc => exact ⟨d, by rw [hc, descEq_eq c d h5], hu⟩
          · cases h5
        · next hk hu => rw [hk]; exact ⟨hu, CTs.eq_of_beq _ _ h5⟩
        · next e f hk hu =>
          rw [hk]
          rw [Bool.and_eq_true] at h5
          have hef := Nat.eq_of_beq_eq_true h5.1
          subst hef
          refine ⟨hu, ?_⟩
          have h52 := h5.2
          split at h52
          · next g r hg => exact ⟨r, by rw [hg, Nat.eq_of_beq_eq_true h52]⟩
          · cases h52
        · next fs flds hk hu =>
          rw [hk]
          obtain ⟨e, hall⟩ := fieldsEq_eq _ _ h5
          exact ⟨flds, hu, e, hall⟩
        · cases h5
    · cases h
  · cases h

def checkTs (P : Program) : List (Nat × TI) → Bool
  | [] => true
  | (t, ti) :: r => checkTI P t ti && checkTs P r
theorem types_ok {P : Program} : ∀ {l : List (Nat × TI)}, checkTs P l = true → ∀ t ti, findT l t = some ti → TOK P t ti
  | [], _, t, ti, h => by cases h
  | (i, x) :: r, hc, t, ti, h => by
    rw [checkTs, Bool.and_eq_true] at hc
    rw [findT] at h
    cases hb : Nat.beq t i with
    | true => rw [hb] at h; cases h; rw [Nat.eq_of_beq_eq_true hb]; exact .of_check hc.1
    | false => rw [hb] at h; exact types_ok hc.2 t ti h

/-- A function of the program with a body of its own, called by its number. -/
def checkFn (fn : Func) : Bool := fn.body.isSome && !(fn.name == "runtime.NumGoroutine")
theorem callable_of {P : Program} {f : FuncId} {fn : Func} (hf : P.funcs[f]? = some fn) (hc : checkFn fn = true) : Callable P f := by
  intro args w
  unfold checkFn at hc
  rw [Bool.and_eq_true] at hc
  have h1 : (fn.name == "runtime.NumGoroutine") = false := by simpa using hc.2
  have h2 : fn.body.isNone = false := by cases hb : fn.body with | none => rw [hb] at hc; simp at hc | some _ => rfl
  unfold callFunc
  simp only [Sem.run_bind, run_program, Result.andThen_ok, hf, h1, h2, Bool.false_eq_true, if_false, Sem.run_pure]

/-- What is asked of a function's contract. -/
def FConOK (P : Program) (G : Glob) (f : FuncId) : FCon → Prop
  | .pure c => ConOK P G f c ∧ Callable P f
  | .eff _ c => XConOK P G f c ∧ Callable P f
theorem env_of {P : Program} {G : Glob} {Θ : TEnv} (hT : ∀ t ti, Θ t = some ti → TOK P t ti) : ∀ {l : List (Nat × FCon)}, (∀ x ∈ l, FConOK P G x.1 x.2) → EnvB P G Θ (findC l)
  | [], _ => ⟨hT, (fun f con h => by cases h), (fun f ms con h => by cases h)⟩
  | (i, c) :: r, h => by
    have ih := env_of (G := G) hT fun x hx => h x (List.mem_cons_of_mem _ hx)
    refine ⟨hT, fun f con hf => ?_, fun f ms con hf => ?_⟩
    · rw [findC] at hf
      cases hb : Nat.beq f i with
      | true => rw [hb] at hf; cases hf; rw [Nat.eq_of_beq_eq_true hb]; exact h (i, .pure con) List.mem_cons_self
      | false => rw [hb] at hf; exact ih.cons f con hf
    · rw [findC] at hf
      cases hb : Nat.beq f i with
      | true => rw [hb] at hf; cases hf; rw [Nat.eq_of_beq_eq_true hb]; exact h (i, .eff ms con) List.mem_cons_self
      | false => rw [hb] at hf; exact ih.xcons f ms con hf
end Go.Fw
/- Small helps for the goals of the walk. -/
namespace Go.Fw
open Go

theorem cond_intro {b : Bool} {A B : Prop} (h1 : b = true → A) (h2 : b = false → B) : cond b A B := by
  cases b
  · exact h2 rfl
  · exact h1 rfl
/-- Two ways that meet with a known value. -/
theorem join_intro {D : Type} {A : (D → Prop) → Prop} {R : D → Prop} (f : D) (h1 : A fun y => y = f) (h2 : R f) : ∃ J : D → Prop, A J ∧ ∀ y, J y → R y :=
  ⟨fun y => y = f, h1, fun _ hy => hy ▸ h2⟩
theorem drop_cons {α : Type} (a : List α) (n : Nat) (d : α) (h : n < a.length) : a.drop n = a.getD n d :: a.drop (n + 1) := by
  rw [List.drop_eq_getElem_cons h, List.getD_eq_getElem?_getD, List.getElem?_eq_getElem h, Option.getD_some]
theorem wrapIn (z : Int) (h : -9223372036854775808 ≤ z ∧ z ≤ 9223372036854775807) : IntKind.i64.wrap z = z := IntWalk.i64_in z (by omega)
theorem maxLen_eq : maxLen = 9223372036854775807 := by decide
theorem big_eq : big = 4294967296 := rfl
theorem getD_mem {α : Type} {l : List α} {n : Nat} {d : α} (h : n < l.length) : l.getD n d ∈ l := by
  rw [List.getD_eq_getElem?_getD, List.getElem?_eq_getElem h, Option.getD_some]; exact List.getElem_mem h
end Go.Fw
namespace Go.Fw
open Go
/-- What is asked of a call's end, by name. -/
def PostOf (w : World) (S : Nat → Prop) (k : Nat) (out : Out) (e : Ending) (w' : World) : Prop :=
  ∃ v vals, e = .returned v ∧ w'.os = w.os ∧ w'.tape = w.tape ∧ w'.output = w.output ∧ w.heap.size ≤ w'.heap.size ∧
      (∀ b, b < w.heap.size → w'.heap[b]? = w.heap[b]?) ∧
      RepAV ⟨w', w.heap.size, S, vals, Fw.look (out.take k).2⟩ (out.take k).1 v ∧
      (∀ o x, Fw.look (out.take k).2 o = some x → RepObj ⟨w', w.heap.size, S, vals, Fw.look (out.take k).2⟩ o x ∧ ∀ b, blk (vals o) = some b → w.heap.size ≤ b ∧ b < w'.heap.size) ∧
      (∀ o x q y b, Fw.look (out.take k).2 o = some x → Fw.look (out.take k).2 q = some y → o ≠ q → blk (vals o) = some b → blk (vals q) ≠ some b)
theorem post_str {w w' : World} {S : Nat → Prop} {k : Nat} {s : Bytes} (hos : w'.os = w.os) (htape : w'.tape = w.tape) (hout : w'.output = w.output) (hsize : w.heap.size ≤ w'.heap.size)
    (hblock : ∀ b, b < w.heap.size → w'.heap[b]? = w.heap[b]?) (hs : s.length ≤ maxLen) : PostOf w S k ⟨[(false, [.plain (.str s)])], none⟩ (.returned (.string ⟨s.toArray⟩)) w' :=
  ⟨_, fun _ => undef, rfl, hos, htape, hout, hsize, hblock, ⟨rfl, hs⟩, (fun o x hx => by cases hx), (fun o x q y b hx => by cases hx)⟩
end Go.Fw
/- From the reading of an argument to what the walk says of it. -/
namespace Go.Fw
open Go

variable {P : Program} {H : Type} {enc : TypeId × Value → H} {w : World}

def CTs.app : CTs → CTs → CTs
  | .nil, s => s
  | .cons c r, s => .cons c (r.app s)
def joinR : (r s : CTs) → r.den → s.den → (r.app s).den
  | .nil, _, _, y => y
  | .cons _ r, s, x, y => (x.1, joinR r s x.2 y)
theorem RepR.app {h : Array Obj} {S : Nat → Prop} : ∀ (r s : CTs) (x : r.den) (y : s.den) (vs us : List Value), RepR h S r vs x → RepR h S s us y → RepR h S (r.app s) (vs ++ us) (joinR r s x y)
  | .nil, s, x, y, vs, us, h1, h2 => by rw [RepR] at h1; subst h1; exact h2
  | .cons c r, s, (x, x'), y, vs, us, h1, h2 => by
    rw [RepR] at h1
    obtain ⟨v, vs', rfl, g1, g2⟩ := h1
    show RepR h S (.cons c (r.app s)) (v :: (vs' ++ us)) (x, joinR r s x' y)
    rw [RepR]
    exact ⟨v, vs' ++ us, rfl, g1, RepR.app r s x' y vs' us g2 h2⟩

theorem add_add (a : Addr) (h : a.spot = none) (m j : Nat) : (a.add m).add j = ⟨a.block, a.off + m + j, none⟩ := by
  obtain ⟨b, o, sp⟩ := a
  simp only at h
  subst h
  unfold Addr.add
  by_cases hm : m = 0
  · by_cases hj : j = 0
    · simp [hm, hj]
    · simp [hm, hj]
  · by_cases hj : j = 0
    · simp [hm, hj]
    · simp [hm, hj]

def rowFields (f : TypeId → Option CTs) : List Field → Nat → Option CTs
  | [], _ => some .nil
  | x :: r, off => match f x.type with
    | some s => match rowFields f r (off + s.len), Nat.beq x.offset off with
      | some u, true => some (s.app u)
      | _, _ => none
    | none => none
/-- The cells of a type, as its table spells them. -/
def rowOf (P : Program) : Nat → TypeId → Option CTs
  | 0, _ => none
  | n + 1, t => match P.underlying t with
    | some (.int k) => some (.cons (.int k) .nil)
    | some .bool => some (.cons .bool .nil)
    | some .string => some (.cons .str .nil)
    | some (.slice e) => match rowOf P n e with
      | some s => match Nat.beq s.len (P.cellsOf e) && Nat.ble 1 s.len with
        | true => some (.cons (.sl e s) .nil)
        | false => none
      | none => none
    | some (.struct fs) => match rowFields (rowOf P n) fs.toList 0 with
      | some r => match Nat.beq r.len (P.cellsOf t) with
        | true => match fs.toList.all fun f => match rowOf P n f.type with | some s => Nat.beq s.len (P.cellsOf f.type) | none => false with
          | true => some r
          | false => none
        | false => none
      | none => none
    | _ => none

theorem list_of {α : Type} {Q : Nat → α → Prop} : ∀ (n : Nat), (∀ i, i < n → ∃ x, Q i x) → ∃ l : List α, l.length = n ∧ ∀ i x, l[i]? = some x → Q i x
  | 0, _ => ⟨[], rfl, fun i x h => by simp at h⟩
  | n + 1, h => by
    obtain ⟨l, hl, hq⟩ := list_of n fun i hi => h i (by omega)
    obtain ⟨x, hx⟩ := h n (by omega)
    refine ⟨l ++ [x], by simp [hl], fun i y hy => ?_⟩
    rcases Nat.lt_or_ge i n with hi | hi
    · rw [List.getElem?_append_left (by omega)] at hy; exact hq i y hy
    · rw [List.getElem?_append_right (by omega)] at hy
      have : i = n := by
        rcases Nat.lt_or_ge n i with h' | h'
        · rw [List.getElem?_eq_none (by simp; omega)] at hy; cases hy
        · omega
      subst this
      simp [hl] at hy
      rw [← hy]; exact hx

theorem app_len : ∀ (r s : CTs), (r.app s).len = r.len + s.len
  | .nil, s => by simp [CTs.app, CTs.len]
  | .cons c r, s => by simp only [CTs.app, CTs.len, app_len r s]; omega

theorem fields_rep {f : TypeId → Option CTs} {S : Nat → Prop} {h : Array Obj} (cs : List Value)
    (part : ∀ (t : TypeId) (r : CTs) (off : Nat), f t = some r → (∃ g : Field, g.type = t ∧ g.offset = off) → True) : ∀ (fs : List Field) (off : Nat) (r : CTs), rowFields f fs off = some r →
    (∀ g ∈ fs, ∀ s, f g.type = some s → ∃ x, RepR h S s ((cs.drop g.offset).take s.len) x) →
    ∃ x, RepR h S r ((cs.drop off).take r.len) x
  | [], off, r, hr, _ => by
    cases hr
    exact ⟨(), by rw [RepR]; simp [CTs.len]⟩
  | g :: fs, off, r, hr, hall => by
    rw [rowFields] at hr
    split at hr
    · next s hs =>
      split at hr
      · next u hu hb =>
        cases hr
        obtain ⟨x, hx⟩ := hall g List.mem_cons_self s hs
        rw [Nat.eq_of_beq_eq_true hb] at hx
        obtain ⟨y, hy⟩ := fields_rep cs part fs (off + s.len) u hu fun g' hg' => hall g' (List.mem_cons_of_mem _ hg')
        refine ⟨joinR s u x y, ?_⟩
        have := RepR.app s u x y _ _ hx hy
        rw [app_len]
        have e : (cs.drop off).take (s.len + u.len) = (cs.drop off).take s.len ++ (cs.drop (off + s.len)).take u.len := by
          rw [List.take_add, List.drop_drop]
        rw [e]; exact this
      · cases hr
    · cases hr

/-- What is read of a row of cells stands for a value of the walk. -/
theorem trod_rep : ∀ (n : Nat) (t : TypeId) (r : CTs), rowOf P n t = some r → ∀ (m : Nat) (base : Nat) (spare : Nat → Bool) (held : Bool) (cs : List Value) (x : DataW H × List MemPlace),
    DataW.trod enc P w base spare held m t cs = some x → ∃ y, RepR w.heap (fun b => b < w.heap.size) r cs y
  | 0, t, r, hr => by cases hr
  | n + 1, t, r, hr => by
    intro m base spare held cs x hx
    rw [rowOf] at hr
    split at hr
    · next k hu =>
      cases hr
      obtain ⟨i, rfl, _, hwf⟩ := DataW.trod_int hu hx
      simp only [Lit.wf, Bool.and_eq_true, decide_eq_true_eq] at hwf
      exact ⟨(i, ()), by rw [RepR]; exact ⟨_, [], rfl, by rw [RepC]; exact ⟨rfl, hwf⟩, by rw [RepR]⟩⟩
    · next hu =>
      cases hr
      obtain ⟨b, rfl, _⟩ := DataW.trod_bool hu hx
      exact ⟨(b, ()), by rw [RepR]; exact ⟨_, [], rfl, by rw [RepC], by rw [RepR]⟩⟩
    · next hu =>
      cases hr
      obtain ⟨s, rfl, _, hs⟩ := DataW.trod_string hu hx
      refine ⟨(s.data.toList, ()), by rw [RepR]; exact ⟨_, [], rfl, by rw [RepC]; exact ⟨by simp, by simpa using hs⟩, by rw [RepR]⟩⟩
    · next e hu =>
      split at hr
      · next s hs =>
        split at hr
        · next hb =>
          cases hr
          rw [Bool.and_eq_true] at hb
          have hlen := Nat.eq_of_beq_eq_true hb.1
          have hpos : 1 ≤ s.len := by simpa [Nat.ble_eq] using hb.2
          rcases DataW.trod_slice hu hx with ⟨rfl, _⟩ | ⟨a, len, cap, elems, rest, k, _, rfl, _, hbase, hle, hmax, hel, hrow, _, _⟩
          · exact ⟨([], ()), by rw [RepR]; exact ⟨_, [], rfl, by rw [RepC]; exact ⟨by simp, .inl ⟨rfl, none, 0, rfl⟩⟩, by rw [RepR]⟩⟩
          · by_cases h0 : len = 0
            · subst h0
              exact ⟨([], ()), by rw [RepR]; exact ⟨_, [], rfl, by rw [RepC]; exact ⟨by simp, .inl ⟨rfl, some a, cap, rfl⟩⟩, by rw [RepR]⟩⟩
            · have each : ∀ i, i < len → ∃ (ys : List Value) (z : s.den), w.cells? base (a.add (i * P.cellsOf e)) (P.cellsOf e) = some ys ∧ RepR w.heap (fun b => b < w.heap.size) s ys z := by
                intro i hi
                have h1 := hrow i hi
                rw [List.getElem?_eq_getElem (by omega)] at h1
                obtain ⟨ys, hys, hy2⟩ := Option.bind_eq_some_iff.1 h1
                obtain ⟨z, hz⟩ := trod_rep n e s hs k base spare held ys _ hy2
                exact ⟨ys, z, hys, hz⟩
              -- the block
              obtain ⟨ys0, z0, hc0, hz0⟩ := each 0 (by omega)
              obtain ⟨_, hl0, hcell0⟩ := World.cells?_some hc0
              have hc00 := hcell0 0 (by omega)
              simp only [Nat.zero_mul, Addr.add, if_true] at hc00
              have hys0 : ∃ v, ys0[0]? = some v := ⟨ys0[0]'(by omega), by simp [show 0 < ys0.length by omega]⟩
              obtain ⟨v0, hv0⟩ := hys0
              rw [hv0] at hc00
              unfold World.cell? at hc00
              split at hc00
              · next c ty fz hblk =>
                split at hc00
                · cases hc00
                · next hsp =>
                  have hspot : a.spot = none := by cases h : a.spot with | none => rfl | some q => rw [h] at hsp; simp at hsp
                  have ha : a = ⟨a.block, a.off, none⟩ := by cases a; simp at hspot; rw [hspot]
                  have hb' : a.block < w.heap.size := by
                    obtain ⟨hlt, _⟩ := Array.getElem?_eq_some_iff.1 hblk
                    exact hlt
                  have rows : ∀ i, i < len → ∃ z : s.den, RepR w.heap (fun b => b < w.heap.size) s ((c.toList.drop (a.off + i * s.len)).take s.len) z := by
                    intro i hi
                    obtain ⟨ys, z, hcs, hz⟩ := each i hi
                    obtain ⟨_, hl, hcell⟩ := World.cells?_some hcs
                    refine ⟨z, ?_⟩
                    have : (c.toList.drop (a.off + i * s.len)).take s.len = ys := by
                      refine List.ext_getElem? fun j => ?_
                      rcases Nat.lt_or_ge j s.len with hj | hj
                      · rw [List.getElem?_take_of_lt hj, List.getElem?_drop]
                        have h2 := hcell j (by omega)
                        have hadd := add_add a hspot (i * P.cellsOf e) j
                        rw [← hlen] at hadd h2
                        rw [hadd] at h2
                        unfold World.cell? at h2
                        simp only [hblk, Option.isSome_none, Bool.false_eq_true, if_false] at h2
                        rw [← h2]
                        simp
                      · rw [List.getElem?_eq_none (by simp; omega), List.getElem?_eq_none (by omega)]
                    rw [this]; exact hz
                  obtain ⟨l, hll, hlq⟩ := list_of len rows
                  refine ⟨(l, ()), by rw [RepR]; exact ⟨_, [], rfl, by rw [RepC]; exact ⟨by omega, .inr ⟨a.block, a.off, cap, c, ty, fz, by rw [hll, ← ha], by omega, hb', hblk, hlq⟩⟩, by rw [RepR]⟩⟩
              · cases hc00
        · cases hr
      · cases hr
    · next fs hu =>
      split at hr
      · next r' hf =>
        split at hr
        · next hb =>
          split at hr
          · next hall =>
            cases hr
            obtain ⟨xs, k, _, _, hcl, hxl, hparts⟩ := DataW.trod_struct hu hx
            have hlen := Nat.eq_of_beq_eq_true hb
            have := fields_rep (h := w.heap) (S := fun b => b < w.heap.size) cs (fun _ _ _ _ _ => trivial) fs.toList 0 _ hf ?_
            · obtain ⟨y, hy⟩ := this
              refine ⟨y, ?_⟩
              rw [List.drop_zero, List.take_of_length_le (by omega)] at hy
              exact hy
            · intro g hg s hs
              have hg2 := List.all_eq_true.1 hall g hg
              rw [hs] at hg2
              have hsl := Nat.eq_of_beq_eq_true hg2
              obtain ⟨i, hi, hgi⟩ := List.mem_iff_getElem.1 hg
              have hp := hparts i g (by rw [← hgi]; simp [show i < fs.size by simpa using hi])
              rw [List.getElem?_eq_getElem (by simp at hi; omega)] at hp
              rw [hsl]
              exact trod_rep n g.type s hs k base spare held _ _ hp
          · cases hr
        · cases hr
      · cases hr
    · cases hr
end Go.Fw
/- The top of a law: its call returns true, and what was there is as it was. -/
namespace Go.Fw
open Go

variable {P : Program} {H : Type} {enc : TypeId × Value → H} {w : World}

def CT.csh : CT → CSh
  | .int k => .int k
  | .bool => .bool
  | .str => .str
  | .sl e r => .sl e r false
def toC : (c : CT) → c.den → c.csh.den
  | .int _, x => x
  | .bool, x => x
  | .str, x => x
  | .sl _ _, x => x
def CTs.shs : CTs → List CSh
  | .nil => []
  | .cons c r => c.csh :: r.shs
def toCs : (r : CTs) → r.den → csDen r.shs
  | .nil, _ => ()
  | .cons c r, x => (toC c x.1, toCs r x.2)

theorem rep_shs (X : V) : ∀ (r : CTs) (vs : List Value) (x : r.den), RepR X.w.heap (X.footF false) r vs x → RepCells X (csCells r.shs (toCs r x)) vs
  | .nil, vs, x, h => by rw [RepR] at h; subst h; trivial
  | .cons c r, vs, (x, y), h => by
    rw [RepR] at h
    obtain ⟨v, vs', rfl, h1, h2⟩ := h
    refine ⟨?_, rep_shs X r vs' y h2⟩
    cases c with
    | int k => exact h1
    | bool => exact h1
    | str => exact h1
    | sl e r => exact h1

/-- The shape of a parameter of type t. -/
def argSh (P : Program) (t : TypeId) : Option VSh :=
  match rowOf P 64 t with
  | some r => match P.underlying t with
    | some (.struct _) => some (.agg r.shs)
    | some (.array _ _) => none
    | _ => match r with
      | .cons c .nil => some (.one c.csh)
      | _ => none
  | none => none
def argShs (P : Program) : List TypeId → Option (List PSh)
  | [] => some []
  | t :: ts => match argSh P t, argShs P ts with
    | some s, some l => some (.v s :: l)
    | _, _ => none

/-- How the walk sees the memory at the entry. -/
def start (w : World) : V := ⟨w, w.heap.size, fun b => b < w.heap.size, fun _ => undef, fun _ => none⟩

theorem arg_rep {t : TypeId} {s : VSh} (hs : argSh P t = some s) {base base' : Nat} {sp : Nat → Bool} {hd : Bool} {v : Value} {d : DataW H} {p : List MemPlace}
    (ht : DataW.Trod enc P w base sp hd t v d p) (hv : Value.okWide P w .any base' t v) : ∃ x : s.den, RepSV (start w) (s.val x) v := by
  unfold argSh at hs
  split at hs
  · next r hr =>
    obtain ⟨m, hm⟩ := ht
    obtain ⟨y, hy⟩ := trod_rep 64 t r hr m base sp hd _ _ hm
    have hy' : RepR (start w).w.heap ((start w).footF false) r v.cells.toList y :=
      RepR.mono (fun b hb => ⟨⟨⟨hb, fun _ => hb, fun o x hx => by cases hx⟩, fun e => by cases e⟩, rfl⟩) r _ y hy
    unfold Value.okWide at hv
    split at hs
    · next fs hu =>
      cases hs
      rw [hu] at hv
      obtain ⟨cs, rfl, _, _⟩ := hv
      exact ⟨toCs r y, cs, rfl, rep_shs (start w) r _ y hy'⟩
    · cases hs
    · next hns hna =>
      split at hs
      · next c =>
        cases hs
        have hcell : v.cells = #[v] := by
          cases hv2 : v <;> first
            | rfl
            | (exfalso
               rw [hv2] at hv
               split at hv
               · next hu => exact hns _ hu
               · next hu => exact hna _ _ hu
               · unfold Go.Cell.okWide at hv
                 split at hv <;> first | (rename_i h1 h2; cases h2; done) | (rename_i h2; cases h2; done) | skip
                 unfold Go.Cell.ok at hv
                 split at hv <;> first | (rename_i h1 h2; cases h2; done) | exact hv)
        have := rep_shs (start w) _ _ y hy'
        rw [hcell] at this
        exact ⟨toC c y.1, this.1⟩
      · cases hs
  · cases hs

theorem args_rep : ∀ (ts : List TypeId) (sh : List PSh), argShs P ts = some sh → ∀ {base base' : Nat} {sp : Nat → Bool} {hd : Bool} (vs : List Value) (ds : List (DataW H)) (p : List MemPlace),
    DataW.TrodAll enc P w base sp hd ts vs ds p → (∀ (j : Nat) t v, ts[j]? = some t → vs[j]? = some v → Value.okWide P w .any base' t v) → ∃ x : psDen sh, RepArgs (start w) (psVals sh x) vs
  | [], sh, hs, _, _, _, _, vs, ds, p, h, _ => by
    cases hs
    cases vs with
    | nil => exact ⟨(), trivial⟩
    | cons v vs => cases ds <;> simp [DataW.TrodAll] at h
  | t :: ts, sh, hs, base, base', sp, hd, vs, ds, p, h, hok => by
    rw [argShs] at hs
    split at hs
    · next s l h1 h2 =>
      cases hs
      cases vs with
      | nil => cases ds <;> simp [DataW.TrodAll] at h
      | cons v vs =>
        cases ds with
        | nil => simp [DataW.TrodAll] at h
        | cons d ds =>
          obtain ⟨a, b, g1, g2, _⟩ := h
          obtain ⟨x, hx⟩ := arg_rep h1 g1 (hok 0 t v rfl rfl)
          obtain ⟨y, hy⟩ := args_rep ts l h2 vs ds b g2 fun j t' v' ht' hv' => hok (j + 1) t' v' (by simpa using ht') (by simpa using hv')
          exact ⟨(x, y), hx, hy⟩
    · cases hs

mutual
theorem CT.beq_self : ∀ (c : CT), c.beq c = true
  | .int k => by simp [CT.beq]
  | .bool => rfl
  | .str => rfl
  | .sl e r => by simp [CT.beq, CTs.beq_self r]
theorem CTs.beq_self : ∀ (r : CTs), r.beq r = true
  | .nil => rfl
  | .cons c r => by simp [CTs.beq, CT.beq_self c, CTs.beq_self r]
end
theorem read_cell : ∀ (c : CSh) (x : c.den), c.read (c.cell x) = some x
  | .int k, x => by simp [CSh.cell, CSh.read]
  | .bool, x => rfl
  | .str, x => rfl
  | .sl e r fr, l => by
    simp only [CSh.cell, CSh.read, Nat.beq_refl]
    have h1 : boolLe fr fr = true := by cases fr <;> rfl
    have h2 : r.beq r = true := CTs.beq_self r
    rw [h1]
    simp only [Bool.and_self]
    rw [dif_pos h2]
    rfl
  | .nil, x => rfl
  | .ref o, x => by simp [CSh.cell, CSh.read]
  | .junk, x => rfl

theorem read_cells : ∀ (l : List CSh) (x : csDen l), csRead l (csCells l x) = some x
  | [], _ => rfl
  | c :: r, x => by rw [csCells, csRead, read_cell c x.1, read_cells r x.2]
theorem read_val : ∀ (ts : List TypeId) (l : List PSh), argShs P ts = some l → ∀ (x : psDen l), psRead l (psVals l x) = some x
  | [], l, h, x => by cases h; rfl
  | t :: ts, l, h, x => by
    rw [argShs] at h
    split at h
    · next s r h1 h2 =>
      cases h
      have ih := read_val ts r h2 x.2
      cases s with
      | one c =>
        have e : (PSh.v (.one c)).read ((PSh.v (.one c)).val x.1) = some x.1 := read_cell c x.1
        rw [psVals, psRead, ih, e]
      | agg l =>
        have e : (PSh.v (.agg l)).read ((PSh.v (.agg l)).val x.1) = some x.1 := read_cells l x.1
        rw [psVals, psRead, ih, e]
    · cases h

def outTrue : Out := ⟨[(false, [.plain (.bool true)])], none⟩

/-- The call of a law returns true; the memory that was there stays. -/
theorem law_calls {G : Glob} {f : FuncId} {fn : Func} {sh : List PSh} {F : psDen sh → Prop × Out} (hcon : ConOK P G f (conBy sh F)) (hsh : argShs P fn.params.toList = some sh)
    (hF : ∀ x, psInR sh x → (F x).1 ∧ (F x).2 = outTrue) (hG : G.ok w) {base base' : Nat} {sp : Nat → Bool} {hd : Bool} {args : Array Value} {ds : List (DataW H)} {p : List MemPlace}
    (hA : DataW.TrodAll enc P w base sp hd fn.params.toList args.toList ds p) (hok : ∀ (j : Nat) t v, fn.params[j]? = some t → args[j]? = some v → Value.okWide P w .any base' t v) :
    Calls P f args w fun e w' => e = .returned (.bool true) ∧ w'.os = w.os ∧ w'.output = w.output ∧ w.heap.size ≤ w'.heap.size ∧ ∀ b, b < w.heap.size → w'.heap[b]? = w.heap[b]? := by
  obtain ⟨x, hx⟩ := args_rep _ _ hsh _ _ _ hA fun j t v ht hv => hok j t v (by simpa using ht) (by simpa using hv)
  have hin := psRep_inR sh x _ hx
  obtain ⟨hp, ho⟩ := hF x hin
  have hc : conBy sh F (psVals sh x) = some ((F x).1, outTrue) := by
    unfold conBy
    rw [read_val _ _ hsh x]
    simp only [← ho]
  refine (hcon (psVals sh x) _ _ 0 _ args w hc hp hG hx).mono ?_
  rintro e w' ⟨v, vals, rfl, h1, h2, h3, h4, h5, h6, _, _⟩
  have hv : v = .bool true := h6
  exact ⟨by rw [hv], h1, h3, h4, h5⟩

theorem kept_all {w w' : World} (h1 : w'.os = w.os) (h3 : w'.output = w.output) (h5 : ∀ b, b < w.heap.size → w'.heap[b]? = w.heap[b]?) (may : MemPlace → Prop) : w.keptBut w' may := by
  refine ⟨h1, h3, fun i hi => ?_⟩
  rw [h5 i hi]
  cases hw : w.heap[i]? with
  | none => trivial
  | some o => cases o <;> simp

theorem same_all {w w' : World} (h5 : ∀ b, b < w.heap.size → w'.heap[b]? = w.heap[b]?) {p : MemPlace} (hp : p.block < w.heap.size) : w.sameAt w' p := by
  cases p with
  | cell b off =>
    show w'.cell? _ = w.cell? _
    unfold World.cell?
    simp only
    rw [h5 b hp]
  | map b => exact h5 b hp
end Go.Fw
/- What a law's row says behind the call. -/
namespace Go.Fw
open Go

variable {P : Program} {H : Type} {enc : TypeId × Value → H} {w : World}

theorem trodAll_stays (hl : laidOutB P = true) {base : Nat} {sp' : Nat → Bool} {W W' : World} : ∀ (ts : List TypeId) (_ : ts.all (fun t => P.readableRec t && decide (t < P.types.size)) = true)
    (vs : List Value) (ds : List (DataW H)) (ps : List MemPlace), DataW.TrodAll enc P W base (fun _ => true) true ts vs ds ps → (∀ p ∈ ps, W.sameAt W' p) → (∀ p ∈ ps, sp' p.block = true) → DataW.TrodAll enc P W' base sp' true ts vs ds ps
  | [], _, vs, ds, ps, h, _, _ => by
    cases vs <;> cases ds <;> simp [DataW.TrodAll] at h ⊢
    exact h
  | t :: ts, ht, vs, ds, ps, h, h1, h2 => by
    rw [List.all_cons, Bool.and_eq_true, Bool.and_eq_true] at ht
    cases vs with
    | nil => cases ds <;> simp [DataW.TrodAll] at h
    | cons v vs =>
      cases ds with
      | nil => simp [DataW.TrodAll] at h
      | cons d ds =>
        obtain ⟨a, b, g1, g2, rfl⟩ := h
        exact ⟨a, b, WideElems.Trod_stays hl ht.1.1 (of_decide_eq_true ht.1.2) g1 (fun p hp => h1 p (List.mem_append_left _ hp)) (fun p hp => h2 p (List.mem_append_left _ hp)),
          trodAll_stays hl ts ht.2 vs ds b g2 (fun p hp => h1 p (List.mem_append_right _ hp)) (fun p hp => h2 p (List.mem_append_right _ hp)), rfl⟩

theorem trodAll_length {base : Nat} {sp : Nat → Bool} {hd : Bool} {W : World} : ∀ (ts : List TypeId) (vs : List Value) (ds : List (DataW H)) (ps : List MemPlace), DataW.TrodAll enc P W base sp hd ts vs ds ps → ds.length = ts.length
  | [], vs, ds, ps, h => by cases vs <;> cases ds <;> simp [DataW.TrodAll] at h ⊢
  | t :: ts, vs, ds, ps, h => by
    cases vs with
    | nil => cases ds <;> simp [DataW.TrodAll] at h
    | cons v vs =>
      cases ds with
      | nil => simp [DataW.TrodAll] at h
      | cons d ds =>
        obtain ⟨a, b, g1, g2, rfl⟩ := h
        simp [trodAll_length ts vs ds b g2]

theorem law_post {fn : Func} {s : ChangeSpec} {apart fresh handsOn again : Bool} {W W' : World} {args : Array Value} {ds gs : List (DataW H)} {before : List MemPlace} {tb : TypeId}
    (hvars : s.vars = []) (hspec : ∀ l : List (DataW H), l.length = fn.params.toList.length → (s.fn H l).results = [.lit (.bool true)] ∧ (s.fn H l).args = l ∧ (s.fn H l).vars = [])
    (hres : fn.resultTypes = #[tb]) (hb : P.underlying tb = some .bool) (hl : laidOutB P = true) (hread : fn.params.toList.all (fun t => P.readableRec t && decide (t < P.types.size)) = true)
    (hW : DataW.Whole enc P fn.params.toList s.vars apart W args.toList ds gs before) (hos : W'.os = W.os) (hout : W'.output = W.output) (hheap : ∀ b, b < W.heap.size → W'.heap[b]? = W.heap[b]?) :
    s.post enc P fn apart fresh handsOn again W args (.bool true) W' := by
  have hlt := hW.lt
  have hW0 := hW
  obtain ⟨p, q, hA, hV, hpq, hz, hn⟩ := hW
  rw [hvars] at hV
  have hg : gs = [] ∧ q = [] := by
    cases gs with
    | nil => exact ⟨rfl, hV⟩
    | cons g gs => simp [DataW.TrodVars] at hV
  obtain ⟨rfl, rfl⟩ := hg
  rw [List.append_nil] at hpq
  subst hpq
  have hlen := trodAll_length _ _ _ _ hA
  obtain ⟨r1, r2, r3⟩ := hspec (ds ++ []) (by simpa using hlen)
  rw [List.append_nil] at r1 r2 r3
  have hsame : ∀ x ∈ before, W.sameAt W' x := fun x hx => same_all hheap (hlt x hx)
  have R : ∀ (b : Nat) (sp : Nat → Bool) (hd : Bool), DataW.TrodAll enc P W' b sp hd fn.resultTypes.toList ((Value.bool true).resultList fn.resultTypes.size) [.lit (.bool true)] [] := by
    intro b sp hd
    rw [hres]
    exact ⟨[], [], ⟨1, by simp [DataW.trod, Value.cells, hb]⟩, rfl, rfl⟩
  have A : ∀ sp : Nat → Bool, (∀ x ∈ before, sp x.block = true) → DataW.TrodAll enc P W' 0 sp true fn.params.toList args.toList ds before := fun sp hsp => trodAll_stays hl _ hread _ _ _ hA hsame hsp
  have hold : ∀ x ∈ before, (fun b => decide (b < W.heap.size)) x.block = true := fun x hx => by simpa using hlt x hx
  refine ⟨ds, [], before, [], before, [], hW0, ?_, ?_, ?_, kept_all hos hout hheap _, fun _ => ⟨?_, .lit (.bool true) :: ds, [], before, ⟨before, [], ?_, ?_, by simp, ?_, hn⟩, fun x hx _ => hx⟩⟩
  · rw [List.append_nil, r1]; exact R _ _ _
  · rw [List.append_nil, r2]; exact A _ hold
  · rw [List.append_nil, r3, hvars]; rfl
  · intro j t r h1 h2
    rw [hres] at h1 h2
    match j with
    | 0 =>
      simp [Value.resultList] at h1 h2
      subst h1 h2
      simp [Value.okWide, hb, Go.Cell.okWide, Go.Cell.ok]
    | j + 1 => simp at h1
  · exact ChangeShapes.trodAll_append (A _ (fun _ _ => rfl)) (R _ _ _)
  · rw [hvars]; rfl
  · intro b off hp
    have hbl := hlt _ hp
    have e : W'.frozen? ⟨b, off, none⟩ = W.frozen? ⟨b, off, none⟩ := by
      unfold World.frozen?
      simp only
      rw [hheap b hbl]
    rw [e]
    exact hz b off hp
end Go.Fw
/- A law's row, from what is known of its function. -/
namespace Go.Fw
open Go

theorem law_lifted {H : Type} {enc : TypeId × Value → H} {C : Checked} {G : Glob} {os : Os} {f : FuncId} {fn : Func} {s : ChangeSpec} {conds : List PathCond} {apart fresh handsOn again : Bool} {tb : TypeId} {sh : List PSh} {F : psDen sh → Prop × Out}
    (own : ownKnob C.prog.godebug = none) (started : os.Started) (noInit : C.prog.inits.idxOf? f = none) (hfn : C.prog.funcs[f]? = some fn)
    (witness : ∃ (w : World) (tape : Tape) (i : Input), w.os = os ∧ (w.forCall tape i).Shaped C.prog ∧ i.vars = [] ∧ Input.okWide C.prog (w.forCall tape i) .any w.heap.size f i ∧
      s.pre6 enc C.prog fn conds apart (w.forCall tape i).memory i.args ∧ ({} : Assume).holds C.prog (lone (Frame.enter C.prog f i.args .normal) [] (w.forCall tape i)))
    (hcon : ConOK C.prog G f (conBy sh F)) (hsh : argShs C.prog fn.params.toList = some sh) (hF : ∀ x, psInR sh x → (F x).1 ∧ (F x).2 = outTrue) (hG : ∀ w, G.ok w)
    (hvars : s.vars = []) (hspec : ∀ l : List (DataW H), l.length = fn.params.toList.length → (s.fn H l).results = [.lit (.bool true)] ∧ (s.fn H l).args = l ∧ (s.fn H l).vars = [])
    (hres : fn.resultTypes = #[tb]) (hb : C.prog.underlying tb = some .bool) (hl : laidOutB C.prog = true) (hread : fn.params.toList.all (fun t => C.prog.readableRec t && decide (t < C.prog.types.size)) = true) :
    ReturnsInHanded {} C os f .any (s.pre6 enc C.prog fn conds apart) (s.post enc C.prog fn apart fresh handsOn again) := by
  refine returnsInHanded_of_change own started noInit hfn witness ?_
  intro W base args ds gs before hval hW _ _
  have hW0 := hW
  obtain ⟨p, q, hA, _⟩ := hW
  refine (law_calls hcon hsh hF (hG W) hA hval).mono ?_
  rintro e W' ⟨rfl, h1, h2, _, h3⟩
  exact ⟨_, rfl, law_post hvars hspec hres hb hl hread hW0 h1 h2 h3⟩

/-- The same for a row that lists variables which are laid ahead. -/
theorem law_lifted_laid {H : Type} {enc : TypeId × Value → H} {C : Checked} {G : Glob} {os : Os} {f : FuncId} {fn : Func} {s : ChangeSpec} {conds : List PathCond} {apart fresh handsOn again : Bool} {tb : TypeId} {sh : List PSh} {F : psDen sh → Prop × Out}
    {X : World → Prop} (hX : ∀ w w' : World, w.heap = w'.heap → X w → X w')
    (own : ownKnob C.prog.godebug = none) (started : os.Started) (noInit : C.prog.inits.idxOf? f = none) (hfn : C.prog.funcs[f]? = some fn)
    (witness : ∃ (w : World) (tape : Tape) (i : Input), w.os = os ∧ (w.forCall tape i).Shaped C.prog ∧ i.vars = [] ∧ Input.okWide C.prog (w.forCall tape i) .any w.heap.size f i ∧
      ((s.pre enc C.prog fn conds apart (w.forCall tape i).memory i.args ∧ X (w.forCall tape i).memory) ∧ sizedMet enc C.prog fn (OpenSpec.ofChange s) apart (w.forCall tape i).memory i.args) ∧ ({} : Assume).holds C.prog (lone (Frame.enter C.prog f i.args .normal) [] (w.forCall tape i)))
    (hcon : ConOK C.prog G f (conBy sh F)) (hsh : argShs C.prog fn.params.toList = some sh) (hF : ∀ x, psInR sh x → (F x).1 ∧ (F x).2 = outTrue) (hG : ∀ w, X w → G.ok w)
    (hvars : s.vars = []) (hspec : ∀ l : List (DataW H), l.length = fn.params.toList.length → (s.fn H l).results = [.lit (.bool true)] ∧ (s.fn H l).args = l ∧ (s.fn H l).vars = [])
    (hres : fn.resultTypes = #[tb]) (hb : C.prog.underlying tb = some .bool) (hl : laidOutB C.prog = true) (hread : fn.params.toList.all (fun t => C.prog.readableRec t && decide (t < C.prog.types.size)) = true) :
    ReturnsInHanded {} C os f .any (fun w args => (s.pre enc C.prog fn conds apart w args ∧ X w) ∧ sizedMet enc C.prog fn (OpenSpec.ofChange s) apart w args) (s.post enc C.prog fn apart fresh handsOn again) := by
  refine returnsInHanded_of_change_and (X := fun w _ => X w) (fun w w' _ h hx => hX w w' h hx) own started noInit hfn witness ?_
  intro W base args ds gs before hval hW _ _ hx _
  have hW0 := hW
  obtain ⟨p, q, hA, _⟩ := hW
  refine (law_calls hcon hsh hF (hG W hx) hA hval).mono ?_
  rintro e W' ⟨rfl, h1, h2, _, h3⟩
  exact ⟨_, rfl, law_post hvars hspec hres hb hl hread hW0 h1 h2 h3⟩
end Go.Fw
/- A law's row, where what is known of the memory wants that it is shaped. -/
namespace Go.Fw
open Go

theorem law_lifted_shaped {H : Type} {enc : TypeId × Value → H} {C : Checked} {G : Glob} {os : Os} {f : FuncId} {fn : Func} {s : ChangeSpec} {conds : List PathCond} {apart fresh handsOn again : Bool} {tb : TypeId} {sh : List PSh} {F : psDen sh → Prop × Out}
    {X : World → Prop} (hX : ∀ w w' : World, w.heap = w'.heap → X w → X w')
    (own : ownKnob C.prog.godebug = none) (started : os.Started) (noInit : C.prog.inits.idxOf? f = none) (hfn : C.prog.funcs[f]? = some fn)
    (witness : ∃ (w : World) (tape : Tape) (i : Input), w.os = os ∧ (w.forCall tape i).Shaped C.prog ∧ i.vars = [] ∧ Input.okWide C.prog (w.forCall tape i) .any w.heap.size f i ∧
      ((s.pre enc C.prog fn conds apart (w.forCall tape i).memory i.args ∧ X (w.forCall tape i).memory) ∧ sizedMet enc C.prog fn (OpenSpec.ofChange s) apart (w.forCall tape i).memory i.args) ∧ ({} : Assume).holds C.prog (lone (Frame.enter C.prog f i.args .normal) [] (w.forCall tape i)))
    (hcon : ConOK C.prog G f (conBy sh F)) (hsh : argShs C.prog fn.params.toList = some sh) (hF : ∀ x, psInR sh x → (F x).1 ∧ (F x).2 = outTrue) (hG : ∀ w, X w → w.ShapedOpen C.prog → G.ok w)
    (hvars : s.vars = []) (hspec : ∀ l : List (DataW H), l.length = fn.params.toList.length → (s.fn H l).results = [.lit (.bool true)] ∧ (s.fn H l).args = l ∧ (s.fn H l).vars = [])
    (hres : fn.resultTypes = #[tb]) (hb : C.prog.underlying tb = some .bool) (hl : laidOutB C.prog = true) (hread : fn.params.toList.all (fun t => C.prog.readableRec t && decide (t < C.prog.types.size)) = true) :
    ReturnsInHanded {} C os f .any (fun w args => (s.pre enc C.prog fn conds apart w args ∧ X w) ∧ sizedMet enc C.prog fn (OpenSpec.ofChange s) apart w args) (s.post enc C.prog fn apart fresh handsOn again) := by
  refine returnsInHanded_of_calls own started noInit witness ?_
  intro w tape i _ hshaped _ hok hpre _
  obtain ⟨_, _, _, fn', hfn', _, _, _, _, hval⟩ := hok
  have e : fn' = fn := Option.some.inj (hfn'.symm.trans hfn)
  subst e
  obtain ⟨⟨⟨ds, gs, before, hw, hc⟩, hx⟩, hz⟩ := hpre
  have hW := DataW.Whole.of_heap (w' := w.forCall tape i) (by rfl) hw
  have hW0 := hW
  obtain ⟨p, q, hA, _⟩ := hW
  refine (law_calls hcon hsh hF (hG (w.forCall tape i) (hX _ _ (by rfl) hx) hshaped) hA hval).mono ?_
  rintro e W' ⟨rfl, h1, h2, _, h3⟩
  exact ChangeSpec.post_blind (law_post hvars hspec hres hb hl hread hW0 h1 h2 h3)
end Go.Fw
