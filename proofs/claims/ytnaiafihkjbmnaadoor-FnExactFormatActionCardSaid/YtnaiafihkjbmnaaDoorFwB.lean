import Derived.Test.YtnaiafihkjbmnaaDoorFwA
/- What a call that changes what is handed over leaves. -/
namespace Go.Fw
open Go

variable {P : Program} {w0 : World} {M : Nat → Prop} {T : Ext} {γ γ' : Nat → Value} {st : St} {a : Act} {w w' : World} {Θ : TEnv} {Γ : CEnv}

/-- Some objects hold something else, some are let go, others are new. -/
theorem Rel.update (h : Rel w0 M T γ st a w) {K D : Nat → Bool} {H : Nat → Prop} {objs2 : Nat → Option AObj} {γ2 : Nat → Value}
    (hos : w'.os = w.os) (htape : w'.tape = w.tape) (hout : w'.output = w.output) (hsize : w.heap.size ≤ w'.heap.size)
    (hH : ∀ b, H b → ∃ o x, st.objs o = some x ∧ blk (γ o) = some b)
    (hheap : ∀ b, b < w.heap.size → ¬ H b → w'.heap[b]? = w.heap[b]?)
    (h1 : ∀ p, D p = false → objs2 p = (st.kill K).objs p ∧ γ2 p = γ p)
    (h2 : ∀ p x b, D p = false → K p = false → st.objs p = some x → blk (γ p) = some b → ¬ H b)
    (h3 : ∀ p x, D p = true → objs2 p = some x → ∀ b, blk (γ2 p) = some b → b < w'.heap.size ∧ (w.heap.size ≤ b ∨ H b))
    (h3' : V.leK K (viewOf w0 T γ st w) ⟨w', w0.heap.size, T, γ2, objs2⟩ → ∀ p x, D p = true → objs2 p = some x → RepObj ⟨w', w0.heap.size, T, γ2, objs2⟩ p x)
    (h4 : ∀ p q x y b, D p = true → D q = true → objs2 p = some x → objs2 q = some y → p ≠ q → blk (γ2 p) = some b → blk (γ2 q) ≠ some b)
    (h5 : ∀ p cs, D p = true → K p = false → st.objs p = some (.var cs) → (∃ cs', objs2 p = some (.var cs')) ∧ γ2 p = γ p)
    (h6 : ∀ p e r l fr, D p = true → K p = false → st.objs p = some (.arr e r l fr) → (∃ l' fr', objs2 p = some (.arr e r l' fr')) ∧ γ2 p = γ p)
    (h7 : ∀ p cs, D p = true → objs2 p = some (.var cs) → (∃ cs0, st.objs p = some (.var cs0) ∧ γ2 p = γ p) ∨ T.N p = none) :
    Rel w0 M T γ2 { n := st.n, tmps := fun t => (st.tmps t).kill K, objs := objs2 } a w' ∧ V.leK K (viewOf w0 T γ st w) ⟨w', w0.heap.size, T, γ2, objs2⟩ := by
  have hHb : ∀ b, H b → b < w.heap.size ∧ (w0.heap.size ≤ b ∨ M b) := fun b hb => by
    obtain ⟨o, x, ho, hγ⟩ := hH b hb
    exact h.lt o x b ho hγ
  have hfoot : ∀ b, (viewOf w0 T γ st w).foot b → ¬ H b := fun b hb hh => by
    obtain ⟨o, x, ho, hγ⟩ := hH b hh
    exact hb.2.2 o x ho hγ
  have old : ∀ p x, D p = false → objs2 p = some x → ∃ y, st.objs p = some y ∧ x = y.kill K ∧ K p = false := fun p x hD hx => by
    rw [(h1 p hD).1] at hx
    exact kill_some K hx
  have le : V.leK K (viewOf w0 T γ st w) ⟨w', w0.heap.size, T, γ2, objs2⟩ := by
    refine ⟨Nat.le_refl _, fun b hb => ⟨⟨Nat.lt_of_lt_of_le hb.1 hsize, hb.2.1, fun o x hx e => ?_⟩, hheap b hb.1 (hfoot b hb)⟩, fun o cs hK ho => ?_, fun o e r l fr hK ho => ?_⟩
    · cases hD : D o with
      | false =>
        obtain ⟨y, hy, _, _⟩ := old o x hD hx
        have e' : blk (γ2 o) = some b := e
        rw [(h1 o hD).2] at e'
        exact hb.2.2 o y hy e'
      | true =>
        rcases (h3 o x hD hx b e).2 with h' | h'
        · have hlt : b < w.heap.size := hb.1
          omega
        · exact hfoot b hb h'
    · have ho' : st.objs o = some (.var cs) := ho
      cases hD : D o with
      | false =>
        refine ⟨⟨cs.map (Cell.kill K), ?_⟩, (h1 o hD).2⟩
        show objs2 o = _
        rw [(h1 o hD).1]
        exact kill_objs_some K hK ho'
      | true => exact h5 o cs hD hK ho'
    · have ho' : st.objs o = some (.arr e r l fr) := ho
      cases hD : D o with
      | false =>
        refine ⟨⟨l, fr, ?_⟩, (h1 o hD).2⟩
        show objs2 o = _
        rw [(h1 o hD).1]
        exact kill_objs_some K hK ho'
      | true => exact h6 o e r l fr hD hK ho'
  refine ⟨⟨h.mT, h.defers, h.size, hos.trans h.os, htape.trans h.tape, hout.trans h.output, Nat.le_trans h.grow hsize, fun b hb hM => ?_, fun t => RepAV.leK le _ _ (h.tmps t), fun o x hx => ?_, fun o x b hx hb => ?_, fun o x p y b hx hy hop hb => ?_, fun o v cs hN hx => ?_⟩, le⟩
  · rw [hheap b (Nat.lt_of_lt_of_le hb h.grow) fun hh => by
      rcases (hHb b hh).2 with h' | h'
      · omega
      · exact hM h']
    exact h.kept b hb hM
  · cases hD : D o with
    | false =>
      obtain ⟨y, hy, rfl, hK⟩ := old o x hD hx
      exact RepObj.leK le o y (fun b hb => hheap b (h.lt o y b hy hb).1 (h2 o y b hD hK hy hb)) (h1 o hD).2 (h.objs o y hy)
    | true => exact h3' le o x hD hx
  · cases hD : D o with
    | false =>
      obtain ⟨y, hy, rfl, hK⟩ := old o x hD hx
      rw [(h1 o hD).2] at hb
      have := h.lt o y b hy hb
      exact ⟨Nat.lt_of_lt_of_le this.1 hsize, this.2⟩
    | true =>
      have := h3 o x hD hx b hb
      exact ⟨this.1, this.2.elim (fun g => .inl (Nat.le_trans h.grow g)) fun g => (hHb b g).2⟩
  · cases hD : D o with
    | false =>
      obtain ⟨y1, hy1, rfl, hK1⟩ := old o x hD hx
      rw [(h1 o hD).2] at hb
      have hbl := h.lt o y1 b hy1 hb
      cases hE : D p with
      | false =>
        obtain ⟨y2, hy2, rfl, hK2⟩ := old p y hE hy
        rw [(h1 p hE).2]
        exact h.sep o y1 p y2 b hy1 hy2 hop hb
      | true =>
        intro e
        rcases (h3 p y hE hy b e).2 with h' | h'
        · omega
        · exact h2 o y1 b hD hK1 hy1 hb h'
    | true =>
      cases hE : D p with
      | false =>
        obtain ⟨y2, hy2, rfl, hK2⟩ := old p y hE hy
        rw [(h1 p hE).2]
        intro e
        have hbl := h.lt p y2 b hy2 e
        rcases (h3 o x hD hx b hb).2 with h' | h'
        · omega
        · exact h2 p y2 b hE hK2 hy2 e h'
      | true => exact h4 o p x y b hD hE hx hy hop hb
  · cases hD : D o with
    | false =>
      obtain ⟨y, hy, e, _⟩ := old o _ hD hx
      rw [(h1 o hD).2]
      cases y with
      | var cs' => exact h.pin o v cs' hN hy
      | arr _ _ _ _ => cases e
    | true =>
      rcases h7 o cs hD hx with ⟨cs0, g1, g2⟩ | g
      · rw [g2]
        exact h.pin o v cs0 hN g1
      · rw [g] at hN; cases hN

/-- How an argument is handed over. -/
def HandedOne (st : St) (x : AV) (a : Arg) (o : Option Nat) : Prop :=
  (o = none ∧ x.refs = [] ∧ argsOf st [x] = some [a]) ∨
  (∃ p e r l fr, o = some p ∧ x = .sv (.one (.ref p)) ∧ st.objs p = some (.arr e r l fr) ∧ a = .own e r l) ∨
  (∃ p cs, o = some p ∧ x = .vptr p 0 ∧ st.objs p = some (.var cs) ∧ cs.flatMap Cell.refs = [] ∧ a = .ptr (cs.map (Cell.view st)))
theorem handOne_spec {m : Mode} {x : AV} {a : Arg} {o : Option Nat} (h : handOne st m x = some (a, o)) : HandedOne st x a o := by
  cases m with
  | val =>
    simp only [handOne] at h
    split at h
    · next a' hr ha => cases h; exact .inl ⟨rfl, hr, ha⟩
    · cases h
  | own =>
    simp only [handOne] at h
    split at h
    · split at h
      · next p _ e r l fr ho => cases h; exact .inr (.inl ⟨p, e, r, l, fr, rfl, rfl, ho, rfl⟩)
      · cases h
    · cases h
  | ptr =>
    simp only [handOne] at h
    split at h
    · split at h
      · next p off _ _ cs h0 ho =>
        split at h
        · next hr =>
          cases h
          have h0 := Nat.eq_of_beq_eq_true h0
          subst h0
          exact .inr (.inr ⟨p, cs, rfl, rfl, ho, hr, rfl⟩)
        · cases h
      · cases h
    · cases h
def HandedAll (st : St) : List AV → List Arg → List (Option Nat) → Prop
  | [], [], [] => True
  | x :: xs, a :: as, o :: os => HandedOne st x a o ∧ HandedAll st xs as os
  | _, _, _ => False
theorem hands_spec : ∀ (ms : List Mode) (xs : List AV) (as : List Arg) (os : List (Option Nat)), hands st ms xs = some (as, os) → HandedAll st xs as os
  | _, [], as, os, h => by unfold hands at h; cases h; trivial
  | ms, x :: xs, as, os, h => by
    unfold hands at h
    split at h
    · next a o as' os' h1 h2 => cases h; exact ⟨handOne_spec h1, hands_spec ms.tail xs as' os' h2⟩
    · cases h
theorem HandedAll.get : ∀ {xs : List AV} {as : List Arg} {os : List (Option Nat)}, HandedAll st xs as os → ∀ (i : Nat) (a : Arg), as[i]? = some a → ∃ x o, xs[i]? = some x ∧ os[i]? = some o ∧ HandedOne st x a o
  | [], [], [], _, i, a, h => by simp at h
  | x :: xs, b :: as, o :: os, ⟨h1, h2⟩, 0, a, h => by simp at h; subst h; exact ⟨x, o, rfl, rfl, h1⟩
  | x :: xs, b :: as, o :: os, ⟨h1, h2⟩, i + 1, a, h => by
    obtain ⟨y, q, g1, g2, g3⟩ := h2.get i a (by simpa using h)
    exact ⟨y, q, by simpa using g1, by simpa using g2, g3⟩
  | [], [], _ :: _, H, _, _, _ | [], _ :: _, _, H, _, _, _ | _ :: _, [], _, H, _, _, _ | _ :: _, _ :: _, [], H, _, _, _ => H.elim
theorem HandedAll.length : ∀ {xs : List AV} {as : List Arg} {os : List (Option Nat)}, HandedAll st xs as os → as.length = xs.length ∧ os.length = xs.length
  | [], [], [], _ => ⟨rfl, rfl⟩
  | x :: xs, b :: as, o :: os, ⟨_, h2⟩ => by simp [h2.length.1, h2.length.2]
  | [], [], _ :: _, H | [], _ :: _, _, H | _ :: _, [], _, H | _ :: _, _ :: _, [], H => H.elim

/-- By which value the callee's objects are reached. -/
def γE (os : List (Option Nat)) (γ : Nat → Value) (p : Nat) : Value := match os[p / 64]? with | some (some o) => γ o | _ => undef
theorem objE_spec {xs : List AV} {as : List Arg} {os : List (Option Nat)} (hh : HandedAll st xs as os) {q : Nat} {X : AObj} (hq : objE as q = some X) :
    ∃ o Y, os[q / 64]? = some (some o) ∧ st.objs o = some Y ∧ ((∃ e r l fr, X = .arr e r l false ∧ Y = .arr e r l fr ∧ q % 64 = 49) ∨ (∃ cs, X = .var (cs.map (Cell.view st)) ∧ Y = .var cs ∧ cs.flatMap Cell.refs = [] ∧ q % 64 = 48)) := by
  unfold objE at hq
  split at hq
  · next e r l ha =>
    split at hq
    · next hm =>
      cases hq
      have hm := Nat.eq_of_beq_eq_true hm
      obtain ⟨x, o, _, ho, h1⟩ := hh.get _ _ ha
      rcases h1 with ⟨_, _, h3⟩ | ⟨p, e', r', l', fr, rfl, _, hp, h4⟩ | ⟨p, cs, _, _, _, _, h4⟩
      · exfalso
        unfold argsOf at h3
        split at h3
        · split at h3 <;> simp at h3
        · split at h3 <;> simp at h3
        · split at h3 <;> simp at h3
        · cases h3
      · cases h4
        exact ⟨p, _, ho, hp, .inl ⟨e, r, l, fr, rfl, rfl, hm⟩⟩
      · cases h4
    · cases hq
  · next cs0 ha =>
    split at hq
    · next hm =>
      cases hq
      have hm := Nat.eq_of_beq_eq_true hm
      obtain ⟨x, o, _, ho, h1⟩ := hh.get _ _ ha
      rcases h1 with ⟨_, _, h3⟩ | ⟨p, e', r', l', fr, _, _, _, h4⟩ | ⟨p, cs, rfl, _, hp, hr, h4⟩
      · exfalso
        unfold argsOf at h3
        split at h3
        · split at h3 <;> simp at h3
        · split at h3 <;> simp at h3
        · split at h3 <;> simp at h3
        · cases h3
      · cases h4
      · cases h4
        exact ⟨p, _, ho, hp, .inr ⟨cs, rfl, rfl, hr, hm⟩⟩
    · cases hq
  · cases hq
theorem nodupO_spec : ∀ {os : List (Option Nat)}, nodupO os = true → ∀ (i j : Nat) (o : Nat), os[i]? = some (some o) → os[j]? = some (some o) → i = j := by
  have mem : ∀ (os : List (Option Nat)) (i o : Nat), os[i]? = some (some o) → memO o os = true := by
    intro os
    induction os with
    | nil => intro i o h; simp at h
    | cons x os ih =>
      intro i o h
      cases i with
      | zero => simp at h; subst h; simp [memO]
      | succ i =>
        have := ih i o (by simpa using h)
        cases x with
        | none => rw [memO]; exact this
        | some p => rw [memO]; split <;> first | rfl | exact this
  intro os
  induction os with
  | nil => intro _ i j o h; simp at h
  | cons x os ih =>
    intro h i j o hi hj
    cases x with
    | none =>
      rw [nodupO] at h
      cases i with
      | zero => simp at hi
      | succ i =>
        cases j with
        | zero => simp at hj
        | succ j => rw [ih h i j o (by simpa using hi) (by simpa using hj)]
    | some p =>
      rw [nodupO, Bool.and_eq_true] at h
      cases i with
      | zero =>
        cases j with
        | zero => rfl
        | succ j =>
          simp at hi; subst hi
          have := mem os j _ (by simpa using hj)
          rw [this] at h; simp at h
      | succ i =>
        cases j with
        | zero =>
          simp at hj; subst hj
          have := mem os i _ (by simpa using hi)
          rw [this] at h; simp at h
        | succ j => rw [ih h.2 i j o (by simpa using hi) (by simpa using hj)]
/-- An array seen from elsewhere. -/
theorem RepObj.moveArr {Y Z : V} {q p : Nat} {e : TypeId} {r : CTs} {l : List r.den} {fr fr' : Bool} (H : RepObj Y q (.arr e r l fr)) (hγ : Z.γ p = Y.γ q) (hw : Z.w = Y.w)
    (hf : ∀ b, Y.footF fr b → Z.footF fr' b) (hn : ∀ b, blk (Y.γ q) = some b → fr' = true → Z.n0 ≤ b) : RepObj Z p (.arr e r l fr') := by
  obtain ⟨xs, hown, hr, _, hx⟩ := H
  refine ⟨xs, ?_, hr, fun b hb hfr => hn b (by rw [← hγ]; exact hb) hfr, fun i x hi => ?_⟩
  · rw [hγ, hw]; exact hown
  · rw [hw]
    exact RepR.mono (fun b hb => ⟨hf b hb, rfl⟩) r _ x (hx i x hi)
theorem noref_le {Y Z : V} (hw : Z.w = Y.w) (hf : ∀ fr b, Y.footF fr b → Z.footF fr b) : ∀ (cs : List Cell) (vs : List Value), cs.flatMap Cell.refs = [] → RepCells Y cs vs → RepCells Z cs vs
  | [], [], _, H => H
  | c :: cs, v :: vs, hr, ⟨h1, h2⟩ => by
    rw [List.flatMap_cons, List.append_eq_nil_iff] at hr
    refine ⟨?_, noref_le hw hf cs vs hr.2 h2⟩
    cases c with
    | ref o => cases hr.1
    | sl e r l fr =>
      show RepC Z.w.heap (Z.footF fr) (.sl e r) v l
      rw [hw]
      exact RepC.mono (fun b hb => ⟨hf fr b hb, rfl⟩) (.sl e r) v l h1
    | _ => exact h1
  | [], _ :: _, _, H | _ :: _, [], _, H => by cases H
theorem RepXs_of {X : V} : ∀ (as : List Arg) (us : List Value) (i : Nat), as.length = us.length → (∀ j a u, as[j]? = some a → us[j]? = some u → RepX X (i + j) a u) → RepXs X i as us
  | [], [], _, _, _ => trivial
  | a :: as, u :: us, i, hl, h => ⟨h 0 a u rfl rfl, RepXs_of as us (i + 1) (by simpa using hl) fun j b v hb hv => by
      have := h (j + 1) b v (by simpa using hb) (by simpa using hv)
      rw [show i + 1 + j = i + (j + 1) by omega]; exact this⟩
  | [], _ :: _, _, hl, _ | _ :: _, [], _, hl, _ => by simp at hl
theorem RepAVs.get {X : V} : ∀ (xs : List AV) (us : List Value), RepAVs X xs us → xs.length = us.length ∧ ∀ (i : Nat) (x : AV) (u : Value), xs[i]? = some x → us[i]? = some u → RepAV X x u
  | [], [], _ => ⟨rfl, fun i x u h => by simp at h⟩
  | x :: xs, u :: us, ⟨h1, h2⟩ => by
    obtain ⟨g1, g2⟩ := RepAVs.get xs us h2
    refine ⟨by simp [g1], fun i y v hy hv => ?_⟩
    cases i with
    | zero => simp at hy hv; subst hy hv; exact h1
    | succ i => exact g2 i y v (by simpa using hy) (by simpa using hv)
  | [], _ :: _, H | _ :: _, [], H => by cases H

theorem backs_spec : ∀ {os : List (Option Nat)} {effs : List Eff} {δ : List (Nat × AObj)}, backs st os effs = some δ → ∀ (p : Nat),
    (∀ (x : AObj), Fw.look δ p = some x → ∃ i : Nat, os[i]? = some (some p) ∧
      ((∃ (e : TypeId) (r : CTs) (l l0 : List r.den) (fr : Bool), effs[i]? = some (.arr e r l) ∧ st.objs p = some (.arr e r l0 fr) ∧ x = .arr e r l false) ∨ (∃ (cs cs0 : List Cell), effs[i]? = some (.var cs) ∧ st.objs p = some (.var cs0) ∧ cs.flatMap Cell.refs = [] ∧ x = .var cs))) ∧
    (∀ i : Nat, os[i]? = some (some p) → Fw.look δ p = none → lostBy os effs p = true)
  | [], effs, δ, h, p => by
    cases h
    exact ⟨(fun x hx => by cases hx), (fun i hi => by simp at hi)⟩
  | none :: os, effs, δ, h, p => by
    rw [backs] at h
    obtain ⟨h1, h2⟩ := backs_spec h p
    refine ⟨fun x hx => ?_, fun i hi hn => ?_⟩
    · obtain ⟨i, g1, g2⟩ := h1 x hx
      refine ⟨i + 1, by simpa using g1, ?_⟩
      simpa [List.getElem?_tail] using g2
    · cases i with
      | zero => simp at hi
      | succ i => rw [lostBy]; exact h2 i (by simpa using hi) hn
  | some o :: os, effs, δ, h, p => by
    unfold backs at h
    have tailFact : ∀ {δ'} (_ : backs st os effs.tail = some δ'), (∀ (x : AObj), Fw.look δ' p = some x → ∃ i : Nat, (some o :: os)[i]? = some (some p) ∧
        ((∃ (e : TypeId) (r : CTs) (l l0 : List r.den) (fr : Bool), effs[i]? = some (.arr e r l) ∧ st.objs p = some (.arr e r l0 fr) ∧ x = .arr e r l false) ∨ (∃ (cs cs0 : List Cell), effs[i]? = some (.var cs) ∧ st.objs p = some (.var cs0) ∧ cs.flatMap Cell.refs = [] ∧ x = .var cs))) ∧
        (∀ i : Nat, os[i]? = some (some p) → Fw.look δ' p = none → lostBy os effs.tail p = true) := by
      intro δ' hδ
      obtain ⟨h1, h2⟩ := backs_spec hδ p
      refine ⟨fun x hx => ?_, h2⟩
      obtain ⟨i, g1, g2⟩ := h1 x hx
      exact ⟨i + 1, by simpa using g1, by simpa [List.getElem?_tail] using g2⟩
    have headE : ∀ {y : Eff}, effs.head? = some y → effs[0]? = some y := fun hy => by cases effs <;> simp at hy ⊢; exact hy
    have lostTail : ∀ (_ : lostBy os effs.tail p = true), lostBy (some o :: os) effs p = true := fun g => by
      rw [lostBy]; split
      · split
        · rfl
        · exact g
      · exact g
    split at h
    · next δ' hh hδ =>
      cases h
      obtain ⟨h1, h2⟩ := tailFact hδ
      refine ⟨h1, fun i hi hn => ?_⟩
      cases i with
      | zero =>
        simp at hi; subst hi
        rw [lostBy, hh]; simp
      | succ i => exact lostTail (h2 i (by simpa using hi) hn)
    · next e r l f s l0 fr0 δ' hh ho hδ =>
      split at h
      · next hb =>
        cases h
        rw [Bool.and_eq_true] at hb
        have he := Nat.eq_of_beq_eq_true hb.1
        have hr := CTs.eq_of_beq r s hb.2
        subst he hr
        obtain ⟨h1, h2⟩ := tailFact hδ
        refine ⟨fun x hx => ?_, fun i hi hn => ?_⟩
        · rw [Fw.look] at hx
          split at hx
          · next y hy => cases hx; exact h1 _ hy
          · split at hx
            · next hpo =>
              cases hx
              have hpo := Nat.eq_of_beq_eq_true hpo
              subst hpo
              exact ⟨0, rfl, .inl ⟨e, r, l, l0, fr0, headE hh, ho, rfl⟩⟩
            · cases hx
        · rw [Fw.look] at hn
          split at hn
          · cases hn
          · next hln =>
            split at hn
            · cases hn
            · next hpo =>
              cases i with
              | zero => simp at hi; subst hi; simp at hpo
              | succ i => exact lostTail (h2 i (by simpa using hi) hln)
      · cases h
    · next cs cs0 δ' hh ho hδ =>
      split at h
      · next hr =>
        cases h
        obtain ⟨h1, h2⟩ := tailFact hδ
        refine ⟨fun x hx => ?_, fun i hi hn => ?_⟩
        · rw [Fw.look] at hx
          split at hx
          · next y hy => cases hx; exact h1 _ hy
          · split at hx
            · next hpo =>
              cases hx
              have hpo := Nat.eq_of_beq_eq_true hpo
              subst hpo
              exact ⟨0, rfl, .inr ⟨cs, cs0, headE hh, ho, hr, rfl⟩⟩
            · cases hx
        · rw [Fw.look] at hn
          split at hn
          · cases hn
          · next hln =>
            split at hn
            · cases hn
            · next hpo =>
              cases i with
              | zero => simp at hi; subst hi; simp at hpo
              | succ i => exact lostTail (h2 i (by simpa using hi) hln)
      · cases h
    · cases h
theorem backs_some : ∀ {os : List (Option Nat)} {effs : List Eff} {δ : List (Nat × AObj)}, backs st os effs = some δ → ∀ (i p : Nat), os[i]? = some (some p) →
    effs[i]? = some .lose ∨ (∃ (e : TypeId) (r : CTs) (l : List r.den), effs[i]? = some (.arr e r l) ∧ ∃ x : AObj, Fw.look δ p = some x) ∨ (∃ (cs : List Cell), effs[i]? = some (.var cs) ∧ ∃ x : AObj, Fw.look δ p = some x)
  | [], effs, δ, h, i, p, hi => by simp at hi
  | none :: os, effs, δ, h, i, p, hi => by
    rw [backs] at h
    cases i with
    | zero => simp at hi
    | succ i =>
      have := backs_some h i p (by simpa using hi)
      simpa [List.getElem?_tail] using this
  | some o :: os, effs, δ, h, i, p, hi => by
    unfold backs at h
    have headE : ∀ {y : Eff}, effs.head? = some y → effs[0]? = some y := fun hy => by cases effs <;> simp at hy ⊢; exact hy
    have lk : ∀ {δ' : List (Nat × AObj)} {z : AObj}, (∃ x : AObj, Fw.look δ' p = some x) → ∃ x : AObj, Fw.look ((o, z) :: δ') p = some x := fun ⟨x, hx⟩ => ⟨x, by rw [Fw.look, hx]⟩
    have lk0 : ∀ {δ' : List (Nat × AObj)} {z : AObj}, ∃ x : AObj, Fw.look ((o, z) :: δ') o = some x := by
      intro δ' z
      rw [Fw.look]
      cases Fw.look δ' o with
      | some y => exact ⟨y, rfl⟩
      | none => simp
    split at h
    · next δ' hh hδ =>
      cases h
      cases i with
      | zero => exact .inl (headE hh)
      | succ i => have := backs_some hδ i p (by simpa using hi); simpa [List.getElem?_tail] using this
    · next e r l f s l0 fr0 δ' hh ho hδ =>
      split at h
      · cases h
        cases i with
        | zero => simp at hi; subst hi; exact .inr (.inl ⟨e, r, l, headE hh, lk0⟩)
        | succ i =>
          have := backs_some hδ i p (by simpa using hi)
          rw [List.getElem?_tail] at this
          exact this.imp id fun g => g.imp (fun ⟨e, r, l, g1, g2⟩ => ⟨e, r, l, g1, lk g2⟩) fun ⟨cs, g1, g2⟩ => ⟨cs, g1, lk g2⟩
      · cases h
    · next cs cs0 δ' hh ho hδ =>
      split at h
      · cases h
        cases i with
        | zero => simp at hi; subst hi; exact .inr (.inr ⟨cs, headE hh, lk0⟩)
        | succ i =>
          have := backs_some hδ i p (by simpa using hi)
          rw [List.getElem?_tail] at this
          exact this.imp id fun g => g.imp (fun ⟨e, r, l, g1, g2⟩ => ⟨e, r, l, g1, lk g2⟩) fun ⟨cs, g1, g2⟩ => ⟨cs, g1, lk g2⟩
      · cases h
    · cases h

theorem apartX_spec {effs : List Eff} {δ : List (Nat × AObj)} (h : apartX effs δ = true) {o : Nat} {x : AObj} (hl : Fw.look δ o = some x) : objF effs o = none := by
  have := List.all_eq_true.1 h _ (look_mem δ o x hl)
  simpa using this

theorem objF_at {effs : List Eff} {i : Nat} : (∀ (e : TypeId) (r : CTs) (l : List r.den), effs[i]? = some (.arr e r l) → objF effs (i * 64 + 49) = some (.arr e r l false)) ∧
    (∀ cs : List Cell, effs[i]? = some (.var cs) → objF effs (i * 64 + 48) = some (.var cs)) := by
  have h1 : (i * 64 + 49) / 64 = i := by omega
  have h2 : (i * 64 + 49) % 64 = 49 := by omega
  have h3 : (i * 64 + 48) / 64 = i := by omega
  have h4 : (i * 64 + 48) % 64 = 48 := by omega
  refine ⟨fun e r l h => ?_, fun cs h => ?_⟩
  · unfold objF; rw [h1, h, h2]
  · unfold objF; rw [h3, h, h4]
theorem objF_some {effs : List Eff} {q : Nat} {X : AObj} (h : objF effs q = some X) : (∃ (e : TypeId) (r : CTs) (l : List r.den), effs[q / 64]? = some (.arr e r l) ∧ X = .arr e r l false ∧ q = q / 64 * 64 + 49) ∨
    (∃ cs : List Cell, effs[q / 64]? = some (.var cs) ∧ X = .var cs ∧ q = q / 64 * 64 + 48) := by
  unfold objF at h
  split at h
  · next e r l he =>
    split at h
    · next hm => cases h; have := Nat.eq_of_beq_eq_true hm; exact .inl ⟨e, r, l, he, rfl, by omega⟩
    · cases h
  · next cs he =>
    split at h
    · next hm => cases h; have := Nat.eq_of_beq_eq_true hm; exact .inr ⟨cs, he, rfl, by omega⟩
    · cases h
  · cases h

/-- What a call leaves, taken into the caller's state. -/
theorem Rel.calledX_post (h : Rel w0 M T γ st a w) {xs : List AV} {as : List Arg} {os : List (Option Nat)}
    (hh : HandedAll st xs as os) {out : Out} {effs : List Eff} {k : Nat} (hk64 : k % 64 = 1) {δ : List (Nat × AObj)}
    (hb : backs st os effs = some δ) (hfr : freshIn (st.kill (lostBy os effs)) (out.take k).2 = true) {e : Ending}
    (hpost : XPost (viewOf w0 T γ st w).foot as (γE os γ) w k out effs e w') :
    ∃ v γ', e = .returned v ∧ Rel w0 M T γ' (((st.kill (lostBy os effs)).adds δ).adds (out.take k).2) a w' ∧ RepAV (viewOf w0 T γ' (((st.kill (lostBy os effs)).adds δ).adds (out.take k).2) w') (out.take k).1 v := by
  let S := (viewOf w0 T γ st w).foot
  let E := objE as
  let ge := γE os γ
  let XE : V := ⟨w, w.heap.size, S, ge, E⟩
  have hge : ∀ {q o : Nat}, os[q / 64]? = some (some o) → ge q = γ o := fun hq => by show (match os[_ / 64]? with | some (some o) => γ o | _ => undef) = _; rw [hq]
  have hEs : ∀ {q : Nat} {X : AObj}, E q = some X → _ := fun hq => objE_spec hh hq
  have hfootE : ∀ b, S b → XE.foot b := fun b hb => ⟨hb.1, fun _ => hb, fun q X hq => by
    obtain ⟨o, Y, ho, hY, _⟩ := hEs hq
    show blk (ge q) ≠ some b
    rw [hge ho]
    exact hb.2.2 o Y hY⟩
  have hbl : ∀ {q : Nat} {X : AObj}, E q = some X → ∀ b, blk (ge q) = some b → b < w.heap.size ∧ (w0.heap.size ≤ b ∨ M b) := fun hq b hb => by
    obtain ⟨o, Y, ho, hY, _⟩ := hEs hq
    rw [hge ho] at hb
    exact h.lt o Y b hY hb
  obtain ⟨v, γ', rfl, h1, h2, h3, h4, h5, h6, h7, h8, h9⟩ := hpost
  let δ2 := (out.take k).2
  let K := lostBy os effs
  let H : Nat → Prop := blocksOf E ge
  let γ2 : Nat → Value := fun q => match Fw.look δ2 q with | some _ => γ' q | none => γ q
  let D : Nat → Bool := fun q => (Fw.look δ q).isSome || (Fw.look δ2 q).isSome
  let objs2 : Nat → Option AObj := (((st.kill K).adds δ).adds δ2).objs
  have hobj2 : ∀ q, objs2 q = match Fw.look δ2 q with | some y => some y | none => match Fw.look δ q with | some y => some y | none => (st.kill K).objs q := fun q => by
    show (((st.kill K).adds δ).adds δ2).objs q = _
    rw [adds_objs, adds_objs]
    cases Fw.look δ2 q <;> cases Fw.look δ q <;> rfl
  have hγ2n : ∀ {q : Nat} {y : AObj}, Fw.look δ2 q = some y → γ2 q = γ' q := fun hq => by show (match Fw.look δ2 _ with | some _ => _ | none => _) = _; rw [hq]
  have hγ2o : ∀ {q : Nat}, Fw.look δ2 q = none → γ2 q = γ q := fun hq => by show (match Fw.look δ2 _ with | some _ => _ | none => _) = _; rw [hq]
  have hH : ∀ b, H b → ∃ o x, st.objs o = some x ∧ blk (γ o) = some b := by
    rintro b ⟨q, X, hq, hb⟩
    obtain ⟨o, Y, ho, hY, _⟩ := hEs hq
    rw [hge ho] at hb
    exact ⟨o, Y, hY, hb⟩
  -- an object that comes back
  have hback : ∀ {q : Nat} {x : AObj}, Fw.look δ q = some x → ∃ c, objF effs c = some x ∧ ge c = γ q ∧ os[c / 64]? = some (some q) ∧
      ((∃ (e : TypeId) (r : CTs) (l l0 : List r.den) (fr : Bool), st.objs q = some (.arr e r l0 fr) ∧ x = .arr e r l false) ∨ (∃ (cs cs0 : List Cell), st.objs q = some (.var cs0) ∧ cs.flatMap Cell.refs = [] ∧ x = .var cs)) := by
    intro q x hq
    obtain ⟨i, hi, hk⟩ := (backs_spec hb q).1 x hq
    have d1 : (i * 64 + 49) / 64 = i := by omega
    have d3 : (i * 64 + 48) / 64 = i := by omega
    rcases hk with ⟨e, r, l, l0, fr, g1, g2, rfl⟩ | ⟨cs, cs0, g1, g2, g3, rfl⟩
    · exact ⟨i * 64 + 49, objF_at.1 e r l g1, hge (by rw [d1]; exact hi), by rw [d1]; exact hi, .inl ⟨e, r, l, l0, fr, g2, rfl⟩⟩
    · exact ⟨i * 64 + 48, objF_at.2 cs g1, hge (by rw [d3]; exact hi), by rw [d3]; exact hi, .inr ⟨cs, cs0, g2, g3, rfl⟩⟩
  -- what comes back lies where it lay
  have hFpos : ∀ {q : Nat} {y : AObj}, objF effs q = some y → ∀ b, blk (ge q) = some b → b < w.heap.size := by
    intro q y hq b hbk
    have hbk0 := hbk
    show b < w.heap.size
    have : ∃ o, os[q / 64]? = some (some o) := by
      have hbk' : blk (match os[q / 64]? with | some (some o) => γ o | _ => undef) = some b := hbk
      cases ho : os[q / 64]? with
      | none => rw [ho] at hbk'; cases hbk'
      | some z => cases z with
        | none => rw [ho] at hbk'; cases hbk'
        | some o => exact ⟨o, rfl⟩
    obtain ⟨o, ho⟩ := this
    rw [hge ho] at hbk
    have hex : ∃ Y, st.objs o = some Y := by
      rcases backs_some hb _ _ ho with g | ⟨e, r, l, g, x, hx⟩ | ⟨cs, g, x, hx⟩
      · rcases objF_some hq with ⟨e, r, l, g', _⟩ | ⟨cs, g', _⟩ <;> (rw [g] at g'; cases g')
      · obtain ⟨c, _, _, _, hk⟩ := hback hx
        rcases hk with ⟨_, _, _, _, _, g, _⟩ | ⟨_, _, g, _⟩ <;> exact ⟨_, g⟩
      · obtain ⟨c, _, _, _, hk⟩ := hback hx
        rcases hk with ⟨_, _, _, _, _, g, _⟩ | ⟨_, _, g, _⟩ <;> exact ⟨_, g⟩
    obtain ⟨Y, hY⟩ := hex
    exact (h.lt o Y b hY hbk).1
  -- a free block of the callee's is one of the caller's
  let Y2 : V := ⟨w', w.heap.size, leftBy S as effs ge, γ', Fw.look δ2⟩
  have hKH : ∀ q x b, D q = false → K q = false → st.objs q = some x → blk (γ q) = some b → ¬ H b := by
    rintro q x b hD hK hq hbq ⟨c, X, hc, hbc⟩
    obtain ⟨o, Y, ho, hY, _⟩ := hEs hc
    rw [hge ho] at hbc
    by_cases hoq : o = q
    · subst hoq
      have hD' : Fw.look δ o = none := by
        have : (Fw.look δ o).isSome = false := by
          have h0 : ((Fw.look δ o).isSome || (Fw.look δ2 o).isSome) = false := hD
          rw [Bool.or_eq_false_iff] at h0; exact h0.1
        cases hl : Fw.look δ o with | none => rfl | some _ => rw [hl] at this; cases this
      have := (backs_spec hb o).2 _ ho hD'
      have hK' : lostBy os effs o = false := hK
      rw [this] at hK'; cases hK'
    · exact h.sep o Y q x b hY hq hoq hbc hbq
  have hfoot2 : ∀ b, Y2.foot b → V.foot ⟨w', w0.heap.size, T, γ2, objs2⟩ b := by
    intro b hbf
    refine ⟨hbf.1, fun hlt => ?_, fun q x hq e => ?_⟩
    · have hlt0 : b < w0.heap.size := hlt
      have hlt' : b < w.heap.size := Nat.lt_of_lt_of_le hlt0 h.grow
      rcases (hbf.2.1 hlt').1 with g | ⟨c, X, hc, hbc⟩
      · exact g.2.1 hlt
      · exact h.mT b ((hbl hc b hbc).2.resolve_left (by omega))
    · have hq' : objs2 q = some x := hq
      have e' : blk (γ2 q) = some b := e
      rw [hobj2] at hq'
      cases hl2 : Fw.look δ2 q with
      | some y =>
        rw [hγ2n hl2] at e'
        exact hbf.2.2 q y hl2 e'
      | none =>
        rw [hγ2o hl2] at e'
        rw [hl2] at hq'
        cases hl : Fw.look δ q with
        | some y =>
          obtain ⟨c, hcF, hcg, hco, _⟩ := hback hl
          rw [← hcg] at e'
          have hlt : b < w.heap.size := hFpos hcF b e'
          exact (hbf.2.1 hlt).2 c y hcF e'
        | none =>
          rw [hl] at hq'
          obtain ⟨z, hz, _, hKq⟩ := kill_some K hq'
          have hlt := (h.lt q z b hz e').1
          rcases (hbf.2.1 hlt).1 with g | g
          · exact g.2.2 q z hz e'
          · exact hKH q z b (by show ((Fw.look δ q).isSome || (Fw.look δ2 q).isSome) = false; rw [hl, hl2]; rfl) hKq hz e' g
  have hfoot2F : ∀ fr b, Y2.footF fr b → V.footF ⟨w', w0.heap.size, T, γ2, objs2⟩ fr b := fun fr b hbf => ⟨hfoot2 b hbf.1, fun e => Nat.le_trans h.grow (hbf.2 e)⟩
  have hle2 : V.le Y2 ⟨w', w0.heap.size, T, γ2, objs2⟩ := by
    have hin : ∀ {o : Nat} {x : AObj}, Fw.look δ2 o = some x → objs2 o = some x := fun hl => by rw [hobj2, hl]
    exact ⟨h.grow, fun b hbf => ⟨hfoot2 b hbf, rfl⟩, fun o cs hl => ⟨⟨cs, hin hl⟩, hγ2n hl⟩, fun o e r l fr hl => ⟨⟨l, fr, hin hl⟩, hγ2n hl⟩⟩
  have hmain := h.update (w' := w') (K := K) (D := D) (H := H) (objs2 := objs2) (γ2 := γ2) h1 h2 h3 h4 hH h5
    (fun q hD => by
      have h0 : ((Fw.look δ q).isSome || (Fw.look δ2 q).isSome) = false := hD
      rw [Bool.or_eq_false_iff] at h0
      have l1 : Fw.look δ q = none := by cases hl : Fw.look δ q with | none => rfl | some _ => rw [hl] at h0; cases h0.1
      have l2 : Fw.look δ2 q = none := by cases hl : Fw.look δ2 q with | none => rfl | some _ => rw [hl] at h0; cases h0.2
      exact ⟨by rw [hobj2, l2, l1], hγ2o l2⟩)
    hKH
    (fun q x hD hq b hbq => by
      rw [hobj2] at hq
      cases hl2 : Fw.look δ2 q with
      | some y =>
        rw [hγ2n hl2] at hbq
        have := (h7 q y hl2).2 b hbq
        exact ⟨this.1, this.2.1⟩
      | none =>
        rw [hγ2o hl2] at hbq
        rw [hl2] at hq
        cases hl : Fw.look δ q with
        | some y =>
          obtain ⟨c, hcF, hcg, hco, hk⟩ := hback hl
          rw [← hcg] at hbq
          have hlt := hFpos hcF b hbq
          refine ⟨Nat.lt_of_lt_of_le hlt h4, .inr ?_⟩
          have hcE : ∃ X, E c = some X := by
            obtain ⟨x', o', hx', ho', hone⟩ := hh.get (c / 64) (as[c / 64]'(by
              have := List.getElem?_eq_some_iff.1 hco
              rw [hh.length.1, ← hh.length.2]; exact this.1)) (List.getElem?_eq_getElem _)
            rw [hco] at ho'
            cases ho'
            rcases hone with ⟨g, _⟩ | ⟨q', e, r, l, fr, g1, _, g2, g3⟩ | ⟨q', cs, g1, _, g2, _, g3⟩
            · cases g
            · cases g1
              rcases hk with ⟨e1, r1, l1, l0, fr1, g4, rfl⟩ | ⟨cs1, cs0, g4, _⟩
              · rcases objF_some hcF with ⟨_, _, _, _, _, hcq⟩ | ⟨_, _, g, _⟩
                · refine ⟨.arr e r l false, ?_⟩
                  show objE as c = _
                  have hm : c % 64 = 49 := by omega
                  unfold objE
                  rw [List.getElem?_eq_getElem (by
                    have := List.getElem?_eq_some_iff.1 hco
                    rw [hh.length.1, ← hh.length.2]; exact this.1), g3, hm]
                · cases g
              · rw [g2] at g4; cases g4
            · cases g1
              rcases hk with ⟨e1, r1, l1, l0, fr1, g4, rfl⟩ | ⟨cs1, cs0, g4, _, rfl⟩
              · rw [g2] at g4; cases g4
              · rcases objF_some hcF with ⟨_, _, _, _, g, _⟩ | ⟨_, _, _, hcq⟩
                · cases g
                · refine ⟨.var (cs.map (Cell.view st)), ?_⟩
                  show objE as c = _
                  have hm : c % 64 = 48 := by omega
                  unfold objE
                  rw [List.getElem?_eq_getElem (by
                    have := List.getElem?_eq_some_iff.1 hco
                    rw [hh.length.1, ← hh.length.2]; exact this.1), g3, hm]
          obtain ⟨X, hX⟩ := hcE
          exact ⟨c, X, hX, hbq⟩
        | none =>
          have h0 : ((Fw.look δ q).isSome || (Fw.look δ2 q).isSome) = true := hD
          rw [hl, hl2] at h0; cases h0)
    (fun _ q x hD hq => by
      rw [hobj2] at hq
      cases hl2 : Fw.look δ2 q with
      | some y =>
        rw [hl2] at hq; cases hq
        exact RepObj.mono hle2 q x (fun _ _ => rfl) (hγ2n hl2) (h7 q x hl2).1
      | none =>
        rw [hl2] at hq
        cases hl : Fw.look δ q with
        | some y =>
          rw [hl] at hq; cases hq
          obtain ⟨c, hcF, hcg, hco, hk⟩ := hback hl
          obtain ⟨g1, g2⟩ := h9 c x hcF
          have hγq : γ2 q = γ' c := by rw [hγ2o hl2, g1]; exact hcg.symm
          rcases hk with ⟨e, r, l, l0, fr, _, rfl⟩ | ⟨cs, cs0, _, hr, rfl⟩
          · exact RepObj.moveArr (Y := Y2) g2 hγq rfl (fun b hbf => hfoot2F false b hbf) (fun b _ e => by cases e)
          · obtain ⟨b, arr, t, k1, k2, k3⟩ := g2
            exact ⟨b, arr, t, hγq.trans k1, k2, noref_le (Y := Y2) (Z := ⟨w', w0.heap.size, T, γ2, objs2⟩) rfl hfoot2F _ _ hr k3⟩
        | none =>
          have h0 : ((Fw.look δ q).isSome || (Fw.look δ2 q).isSome) = true := hD
          rw [hl, hl2] at h0; cases h0)
    (fun p1 p2 x y b hD1 hD2 hq1 hq2 hne hb1 => by
      rw [hobj2] at hq1 hq2
      cases l1 : Fw.look δ2 p1 with
      | some y1 =>
        rw [hγ2n l1] at hb1
        cases l2 : Fw.look δ2 p2 with
        | some y2 => rw [hγ2n l2]; exact h8 p1 y1 p2 y2 b l1 l2 hne hb1
        | none =>
          rw [hγ2o l2]
          cases m2 : Fw.look δ p2 with
          | some y2 =>
            obtain ⟨c, hcF, hcg, hco, hk⟩ := hback m2
            rw [← hcg]
            exact ((h7 p1 y1 l1).2 b hb1).2.2 c y2 hcF
          | none =>
            have h0 : ((Fw.look δ p2).isSome || (Fw.look δ2 p2).isSome) = true := hD2
            rw [m2, l2] at h0; cases h0
      | none =>
        rw [hγ2o l1] at hb1
        cases m1 : Fw.look δ p1 with
        | none =>
          have h0 : ((Fw.look δ p1).isSome || (Fw.look δ2 p1).isSome) = true := hD1
          rw [m1, l1] at h0; cases h0
        | some y1 =>
          obtain ⟨c1, hcF1, hcg1, hco1, hk1⟩ := hback m1
          cases l2 : Fw.look δ2 p2 with
          | some y2 =>
            rw [hγ2n l2]
            intro e
            rw [← hcg1] at hb1
            exact ((h7 p2 y2 l2).2 b e).2.2 c1 y1 hcF1 hb1
          | none =>
            rw [hγ2o l2]
            cases m2 : Fw.look δ p2 with
            | none =>
              have h0 : ((Fw.look δ p2).isSome || (Fw.look δ2 p2).isSome) = true := hD2
              rw [m2, l2] at h0; cases h0
            | some y2 =>
              obtain ⟨c2, hcF2, hcg2, hco2, hk2⟩ := hback m2
              have e1 : ∃ z, st.objs p1 = some z := by rcases hk1 with ⟨_, _, _, _, _, g, _⟩ | ⟨_, _, g, _⟩ <;> exact ⟨_, g⟩
              have e2 : ∃ z, st.objs p2 = some z := by rcases hk2 with ⟨_, _, _, _, _, g, _⟩ | ⟨_, _, g, _⟩ <;> exact ⟨_, g⟩
              obtain ⟨z1, e1⟩ := e1
              obtain ⟨z2, e2⟩ := e2
              exact h.sep p1 z1 p2 z2 b e1 e2 hne hb1)
    (fun q cs hD hK hq => by
      cases l2 : Fw.look δ2 q with
      | some y => have := freshIn_look hfr l2; rw [kill_objs_some K hK hq] at this; cases this
      | none =>
        refine ⟨?_, hγ2o l2⟩
        cases m2 : Fw.look δ q with
        | none =>
          have h0 : ((Fw.look δ q).isSome || (Fw.look δ2 q).isSome) = true := hD
          rw [m2, l2] at h0; cases h0
        | some y =>
          obtain ⟨c, _, _, _, hk⟩ := hback m2
          rcases hk with ⟨_, _, _, _, _, g, _⟩ | ⟨cs', _, g, _, rfl⟩
          · rw [hq] at g; cases g
          · exact ⟨cs', by rw [hobj2, l2, m2]⟩)
    (fun q e r l fr hD hK hq => by
      cases l2 : Fw.look δ2 q with
      | some y => have := freshIn_look hfr l2; rw [kill_objs_some K hK hq] at this; cases this
      | none =>
        refine ⟨?_, hγ2o l2⟩
        cases m2 : Fw.look δ q with
        | none =>
          have h0 : ((Fw.look δ q).isSome || (Fw.look δ2 q).isSome) = true := hD
          rw [m2, l2] at h0; cases h0
        | some y =>
          obtain ⟨c, _, _, _, hk⟩ := hback m2
          rcases hk with ⟨e', r', l', l0, fr', g, rfl⟩ | ⟨_, _, g, _⟩
          · rw [hq] at g; cases g
            exact ⟨l', false, by rw [hobj2, l2, m2]⟩
          · rw [hq] at g; cases g)
    (fun q cs hD hq => by
      rw [hobj2] at hq
      cases l2 : Fw.look δ2 q with
      | some y =>
        rw [l2] at hq; cases hq
        have h0 := out.take_var k hk64 l2
        refine .inr ?_
        cases hT : T.N q with
        | none => rfl
        | some v' => have := T.n48 q v' hT; omega
      | none =>
        rw [l2] at hq
        cases m2 : Fw.look δ q with
        | none =>
          have h0 : ((Fw.look δ q).isSome || (Fw.look δ2 q).isSome) = true := hD
          rw [m2, l2] at h0; cases h0
        | some y =>
          rw [m2] at hq; cases hq
          obtain ⟨c, _, _, _, hk⟩ := hback m2
          rcases hk with ⟨_, _, _, _, _, _, g⟩ | ⟨_, cs0, g, _, _⟩
          · cases g
          · exact .inl ⟨cs0, g, hγ2o l2⟩)
  refine ⟨v, γ2, rfl, ?_, RepAV.mono hle2 _ _ h6⟩
  have hst : (((st.kill K).adds δ).adds δ2) = { n := st.n, tmps := fun t => (st.tmps t).kill K, objs := objs2 } := by
    have e1 := adds_tmps δ2 ((st.kill K).adds δ)
    have e2 := adds_tmps δ (st.kill K)
    have gen : ∀ (s : St) (n : Nat) (t : Nat → AV), s.n = n → s.tmps = t → s = { n := n, tmps := t, objs := s.objs } := fun s n t g1 g2 => by cases s; subst g1 g2; rfl
    exact gen _ _ _ (e1.2.trans e2.2) (e1.1.trans e2.1)
  show Rel w0 M T γ2 (((st.kill K).adds δ).adds δ2) a w'
  rw [hst]
  exact hmain.1
theorem Rel.calledX {G : Glob} (hE : EnvOK P G Θ Γ w0 M) (h : Rel w0 M T γ st a w) {xs : List AV} {us : Array Value} {as : List Arg} {os : List (Option Nat)} (hx : RepAVs (viewOf w0 T γ st w) xs us.toList)
    (hh : HandedAll st xs as os) (hnd : nodupO os = true) {f : FuncId} {con : XCon} {p : Prop} {ρ : ROut} {k : Nat} (hk64 : k % 64 = 1) (hok : XConOK P G f con) (hc : con as = some (p, ρ)) (hp : p)
    (hch : ∀ t, ρ.R t → ∃ δ, backs st os (ρ.effs t) = some δ ∧ freshIn (st.kill (lostBy os (ρ.effs t))) ((ρ.out t).take k).2 = true ∧ apartX (ρ.effs t) ((ρ.out t).take k).2 = true) :
    Calls P f us w fun e w' => ∃ t δ, ρ.R t ∧ backs st os (ρ.effs t) = some δ ∧ ∃ v γ', e = .returned v ∧
      Rel w0 M T γ' (((st.kill (lostBy os (ρ.effs t))).adds δ).adds ((ρ.out t).take k).2) a w' ∧ RepAV (viewOf w0 T γ' (((st.kill (lostBy os (ρ.effs t))).adds δ).adds ((ρ.out t).take k).2) w') ((ρ.out t).take k).1 v := by
  let S := (viewOf w0 T γ st w).foot
  let E := objE as
  let ge := γE os γ
  let XE : V := ⟨w, w.heap.size, S, ge, E⟩
  have hge : ∀ {q o : Nat}, os[q / 64]? = some (some o) → ge q = γ o := fun hq => by show (match os[_ / 64]? with | some (some o) => γ o | _ => undef) = _; rw [hq]
  have hEs : ∀ {q : Nat} {X : AObj}, E q = some X → _ := fun hq => objE_spec hh hq
  have hfootE : ∀ b, S b → XE.foot b := fun b hb => ⟨hb.1, fun _ => hb, fun q X hq => by
    obtain ⟨o, Y, ho, hY, _⟩ := hEs hq
    show blk (ge q) ≠ some b
    rw [hge ho]
    exact hb.2.2 o Y hY⟩
  have hbl : ∀ {q : Nat} {X : AObj}, E q = some X → ∀ b, blk (ge q) = some b → b < w.heap.size ∧ (w0.heap.size ≤ b ∨ M b) := fun hq b hb => by
    obtain ⟨o, Y, ho, hY, _⟩ := hEs hq
    rw [hge ho] at hb
    exact h.lt o Y b hY hb
  have hobjs : ∀ o x, E o = some x → RepObj XE o x ∧ ∀ b, blk (ge o) = some b → b < w.heap.size ∧ G.n ≤ b := by
    intro q X hq
    refine ⟨?_, fun b hb => ⟨(hbl hq b hb).1, ?_⟩⟩
    · obtain ⟨o, Y, ho, hY, hk⟩ := hEs hq
      have hO := h.objs o Y hY
      rcases hk with ⟨e, r, l, fr, rfl, rfl, _⟩ | ⟨cs, rfl, rfl, hr, _⟩
      · exact RepObj.moveArr (Z := XE) hO (hge ho) rfl (fun b hb => ⟨hfootE b hb.1, fun e => by cases e⟩) (fun b _ e => by cases e)
      · obtain ⟨b, arr, t, hγ, hheap, hcs⟩ := hO
        refine ⟨b, arr, t, (hge ho).trans hγ, hheap, ?_⟩
        have := Cells.view_foot h (γ0 := fun _ => undef) cs _ hr hcs
        exact noref_le (Y := ⟨w, w.heap.size, S, fun _ => undef, fun _ => none⟩) (Z := XE) rfl (fun fr b hb => ⟨⟨hb.1.1, fun hlt => hb.1.2.1 hlt, fun q' X' hq' => by
          obtain ⟨o', Y', ho', hY', _⟩ := hEs hq'
          show blk (ge q') ≠ some b
          rw [hge ho']
          exact (hb.1.2.1 hb.1.1).2.2 o' Y' hY'⟩, hb.2⟩) _ _ (by
            rw [List.flatMap_map]
            rw [List.flatMap_eq_nil_iff] at hr ⊢
            intro c hc
            have := hr c hc
            cases c <;> first | rfl | (cases this; done)) this
    · rcases (hbl hq b hb).2 with g | g
      · exact Nat.le_trans (G.low w0 hE.ok) g
      · exact hE.low b g
  have hidx : ∀ {q q' : Nat} {X X' : AObj}, E q = some X → E q' = some X' → q / 64 = q' / 64 → q = q' := by
    intro q q' X X' hq hq' hi
    have key : ∀ {q : Nat} {X : AObj}, E q = some X → ∃ a, as[q / 64]? = some a ∧ ((∃ (e : TypeId) (r : CTs) (l : List r.den), a = .own e r l ∧ q % 64 = 49) ∨ ∃ cs, a = .ptr cs ∧ q % 64 = 48) := by
      intro q X hq
      have hq : objE as q = some X := hq
      unfold objE at hq
      split at hq
      · next e r l ha =>
        split at hq
        · next hm => exact ⟨_, ha, .inl ⟨e, r, l, rfl, Nat.eq_of_beq_eq_true hm⟩⟩
        · cases hq
      · next cs ha =>
        split at hq
        · next hm => exact ⟨_, ha, .inr ⟨cs, rfl, Nat.eq_of_beq_eq_true hm⟩⟩
        · cases hq
      · cases hq
    obtain ⟨a1, h1, k1⟩ := key hq
    obtain ⟨a2, h2, k2⟩ := key hq'
    rw [hi, h2] at h1
    cases h1
    rcases k1 with ⟨e, r, l, rfl, m1⟩ | ⟨cs, rfl, m1⟩ <;> rcases k2 with ⟨e', r', l', k3, m2⟩ | ⟨cs', k3, m2⟩ <;> first | (cases k3; done) | omega
  have hsep : ∀ o x q y b, E o = some x → E q = some y → o ≠ q → blk (ge o) = some b → blk (ge q) ≠ some b := by
    intro q1 X1 q2 X2 b h1 h2 hne hb
    obtain ⟨o1, Y1, ho1, hY1, _⟩ := hEs h1
    obtain ⟨o2, Y2, ho2, hY2, _⟩ := hEs h2
    rw [hge ho1] at hb
    rw [hge ho2]
    refine h.sep o1 Y1 o2 Y2 b hY1 hY2 ?_ hb
    rintro rfl
    exact hne (hidx h1 h2 (nodupO_spec hnd _ _ _ ho1 ho2))
  have hargs : RepXs XE 0 as us.toList := by
    obtain ⟨hl, hget⟩ := RepAVs.get xs us.toList hx
    refine RepXs_of as us.toList 0 (by rw [hh.length.1, hl]) fun j b u hb hu => ?_
    rw [Nat.zero_add]
    obtain ⟨x, o, hxj, hoj, hone⟩ := hh.get j b hb
    have hrep := hget j x u hxj hu
    have d1 : (j * 64 + 49) / 64 = j := by omega
    have d2 : (j * 64 + 49) % 64 = 49 := by omega
    have d3 : (j * 64 + 48) / 64 = j := by omega
    have d4 : (j * 64 + 48) % 64 = 48 := by omega
    rcases hone with ⟨rfl, hr, ha⟩ | ⟨q, e, r, l, fr, rfl, rfl, hq, rfl⟩ | ⟨q, cs, rfl, rfl, hq, hr, rfl⟩
    · have hr2 := argsOf_foot h (γ0 := fun _ => undef) [x] [u] [b] ha (by show x.refs ++ [] = []; rw [hr]; rfl) ⟨hrep, trivial⟩
      have hle : V.le ⟨w, w.heap.size, S, fun _ => undef, fun _ => none⟩ XE := ⟨Nat.le_refl _, fun c hcc => ⟨hfootE c (hcc.2.1 hcc.1), rfl⟩, (fun _ _ hcc => by cases hcc), (fun _ _ _ _ _ hcc => by cases hcc)⟩
      have hA := hr2.1
      cases b with
      | sv v => exact RepSV.mono hle v u hA
      | kp cs => exact RepAV.mono hle (.kptr cs 0) u hA
      | fn g caps => exact RepAV.mono hle (.fn g caps) u hA
      | own _ _ _ => exact hA.elim
      | ptr _ => exact hA.elim
    · obtain ⟨_, hu2, hone⟩ := hrep
      refine ⟨⟨e, r, l, false, ?_⟩, ?_, hone⟩
      · show objE as (j * 64 + 49) = _
        unfold objE; rw [d1, hb, d2]
      · rw [hu2]
        show _ = ge (j * 64 + 49)
        exact (hge (by rw [d1]; exact hoj)).symm
    · obtain ⟨c, cs', _, hγ, hv⟩ := hrep
      refine ⟨c, cs.map (Cell.view st), ?_, ?_, hv⟩
      · show objE as (j * 64 + 48) = _
        unfold objE; rw [d3, hb, d4]
      · exact (hge (by rw [d3]; exact hoj)).trans hγ
  refine ((hok as p ρ hc hp).2 k S ge us w (hE.at h) hargs hobjs hsep fun t ht o x hl => ?_).mono ?_
  · obtain ⟨δ, _, _, h3⟩ := hch t ht
    exact apartX_spec h3 hl
  · rintro e w' ⟨t, ht, hpost⟩
    obtain ⟨δ, g1, g2, _⟩ := hch t ht
    obtain ⟨v, γ', rfl, g3, g4⟩ := h.calledX_post hh hk64 g1 g2 hpost
    exact ⟨t, δ, ht, g1, v, γ', rfl, g3, g4⟩
end Go.Fw
/- The operations that change own memory are sound. -/
namespace Go.Fw
open Go

variable {P : Program} {w0 : World} {M : Nat → Prop} {T : Ext} {γ γ' : Nat → Value} {st : St} {a : Act} {w w' : World} {Θ : TEnv} {Γ : CEnv}

theorem owned_one {base size n : Nat} {e : TypeId} {v : Value} {xs : List Value} (hown : w.ownsRow base e size v n xs) : v.oneCell' = true ∧ (∀ ad, v ≠ .pointer (some ad)) := by
  rcases hown.2 with ⟨h1, _⟩ | ⟨g, cap, cur, h1, _⟩ <;> rw [h1] <;> exact ⟨rfl, fun _ e => by cases e⟩

theorem yields_append_nil (hΘ : ∀ t ti, Θ t = some ti → TOK P t ti) (h : Rel w0 M T γ st a w) {t ty e : TypeId} {ti te : TI} (ht : Θ t = some ti) (hk : ti.kind = .slice e) (he : Θ e = some te) (k : Nat) (hpos : 0 < te.cells.len)
    {y : Cell} {news : List te.cells.den} {src : Value} (hy : RepCell (viewOf w0 T γ st w) y src)
    (hget : y.get st (.sl e te.cells) = some news) (hbig : news.length ≤ big) :
    ∃ u w' γ', (Builtin.append_ #[t, t] ty #[.slice none 0 0, src]).run P w = .ok u w' ∧ Rel w0 M T γ' ((st.kill (Nat.beq k ·)).add k (.arr e te.cells news (y.fresh st))) a w' ∧
      RepAV (viewOf w0 T γ' ((st.kill (Nat.beq k ·)).add k (.arr e te.cells news (y.fresh st))) w') (.sv (.one (.ref k))) u := by
  obtain ⟨v', w', ns, hrun, hown', hg, hnr, hgb⟩ := run_append_rows (P := P) (ty := ty) (hΘ t ti ht) hk (hΘ e te he) hpos (World.ownsRow_nil w 0 e te.cells.len) (Cell.get_rows h hy hget) (by omega)
  rw [Nat.zero_add, List.nil_append] at hown'
  have ho := owned_one hown'
  have hnb : ∀ g, blk v' = some g → (some g = none ∨ w.heap.size ≤ g) ∧ g < w'.heap.size := by
    intro g hb
    refine ⟨.inr ?_, grown_blk hown' g hb⟩
    rcases hgb g (by rw [ownBlock_blk ho.2]; exact hb) with h1 | h1
    · cases h1
    · exact h1
  obtain ⟨hR, _⟩ := h.replace (w' := w') (o := k) (v' := v') (x' := .arr e te.cells news (y.fresh st)) none (.inl rfl) hg.os hg.tape hg.output hg.size
    (fun b hb hne => hg.block b hb (by intro e1; cases e1)) hnb (fun _ e => by cases e) (fun le => by
      refine ⟨ns, ?_, hpos, ?_, fun i x hi => ?_⟩
      · show w'.ownsRow 0 e te.cells.len (upd γ k v' k) _ _
        rw [upd_same]
        exact hown'
      · intro b hb hf
        have hb : blk (upd γ k v' k) = some b := hb
        rw [upd_same] at hb
        rcases (hnb b hb).1 with h1 | h1
        · cases h1
        · exact Nat.le_trans h.grow h1
      · exact RepR.mono (fun c hc => le.footF _ c hc) _ _ x (hnr i x hi))
  exact ⟨v', w', _, hrun, hR, ⟨e, te.cells, _, _, add_same _ _ _⟩, (upd_same _ _ _).symm, ho.1⟩

/-- An own array cut at its end. -/
theorem yields_trunc (hΘ : ∀ t ti, Θ t = some ti → TOK P t ti) (h : Rel w0 M T γ st a w) {t f e : TypeId} {ti te : TI} (ht : Θ t = some ti) (hk : ti.kind = .slice f) (he : Θ f = some te) {o : Nat} {r : CTs} {l : List r.den} {fr : Bool}
    (ho : st.objs o = some (.arr e r l fr)) {v : Value} (hv : RepCell (viewOf w0 T γ st w) (.ref o) v) {hi : Option Operand} {p : Prop} {x y : Nat} (hb : cutBounds st l.length none hi = some (p, x, y)) (hp : p) :
    ∃ u γ', (Instr.sliceAt t v none (hi.map a.eval) none).run P w = .ok u w ∧ Rel w0 M T γ' ((st.kill (Nat.beq o ·)).add o (.arr e r (l.take y) fr)) a w ∧
      RepAV (viewOf w0 T γ' ((st.kill (Nat.beq o ·)).add o (.arr e r (l.take y) fr)) w) (.sv (.one (.ref o))) u := by
  obtain ⟨_, hvγ, _⟩ := hv
  have hvγ : v = γ o := hvγ
  subst hvγ
  obtain ⟨xs, hown, hpos, hfr, hrow⟩ := h.objs o _ ho
  have hown : w.ownsRow 0 e r.len (γ o) l.length xs := hown
  have hx0 : x = 0 := by
    cases hi with
    | none => simp only [cutBounds] at hb; cases hb; rfl
    | some hh =>
      simp only [cutBounds] at hb
      split at hb
      · cases hb; rfl
      · cases hb
  subst hx0
  have hu := (hΘ t ti ht).und
  rw [hk] at hu
  obtain ⟨h1, h2⟩ := hown
  have key : ∃ u, (Instr.sliceAt t (γ o) none (hi.map a.eval) none).run P w = .ok u w ∧ w.ownsRow 0 e r.len u y (xs.take (y * r.len)) ∧ blk u = blk (γ o) ∧ y ≤ l.length := by
    rcases h2 with ⟨hn, hl0⟩ | ⟨g, cap, cur, hg, hg0, hh, hle, hmax, hsz, htake⟩
    · have hn : γ o = .slice none 0 0 := hn
      obtain ⟨hr, h3, h4⟩ := run_cutBounds (P := P) h (len := l.length) (cap := 0) (by omega) hb hp true
      have hy : y = 0 := by omega
      refine ⟨.slice none 0 0, ?_, ?_, by rw [hn], h4⟩
      · rw [hn]
        simp only [Option.map_none] at hr
        rw [hl0] at hr
        simp [Instr.sliceAt, Instr.slice, Sem.run_bind, run_underlying hu.1 w, hr, (hΘ f te he).run_sizeOf, hy]
      · rw [hy, Nat.zero_mul, List.take_zero]
        exact World.ownsRow_nil w 0 e r.len
    · have hg : γ o = .slice (some ⟨g, 0, none⟩) l.length cap := hg
      obtain ⟨hr, h3, h4⟩ := run_cutBounds (P := P) h (len := l.length) (cap := cap) hle hb hp true
      have hmul : y * r.len ≤ l.length * r.len := Nat.mul_le_mul_right _ h4
      refine ⟨.slice (some ⟨g, 0, none⟩) y cap, ?_, ⟨?_, .inr ⟨g, cap, cur, rfl, hg0, hh, Nat.le_trans h4 hle, hmax, hsz, ?_⟩⟩, by rw [hg]; rfl, h4⟩
      · rw [hg]
        simp only [Option.map_none] at hr
        simp only [Instr.sliceAt, Instr.slice, Sem.run_bind, run_underlying hu.1 w, Result.andThen_ok, hr, (hΘ f te he).run_sizeOf]
        simp [addr_add]
      · rw [List.length_take, h1]; omega
      · rw [← htake, List.take_take, Nat.min_eq_left hmul]
  obtain ⟨u, hrun, hown', hblk, hyl⟩ := key
  have hone := owned_one hown'
  obtain ⟨hR, _⟩ := h.replace (w' := w) (o := o) (v' := u) (x' := .arr e r (l.take y) fr) (blk (γ o)) (.inr ⟨_, ho, rfl⟩) rfl rfl rfl (Nat.le_refl _) (fun _ _ _ => rfl)
    (fun g hg => ⟨.inl (by rw [← hblk, hg]), (h.lt o _ g ho (by rw [← hblk, hg])).1⟩) (fun _ e => by cases e) (fun le => by
      have hlen : (l.take y).length = y := by rw [List.length_take]; omega
      refine ⟨xs.take (y * r.len), ?_, hpos, ?_, fun i z hi => ?_⟩
      · rw [hlen]
        show w.ownsRow 0 e r.len (upd γ o u o) _ _
        rw [upd_same]
        exact hown'
      · intro b hb hf
        have hb : blk (upd γ o u o) = some b := hb
        rw [upd_same, hblk] at hb
        exact hfr b hb hf
      · have hil : i < y := by rw [← hlen]; exact (List.getElem?_eq_some_iff.1 hi).1
        have hmul : i * r.len + r.len ≤ y * r.len := by
          have : (i + 1) * r.len ≤ y * r.len := Nat.mul_le_mul_right _ hil
          rw [Nat.add_mul] at this; simpa using this
        rw [List.getElem?_take, if_pos hil] at hi
        rw [drop_take_take _ _ _ _ hmul]
        exact RepR.mono (fun c hc => le.footF _ c hc) _ _ z (hrow i z hi))
  exact ⟨u, _, hrun, hR, ⟨e, r, _, _, add_same _ _ _⟩, (upd_same _ _ _).symm, hone.1⟩

theorem freeze_ev (S : Nat → Bool) (x : Operand) : (st.freeze S).ev x = (st.ev x).freeze st S := by
  cases x with
  | tmp t => rfl
  | const v =>
    show constAV v = (constAV v).freeze st S
    unfold constAV
    split
    · split <;> rfl
    · rfl
    · split <;> rfl
    · rfl
    · rfl
  | func f => rfl
  | global g => rfl

/-- An operation that changes own memory. -/
theorem eff_sound {G : Glob} (hE : EnvOK P G Θ Γ w0 M) (h : Rel w0 M T γ st a w) (o : Oper) {d : Nat} {p : Prop} {v : AV} {s : St}
    (hc : eff Θ Γ d st o.op = some (p, v, s)) (hp : p) {next : Act → World → Prop} {Q : Exit → Act → World → Prop}
    (hn : ∀ u γ' w', Rel w0 M T γ' s a w' → RepAV (viewOf w0 T γ' s w') v u → next (a.put o.dst u) w') : o.wp P a w next Q := by
  cases hop : o.op <;> rw [hop] at hc <;> try (simp only [eff, reduceCtorEq] at hc; done)
  case store t x y =>
    simp only [eff] at hc
    split at hc
    · next sv ti hev ht =>
      split at hc
      · next hlen =>
        split at hc
        · next q s' hs =>
          cases hc
          have hF := h.freeze (storeRefs (st.ev x) sv)
          have hy := ev_rep h y
          rw [hev] at hy
          have hpv := RepAV.freeze (storeRefs (st.ev x) sv) h _ _ (ev_rep h x)
          have hyv := RepSV.freeze (storeRefs (st.ev x) sv) h _ _ hy
          have hl2 : (sv.freeze st (storeRefs (st.ev x) sv)).cells.length = ti.cells.len := by
            have h1 := RepCells.length _ _ (RepSV.cells _ _ hyv)
            have h2 := RepCells.length _ _ (RepSV.cells _ _ hy)
            have h3 := Nat.eq_of_beq_eq_true hlen
            omega
          obtain ⟨w', hr, hR⟩ := store_rel (P := P) hE.types hF ht hs hp hpv hyv hl2
          have hr2 : (execOp a.eval o).run P w = .ok .skip w' := by
            simp [execOp, hop, hr]
          unfold Oper.wp
          rw [hr2]
          exact hn undef γ w' hR trivial
        · cases hc
      · cases hc
    · cases hc
  case buildSlice t len parts =>
    simp only [eff] at hc
    split at hc
    · next q v' δ hcalm =>
      split at hc
      · next hfr =>
        cases hc
        exact calm_sound hE (h.freeze ((partsRefs st parts.toList).contains ·)) o (by rw [hop]; exact hcalm) hp hfr hn
      · cases hc
    · cases hc
  case slice t x lo hi mx =>
    cases mx with
    | some m => simp only [eff, reduceCtorEq] at hc
    | none =>
      cases lo with
      | none =>
        simp only [eff] at hc
        split at hc
        · next ti r ht hev =>
          have hx := ev_cell h hev
          split at hc
          · next f e rr l fr hk ho =>
            split at hc
            · next te q i j he hb =>
              split at hc
              · next hbeq =>
                cases hc
                obtain ⟨u, γ', hr, hR, hv⟩ := yields_trunc (P := P) hE.types h ht hk he ho hx hb hp
                refine Oper.wp_value (u := u) (w' := w) ?_ (hn u γ' w hR hv)
                simp [execOp, hop, hr]
              · cases hc
            · cases hc
          · cases hc
        · cases hc
      | some l0 =>
        simp only [eff] at hc
        split at hc
        · next ti r ht hev =>
          split at hc
          · next f e rr l fr hk ho =>
            split at hc
            · next te q i j he hb =>
              split at hc
              · next hbeq =>
                split at hc
                · next q' v' hq =>
                  cases hc
                  exact calm_sound (δ := []) hE (h.freeze (Nat.beq r ·)) o (by rw [hop]; exact hq) hp rfl hn
                · cases hc
              · cases hc
            · cases hc
          · cases hc
        · cases hc
  case call c =>
    obtain ⟨callee, args, tys⟩ := c
    cases callee with
    | invoke r m => simp only [eff, reduceCtorEq] at hc
    | builtin b =>
      cases b <;> try (simp only [eff, reduceCtorEq] at hc; done)
      case append =>
        simp only [eff] at hc
        split at hc
        · next sx x t u hargs htys =>
          split at hc
          · next ti c y htu ht hes hex =>
            have htu := Nat.eq_of_beq_eq_true htu
            subst htu
            have ha : args.map a.eval = #[a.eval sx, a.eval x] := by apply Array.ext'; simp [hargs]
            have ht' : tys = #[t, t] := by apply Array.ext'; simp [htys]
            have hrun : execOp a.eval o = (do pure (Next.value (← Builtin.append_ #[t, t] o.type #[a.eval sx, a.eval x]))) := by
              rw [exec_builtin hop, ha, ht']
              rfl
            have h1 := ev_cell h hes
            have h2 := ev_cell h hex
            split at hc
            · next e hk =>
              split at hc
              · next te he =>
                split at hc
                · next news r hget =>
                  split at hc
                  · next f rr l fr ho =>
                    split at hc
                    · next hbeq =>
                      split at hc
                      · next hef =>
                        cases hc
                        have hef := Nat.eq_of_beq_eq_true hef
                        subst hef
                        obtain ⟨v', w', γ', hr, hR, hv⟩ := yields_append (P := P) (ty := o.type) hE.types h ht hk he ho hbeq h1 h2 hget hp
                        exact Oper.wp_value (by rw [hrun]; exact exec_v hr) (hn v' γ' w' hR hv)
                      · cases hc
                    · cases hc
                  · cases hc
                · next news hget =>
                  split at hc
                  · next hble =>
                    cases hc
                    have hs0 : a.eval sx = .slice none 0 0 := h1
                    obtain ⟨v', w', γ', hr, hR, hv⟩ := yields_append_nil (P := P) (ty := o.type) hE.types h ht hk he (d * 64 + 1) (Nat.le_of_ble_eq_true hble) h2 hget hp
                    exact Oper.wp_value (by rw [hrun, hs0]; exact exec_v hr) (hn v' γ' w' hR hv)
                  · cases hc
                · cases hc
              · cases hc
            · cases hc
          · cases hc
        · cases hc
    | value x =>
      simp only [eff] at hc
      split at hc
      · next f caps hx =>
        have hv := ev_rep h x
        rw [hx] at hv
        obtain ⟨us, hvx, hkx⟩ := hv
        split at hc
        · next con hcon =>
          split at hc
          · next vs hargs hrefs =>
            split at hc
            · next q out hq =>
              split at hc
              · next hfr =>
                cases hc
                have hF := h.freeze (letSet st args.toList caps)
                obtain ⟨hok, hcall⟩ := hE.cons f con hcon
                unfold Oper.wp
                rw [exec_call hop hvx hcall, Oper.upon_enter]
                have hrep := argsOf_foot hF (γ0 := fun _ => undef) _ _ vs hargs hrefs (RepAVs.freeze _ h _ _ (handed_rep (f := f) h hkx args.toList))
                rw [← Array.toList_map, ← Array.toList_append] at hrep
                refine (hok vs _ out (d * 64 + 1) _ (args.map a.eval ++ us) w hq hp (hE.at h) hrep).mono ?_
                rintro e w' ⟨u, vals, rfl, h1, h2, h3, h4, h5, h6, h7, h8⟩
                obtain ⟨γ', g1, g2⟩ := hF.called (by omega) hfr h1 h2 h3 h4 h5 (.inr rfl) h6 h7 h8
                exact hn u γ' w' g1 g2
              · cases hc
            · cases hc
          · cases hc
        · cases hc
      · cases hc

/-- A call that changes what is handed over. -/
theorem rel_sound {G : Glob} (hE : EnvOK P G Θ Γ w0 M) (h : Rel w0 M T γ st a w) (o : Oper) {d : Nat} {p : Prop} {ρ : ROut} {os : List (Option Nat)} {s0 : St}
    (hc : relOf Γ st o.op = some (p, ρ, os, s0)) (hp : p) (hch : ∀ t, ρ.R t → ∃ r, relSt d s0 os (ρ.out t) (ρ.effs t) = some r) {next : Act → World → Prop} {Q : Exit → Act → World → Prop}
    (hn : ∀ t v s u γ' w', ρ.R t → relSt d s0 os (ρ.out t) (ρ.effs t) = some (v, s) → Rel w0 M T γ' s a w' → RepAV (viewOf w0 T γ' s w') v u → next (a.put o.dst u) w') : o.wp P a w next Q := by
  unfold relOf at hc
  split at hc
  case h_2 => cases hc
  next x args tys hop =>
  split at hc
  case h_2 => cases hc
  next f caps hx =>
  have hv := ev_rep h x
  rw [hx] at hv
  obtain ⟨us, hvx, hkx⟩ := hv
  split at hc
  case h_2 => cases hc
  next ms con hcon =>
  split at hc
  case h_2 => cases hc
  next vs os' hhands =>
  split at hc
  case h_2 => cases hc
  next q ρ' hq =>
  cases hc
  have hF := h.freeze (giveSet st ms args.toList caps)
  obtain ⟨hok, hcall⟩ := hE.xcons f ms con hcon
  unfold Oper.wp
  rw [exec_call hop hvx hcall, Oper.upon_enter]
  have hxs : RepAVs (viewOf w0 T γ (giveSt st ms args.toList caps) w) (giveAV st ms args.toList caps) (args.map a.eval ++ us).toList := by
    rw [Array.toList_append, Array.toList_map]
    exact RepAVs.freeze (giveSet st ms args.toList caps) h _ _ (handed_rep (f := f) h hkx args.toList)
  have hk : (d * 64 + 1) % 64 = 1 := by omega
  have hspec : ∀ t, ρ.R t → ∃ δ, (nodupO os = true ∧ apartX (ρ.effs t) ((ρ.out t).take (d * 64 + 1)).2 = true) ∧ backs (giveSt st ms args.toList caps) os (ρ.effs t) = some δ ∧ freshIn ((giveSt st ms args.toList caps).kill (lostBy os (ρ.effs t))) ((ρ.out t).take (d * 64 + 1)).2 = true ∧
      relSt d (giveSt st ms args.toList caps) os (ρ.out t) (ρ.effs t) = some (((ρ.out t).take (d * 64 + 1)).1, (((giveSt st ms args.toList caps).kill (lostBy os (ρ.effs t))).adds δ).adds ((ρ.out t).take (d * 64 + 1)).2) := by
    intro t ht
    obtain ⟨r, hr⟩ := hch t ht
    unfold relSt at hr
    split at hr
    · next δ hnd hb hfr =>
      rw [Bool.and_eq_true] at hnd
      refine ⟨δ, hnd, hb, hfr, ?_⟩
      unfold relSt
      rw [hnd.1, hnd.2, hb, hfr]
      rfl
    · cases hr
  obtain ⟨t0, ht0⟩ := (hok vs _ ρ hq hp).1
  obtain ⟨_, ⟨hnd, _⟩, _⟩ := hspec t0 ht0
  refine (hF.calledX hE hxs (hands_spec ms _ vs os hhands) hnd hk hok hq hp fun t ht => ?_).mono ?_
  · obtain ⟨δ, g1, g2, g3, _⟩ := hspec t ht
    exact ⟨δ, g2, g3, g1.2⟩
  · rintro e w' ⟨t, δ, ht, hb, u, γ', rfl, g1, g2⟩
    obtain ⟨δ', _, g3, _, g4⟩ := hspec t ht
    have hδ : δ' = δ := Option.some.inj (g3.symm.trans hb)
    subst hδ
    exact hn t _ _ u γ' w' ht g4 g1 g2

/-- One operation of the walk is sound. -/
theorem oper_sound {G : Glob} (hE : EnvOK P G Θ Γ w0 M) (h : Rel w0 M T γ st a w) (o : Oper) {d : Nat} {p : Prop} {v : AV} {s : St}
    (hc : oper Θ Γ d st o.op = some (p, v, s)) (hp : p) {next : Act → World → Prop} {Q : Exit → Act → World → Prop}
    (hn : ∀ u γ' w', Rel w0 M T γ' s a w' → RepAV (viewOf w0 T γ' s w') v u → next (a.put o.dst u) w') : o.wp P a w next Q := by
  unfold oper at hc
  split at hc
  · next q v' δ hcalm =>
    split at hc
    · next hfr =>
      cases hc
      exact calm_sound hE h o hcalm hp hfr hn
    · cases hc
  · exact eff_sound hE h o hc hp hn
end Go.Fw
/- A quiet operation yields the same where more is known. -/
namespace Go.Fw
open Go

/-- s knows all that st knows. -/
structure St.more (st s : St) : Prop where
  tmps : ∀ t, st.tmps t = .undef ∨ s.tmps t = st.tmps t
  objs : ∀ o x, st.objs o = some x → s.objs o = some x

variable {st s : St} {Θ : TEnv} {Γ : CEnv}

theorem ev_more (h : st.more s) (x : Operand) : st.ev x = .undef ∨ s.ev x = st.ev x := by
  cases x with
  | tmp t => exact h.tmps t
  | const v => exact .inr rfl
  | global g => exact .inr rfl
  | func f => exact .inr rfl
theorem ev_more' (h : st.more s) {x : Operand} {v : AV} (e : st.ev x = v) (hv : v ≠ .undef) : s.ev x = v := by
  rcases ev_more h x with h1 | h1
  · rw [e] at h1; exact absurd h1 hv
  · rw [h1, e]
theorem asInt_more (h : st.more s) {x : Operand} {n : Int} (e : asInt? (st.ev x) = some n) : asInt? (s.ev x) = some n := by
  rcases ev_more h x with h1 | h1
  · rw [h1] at e; cases e
  · rw [h1]; exact e

theorem get_more (h : st.more s) : ∀ (c : CT) (x : Cell) (d : c.den), x.get st c = some d → x.get s c = some d := by
  intro c x d hg
  cases c <;> cases x <;> simp only [Cell.get] at hg ⊢ <;> try exact hg
  case sl.ref e r o =>
    split at hg
    · next e' r' l fr ho =>
      rw [h.objs o _ ho]
      exact hg
    · cases hg
theorem rowGet_more (h : st.more s) : ∀ (r : CTs) (cs : List Cell) (d : r.den), rowGet st r cs = some d → rowGet s r cs = some d
  | .nil, [], _, hg => hg
  | .nil, _ :: _, _, hg => by simp [rowGet] at hg
  | .cons _ _, [], _, hg => by simp [rowGet] at hg
  | .cons c r, x :: xs, d, hg => by
    rw [rowGet] at hg ⊢
    split at hg
    · next a b ha hb =>
      rw [get_more h c x a ha, rowGet_more h r xs b hb]
      exact hg
    · cases hg

theorem buildIn_more (h : st.more s) (fs : List (Nat × TypeId)) : ∀ (ps : List (Nat × Operand)) (cs ds : List Cell), buildIn Θ st fs ps cs = some ds → buildIn Θ s fs ps cs = some ds
  | [], _, _, hb => hb
  | (i, x) :: r, cs, ds, hb => by
    rw [buildIn] at hb ⊢
    split at hb
    · next off t v hf hev =>
      rw [hf, ev_more' h hev (by simp)]
      dsimp only
      split at hb
      · next ti ht =>
        split at hb
        · next hle =>
          exact buildIn_more h fs r _ ds hb
        · cases hb
      · cases hb
    · cases hb
theorem rowsIn_more (h : st.more s) (r : CTs) : ∀ (ps : List (Nat × Operand)) (k : Nat) (l : List r.den), rowsIn st r k ps = some l → rowsIn s r k ps = some l
  | [], _, _, hb => hb
  | (i, x) :: ps, k, l, hb => by
    rw [rowsIn] at hb ⊢
    split at hb
    · next v l' hik hev hl =>
      rw [hik, ev_more' h hev (by simp), rowsIn_more h r ps (k + 1) l' hl]
      dsimp only
      split at hb
      · next y hy =>
        rw [rowGet_more h r _ y hy]
        exact hb
      · cases hb
    · cases hb
/-- What rowsIn could read has slots that are known. -/
theorem rowsIn_known (r : CTs) : ∀ (ps : List (Nat × Operand)) (k : Nat) (l : List r.den), rowsIn st r k ps = some l → ∀ x ∈ ps, ∃ v, st.ev x.2 = .sv v
  | [], _, _, _, x, hx => by cases hx
  | (i, y) :: ps, k, l, hb, x, hx => by
    rw [rowsIn] at hb
    split at hb
    · next v l' hik hev hl =>
      rcases List.mem_cons.1 hx with rfl | hx
      · exact ⟨v, hev⟩
      · exact rowsIn_known r ps (k + 1) l' hl x hx
    · cases hb
theorem partsRefs_more (h : st.more s) : ∀ (ps : List (Nat × Operand)), (∀ x ∈ ps, ∃ v, st.ev x.2 = .sv v) → partsRefs s ps = partsRefs st ps
  | [], _ => rfl
  | (i, x) :: ps, hk => by
    obtain ⟨v, hv⟩ := hk (i, x) List.mem_cons_self
    rw [partsRefs, partsRefs, partsRefs_more h ps (fun y hy => hk y (List.mem_cons_of_mem _ hy)), ev_more' h hv (by simp), hv]
theorem fresh_noref : ∀ (c : Cell), c.refs = [] → c.fresh s = c.fresh st
  | .int _ _, _ | .bool _, _ | .str _, _ | .nil, _ | .sl _ _ _ _, _ | .junk, _ => rfl
  | .ref _, h => by cases h
theorem fresh_all : ∀ (cs : List Cell), cs.flatMap Cell.refs = [] → cs.all (Cell.fresh s) = cs.all (Cell.fresh st)
  | [], _ => rfl
  | c :: cs, h => by
    rw [List.flatMap_cons, List.append_eq_nil_iff] at h
    rw [List.all_cons, List.all_cons, fresh_noref c h.1, fresh_all cs h.2]
theorem partsFresh_more (h : st.more s) : ∀ (ps : List (Nat × Operand)), (∀ x ∈ ps, ∃ v, st.ev x.2 = .sv v) → partsRefs st ps = [] → partsFresh s ps = partsFresh st ps
  | [], _, _ => rfl
  | (i, x) :: ps, hk, hr => by
    obtain ⟨v, hv⟩ := hk (i, x) List.mem_cons_self
    rw [partsRefs, List.append_eq_nil_iff, hv] at hr
    rw [partsFresh, partsFresh, partsFresh_more h ps (fun y hy => hk y (List.mem_cons_of_mem _ hy)) hr.2, ev_more' h hv (by simp), hv]
    dsimp only
    rw [fresh_all v.cells hr.1]

theorem view_more (h : st.more s) : ∀ (c : Cell), c.ok st = true → c.view s = c.view st ∧ c.ok s = true
  | .int _ _, _ | .bool _, _ | .str _, _ | .nil, _ | .sl _ _ _ _, _ | .junk, _ => ⟨rfl, rfl⟩
  | .ref o, hk => by
    simp only [Cell.ok] at hk
    split at hk
    · next e r l fr ho => exact ⟨by simp only [Cell.view, ho, h.objs o _ ho], by simp only [Cell.ok, h.objs o _ ho]⟩
    · cases hk
theorem views_more (h : st.more s) : ∀ (cs : List Cell), cs.all (Cell.ok st) = true → cs.map (Cell.view s) = cs.map (Cell.view st) ∧ cs.all (Cell.ok s) = true
  | [], _ => ⟨rfl, rfl⟩
  | c :: cs, hk => by
    rw [List.all_cons, Bool.and_eq_true] at hk
    obtain ⟨h1, h2⟩ := view_more h c hk.1
    obtain ⟨h3, h4⟩ := views_more h cs hk.2
    exact ⟨by rw [List.map_cons, List.map_cons, h1, h3], by rw [List.all_cons, h2, h4]; rfl⟩
theorem viewSV_more (h : st.more s) (v : SV) (hk : v.cells.all (Cell.ok st) = true) : v.view s = v.view st ∧ v.cells.all (Cell.ok s) = true := by
  obtain ⟨h1, h2⟩ := views_more h v.cells hk
  refine ⟨?_, h2⟩
  cases v with
  | one c => simp only [SV.cells, List.map_cons, List.map_nil, List.cons.injEq, and_true] at h1; simp only [SV.view, h1]
  | agg cs => simp only [SV.cells] at h1; simp only [SV.view, h1]
theorem argsOf_more (h : st.more s) : ∀ (xs : List AV) (vs : List Arg), argsOf st xs = some vs → argsOf s xs = some vs
  | [], _, hv => hv
  | x :: xs, vs, hv => by
    unfold argsOf at hv ⊢
    split at hv
    · next v us hu =>
      rw [argsOf_more h xs us hu]
      split at hv
      · next hk =>
        obtain ⟨h1, h2⟩ := viewSV_more h v hk
        dsimp only
        rw [h2, h1]
        exact hv
      · cases hv
    · next cs off us hu =>
      rw [argsOf_more h xs us hu]
      split at hv
      · next hk =>
        rw [Bool.and_eq_true] at hk
        obtain ⟨h1, h2⟩ := views_more h cs hk.2
        dsimp only
        rw [hk.1, h2, h1]
        exact hv
      · cases hv
    · next f caps us hu =>
      rw [argsOf_more h xs us hu]
      split at hv
      · next hk =>
        have key : ∀ (caps : List (List Cell)), caps.all (List.all · (Cell.ok st)) = true → caps.map (List.map (Cell.view s)) = caps.map (List.map (Cell.view st)) ∧ caps.all (List.all · (Cell.ok s)) = true := by
          intro caps
          induction caps with
          | nil => intro _; exact ⟨rfl, rfl⟩
          | cons cs l ih =>
            intro hk
            rw [List.all_cons, Bool.and_eq_true] at hk
            obtain ⟨h1, h2⟩ := views_more h cs hk.1
            obtain ⟨h3, h4⟩ := ih hk.2
            exact ⟨by rw [List.map_cons, List.map_cons, h1, h3], by rw [List.all_cons, h2, h4]; rfl⟩
        obtain ⟨h1, h2⟩ := key caps hk
        dsimp only
        rw [h2, h1]
        exact hv
      · cases hv
    · cases hv
theorem argsOf_known : ∀ (xs : List AV) (vs : List Arg), argsOf st xs = some vs → ∀ x ∈ xs, x ≠ .undef
  | [], _, _, x, hx => by cases hx
  | y :: xs, vs, hv, x, hx => by
    unfold argsOf at hv
    split at hv
    · next v us hu =>
      rcases List.mem_cons.1 hx with rfl | hx
      · simp
      · exact argsOf_known xs us hu x hx
    · next cs off us hu =>
      rcases List.mem_cons.1 hx with rfl | hx
      · simp
      · exact argsOf_known xs us hu x hx
    · next f caps us hu =>
      rcases List.mem_cons.1 hx with rfl | hx
      · simp
      · exact argsOf_known xs us hu x hx
    · cases hv
theorem handed_more (h : st.more s) (caps : List (List Cell)) : ∀ (xs : List Operand), (∀ x ∈ handed st xs caps, x ≠ .undef) → handed s xs caps = handed st xs caps
  | [], _ => rfl
  | x :: xs, hk => by
    have h1 : s.ev x = st.ev x := ev_more' h rfl (hk _ List.mem_cons_self)
    have h2 := handed_more h caps xs fun y hy => hk y (List.mem_cons_of_mem _ hy)
    show s.ev x :: handed s xs caps = st.ev x :: handed st xs caps
    rw [h1, h2]
theorem heldBy_more (h : st.more s) : ∀ (xs : List Operand) (l : List (List Cell)), heldBy st xs = some l → heldBy s xs = some l
  | [], _, hl => hl
  | x :: xs, l, hl => by
    rw [heldBy] at hl ⊢
    split at hl
    · next cs off l' hx hl' =>
      rw [ev_more' h hx (by simp), heldBy_more h xs l' hl']
      exact hl
    · cases hl
theorem cut_more (h : st.more s) (len : Nat) (lo hi : Option Operand) {r : Prop × Nat × Nat} (hb : cutBounds st len lo hi = some r) : cutBounds s len lo hi = some r := by
  cases lo <;> cases hi <;> simp only [cutBounds] at hb ⊢
  · exact hb
  · split at hb
    · next b e => rw [asInt_more h e]; exact hb
    · cases hb
  · split at hb
    · next b e => rw [asInt_more h e]; exact hb
    · cases hb
  · split at hb
    · next b c e1 e2 => rw [asInt_more h e1, asInt_more h e2]; exact hb
    · cases hb

/-- The value may be known better. -/
def AV.less (v v' : AV) : Prop := v = .undef ∨ v' = v

theorem calm_more (h : st.more s) (d : Nat) (o : Op) {p : Prop} {v : AV} {δ : List (Nat × AObj)} (hc : calm Θ Γ d st o = some (p, v, δ)) :
    ∃ v', calm Θ Γ d s o = some (p, v', δ) ∧ v.less v' := by
  have same : ∀ {r : Option (Prop × AV × List (Nat × AObj))}, r = some (p, v, δ) → calm Θ Γ d s o = r → ∃ v', calm Θ Γ d s o = some (p, v', δ) ∧ v.less v' :=
    fun h1 h2 => ⟨v, h2.trans h1, .inr rfl⟩
  cases o <;> try (simp only [calm, reduceCtorEq] at hc; done)
  case move x => simp only [calm] at hc ⊢; cases hc; exact ⟨_, rfl, ev_more h x⟩
  case assign x => simp only [calm] at hc ⊢; cases hc; exact ⟨_, rfl, ev_more h x⟩
  case pick c x y =>
    simp only [calm] at hc ⊢
    split at hc
    · next g hg =>
      cases hc
      rw [ev_more' h hg (by simp)]
      refine ⟨_, rfl, ?_⟩
      cases g
      · exact ev_more h y
      · exact ev_more h x
    · cases hc
  case nilCheck x =>
    simp only [calm] at hc ⊢
    split at hc
    · next a b e => rw [ev_more' h e (by simp)]; exact ⟨v, hc, .inr rfl⟩
    · next a b c e => rw [ev_more' h e (by simp)]; exact ⟨v, hc, .inr rfl⟩
    · next a b c d e => rw [ev_more' h e (by simp)]; exact ⟨v, hc, .inr rfl⟩
    · next a b e => rw [ev_more' h e (by simp)]; exact ⟨v, hc, .inr rfl⟩
    · next a b e => rw [ev_more' h e (by simp)]; exact ⟨v, hc, .inr rfl⟩
    · cases hc
  case makeFunc fn first captured =>
    cases fn <;> try (simp only [calm, reduceCtorEq] at hc; done)
    case func f =>
      simp only [calm] at hc ⊢
      split at hc
      · next l hfirst hl =>
        rw [heldBy_more h _ _ hl, hfirst]
        exact ⟨v, hc, .inr rfl⟩
      · cases hc
  case alloc t => exact ⟨v, hc, .inr rfl⟩
  case box t x =>
    simp only [calm] at hc ⊢
    split at hc
    · next a e => rw [ev_more' h e (by simp)]; exact ⟨v, hc, .inr rfl⟩
    · cases hc
  case build t parts =>
    simp only [calm] at hc ⊢
    split at hc
    · next ti ht =>
      split at hc
      · next fs hk =>
        split at hc
        · next cs hb =>
          rw [buildIn_more h _ _ _ _ hb]
          exact ⟨v, hc, .inr rfl⟩
        · cases hc
      · cases hc
    · cases hc
  case buildSlice t len parts =>
    simp only [calm] at hc ⊢
    split at hc
    · next ti ht =>
      split at hc
      · next e hk =>
        split at hc
        · next te he =>
          split at hc
          · next l hb hrefs hrows =>
            have hkn := rowsIn_known _ _ _ _ hrows
            rw [hb, partsRefs_more h _ hkn, hrefs, rowsIn_more h _ _ _ _ hrows, partsFresh_more h _ hkn hrefs]
            exact ⟨v, hc, .inr rfl⟩
          · cases hc
        · cases hc
      · cases hc
    · cases hc
  case makeSlice t x y =>
    simp only [calm] at hc ⊢
    split at hc
    · next ti n c ht hn hcc =>
      rw [ht, asInt_more h hn, asInt_more h hcc]
      exact ⟨v, hc, .inr rfl⟩
    · cases hc
  case load t x =>
    simp only [calm] at hc ⊢
    split at hc
    · next ti o off ht he =>
      rw [ht, ev_more' h he (by simp)]
      split at hc
      · next cs ho =>
        dsimp only
        rw [h.objs o _ ho]
        exact ⟨v, hc, .inr rfl⟩
      · cases hc
    · next ti o i off ht he =>
      rw [ht, ev_more' h he (by simp)]
      split at hc
      · next e r l fr ho =>
        dsimp only
        rw [h.objs o _ ho]
        exact ⟨v, hc, .inr rfl⟩
      · cases hc
    · next ti r y off fr ht he =>
      rw [ht, ev_more' h he (by simp)]
      exact ⟨v, hc, .inr rfl⟩
    · next ti cs off ht he =>
      rw [ht, ev_more' h he (by simp)]
      exact ⟨v, hc, .inr rfl⟩
    · cases hc
  case fieldAddr t x f =>
    simp only [calm] at hc ⊢
    split at hc
    · next ti ht =>
      split at hc
      · next fs hk =>
        split at hc
        · next k t hf =>
          split at hc
          · next te hte =>
            split at hc
            · cases hc
            · next a b e hne => rw [ev_more' h e (by simp)]; cases hcell : te.cells with | nil => exact (hne hcell).elim | cons _ _ => exact ⟨v, hc, .inr rfl⟩
            · next a b c e hne => rw [ev_more' h e (by simp)]; cases hcell : te.cells with | nil => exact (hne hcell).elim | cons _ _ => exact ⟨v, hc, .inr rfl⟩
            · next a b c d e hne => rw [ev_more' h e (by simp)]; cases hcell : te.cells with | nil => exact (hne hcell).elim | cons _ _ => exact ⟨v, hc, .inr rfl⟩
            · next a b e hne => rw [ev_more' h e (by simp)]; cases hcell : te.cells with | nil => exact (hne hcell).elim | cons _ _ => exact ⟨v, hc, .inr rfl⟩
            · cases hc
          · cases hc
        · cases hc
      · cases hc
    · cases hc
  case field t x f =>
    simp only [calm] at hc ⊢
    split at hc
    · next ti ht =>
      split at hc
      · next fs hk =>
        split at hc
        · next k t cs hf e =>
          rw [hf, ev_more' h e (by simp)]
          exact ⟨v, hc, .inr rfl⟩
        · cases hc
      · cases hc
    · cases hc
  case indexAddr t x ix =>
    simp only [calm] at hc ⊢
    split at hc
    · next ti n ht hn =>
      rw [ht, asInt_more h hn]
      try dsimp only
      split at hc
      · next e hk =>
        split at hc
        · next te e' r l fr he hev => rw [he, ev_more' h hev (by simp)]; exact ⟨v, hc, .inr rfl⟩
        · next te o he hev =>
          rw [he, ev_more' h hev (by simp)]
          try dsimp only
          split at hc
          · next a b c d ho =>
            rw [h.objs o _ ho]
            exact ⟨v, hc, .inr rfl⟩
          · cases hc
        · next te he hev => rw [he, ev_more' h hev (by simp)]; exact ⟨v, hc, .inr rfl⟩
        · cases hc
      · cases hc
    · cases hc
  case index t x ix =>
    simp only [calm] at hc ⊢
    split at hc
    · next ti n b ht hn hev =>
      rw [ht, asInt_more h hn, ev_more' h hev (by simp)]
      exact ⟨v, hc, .inr rfl⟩
    · cases hc
  case binOp op t x y t' =>
    simp only [calm] at hc ⊢
    split at hc
    · next a b e1 e2 =>
      rw [ev_more' h e1 (by simp), ev_more' h e2 (by simp)]
      exact ⟨v, hc, .inr rfl⟩
    · next a b e1 e2 =>
      rw [ev_more' h e1 (by simp), ev_more' h e2 (by simp)]
      exact ⟨v, hc, .inr rfl⟩
    · cases hc
  case unOp op t x =>
    simp only [calm] at hc ⊢
    split at hc
    · next b e => rw [ev_more' h e (by simp)]; exact ⟨v, hc, .inr rfl⟩
    · next k n e => rw [ev_more' h e (by simp)]; exact ⟨v, hc, .inr rfl⟩
    · cases hc
  case convert a b x =>
    simp only [calm] at hc ⊢
    split at hc
    · next ts td c hs hd e =>
      rw [hs, hd, ev_more' h e (by simp)]
      try dsimp only
      split at hc
      · cases hc
      · next hagg =>
        rw [if_neg hagg]
        split at hc
        · exact ⟨v, hc, .inr rfl⟩
        · exact ⟨v, hc, .inr rfl⟩
        · exact ⟨v, hc, .inr rfl⟩
        · next e' c' e1 e2 =>
          split at hc
          · next l te hl hte =>
            rw [get_more h _ _ _ hl, hte]
            exact ⟨v, hc, .inr rfl⟩
          · cases hc
        · cases hc
    · cases hc
  case extract x i =>
    simp only [calm] at hc ⊢
    split at hc
    · next a e => rw [ev_more' h e (by simp)]; exact ⟨v, hc, .inr rfl⟩
    · cases hc
  case slice t x lo hi mx =>
    cases mx with
    | some m => simp only [calm, reduceCtorEq] at hc
    | none =>
      simp only [calm] at hc ⊢
      split at hc
      · next ti b ht e =>
        rw [ht, ev_more' h e (by simp)]
        try dsimp only
        split at hc
        · next p' x' y' hk hb => rw [hk, cut_more h _ _ _ hb]; exact ⟨v, hc, .inr rfl⟩
        · cases hc
      · next ti e' r l fr ht e =>
        rw [ht, ev_more' h e (by simp)]
        try dsimp only
        split at hc
        · next f p' x' y' hk hb => rw [hk, cut_more h _ _ _ hb]; exact ⟨v, hc, .inr rfl⟩
        · cases hc
      · next ti ht e =>
        rw [ht, ev_more' h e (by simp)]
        try dsimp only
        split at hc
        · next f p' x' y' hk hb => rw [hk, cut_more h _ _ _ hb]; exact ⟨v, hc, .inr rfl⟩
        · cases hc
      · cases hc
  case call c =>
    obtain ⟨callee, args, tys⟩ := c
    cases callee with
    | invoke r m => simp only [calm, reduceCtorEq] at hc
    | builtin b =>
      cases b <;> try (simp only [calm, reduceCtorEq] at hc; done)
      case len =>
        simp only [calm] at hc ⊢
        split at hc
        · next x t hargs htys =>
          split at hc
          · next ti c ht e =>
            rw [ht, ev_more' h e (by simp)]
            try dsimp only
            split at hc
            · next b hk => exact ⟨v, hc, .inr rfl⟩
            · next a b c d e hk => exact ⟨v, hc, .inr rfl⟩
            · next a hk => exact ⟨v, hc, .inr rfl⟩
            · next a o hk =>
              split at hc
              · next e' r l fr ho =>
                rw [h.objs o _ ho]
                exact ⟨v, hc, .inr rfl⟩
              · cases hc
            · cases hc
          · cases hc
        · cases hc
      case min =>
        simp only [calm] at hc ⊢
        split at hc
        · next x y hargs =>
          split at hc
          · next a b c d e1 e2 =>
            rw [ev_more' h e1 (by simp), ev_more' h e2 (by simp)]
            exact ⟨v, hc, .inr rfl⟩
          · cases hc
        · cases hc
      case max =>
        simp only [calm] at hc ⊢
        split at hc
        · next x y hargs =>
          split at hc
          · next a b c d e1 e2 =>
            rw [ev_more' h e1 (by simp), ev_more' h e2 (by simp)]
            exact ⟨v, hc, .inr rfl⟩
          · cases hc
        · cases hc
    | value x =>
      simp only [calm] at hc ⊢
      split at hc
      · next f caps hx =>
        rw [ev_more' h hx (by simp)]
        dsimp only
        split at hc
        · next con vs hcon hargs =>
          rw [hcon, handed_more h caps _ (argsOf_known _ _ hargs), argsOf_more h _ _ hargs]
          exact ⟨v, hc, .inr rfl⟩
        · cases hc
      · cases hc
end Go.Fw
/- Regions in the order of their text. -/
namespace Go.Fw
open Go

variable {P : Program} {w0 : World} {M : Nat → Prop} {T : Ext} {γ γ' : Nat → Value} {st : St} {a : Act} {w w' : World} {Θ : TEnv} {Γ : CEnv}

/-- The number by which the objects are named that an operation makes. -/
def numOf (st : St) (o : Oper) : Nat := match o.dst with | some d => d | none => st.n
def ofNum (d o : Nat) : Bool := Nat.beq (o / 64) d
def arrNum (d o : Nat) : Bool := Nat.beq (o / 64) d && !(Nat.beq (o % 64) 0)
def makes : Op → Bool
  | .alloc _ | .box _ _ | .buildSlice _ _ _ | .makeSlice _ _ _ => true
  | .call { callee := .value _, .. } => true
  | _ => false
def makesArr : Op → Bool
  | .buildSlice _ _ _ | .makeSlice _ _ _ => true
  | .call { callee := .value _, .. } => true
  | _ => false

/-- One operation; where the names of its new objects are taken, what bore them is let go. -/
def oper' (Θ : TEnv) (Γ : CEnv) (d : Nat) (st : St) (op : Op) : Option (Prop × AV × St) :=
  match oper Θ Γ d st op with
  | some r => some r
  | none => match makes op with
    | true => oper Θ Γ d (st.kill (ofNum d)) op
    | false => none

/-- Does the operation ask nothing? -/
def quiet (st : St) : Op → Bool
  | .move _ | .assign _ | .nilCheck _ | .pick _ _ _ | .alloc _ | .box _ _ | .build _ _ | .buildSlice _ _ _ | .fieldAddr _ _ _ | .field _ _ _ | .unOp _ _ _ | .convert _ _ _ | .extract _ _ | .makeFunc _ _ _ => true
  | .call { callee := .builtin .len, .. } | .call { callee := .builtin .min, .. } | .call { callee := .builtin .max, .. } => true
  | .load _ p => match st.ev p with | .eptr _ _ _ => false | _ => true
  | .store _ p _ => match st.ev p with | .vptr _ _ => true | _ => false
  | .binOp op _ x _ _ => match op with
    | .quo | .rem | .shl | .shr => false
    | .add => match st.ev x with | .sv (.one (.str _)) => false | _ => true
    | _ => true
  | _ => false

theorem binInt_quiet {op : BinOp} {k : IntKind} {x y : Int} {p : Prop} {c : Cell} (h : binInt op k x y = some (p, c)) (h1 : op ≠ .quo) (h2 : op ≠ .rem) : p := by
  cases op <;> simp only [binInt, reduceCtorEq] at h <;> first | (cases h; trivial) | exact (h1 rfl).elim | exact (h2 rfl).elim
theorem binStr_quiet {op : BinOp} {x y : Bytes} {p : Prop} {c : Cell} (h : binStr op x y = some (p, c)) (h1 : op ≠ .add) : p := by
  cases op <;> simp only [binStr, reduceCtorEq] at h <;> first | (cases h; trivial) | exact (h1 rfl).elim
theorem binCell_quiet {op : BinOp} {x y : Cell} {p : Prop} {c : Cell} (h : binCell op x y = some (p, c)) (h1 : op ≠ .quo) (h2 : op ≠ .rem) (h3 : op ≠ .shl) (h4 : op ≠ .shr)
    (h5 : op = .add → ∀ s, x ≠ .str s) : p := by
  unfold binCell at h
  split at h
  · split at h
    · exact (h3 rfl).elim
    · exact (h4 rfl).elim
    · split at h
      · exact binInt_quiet h h1 h2
      · cases h
  · exact binStr_quiet h fun e => h5 e _ rfl
  · split at h
    · cases h; trivial
    · cases h; trivial
    · cases h
  · cases h

theorem calm_quiet {d : Nat} {op : Op} {p : Prop} {v : AV} {δ : List (Nat × AObj)} (hc : calm Θ Γ d st op = some (p, v, δ)) (hq : quiet st op = true) : p := by
  cases op <;> try (simp only [calm, reduceCtorEq] at hc; done)
  case binOp op t x y t' =>
    simp only [calm] at hc
    split at hc
    · next a b e1 e2 =>
      split at hc
      · split at hc
        · next q c hb =>
          cases hc
          refine binCell_quiet hb ?_ ?_ ?_ ?_ ?_
          · rintro rfl; simp [quiet] at hq
          · rintro rfl; simp [quiet] at hq
          · rintro rfl; simp [quiet] at hq
          · rintro rfl; simp [quiet] at hq
          · rintro rfl s rfl; simp [quiet, e1] at hq
        · cases hc
      · cases hc
    · split at hc
      · split at hc
        · split at hc
          · cases hc; trivial
          · cases hc
        · split at hc
          · cases hc; trivial
          · cases hc
        · cases hc
      · cases hc
    · cases hc
  case load t x =>
    simp only [calm] at hc
    split at hc
    · split at hc
      · split at hc
        · cases hc; trivial
        · cases hc
      · cases hc
    · next e => simp [quiet, e] at hq
    · split at hc
      · cases hc; trivial
      · cases hc
    · split at hc
      · cases hc; trivial
      · cases hc
    · cases hc
  case call c =>
    obtain ⟨callee, args, tys⟩ := c
    cases callee with
    | invoke r m => simp only [calm, reduceCtorEq] at hc
    | builtin b =>
      cases b <;> first
        | (simp only [calm, reduceCtorEq] at hc; done)
        | (simp only [calm] at hc
           repeat' (first | (cases hc; done) | (cases hc; trivial) | (split at hc)))
    | value x => simp [quiet] at hq
  all_goals first
    | (simp [quiet] at hq; done)
    | (simp only [calm] at hc
       repeat' (first | (cases hc; done) | (cases hc; trivial) | (split at hc)))

theorem store_quiet {pt : AV} {v : SV} {q : Prop} {s : St} (h : store st pt v = some (q, s)) (hv : ∀ o i off, pt ≠ .eptr o i off) : q := by
  unfold store at h
  split at h
  · split at h
    · split at h
      · cases h; trivial
      · cases h
    · cases h
  · exact (hv _ _ _ rfl).elim
  · cases h

theorem eff_quiet {d : Nat} {op : Op} {p : Prop} {v : AV} {s : St} (hc : eff Θ Γ d st op = some (p, v, s)) (hq : quiet st op = true) : p := by
  cases op <;> try (simp only [eff, reduceCtorEq] at hc; done)
  case store t pt x =>
    simp only [eff] at hc
    split at hc
    · split at hc
      · split at hc
        · next q s' hs =>
          cases hc
          refine store_quiet hs ?_
          intro o i off e
          cases hp : st.ev pt <;> rw [hp] at e <;> simp only [AV.freeze, reduceCtorEq] at e
          · split at e <;> cases e
          · simp [quiet, hp] at hq
        · cases hc
      · cases hc
    · cases hc
  case buildSlice t n parts =>
    simp only [eff] at hc
    split at hc
    · next q v' δ hcalm =>
      split at hc
      · cases hc
        exact calm_quiet hcalm rfl
      · cases hc
    · cases hc
  case slice t x lo hi mx => simp [quiet] at hq
  case call c =>
    obtain ⟨callee, args, tys⟩ := c
    cases callee with
    | invoke r m => simp only [eff, reduceCtorEq] at hc
    | builtin b => cases b <;> first | (simp only [eff, reduceCtorEq] at hc; done) | (simp [quiet] at hq; done)
    | value x => simp [quiet] at hq

theorem oper_quiet {d : Nat} {op : Op} {p : Prop} {v : AV} {s : St} (hc : oper Θ Γ d st op = some (p, v, s)) (hq : quiet st op = true) : p := by
  unfold oper at hc
  split at hc
  · next q v' δ hcalm =>
    split at hc
    · cases hc
      exact calm_quiet hcalm hq
    · cases hc
  · exact eff_quiet hc hq

def isBox : Op → Bool | .box _ _ => true | _ => false
def landArr (own : Nat → Bool) (d : Nat) (o : Oper) (v : AV) (s : St) : St :=
  match makesArr o.op && !(own d) && ((s.objs (d * 64 + 1)).isSome || (s.objs (d * 64 + 2)).isSome || (s.objs (d * 64 + 3)).isSome) with
  | true => (s.put o.dst v).freeze (arrNum d)
  | false => s.put o.dst v
/-- A variable that does not change any more. -/
def AV.fixed (o : Nat) (cs : List Cell) : AV → AV
  | .vptr p off => match Nat.beq o p with | true => .kptr (cs.map (Cell.kill (Nat.beq o ·))) off | false => .vptr p off
  | v => v.kill (Nat.beq o ·)
def St.fix (st : St) (o : Nat) : St :=
  match st.objs o with
  | some (.var cs) => { st.kill (Nat.beq o ·) with tmps := fun t => (st.tmps t).fixed o cs }
  | _ => st
theorem Rel.fix (h : Rel w0 M T γ st a w) (o : Nat) : Rel w0 M T γ (st.fix o) a w := by
  unfold St.fix
  split
  · next cs ho =>
    have hk := h.kill (Nat.beq o ·)
    refine ⟨hk.mT, hk.defers, hk.size, hk.os, hk.tape, hk.output, hk.grow, hk.kept, fun t => ?_, hk.objs, hk.lt, hk.sep, hk.pin⟩
    have hv := h.tmps t
    have hkv := RepAV.kill (Nat.beq o ·) h _ _ hv
    show RepAV (viewOf w0 T γ (st.kill (Nat.beq o ·)) w) ((st.tmps t).fixed o cs) _
    cases hst : st.tmps t with
    | vptr p off =>
      rw [hst] at hv hkv
      simp only [AV.fixed]
      cases hb : Nat.beq o p with
      | false => simp only [AV.kill, hb] at hkv; exact hkv
      | true =>
        have hop := Nat.eq_of_beq_eq_true hb
        subst hop
        obtain ⟨b, cs', _, hγ, hval⟩ := hv
        obtain ⟨b', arr, t', hγ', hh, hr⟩ := h.objs o _ ho
        have hbb : b' = b := by
          have h1 : γ o = .pointer (some ⟨b, 0, none⟩) := hγ
          have h2 : γ o = .pointer (some ⟨b', 0, none⟩) := hγ'
          rw [h1] at h2; simpa using h2.symm
        subst hbb
        have hbl : blk (γ o) = some b' := by have h2 : γ o = .pointer (some ⟨b', 0, none⟩) := hγ'; rw [h2]; rfl
        refine ⟨b', hval, arr, t', (0, 0), ⟨(h.lt o _ b' ho hbl).1, fun hlt => h.mT b' ((h.lt o _ b' ho hbl).2.resolve_left (by have hlt' : b' < w0.heap.size := hlt; omega)), fun q y hq => ?_⟩, hh, RepCells.kill _ h cs _ hr⟩
        obtain ⟨z, hz, _, hqS⟩ := kill_some (Nat.beq o ·) hq
        exact h.sep o _ q z b' ho hz (fun e => by rw [← e] at hqS; simp at hqS) hbl
    | _ => rw [hst] at hkv; exact hkv
  · exact h
/-- What one operation leaves, when its value is put in its place; new arrays that are not kept as own ones are let go; a new variable that is not kept as one does not change any more. -/
def land (own : Nat → Bool) (d : Nat) (o : Oper) (v : AV) (s : St) : St :=
  match isBox o.op && !(own d) with
  | true => (s.put o.dst v).fix (d * 64)
  | false => landArr own d o v s

def okDst (st : St) (o : Oper) : Bool := match o.dst with | some d => Nat.blt d st.n | none => true

/-- Where the names of a call's new objects are taken, what bore them is let go. -/
def roomy (d : Nat) (st : St) : St :=
  match (st.objs (d * 64)).isSome || (st.objs (d * 64 + 1)).isSome || (st.objs (d * 64 + 2)).isSome || (st.objs (d * 64 + 3)).isSome with
  | true => st.kill (ofNum d)
  | false => st
def relTry (Γ : CEnv) (d : Nat) (st : St) (op : Op) : Option (Prop × ROut × List (Option Nat) × St) :=
  match relOf Γ (roomy d st) op with
  | some r => some r
  | none => relOf Γ st op
def runOne (Θ : TEnv) (Γ : CEnv) (own : Nat → Bool) (o : Oper) (K : St → Prop) (st : St) : Prop :=
  match okDst st o with
  | true => match relTry Γ (numOf st o) st o.op with
    | some (p, ρ, os, s0) => p ∧ ∀ t, ρ.R t → match relSt (numOf st o) s0 os (ρ.out t) (ρ.effs t) with
      | some (v, s) => K (land own (numOf st o) o v s)
      | none => False
    | none => match oper' Θ Γ (numOf st o) st o.op, quiet st o.op with
      | some (p, v, s), q => match q with
        | true => K (land own (numOf st o) o v s)
        | false => p ∧ K (land own (numOf st o) o v s)
      | none, _ => False
  | false => False

def boolEq : Bool → Bool → Bool
  | true, b => b
  | false, true => false
  | false, false => true

/-- Where an operation is only wanted if another yielded b. -/
def guarded (ops : List Oper) (o : Oper) (one : St → Prop) (skip : St → Prop) (st : St) : Prop :=
  match o.guard with
  | none => one st
  | some (g, b) => match ops[g]? with
    | some og => match og.dst with
      | some t => match okDst st o, Nat.blt t st.n, st.tmps t with
        | true, true, .sv (.one (.bool x)) => cond x
          (match b with | true => one (st.set t (.sv (.one (.bool true)))) | false => skip ((st.set t (.sv (.one (.bool true)))).put o.dst (.tup [])))
          (match b with | false => one (st.set t (.sv (.one (.bool false)))) | true => skip ((st.set t (.sv (.one (.bool false)))).put o.dst (.tup [])))
        | true, true, .tup _ => skip (st.put o.dst (.tup []))
        | _, _, _ => False
      | none => False
    | none => False

def runs (Θ : TEnv) (Γ : CEnv) (own : Nat → Bool) (ops : List Oper) (K : St → Prop) : List Oper → St → Prop
  | [], st => K st
  | o :: r, st => guarded ops o (runOne Θ Γ own o (runs Θ Γ own ops K r)) (runs Θ Γ own ops K r) st

theorem set_self {t : Nat} {v : AV} (h : st.tmps t = v) : st.set t v = st := by
  cases st with
  | mk n tm ob =>
    simp only [St.set, St.mk.injEq, true_and, and_true]
    funext x
    cases hb : Nat.beq x t with
    | true => rw [Nat.eq_of_beq_eq_true hb]; exact h.symm
    | false => rfl

theorem oper_n {d : Nat} {op : Op} {p : Prop} {v : AV} {s : St} (_hc : oper Θ Γ d st op = some (p, v, s)) (h : Rel w0 M T γ s a w) (h' : Rel w0 M T γ' st a w') : s.n = st.n := by
  rw [← h.size, ← h'.size]

theorem runOne_sound {G : Glob} (hE : EnvOK P G Θ Γ w0 M) {own : Nat → Bool} {o : Oper} {K : St → Prop} (h : Rel w0 M T γ st a w) (hr : runOne Θ Γ own o K st)
    {next : Act → World → Prop} {Q : Exit → Act → World → Prop} (hn : ∀ s γ' a' w', K s → Rel w0 M T γ' s a' w' → next a' w') : o.wp P a w next Q := by
  unfold runOne at hr
  split at hr
  · next hd =>
    have land1 : ∀ (s : St) (v : AV) (u : Value) (γ' : Nat → Value) (w' : World), Rel w0 M T γ' s a w' → RepAV (viewOf w0 T γ' s w') v u → K (land own (numOf st o) o v s) → next (a.put o.dst u) w' := by
      intro s v u γ' w' hR hv hK
      have hsz : s.n = st.n := by rw [← hR.size, h.size]
      have hput : Rel w0 M T γ' (s.put o.dst v) (a.put o.dst u) w' := by
        cases hdst : o.dst with
        | none => exact hR
        | some d =>
          rw [okDst, hdst] at hd
          refine hR.set d ?_ v u hv
          rw [hsz]
          simpa [Nat.blt_eq] using hd
      unfold land at hK
      split at hK
      · exact hn _ γ' _ _ hK (hput.fix _)
      · unfold landArr at hK
        split at hK
        · exact hn _ γ' _ _ hK (hput.freeze _)
        · exact hn _ γ' _ _ hK hput
    have main : ∀ (st1 : St) (_ : Rel w0 M T γ st1 a w) (_ : st1.n = st.n) (p : Prop) (v : AV) (s : St), oper Θ Γ (numOf st o) st1 o.op = some (p, v, s) → p → K (land own (numOf st o) o v s) → o.wp P a w next Q := by
      intro st1 h1 hn1 p v s hop hp hK
      exact oper_sound hE h1 o hop hp fun u γ' w' hR hv => land1 s v u γ' w' hR hv hK
    have rel1 : ∀ (st1 : St) (_ : Rel w0 M T γ st1 a w) (p : Prop) (ρ : ROut) (os : List (Option Nat)) (s0 : St), relOf Γ st1 o.op = some (p, ρ, os, s0) →
        (p ∧ ∀ t, ρ.R t → match relSt (numOf st o) s0 os (ρ.out t) (ρ.effs t) with | some (v, s) => K (land own (numOf st o) o v s) | none => False) → o.wp P a w next Q := by
      intro st1 h1 p ρ os s0 hrel ⟨hp, hall⟩
      refine rel_sound hE h1 o (d := numOf st o) hrel hp (fun t ht => ?_) fun t v s u γ' w' ht hs hR hv => ?_
      · have := hall t ht
        split at this
        · next v s hs => exact ⟨_, hs⟩
        · exact this.elim
      · have := hall t ht
        rw [hs] at this
        exact land1 s v u γ' w' hR hv this
    split at hr
    · next p ρ os s0 hrel =>
      unfold relTry at hrel
      split at hrel
      · next r hr0 =>
        cases hrel
        have hroom : Rel w0 M T γ (roomy (numOf st o) st) a w := by
          unfold roomy
          split
          · exact h.kill _
          · exact h
        exact rel1 _ hroom p ρ os s0 hr0 hr
      · exact rel1 _ h p ρ os s0 hrel hr
    cases ho : oper' Θ Γ (numOf st o) st o.op with
    | none => rw [ho] at hr; exact hr.elim
    | some res =>
      obtain ⟨p, v, s⟩ := res
      rw [ho] at hr
      have hq1 : quiet st o.op = true → K (land own (numOf st o) o v s) := fun e => by simp only [e] at hr; exact hr
      have hq2 : quiet st o.op = false → p ∧ K (land own (numOf st o) o v s) := fun e => by simp only [e] at hr; exact hr
      unfold oper' at ho
      cases hop1 : oper Θ Γ (numOf st o) st o.op with
      | some r =>
        rw [hop1] at ho
        cases ho
        cases hqq : quiet st o.op with
        | true => exact main st h rfl p v s hop1 (oper_quiet hop1 hqq) (hq1 hqq)
        | false => exact main st h rfl p v s hop1 (hq2 hqq).1 (hq2 hqq).2
      | none =>
        rw [hop1] at ho
        cases hm : makes o.op with
        | false => rw [hm] at ho; cases ho
        | true =>
          rw [hm] at ho
          cases hqq : quiet st o.op with
          | true =>
            refine main _ (h.kill _) rfl p v s ho (oper_quiet ho ?_) (hq1 hqq)
            cases hop2 : o.op <;> rw [hop2] at hm hqq <;> simp only [makes, Bool.false_eq_true] at hm <;> first | rfl | (simp [quiet] at hqq; done) | skip
            rename_i c
            obtain ⟨callee, args, tys⟩ := c
            cases callee <;> simp only [Bool.false_eq_true] at hm
            exact hqq
          | false => exact main _ (h.kill _) rfl p v s ho (hq2 hqq).1 (hq2 hqq).2
  · exact hr.elim

theorem Rel.setSkip (h : Rel w0 M T γ st a w) (d : Option Nat) (hd : ∀ t, d = some t → t < st.n) : Rel w0 M T γ (st.put d (.tup [])) (a.put d undef) w := by
  cases d with
  | none => exact h
  | some d => exact h.set d (hd d rfl) (.tup []) undef ⟨#[], rfl, trivial⟩
theorem guarded_sound {ops : Array Oper} {o : Oper} {one skip : St → Prop} (h : Rel w0 M T γ st a w) (hr : guarded ops.toList o one skip st) {Y Z : Prop}
    (h1 : one st → Y) (h2 : skip (st.put o.dst (.tup [])) → Z) :
    (Region.wanted o (yielded ops a.tmps) = true ∧ Y) ∨ (Region.wanted o (yielded ops a.tmps) = false ∧ okDst st o = true ∧ Z) := by
  unfold guarded at hr
  split at hr
  · next hg => exact .inl ⟨by simp [Region.wanted, hg], h1 hr⟩
  · next g b hg =>
    split at hr
    · next og hog =>
      split at hr
      · next t ht =>
        split at hr
        · next x hok hlt htm =>
          have hy : yielded ops a.tmps g = some x := by
            have hr1 := h.tmps t
            rw [htm] at hr1
            have hv : a.tmps.getD t undef = .bool x := hr1
            have hsz : t < a.tmps.size := by rw [h.size]; simpa [Nat.blt_eq] using hlt
            have hog' : ops[g]? = some og := by simpa using hog
            have hget : a.tmps[t]? = some (.bool x) := by
              rw [Array.getElem?_eq_getElem hsz]
              simp [Array.getD, hsz] at hv
              rw [hv]
            simp [yielded, hog', ht, hget]
          cases x
          · simp only [cond_false, set_self htm] at hr
            cases b
            · exact .inl ⟨by simp [Region.wanted, hg, hy], h1 hr⟩
            · exact .inr ⟨by simp [Region.wanted, hg, hy], hok, h2 hr⟩
          · simp only [cond_true, set_self htm] at hr
            cases b
            · exact .inr ⟨by simp [Region.wanted, hg, hy], hok, h2 hr⟩
            · exact .inl ⟨by simp [Region.wanted, hg, hy], h1 hr⟩
        · next xs hok hlt htm =>
          have hy : yielded ops a.tmps g = none := by
            have hr1 := h.tmps t
            rw [htm] at hr1
            obtain ⟨vs, hv, _⟩ := hr1
            have hsz : t < a.tmps.size := by rw [h.size]; simpa [Nat.blt_eq] using hlt
            have hog' : ops[g]? = some og := by simpa using hog
            have hget : a.tmps[t]? = some (.tuple vs) := by
              rw [Array.getElem?_eq_getElem hsz]
              simp [Array.getD, hsz] at hv
              rw [hv]
            simp [yielded, hog', ht, hget]
          exact .inr ⟨by simp [Region.wanted, hg, hy], hok, h2 hr⟩
        · exact hr.elim
      · exact hr.elim
    · exact hr.elim

theorem runs_sound {G : Glob} (hE : EnvOK P G Θ Γ w0 M) {own : Nat → Bool} {ops : Array Oper} {K : St → Prop} {Q : Exit → Act → World → Prop}
    (hn : ∀ s γ' a' w', K s → Rel w0 M T γ' s a' w' → Q .normal a' w') : ∀ (l : List Oper) (st : St) (γ : Nat → Value) (a : Act) (w : World),
    Rel w0 M T γ st a w → runs Θ Γ own ops.toList K l st → wpList P ops Q l a w
  | [], st, γ, a, w, h, hr => hn st γ a w hr h
  | o :: r, st, γ, a, w, h, hr => by
    unfold wpList
    have := guarded_sound (ops := ops) (o := o) (Y := o.wp P a w (wpList P ops Q r) Q) (Z := okDst st o = true → wpList P ops Q r (a.put o.dst undef) w) h hr
      (fun h1 => runOne_sound hE h h1 fun s γ' a' w' hK hR => runs_sound hE hn r s γ' a' w' hR hK)
      (fun h2 hok => runs_sound hE hn r _ γ _ w (h.setSkip o.dst (fun t ht => by rw [okDst, ht] at hok; simpa [Nat.blt_eq] using hok)) h2)
    rcases this with ⟨e, hy⟩ | ⟨e, hok, hz⟩
    · rw [if_pos e]; exact .inl hy
    · rw [if_neg (by rw [e]; simp)]; exact hz hok

/-- A region that keeps the order of its text. -/
theorem region_sound {G : Glob} (hE : EnvOK P G Θ Γ w0 M) {own : Nat → Bool} {id : Nat} {ops : Array Oper} {K : St → Prop} {Q : Exit → Act → World → Prop} (h : Rel w0 M T γ st a w)
    (hr : runs Θ Γ own ops.toList K ops.toList st) (hn : ∀ s γ' a' w', K s → Rel w0 M T γ' s a' w' → Q .normal a' w') : (Code.region id ops false).wp P Q a w :=
  wp_region_list (runs_sound hE hn _ _ _ _ _ h hr)
end Go.Fw
/- What stays known at the head of a loop: shapes of states. -/
namespace Go.Fw
open Go

variable {P : Program} {w0 : World} {M : Nat → Prop} {T : Ext} {γ γ' : Nat → Value} {st : St} {a : Act} {w w' : World} {Θ : TEnv} {Γ : CEnv}

inductive CSh where
  | int (k : IntKind)
  | bool
  | str
  | nil
  | sl (e : TypeId) (r : CTs) (fr : Bool)
  | ref (o : Nat)
  | junk
@[reducible] def CSh.den : CSh → Type
  | .int _ => Int
  | .bool => Bool
  | .str => Bytes
  | .sl _ r _ => List r.den
  | .nil | .ref _ | .junk => Unit
def CSh.cell : (c : CSh) → c.den → Cell
  | .int k, n => .int k n
  | .bool, b => .bool b
  | .str, s => .str s
  | .sl e r fr, l => .sl e r l fr
  | .nil, _ => .nil
  | .ref o, _ => .ref o
  | .junk, _ => .junk
def boolLe : Bool → Bool → Bool
  | true, b => b
  | false, _ => true
def CSh.read : (c : CSh) → Cell → Option c.den
  | .int k, .int l n => match decide (k = l) with | true => some n | false => none
  | .bool, .bool b => some b
  | .str, .str s => some s
  | .sl e r fr, .sl f s l gr => match Nat.beq e f && boolLe fr gr with
    | true => if h : s.beq r = true then some (castRow h l) else none
    | false => none
  | .sl _ _ _, .nil => some []
  | .nil, .nil => some ()
  | .ref o, .ref p => match Nat.beq o p with | true => some () | false => none
  | .junk, _ => some ()
  | _, _ => none

theorem repNil (X : V) (e : TypeId) (r : CTs) (fr : Bool) : RepCell X (.sl e r [] fr) (.slice none 0 0) := by
  refine ⟨by simp, .inl ⟨rfl, none, 0, rfl⟩⟩

theorem CSh.weak {X : V} : ∀ (c : CSh) (x : Cell) (d : c.den) (v : Value), c.read x = some d → RepCell X x v → RepCell X (c.cell d) v := by
  intro c x d v hr hv
  cases c <;> cases x <;> simp only [CSh.read, reduceCtorEq, Option.some.injEq] at hr <;> try (subst hr; exact hv)
  case int.int k l n =>
    split at hr
    · next e =>
      cases hr
      rw [show k = l by simpa using e]
      exact hv
    · cases hr
  case sl.sl e r fr f s l gr =>
    split at hr
    · next hb =>
      split at hr
      · next hs =>
        cases hr
        rw [Bool.and_eq_true] at hb
        have he := Nat.eq_of_beq_eq_true hb.1
        subst he
        have hsr := CTs.eq_of_beq s r hs
        subst hsr
        have hv' : RepC X.w.heap (X.footF gr) (.sl e s) v l := hv
        refine RepC.mono (fun b hb' => ⟨⟨hb'.1, fun hfr => hb'.2 ?_⟩, rfl⟩) (.sl e s) v l hv'
        subst hfr
        cases gr
        · simp [boolLe] at hb
        · rfl
      · cases hr
    · cases hr
  case sl.nil e r fr =>
    subst hr
    rw [show v = _ from hv]
    exact repNil X e r fr
  case nil.nil => exact hv
  case ref.ref o p =>
    split at hr
    · next hb => rw [CSh.cell, Nat.eq_of_beq_eq_true hb]; exact hv
    · cases hr
  all_goals exact RepCell.one _ _ hv

@[reducible] def csDen : List CSh → Type
  | [] => Unit
  | c :: r => c.den × csDen r
def csCells : (l : List CSh) → csDen l → List Cell
  | [], _ => []
  | c :: r, x => c.cell x.1 :: csCells r x.2
def csRead : (l : List CSh) → List Cell → Option (csDen l)
  | [], [] => some ()
  | c :: r, x :: xs => match c.read x, csRead r xs with
    | some a, some b => some (a, b)
    | _, _ => none
  | _, _ => none
theorem csWeak {X : V} : ∀ (l : List CSh) (xs : List Cell) (d : csDen l) (vs : List Value), csRead l xs = some d → RepCells X xs vs → RepCells X (csCells l d) vs
  | [], [], _, _, _, hv => hv
  | c :: r, x :: xs, d, vs, hr, hv => by
    rw [csRead] at hr
    split at hr
    · next a b h1 h2 =>
      cases hr
      cases vs with
      | nil => cases hv
      | cons v vs => exact ⟨CSh.weak c x a v h1 hv.1, csWeak r xs b vs h2 hv.2⟩
    · cases hr
  | [], _ :: _, _, _, hr, _ => by simp [csRead] at hr
  | _ :: _, [], _, _, hr, _ => by simp [csRead] at hr

@[reducible] def capsDen : List (List CSh) → Type
  | [] => Unit
  | l :: r => csDen l × capsDen r
def capsCells : (l : List (List CSh)) → capsDen l → List (List Cell)
  | [], _ => []
  | c :: r, x => csCells c x.1 :: capsCells r x.2
def capsRead : (l : List (List CSh)) → List (List Cell) → Option (capsDen l)
  | [], [] => some ()
  | c :: r, x :: xs => match csRead c x, capsRead r xs with
    | some a, some b => some (a, b)
    | _, _ => none
  | _, _ => none
theorem kept_weak {X : V} {l : List CSh} {xs : List Cell} {d : csDen l} {b : Nat} (hr : csRead l xs = some d) (h : RepKept X xs b) : RepKept X (csCells l d) b := by
  obtain ⟨arr, t, fz, hf, hh, hc⟩ := h
  exact ⟨arr, t, fz, hf, hh, csWeak _ _ _ _ hr hc⟩
theorem caps_weak {X : V} : ∀ (l : List (List CSh)) (xs : List (List Cell)) (d : capsDen l) (us : List Value), capsRead l xs = some d → RepHeld X xs us → RepHeld X (capsCells l d) us
  | [], [], _, us, _, h => h
  | c :: r, x :: xs, d, us, hr, h => by
    rw [capsRead] at hr
    split at hr
    · next a b h1 h2 =>
      cases hr
      cases us with
      | nil => cases h
      | cons u us =>
        obtain ⟨⟨b', hu, hk⟩, h3⟩ := h
        exact ⟨⟨b', hu, kept_weak h1 hk⟩, caps_weak r xs b us h2 h3⟩
    · cases hr
  | [], _ :: _, _, _, hr, _ => by simp [capsRead] at hr
  | _ :: _, [], _, _, hr, _ => by simp [capsRead] at hr

/-- The shape of a slot. -/
inductive ASh where
  | one (c : CSh)
  | agg (l : List CSh)
  | vptr (o off : Nat)
  | kptr (l : List CSh) (off : Nat)
  | fn (f : FuncId) (l : List (List CSh))
@[reducible] def ASh.den : ASh → Type
  | .one c => c.den
  | .agg l => csDen l
  | .vptr _ _ => Unit
  | .kptr l _ => csDen l
  | .fn _ l => capsDen l
def ASh.val : (s : ASh) → s.den → AV
  | .one c, x => .sv (.one (c.cell x))
  | .agg l, x => .sv (.agg (csCells l x))
  | .vptr o off, _ => .vptr o off
  | .kptr l off, x => .kptr (csCells l x) off
  | .fn f l, x => .fn f (capsCells l x)
def ASh.read : (s : ASh) → AV → Option s.den
  | .one c, .sv (.one x) => c.read x
  | .agg l, .sv (.agg xs) => csRead l xs
  | .vptr o off, .vptr p k => match Nat.beq o p && Nat.beq off k with | true => some () | false => none
  | .kptr l off, .kptr xs k => match Nat.beq off k with | true => csRead l xs | false => none
  | .fn f l, .fn g xs => match Nat.beq f g with | true => capsRead l xs | false => none
  | _, _ => none
theorem ASh.weak {X : V} (s : ASh) (x : AV) (d : s.den) (v : Value) (hr : s.read x = some d) (hv : RepAV X x v) : RepAV X (s.val d) v := by
  unfold ASh.read at hr
  split at hr
  · exact CSh.weak _ _ _ _ hr hv
  · obtain ⟨vs, e, h⟩ := hv
    exact ⟨vs, e, csWeak _ _ _ _ hr h⟩
  · split at hr
    · next hb =>
      rw [Bool.and_eq_true] at hb
      rw [ASh.val, Nat.eq_of_beq_eq_true hb.1, Nat.eq_of_beq_eq_true hb.2]
      exact hv
    · cases hr
  · split at hr
    · next hb =>
      obtain ⟨b, e, arr, t, fz, hf, hh, hc⟩ := hv
      rw [ASh.val, Nat.eq_of_beq_eq_true hb]
      exact ⟨b, e, arr, t, fz, hf, hh, csWeak _ _ _ _ hr hc⟩
    · cases hr
  · split at hr
    · next hb =>
      obtain ⟨us, e, hk⟩ := hv
      rw [ASh.val, Nat.eq_of_beq_eq_true hb]
      exact ⟨us, e, caps_weak _ _ _ _ hr hk⟩
    · cases hr
  · cases hr

/-- The shape of an object. -/
inductive OSh where
  | var (l : List CSh)
  | arr (e : TypeId) (r : CTs) (fr : Bool)
@[reducible] def OSh.den : OSh → Type
  | .var l => csDen l
  | .arr _ r _ => List r.den
def OSh.obj : (s : OSh) → s.den → AObj
  | .var l, x => .var (csCells l x)
  | .arr e r fr, l => .arr e r l fr
def OSh.read : (s : OSh) → AObj → Option s.den
  | .var l, .var xs => csRead l xs
  | .arr e r fr, .arr f s l gr => match Nat.beq e f && (boolLe fr gr && boolLe gr fr) with
    | true => if h : s.beq r = true then some (castRow h l) else none
    | false => none
  | _, _ => none

/-- x' says no more than x. -/
def ObjWeak (x x' : AObj) : Prop :=
  (∃ cs cs', x = .var cs ∧ x' = .var cs' ∧ ∀ (X : V) vs, RepCells X cs vs → RepCells X cs' vs) ∨ ∃ e r l fr, x = .arr e r l fr ∧ x' = .arr e r l fr
theorem OSh.weak (s : OSh) (x : AObj) (d : s.den) (hr : s.read x = some d) : ObjWeak x (s.obj d) := by
  unfold OSh.read at hr
  split at hr
  · exact .inl ⟨_, _, rfl, rfl, fun X vs h => csWeak _ _ _ _ hr h⟩
  · next e r fr f s l gr =>
    split at hr
    · next hb =>
      split at hr
      · next hs =>
        cases hr
        rw [Bool.and_eq_true] at hb
        have he := Nat.eq_of_beq_eq_true hb.1
        have hg : fr = gr := by
          have hb2 := hb.2
          cases fr <;> cases gr <;> simp only [boolLe, Bool.and_true, Bool.and_false, Bool.false_eq_true] at hb2 <;> rfl
        subst he hg
        have hsr := CTs.eq_of_beq s r hs
        subst hsr
        exact .inr ⟨e, s, l, fr, rfl, rfl⟩
      · cases hr
    · cases hr
  · cases hr

/-- A state that says no more than another: the same objects, each no better known. -/
structure Covers (J st : St) : Prop where
  n : J.n = st.n
  tmps : ∀ t (X : V) v, RepAV X (st.tmps t) v → RepAV X (J.tmps t) v
  objs : ∀ o, (J.objs o = none ∧ st.objs o = none) ∨ ∃ x x', st.objs o = some x ∧ J.objs o = some x' ∧ ObjWeak x x'

theorem Rel.covers {J : St} (h : Rel w0 M T γ st a w) (hc : Covers J st) : Rel w0 M T γ J a w := by
  have key : ∀ o x', J.objs o = some x' → ∃ x, st.objs o = some x ∧ ObjWeak x x' := by
    intro o x' hx'
    rcases hc.objs o with ⟨e, _⟩ | ⟨x, y, hx, hy, hw⟩
    · rw [e] at hx'; cases hx'
    · rw [hy] at hx'; cases hx'; exact ⟨x, hx, hw⟩
  have yek : ∀ o x, st.objs o = some x → ∃ x', J.objs o = some x' ∧ ObjWeak x x' := by
    intro o x hx
    rcases hc.objs o with ⟨_, e⟩ | ⟨y, x', hy, hx', hw⟩
    · rw [e] at hx; cases hx
    · rw [hy] at hx; cases hx; exact ⟨x', hx', hw⟩
  have hle : (viewOf w0 T γ st w).le (viewOf w0 T γ J w) := by
    refine ⟨Nat.le_refl _, fun b hb => ⟨⟨hb.1, hb.2.1, fun o x hx => ?_⟩, rfl⟩, fun o cs hx => ⟨?_, rfl⟩, fun o e r l fr hx => ⟨?_, rfl⟩⟩
    · obtain ⟨y, hy, _⟩ := key o x hx
      exact hb.2.2 o y hy
    · obtain ⟨x', hx', hw⟩ := yek o _ hx
      rcases hw with ⟨cs1, cs2, e1, e2, _⟩ | ⟨e, r, l, fr, e1, e2⟩
      · exact ⟨cs2, hx'.trans (by rw [e2])⟩
      · cases e1
    · obtain ⟨x', hx', hw⟩ := yek o _ hx
      rcases hw with ⟨cs1, cs2, e1, e2, _⟩ | ⟨e, r, l, fr, e1, e2⟩
      · cases e1
      · cases e1; exact ⟨l, fr, hx'.trans (by rw [e2])⟩
  refine ⟨h.mT, h.defers, h.size.trans hc.n.symm, h.os, h.tape, h.output, h.grow, h.kept, fun t => hc.tmps t _ _ (RepAV.mono hle _ _ (h.tmps t)), fun o x' hx' => ?_, fun o x' b hx' hb => ?_, fun o x' p y' b hx' hy' hop hb => ?_, fun o v cs hN hx' => ?_⟩
  · obtain ⟨x, hx, hw⟩ := key o x' hx'
    have ho := h.objs o x hx
    rcases hw with ⟨cs1, cs2, e1, e2, hcs⟩ | ⟨e, r, l, fr, e1, e2⟩
    · subst e1 e2
      obtain ⟨b, arr, t, g1, g2, g3⟩ := ho
      exact ⟨b, arr, t, g1, g2, hcs _ _ (RepCells.mono hle _ _ g3)⟩
    · subst e1 e2
      obtain ⟨xs, g1, g2, g3, g4⟩ := ho
      exact ⟨xs, g1, g2, g3, fun i x hi => RepR.mono (fun b hb => hle.footF fr b hb) r _ x (g4 i x hi)⟩
  · obtain ⟨x, hx, _⟩ := key o x' hx'
    exact h.lt o x b hx hb
  · obtain ⟨x, hx, _⟩ := key o x' hx'
    obtain ⟨y, hy, _⟩ := key p y' hy'
    exact h.sep o x p y b hx hy hop hb
  · obtain ⟨x, hx, hw⟩ := key o _ hx'
    rcases hw with ⟨cs1, cs2, e1, e2, _⟩ | ⟨e, r, l, fr, e1, e2⟩
    · subst e1; exact h.pin o v cs1 hN hx
    · cases e2

/-- The shape of a part of a state. -/
structure Shape where
  tmps : List (Nat × ASh)
  objs : List (Nat × OSh)
@[reducible] def tmDen : List (Nat × ASh) → Type
  | [] => Unit
  | x :: r => x.2.den × tmDen r
@[reducible] def obDen : List (Nat × OSh) → Type
  | [] => Unit
  | x :: r => x.2.den × obDen r
@[reducible] def Shape.den (s : Shape) : Type := tmDen s.tmps × obDen s.objs
def tmFill : (l : List (Nat × ASh)) → tmDen l → (Nat → AV) → Nat → AV
  | [], _, f => f
  | s :: r, x, f => fun i => match Nat.beq i s.1 with | true => s.2.val x.1 | false => tmFill r x.2 f i
def obFill : (l : List (Nat × OSh)) → obDen l → (Nat → Option AObj) → Nat → Option AObj
  | [], _, f => f
  | s :: r, x, f => fun i => match Nat.beq i s.1 with | true => some (s.2.obj x.1) | false => obFill r x.2 f i
def tmRead (st : St) : (l : List (Nat × ASh)) → Option (tmDen l)
  | [] => some ()
  | s :: r => match s.2.read (st.tmps s.1), tmRead st r with
    | some a, some b => some (a, b)
    | _, _ => none
def obRead (st : St) : (l : List (Nat × OSh)) → Option (obDen l)
  | [] => some ()
  | s :: r => match st.objs s.1, obRead st r with
    | some x, some b => match s.2.read x with
      | some a => some (a, b)
      | none => none
    | _, _ => none
def memNum : List Nat → Nat → Bool
  | [], _ => false
  | x :: r, o => match Nat.beq o x with | true => true | false => memNum r o
def names : List (Nat × OSh) → List Nat
  | [] => []
  | x :: r => x.1 :: names r

/-- The state of which only the shapes c and v are known. -/
def joint (n : Nat) (c v : Shape) (x : c.den) (y : v.den) : St :=
  { n := n, tmps := tmFill c.tmps x.1 (tmFill v.tmps y.1 (fun _ => .undef)), objs := obFill c.objs x.2 (obFill v.objs y.2 (fun _ => none)) }
/-- The state where what is not named by the shapes is let go. -/
def only (c v : Shape) (st : St) : St := st.freeze fun o => !(memNum (names c.objs) o || memNum (names v.objs) o)
def Shape.read (s : Shape) (st : St) : Option s.den :=
  match tmRead st s.tmps, obRead st s.objs with
  | some a, some b => some (a, b)
  | _, _ => none

theorem tmFill_weak {X : V} (t : Nat) (u : Value) (hu : RepAV X (st.tmps t) u) : ∀ (l : List (Nat × ASh)) (x : tmDen l) (f : Nat → AV), tmRead st l = some x → RepAV X (f t) u → RepAV X (tmFill l x f t) u
  | [], _, _, _, hf => hf
  | s :: r, x, f, hr, hf => by
    rw [tmRead] at hr
    split at hr
    · next a b h1 h2 =>
      cases hr
      simp only [tmFill]
      cases hb : Nat.beq t s.1 with
      | true =>
        rw [Nat.eq_of_beq_eq_true hb] at hu
        exact ASh.weak s.2 _ a u h1 hu
      | false => exact tmFill_weak t u hu r b f h2 hf
    · cases hr
theorem obFill_weak (o : Nat) : ∀ (l : List (Nat × OSh)) (x : obDen l) (f : Nat → Option AObj), obRead st l = some x →
    (f o = none ∨ ∃ y y', st.objs o = some y ∧ f o = some y' ∧ ObjWeak y y') →
    ((obFill l x f o = none ∧ memNum (names l) o = false ∧ f o = none) ∨ ∃ y y', st.objs o = some y ∧ obFill l x f o = some y' ∧ ObjWeak y y')
  | [], _, f, _, hf => by
    rcases hf with e | h
    · exact .inl ⟨e, rfl, e⟩
    · exact .inr h
  | s :: r, x, f, hr, hf => by
    rw [obRead] at hr
    split at hr
    · next y b h1 h2 =>
      split at hr
      · next a h3 =>
        cases hr
        simp only [obFill, names, memNum]
        cases hb : Nat.beq o s.1 with
        | true =>
          rw [Nat.eq_of_beq_eq_true hb]
          exact .inr ⟨y, _, h1, rfl, OSh.weak s.2 y a h3⟩
        | false => exact obFill_weak o r b f h2 hf
      · cases hr
    · cases hr

theorem joint_covers {c v : Shape} {x : c.den} {y : v.den} (hc : c.read (only c v st) = some x) (hv : v.read (only c v st) = some y) : Covers (joint st.n c v x y) (only c v st) := by
  unfold Shape.read at hc hv
  split at hc
  · next a b h1 h2 =>
    cases hc
    split at hv
    · next a' b' h3 h4 =>
      cases hv
      refine ⟨rfl, fun t X u hu => tmFill_weak t u hu _ _ _ h1 (tmFill_weak t u hu _ _ _ h3 trivial), fun o => ?_⟩
      rcases obFill_weak o v.objs b' (fun _ => none) h4 (.inl rfl) with ⟨e1, e2, _⟩ | h
      · rcases obFill_weak o c.objs b (obFill v.objs b' (fun _ => none)) h2 (.inl e1) with ⟨g1, g2, _⟩ | h
        · refine .inl ⟨g1, ?_⟩
          simp [only, St.freeze, e2, g2]
        · exact .inr h
      · rcases obFill_weak o c.objs b (obFill v.objs b' (fun _ => none)) h2 (.inr h) with ⟨g1, g2, g3⟩ | h'
        · obtain ⟨y, y', _, h5, _⟩ := h
          rw [h5] at g3; cases g3
        · exact .inr h'
    · cases hv
  · cases hc

theorem Rel.joint (h : Rel w0 M T γ st a w) {c v : Shape} {x : c.den} {y : v.den} (hc : c.read (only c v st) = some x) (hv : v.read (only c v st) = some y) :
    Rel w0 M T γ (joint st.n c v x y) a w := (h.freeze _).covers (joint_covers hc hv)

/-- A slot that holds no memory becomes an array of the call's own. -/
def adopt (st : St) (t o : Nat) (e : TypeId) (r : CTs) (fr : Bool) : Option St :=
  match st.tmps t, st.objs o, Nat.ble 1 r.len with
  | .sv (.one .nil), none, true => some ((st.add o (.arr e r [] fr)).set t (.sv (.one (.ref o))))
  | _, _, _ => none
def adopts (st : St) : List (Nat × Nat × TypeId × CTs × Bool) → Option St
  | [] => some st
  | (t, o, e, r, fr) :: l => match adopt st t o e r fr with
    | some s => adopts s l
    | none => none

theorem Rel.adopt (h : Rel w0 M T γ st a w) {t o : Nat} {e : TypeId} {r : CTs} {fr : Bool} {s : St} (ha : Fw.adopt st t o e r fr = some s) : ∃ γ', Rel w0 M T γ' s a w := by
  unfold Fw.adopt at ha
  split at ha
  · next ht ho hr =>
    cases ha
    have hg := h.grown (γ' := upd γ o (.slice none 0 0)) (w' := w) (st.add o (.arr e r [] fr)).objs
      (fun p x hp => by rw [add_other _ _ (by rintro rfl; rw [ho] at hp; cases hp)]; exact hp)
      (fun p x hp => by rw [upd_other]; rintro rfl; rw [ho] at hp; cases hp)
      rfl rfl rfl (Nat.le_refl _) (fun _ _ => rfl)
      (fun p x hp hn => by
        by_cases e' : p = o
        · subst e'
          rw [add_same] at hp
          cases hp
          refine ⟨⟨[], ⟨by simp, .inl ⟨upd_same _ _ _, rfl⟩⟩, Nat.lt_of_lt_of_le Nat.zero_lt_one (by simpa [Nat.ble_eq] using hr), (fun b hb => by have hb' : blk (upd γ p (.slice none 0 0) p) = some b := hb; rw [upd_same] at hb'; cases hb'), fun i x hi => by simp at hi⟩, fun b hb => by rw [upd_same] at hb; cases hb⟩
        · rw [add_other _ _ e'] at hp; rw [hp] at hn; cases hn)
      (fun p cs hp hn => by
        by_cases e' : p = o
        · subst e'; rw [add_same] at hp; cases hp
        · rw [add_other _ _ e'] at hp; rw [hp] at hn; cases hn)
      (fun p x q y b hp hpn hq hqn hpq hb => by
        by_cases e' : p = o
        · subst e'; rw [upd_same] at hb; cases hb
        · rw [add_other _ _ e'] at hp; rw [hp] at hpn; cases hpn)
    refine ⟨upd γ o (.slice none 0 0), ?_⟩
    obtain ⟨hR, hle⟩ := hg
    refine ⟨hR.mT, hR.defers, hR.size, hR.os, hR.tape, hR.output, hR.grow, hR.kept, fun t' => ?_, hR.objs, hR.lt, hR.sep, hR.pin⟩
    by_cases e' : t' = t
    · subst e'
      have hv := h.tmps t'
      rw [ht] at hv
      have hv' : a.tmps.getD t' undef = .slice none 0 0 := hv
      simp only [St.set, Nat.beq_refl]
      rw [hv']
      exact ⟨⟨e, r, [], fr, add_same _ _ _⟩, (upd_same _ _ _).symm, rfl⟩
    · have hb : Nat.beq t' t = false := by cases hb : Nat.beq t' t; rfl; exact (e' (Nat.eq_of_beq_eq_true hb)).elim
      simp only [St.set, hb]
      exact hR.tmps t'
  · cases ha
theorem Rel.adopts : ∀ (l : List (Nat × Nat × TypeId × CTs × Bool)) {γ : Nat → Value} {st s : St} (_ : Rel w0 M T γ st a w) (_ : Fw.adopts st l = some s), ∃ γ', Rel w0 M T γ' s a w
  | [], γ, st, s, h, ha => by cases ha; exact ⟨γ, h⟩
  | (t, o, e, r, fr) :: l, γ, st, s, h, ha => by
    rw [Fw.adopts] at ha
    split at ha
    · next s1 h1 =>
      obtain ⟨γ1, hR⟩ := h.adopt h1
      exact Rel.adopts l hR ha
    · cases ha
end Go.Fw
/- Regions whose order is drawn: calls that change own variables, in the order of their text, and quiet operations in any order; then the others. -/
namespace Go.Fw
open Go

variable {P : Program} {w0 : World} {M : Nat → Prop} {T : Ext} {γ γ' : Nat → Value} {st : St} {a : Act} {w w' : World} {Θ : TEnv} {Γ : CEnv}

/-- What one operation of the region has left: its slot, its value, what it changed, its new objects. -/
structure Res where
  d : Nat
  v : AV
  u : List (Nat × AObj)
  δ : List (Nat × AObj)

def edgeMask (acc : List Nat) : List Edge → Nat
  | [] => 0
  | e :: r => match Region.binds .any e with
    | true => (2 ^ e.on ||| acc.getD e.on 0) ||| edgeMask acc r
    | false => edgeMask acc r
/-- For each operation all that come before it in every order, as bits. -/
def masks : List Oper → List Nat → List Nat
  | [], acc => acc
  | o :: r, acc => masks r (acc ++ [edgeMask acc o.after.toList])

/-- Those results of a path that are done. -/
def pick : List Res → Nat → (Nat → Bool) → List Res
  | [], _, _ => []
  | x :: r, j, m => match m j with | true => x :: pick r (j + 1) m | false => pick r (j + 1) m
def lookT : List Res → Nat → AV → AV
  | [], _, b => b
  | x :: r, t, b => match Nat.beq t x.d with | true => x.v | false => lookT r t b
def lookO : List Res → Nat → Option AObj → Option AObj
  | [], _, b => b
  | x :: r, o, b => match look x.δ o with | some y => some y | none => lookO r o b
def lookU : List Res → Nat → Option AObj
  | [], _ => none
  | x :: r, o => match lookU r o with | some y => some y | none => look x.u o
def afterP (base : St) (l : List Res) : St :=
  { n := base.n, tmps := fun t => lookT l t (base.tmps t), objs := fun o => match lookU l o with | some y => some y | none => lookO l o (base.objs o) }
/-- The state when of the path just the operations of m are done. -/
def after (base : St) (path : List Res) (m : Nat → Bool) : St := afterP base (pick path 0 m)

def dstsOf : List Oper → List Nat
  | [] => []
  | o :: r => match o.dst with | some d => d :: dstsOf r | none => dstsOf r
def nodup : List Nat → Bool
  | [] => true
  | x :: r => !(memNum r x) && nodup r
/-- The state before the region, without what the region is to lay. -/
def baseOf (D : List Nat) (st : St) : St :=
  let s := st.kill fun o => memNum D (o / 64)
  { s with tmps := fun t => match memNum D t with | true => .undef | false => s.tmps t }

def namesOK (d : Nat) (δ : List (Nat × AObj)) : Bool := δ.all fun x => Nat.beq (x.1 / 64) d
/-- The state without some objects. -/
def St.hide (st : St) (U : List Nat) : St := { st with objs := fun o => match memNum U o with | true => none | false => st.objs o }

/-- Does the operation call a function that changes what is handed over? -/
def effOp (Γ : CEnv) (o : Op) : Bool := match o with
  | .call { callee := .value (.func f), .. } => match Γ f with | some (.eff _ _) => true | _ => false
  | _ => false
def effIdx (Γ : CEnv) : Nat → List Oper → List Nat
  | _, [] => []
  | i, o :: r => match effOp Γ o.op with | true => i :: effIdx Γ (i + 1) r | false => effIdx Γ (i + 1) r
/-- Is the operation's place among those of E known? -/
def cmpAll (ms : List Nat) (E : List Nat) (i : Nat) : Bool := E.all fun e => Nat.beq e i || ((ms.getD i 0).testBit e || (ms.getD e 0).testBit i)

/-- A call that changes what is handed over, where nothing is given away. -/
def relAny (Γ : CEnv) (st : St) : Op → Option (Prop × ROut × List (Option Nat))
  | .call { callee := .value (.func f), args, .. } => match Γ f with
    | some (.eff ms con) => match noRefs (valAVs ms (handed st args.toList [])), hands st ms (handed st args.toList []) with
      | true, some (vs, os) => match con vs with
        | some (p, ρ) => some (p, ρ, os)
        | none => none
      | _, _ => none
    | _ => none
  | _ => none
def noLose : List (Option Nat) → List Eff → Bool
  | [], _ => true
  | none :: os, effs => noLose os effs.tail
  | some _ :: os, effs => match effs.head? with | some (.var _) => noLose os effs.tail | _ => false
def resAny (D U : List Nat) (d : Nat) (st : St) (os : List (Option Nat)) (out : Out) (effs : List Eff) : Option (AV × List (Nat × AObj) × List (Nat × AObj)) :=
  match nodupO os && (apartX effs (out.take (d * 64 + 1)).2 && (noLose os effs && namesOK d (out.take (d * 64 + 1)).2)), backs st os effs with
  | true, some υ => match υ.all fun y => memNum U y.1 && !(memNum D (y.1 / 64)) with
    | true => some ((out.take (d * 64 + 1)).1, υ, (out.take (d * 64 + 1)).2)
    | false => none
  | _, _ => none

/-- What is fixed for a region: its slots, the objects that its calls change, what comes before each operation, the calls that change something. -/
structure Reg where
  D : List Nat
  U : List Nat
  ms : List Nat
  E : List Nat

/-- What an operation sees. -/
def viewAt (R : Reg) (base : St) (acc : List Res) (i : Nat) : St :=
  match cmpAll R.ms R.E i with
  | true => after base acc (R.ms.getD i 0).testBit
  | false => (after base acc (R.ms.getD i 0).testBit).hide R.U

def stepAny (Θ : TEnv) (Γ : CEnv) (R : Reg) (base : St) (i : Nat) (o : Oper) (d : Nat) (acc : List Res) (K : List Res → Prop) : Prop :=
  match effOp Γ o.op with
  | true => match relAny Γ (viewAt R base acc i) o.op with
    | some (p, ρ, os) => p ∧ ∀ t, ρ.R t → match resAny R.D R.U d (viewAt R base acc i) os (ρ.out t) (ρ.effs t) with
      | some (v, υ, δ) => K (acc ++ [⟨d, v, υ, δ⟩])
      | none => False
    | none => False
  | false => match calm Θ Γ d (viewAt R base acc i) o.op with
    | some (p, v, δ) => match namesOK d δ, quiet (viewAt R base acc i) o.op with
      | true, true => K (acc ++ [⟨d, v, [], δ⟩])
      | true, false => p ∧ K (acc ++ [⟨d, v, [], δ⟩])
      | false, _ => False
    | none => False

/-- The value that decides a guard is known from now on. -/
def fix (g : Nat) (b : Bool) (acc : List Res) : List Res :=
  match acc[g]? with
  | some x => acc.set g { x with v := .sv (.one (.bool b)) }
  | none => acc
def skipped (d : Nat) : Res := ⟨d, .tup [], [], []⟩

def anyRuns (Θ : TEnv) (Γ : CEnv) (R : Reg) (base : St) (K : List Res → Prop) : Nat → List Oper → List Res → Prop
  | _, [], acc => K acc
  | i, o :: r, acc => match o.dst, Nat.blt (R.ms.getD i 0) (2 ^ i) with
    | some d, true => match o.guard with
      | none => stepAny Θ Γ R base i o d acc (anyRuns Θ Γ R base K (i + 1) r)
      | some (g, b) => match (R.ms.getD i 0).testBit g, acc[g]? with
        | true, some x => match x.v with
          | .sv (.one (.bool c)) => cond c
            (match b with
              | true => stepAny Θ Γ R base i o d (fix g true acc) (anyRuns Θ Γ R base K (i + 1) r)
              | false => anyRuns Θ Γ R base K (i + 1) r (fix g true acc ++ [skipped d]))
            (match b with
              | false => stepAny Θ Γ R base i o d (fix g false acc) (anyRuns Θ Γ R base K (i + 1) r)
              | true => anyRuns Θ Γ R base K (i + 1) r (fix g false acc ++ [skipped d]))
          | .tup _ => anyRuns Θ Γ R base K (i + 1) r (acc ++ [skipped d])
          | _ => False
        | _, _ => False
    | _, _ => False

/-- The guard of an operation, and whether it is wanted. -/
def Wanted (R : Reg) (path : List Res) (i : Nat) (o : Oper) : Prop :=
  o.guard = none ∨ ∃ g b y, o.guard = some (g, b) ∧ (R.ms.getD i 0).testBit g = true ∧ path[g]? = some y ∧ y.v = .sv (.one (.bool b))
def Unwanted (R : Reg) (path : List Res) (i : Nat) (o : Oper) : Prop :=
  ∃ g b y, o.guard = some (g, b) ∧ (R.ms.getD i 0).testBit g = true ∧ path[g]? = some y ∧ ((∃ c, y.v = .sv (.one (.bool c)) ∧ c ≠ b) ∨ ∃ vs, y.v = .tup vs)
/-- What is known of one operation of a path. -/
def ResOK (Θ : TEnv) (Γ : CEnv) (R : Reg) (base : St) (path : List Res) (i : Nat) (o : Oper) (x : Res) : Prop :=
  o.dst = some x.d ∧ (R.ms.getD i 0) < 2 ^ i ∧
  ((Wanted R path i o ∧
      ((effOp Γ o.op = false ∧ x.u = [] ∧ namesOK x.d x.δ = true ∧ ∃ p, calm Θ Γ x.d (viewAt R base path i) o.op = some (p, x.v, x.δ) ∧ p) ∨
       (effOp Γ o.op = true ∧ ∃ p ρ os t, relAny Γ (viewAt R base path i) o.op = some (p, ρ, os) ∧ p ∧ ρ.R t ∧
          (∀ t, ρ.R t → ∃ r, resAny R.D R.U x.d (viewAt R base path i) os (ρ.out t) (ρ.effs t) = some r) ∧
          resAny R.D R.U x.d (viewAt R base path i) os (ρ.out t) (ρ.effs t) = some (x.v, x.u, x.δ)))) ∨
   (Unwanted R path i o ∧ x.v = .tup [] ∧ x.u = [] ∧ x.δ = []))
/-- The operation can go. -/
def Enabled (Θ : TEnv) (Γ : CEnv) (R : Reg) (base : St) (path : List Res) (i : Nat) (o : Oper) : Prop :=
  ∃ d, o.dst = some d ∧ (R.ms.getD i 0) < 2 ^ i ∧
  ((Wanted R path i o ∧
      ((effOp Γ o.op = false ∧ ∃ p v δ, calm Θ Γ d (viewAt R base path i) o.op = some (p, v, δ) ∧ p ∧ namesOK d δ = true) ∨
       (effOp Γ o.op = true ∧ ∃ p ρ os, relAny Γ (viewAt R base path i) o.op = some (p, ρ, os) ∧ p ∧
          ∀ t, ρ.R t → ∃ r, resAny R.D R.U d (viewAt R base path i) os (ρ.out t) (ρ.effs t) = some r))) ∨
   Unwanted R path i o)

theorem fix_self {g : Nat} {b : Bool} {acc : List Res} {x : Res} (h : acc[g]? = some x) (hv : x.v = .sv (.one (.bool b))) : fix g b acc = acc := by
  unfold fix
  rw [h]
  obtain ⟨hlt, hx⟩ := List.getElem?_eq_some_iff.1 h
  refine List.ext_getElem? fun i => ?_
  by_cases hi : i = g
  · subst hi
    rw [List.getElem?_set_self hlt, h]
    cases x
    simp at hv
    simp [hv]
  · rw [List.getElem?_set_ne (Ne.symm hi)]

/- Lists of what is done. -/
theorem pick_none : ∀ (l : List Res) (j : Nat) (m : Nat → Bool), (∀ i, j ≤ i → m i = false) → pick l j m = []
  | [], _, _, _ => rfl
  | x :: r, j, m, h => by rw [pick, h j (Nat.le_refl _)]; exact pick_none r (j + 1) m fun i hi => h i (by omega)
theorem pick_append (r : List Res) (m : Nat → Bool) : ∀ (l : List Res) (j : Nat), pick (l ++ r) j m = pick l j m ++ pick r (j + l.length) m
  | [], j => by simp [pick]
  | x :: l, j => by
    rw [List.cons_append, pick, pick, pick_append r m l (j + 1), List.length_cons, show j + 1 + l.length = j + (l.length + 1) by omega]
    cases m j <;> rfl
/-- Two paths that agree on what is done. -/
theorem pick_agree {m : Nat → Bool} : ∀ (l l' : List Res) (j : Nat), (∀ i, m (j + i) = true → l[i]? = l'[i]?) → pick l j m = pick l' j m
  | [], [], _, _ => rfl
  | [], y :: r, j, h => by
    cases hm : m j with
    | true => have := h 0 (by simpa using hm); simp at this
    | false =>
      rw [pick, pick, hm]
      exact pick_agree [] r (j + 1) fun i hi => by have := h (i + 1) (by rw [show j + (i + 1) = j + 1 + i by omega]; exact hi); simpa using this
  | x :: l, [], j, h => by
    cases hm : m j with
    | true => have := h 0 (by simpa using hm); simp at this
    | false =>
      rw [pick, pick, hm]
      exact pick_agree l [] (j + 1) fun i hi => by have := h (i + 1) (by rw [show j + (i + 1) = j + 1 + i by omega]; exact hi); simpa using this
  | x :: l, y :: r, j, h => by
    have ih := pick_agree l r (j + 1) fun i hi => by have := h (i + 1) (by rw [show j + (i + 1) = j + 1 + i by omega]; exact hi); simpa using this
    rw [pick, pick]
    cases hm : m j with
    | true => have := h 0 (by simpa using hm); simp at this; rw [this, ih]
    | false => exact ih
theorem mem_pick {m : Nat → Bool} {x : Res} : ∀ (l : List Res) (j : Nat), x ∈ pick l j m ↔ ∃ i, m (j + i) = true ∧ l[i]? = some x
  | [], j => by simp [pick]
  | y :: l, j => by
    have ih := mem_pick (m := m) (x := x) l (j + 1)
    have e : ∀ i, j + 1 + i = j + (i + 1) := fun i => by omega
    rw [pick]
    cases hm : m j with
    | true =>
      simp only [List.mem_cons, ih]
      constructor
      · rintro (rfl | ⟨i, h1, h2⟩)
        · exact ⟨0, by simpa using hm, rfl⟩
        · exact ⟨i + 1, by rw [← e]; exact h1, by simpa using h2⟩
      · rintro ⟨i, h1, h2⟩
        cases i with
        | zero => simp at h2; exact .inl h2.symm
        | succ i => exact .inr ⟨i, by rw [e]; exact h1, by simpa using h2⟩
    | false =>
      simp only [ih]
      constructor
      · rintro ⟨i, h1, h2⟩; exact ⟨i + 1, by rw [← e]; exact h1, by simpa using h2⟩
      · rintro ⟨i, h1, h2⟩
        cases i with
        | zero => rw [Nat.add_zero, hm] at h1; cases h1
        | succ i => exact ⟨i, by rw [e]; exact h1, by simpa using h2⟩

theorem testBit_out {m i j : Nat} (h : m < 2 ^ i) (hj : i ≤ j) : m.testBit j = false :=
  Nat.testBit_lt_two_pow (Nat.lt_of_lt_of_le h (Nat.pow_le_pow_right (by decide) hj))
/-- What an operation sees hangs on what comes before it alone. -/
theorem viewAt_agree {R : Reg} {base : St} {l l' : List Res} {i : Nat} (h : ∀ j, (R.ms.getD i 0).testBit j = true → l[j]? = l'[j]?) : viewAt R base l i = viewAt R base l' i := by
  unfold viewAt after
  rw [pick_agree l l' 0 fun j hj => h j (by simpa using hj)]
theorem ResOK.agree {R : Reg} {base : St} {l l' : List Res} {i : Nat} {o : Oper} {x : Res} (h : ∀ j, (R.ms.getD i 0).testBit j = true → l[j]? = l'[j]?) (hr : ResOK Θ Γ R base l i o x) : ResOK Θ Γ R base l' i o x := by
  obtain ⟨h1, h2, h3⟩ := hr
  refine ⟨h1, h2, ?_⟩
  rw [← viewAt_agree h]
  refine h3.imp (And.imp (Or.imp id ?_) id) (And.imp ?_ id)
  · rintro ⟨g, b, y, e1, e2, e3, e4⟩; exact ⟨g, b, y, e1, e2, h g e2 ▸ e3, e4⟩
  · rintro ⟨g, b, y, e1, e2, e3, e4⟩; exact ⟨g, b, y, e1, e2, h g e2 ▸ e3, e4⟩
theorem Enabled.agree {R : Reg} {base : St} {l l' : List Res} {i : Nat} {o : Oper} (h : ∀ j, (R.ms.getD i 0).testBit j = true → l[j]? = l'[j]?) (hr : Enabled Θ Γ R base l i o) : Enabled Θ Γ R base l' i o := by
  obtain ⟨d, h1, h2, h3⟩ := hr
  refine ⟨d, h1, h2, ?_⟩
  rw [← viewAt_agree h]
  refine h3.imp (And.imp (Or.imp id ?_) id) ?_
  · rintro ⟨g, b, y, e1, e2, e3, e4⟩; exact ⟨g, b, y, e1, e2, h g e2 ▸ e3, e4⟩
  · rintro ⟨g, b, y, e1, e2, e3, e4⟩; exact ⟨g, b, y, e1, e2, h g e2 ▸ e3, e4⟩

theorem memNum_iff {l : List Nat} {x : Nat} : memNum l x = true ↔ x ∈ l := by
  induction l with
  | nil => simp [memNum]
  | cons y l ih =>
    rw [memNum, List.mem_cons]
    cases hb : Nat.beq x y with
    | true => simp [Nat.eq_of_beq_eq_true hb]
    | false =>
      simp only [ih]
      constructor
      · exact .inr
      · rintro (rfl | h)
        · simp at hb
        · exact h

theorem dstsOf_mem {l : List Oper} {o : Oper} {d : Nat} (ho : o ∈ l) (hd : o.dst = some d) : d ∈ dstsOf l := by
  induction l with
  | nil => cases ho
  | cons x l ih =>
    rw [dstsOf]
    rcases List.mem_cons.1 ho with rfl | h
    · rw [hd]; exact List.mem_cons_self
    · cases x.dst with
      | none => exact ih h
      | some e => exact List.mem_cons_of_mem _ (ih h)

def Comp (Θ : TEnv) (Γ : CEnv) (R : Reg) (base : St) (ops : List Oper) (path : List Res) : Prop :=
  ∀ i o x, ops[i]? = some o → path[i]? = some x → ResOK Θ Γ R base path i o x

theorem prefix_get {acc ext : List Res} {j : Nat} (h : j < acc.length) : (acc ++ ext)[j]? = acc[j]? := List.getElem?_append_left h

/-- From the walk in the order of the text to every path. -/
theorem anyRuns_sem {R : Reg} {base : St} {K : List Res → Prop} : ∀ (rest pre : List Oper) (acc ext : List Res), acc.length = pre.length → ext.length ≤ rest.length →
    anyRuns Θ Γ R base K pre.length rest acc → Comp Θ Γ R base (pre ++ rest) (acc ++ ext) →
    (ext.length = rest.length → K (acc ++ ext)) ∧ ∀ o, rest[ext.length]? = some o → Enabled Θ Γ R base (acc ++ ext) (pre.length + ext.length) o
  | [], pre, acc, ext, hl, hle, hr, hc => by
    have : ext = [] := by cases ext with | nil => rfl | cons _ _ => simp at hle
    subst this
    rw [anyRuns] at hr
    exact ⟨fun _ => by rw [List.append_nil]; exact hr, fun o ho => by simp at ho⟩
  | o :: rest, pre, acc, ext, hl, hle, hr, hc => by
    rw [anyRuns] at hr
    split at hr
    case h_2 => exact hr.elim
    next d hd hm =>
    have hm' : R.ms.getD pre.length 0 < 2 ^ pre.length := by simpa [Nat.blt_eq] using hm
    -- the formula by cases
    have key : (Wanted R acc pre.length o ∧ stepAny Θ Γ R base pre.length o d acc (anyRuns Θ Γ R base K (pre.length + 1) rest)) ∨
        (Unwanted R acc pre.length o ∧ anyRuns Θ Γ R base K (pre.length + 1) rest (acc ++ [skipped d])) := by
      split at hr
      · next hg => exact .inl ⟨.inl hg, hr⟩
      · next g b hg =>
        split at hr
        · next x hbit hx =>
          split at hr
          · next c hc' =>
            cases c
            · simp only [cond_false, fix_self hx hc'] at hr
              cases b
              · exact .inl ⟨.inr ⟨g, false, x, hg, hbit, hx, hc'⟩, hr⟩
              · exact .inr ⟨⟨g, true, x, hg, hbit, hx, .inl ⟨false, hc', by simp⟩⟩, hr⟩
            · simp only [cond_true, fix_self hx hc'] at hr
              cases b
              · exact .inr ⟨⟨g, false, x, hg, hbit, hx, .inl ⟨true, hc', by simp⟩⟩, hr⟩
              · exact .inl ⟨.inr ⟨g, true, x, hg, hbit, hx, hc'⟩, hr⟩
          · next vs hc' => exact .inr ⟨⟨g, b, x, hg, hbit, hx, .inr ⟨vs, hc'⟩⟩, hr⟩
          · exact hr.elim
        · exact hr.elim
    have hagree : ∀ ext : List Res, ∀ j, (R.ms.getD pre.length 0).testBit j = true → acc[j]? = (acc ++ ext)[j]? := by
      intro ext j hj
      rcases Nat.lt_or_ge j acc.length with h | h
      · rw [prefix_get h]
      · rw [testBit_out hm' (by omega)] at hj; cases hj
    cases ext with
    | nil =>
      refine ⟨fun h => by simp at h, fun o' ho' => ?_⟩
      have : o' = o := by simpa using ho'.symm
      subst this
      rw [List.append_nil]
      simp only [List.length_nil, Nat.add_zero]
      refine ⟨d, hd, hm', ?_⟩
      rcases key with ⟨hw, hs⟩ | ⟨hw, _⟩
      · refine .inl ⟨hw, ?_⟩
        unfold stepAny at hs
        split at hs
        · next he =>
          refine .inr ⟨he, ?_⟩
          split at hs
          · next p ρ os hrel =>
            refine ⟨p, ρ, os, hrel, hs.1, fun t ht => ?_⟩
            have := hs.2 t ht
            split at this
            · next v υ δ hres => exact ⟨_, hres⟩
            · exact this.elim
          · exact hs.elim
        · next he =>
          refine .inl ⟨he, ?_⟩
          split at hs
          · next p v δ hcalm =>
            split at hs
            · next hn hq => exact ⟨p, v, δ, hcalm, calm_quiet hcalm hq, hn⟩
            · next hn hq => exact ⟨p, v, δ, hcalm, hs.1, hn⟩
            · exact hs.elim
          · exact hs.elim
      · exact .inr hw
    | cons x ext =>
      have hx : ResOK Θ Γ R base (acc ++ x :: ext) pre.length o x := by
        refine hc pre.length o x ?_ ?_
        · rw [List.getElem?_append_right (Nat.le_refl _)]; simp
        · rw [← hl, List.getElem?_append_right (Nat.le_refl _)]; simp
      obtain ⟨e1, _, e3⟩ := hx
      have hxd : x.d = d := by rw [hd] at e1; exact (Option.some.inj e1).symm
      have hview : viewAt R base acc pre.length = viewAt R base (acc ++ x :: ext) pre.length := viewAt_agree (hagree _)
      have hnext : anyRuns Θ Γ R base K (pre.length + 1) rest (acc ++ [x]) := by
        rcases key with ⟨hw, hs⟩ | ⟨hw, hs⟩
        · rcases e3 with ⟨_, e3⟩ | ⟨⟨g, b, y, f1, f2, f3, f4⟩, _⟩
          · rw [← hview, hxd] at e3
            unfold stepAny at hs
            rcases e3 with ⟨he, hu, _, p, hcalm, _⟩ | ⟨he, p, ρ, os, t, hrel, _, ht, _, hres⟩
            · rw [he] at hs
              simp only [hcalm] at hs
              have ex : x = ⟨d, x.v, [], x.δ⟩ := by cases x; simp at hxd hu; simp [hxd, hu]
              split at hs
              · rw [ex]; exact hs
              · rw [ex]; exact hs.2
              · exact hs.elim
            · rw [he] at hs
              simp only [hrel] at hs
              have h2 := hs.2 t ht
              simp only [hres] at h2
              have ex : x = ⟨d, x.v, x.u, x.δ⟩ := by cases x; simp at hxd; simp [hxd]
              rw [ex]; exact h2
          · exfalso
            rw [← hagree _ g f2] at f3
            rcases hw with hw | ⟨g', b', y', k1, k2, k3, k4⟩
            · rw [hw] at f1; cases f1
            · rw [f1] at k1; cases k1
              rw [f3] at k3; cases k3
              rcases f4 with ⟨c, f4, hne⟩ | ⟨vs, f4⟩
              · rw [f4] at k4; cases k4; exact hne rfl
              · rw [f4] at k4; cases k4
        · rcases e3 with ⟨hw', _⟩ | ⟨_, f1, f2, f3⟩
          · exfalso
            obtain ⟨g, b, y, k1, k2, k3, k4⟩ := hw
            rcases hw' with hw' | ⟨g', b', y', l1, l2, l3, l4⟩
            · rw [hw'] at k1; cases k1
            · rw [k1] at l1; cases l1
              rw [← hagree _ g l2, k3] at l3; cases l3
              rcases k4 with ⟨c, k4, hne⟩ | ⟨vs, k4⟩
              · rw [k4] at l4; cases l4; exact hne rfl
              · rw [k4] at l4; cases l4
          · have ex : x = skipped d := by cases x; simp at hxd f1 f2 f3; simp [skipped, hxd, f1, f2, f3]
            rw [ex]; exact hs
      have ih := anyRuns_sem rest (pre ++ [o]) (acc ++ [x]) ext (by simp [hl]) (by simpa using hle) (by simpa using hnext) (by simpa using hc)
      simp only [List.append_assoc, List.singleton_append, List.length_append, List.length_cons, List.length_nil] at ih
      refine ⟨fun h => ih.1 (by simpa using h), fun o' ho' => ?_⟩
      have := ih.2 o' (by simpa using ho')
      rw [show pre.length + (0 + 1) + ext.length = pre.length + (ext.length + 1) by omega] at this
      simpa using this
end Go.Fw
/- Quiet operations in any order. -/
namespace Go.Fw
open Go

variable {P : Program} {w0 : World} {M : Nat → Prop} {T : Ext} {γ γ' : Nat → Value} {st : St} {a : Act} {w w' : World} {Θ : TEnv} {Γ : CEnv}

theorem edgeMask_spec (acc : List Nat) (j : Nat) : ∀ (es : List Edge), (edgeMask acc es).testBit j = true ↔ ∃ e ∈ es, Region.binds .any e = true ∧ (e.on = j ∨ (acc.getD e.on 0).testBit j = true)
  | [] => by simp [edgeMask]
  | e :: r => by
    rw [edgeMask]
    cases hb : Region.binds .any e with
    | false =>
      simp only [edgeMask_spec acc j r, List.mem_cons]
      constructor
      · rintro ⟨e', h1, h2⟩; exact ⟨e', .inr h1, h2⟩
      · rintro ⟨e', rfl | h1, h2⟩
        · rw [hb] at h2; cases h2.1
        · exact ⟨e', h1, h2⟩
    | true =>
      simp only [Nat.testBit_or, Bool.or_eq_true, edgeMask_spec acc j r, List.mem_cons, Nat.testBit_two_pow, decide_eq_true_eq]
      constructor
      · rintro ((h | h) | ⟨e', h1, h2⟩)
        · exact ⟨e, .inl rfl, hb, .inl h⟩
        · exact ⟨e, .inl rfl, hb, .inr h⟩
        · exact ⟨e', .inr h1, h2⟩
      · rintro ⟨e', rfl | h1, h2⟩
        · exact .inl h2.2
        · exact .inr ⟨e', h1, h2⟩

theorem masks_getD : ∀ (l : List Oper) (acc : List Nat) (i : Nat), i < acc.length → (masks l acc).getD i 0 = acc.getD i 0
  | [], _, _, _ => rfl
  | o :: r, acc, i, h => by
    rw [masks, masks_getD r _ i (by simp; omega)]
    simp [List.getD_eq_getElem?_getD, List.getElem?_append_left h]
theorem masks_spec : ∀ (l : List Oper) (acc : List Nat) (i : Nat) (o : Oper), l[i]? = some o → ∃ acc', (masks l acc).getD (acc.length + i) 0 = edgeMask acc' o.after.toList ∧
    (∀ j, j < acc'.length → (masks l acc).getD j 0 = acc'.getD j 0)
  | [], _, _, _, h => by simp at h
  | o :: r, acc, 0, o', h => by
    simp at h; subst h
    refine ⟨acc, ?_, fun j hj => ?_⟩
    · rw [masks, masks_getD r _ _ (by simp)]
      simp [List.getD_eq_getElem?_getD]
    · rw [masks, masks_getD r _ _ (by simp; omega)]
      simp [List.getD_eq_getElem?_getD, List.getElem?_append_left hj]
  | o :: r, acc, i + 1, o', h => by
    obtain ⟨acc', h1, h2⟩ := masks_spec r (acc ++ [edgeMask acc o.after.toList]) i o' (by simpa using h)
    refine ⟨acc', ?_, ?_⟩
    · rw [masks, ← h1]; simp only [List.length_append, List.length_singleton]; congr 1; omega
    · rw [masks]; exact h2

theorem mask_edge {ops : List Oper} {i : Nat} {o : Oper} (ho : ops[i]? = some o) {e : Edge} (he : e ∈ o.after) (hb : Region.binds .any e = true) : ((masks ops []).getD i 0).testBit e.on = true := by
  obtain ⟨acc', h1, _⟩ := masks_spec ops [] i o ho
  simp only [List.length_nil, Nat.zero_add] at h1
  rw [h1, edgeMask_spec]
  exact ⟨e, by simpa using he, hb, .inl rfl⟩
theorem mask_back {ops : List Oper} {i : Nat} {o : Oper} (ho : ops[i]? = some o) {j : Nat} (hj : ((masks ops []).getD i 0).testBit j = true) :
    ∃ e ∈ o.after, Region.binds .any e = true ∧ (e.on = j ∨ ((masks ops []).getD e.on 0).testBit j = true) := by
  obtain ⟨acc', h1, h2⟩ := masks_spec ops [] i o ho
  simp only [List.length_nil, Nat.zero_add] at h1
  rw [h1, edgeMask_spec] at hj
  obtain ⟨e, he, hb, hj⟩ := hj
  refine ⟨e, by simpa using he, hb, hj.imp id fun h => ?_⟩
  rcases Nat.lt_or_ge e.on acc'.length with hlt | hge
  · rw [h2 _ hlt]; exact h
  · rw [List.getD_eq_getElem?_getD, List.getElem?_eq_none hge] at h; simp at h

def unl (L : Nat → Bool) : Nat → Nat
  | 0 => 0
  | n + 1 => (match L n with | true => 0 | false => 1) + unl L n
theorem unl_congr {L L' : Nat → Bool} : ∀ (n : Nat), (∀ i, i < n → L i = L' i) → unl L n = unl L' n
  | 0, _ => rfl
  | n + 1, h => by rw [unl, unl, h n (by omega), unl_congr n fun i hi => h i (by omega)]
theorem unl_set {L L' : Nat → Bool} {i : Nat} (hi : L i = false) (hi' : L' i = true) (h : ∀ j, j ≠ i → L' j = L j) : ∀ (n : Nat), i < n → unl L' n + 1 = unl L n
  | 0, hn => by omega
  | n + 1, hn => by
    rw [unl, unl]
    by_cases e : n = i
    · subst e
      rw [hi, hi', unl_congr (L := L') (L' := L) n fun j hj => h j (by omega)]
      simp only; omega
    · have := unl_set hi hi' h n (by omega)
      rw [h n e]; omega
theorem unl_zero {L : Nat → Bool} : ∀ (n : Nat), unl L n = 0 → ∀ i, i < n → L i = true
  | 0, _, i, hi => by omega
  | n + 1, h, i, hi => by
    rw [unl] at h
    cases hl : L n with
    | false => simp only [hl] at h; omega
    | true =>
      by_cases e : i = n
      · rw [e]; exact hl
      · exact unl_zero n (by simp only [hl] at h; omega) i (by omega)

theorem least {p : Nat → Prop} [DecidablePred p] : ∀ (n : Nat), (∃ i, i < n ∧ p i) → ∃ i, i < n ∧ p i ∧ ∀ j, j < i → ¬ p j := by
  intro n
  induction n using Nat.strongRecOn with
  | _ n ih =>
    rintro ⟨i, hi, hp⟩
    by_cases h : ∃ j, j < i ∧ p j
    · obtain ⟨j, hj, h1, h2⟩ := ih i hi h
      exact ⟨j, by omega, h1, h2⟩
    · exact ⟨i, hi, hp, fun j hj hpj => h ⟨j, hj, hpj⟩⟩


/-- The results of a path have slots of their own; their new objects bear the slot's names. -/
structure Fits (D U : List Nat) (l : List Res) : Prop where
  one : ∀ x ∈ l, ∀ y ∈ l, x.d = y.d → x = y
  mem : ∀ x ∈ l, memNum D x.d = true
  new : ∀ x ∈ l, namesOK x.d x.δ = true
  upd : ∀ x ∈ l, ∀ o y, look x.u o = some y → memNum U o = true ∧ memNum D (o / 64) = false

theorem look_names {d : Nat} {δ : List (Nat × AObj)} (h : namesOK d δ = true) {o : Nat} {y : AObj} (hl : look δ o = some y) : o / 64 = d :=
  Nat.eq_of_beq_eq_true (List.all_eq_true.1 h _ (look_mem δ o y hl))
theorem lookT_none {t : Nat} {b : AV} : ∀ (l : List Res), (∀ x ∈ l, x.d ≠ t) → lookT l t b = b
  | [], _ => rfl
  | x :: r, h => by
    rw [lookT]
    have : Nat.beq t x.d = false := by
      cases hb : Nat.beq t x.d with
      | false => rfl
      | true => exact (h x List.mem_cons_self (Nat.eq_of_beq_eq_true hb).symm).elim
    rw [this]
    exact lookT_none r fun y hy => h y (List.mem_cons_of_mem _ hy)
theorem lookT_mem {b : AV} {x : Res} : ∀ (l : List Res), x ∈ l → (∀ y ∈ l, x.d = y.d → x = y) → lookT l x.d b = x.v
  | [], h, _ => by cases h
  | y :: r, h, hu => by
    rw [lookT]
    cases hb : Nat.beq x.d y.d with
    | true => rw [hu y List.mem_cons_self (Nat.eq_of_beq_eq_true hb)]
    | false =>
      rcases List.mem_cons.1 h with rfl | h
      · simp at hb
      · exact lookT_mem r h fun z hz => hu z (List.mem_cons_of_mem _ hz)
theorem lookO_none {o : Nat} {b : Option AObj} : ∀ (l : List Res), (∀ x ∈ l, look x.δ o = none) → lookO l o b = b
  | [], _ => rfl
  | x :: r, h => by
    rw [lookO, h x List.mem_cons_self]
    exact lookO_none r fun y hy => h y (List.mem_cons_of_mem _ hy)
theorem lookO_mem {o : Nat} {b : Option AObj} {x : Res} {z : AObj} : ∀ (l : List Res), x ∈ l → look x.δ o = some z → (∀ y ∈ l, ∀ z', look y.δ o = some z' → x = y) → lookO l o b = some z
  | [], h, _, _ => by cases h
  | y :: r, h, hz, hu => by
    rw [lookO]
    cases hy : look y.δ o with
    | some z' => have := hu y List.mem_cons_self z' hy; subst this; rw [hz] at hy; exact hy.symm
    | none =>
      rcases List.mem_cons.1 h with rfl | h
      · rw [hz] at hy; cases hy
      · exact lookO_mem r h hz fun w hw => hu w (List.mem_cons_of_mem _ hw)
theorem lookU_none {o : Nat} : ∀ (l : List Res), (∀ x ∈ l, look x.u o = none) → lookU l o = none
  | [], _ => rfl
  | x :: r, h => by
    rw [lookU, lookU_none r fun y hy => h y (List.mem_cons_of_mem _ hy)]
    exact h x List.mem_cons_self
theorem lookU_append {o : Nat} (r : List Res) : ∀ (l : List Res), lookU (l ++ r) o = match lookU r o with | some y => some y | none => lookU l o
  | [] => by simp only [List.nil_append, lookU]; cases lookU r o <;> rfl
  | x :: l => by
    rw [List.cons_append, lookU, lookU_append r l, lookU]
    cases lookU r o <;> rfl
/-- Only what changed something matters. -/
theorem lookU_congr {o : Nat} {m m' : Nat → Bool} : ∀ (l : List Res) (j : Nat), (∀ i x, l[i]? = some x → x.u ≠ [] → m (j + i) = m' (j + i)) → lookU (pick l j m) o = lookU (pick l j m') o
  | [], _, _ => rfl
  | x :: r, j, h => by
    have ih := lookU_congr (o := o) (m := m) (m' := m') r (j + 1) (fun i y hi hy => by
      have := h (i + 1) y (by simpa using hi) hy
      rwa [show j + (i + 1) = j + 1 + i by omega] at this)
    have h0 := h 0 x rfl
    rw [Nat.add_zero] at h0
    rw [pick, pick]
    cases hm : m j <;> cases hm' : m' j
    · exact ih
    · have hx : x.u = [] := Classical.byContradiction fun e => by have := h0 e; rw [hm, hm'] at this; cases this
      simp only [lookU, hx, look]
      rw [ih]
      cases lookU (pick r (j + 1) m') o <;> rfl
    · have hx : x.u = [] := Classical.byContradiction fun e => by have := h0 e; rw [hm, hm'] at this; cases this
      simp only [lookU, hx, look]
      rw [ih]
      cases lookU (pick r (j + 1) m') o <;> rfl
    · simp only [lookU, ih]
theorem lookT_split {x : Res} {t : Nat} {b : AV} (r : List Res) : ∀ (l : List Res), (∀ y ∈ l, y.d ≠ x.d) → lookT (l ++ x :: r) t b = match Nat.beq t x.d with | true => x.v | false => lookT (l ++ r) t b
  | [], _ => by simp only [List.nil_append, lookT] <;> rfl
  | y :: l, h => by
    rw [List.cons_append, List.cons_append, lookT, lookT_split r l fun z hz => h z (List.mem_cons_of_mem _ hz), lookT]
    cases hb : Nat.beq t y.d with
    | false => rfl
    | true =>
      have : Nat.beq t x.d = false := by
        cases hb2 : Nat.beq t x.d with
        | false => rfl
        | true => exact (h y List.mem_cons_self ((Nat.eq_of_beq_eq_true hb).symm.trans (Nat.eq_of_beq_eq_true hb2))).elim
      rw [this]
theorem lookO_split {x : Res} {o : Nat} {b : Option AObj} (r : List Res) : ∀ (l : List Res), (∀ y ∈ l, ∀ z z', look y.δ o = some z → look x.δ o = some z' → False) →
    lookO (l ++ x :: r) o b = match look x.δ o with | some y => some y | none => lookO (l ++ r) o b
  | [], _ => by simp only [List.nil_append, lookO] <;> (cases look x.δ o <;> rfl)
  | y :: l, h => by
    rw [List.cons_append, List.cons_append, lookO, lookO_split r l fun z hz => h z (List.mem_cons_of_mem _ hz), lookO]
    cases hy : look y.δ o with
    | none => rfl
    | some z =>
      cases hx : look x.δ o with
      | none => rfl
      | some z' => exact (h y List.mem_cons_self z z' hy hx).elim

/-- One more operation is done. -/
theorem afterP_more {base : St} {D U : List Nat} {l r : List Res} {x : Res} (hf : Fits D U (l ++ x :: r)) (hne : ∀ y ∈ l ++ r, y.d ≠ x.d) (hu : x.u ≠ [] → ∀ y ∈ r, y.u = []) :
    (((afterP base (l ++ r)).adds x.u).adds x.δ).set x.d x.v = afterP base (l ++ x :: r) := by
  have hx : x ∈ l ++ x :: r := by simp
  have hsub : ∀ y ∈ l ++ r, y ∈ l ++ x :: r := fun y hy => by
    rcases List.mem_append.1 hy with h | h
    · exact List.mem_append_left _ h
    · exact List.mem_append_right _ (List.mem_cons_of_mem _ h)
  have e1 : (((afterP base (l ++ r)).adds x.u).adds x.δ).set x.d x.v = { n := base.n, tmps := fun t => match Nat.beq t x.d with | true => x.v | false => lookT (l ++ r) t (base.tmps t), objs := (((afterP base (l ++ r)).adds x.u).adds x.δ).objs } := by
    rw [adds_eq, adds_eq (afterP base (l ++ r)) x.u]; rfl
  rw [e1]
  unfold afterP
  congr 1
  · funext t
    rw [lookT_split r l fun y hy => hne y (List.mem_append_left _ hy)]
  · funext o
    rw [adds_objs, adds_objs]
    have hO := lookO_split (x := x) (o := o) (b := base.objs o) r l fun y hy z z' hz hz' => hne y (List.mem_append_left _ hy) ((look_names (hf.new y (hsub y (List.mem_append_left _ hy))) hz).symm.trans (look_names (hf.new x hx) hz'))
    have hU : lookU (l ++ x :: r) o = match look x.u o with | some y => some y | none => lookU (l ++ r) o := by
      rw [lookU_append, lookU_append, lookU]
      by_cases hxu : x.u = []
      · rw [hxu, look]
        cases lookU r o <;> rfl
      · rw [lookU_none r fun y hy => by rw [hu hxu y hy]; rfl]
    rw [hO, hU]
    cases hδ : look x.δ o with
    | none => cases look x.u o <;> rfl
    | some z =>
      have hod : memNum D (o / 64) = true := by rw [look_names (hf.new x hx) hδ]; exact hf.mem x hx
      have nou : ∀ y ∈ l ++ x :: r, look y.u o = none := fun y hy => by
        cases hl : look y.u o with
        | none => rfl
        | some w => have := (hf.upd y hy o w hl).2; rw [hod] at this; cases this
      rw [nou x hx, lookU_none (l ++ r) fun y hy => nou y (hsub y hy)]

theorem after_more {base : St} {D U : List Nat} {path : List Res} {L L' : Nat → Bool} {i : Nat} {x : Res} (hi : i < path.length) (hL : L i = false) (hL' : L' i = true) (h : ∀ j, j ≠ i → L' j = L j)
    (hf : Fits D U (pick (path.set i x) 0 L')) (hne : ∀ y ∈ pick path 0 L, y.d ≠ x.d) (hu : x.u ≠ [] → ∀ j y, i < j → L j = true → path[j]? = some y → y.u = []) :
    (((after base path L).adds x.u).adds x.δ).set x.d x.v = after base (path.set i x) L' := by
  have hsplit : path = path.take i ++ path[i] :: path.drop (i + 1) := by rw [List.getElem_cons_drop, List.take_append_drop]
  have hset : path.set i x = path.take i ++ x :: path.drop (i + 1) := by
    rw [List.set_eq_take_append_cons_drop, if_pos hi]
  have hlen : (path.take i).length = i := by rw [List.length_take]; omega
  have p1 : pick path 0 L = pick (path.take i) 0 L ++ pick (path.drop (i + 1)) (i + 1) L := by
    conv => lhs; rw [hsplit]
    rw [pick_append, hlen, Nat.zero_add, pick, hL]
  have hcong : ∀ (l : List Res) (j : Nat), (∀ k, k < l.length → j + k ≠ i) → pick l j L' = pick l j L := by
    intro l
    induction l with
    | nil => intros; rfl
    | cons y l ih =>
      intro j hj
      rw [pick, pick, h j (by simpa using hj 0 (by simp)), ih (j + 1) fun k hk => by have := hj (k + 1) (by simpa using hk); omega]
  have p2 : pick (path.set i x) 0 L' = pick (path.take i) 0 L ++ x :: pick (path.drop (i + 1)) (i + 1) L := by
    rw [hset, pick_append, hlen, Nat.zero_add, pick, hL', hcong (path.take i) 0 fun k hk => by omega, hcong (path.drop (i + 1)) (i + 1) fun k hk => by omega]
  unfold after
  rw [p2] at hf
  rw [p1] at hne
  rw [p1, p2]
  refine afterP_more hf hne fun hxu y hy => ?_
  obtain ⟨k, hk1, hk2⟩ := (mem_pick _ _).1 hy
  rw [List.getElem?_drop] at hk2
  exact hu hxu (i + 1 + k) y (by omega) hk1 hk2

theorem after_none {base : St} {path : List Res} {L : Nat → Bool} (hL : ∀ i, L i = false) : after base path L = base := by
  unfold after
  rw [pick_none path 0 L fun i _ => hL i]
  rfl

theorem base_rel (h : Rel w0 M T γ st a w) (D : List Nat) : Rel w0 M T γ (baseOf D st) a w :=
  (h.kill _).forget _ fun t => by cases memNum D t with | true => exact .inr rfl | false => exact .inl rfl
theorem base_tmps {D : List Nat} {t : Nat} (h : memNum D t = true) : (baseOf D st).tmps t = .undef := by simp [baseOf, h]
theorem base_objs {D : List Nat} {o : Nat} (h : memNum D (o / 64) = true) : (baseOf D st).objs o = none := by simp [baseOf, St.kill, h]

/-- What an operation sees stands in the state. -/
theorem viewAt_more {R : Reg} {path : List Res} {L : Nat → Bool} {i : Nat} (hf : Fits R.D R.U (pick path 0 L)) (hsub : ∀ j, (R.ms.getD i 0).testBit j = true → L j = true)
    (heff : cmpAll R.ms R.E i = true → ∀ j x, path[j]? = some x → x.u ≠ [] → L j = true → (R.ms.getD i 0).testBit j = true) :
    (viewAt R (baseOf R.D st) path i).more (after (baseOf R.D st) path L) := by
  have hmem : ∀ x ∈ pick path 0 (R.ms.getD i 0).testBit, x ∈ pick path 0 L := fun x hx => by
    obtain ⟨j, h1, h2⟩ := (mem_pick _ _).1 hx
    rw [Nat.zero_add] at h1
    exact (mem_pick _ _).2 ⟨j, by rw [Nat.zero_add]; exact hsub j h1, h2⟩
  have ht : ∀ t, lookT (pick path 0 (R.ms.getD i 0).testBit) t ((baseOf R.D st).tmps t) = .undef ∨ lookT (pick path 0 L) t ((baseOf R.D st).tmps t) = lookT (pick path 0 (R.ms.getD i 0).testBit) t ((baseOf R.D st).tmps t) := by
    intro t
    by_cases he : ∃ x ∈ pick path 0 (R.ms.getD i 0).testBit, x.d = t
    · obtain ⟨x, hx, rfl⟩ := he
      right
      rw [lookT_mem _ hx fun y hy e => hf.one x (hmem x hx) y (hmem y hy) e, lookT_mem _ (hmem x hx) fun y hy e => hf.one x (hmem x hx) y hy e]
    · rw [lookT_none (pick path 0 (R.ms.getD i 0).testBit) fun x hx e => he ⟨x, hx, e⟩]
      by_cases he2 : ∃ x ∈ pick path 0 L, x.d = t
      · obtain ⟨x, hx, rfl⟩ := he2
        exact .inl (base_tmps (hf.mem x hx))
      · right
        exact lookT_none _ fun x hx e => he2 ⟨x, hx, e⟩
  have hO : ∀ o y, lookO (pick path 0 (R.ms.getD i 0).testBit) o ((baseOf R.D st).objs o) = some y → lookO (pick path 0 L) o ((baseOf R.D st).objs o) = some y := by
    intro o y hy
    by_cases he : ∃ x ∈ pick path 0 (R.ms.getD i 0).testBit, ∃ z, look x.δ o = some z
    · obtain ⟨x, hx, z, hz⟩ := he
      have huniq : ∀ w ∈ pick path 0 L, ∀ z', look w.δ o = some z' → x = w := fun w hw z' hz' =>
        hf.one x (hmem x hx) w hw ((look_names (hf.new x (hmem x hx)) hz).symm.trans (look_names (hf.new w hw) hz'))
      rw [lookO_mem _ hx hz fun w hw z' hz' => huniq w (hmem w hw) z' hz'] at hy
      rw [lookO_mem _ (hmem x hx) hz huniq]
      exact hy
    · have hno : ∀ x ∈ pick path 0 (R.ms.getD i 0).testBit, look x.δ o = none := fun x hx => by
        cases hl : look x.δ o with
        | none => rfl
        | some z => exact (he ⟨x, hx, z, hl⟩).elim
      rw [lookO_none _ hno] at hy
      rw [lookO_none, hy]
      intro x hx
      cases hl : look x.δ o with
      | none => rfl
      | some z =>
        rw [base_objs (by rw [look_names (hf.new x hx) hl]; exact hf.mem x hx)] at hy
        cases hy
  have hsame : ∀ o y, lookU (pick path 0 (R.ms.getD i 0).testBit) o = lookU (pick path 0 L) o → (after (baseOf R.D st) path (R.ms.getD i 0).testBit).objs o = some y → (after (baseOf R.D st) path L).objs o = some y := by
    intro o y he hy
    unfold after afterP at hy ⊢
    dsimp only at hy ⊢
    rw [he] at hy
    split at hy
    · next z hz => exact hy
    · next hz => exact hO o y hy
  unfold viewAt
  split
  · next hc =>
    refine ⟨ht, fun o y hy => hsame o y ?_ hy⟩
    refine lookU_congr path 0 fun j x hj hu => ?_
    rw [Nat.zero_add]
    cases hL : L j with
    | true => exact heff hc j x hj hu hL
    | false =>
      cases hm : (R.ms.getD i 0).testBit j with
      | false => rfl
      | true => rw [hsub j hm] at hL; cases hL
  · next hc =>
    refine ⟨ht, fun o y hy => ?_⟩
    unfold St.hide at hy
    dsimp only at hy
    split at hy
    · cases hy
    · next hU =>
      refine hsame o y ?_ hy
      have nou : ∀ x ∈ pick path 0 L, look x.u o = none := fun x hx => by
        cases hl : look x.u o with
        | none => rfl
        | some z => have := (hf.upd x hx o z hl).1; rw [hU] at this; cases this
      rw [lookU_none _ nou, lookU_none _ fun x hx => nou x (hmem x hx)]
end Go.Fw
/- Regions whose order is drawn are sound. -/
namespace Go.Fw
open Go

variable {P : Program} {w0 : World} {M : Nat → Prop} {T : Ext} {γ γ' : Nat → Value} {st s : St} {a : Act} {w w' : World} {Θ : TEnv} {Γ : CEnv}

theorem Cell.kill_id {S : Nat → Bool} (h : ∀ o, S o = false) : ∀ (c : Cell), c.kill S = c
  | .ref o => by simp only [Cell.kill, h o]
  | .int _ _ | .bool _ | .str _ | .nil | .sl _ _ _ _ | .junk => rfl
theorem cells_kill_id {S : Nat → Bool} (h : ∀ o, S o = false) (cs : List Cell) : cs.map (Cell.kill S) = cs := by
  rw [show Cell.kill S = id from funext (Cell.kill_id h), List.map_id]
theorem SV.kill_id {S : Nat → Bool} (h : ∀ o, S o = false) : ∀ (c : SV), c.kill S = c
  | .one c => by simp only [SV.kill, Cell.kill_id h]
  | .agg cs => by simp only [SV.kill, cells_kill_id h]
theorem AV.kill_id {S : Nat → Bool} (h : ∀ o, S o = false) : ∀ (c : AV), c.kill S = c
  | .undef => rfl
  | .sv v => by simp only [AV.kill, SV.kill_id h]
  | .tup vs => by simp only [AV.kill]; rw [show SV.kill S = id from funext (SV.kill_id h), List.map_id]
  | .vptr o off => by simp only [AV.kill, h o]
  | .eptr o i off => by simp only [AV.kill, h o]
  | .rptr _ _ _ _ => rfl
  | .kptr cs off => by simp only [AV.kill, cells_kill_id h]
  | .fn f caps => by simp only [AV.kill]; rw [show List.map (Cell.kill S) = id from funext (cells_kill_id h), List.map_id]
theorem AObj.kill_id {S : Nat → Bool} (h : ∀ o, S o = false) : ∀ (c : AObj), c.kill S = c
  | .var cs => by simp only [AObj.kill, cells_kill_id h]
  | .arr _ _ _ _ => rfl
theorem St.kill_id {S : Nat → Bool} (h : ∀ o, S o = false) (st : St) : st.kill S = st := by
  unfold St.kill
  rw [show (fun t => (st.tmps t).kill S) = st.tmps from funext fun t => AV.kill_id h _]
  have : (fun o => match S o with | true => none | false => (st.objs o).map (AObj.kill S)) = st.objs := by
    funext o
    rw [h o, show AObj.kill S = id from funext (AObj.kill_id h)]
    cases st.objs o <;> rfl
  exact congrArg (fun f => ({ n := st.n, tmps := st.tmps, objs := f } : St)) this

theorem noref_view : ∀ (c : Cell), c.refs = [] → c.view s = c.view st
  | .int _ _, _ | .bool _, _ | .str _, _ | .nil, _ | .sl _ _ _ _, _ | .junk, _ => rfl
theorem norefs_view : ∀ (cs : List Cell), cs.flatMap Cell.refs = [] → cs.map (Cell.view s) = cs.map (Cell.view st)
  | [], _ => rfl
  | c :: cs, h => by
    rw [List.flatMap_cons, List.append_eq_nil_iff] at h
    rw [List.map_cons, List.map_cons, noref_view c h.1, norefs_view cs h.2]
theorem handOne_more (h : st.more s) {m : Mode} {x : AV} {r : Arg × Option Nat} (hr : handOne st m x = some r) : handOne s m x = some r := by
  unfold handOne at hr ⊢
  cases m with
  | val =>
    dsimp only at hr ⊢
    split at hr
    · next a hx ha => rw [hx, argsOf_more h _ _ ha]; exact hr
    · cases hr
  | own =>
    dsimp only at hr ⊢
    split at hr
    · split at hr
      · next ho => rw [h.objs _ _ ho]; exact hr
      · cases hr
    · cases hr
  | ptr =>
    dsimp only at hr ⊢
    split at hr
    · split at hr
      · next hb ho =>
        split at hr
        · next hn => rw [hb, h.objs _ _ ho]; dsimp only; rw [hn, norefs_view (s := s) (st := st) _ hn]; exact hr
        · cases hr
      · cases hr
    · cases hr
theorem handOne_known {m : Mode} {x : AV} {r : Arg × Option Nat} (hr : handOne st m x = some r) : x ≠ .undef := by
  rintro rfl
  cases m <;> simp [handOne, argsOf] at hr
theorem hands_more (h : st.more s) : ∀ (ms : List Mode) (xs : List AV) (r : List Arg × List (Option Nat)), hands st ms xs = some r → hands s ms xs = some r
  | _, [], r, hr => by unfold hands at hr ⊢; exact hr
  | ms, x :: xs, r, hr => by
    unfold hands at hr ⊢
    split at hr
    · next h1 h2 => rw [handOne_more h h1, hands_more h _ _ _ h2]; exact hr
    · cases hr
theorem hands_known : ∀ (ms : List Mode) (xs : List AV) (r : List Arg × List (Option Nat)), hands st ms xs = some r → ∀ x ∈ xs, x ≠ .undef
  | _, [], _, _, x, hx => by cases hx
  | ms, x :: xs, r, hr, y, hy => by
    unfold hands at hr
    split at hr
    · next h1 h2 =>
      rcases List.mem_cons.1 hy with rfl | hy
      · exact handOne_known h1
      · exact hands_known _ _ _ h2 y hy
    · cases hr
theorem backs_more (h : st.more s) : ∀ (os : List (Option Nat)) (effs : List Eff) (δ : List (Nat × AObj)), backs st os effs = some δ → backs s os effs = some δ
  | [], _, _, hb => by unfold backs at hb ⊢; exact hb
  | none :: os, effs, δ, hb => by rw [backs] at hb ⊢; exact backs_more h os _ δ hb
  | some o :: os, effs, δ, hb => by
    unfold backs at hb ⊢
    split at hb
    · next h1 h2 => rw [h1, backs_more h _ _ _ h2]; dsimp only; exact hb
    · next h1 h2 h3 => rw [h1, h.objs _ _ h2, backs_more h _ _ _ h3]; dsimp only; exact hb
    · next h1 h2 h3 => rw [h1, h.objs _ _ h2, backs_more h _ _ _ h3]; dsimp only; exact hb
    · cases hb
theorem noLose_lost : ∀ (os : List (Option Nat)) (effs : List Eff), noLose os effs = true → ∀ p, lostBy os effs p = false
  | [], _, _, _ => rfl
  | none :: os, effs, h, p => by rw [noLose] at h; rw [lostBy]; exact noLose_lost os _ h p
  | some o :: os, effs, h, p => by
    unfold noLose at h
    unfold lostBy
    split at h
    · next cs he => rw [he]; exact noLose_lost os _ h p
    · cases h

/-- A call that changes own variables, where more is known than it sees. -/
theorem relAny_sound {G : Glob} (hE : EnvOK P G Θ Γ w0 M) (h : Rel w0 M T γ s a w) (hm : st.more s) (o : Oper) {D U : List Nat} {d : Nat} {p : Prop} {ρ : ROut} {os : List (Option Nat)}
    (hc : relAny Γ st o.op = some (p, ρ, os)) (hp : p) (hd : ∀ q, q / 64 = d → s.objs q = none) (hch : ∀ t, ρ.R t → ∃ r, resAny D U d st os (ρ.out t) (ρ.effs t) = some r) {next : Act → World → Prop} {Q : Exit → Act → World → Prop}
    (hn : ∀ t v υ δ u γ' w', ρ.R t → resAny D U d st os (ρ.out t) (ρ.effs t) = some (v, υ, δ) → Rel w0 M T γ' ((s.adds υ).adds δ) a w' → RepAV (viewOf w0 T γ' ((s.adds υ).adds δ) w') v u → next (a.put o.dst u) w') : o.wp P a w next Q := by
  unfold relAny at hc
  split at hc
  case h_2 => cases hc
  next f args tys hop =>
  split at hc
  case h_2 => cases hc
  next ms con hcon =>
  split at hc
  case h_2 => cases hc
  next vs os' hno hhands =>
  split at hc
  case h_2 => cases hc
  next q ρ' hq =>
  cases hc
  have hand : handed s args.toList [] = handed st args.toList [] := handed_more hm [] _ (hands_known _ _ _ hhands)
  have hhands' := hands_more hm _ _ _ hhands
  rw [← hand] at hhands'
  obtain ⟨hok, hcall⟩ := hE.xcons f ms con hcon
  have hv : RepAV (viewOf w0 T γ s w) (.fn f []) (a.eval (.func f)) := ev_rep h (.func f)
  obtain ⟨us, hvx, hkx⟩ := hv
  unfold Oper.wp
  rw [exec_call hop hvx hcall, Oper.upon_enter]
  have hxs : RepAVs (viewOf w0 T γ s w) (handed s args.toList []) (args.map a.eval ++ us).toList := by
    rw [Array.toList_append, Array.toList_map]
    exact handed_rep (f := f) h hkx args.toList
  have hk : (d * 64 + 1) % 64 = 1 := by omega
  have hspec : ∀ t, ρ.R t → ∃ υ, nodupO os = true ∧ apartX (ρ.effs t) ((ρ.out t).take (d * 64 + 1)).2 = true ∧ backs s os (ρ.effs t) = some υ ∧ s.kill (lostBy os (ρ.effs t)) = s ∧ freshIn s ((ρ.out t).take (d * 64 + 1)).2 = true ∧
      resAny D U d st os (ρ.out t) (ρ.effs t) = some (((ρ.out t).take (d * 64 + 1)).1, υ, ((ρ.out t).take (d * 64 + 1)).2) := by
    intro t ht
    obtain ⟨r, hr⟩ := hch t ht
    have hr0 := hr
    unfold resAny at hr
    split at hr
    · next υ hnd hb =>
      simp only [Bool.and_eq_true] at hnd
      split at hr
      · cases hr
        refine ⟨υ, hnd.1, hnd.2.1, backs_more hm _ _ _ hb, St.kill_id (noLose_lost _ _ hnd.2.2.1) s, ?_, hr0⟩
        refine List.all_eq_true.2 fun z hz => ?_
        rw [hd z.1 (Nat.eq_of_beq_eq_true (List.all_eq_true.1 hnd.2.2.2 z hz))]
        rfl
      · cases hr
    · cases hr
  obtain ⟨t0, ht0⟩ := (hok vs _ ρ hq hp).1
  obtain ⟨_, hnd, _⟩ := hspec t0 ht0
  refine (h.calledX hE hxs (hands_spec ms _ vs os hhands') hnd hk hok hq hp fun t ht => ?_).mono ?_
  · obtain ⟨υ, _, g1, g2, g3, g4, _⟩ := hspec t ht
    exact ⟨υ, g2, by rw [g3]; exact g4, g1⟩
  · rintro e w' ⟨t, δ, ht, hb, u, γ', rfl, g1, g2⟩
    obtain ⟨υ, _, _, k2, k3, _, k5⟩ := hspec t ht
    have hδ : υ = δ := Option.some.inj (k2.symm.trans hb)
    subst hδ
    rw [k3] at g1 g2
    exact hn t _ _ _ u γ' w' ht k5 g1 g2

theorem ready_iff {ops : Array Oper} {listed : Array Bool} {i : Nat} : i ∈ Region.ready .any ops listed ↔
    ∃ o, ops[i]? = some o ∧ listed.getD i true = false ∧ ∀ e ∈ o.after, Region.binds .any e = true → listed.getD e.on false = true := by
  rw [mem_ready]
  constructor
  · rintro ⟨h1, o, h2, h3⟩; exact ⟨o, h2, h1, h3⟩
  · rintro ⟨o, h2, h1, h3⟩; exact ⟨h1, o, h2, h3⟩

/-- The tail, in the order of its text. -/
theorem any_tail {ops : Array Oper} {Q : Exit → Act → World → Prop} {t0 : Nat} (ht : ∀ i o, ops[i]? = some o → t0 ≤ i → ∀ j, j < i → ((masks ops.toList []).getD i 0).testBit j = true)
    (hlt : ∀ i o, ops[i]? = some o → (masks ops.toList []).getD i 0 < 2 ^ i) :
    ∀ (l : List Oper) (k fuel : Nat) (listed : Array Bool) (a : Act) (w : World), t0 ≤ k → (∀ j, l[j]? = ops[k + j]?) → listed.size = ops.size → (∀ i, i < ops.size → (listed.getD i false = true ↔ i < k)) → ops.size ≤ k + fuel →
      wpList P ops Q l a w → wpAny P .any ops Q fuel listed a w := by
  intro l
  induction l with
  | nil =>
    intro k fuel listed a w hk hl hsz hL hf hw
    have hend : ops.size ≤ k := by
      rcases Nat.lt_or_ge k ops.size with h | h
      · have := hl 0; simp [h] at this
      · exact h
    have hnone : Region.ready .any ops listed = [] := by
      refine List.eq_nil_iff_forall_not_mem.2 fun i hi => ?_
      obtain ⟨o, ho, hn, _⟩ := ready_iff.1 hi
      obtain ⟨hi1, _⟩ := Array.getElem?_eq_some_iff.1 ho
      have := (hL i hi1).2 (by omega)
      have hi2 : i < listed.size := by omega
      simp [Array.getD, hi2] at hn this
      rw [hn] at this; cases this
    exact wpAny_done hnone hw fuel
  | cons o l ih =>
    intro k fuel listed a w hk hl hsz hL hf hw
    have ho : ops[k]? = some o := by simpa using (hl 0).symm
    obtain ⟨hklt, _⟩ := Array.getElem?_eq_some_iff.1 ho
    cases fuel with
    | zero => omega
    | succ fuel =>
      have hkl : listed.getD k true = false := by
        have h1 : ¬ listed.getD k false = true := fun h => by have := (hL k hklt).1 h; omega
        have hi2 : k < listed.size := by omega
        simp [Array.getD, hi2] at h1 ⊢
        exact h1
      have honly : ∀ i ∈ Region.ready .any ops listed, i = k := by
        intro i hi
        obtain ⟨o', ho', hn, hall⟩ := ready_iff.1 hi
        obtain ⟨hi1, _⟩ := Array.getElem?_eq_some_iff.1 ho'
        have hi2 : i < listed.size := by omega
        have hge : k ≤ i := by
          rcases Nat.lt_or_ge i k with h | h
          · have := (hL i hi1).2 h
            simp [Array.getD, hi2] at hn this
            rw [hn] at this; cases this
          · exact h
        rcases Nat.lt_or_ge k i with h | h
        · exfalso
          -- some edge leads to k or to one not listed
          have hb := ht i o' ho' (by omega) k h
          have key : ∀ (n i : Nat) (o' : Oper), i < n → ops[i]? = some o' → (∀ e ∈ o'.after, Region.binds .any e = true → listed.getD e.on false = true) → ((masks ops.toList []).getD i 0).testBit k = true → False := by
            intro n
            induction n with
            | zero => intro i o' hi; omega
            | succ n ihn =>
              intro i o' hin ho' hall hbit
              obtain ⟨e, he, heb, hek⟩ := mask_back (ops := ops.toList) (i := i) (o := o') (by simpa using ho') hbit
              have hle := hall e he heb
              have hebit := mask_edge (ops := ops.toList) (i := i) (o := o') (by simpa using ho') he heb
              have helt : e.on < i := by
                rcases Nat.lt_or_ge e.on i with h | h
                · exact h
                · rw [testBit_out (hlt i o' ho') h] at hebit; cases hebit
              obtain ⟨hi1', _⟩ := Array.getElem?_eq_some_iff.1 ho'
              have hek' := (hL e.on (by omega)).1 hle
              rcases hek with rfl | hk2
              · omega
              · -- e.on < k but k among those before it
                have hoe : ∃ oe, ops[e.on]? = some oe := ⟨ops[e.on]'(by omega), by simp⟩
                obtain ⟨oe, hoe⟩ := hoe
                have := testBit_out (hlt e.on oe hoe) (Nat.le_of_lt hek')
                rw [this] at hk2; cases hk2
          exact key (i + 1) i o' (by omega) ho' hall hb
        · omega
      have hready : k ∈ Region.ready .any ops listed := by
        refine ready_iff.2 ⟨o, ho, hkl, fun e he hb => ?_⟩
        have hebit := mask_edge (ops := ops.toList) (i := k) (o := o) (by simpa using ho) he hb
        have helt : e.on < k := by
          rcases Nat.lt_or_ge e.on k with h | h
          · exact h
          · rw [testBit_out (hlt k o ho) h] at hebit; cases hebit
        exact (hL e.on (by omega)).2 helt
      refine ⟨fun h => (by rw [h] at hready; cases hready), fun i hi => ?_⟩
      rw [honly i hi]
      have hrest : ∀ a w, wpList P ops Q l a w → wpAny P .any ops Q fuel (listed.setIfInBounds k true) a w := by
        intro a w hw
        refine ih (k + 1) fuel _ a w (by omega) (fun j => by have := hl (j + 1); simpa [Nat.add_assoc, Nat.add_comm 1 j] using this) (by simpa using hsz) (fun i hi => ?_) (by omega) hw
        by_cases e : k = i
        · subst e
          have hi2 : k < listed.size := by omega
          simp [Array.getD, hi2]
        · rw [getD_set_ne false e, hL i hi]; omega
      unfold wpOp
      simp only [ho]
      unfold wpList at hw
      split
      · next hwt => rw [if_pos hwt] at hw; exact hw.imp (Oper.wp_mono hrest) id
      · next hwt => rw [if_neg hwt] at hw; exact hrest _ _ hw

theorem getD_true {listed : Array Bool} {i : Nat} (hi : i < listed.size) : listed.getD i true = listed.getD i false := by
  simp [Array.getD, hi]

/-- What is known of the paths on the way. -/
structure Way (R : Reg) (ops : Array Oper) (t0 : Nat) (path : List Res) : Prop where
  len : path.length = t0
  dst : ∀ (i : Nat) (o : Oper) (x : Res), ops[i]? = some o → path[i]? = some x → o.dst = some x.d
  memD : ∀ x ∈ path, memNum R.D x.d = true
  apart : ∀ (i j : Nat) (x y : Res), path[i]? = some x → path[j]? = some y → x.d = y.d → i = j

/-- What was updated lies among what is fixed for it. -/
theorem ResOK.fit {R : Reg} {base : St} {path : List Res} {i : Nat} {o : Oper} {x : Res} (h : ResOK Θ Γ R base path i o x) :
    namesOK x.d x.δ = true ∧ (∀ q y, look x.u q = some y → memNum R.U q = true ∧ memNum R.D (q / 64) = false) ∧ (x.u ≠ [] → effOp Γ o.op = true) := by
  obtain ⟨_, _, h3⟩ := h
  rcases h3 with ⟨_, ⟨_, hu, hn, _⟩ | ⟨he, p, ρ, os, t, _, _, _, _, hres⟩⟩ | ⟨_, _, hu, hδ⟩
  · exact ⟨hn, (fun q y hy => by rw [hu] at hy; cases hy), fun hne => (hne hu).elim⟩
  · unfold resAny at hres
    split at hres
    · next υ hnd hb =>
      simp only [Bool.and_eq_true] at hnd
      split at hres
      · next hall =>
        simp only [Option.some.injEq, Prod.mk.injEq] at hres
        obtain ⟨_, e2, e3⟩ := hres
        refine ⟨by rw [← e3]; exact hnd.2.2.2, fun q y hy => ?_, fun _ => he⟩
        rw [← e2] at hy
        have := List.all_eq_true.1 hall _ (look_mem _ _ _ hy)
        simpa using this
      · cases hres
    · cases hres
  · exact ⟨by rw [hδ]; rfl, (fun q y hy => by rw [hu] at hy; cases hy), fun hne => (hne hu).elim⟩

theorem effIdx_mem : ∀ (l : List Oper) (i j : Nat) (o : Oper), l[j]? = some o → effOp Γ o.op = true → i + j ∈ effIdx Γ i l
  | [], _, _, _, h, _ => by simp at h
  | x :: r, i, 0, o, h, he => by
    simp at h; subst h
    rw [effIdx, he]
    simp
  | x :: r, i, j + 1, o, h, he => by
    have := effIdx_mem r (i + 1) j o (by simpa using h) he
    rw [show i + 1 + j = i + (j + 1) by omega] at this
    rw [effIdx]
    cases effOp Γ x.op
    · exact this
    · exact List.mem_cons_of_mem _ this

theorem Way.fits {R : Reg} {ops : Array Oper} {t0 : Nat} {path : List Res} {L : Nat → Bool} {base : St} (W : Way R ops t0 path) (hle : t0 ≤ ops.size)
    (hok : ∀ j o x, ops[j]? = some o → path[j]? = some x → L j = true → ResOK Θ Γ R base path j o x) : Fits R.D R.U (pick path 0 L) := by
  have get : ∀ x ∈ pick path 0 L, ∃ j o, L j = true ∧ path[j]? = some x ∧ ops[j]? = some o := fun x hx => by
    obtain ⟨j, h1, h2⟩ := (mem_pick _ _).1 hx
    rw [Nat.zero_add] at h1
    obtain ⟨hj, _⟩ := List.getElem?_eq_some_iff.1 h2
    have hlen := W.len
    exact ⟨j, ops[j]'(by omega), h1, h2, by simp⟩
  refine ⟨fun x hx y hy e => ?_, fun x hx => ?_, fun x hx => ?_, fun x hx q z hz => ?_⟩
  · obtain ⟨j, _, _, h2, _⟩ := get x hx
    obtain ⟨k, _, _, h3, _⟩ := get y hy
    have := W.apart j k x y h2 h3 e
    subst this
    rw [h2] at h3
    exact Option.some.inj h3
  · obtain ⟨j, _, _, h2, _⟩ := get x hx
    exact W.memD x (List.mem_of_getElem? h2)
  · obtain ⟨j, o, h1, h2, h3⟩ := get x hx
    exact (hok j o x h3 h2 h1).fit.1
  · obtain ⟨j, o, h1, h2, h3⟩ := get x hx
    exact (hok j o x h3 h2 h1).fit.2.1 q z hz

theorem Way.set {R : Reg} {ops : Array Oper} {t0 : Nat} {path : List Res} {i : Nat} {x y : Res} (W : Way R ops t0 path) (hy : path[i]? = some y) (hd : x.d = y.d) : Way R ops t0 (path.set i x) := by
  obtain ⟨hi, _⟩ := List.getElem?_eq_some_iff.1 hy
  have get : ∀ (j : Nat) (z : Res), (path.set i x)[j]? = some z → ∃ z', path[j]? = some z' ∧ z.d = z'.d := fun j z hz => by
    by_cases e : j = i
    · subst e
      rw [List.getElem?_set_self hi] at hz
      cases hz
      exact ⟨y, hy, hd⟩
    · rw [List.getElem?_set_ne (Ne.symm e)] at hz
      exact ⟨z, hz, rfl⟩
  refine ⟨by simpa using W.len, fun j o z ho hz => ?_, fun z hz => ?_, fun j k u v hu hv e => ?_⟩
  · obtain ⟨z', h1, h2⟩ := get j z hz
    rw [W.dst j o z' ho h1, h2]
  · obtain ⟨j, hj⟩ := List.getElem?_of_mem hz
    obtain ⟨z', h1, h2⟩ := get j z hj
    rw [h2]; exact W.memD z' (List.mem_of_getElem? h1)
  · obtain ⟨u', h1, h2⟩ := get j u hu
    obtain ⟨v', h3, h4⟩ := get k v hv
    exact W.apart j k u' v' h1 h3 (by rw [← h2, ← h4]; exact e)

/-- One operation of the path, where all that come before it are done. -/
theorem any_step {G : Glob} (hE : EnvOK P G Θ Γ w0 M) {ops : Array Oper} {Q : Exit → Act → World → Prop} {R : Reg} {t0 : Nat} {path : List Res} {L L' : Nat → Bool} {i : Nat} {o : Oper}
    (W : Way R ops t0 path) (hle : t0 ≤ ops.size) (hit : i < t0)
    (hDn : ∀ d, memNum R.D d = true → d < st.n) (hcmp : ∀ e ∈ R.E, cmpAll R.ms R.E e = true) (hEi : ∀ j o', ops[j]? = some o' → j < t0 → effOp Γ o'.op = true → j ∈ R.E)
    (ho : ops[i]? = some o) (hen : Enabled Θ Γ R (baseOf R.D st) path i o)
    (hok : ∀ j o x, ops[j]? = some o → path[j]? = some x → L j = true → ResOK Θ Γ R (baseOf R.D st) path j o x)
    (hcl : ∀ j k, L j = true → (R.ms.getD j 0).testBit k = true → L k = true)
    (hsub : ∀ j, (R.ms.getD i 0).testBit j = true → L j = true) (hi : L i = false) (hi' : L' i = true) (h : ∀ j, j ≠ i → L' j = L j)
    (hR : Rel w0 M T γ (after (baseOf R.D st) path L) a w) {K : Act → World → Prop}
    (hK : ∀ x γ' a' w', (∃ y, path[i]? = some y ∧ x.d = y.d) → ResOK Θ Γ R (baseOf R.D st) (path.set i x) i o x → Rel w0 M T γ' (after (baseOf R.D st) (path.set i x) L') a' w' → K a' w') :
    wpOp P ops Q i K a w := by
  obtain ⟨d, hd, hm, hcase⟩ := hen
  have hlen := W.len
  have hil : i < path.length := by omega
  have hy : path[i]? = some path[i] := by simp [hil]
  have hyd : path[i].d = d := by
    have := W.dst i o _ ho hy
    rw [hd] at this
    exact (Option.some.inj this).symm
  have hdD : memNum R.D d = true := by rw [← hyd]; exact W.memD _ (List.mem_of_getElem? hy)
  have hdn : d < st.n := hDn d hdD
  have hfit := W.fits hle hok
  have hne : ∀ y ∈ pick path 0 L, y.d ≠ d := fun y hy' e => by
    obtain ⟨j, h1, h2⟩ := (mem_pick _ _).1 hy'
    rw [Nat.zero_add] at h1
    have := W.apart j i y _ h2 hy (by rw [hyd]; exact e)
    subst this
    rw [hi] at h1; cases h1
  have heff : ∀ j x, path[j]? = some x → x.u ≠ [] → L j = true → j ∈ R.E := fun j x hx hu hL => by
    obtain ⟨hj, _⟩ := List.getElem?_eq_some_iff.1 hx
    have hoj : ops[j]? = some (ops[j]'(by omega)) := by simp
    exact hEi j _ hoj (by omega) ((hok j _ x hoj hx hL).fit.2.2 hu)
  have hbefore : cmpAll R.ms R.E i = true → ∀ j, j ∈ R.E → L j = true → (R.ms.getD i 0).testBit j = true := fun hc j hjE hL => by
    have := List.all_eq_true.1 hc j hjE
    rw [Bool.or_eq_true, Bool.or_eq_true] at this
    rcases this with g | g | g
    · have := Nat.eq_of_beq_eq_true g
      subst this
      rw [hi] at hL; cases hL
    · exact g
    · have := hcl j i hL g
      rw [hi] at this; cases this
  have hmore : (viewAt R (baseOf R.D st) path i).more (after (baseOf R.D st) path L) :=
    viewAt_more hfit hsub fun hc j x hx hu hL => hbefore hc j (heff j x hx hu hL) hL
  have hnone : ∀ q, q / 64 = d → (after (baseOf R.D st) path L).objs q = none := fun q hq => by
    have hqD : memNum R.D (q / 64) = true := by rw [hq]; exact hdD
    unfold after afterP
    dsimp only
    rw [lookU_none _ fun y hy' => by
      cases hl : look y.u q with
      | none => rfl
      | some z => have := (hfit.upd y hy' q z hl).2; rw [hqD] at this; cases this]
    dsimp only
    rw [lookO_none _ fun y hy' => by
      cases hl : look y.δ q with
      | none => rfl
      | some z => exact (hne y hy' ((look_names (hfit.new y hy') hl).symm.trans hq)).elim]
    exact base_objs hqD
  have hself : ∀ x : Res, ∀ j, (R.ms.getD i 0).testBit j = true → path[j]? = (path.set i x)[j]? := fun x j hj => by
    by_cases e : i = j
    · subst e
      rw [testBit_out hm (Nat.le_refl _)] at hj; cases hj
    · rw [List.getElem?_set_ne e]
  -- from a result to the state behind
  have fin : ∀ (x : Res) (γ' : Nat → Value) (w' : World) (u : Value), x.d = d → (∀ q y, look x.u q = some y → memNum R.U q = true ∧ memNum R.D (q / 64) = false) → namesOK x.d x.δ = true → (x.u ≠ [] → i ∈ R.E) →
      ResOK Θ Γ R (baseOf R.D st) path i o x → Rel w0 M T γ' (((after (baseOf R.D st) path L).adds x.u).adds x.δ) a w' → RepAV (viewOf w0 T γ' (((after (baseOf R.D st) path L).adds x.u).adds x.δ) w') x.v u → K (a.put o.dst u) w' := by
    intro x γ' w' u hxd hxu hxn hxE hxok hR' hv
    have hn2 : (((after (baseOf R.D st) path L).adds x.u).adds x.δ).n = st.n := by rw [(adds_tmps _ _).2, (adds_tmps _ _).2]; rfl
    have hset := hR'.set x.d (by rw [hn2, hxd]; exact hdn) x.v u hv
    have W' : Way R ops t0 (path.set i x) := W.set hy (by rw [hxd, hyd])
    have hfit' : Fits R.D R.U (pick (path.set i x) 0 L') := by
      refine W'.fits (Θ := Θ) (Γ := Γ) (base := baseOf R.D st) hle fun j o' z ho' hz hL => ?_
      by_cases e : j = i
      · subst e
        rw [List.getElem?_set_self hil] at hz
        cases hz
        rw [ho] at ho'; cases ho'
        exact hxok.agree (hself x)
      · rw [List.getElem?_set_ne (Ne.symm e)] at hz
        rw [h j e] at hL
        refine (hok j o' z ho' hz hL).agree fun k hk => ?_
        have hLk := hcl j k hL hk
        have hki : i ≠ k := fun e => by subst e; rw [hi] at hLk; cases hLk
        rw [List.getElem?_set_ne hki]
    rw [after_more hil hi hi' h hfit' (fun y hy' => by rw [hxd]; exact hne y hy') (fun hu j y hj hL hy' => by
      refine Classical.byContradiction fun hyu => ?_
      have hjE := heff j y hy' hyu hL
      have := hbefore (hcmp i (hxE hu)) j hjE hL
      rw [testBit_out hm (Nat.le_of_lt hj)] at this; cases this)] at hset
    rw [hd, ← hxd]
    exact hK x γ' _ _ ⟨_, hy, by rw [hxd, hyd]⟩ (hxok.agree (hself x)) hset
  have hgv : ∀ g y, (R.ms.getD i 0).testBit g = true → path[g]? = some y → ∃ og, ops[g]? = some og ∧ og.dst = some y.d ∧ ∃ u, a.tmps[y.d]? = some u ∧ RepAV (viewOf w0 T γ (after (baseOf R.D st) path L) w) y.v u := by
    intro g y hg hy'
    obtain ⟨hgl, _⟩ := List.getElem?_eq_some_iff.1 hy'
    have hog : ops[g]? = some (ops[g]'(by omega)) := by simp
    have hyD : y.d < st.n := hDn _ (W.memD y (List.mem_of_getElem? hy'))
    have hin : y ∈ pick path 0 L := (mem_pick _ _).2 ⟨g, by rw [Nat.zero_add]; exact hsub g hg, hy'⟩
    have htm : (after (baseOf R.D st) path L).tmps y.d = y.v := lookT_mem _ hin fun z hz e => hfit.one y hin z hz e
    have hr1 := hR.tmps y.d
    rw [htm] at hr1
    have hsz : y.d < a.tmps.size := by rw [hR.size]; exact hyD
    refine ⟨_, hog, W.dst g _ y hog hy', a.tmps[y.d], by simp, ?_⟩
    simpa [Array.getD, hsz] using hr1
  unfold wpOp
  simp only [ho]
  rcases hcase with ⟨hw, hcase⟩ | hun
  · have hwant : Region.wanted o (yielded ops a.tmps) = true := by
      rcases hw with e | ⟨g, b, y, e1, e2, e3, e4⟩
      · unfold Region.wanted; rw [e]
      · obtain ⟨og, k1, k2, u, k3, k4⟩ := hgv g y e2 e3
        rw [e4] at k4
        have k4 : u = .bool b := k4
        subst k4
        unfold Region.wanted
        rw [e1]
        simp [yielded, k1, k2, k3]
    rw [if_pos hwant]
    left
    rcases hcase with ⟨he, p, v, δ, hcalm, hp, hn⟩ | ⟨he, p, ρ, os, hrel, hp, hall⟩
    · obtain ⟨v', hc', hless⟩ := calm_more hmore d o.op hcalm
      have hfr : freshIn (after (baseOf R.D st) path L) δ = true := by
        refine List.all_eq_true.2 fun z hz => ?_
        rw [hnone z.1 (Nat.eq_of_beq_eq_true (List.all_eq_true.1 hn z hz))]
        rfl
      refine calm_sound hE hR o hc' hp hfr ?_
      intro u γ' w' hR' hv'
      have hvx : RepAV (viewOf w0 T γ' ((after (baseOf R.D st) path L).adds δ) w') v u := by
        rcases hless with e | e
        · rw [e]; trivial
        · rw [← e]; exact hv'
      exact fin ⟨d, v, [], δ⟩ γ' w' u rfl (fun q y hy => by cases hy) hn (fun hu => (hu rfl).elim) ⟨hd, hm, .inl ⟨hw, .inl ⟨he, rfl, hn, p, hcalm, hp⟩⟩⟩ hR' hvx
    · refine relAny_sound hE hR hmore o hrel hp hnone hall fun t v υ δ u γ' w' ht hres hR' hv => ?_
      have hxok : ResOK Θ Γ R (baseOf R.D st) path i o ⟨d, v, υ, δ⟩ := ⟨hd, hm, .inl ⟨hw, .inr ⟨he, p, ρ, os, t, hrel, hp, ht, hall, hres⟩⟩⟩
      obtain ⟨f1, f2, f3⟩ := hxok.fit
      exact fin ⟨d, v, υ, δ⟩ γ' w' u rfl f2 f1 (fun _ => hEi i o ho hit he) hxok hR' hv
  · have hwant : Region.wanted o (yielded ops a.tmps) = false := by
      obtain ⟨g, b, y, e1, e2, e3, e4⟩ := hun
      obtain ⟨og, k1, k2, u, k3, k4⟩ := hgv g y e2 e3
      unfold Region.wanted
      rw [e1]
      rcases e4 with ⟨c, e4, hne'⟩ | ⟨vs, e4⟩
      · rw [e4] at k4
        have k4 : u = .bool c := k4
        subst k4
        cases c <;> cases b <;> first | (exact (hne' rfl).elim) | simp [yielded, k1, k2, k3]
      · rw [e4] at k4
        obtain ⟨us, rfl, _⟩ := k4
        simp [yielded, k1, k2, k3]
    rw [if_neg (by rw [hwant]; simp)]
    exact fin (skipped d) γ w undef rfl (fun q y hy => by cases hy) rfl (fun hu => (hu rfl).elim) ⟨hd, hm, .inr ⟨hun, rfl, rfl, rfl⟩⟩ hR ⟨#[], rfl, trivial⟩

/-- A path can be filled up. -/
theorem fill {G : Glob} (hE : EnvB P G Θ Γ) {R : Reg} {base : St} {front : List Oper} {path : List Res} {L : Nat → Bool}
    (hsem : ∀ ext : List Res, Comp Θ Γ R base front ext → ∀ o, front[ext.length]? = some o → Enabled Θ Γ R base ext ext.length o)
    (hok : ∀ j o x, front[j]? = some o → path[j]? = some x → L j = true → ResOK Θ Γ R base path j o x) (hlen : path.length = front.length)
    (hcl : ∀ j k, L j = true → (R.ms.getD j 0).testBit k = true → L k = true) :
    ∀ n, n ≤ front.length → ∃ ext : List Res, ext.length = n ∧ Comp Θ Γ R base front ext ∧ ∀ j, j < n → L j = true → ext[j]? = path[j]? := by
  intro n
  induction n with
  | zero => exact fun _ => ⟨[], rfl, (fun i o x _ hx => by simp at hx), (fun j hj => by omega)⟩
  | succ n ih =>
    intro hn
    obtain ⟨ext, h1, h2, h3⟩ := ih (by omega)
    have ho : front[n]? = some (front[n]'(by omega)) := by simp
    -- one more
    have more : ∀ x : Res, ResOK Θ Γ R base (ext ++ [x]) n (front[n]'(by omega)) x → Comp Θ Γ R base front (ext ++ [x]) := by
      intro x hx i o y hi hy
      rcases Nat.lt_or_ge i n with hlt | hge
      · rw [prefix_get (by omega)] at hy
        have := h2 i o y hi hy
        refine this.agree fun j hj => ?_
        have : j < i := by
          rcases Nat.lt_or_ge j i with h | h
          · exact h
          · rw [testBit_out this.2.1 h] at hj; cases hj
        rw [prefix_get (by omega)]
      · have : i = n := by
          obtain ⟨hi', _⟩ := List.getElem?_eq_some_iff.1 hy
          simp at hi'; omega
        subst this
        rw [ho] at hi; cases hi
        have e : y = x := by rw [← h1] at hy; simpa using hy.symm
        rw [e]; exact hx
    cases hL : L n with
    | true =>
      have hp : path[n]? = some (path[n]'(by omega)) := by simp
      have hx := hok n _ _ ho hp hL
      have hag : ∀ j, (R.ms.getD n 0).testBit j = true → path[j]? = (ext ++ [path[n]'(by omega)])[j]? := fun j hj => by
        have hjn : j < n := by
          rcases Nat.lt_or_ge j n with h | h
          · exact h
          · rw [testBit_out hx.2.1 h] at hj; cases hj
        rw [prefix_get (by omega), h3 j hjn (hcl n j hL hj)]
      refine ⟨ext ++ [path[n]'(by omega)], by simp [h1], more _ (hx.agree hag), fun j hj hLj => ?_⟩
      by_cases e : j = n
      · subst e
        rw [hp, List.getElem?_append_right (by omega)]
        simp [h1]
      · rw [prefix_get (by omega)]
        exact h3 j (by omega) hLj
    | false =>
      have hen := hsem ext h2 _ (by rw [h1]; exact ho)
      rw [h1] at hen
      have hag : ∀ x : Res, (∃ d, (front[n]'(by omega)).dst = some d ∧ R.ms.getD n 0 < 2 ^ n) → ∀ j, (R.ms.getD n 0).testBit j = true → ext[j]? = (ext ++ [x])[j]? := fun x ⟨_, _, hm⟩ j hj => by
        have hjn : j < n := by
          rcases Nat.lt_or_ge j n with h | h
          · exact h
          · rw [testBit_out hm h] at hj; cases hj
        rw [prefix_get (by omega)]
      obtain ⟨d, hd, hm, hc⟩ := hen
      have hx : ∃ x, ResOK Θ Γ R base ext n (front[n]'(by omega)) x := by
        rcases hc with ⟨hw, ⟨he, p, v, δ, hcalm, hp, hnm⟩ | ⟨he, p, ρ, os, hrel, hp, hall⟩⟩ | hun
        · exact ⟨⟨d, v, [], δ⟩, hd, hm, .inl ⟨hw, .inl ⟨he, rfl, hnm, p, hcalm, hp⟩⟩⟩
        · have hne : ∃ t, ρ.R t := by
            unfold relAny at hrel
            split at hrel
            case h_2 => cases hrel
            next f args tys hop =>
            split at hrel
            case h_2 => cases hrel
            next ms con hcon =>
            split at hrel
            case h_2 => cases hrel
            next vs os' hno hhands =>
            split at hrel
            case h_2 => cases hrel
            next q ρ' hq =>
            cases hrel
            exact ((hE.xcons f ms con hcon).1 vs _ ρ hq hp).1
          obtain ⟨t, ht⟩ := hne
          obtain ⟨⟨v, υ, δ⟩, hres⟩ := hall t ht
          exact ⟨⟨d, v, υ, δ⟩, hd, hm, .inl ⟨hw, .inr ⟨he, p, ρ, os, t, hrel, hp, ht, hall, hres⟩⟩⟩
        · exact ⟨skipped d, hd, hm, .inr ⟨hun, rfl, rfl, rfl⟩⟩
      obtain ⟨x, hx⟩ := hx
      refine ⟨ext ++ [x], by simp [h1], more x (hx.agree (hag x ⟨d, hd, hm⟩)), fun j hj hLj => ?_⟩
      have : j ≠ n := fun e => by subst e; rw [hL] at hLj; cases hLj
      rw [prefix_get (by omega)]
      exact h3 j (by omega) hLj
end Go.Fw
/- A region whose order is drawn. -/
namespace Go.Fw
open Go

variable {P : Program} {w0 : World} {M : Nat → Prop} {T : Ext} {γ γ' : Nat → Value} {st : St} {a : Act} {w w' : World} {Θ : TEnv} {Γ : CEnv}

def calmOp : Op → Bool
  | .store _ _ _ => false
  | .call { callee := .builtin .append, .. } | .call { callee := .builtin .copy, .. } | .call { callee := .builtin .clear, .. } => false
  | _ => true
/-- How many quiet operations stand first. -/
def front : List Oper → Nat
  | [] => 0
  | o :: r => match calmOp o.op with | true => front r + 1 | false => 0
def allLt (n : Nat) : List Nat → Bool
  | [] => true
  | x :: r => Nat.blt x n && allLt n r
def tailOK : Nat → List Nat → Bool
  | _, [] => true
  | i, m :: r => Nat.beq (m + 1) (2 ^ i) && tailOK (i + 1) r
def letGo (own : Nat → Bool) : List Oper → List Nat
  | [] => []
  | o :: r => match makesArr o.op, o.dst with
    | true, some d => match own d with | true => letGo own r | false => d :: letGo own r
    | _, _ => letGo own r
def landAll (own : Nat → Bool) (l : List Oper) (s : St) : St :=
  match letGo own l with
  | [] => s
  | z => s.freeze fun o => memNum z (o / 64) && !(Nat.beq (o % 64) 0)

/-- What is fixed for a region. -/
def regOf (Γ : CEnv) (U : List Nat) (ops : List Oper) : Reg := ⟨dstsOf (ops.take (front ops)), U, masks ops [], effIdx Γ 0 (ops.take (front ops))⟩
def anyRegion (Θ : TEnv) (Γ : CEnv) (own : Nat → Bool) (U : List Nat) (ops : List Oper) (K : St → Prop) (st : St) : Prop :=
  match nodup (regOf Γ U ops).D && (allLt st.n (regOf Γ U ops).D && (tailOK (front ops) ((regOf Γ U ops).ms.drop (front ops)) && (regOf Γ U ops).E.all (cmpAll (regOf Γ U ops).ms (regOf Γ U ops).E))) with
  | true => anyRuns Θ Γ (regOf Γ U ops) (baseOf (regOf Γ U ops).D st) (fun path =>
      runs Θ Γ own ops K (ops.drop (front ops)) (landAll own (ops.take (front ops)) (after (baseOf (regOf Γ U ops).D st) path fun _ => true))) 0 (ops.take (front ops)) []
  | false => False

theorem front_le : ∀ (l : List Oper), front l ≤ l.length
  | [] => Nat.le_refl _
  | o :: r => by
    rw [front]
    cases calmOp o.op with
    | true => have := front_le r; simp only [List.length_cons]; omega
    | false => simp
theorem allLt_spec {n : Nat} : ∀ {l : List Nat}, allLt n l = true → ∀ x, memNum l x = true → x < n
  | [], _, x, hx => by simp [memNum] at hx
  | y :: r, h, x, hx => by
    rw [allLt, Bool.and_eq_true] at h
    rcases List.mem_cons.1 (memNum_iff.1 hx) with rfl | hm
    · simpa [Nat.blt_eq] using h.1
    · exact allLt_spec h.2 x (memNum_iff.2 hm)
theorem tailOK_spec : ∀ {l : List Nat} {k : Nat}, tailOK k l = true → ∀ i m, l[i]? = some m → m + 1 = 2 ^ (k + i)
  | [], _, _, i, m, hm => by simp at hm
  | x :: r, k, h, 0, m, hm => by
    rw [tailOK, Bool.and_eq_true] at h
    simp at hm; subst hm
    exact Nat.eq_of_beq_eq_true h.1
  | x :: r, k, h, i + 1, m, hm => by
    rw [tailOK, Bool.and_eq_true] at h
    have := tailOK_spec h.2 i m (by simpa using hm)
    rw [this]; congr 1; omega
theorem masks_length : ∀ (l : List Oper) (acc : List Nat), (masks l acc).length = acc.length + l.length
  | [], acc => by simp [masks]
  | o :: r, acc => by rw [masks, masks_length r]; simp; omega
theorem nodup_spec : ∀ {l : List Nat}, nodup l = true → ∀ (i j : Nat) (x : Nat), l[i]? = some x → l[j]? = some x → i = j
  | [], _, i, j, x, hi, _ => by simp at hi
  | y :: r, h, i, j, x, hi, hj => by
    rw [nodup, Bool.and_eq_true] at h
    have hno : y ∉ r := fun hm => by have := memNum_iff.2 hm; rw [this] at h; simp at h
    match i, j with
    | 0, 0 => rfl
    | 0, j + 1 => simp at hi hj; exact (hno (hi ▸ List.mem_of_getElem? hj)).elim
    | i + 1, 0 => simp at hi hj; exact (hno (hj ▸ List.mem_of_getElem? hi)).elim
    | i + 1, j + 1 => simp at hi hj; rw [nodup_spec h.2 i j x hi hj]
theorem dstsOf_get : ∀ {l : List Oper}, (∀ (i : Nat) (o : Oper), l[i]? = some o → ∃ d, o.dst = some d) → ∀ (i : Nat) (o : Oper) (d : Nat), l[i]? = some o → o.dst = some d → (dstsOf l)[i]? = some d
  | [], _, i, o, d, hi, _ => by simp at hi
  | x :: r, h, i, o, d, hi, hd => by
    obtain ⟨e, he⟩ := h 0 x rfl
    rw [dstsOf, he]
    match i with
    | 0 => simp at hi; subst hi; rw [hd] at he; cases he; rfl
    | i + 1 => simp; exact dstsOf_get (fun j o' hj => h (j + 1) o' (by simpa using hj)) i o d (by simpa using hi) hd


/-- The front in any order, then the tail. -/
theorem any_front {G : Glob} (hE : EnvOK P G Θ Γ w0 M) {ops : Array Oper} {Q : Exit → Act → World → Prop} {R : Reg} {t0 : Nat} {K : List Res → Prop} (ht0 : t0 ≤ ops.size) (hms : R.ms = masks ops.toList [])
    (hDn : ∀ d, memNum R.D d = true → d < st.n) (hcmp : ∀ e ∈ R.E, cmpAll R.ms R.E e = true) (hEi : ∀ j o', ops[j]? = some o' → j < t0 → effOp Γ o'.op = true → j ∈ R.E)
    (hsem : ∀ ext : List Res, ext.length ≤ t0 → Comp Θ Γ R (baseOf R.D st) (ops.toList.take t0) ext → (ext.length = t0 → K ext) ∧ ∀ o, (ops.toList.take t0)[ext.length]? = some o → Enabled Θ Γ R (baseOf R.D st) ext ext.length o)
    (ht : ∀ i o, ops[i]? = some o → t0 ≤ i → ∀ j, j < i → ((masks ops.toList []).getD i 0).testBit j = true)
    (hlt : ∀ i o, ops[i]? = some o → (masks ops.toList []).getD i 0 < 2 ^ i)
    (hend : ∀ path γ' a' w', K path → path.length = t0 → Rel w0 M T γ' (after (baseOf R.D st) path fun _ => true) a' w' → wpList P ops Q (ops.toList.drop t0) a' w') :
    ∀ (fuel : Nat) (listed : Array Bool) (path : List Res) (γ : Nat → Value) (a : Act) (w : World), Way R ops t0 path → listed.size = ops.size →
      unl (fun i => listed.getD i false) ops.size ≤ fuel →
      (∀ i, t0 ≤ i → listed.getD i false = false) →
      (∀ i j, listed.getD i false = true → ((masks ops.toList []).getD i 0).testBit j = true → listed.getD j false = true) →
      (∀ j o x, ops[j]? = some o → path[j]? = some x → listed.getD j false = true → ResOK Θ Γ R (baseOf R.D st) path j o x) →
      Rel w0 M T γ (after (baseOf R.D st) path fun i => listed.getD i false) a w → wpAny P .any ops Q fuel listed a w := by
  have hfl : (ops.toList.take t0).length = t0 := by simp; omega
  have hget : ∀ j o, (ops.toList.take t0)[j]? = some o ↔ j < t0 ∧ ops[j]? = some o := fun j o => by
    rcases Nat.lt_or_ge j t0 with h | h
    · rw [List.getElem?_take_of_lt h]; simp [h]
    · rw [List.getElem?_eq_none (by rw [hfl]; exact h)]
      constructor
      · intro h'; cases h'
      · rintro ⟨h', _⟩; omega
  -- all is done
  have fin : ∀ (fuel : Nat) (listed : Array Bool) (path : List Res) (γ : Nat → Value) (a : Act) (w : World), Way R ops t0 path → listed.size = ops.size → ops.size ≤ t0 + fuel → (∀ i, t0 ≤ i → listed.getD i false = false) →
      (∀ i, i < t0 → listed.getD i false = true) → (∀ j o x, ops[j]? = some o → path[j]? = some x → listed.getD j false = true → ResOK Θ Γ R (baseOf R.D st) path j o x) →
      Rel w0 M T γ (after (baseOf R.D st) path fun i => listed.getD i false) a w → wpAny P .any ops Q fuel listed a w := by
    intro fuel listed path γ a w W hsz hf htl hdone hok hR
    have hK : K path := by
      refine (hsem path (by rw [W.len]; exact Nat.le_refl _) fun i o x hi hx => ?_).1 W.len
      obtain ⟨h1, h2⟩ := (hget i o).1 hi
      exact hok i o x h2 hx (hdone i h1)
    have hsame : after (baseOf R.D st) path (fun i => listed.getD i false) = after (baseOf R.D st) path fun _ => true := by
      unfold after
      have : ∀ (l : List Res) (j : Nat), j + l.length ≤ t0 → pick l j (fun i => listed.getD i false) = pick l j fun _ => true := by
        intro l
        induction l with
        | nil => intros; rfl
        | cons y l ih =>
          intro j hj
          rw [pick, pick]
          simp only [List.length_cons] at hj
          simp only [hdone j (by omega)]
          rw [ih (j + 1) (by omega)]
      rw [this path 0 (by rw [W.len]; omega)]
    rw [hsame] at hR
    refine any_tail ht hlt (ops.toList.drop t0) t0 fuel listed a w (Nat.le_refl _) (fun j => by simp) hsz (fun i hi => ⟨fun h => ?_, fun h => hdone i h⟩) hf (hend path γ a w hK W.len hR)
    rcases Nat.lt_or_ge i t0 with h' | h'
    · exact h'
    · rw [htl i h'] at h; cases h
  intro fuel
  induction fuel with
  | zero =>
    intro listed path γ a w W hsz hf htl hcl hok hR
    have hall : ∀ i, i < ops.size → listed.getD i false = true := unl_zero (L := fun i => listed.getD i false) ops.size (by omega)
    have hfull : t0 = ops.size := by
      rcases Nat.lt_or_ge t0 ops.size with h | h
      · have := hall t0 h; rw [htl t0 (Nat.le_refl _)] at this; cases this
      · omega
    exact fin 0 listed path γ a w W hsz (by omega) htl (fun i hi => hall i (by omega)) hok hR
  | succ fuel ih =>
    intro listed path γ a w W hsz hf htl hcl hok hR
    by_cases hdone : ∀ i, i < t0 → listed.getD i false = true
    · have hcount : ∀ (n : Nat), t0 ≤ n → n - t0 ≤ unl (fun i => listed.getD i false) n := by
        intro n
        induction n with
        | zero => intro _; simp
        | succ n ihn =>
          intro hn
          rw [unl]
          rcases Nat.lt_or_ge n t0 with h | h
          · have : n + 1 = t0 := by omega
            simp [this]
          · rw [htl n h]
            have := ihn h
            simp only; omega
      have := hcount ops.size ht0
      exact fin (fuel + 1) listed path γ a w W hsz (by omega) htl hdone hok hR
    · have hex : ∃ i, i < t0 ∧ listed.getD i false = false := by
        refine Classical.byContradiction fun hno => hdone fun i hi => ?_
        cases hl : listed.getD i false with
        | true => rfl
        | false => exact (hno ⟨i, hi, hl⟩).elim
      obtain ⟨i0, hi0, hl0, hmin⟩ := least t0 hex
      have hready : i0 ∈ Region.ready .any ops listed := by
        have hisz : i0 < ops.size := by omega
        refine ready_iff.2 ⟨ops[i0], by simp [hisz], by rw [getD_true (by omega)]; exact hl0, fun e he hb => ?_⟩
        have hoi : ops.toList[i0]? = some ops[i0] := by simp [hisz]
        have hebit := mask_edge hoi he hb
        have helt : e.on < i0 := by
          rcases Nat.lt_or_ge e.on i0 with h | h
          · exact h
          · rw [testBit_out (hlt i0 ops[i0] (by simp [hisz])) h] at hebit; cases hebit
        cases hl : listed.getD e.on false with
        | true => rfl
        | false => exact (hmin e.on helt hl).elim
      refine ⟨fun h => (by rw [h] at hready; cases hready), fun i hi => ?_⟩
      obtain ⟨o, ho, hn, hall⟩ := ready_iff.1 hi
      obtain ⟨hisz, _⟩ := Array.getElem?_eq_some_iff.1 ho
      have hil : listed.getD i false = false := by rw [← getD_true (by omega)]; exact hn
      have hsub : ∀ j, ((masks ops.toList []).getD i 0).testBit j = true → listed.getD j false = true := by
        intro j hj
        obtain ⟨e, he, hb, hej⟩ := mask_back (ops := ops.toList) (i := i) (o := o) (by simpa using ho) hj
        rcases hej with rfl | h
        · exact hall e he hb
        · exact hcl e.on j (hall e he hb) h
      have hit : i < t0 := by
        rcases Nat.lt_or_ge i t0 with h | h
        · exact h
        · have := hsub i0 (ht i o ho h i0 (by omega))
          rw [hl0] at this; cases this
      -- it can go
      have hen : Enabled Θ Γ R (baseOf R.D st) path i o := by
        obtain ⟨ext, g1, g2, g3⟩ := fill hE.toEnvB (R := R) (base := baseOf R.D st) (front := ops.toList.take t0) (path := path) (L := fun i => listed.getD i false)
          (fun ext hc o' ho' => (hsem ext (by
            obtain ⟨hlt', _⟩ := List.getElem?_eq_some_iff.1 ho'
            rw [hfl] at hlt'; omega) hc).2 o' ho')
          (fun j o' x ho' hx hL => hok j o' x ((hget j o').1 ho').2 hx hL) (by rw [W.len, hfl]) (fun j k hL hk => hcl j k hL (by rw [← hms]; exact hk)) i (by rw [hfl]; omega)
        have := (hsem ext (by omega) g2).2 o ((hget _ o).2 ⟨by omega, by rw [g1]; exact ho⟩)
        rw [g1] at this
        refine this.agree fun j hj => ?_
        rw [hms] at hj
        have hji : j < i := by
          rcases Nat.lt_or_ge j i with h | h
          · exact h
          · rw [testBit_out (hlt i o ho) h] at hj; cases hj
        exact g3 j hji (hsub j hj)
      have hset : ∀ j, (listed.setIfInBounds i true).getD j false = (if j = i then true else listed.getD j false) := by
        intro j
        split
        · next e => subst e; simp [Array.getD, show j < listed.size by omega]
        · next e => exact getD_set_ne false (Ne.symm e)
      refine any_step hE (L := fun i => listed.getD i false) (L' := fun j => (listed.setIfInBounds i true).getD j false) W ht0 hit hDn hcmp hEi ho hen hok (fun j k hL hk => hcl j k hL (by rw [← hms]; exact hk)) (fun j hj => hsub j (by rw [← hms]; exact hj)) hil
        (by simp only [hset, if_true]) (fun j hj => by simp only [hset, if_neg hj]) hR ?_
      intro x γ' a' w' ⟨y, hy, hxy⟩ hx hR'
      refine ih _ (path.set i x) γ' a' w' (W.set hy hxy) (by simpa using hsz) ?_ ?_ ?_ ?_ hR'
      · have := unl_set (L := fun i => listed.getD i false) (L' := fun j => (listed.setIfInBounds i true).getD j false) (i := i) hil (by simp only [hset, if_true]) (fun j hj => by simp only [hset, if_neg hj]) ops.size hisz
        omega
      · intro j hj
        rw [hset, if_neg (by omega)]; exact htl j hj
      · intro j k hj hk
        rw [hset] at hj ⊢
        split
        · rfl
        · split at hj
          · next e => subst e; exact hsub k hk
          · exact hcl j k hj hk
      · intro j o' z ho' hz hL
        obtain ⟨hil', _⟩ := List.getElem?_eq_some_iff.1 hy
        by_cases e : j = i
        · subst e
          rw [List.getElem?_set_self hil'] at hz
          cases hz
          rw [ho] at ho'; cases ho'
          exact hx
        · rw [List.getElem?_set_ne (Ne.symm e)] at hz
          rw [hset, if_neg e] at hL
          refine (hok j o' z ho' hz hL).agree fun k hk => ?_
          have hLk := hcl j k hL (by rw [← hms]; exact hk)
          have hki : i ≠ k := fun e => by subst e; rw [hil] at hLk; cases hLk
          rw [List.getElem?_set_ne hki]

/-- A region whose order is drawn. -/
theorem any_sound {G : Glob} (hE : EnvOK P G Θ Γ w0 M) (hm : P.follows .mixedOrders = true) {own : Nat → Bool} {U : List Nat} {id : Nat} {ops : Array Oper} {K : St → Prop} {Q : Exit → Act → World → Prop} (h : Rel w0 M T γ st a w)
    (hr : anyRegion Θ Γ own U ops.toList K st) (hn : ∀ s γ' a' w', K s → Rel w0 M T γ' s a' w' → Q .normal a' w') : (Code.region id ops true).wp P Q a w := by
  unfold anyRegion at hr
  split at hr
  case h_2 => exact hr.elim
  next hb =>
  rw [Bool.and_eq_true, Bool.and_eq_true, Bool.and_eq_true] at hb
  obtain ⟨hnd, hlt, htl, hcmp⟩ := hb
  have ht0 : front ops.toList ≤ ops.size := by simpa using front_le ops.toList
  have hfl : (ops.toList.take (front ops.toList)).length = front ops.toList := by simp; omega
  have hsem := fun (ext : List Res) (hle : ext.length ≤ front ops.toList) (hc : Comp Θ Γ (regOf Γ U ops.toList) (baseOf (regOf Γ U ops.toList).D st) (ops.toList.take (front ops.toList)) ext) =>
    anyRuns_sem (ops.toList.take (front ops.toList)) [] [] ext rfl (by rw [hfl]; exact hle) hr (by simpa using hc)
  simp only [List.nil_append, List.length_nil, Nat.zero_add, hfl] at hsem
  -- every operation of the front has a slot
  have hall : ∃ ext : List Res, ext.length = front ops.toList ∧ Comp Θ Γ (regOf Γ U ops.toList) (baseOf (regOf Γ U ops.toList).D st) (ops.toList.take (front ops.toList)) ext := by
    obtain ⟨ext, g1, g2, _⟩ := fill hE.toEnvB (R := regOf Γ U ops.toList) (base := baseOf (regOf Γ U ops.toList).D st) (front := ops.toList.take (front ops.toList)) (path := List.replicate (front ops.toList) (skipped 0)) (L := fun _ => false)
      (fun ext hc o' ho' => (hsem ext (by
        obtain ⟨hlt', _⟩ := List.getElem?_eq_some_iff.1 ho'
        rw [hfl] at hlt'; omega) hc).2 o' ho') (fun _ _ _ _ _ h => by cases h) (by simp [hfl]) (fun _ _ h => by cases h) (front ops.toList) (by rw [hfl]; exact Nat.le_refl _)
    exact ⟨ext, g1, g2⟩
  obtain ⟨ext0, hl0, hc0⟩ := hall
  have hfront : ∀ i, i < front ops.toList → ∃ o d, ops[i]? = some o ∧ (ops.toList.take (front ops.toList))[i]? = some o ∧ o.dst = some d ∧ (regOf Γ U ops.toList).ms.getD i 0 < 2 ^ i := by
    intro i hi
    have ho : ops[i]? = some (ops[i]'(by omega)) := by simp
    have ho2 : (ops.toList.take (front ops.toList))[i]? = some (ops[i]'(by omega)) := by rw [List.getElem?_take_of_lt hi]; simp
    have hx : ext0[i]? = some (ext0[i]'(by omega)) := by simp
    obtain ⟨h1, h2, _⟩ := hc0 i _ _ ho2 hx
    exact ⟨_, _, ho, ho2, h1, h2⟩
  have hdst : ∀ (i : Nat) (o : Oper), (ops.toList.take (front ops.toList))[i]? = some o → ∃ d, o.dst = some d := by
    intro i o ho
    obtain ⟨hi, _⟩ := List.getElem?_eq_some_iff.1 ho
    obtain ⟨o', d, _, h2, h3, _⟩ := hfront i (by omega)
    rw [ho] at h2; cases h2
    exact ⟨d, h3⟩
  have hmask : ∀ i o, ops[i]? = some o → front ops.toList ≤ i → (masks ops.toList []).getD i 0 + 1 = 2 ^ i := by
    intro i o ho hi
    obtain ⟨hisz, _⟩ := Array.getElem?_eq_some_iff.1 ho
    have hml : (masks ops.toList []).length = ops.size := by rw [masks_length]; simp
    have hg : ((masks ops.toList []).drop (front ops.toList))[i - front ops.toList]? = some ((masks ops.toList []).getD i 0) := by
      rw [List.getElem?_drop, show front ops.toList + (i - front ops.toList) = i by omega, List.getD_eq_getElem?_getD, List.getElem?_eq_getElem (by omega)]
      rfl
    have := tailOK_spec htl _ _ hg
    rw [this]; congr 1; omega
  -- the path where nothing is done
  let path0 : List Res := (ops.toList.take (front ops.toList)).map fun o => skipped (o.dst.getD 0)
  have hp0 : ∀ (i : Nat) (x : Res), path0[i]? = some x → ∃ o, (ops.toList.take (front ops.toList))[i]? = some o ∧ o.dst = some x.d := by
    intro i x hx
    have hx : ((ops.toList.take (front ops.toList)).map fun o => skipped (o.dst.getD 0))[i]? = some x := hx
    rw [List.getElem?_map] at hx
    cases ho : (ops.toList.take (front ops.toList))[i]? with
    | none => rw [ho] at hx; cases hx
    | some o =>
      rw [ho] at hx
      obtain ⟨d, hd⟩ := hdst i o ho
      cases hx
      exact ⟨o, rfl, by simp [skipped, hd]⟩
  have W0 : Way (regOf Γ U ops.toList) ops (front ops.toList) path0 := by
    refine ⟨by show (List.map _ _).length = _; rw [List.length_map, hfl], fun i o x ho hx => ?_, fun x hx => ?_, fun i j x y hx hy hxy => ?_⟩
    · obtain ⟨o', h1, h2⟩ := hp0 i x hx
      obtain ⟨hi, _⟩ := List.getElem?_eq_some_iff.1 h1
      rw [List.getElem?_take_of_lt (by omega)] at h1
      have : ops[i]? = some o' := by simpa using h1
      rw [ho] at this; cases this
      exact h2
    · obtain ⟨i, hi⟩ := List.getElem?_of_mem hx
      obtain ⟨o', h1, h2⟩ := hp0 i x hi
      exact memNum_iff.2 (dstsOf_mem (List.mem_of_getElem? h1) h2)
    · obtain ⟨o1, h1, h2⟩ := hp0 i x hx
      obtain ⟨o2, h3, h4⟩ := hp0 j y hy
      have g1 := dstsOf_get hdst i o1 x.d h1 h2
      have g2 := dstsOf_get hdst j o2 y.d h3 h4
      rw [← hxy] at g2
      exact nodup_spec hnd i j x.d g1 g2
  refine wp_region_any hm ?_
  refine any_front (w0 := w0) (M := M) (T := T) hE (R := regOf Γ U ops.toList) (t0 := front ops.toList) ht0 rfl (fun d hd => allLt_spec hlt d hd) (fun e he => List.all_eq_true.1 hcmp e he) ?_ hsem ?_ ?_ ?_ ops.size _ path0 γ _ _ W0 (by simp) ?_ ?_ ?_ ?_ ?_
  · intro j o' ho' hj he
    have := effIdx_mem (Γ := Γ) (ops.toList.take (front ops.toList)) 0 j o' (by rw [List.getElem?_take_of_lt hj]; simpa using ho') he
    rw [Nat.zero_add] at this
    exact this
  · intro i o ho hi j hj
    have h1 := hmask i o ho hi
    have h2 : (masks ops.toList []).getD i 0 = 2 ^ i - 1 := by omega
    rw [h2, Nat.testBit_two_pow_sub_one]
    simpa using hj
  · intro i o ho
    rcases Nat.lt_or_ge i (front ops.toList) with hi | hi
    · obtain ⟨_, _, _, _, _, h⟩ := hfront i hi
      exact h
    · have := hmask i o ho hi; omega
  · intro path γ' a' w' hK _ hR
    have hland : Rel w0 M T γ' (landAll own (ops.toList.take (front ops.toList)) (after (baseOf (regOf Γ U ops.toList).D st) path fun _ => true)) a' w' := by
      unfold landAll
      split
      · exact hR
      · exact hR.freeze _
    exact runs_sound hE hn _ _ _ _ _ hland hK
  · have : ∀ n, unl (fun i => (Array.replicate ops.size false).getD i false) n ≤ n := by
      intro n
      induction n with
      | zero => exact Nat.le_refl _
      | succ n ih => rw [unl]; split <;> omega
    exact this _
  · intro i _; simp [Array.getD]
  · intro i j hi; exfalso; simp [Array.getD] at hi
  · intro j o x _ _ hi; exfalso; simp [Array.getD] at hi
  · have := (h.drew (w.drawn + 1)) |> fun h => base_rel h (regOf Γ U ops.toList).D
    rw [after_none (fun i => by simp [Array.getD])]
    exact this
end Go.Fw
