import Derived.Test.YtfkmcdocoofahaaDoorFwA
import Derived.IntWalk
import Derived.ChangeArms
import Derived.WideKeyArgs
import Derived.ChangeSame
import Derived.ChangeOld
import Derived.Handed
import Derived.ProofKit
/- The operations that change own memory are sound. -/
namespace Go.Fw
open Go

variable {P : Program} {w0 : World} {M T : Nat → Prop} {γ γ' : Nat → Value} {st : St} {a : Act} {w w' : World} {Θ : TEnv} {Γ : CEnv}

theorem owned_one {base size n : Nat} {e : TypeId} {v : Value} {xs : List Value} (hown : w.ownsRow base e size v n xs) : v.oneCell' = true ∧ (∀ ad, v ≠ .pointer (some ad)) := by
  rcases hown.2 with ⟨h1, _⟩ | ⟨g, cap, cur, h1, _⟩ <;> rw [h1] <;> exact ⟨rfl, fun _ e => by cases e⟩

theorem yields_append_nil (hΘ : ∀ t ti, Θ t = some ti → TOK P t ti) (h : Rel w0 M T γ st a w) {t ty e : TypeId} {ti te : TI} (ht : Θ t = some ti) (hk : ti.kind = .slice e) (he : Θ e = some te) (k : Nat) (hpos : 0 < te.cells.len)
    {y : Cell} {news : List te.cells.den} {src : Value} (hy : RepCell (viewOf w0 T γ st w) y src)
    (hget : y.get st (.sl e te.cells) = some news) (hbig : news.length ≤ big) :
    ∃ u w' γ', (Builtin.append_ #[t, t] ty #[.slice none 0 0, src]).run P w = .ok u w' ∧ Rel w0 M T γ' ((st.kill (Nat.beq k ·)).add k (.arr e te.cells news (y.fresh st))) a w' ∧
      RepAV (viewOf w0 T γ' ((st.kill (Nat.beq k ·)).add k (.arr e te.cells news (y.fresh st))) w') (.sv (.one (.ref k))) u := by
  obtain ⟨v', w', ns, hrun, hown', hg, hnr, hgb⟩ := run_append_rows (P := P) (ty := ty) (hΘ t ti ht) hk (hΘ e te he) hpos (World.ownsRow_nil w 0 e te.cells.len) (Cell.get_rows h hy hget) (by omega)
  rw [Nat.zero_add, List.nil_append] at hown'
  have ho := owned_one hown'
  have hnb : ∀ g, blk v' = some g → (some g = none ∨ w.heap.size ≤ g) ∧ g < w'.heap.size := by
    intro g hb
    refine ⟨.inr ?_, grown_blk hown' g hb⟩
    rcases hgb g (by rw [ownBlock_blk ho.2]; exact hb) with h1 | h1
    · cases h1
    · exact h1
  obtain ⟨hR, _⟩ := h.replace (w' := w') (o := k) (v' := v') (x' := .arr e te.cells news (y.fresh st)) none (.inl rfl) hg.os hg.tape hg.output hg.size
    (fun b hb hne => hg.block b hb (by intro e1; cases e1)) hnb (fun le => by
      refine ⟨ns, ?_, hpos, ?_, fun i x hi => ?_⟩
      · show w'.ownsRow 0 e te.cells.len (upd γ k v' k) _ _
        rw [upd_same]
        exact hown'
      · intro b hb hf
        have hb : blk (upd γ k v' k) = some b := hb
        rw [upd_same] at hb
        rcases (hnb b hb).1 with h1 | h1
        · cases h1
        · exact Nat.le_trans h.grow h1
      · exact RepR.mono (fun c hc => le.footF _ c hc) _ _ x (hnr i x hi))
  exact ⟨v', w', _, hrun, hR, ⟨e, te.cells, _, _, add_same _ _ _⟩, (upd_same _ _ _).symm, ho.1⟩

/-- An own array cut at its end. -/
theorem yields_trunc (hΘ : ∀ t ti, Θ t = some ti → TOK P t ti) (h : Rel w0 M T γ st a w) {t f e : TypeId} {ti te : TI} (ht : Θ t = some ti) (hk : ti.kind = .slice f) (he : Θ f = some te) {o : Nat} {r : CTs} {l : List r.den} {fr : Bool}
    (ho : st.objs o = some (.arr e r l fr)) {v : Value} (hv : RepCell (viewOf w0 T γ st w) (.ref o) v) {hi : Option Operand} {p : Prop} {x y : Nat} (hb : cutBounds st l.length none hi = some (p, x, y)) (hp : p) :
    ∃ u γ', (Instr.sliceAt t v none (hi.map a.eval) none).run P w = .ok u w ∧ Rel w0 M T γ' ((st.kill (Nat.beq o ·)).add o (.arr e r (l.take y) fr)) a w ∧
      RepAV (viewOf w0 T γ' ((st.kill (Nat.beq o ·)).add o (.arr e r (l.take y) fr)) w) (.sv (.one (.ref o))) u := by
  obtain ⟨_, hvγ, _⟩ := hv
  have hvγ : v = γ o := hvγ
  subst hvγ
  obtain ⟨xs, hown, hpos, hfr, hrow⟩ := h.objs o _ ho
  have hown : w.ownsRow 0 e r.len (γ o) l.length xs := hown
  have hx0 : x = 0 := by
    cases hi with
    | none => simp only [cutBounds] at hb; cases hb; rfl
    | some hh =>
      simp only [cutBounds] at hb
      split at hb
      · cases hb; rfl
      · cases hb
  subst hx0
  have hu := (hΘ t ti ht).und
  rw [hk] at hu
  obtain ⟨h1, h2⟩ := hown
  have key : ∃ u, (Instr.sliceAt t (γ o) none (hi.map a.eval) none).run P w = .ok u w ∧ w.ownsRow 0 e r.len u y (xs.take (y * r.len)) ∧ blk u = blk (γ o) ∧ y ≤ l.length := by
    rcases h2 with ⟨hn, hl0⟩ | ⟨g, cap, cur, hg, hg0, hh, hle, hmax, hsz, htake⟩
    · have hn : γ o = .slice none 0 0 := hn
      obtain ⟨hr, h3, h4⟩ := run_cutBounds (P := P) h (len := l.length) (cap := 0) (by omega) hb hp true
      have hy : y = 0 := by omega
      refine ⟨.slice none 0 0, ?_, ?_, by rw [hn], h4⟩
      · rw [hn]
        simp only [Option.map_none] at hr
        rw [hl0] at hr
        simp [Instr.sliceAt, Instr.slice, Sem.run_bind, run_underlying hu.1 w, hr, (hΘ f te he).run_sizeOf, hy]
      · rw [hy, Nat.zero_mul, List.take_zero]
        exact World.ownsRow_nil w 0 e r.len
    · have hg : γ o = .slice (some ⟨g, 0, none⟩) l.length cap := hg
      obtain ⟨hr, h3, h4⟩ := run_cutBounds (P := P) h (len := l.length) (cap := cap) hle hb hp true
      have hmul : y * r.len ≤ l.length * r.len := Nat.mul_le_mul_right _ h4
      refine ⟨.slice (some ⟨g, 0, none⟩) y cap, ?_, ⟨?_, .inr ⟨g, cap, cur, rfl, hg0, hh, Nat.le_trans h4 hle, hmax, hsz, ?_⟩⟩, by rw [hg]; rfl, h4⟩
      · rw [hg]
        simp only [Option.map_none] at hr
        simp only [Instr.sliceAt, Instr.slice, Sem.run_bind, run_underlying hu.1 w, Result.andThen_ok, hr, (hΘ f te he).run_sizeOf]
        simp [addr_add]
      · rw [List.length_take, h1]; omega
      · rw [← htake, List.take_take, Nat.min_eq_left hmul]
  obtain ⟨u, hrun, hown', hblk, hyl⟩ := key
  have hone := owned_one hown'
  obtain ⟨hR, _⟩ := h.replace (w' := w) (o := o) (v' := u) (x' := .arr e r (l.take y) fr) (blk (γ o)) (.inr ⟨_, ho, rfl⟩) rfl rfl rfl (Nat.le_refl _) (fun _ _ _ => rfl)
    (fun g hg => ⟨.inl (by rw [← hblk, hg]), (h.lt o _ g ho (by rw [← hblk, hg])).1⟩) (fun le => by
      have hlen : (l.take y).length = y := by rw [List.length_take]; omega
      refine ⟨xs.take (y * r.len), ?_, hpos, ?_, fun i z hi => ?_⟩
      · rw [hlen]
        show w.ownsRow 0 e r.len (upd γ o u o) _ _
        rw [upd_same]
        exact hown'
      · intro b hb hf
        have hb : blk (upd γ o u o) = some b := hb
        rw [upd_same, hblk] at hb
        exact hfr b hb hf
      · have hil : i < y := by rw [← hlen]; exact (List.getElem?_eq_some_iff.1 hi).1
        have hmul : i * r.len + r.len ≤ y * r.len := by
          have : (i + 1) * r.len ≤ y * r.len := Nat.mul_le_mul_right _ hil
          rw [Nat.add_mul] at this; simpa using this
        rw [List.getElem?_take, if_pos hil] at hi
        rw [drop_take_take _ _ _ _ hmul]
        exact RepR.mono (fun c hc => le.footF _ c hc) _ _ z (hrow i z hi))
  exact ⟨u, _, hrun, hR, ⟨e, r, _, _, add_same _ _ _⟩, (upd_same _ _ _).symm, hone.1⟩

theorem freeze_ev (S : Nat → Bool) (x : Operand) : (st.freeze S).ev x = (st.ev x).freeze st S := by
  cases x with
  | tmp t => rfl
  | const v =>
    show constAV v = (constAV v).freeze st S
    unfold constAV
    split
    · split <;> rfl
    · rfl
    · split <;> rfl
    · rfl
    · rfl
  | func f => rfl
  | global g => rfl

/-- An operation that changes own memory. -/
theorem eff_sound {G : Glob} (hE : EnvOK P G Θ Γ w0 M) (h : Rel w0 M T γ st a w) (o : Oper) {d : Nat} {p : Prop} {v : AV} {s : St}
    (hc : eff Θ Γ d st o.op = some (p, v, s)) (hp : p) {next : Act → World → Prop} {Q : Exit → Act → World → Prop}
    (hn : ∀ u γ' w', Rel w0 M T γ' s a w' → RepAV (viewOf w0 T γ' s w') v u → next (a.put o.dst u) w') : o.wp P a w next Q := by
  cases hop : o.op <;> rw [hop] at hc <;> try (simp only [eff, reduceCtorEq] at hc; done)
  case store t x y =>
    simp only [eff] at hc
    split at hc
    · next sv ti hev ht =>
      split at hc
      · next hlen =>
        split at hc
        · next q s' hs =>
          cases hc
          have hF := h.freeze (storeRefs (st.ev x) sv)
          have hy := ev_rep h y
          rw [hev] at hy
          have hpv := RepAV.freeze (storeRefs (st.ev x) sv) h _ _ (ev_rep h x)
          have hyv := RepSV.freeze (storeRefs (st.ev x) sv) h _ _ hy
          have hl2 : (sv.freeze st (storeRefs (st.ev x) sv)).cells.length = ti.cells.len := by
            have h1 := RepCells.length _ _ (RepSV.cells _ _ hyv)
            have h2 := RepCells.length _ _ (RepSV.cells _ _ hy)
            have h3 := Nat.eq_of_beq_eq_true hlen
            omega
          obtain ⟨w', hr, hR⟩ := store_rel (P := P) hE.types hF ht hs hp hpv hyv hl2
          have hr2 : (execOp a.eval o).run P w = .ok .skip w' := by
            simp [execOp, hop, hr]
          unfold Oper.wp
          rw [hr2]
          exact hn undef γ w' hR trivial
        · cases hc
      · cases hc
    · cases hc
  case buildSlice t len parts =>
    simp only [eff] at hc
    split at hc
    · next q v' δ hcalm =>
      split at hc
      · next hfr =>
        cases hc
        exact calm_sound hE (h.freeze ((partsRefs st parts.toList).contains ·)) o (by rw [hop]; exact hcalm) hp hfr hn
      · cases hc
    · cases hc
  case slice t x lo hi mx =>
    cases mx with
    | some m => simp only [eff, reduceCtorEq] at hc
    | none =>
      cases lo with
      | none =>
        simp only [eff] at hc
        split at hc
        · next ti r ht hev =>
          have hx := ev_cell h hev
          split at hc
          · next f e rr l fr hk ho =>
            split at hc
            · next te q i j he hb =>
              split at hc
              · next hbeq =>
                cases hc
                obtain ⟨u, γ', hr, hR, hv⟩ := yields_trunc (P := P) hE.types h ht hk he ho hx hb hp
                refine Oper.wp_value (u := u) (w' := w) ?_ (hn u γ' w hR hv)
                simp [execOp, hop, hr]
              · cases hc
            · cases hc
          · cases hc
        · cases hc
      | some l0 =>
        simp only [eff] at hc
        split at hc
        · next ti r ht hev =>
          split at hc
          · next f e rr l fr hk ho =>
            split at hc
            · next te q i j he hb =>
              split at hc
              · next hbeq =>
                split at hc
                · next q' v' hq =>
                  cases hc
                  exact calm_sound (δ := []) hE (h.freeze (Nat.beq r ·)) o (by rw [hop]; exact hq) hp rfl hn
                · cases hc
              · cases hc
            · cases hc
          · cases hc
        · cases hc
  case call c =>
    obtain ⟨callee, args, tys⟩ := c
    cases callee with
    | invoke r m => simp only [eff, reduceCtorEq] at hc
    | builtin b =>
      cases b <;> try (simp only [eff, reduceCtorEq] at hc; done)
      case append =>
        simp only [eff] at hc
        split at hc
        · next sx x t u hargs htys =>
          split at hc
          · next ti c y htu ht hes hex =>
            have htu := Nat.eq_of_beq_eq_true htu
            subst htu
            have ha : args.map a.eval = #[a.eval sx, a.eval x] := by apply Array.ext'; simp [hargs]
            have ht' : tys = #[t, t] := by apply Array.ext'; simp [htys]
            have hrun : execOp a.eval o = (do pure (Next.value (← Builtin.append_ #[t, t] o.type #[a.eval sx, a.eval x]))) := by
              rw [exec_builtin hop, ha, ht']
              rfl
            have h1 := ev_cell h hes
            have h2 := ev_cell h hex
            split at hc
            · next e hk =>
              split at hc
              · next te he =>
                split at hc
                · next news r hget =>
                  split at hc
                  · next f rr l fr ho =>
                    split at hc
                    · next hbeq =>
                      split at hc
                      · next hef =>
                        cases hc
                        have hef := Nat.eq_of_beq_eq_true hef
                        subst hef
                        obtain ⟨v', w', γ', hr, hR, hv⟩ := yields_append (P := P) (ty := o.type) hE.types h ht hk he ho hbeq h1 h2 hget hp
                        exact Oper.wp_value (by rw [hrun]; exact exec_v hr) (hn v' γ' w' hR hv)
                      · cases hc
                    · cases hc
                  · cases hc
                · next news hget =>
                  split at hc
                  · next hble =>
                    cases hc
                    have hs0 : a.eval sx = .slice none 0 0 := h1
                    obtain ⟨v', w', γ', hr, hR, hv⟩ := yields_append_nil (P := P) (ty := o.type) hE.types h ht hk he (d * 64 + 1) (Nat.le_of_ble_eq_true hble) h2 hget hp
                    exact Oper.wp_value (by rw [hrun, hs0]; exact exec_v hr) (hn v' γ' w' hR hv)
                  · cases hc
                · cases hc
              · cases hc
            · cases hc
          · cases hc
        · cases hc
    | value x =>
      cases x <;> try (simp only [eff, reduceCtorEq] at hc; done)
      case func f =>
        simp only [eff] at hc
        split at hc
        · next con vs hcon hargs hrefs =>
          split at hc
          · next q out hq =>
            split at hc
            · next hfr =>
              cases hc
              have hF := h.freeze ((argRefs st args.toList).contains ·)
              obtain ⟨hok, hcall⟩ := hE.cons f con hcon
              unfold Oper.wp
              rw [exec_call hop hcall, Oper.upon_enter]
              have hrep := argsOf_foot hF (γ0 := fun _ => undef) args.toList vs hargs hrefs
              rw [← Array.toList_map] at hrep
              refine (hok vs _ out (d * 64 + 1) _ (args.map a.eval) w hq hp (hE.at h) hrep).mono ?_
              rintro e w' ⟨u, vals, rfl, h1, h2, h3, h4, h5, h6, h7, h8⟩
              obtain ⟨γ', g1, g2⟩ := hF.called hfr h1 h2 h3 h4 h5 (.inr rfl) h6 h7 h8
              exact hn u γ' w' g1 g2
            · cases hc
          · cases hc
        · cases hc

/-- One operation of the walk is sound. -/
theorem oper_sound {G : Glob} (hE : EnvOK P G Θ Γ w0 M) (h : Rel w0 M T γ st a w) (o : Oper) {d : Nat} {p : Prop} {v : AV} {s : St}
    (hc : oper Θ Γ d st o.op = some (p, v, s)) (hp : p) {next : Act → World → Prop} {Q : Exit → Act → World → Prop}
    (hn : ∀ u γ' w', Rel w0 M T γ' s a w' → RepAV (viewOf w0 T γ' s w') v u → next (a.put o.dst u) w') : o.wp P a w next Q := by
  unfold oper at hc
  split at hc
  · next q v' δ hcalm =>
    split at hc
    · next hfr =>
      cases hc
      exact calm_sound hE h o hcalm hp hfr hn
    · cases hc
  · exact eff_sound hE h o hc hp hn
end Go.Fw
/- A quiet operation yields the same where more is known. -/
namespace Go.Fw
open Go

/-- s knows all that st knows. -/
structure St.more (st s : St) : Prop where
  tmps : ∀ t, st.tmps t = .undef ∨ s.tmps t = st.tmps t
  objs : ∀ o x, st.objs o = some x → s.objs o = some x

variable {st s : St} {Θ : TEnv} {Γ : CEnv}

theorem ev_more (h : st.more s) (x : Operand) : st.ev x = .undef ∨ s.ev x = st.ev x := by
  cases x with
  | tmp t => exact h.tmps t
  | const v => exact .inr rfl
  | global g => exact .inr rfl
  | func f => exact .inr rfl
theorem ev_more' (h : st.more s) {x : Operand} {v : AV} (e : st.ev x = v) (hv : v ≠ .undef) : s.ev x = v := by
  rcases ev_more h x with h1 | h1
  · rw [e] at h1; exact absurd h1 hv
  · rw [h1, e]
theorem asInt_more (h : st.more s) {x : Operand} {n : Int} (e : asInt? (st.ev x) = some n) : asInt? (s.ev x) = some n := by
  rcases ev_more h x with h1 | h1
  · rw [h1] at e; cases e
  · rw [h1]; exact e

theorem get_more (h : st.more s) : ∀ (c : CT) (x : Cell) (d : c.den), x.get st c = some d → x.get s c = some d := by
  intro c x d hg
  cases c <;> cases x <;> simp only [Cell.get] at hg ⊢ <;> try exact hg
  case sl.ref e r o =>
    split at hg
    · next e' r' l fr ho =>
      rw [h.objs o _ ho]
      exact hg
    · cases hg
theorem rowGet_more (h : st.more s) : ∀ (r : CTs) (cs : List Cell) (d : r.den), rowGet st r cs = some d → rowGet s r cs = some d
  | .nil, [], _, hg => hg
  | .nil, _ :: _, _, hg => by simp [rowGet] at hg
  | .cons _ _, [], _, hg => by simp [rowGet] at hg
  | .cons c r, x :: xs, d, hg => by
    rw [rowGet] at hg ⊢
    split at hg
    · next a b ha hb =>
      rw [get_more h c x a ha, rowGet_more h r xs b hb]
      exact hg
    · cases hg

theorem buildIn_more (h : st.more s) (fs : List (Nat × TypeId)) : ∀ (ps : List (Nat × Operand)) (cs ds : List Cell), buildIn Θ st fs ps cs = some ds → buildIn Θ s fs ps cs = some ds
  | [], _, _, hb => hb
  | (i, x) :: r, cs, ds, hb => by
    rw [buildIn] at hb ⊢
    split at hb
    · next off t v hf hev =>
      rw [hf, ev_more' h hev (by simp)]
      dsimp only
      split at hb
      · next ti ht =>
        split at hb
        · next hle =>
          exact buildIn_more h fs r _ ds hb
        · cases hb
      · cases hb
    · cases hb
theorem rowsIn_more (h : st.more s) (r : CTs) : ∀ (ps : List (Nat × Operand)) (k : Nat) (l : List r.den), rowsIn st r k ps = some l → rowsIn s r k ps = some l
  | [], _, _, hb => hb
  | (i, x) :: ps, k, l, hb => by
    rw [rowsIn] at hb ⊢
    split at hb
    · next v l' hik hev hl =>
      rw [hik, ev_more' h hev (by simp), rowsIn_more h r ps (k + 1) l' hl]
      dsimp only
      split at hb
      · next y hy =>
        rw [rowGet_more h r _ y hy]
        exact hb
      · cases hb
    · cases hb
/-- What rowsIn could read has slots that are known. -/
theorem rowsIn_known (r : CTs) : ∀ (ps : List (Nat × Operand)) (k : Nat) (l : List r.den), rowsIn st r k ps = some l → ∀ x ∈ ps, ∃ v, st.ev x.2 = .sv v
  | [], _, _, _, x, hx => by cases hx
  | (i, y) :: ps, k, l, hb, x, hx => by
    rw [rowsIn] at hb
    split at hb
    · next v l' hik hev hl =>
      rcases List.mem_cons.1 hx with rfl | hx
      · exact ⟨v, hev⟩
      · exact rowsIn_known r ps (k + 1) l' hl x hx
    · cases hb
theorem partsRefs_more (h : st.more s) : ∀ (ps : List (Nat × Operand)), (∀ x ∈ ps, ∃ v, st.ev x.2 = .sv v) → partsRefs s ps = partsRefs st ps
  | [], _ => rfl
  | (i, x) :: ps, hk => by
    obtain ⟨v, hv⟩ := hk (i, x) List.mem_cons_self
    rw [partsRefs, partsRefs, partsRefs_more h ps (fun y hy => hk y (List.mem_cons_of_mem _ hy)), ev_more' h hv (by simp), hv]
theorem fresh_noref : ∀ (c : Cell), c.refs = [] → c.fresh s = c.fresh st
  | .int _ _, _ | .bool _, _ | .str _, _ | .nil, _ | .sl _ _ _ _, _ | .junk, _ => rfl
  | .ref _, h => by cases h
theorem fresh_all : ∀ (cs : List Cell), cs.flatMap Cell.refs = [] → cs.all (Cell.fresh s) = cs.all (Cell.fresh st)
  | [], _ => rfl
  | c :: cs, h => by
    rw [List.flatMap_cons, List.append_eq_nil_iff] at h
    rw [List.all_cons, List.all_cons, fresh_noref c h.1, fresh_all cs h.2]
theorem partsFresh_more (h : st.more s) : ∀ (ps : List (Nat × Operand)), (∀ x ∈ ps, ∃ v, st.ev x.2 = .sv v) → partsRefs st ps = [] → partsFresh s ps = partsFresh st ps
  | [], _, _ => rfl
  | (i, x) :: ps, hk, hr => by
    obtain ⟨v, hv⟩ := hk (i, x) List.mem_cons_self
    rw [partsRefs, List.append_eq_nil_iff, hv] at hr
    rw [partsFresh, partsFresh, partsFresh_more h ps (fun y hy => hk y (List.mem_cons_of_mem _ hy)) hr.2, ev_more' h hv (by simp), hv]
    dsimp only
    rw [fresh_all v.cells hr.1]

theorem view_more (h : st.more s) : ∀ (c : Cell), c.ok st = true → c.view s = c.view st ∧ c.ok s = true
  | .int _ _, _ | .bool _, _ | .str _, _ | .nil, _ | .sl _ _ _ _, _ | .junk, _ => ⟨rfl, rfl⟩
  | .ref o, hk => by
    simp only [Cell.ok] at hk
    split at hk
    · next e r l fr ho => exact ⟨by simp only [Cell.view, ho, h.objs o _ ho], by simp only [Cell.ok, h.objs o _ ho]⟩
    · cases hk
theorem views_more (h : st.more s) : ∀ (cs : List Cell), cs.all (Cell.ok st) = true → cs.map (Cell.view s) = cs.map (Cell.view st) ∧ cs.all (Cell.ok s) = true
  | [], _ => ⟨rfl, rfl⟩
  | c :: cs, hk => by
    rw [List.all_cons, Bool.and_eq_true] at hk
    obtain ⟨h1, h2⟩ := view_more h c hk.1
    obtain ⟨h3, h4⟩ := views_more h cs hk.2
    exact ⟨by rw [List.map_cons, List.map_cons, h1, h3], by rw [List.all_cons, h2, h4]; rfl⟩
theorem viewSV_more (h : st.more s) (v : SV) (hk : v.cells.all (Cell.ok st) = true) : v.view s = v.view st ∧ v.cells.all (Cell.ok s) = true := by
  obtain ⟨h1, h2⟩ := views_more h v.cells hk
  refine ⟨?_, h2⟩
  cases v with
  | one c => simp only [SV.cells, List.map_cons, List.map_nil, List.cons.injEq, and_true] at h1; simp only [SV.view, h1]
  | agg cs => simp only [SV.cells] at h1; simp only [SV.view, h1]
theorem argsOf_more (h : st.more s) : ∀ (xs : List Operand) (vs : List SV), argsOf st xs = some vs → argsOf s xs = some vs
  | [], _, hv => hv
  | x :: xs, vs, hv => by
    rw [argsOf] at hv ⊢
    split at hv
    · next v us he hu =>
      split at hv
      · next hk =>
        obtain ⟨h1, h2⟩ := viewSV_more h v hk
        rw [ev_more' h he (by simp), argsOf_more h xs us hu]
        dsimp only
        rw [h2, h1]
        exact hv
      · cases hv
    · cases hv
theorem cut_more (h : st.more s) (len : Nat) (lo hi : Option Operand) {r : Prop × Nat × Nat} (hb : cutBounds st len lo hi = some r) : cutBounds s len lo hi = some r := by
  cases lo <;> cases hi <;> simp only [cutBounds] at hb ⊢
  · exact hb
  · split at hb
    · next b e => rw [asInt_more h e]; exact hb
    · cases hb
  · split at hb
    · next b e => rw [asInt_more h e]; exact hb
    · cases hb
  · split at hb
    · next b c e1 e2 => rw [asInt_more h e1, asInt_more h e2]; exact hb
    · cases hb

/-- The value may be known better. -/
def AV.less (v v' : AV) : Prop := v = .undef ∨ v' = v

theorem calm_more (h : st.more s) (d : Nat) (o : Op) {p : Prop} {v : AV} {δ : List (Nat × AObj)} (hc : calm Θ Γ d st o = some (p, v, δ)) :
    ∃ v', calm Θ Γ d s o = some (p, v', δ) ∧ v.less v' := by
  have same : ∀ {r : Option (Prop × AV × List (Nat × AObj))}, r = some (p, v, δ) → calm Θ Γ d s o = r → ∃ v', calm Θ Γ d s o = some (p, v', δ) ∧ v.less v' :=
    fun h1 h2 => ⟨v, h2.trans h1, .inr rfl⟩
  cases o <;> try (simp only [calm, reduceCtorEq] at hc; done)
  case move x => simp only [calm] at hc ⊢; cases hc; exact ⟨_, rfl, ev_more h x⟩
  case assign x => simp only [calm] at hc ⊢; cases hc; exact ⟨_, rfl, ev_more h x⟩
  case pick c x y =>
    simp only [calm] at hc ⊢
    split at hc
    · next g hg =>
      cases hc
      rw [ev_more' h hg (by simp)]
      refine ⟨_, rfl, ?_⟩
      cases g
      · exact ev_more h y
      · exact ev_more h x
    · cases hc
  case nilCheck x =>
    simp only [calm] at hc ⊢
    split at hc
    · next a b e => rw [ev_more' h e (by simp)]; exact ⟨v, hc, .inr rfl⟩
    · next a b c e => rw [ev_more' h e (by simp)]; exact ⟨v, hc, .inr rfl⟩
    · next a b c d e => rw [ev_more' h e (by simp)]; exact ⟨v, hc, .inr rfl⟩
    · next a b c e => rw [ev_more' h e (by simp)]; exact ⟨v, hc, .inr rfl⟩
    · cases hc
  case alloc t => exact ⟨v, hc, .inr rfl⟩
  case box t x =>
    simp only [calm] at hc ⊢
    split at hc
    · next a e => rw [ev_more' h e (by simp)]; exact ⟨v, hc, .inr rfl⟩
    · cases hc
  case build t parts =>
    simp only [calm] at hc ⊢
    split at hc
    · next ti ht =>
      split at hc
      · next fs hk =>
        split at hc
        · next cs hb =>
          rw [buildIn_more h _ _ _ _ hb]
          exact ⟨v, hc, .inr rfl⟩
        · cases hc
      · cases hc
    · cases hc
  case buildSlice t len parts =>
    simp only [calm] at hc ⊢
    split at hc
    · next ti ht =>
      split at hc
      · next e hk =>
        split at hc
        · next te he =>
          split at hc
          · next l hb hrefs hrows =>
            have hkn := rowsIn_known _ _ _ _ hrows
            rw [hb, partsRefs_more h _ hkn, hrefs, rowsIn_more h _ _ _ _ hrows, partsFresh_more h _ hkn hrefs]
            exact ⟨v, hc, .inr rfl⟩
          · cases hc
        · cases hc
      · cases hc
    · cases hc
  case makeSlice t x y =>
    simp only [calm] at hc ⊢
    split at hc
    · next ti n c ht hn hcc =>
      rw [ht, asInt_more h hn, asInt_more h hcc]
      exact ⟨v, hc, .inr rfl⟩
    · cases hc
  case load t x =>
    simp only [calm] at hc ⊢
    split at hc
    · next ti o off ht he =>
      rw [ht, ev_more' h he (by simp)]
      split at hc
      · next cs ho =>
        dsimp only
        rw [h.objs o _ ho]
        exact ⟨v, hc, .inr rfl⟩
      · cases hc
    · next ti o i off ht he =>
      rw [ht, ev_more' h he (by simp)]
      split at hc
      · next e r l fr ho =>
        dsimp only
        rw [h.objs o _ ho]
        exact ⟨v, hc, .inr rfl⟩
      · cases hc
    · next ti r y off fr ht he =>
      rw [ht, ev_more' h he (by simp)]
      exact ⟨v, hc, .inr rfl⟩
    · cases hc
  case fieldAddr t x f =>
    simp only [calm] at hc ⊢
    split at hc
    · next ti ht =>
      split at hc
      · next fs hk =>
        split at hc
        · next k t hf =>
          split at hc
          · next te hte =>
            split at hc
            · cases hc
            · next a b e hne => rw [ev_more' h e (by simp)]; cases hcell : te.cells with | nil => exact (hne hcell).elim | cons _ _ => exact ⟨v, hc, .inr rfl⟩
            · next a b c e hne => rw [ev_more' h e (by simp)]; cases hcell : te.cells with | nil => exact (hne hcell).elim | cons _ _ => exact ⟨v, hc, .inr rfl⟩
            · next a b c d e hne => rw [ev_more' h e (by simp)]; cases hcell : te.cells with | nil => exact (hne hcell).elim | cons _ _ => exact ⟨v, hc, .inr rfl⟩
            · cases hc
          · cases hc
        · cases hc
      · cases hc
    · cases hc
  case field t x f =>
    simp only [calm] at hc ⊢
    split at hc
    · next ti ht =>
      split at hc
      · next fs hk =>
        split at hc
        · next k t cs hf e =>
          rw [hf, ev_more' h e (by simp)]
          exact ⟨v, hc, .inr rfl⟩
        · cases hc
      · cases hc
    · cases hc
  case indexAddr t x ix =>
    simp only [calm] at hc ⊢
    split at hc
    · next ti n ht hn =>
      rw [ht, asInt_more h hn]
      try dsimp only
      split at hc
      · next e hk =>
        split at hc
        · next te e' r l fr he hev => rw [he, ev_more' h hev (by simp)]; exact ⟨v, hc, .inr rfl⟩
        · next te o he hev =>
          rw [he, ev_more' h hev (by simp)]
          try dsimp only
          split at hc
          · next a b c d ho =>
            rw [h.objs o _ ho]
            exact ⟨v, hc, .inr rfl⟩
          · cases hc
        · next te he hev => rw [he, ev_more' h hev (by simp)]; exact ⟨v, hc, .inr rfl⟩
        · cases hc
      · cases hc
    · cases hc
  case index t x ix =>
    simp only [calm] at hc ⊢
    split at hc
    · next ti n b ht hn hev =>
      rw [ht, asInt_more h hn, ev_more' h hev (by simp)]
      exact ⟨v, hc, .inr rfl⟩
    · cases hc
  case binOp op t x y t' =>
    simp only [calm] at hc ⊢
    split at hc
    · next a b e1 e2 =>
      rw [ev_more' h e1 (by simp), ev_more' h e2 (by simp)]
      exact ⟨v, hc, .inr rfl⟩
    · next a b e1 e2 =>
      rw [ev_more' h e1 (by simp), ev_more' h e2 (by simp)]
      exact ⟨v, hc, .inr rfl⟩
    · cases hc
  case unOp op t x =>
    simp only [calm] at hc ⊢
    split at hc
    · next b e => rw [ev_more' h e (by simp)]; exact ⟨v, hc, .inr rfl⟩
    · next k n e => rw [ev_more' h e (by simp)]; exact ⟨v, hc, .inr rfl⟩
    · cases hc
  case convert a b x =>
    simp only [calm] at hc ⊢
    split at hc
    · next ts td c hs hd e =>
      rw [hs, hd, ev_more' h e (by simp)]
      try dsimp only
      split at hc
      · cases hc
      · next hagg =>
        rw [if_neg hagg]
        split at hc
        · exact ⟨v, hc, .inr rfl⟩
        · exact ⟨v, hc, .inr rfl⟩
        · exact ⟨v, hc, .inr rfl⟩
        · next e' c' e1 e2 =>
          split at hc
          · next l te hl hte =>
            rw [get_more h _ _ _ hl, hte]
            exact ⟨v, hc, .inr rfl⟩
          · cases hc
        · cases hc
    · cases hc
  case extract x i =>
    simp only [calm] at hc ⊢
    split at hc
    · next a e => rw [ev_more' h e (by simp)]; exact ⟨v, hc, .inr rfl⟩
    · cases hc
  case slice t x lo hi mx =>
    cases mx with
    | some m => simp only [calm, reduceCtorEq] at hc
    | none =>
      simp only [calm] at hc ⊢
      split at hc
      · next ti b ht e =>
        rw [ht, ev_more' h e (by simp)]
        try dsimp only
        split at hc
        · next p' x' y' hk hb => rw [hk, cut_more h _ _ _ hb]; exact ⟨v, hc, .inr rfl⟩
        · cases hc
      · next ti e' r l fr ht e =>
        rw [ht, ev_more' h e (by simp)]
        try dsimp only
        split at hc
        · next f p' x' y' hk hb => rw [hk, cut_more h _ _ _ hb]; exact ⟨v, hc, .inr rfl⟩
        · cases hc
      · next ti ht e =>
        rw [ht, ev_more' h e (by simp)]
        try dsimp only
        split at hc
        · next f p' x' y' hk hb => rw [hk, cut_more h _ _ _ hb]; exact ⟨v, hc, .inr rfl⟩
        · cases hc
      · cases hc
  case call c =>
    obtain ⟨callee, args, tys⟩ := c
    cases callee with
    | invoke r m => simp only [calm, reduceCtorEq] at hc
    | builtin b =>
      cases b <;> try (simp only [calm, reduceCtorEq] at hc; done)
      case len =>
        simp only [calm] at hc ⊢
        split at hc
        · next x t hargs htys =>
          split at hc
          · next ti c ht e =>
            rw [ht, ev_more' h e (by simp)]
            try dsimp only
            split at hc
            · next b hk => exact ⟨v, hc, .inr rfl⟩
            · next a b c d e hk => exact ⟨v, hc, .inr rfl⟩
            · next a hk => exact ⟨v, hc, .inr rfl⟩
            · next a o hk =>
              split at hc
              · next e' r l fr ho =>
                rw [h.objs o _ ho]
                exact ⟨v, hc, .inr rfl⟩
              · cases hc
            · cases hc
          · cases hc
        · cases hc
      case min =>
        simp only [calm] at hc ⊢
        split at hc
        · next x y hargs =>
          split at hc
          · next a b c d e1 e2 =>
            rw [ev_more' h e1 (by simp), ev_more' h e2 (by simp)]
            exact ⟨v, hc, .inr rfl⟩
          · cases hc
        · cases hc
      case max =>
        simp only [calm] at hc ⊢
        split at hc
        · next x y hargs =>
          split at hc
          · next a b c d e1 e2 =>
            rw [ev_more' h e1 (by simp), ev_more' h e2 (by simp)]
            exact ⟨v, hc, .inr rfl⟩
          · cases hc
        · cases hc
    | value x =>
      cases x <;> try (simp only [calm, reduceCtorEq] at hc; done)
      case func f =>
        simp only [calm] at hc ⊢
        split at hc
        · next con vs hcon hargs =>
          rw [hcon, argsOf_more h _ _ hargs]
          exact ⟨v, hc, .inr rfl⟩
        · cases hc
end Go.Fw
/- Regions in the order of their text. -/
namespace Go.Fw
open Go

variable {P : Program} {w0 : World} {M T : Nat → Prop} {γ γ' : Nat → Value} {st : St} {a : Act} {w w' : World} {Θ : TEnv} {Γ : CEnv}

/-- The number by which the objects are named that an operation makes. -/
def numOf (st : St) (o : Oper) : Nat := match o.dst with | some d => d | none => st.n
def ofNum (d o : Nat) : Bool := Nat.beq (o / 64) d
def arrNum (d o : Nat) : Bool := Nat.beq (o / 64) d && !(Nat.beq (o % 64) 0)
def makes : Op → Bool
  | .alloc _ | .box _ _ | .buildSlice _ _ _ | .makeSlice _ _ _ => true
  | .call { callee := .value _, .. } => true
  | _ => false
def makesArr : Op → Bool
  | .buildSlice _ _ _ | .makeSlice _ _ _ => true
  | .call { callee := .value _, .. } => true
  | _ => false

/-- One operation; where the names of its new objects are taken, what bore them is let go. -/
def oper' (Θ : TEnv) (Γ : CEnv) (d : Nat) (st : St) (op : Op) : Option (Prop × AV × St) :=
  match oper Θ Γ d st op with
  | some r => some r
  | none => match makes op with
    | true => oper Θ Γ d (st.kill (ofNum d)) op
    | false => none

/-- Does the operation ask nothing? -/
def quiet (st : St) : Op → Bool
  | .move _ | .assign _ | .nilCheck _ | .pick _ _ _ | .alloc _ | .box _ _ | .build _ _ | .buildSlice _ _ _ | .fieldAddr _ _ _ | .field _ _ _ | .unOp _ _ _ | .convert _ _ _ | .extract _ _ => true
  | .call { callee := .builtin .len, .. } | .call { callee := .builtin .min, .. } | .call { callee := .builtin .max, .. } => true
  | .load _ p => match st.ev p with | .eptr _ _ _ => false | _ => true
  | .store _ p _ => match st.ev p with | .vptr _ _ => true | _ => false
  | .binOp op _ x _ _ => match op with
    | .quo | .rem | .shl | .shr => false
    | .add => match st.ev x with | .sv (.one (.str _)) => false | _ => true
    | _ => true
  | _ => false

theorem binInt_quiet {op : BinOp} {k : IntKind} {x y : Int} {p : Prop} {c : Cell} (h : binInt op k x y = some (p, c)) (h1 : op ≠ .quo) (h2 : op ≠ .rem) : p := by
  cases op <;> simp only [binInt, reduceCtorEq] at h <;> first | (cases h; trivial) | exact (h1 rfl).elim | exact (h2 rfl).elim
theorem binStr_quiet {op : BinOp} {x y : Bytes} {p : Prop} {c : Cell} (h : binStr op x y = some (p, c)) (h1 : op ≠ .add) : p := by
  cases op <;> simp only [binStr, reduceCtorEq] at h <;> first | (cases h; trivial) | exact (h1 rfl).elim
theorem binCell_quiet {op : BinOp} {x y : Cell} {p : Prop} {c : Cell} (h : binCell op x y = some (p, c)) (h1 : op ≠ .quo) (h2 : op ≠ .rem) (h3 : op ≠ .shl) (h4 : op ≠ .shr)
    (h5 : op = .add → ∀ s, x ≠ .str s) : p := by
  unfold binCell at h
  split at h
  · split at h
    · exact (h3 rfl).elim
    · exact (h4 rfl).elim
    · split at h
      · exact binInt_quiet h h1 h2
      · cases h
  · exact binStr_quiet h fun e => h5 e _ rfl
  · split at h
    · cases h; trivial
    · cases h; trivial
    · cases h
  · cases h

theorem calm_quiet {d : Nat} {op : Op} {p : Prop} {v : AV} {δ : List (Nat × AObj)} (hc : calm Θ Γ d st op = some (p, v, δ)) (hq : quiet st op = true) : p := by
  cases op <;> try (simp only [calm, reduceCtorEq] at hc; done)
  case binOp op t x y t' =>
    simp only [calm] at hc
    split at hc
    · next a b e1 e2 =>
      split at hc
      · split at hc
        · next q c hb =>
          cases hc
          refine binCell_quiet hb ?_ ?_ ?_ ?_ ?_
          · rintro rfl; simp [quiet] at hq
          · rintro rfl; simp [quiet] at hq
          · rintro rfl; simp [quiet] at hq
          · rintro rfl; simp [quiet] at hq
          · rintro rfl s rfl; simp [quiet, e1] at hq
        · cases hc
      · cases hc
    · split at hc
      · split at hc
        · split at hc
          · cases hc; trivial
          · cases hc
        · split at hc
          · cases hc; trivial
          · cases hc
        · cases hc
      · cases hc
    · cases hc
  case load t x =>
    simp only [calm] at hc
    split at hc
    · split at hc
      · split at hc
        · cases hc; trivial
        · cases hc
      · cases hc
    · next e => simp [quiet, e] at hq
    · split at hc
      · cases hc; trivial
      · cases hc
    · cases hc
  case call c =>
    obtain ⟨callee, args, tys⟩ := c
    cases callee with
    | invoke r m => simp only [calm, reduceCtorEq] at hc
    | builtin b =>
      cases b <;> first
        | (simp only [calm, reduceCtorEq] at hc; done)
        | (simp only [calm] at hc
           repeat' (first | (cases hc; done) | (cases hc; trivial) | (split at hc)))
    | value x => simp [quiet] at hq
  all_goals first
    | (simp [quiet] at hq; done)
    | (simp only [calm] at hc
       repeat' (first | (cases hc; done) | (cases hc; trivial) | (split at hc)))

theorem store_quiet {pt : AV} {v : SV} {q : Prop} {s : St} (h : store st pt v = some (q, s)) (hv : ∀ o i off, pt ≠ .eptr o i off) : q := by
  unfold store at h
  split at h
  · split at h
    · split at h
      · cases h; trivial
      · cases h
    · cases h
  · exact (hv _ _ _ rfl).elim
  · cases h

theorem eff_quiet {d : Nat} {op : Op} {p : Prop} {v : AV} {s : St} (hc : eff Θ Γ d st op = some (p, v, s)) (hq : quiet st op = true) : p := by
  cases op <;> try (simp only [eff, reduceCtorEq] at hc; done)
  case store t pt x =>
    simp only [eff] at hc
    split at hc
    · split at hc
      · split at hc
        · next q s' hs =>
          cases hc
          refine store_quiet hs ?_
          intro o i off e
          cases hp : st.ev pt <;> rw [hp] at e <;> simp only [AV.freeze, reduceCtorEq] at e
          · split at e <;> cases e
          · simp [quiet, hp] at hq
          · split at e <;> cases e
        · cases hc
      · cases hc
    · cases hc
  case buildSlice t n parts =>
    simp only [eff] at hc
    split at hc
    · next q v' δ hcalm =>
      split at hc
      · cases hc
        exact calm_quiet hcalm rfl
      · cases hc
    · cases hc
  case slice t x lo hi mx => simp [quiet] at hq
  case call c =>
    obtain ⟨callee, args, tys⟩ := c
    cases callee with
    | invoke r m => simp only [eff, reduceCtorEq] at hc
    | builtin b => cases b <;> first | (simp only [eff, reduceCtorEq] at hc; done) | (simp [quiet] at hq; done)
    | value x => simp [quiet] at hq

theorem oper_quiet {d : Nat} {op : Op} {p : Prop} {v : AV} {s : St} (hc : oper Θ Γ d st op = some (p, v, s)) (hq : quiet st op = true) : p := by
  unfold oper at hc
  split at hc
  · next q v' δ hcalm =>
    split at hc
    · cases hc
      exact calm_quiet hcalm hq
    · cases hc
  · exact eff_quiet hc hq

/-- What one operation leaves, when its value is put in its place; new arrays that are not kept as own ones are let go. -/
def land (own : Nat → Bool) (d : Nat) (o : Oper) (v : AV) (s : St) : St :=
  match makesArr o.op && !(own d) && ((s.objs (d * 64 + 1)).isSome || (s.objs (d * 64 + 2)).isSome || (s.objs (d * 64 + 3)).isSome) with
  | true => (s.put o.dst v).freeze (arrNum d)
  | false => s.put o.dst v

def okDst (st : St) (o : Oper) : Bool := match o.dst with | some d => Nat.blt d st.n | none => true

def runOne (Θ : TEnv) (Γ : CEnv) (own : Nat → Bool) (o : Oper) (K : St → Prop) (st : St) : Prop :=
  match okDst st o with
  | true => match oper' Θ Γ (numOf st o) st o.op, quiet st o.op with
    | some (p, v, s), q => match q with
      | true => K (land own (numOf st o) o v s)
      | false => p ∧ K (land own (numOf st o) o v s)
    | none, _ => False
  | false => False

def boolEq : Bool → Bool → Bool
  | true, b => b
  | false, true => false
  | false, false => true

/-- Where an operation is only wanted if another yielded b. -/
def guarded (ops : List Oper) (o : Oper) (one : St → Prop) (skip : St → Prop) (st : St) : Prop :=
  match o.guard with
  | none => one st
  | some (g, b) => match ops[g]? with
    | some og => match og.dst with
      | some t => match okDst st o, Nat.blt t st.n, st.tmps t with
        | true, true, .sv (.one (.bool x)) => cond x
          (match b with | true => one (st.set t (.sv (.one (.bool true)))) | false => skip ((st.set t (.sv (.one (.bool true)))).put o.dst .undef))
          (match b with | false => one (st.set t (.sv (.one (.bool false)))) | true => skip ((st.set t (.sv (.one (.bool false)))).put o.dst .undef))
        | _, _, _ => False
      | none => False
    | none => False

def runs (Θ : TEnv) (Γ : CEnv) (own : Nat → Bool) (ops : List Oper) (K : St → Prop) : List Oper → St → Prop
  | [], st => K st
  | o :: r, st => guarded ops o (runOne Θ Γ own o (runs Θ Γ own ops K r)) (runs Θ Γ own ops K r) st

theorem set_self {t : Nat} {v : AV} (h : st.tmps t = v) : st.set t v = st := by
  cases st with
  | mk n tm ob =>
    simp only [St.set, St.mk.injEq, true_and, and_true]
    funext x
    cases hb : Nat.beq x t with
    | true => rw [Nat.eq_of_beq_eq_true hb]; exact h.symm
    | false => rfl

theorem oper_n {d : Nat} {op : Op} {p : Prop} {v : AV} {s : St} (_hc : oper Θ Γ d st op = some (p, v, s)) (h : Rel w0 M T γ s a w) (h' : Rel w0 M T γ' st a w') : s.n = st.n := by
  rw [← h.size, ← h'.size]

theorem runOne_sound {G : Glob} (hE : EnvOK P G Θ Γ w0 M) {own : Nat → Bool} {o : Oper} {K : St → Prop} (h : Rel w0 M T γ st a w) (hr : runOne Θ Γ own o K st)
    {next : Act → World → Prop} {Q : Exit → Act → World → Prop} (hn : ∀ s γ' a' w', K s → Rel w0 M T γ' s a' w' → next a' w') : o.wp P a w next Q := by
  unfold runOne at hr
  split at hr
  · next hd =>
    have main : ∀ (st1 : St) (_ : Rel w0 M T γ st1 a w) (_ : st1.n = st.n) (p : Prop) (v : AV) (s : St), oper Θ Γ (numOf st o) st1 o.op = some (p, v, s) → p → K (land own (numOf st o) o v s) → o.wp P a w next Q := by
      intro st1 h1 hn1 p v s hop hp hK
      refine oper_sound hE h1 o hop hp ?_
      intro u γ' w' hR hv
      have hsz : s.n = st.n := (oper_n hop hR h1).trans hn1
      have hput : Rel w0 M T γ' (s.put o.dst v) (a.put o.dst u) w' := by
        cases hdst : o.dst with
        | none => exact hR
        | some d =>
          rw [okDst, hdst] at hd
          refine hR.set d ?_ v u hv
          rw [hsz]
          simpa [Nat.blt_eq] using hd
      unfold land at hK
      split at hK
      · exact hn _ γ' _ _ hK (hput.freeze _)
      · exact hn _ γ' _ _ hK hput
    cases ho : oper' Θ Γ (numOf st o) st o.op with
    | none => rw [ho] at hr; exact hr.elim
    | some res =>
      obtain ⟨p, v, s⟩ := res
      rw [ho] at hr
      have hq1 : quiet st o.op = true → K (land own (numOf st o) o v s) := fun e => by simp only [e] at hr; exact hr
      have hq2 : quiet st o.op = false → p ∧ K (land own (numOf st o) o v s) := fun e => by simp only [e] at hr; exact hr
      unfold oper' at ho
      cases hop1 : oper Θ Γ (numOf st o) st o.op with
      | some r =>
        rw [hop1] at ho
        cases ho
        cases hqq : quiet st o.op with
        | true => exact main st h rfl p v s hop1 (oper_quiet hop1 hqq) (hq1 hqq)
        | false => exact main st h rfl p v s hop1 (hq2 hqq).1 (hq2 hqq).2
      | none =>
        rw [hop1] at ho
        cases hm : makes o.op with
        | false => rw [hm] at ho; cases ho
        | true =>
          rw [hm] at ho
          cases hqq : quiet st o.op with
          | true =>
            refine main _ (h.kill _) rfl p v s ho (oper_quiet ho ?_) (hq1 hqq)
            cases hop2 : o.op <;> rw [hop2] at hm hqq <;> simp only [makes, Bool.false_eq_true] at hm <;> first | rfl | (simp [quiet] at hqq; done) | skip
            rename_i c
            obtain ⟨callee, args, tys⟩ := c
            cases callee <;> simp only [Bool.false_eq_true] at hm
            exact hqq
          | false => exact main _ (h.kill _) rfl p v s ho (hq2 hqq).1 (hq2 hqq).2
  · exact hr.elim

theorem guarded_sound {ops : Array Oper} {o : Oper} {one skip : St → Prop} (h : Rel w0 M T γ st a w) (hr : guarded ops.toList o one skip st) {Y Z : Prop}
    (h1 : one st → Y) (h2 : skip (st.put o.dst .undef) → Z) :
    (Region.wanted o (yielded ops a.tmps) = true ∧ Y) ∨ (Region.wanted o (yielded ops a.tmps) = false ∧ okDst st o = true ∧ Z) := by
  unfold guarded at hr
  split at hr
  · next hg => exact .inl ⟨by simp [Region.wanted, hg], h1 hr⟩
  · next g b hg =>
    split at hr
    · next og hog =>
      split at hr
      · next t ht =>
        split at hr
        · next x hok hlt htm =>
          have hy : yielded ops a.tmps g = some x := by
            have hr1 := h.tmps t
            rw [htm] at hr1
            have hv : a.tmps.getD t undef = .bool x := hr1
            have hsz : t < a.tmps.size := by rw [h.size]; simpa [Nat.blt_eq] using hlt
            have hog' : ops[g]? = some og := by simpa using hog
            have hget : a.tmps[t]? = some (.bool x) := by
              rw [Array.getElem?_eq_getElem hsz]
              simp [Array.getD, hsz] at hv
              rw [hv]
            simp [yielded, hog', ht, hget]
          cases x
          · simp only [cond_false, set_self htm] at hr
            cases b
            · exact .inl ⟨by simp [Region.wanted, hg, hy], h1 hr⟩
            · exact .inr ⟨by simp [Region.wanted, hg, hy], hok, h2 hr⟩
          · simp only [cond_true, set_self htm] at hr
            cases b
            · exact .inr ⟨by simp [Region.wanted, hg, hy], hok, h2 hr⟩
            · exact .inl ⟨by simp [Region.wanted, hg, hy], h1 hr⟩
        · exact hr.elim
      · exact hr.elim
    · exact hr.elim

theorem runs_sound {G : Glob} (hE : EnvOK P G Θ Γ w0 M) {own : Nat → Bool} {ops : Array Oper} {K : St → Prop} {Q : Exit → Act → World → Prop}
    (hn : ∀ s γ' a' w', K s → Rel w0 M T γ' s a' w' → Q .normal a' w') : ∀ (l : List Oper) (st : St) (γ : Nat → Value) (a : Act) (w : World),
    Rel w0 M T γ st a w → runs Θ Γ own ops.toList K l st → wpList P ops Q l a w
  | [], st, γ, a, w, h, hr => hn st γ a w hr h
  | o :: r, st, γ, a, w, h, hr => by
    unfold wpList
    have := guarded_sound (ops := ops) (o := o) (Y := o.wp P a w (wpList P ops Q r) Q) (Z := okDst st o = true → wpList P ops Q r (a.put o.dst undef) w) h hr
      (fun h1 => runOne_sound hE h h1 fun s γ' a' w' hK hR => runs_sound hE hn r s γ' a' w' hR hK)
      (fun h2 hok => runs_sound hE hn r _ γ _ w (h.setUndef o.dst (fun t ht => by rw [okDst, ht] at hok; simpa [Nat.blt_eq] using hok) undef) h2)
    rcases this with ⟨e, hy⟩ | ⟨e, hok, hz⟩
    · rw [if_pos e]; exact .inl hy
    · rw [if_neg (by rw [e]; simp)]; exact hz hok

/-- A region that keeps the order of its text. -/
theorem region_sound {G : Glob} (hE : EnvOK P G Θ Γ w0 M) {own : Nat → Bool} {id : Nat} {ops : Array Oper} {K : St → Prop} {Q : Exit → Act → World → Prop} (h : Rel w0 M T γ st a w)
    (hr : runs Θ Γ own ops.toList K ops.toList st) (hn : ∀ s γ' a' w', K s → Rel w0 M T γ' s a' w' → Q .normal a' w') : (Code.region id ops false).wp P Q a w :=
  wp_region_list (runs_sound hE hn _ _ _ _ _ h hr)
end Go.Fw
/- What stays known at the head of a loop: shapes of states. -/
namespace Go.Fw
open Go

variable {P : Program} {w0 : World} {M T : Nat → Prop} {γ γ' : Nat → Value} {st : St} {a : Act} {w w' : World} {Θ : TEnv} {Γ : CEnv}

inductive CSh where
  | int (k : IntKind)
  | bool
  | str
  | nil
  | sl (e : TypeId) (r : CTs) (fr : Bool)
  | ref (o : Nat)
  | junk
@[reducible] def CSh.den : CSh → Type
  | .int _ => Int
  | .bool => Bool
  | .str => Bytes
  | .sl _ r _ => List r.den
  | .nil | .ref _ | .junk => Unit
def CSh.cell : (c : CSh) → c.den → Cell
  | .int k, n => .int k n
  | .bool, b => .bool b
  | .str, s => .str s
  | .sl e r fr, l => .sl e r l fr
  | .nil, _ => .nil
  | .ref o, _ => .ref o
  | .junk, _ => .junk
def boolLe : Bool → Bool → Bool
  | true, b => b
  | false, _ => true
def CSh.read : (c : CSh) → Cell → Option c.den
  | .int k, .int l n => match decide (k = l) with | true => some n | false => none
  | .bool, .bool b => some b
  | .str, .str s => some s
  | .sl e r fr, .sl f s l gr => match Nat.beq e f && boolLe fr gr with
    | true => if h : s.beq r = true then some (castRow h l) else none
    | false => none
  | .sl _ _ _, .nil => some []
  | .nil, .nil => some ()
  | .ref o, .ref p => match Nat.beq o p with | true => some () | false => none
  | .junk, _ => some ()
  | _, _ => none

theorem repNil (X : V) (e : TypeId) (r : CTs) (fr : Bool) : RepCell X (.sl e r [] fr) (.slice none 0 0) := by
  refine ⟨by simp, .inl ⟨rfl, none, 0, rfl⟩⟩

theorem CSh.weak {X : V} : ∀ (c : CSh) (x : Cell) (d : c.den) (v : Value), c.read x = some d → RepCell X x v → RepCell X (c.cell d) v := by
  intro c x d v hr hv
  cases c <;> cases x <;> simp only [CSh.read, reduceCtorEq, Option.some.injEq] at hr <;> try (subst hr; exact hv)
  case int.int k l n =>
    split at hr
    · next e =>
      cases hr
      rw [show k = l by simpa using e]
      exact hv
    · cases hr
  case sl.sl e r fr f s l gr =>
    split at hr
    · next hb =>
      split at hr
      · next hs =>
        cases hr
        rw [Bool.and_eq_true] at hb
        have he := Nat.eq_of_beq_eq_true hb.1
        subst he
        have hsr := CTs.eq_of_beq s r hs
        subst hsr
        have hv' : RepC X.w.heap (X.footF gr) (.sl e s) v l := hv
        refine RepC.mono (fun b hb' => ⟨⟨hb'.1, fun hfr => hb'.2 ?_⟩, rfl⟩) (.sl e s) v l hv'
        subst hfr
        cases gr
        · simp [boolLe] at hb
        · rfl
      · cases hr
    · cases hr
  case sl.nil e r fr =>
    subst hr
    rw [show v = _ from hv]
    exact repNil X e r fr
  case nil.nil => exact hv
  case ref.ref o p =>
    split at hr
    · next hb => rw [CSh.cell, Nat.eq_of_beq_eq_true hb]; exact hv
    · cases hr
  all_goals exact RepCell.one _ _ hv

@[reducible] def csDen : List CSh → Type
  | [] => Unit
  | c :: r => c.den × csDen r
def csCells : (l : List CSh) → csDen l → List Cell
  | [], _ => []
  | c :: r, x => c.cell x.1 :: csCells r x.2
def csRead : (l : List CSh) → List Cell → Option (csDen l)
  | [], [] => some ()
  | c :: r, x :: xs => match c.read x, csRead r xs with
    | some a, some b => some (a, b)
    | _, _ => none
  | _, _ => none
theorem csWeak {X : V} : ∀ (l : List CSh) (xs : List Cell) (d : csDen l) (vs : List Value), csRead l xs = some d → RepCells X xs vs → RepCells X (csCells l d) vs
  | [], [], _, _, _, hv => hv
  | c :: r, x :: xs, d, vs, hr, hv => by
    rw [csRead] at hr
    split at hr
    · next a b h1 h2 =>
      cases hr
      cases vs with
      | nil => cases hv
      | cons v vs => exact ⟨CSh.weak c x a v h1 hv.1, csWeak r xs b vs h2 hv.2⟩
    · cases hr
  | [], _ :: _, _, _, hr, _ => by simp [csRead] at hr
  | _ :: _, [], _, _, hr, _ => by simp [csRead] at hr

/-- The shape of a slot. -/
inductive ASh where
  | one (c : CSh)
  | agg (l : List CSh)
  | vptr (o off : Nat)
@[reducible] def ASh.den : ASh → Type
  | .one c => c.den
  | .agg l => csDen l
  | .vptr _ _ => Unit
def ASh.val : (s : ASh) → s.den → AV
  | .one c, x => .sv (.one (c.cell x))
  | .agg l, x => .sv (.agg (csCells l x))
  | .vptr o off, _ => .vptr o off
def ASh.read : (s : ASh) → AV → Option s.den
  | .one c, .sv (.one x) => c.read x
  | .agg l, .sv (.agg xs) => csRead l xs
  | .vptr o off, .vptr p k => match Nat.beq o p && Nat.beq off k with | true => some () | false => none
  | _, _ => none
theorem ASh.weak {X : V} (s : ASh) (x : AV) (d : s.den) (v : Value) (hr : s.read x = some d) (hv : RepAV X x v) : RepAV X (s.val d) v := by
  unfold ASh.read at hr
  split at hr
  · exact CSh.weak _ _ _ _ hr hv
  · obtain ⟨vs, e, h⟩ := hv
    exact ⟨vs, e, csWeak _ _ _ _ hr h⟩
  · split at hr
    · next hb =>
      rw [Bool.and_eq_true] at hb
      rw [ASh.val, Nat.eq_of_beq_eq_true hb.1, Nat.eq_of_beq_eq_true hb.2]
      exact hv
    · cases hr
  · cases hr

/-- The shape of an object. -/
inductive OSh where
  | var (l : List CSh)
  | arr (e : TypeId) (r : CTs) (fr : Bool)
@[reducible] def OSh.den : OSh → Type
  | .var l => csDen l
  | .arr _ r _ => List r.den
def OSh.obj : (s : OSh) → s.den → AObj
  | .var l, x => .var (csCells l x)
  | .arr e r fr, l => .arr e r l fr
def OSh.read : (s : OSh) → AObj → Option s.den
  | .var l, .var xs => csRead l xs
  | .arr e r fr, .arr f s l gr => match Nat.beq e f && (boolLe fr gr && boolLe gr fr) with
    | true => if h : s.beq r = true then some (castRow h l) else none
    | false => none
  | _, _ => none

/-- x' says no more than x. -/
def ObjWeak (x x' : AObj) : Prop :=
  (∃ cs cs', x = .var cs ∧ x' = .var cs' ∧ ∀ (X : V) vs, RepCells X cs vs → RepCells X cs' vs) ∨ ∃ e r l fr, x = .arr e r l fr ∧ x' = .arr e r l fr
theorem OSh.weak (s : OSh) (x : AObj) (d : s.den) (hr : s.read x = some d) : ObjWeak x (s.obj d) := by
  unfold OSh.read at hr
  split at hr
  · exact .inl ⟨_, _, rfl, rfl, fun X vs h => csWeak _ _ _ _ hr h⟩
  · next e r fr f s l gr =>
    split at hr
    · next hb =>
      split at hr
      · next hs =>
        cases hr
        rw [Bool.and_eq_true] at hb
        have he := Nat.eq_of_beq_eq_true hb.1
        have hg : fr = gr := by
          have hb2 := hb.2
          cases fr <;> cases gr <;> simp only [boolLe, Bool.and_true, Bool.and_false, Bool.false_eq_true] at hb2 <;> rfl
        subst he hg
        have hsr := CTs.eq_of_beq s r hs
        subst hsr
        exact .inr ⟨e, s, l, fr, rfl, rfl⟩
      · cases hr
    · cases hr
  · cases hr

/-- A state that says no more than another: the same objects, each no better known. -/
structure Covers (J st : St) : Prop where
  n : J.n = st.n
  tmps : ∀ t (X : V) v, RepAV X (st.tmps t) v → RepAV X (J.tmps t) v
  objs : ∀ o, (J.objs o = none ∧ st.objs o = none) ∨ ∃ x x', st.objs o = some x ∧ J.objs o = some x' ∧ ObjWeak x x'

theorem Rel.covers {J : St} (h : Rel w0 M T γ st a w) (hc : Covers J st) : Rel w0 M T γ J a w := by
  have key : ∀ o x', J.objs o = some x' → ∃ x, st.objs o = some x ∧ ObjWeak x x' := by
    intro o x' hx'
    rcases hc.objs o with ⟨e, _⟩ | ⟨x, y, hx, hy, hw⟩
    · rw [e] at hx'; cases hx'
    · rw [hy] at hx'; cases hx'; exact ⟨x, hx, hw⟩
  have yek : ∀ o x, st.objs o = some x → ∃ x', J.objs o = some x' ∧ ObjWeak x x' := by
    intro o x hx
    rcases hc.objs o with ⟨_, e⟩ | ⟨y, x', hy, hx', hw⟩
    · rw [e] at hx; cases hx
    · rw [hy] at hx; cases hx; exact ⟨x', hx', hw⟩
  have hle : (viewOf w0 T γ st w).le (viewOf w0 T γ J w) := by
    refine ⟨Nat.le_refl _, fun b hb => ⟨⟨hb.1, hb.2.1, fun o x hx => ?_⟩, rfl⟩, fun o cs hx => ⟨?_, rfl⟩, fun o e r l fr hx => ⟨?_, rfl⟩⟩
    · obtain ⟨y, hy, _⟩ := key o x hx
      exact hb.2.2 o y hy
    · obtain ⟨x', hx', hw⟩ := yek o _ hx
      rcases hw with ⟨cs1, cs2, e1, e2, _⟩ | ⟨e, r, l, fr, e1, e2⟩
      · exact ⟨cs2, hx'.trans (by rw [e2])⟩
      · cases e1
    · obtain ⟨x', hx', hw⟩ := yek o _ hx
      rcases hw with ⟨cs1, cs2, e1, e2, _⟩ | ⟨e, r, l, fr, e1, e2⟩
      · cases e1
      · cases e1; exact ⟨l, fr, hx'.trans (by rw [e2])⟩
  refine ⟨h.mT, h.defers, h.size.trans hc.n.symm, h.os, h.tape, h.output, h.grow, h.kept, fun t => hc.tmps t _ _ (RepAV.mono hle _ _ (h.tmps t)), fun o x' hx' => ?_, fun o x' b hx' hb => ?_, fun o x' p y' b hx' hy' hop hb => ?_⟩
  · obtain ⟨x, hx, hw⟩ := key o x' hx'
    have ho := h.objs o x hx
    rcases hw with ⟨cs1, cs2, e1, e2, hcs⟩ | ⟨e, r, l, fr, e1, e2⟩
    · subst e1 e2
      obtain ⟨b, arr, t, g1, g2, g3⟩ := ho
      exact ⟨b, arr, t, g1, g2, hcs _ _ (RepCells.mono hle _ _ g3)⟩
    · subst e1 e2
      obtain ⟨xs, g1, g2, g3, g4⟩ := ho
      exact ⟨xs, g1, g2, g3, fun i x hi => RepR.mono (fun b hb => hle.footF fr b hb) r _ x (g4 i x hi)⟩
  · obtain ⟨x, hx, _⟩ := key o x' hx'
    exact h.lt o x b hx hb
  · obtain ⟨x, hx, _⟩ := key o x' hx'
    obtain ⟨y, hy, _⟩ := key p y' hy'
    exact h.sep o x p y b hx hy hop hb

/-- The shape of a part of a state. -/
structure Shape where
  tmps : List (Nat × ASh)
  objs : List (Nat × OSh)
@[reducible] def tmDen : List (Nat × ASh) → Type
  | [] => Unit
  | x :: r => x.2.den × tmDen r
@[reducible] def obDen : List (Nat × OSh) → Type
  | [] => Unit
  | x :: r => x.2.den × obDen r
@[reducible] def Shape.den (s : Shape) : Type := tmDen s.tmps × obDen s.objs
def tmFill : (l : List (Nat × ASh)) → tmDen l → (Nat → AV) → Nat → AV
  | [], _, f => f
  | s :: r, x, f => fun i => match Nat.beq i s.1 with | true => s.2.val x.1 | false => tmFill r x.2 f i
def obFill : (l : List (Nat × OSh)) → obDen l → (Nat → Option AObj) → Nat → Option AObj
  | [], _, f => f
  | s :: r, x, f => fun i => match Nat.beq i s.1 with | true => some (s.2.obj x.1) | false => obFill r x.2 f i
def tmRead (st : St) : (l : List (Nat × ASh)) → Option (tmDen l)
  | [] => some ()
  | s :: r => match s.2.read (st.tmps s.1), tmRead st r with
    | some a, some b => some (a, b)
    | _, _ => none
def obRead (st : St) : (l : List (Nat × OSh)) → Option (obDen l)
  | [] => some ()
  | s :: r => match st.objs s.1, obRead st r with
    | some x, some b => match s.2.read x with
      | some a => some (a, b)
      | none => none
    | _, _ => none
def memNum : List Nat → Nat → Bool
  | [], _ => false
  | x :: r, o => match Nat.beq o x with | true => true | false => memNum r o
def names : List (Nat × OSh) → List Nat
  | [] => []
  | x :: r => x.1 :: names r

/-- The state of which only the shapes c and v are known. -/
def joint (n : Nat) (c v : Shape) (x : c.den) (y : v.den) : St :=
  { n := n, tmps := tmFill c.tmps x.1 (tmFill v.tmps y.1 (fun _ => .undef)), objs := obFill c.objs x.2 (obFill v.objs y.2 (fun _ => none)) }
/-- The state without what is not named by the shapes. -/
def only (c v : Shape) (st : St) : St := st.kill fun o => !(memNum (names c.objs) o || memNum (names v.objs) o)
def Shape.read (s : Shape) (st : St) : Option s.den :=
  match tmRead st s.tmps, obRead st s.objs with
  | some a, some b => some (a, b)
  | _, _ => none

theorem tmFill_weak {X : V} (t : Nat) (u : Value) (hu : RepAV X (st.tmps t) u) : ∀ (l : List (Nat × ASh)) (x : tmDen l) (f : Nat → AV), tmRead st l = some x → RepAV X (f t) u → RepAV X (tmFill l x f t) u
  | [], _, _, _, hf => hf
  | s :: r, x, f, hr, hf => by
    rw [tmRead] at hr
    split at hr
    · next a b h1 h2 =>
      cases hr
      simp only [tmFill]
      cases hb : Nat.beq t s.1 with
      | true =>
        rw [Nat.eq_of_beq_eq_true hb] at hu
        exact ASh.weak s.2 _ a u h1 hu
      | false => exact tmFill_weak t u hu r b f h2 hf
    · cases hr
theorem obFill_weak (o : Nat) : ∀ (l : List (Nat × OSh)) (x : obDen l) (f : Nat → Option AObj), obRead st l = some x →
    (f o = none ∨ ∃ y y', st.objs o = some y ∧ f o = some y' ∧ ObjWeak y y') →
    ((obFill l x f o = none ∧ memNum (names l) o = false ∧ f o = none) ∨ ∃ y y', st.objs o = some y ∧ obFill l x f o = some y' ∧ ObjWeak y y')
  | [], _, f, _, hf => by
    rcases hf with e | h
    · exact .inl ⟨e, rfl, e⟩
    · exact .inr h
  | s :: r, x, f, hr, hf => by
    rw [obRead] at hr
    split at hr
    · next y b h1 h2 =>
      split at hr
      · next a h3 =>
        cases hr
        simp only [obFill, names, memNum]
        cases hb : Nat.beq o s.1 with
        | true =>
          rw [Nat.eq_of_beq_eq_true hb]
          exact .inr ⟨y, _, h1, rfl, OSh.weak s.2 y a h3⟩
        | false => exact obFill_weak o r b f h2 hf
      · cases hr
    · cases hr

theorem joint_covers {c v : Shape} {x : c.den} {y : v.den} (hc : c.read (only c v st) = some x) (hv : v.read (only c v st) = some y) : Covers (joint st.n c v x y) (only c v st) := by
  unfold Shape.read at hc hv
  split at hc
  · next a b h1 h2 =>
    cases hc
    split at hv
    · next a' b' h3 h4 =>
      cases hv
      refine ⟨rfl, fun t X u hu => tmFill_weak t u hu _ _ _ h1 (tmFill_weak t u hu _ _ _ h3 trivial), fun o => ?_⟩
      rcases obFill_weak o v.objs b' (fun _ => none) h4 (.inl rfl) with ⟨e1, e2, _⟩ | h
      · rcases obFill_weak o c.objs b (obFill v.objs b' (fun _ => none)) h2 (.inl e1) with ⟨g1, g2, _⟩ | h
        · refine .inl ⟨g1, ?_⟩
          simp [only, St.kill, e2, g2]
        · exact .inr h
      · rcases obFill_weak o c.objs b (obFill v.objs b' (fun _ => none)) h2 (.inr h) with ⟨g1, g2, g3⟩ | h'
        · obtain ⟨y, y', _, h5, _⟩ := h
          rw [h5] at g3; cases g3
        · exact .inr h'
    · cases hv
  · cases hc

theorem Rel.joint (h : Rel w0 M T γ st a w) {c v : Shape} {x : c.den} {y : v.den} (hc : c.read (only c v st) = some x) (hv : v.read (only c v st) = some y) :
    Rel w0 M T γ (joint st.n c v x y) a w := (h.kill _).covers (joint_covers hc hv)

/-- A slot that holds no memory becomes an array of the call's own. -/
def adopt (st : St) (t o : Nat) (e : TypeId) (r : CTs) (fr : Bool) : Option St :=
  match st.tmps t, st.objs o, Nat.ble 1 r.len with
  | .sv (.one .nil), none, true => some ((st.add o (.arr e r [] fr)).set t (.sv (.one (.ref o))))
  | _, _, _ => none
def adopts (st : St) : List (Nat × Nat × TypeId × CTs × Bool) → Option St
  | [] => some st
  | (t, o, e, r, fr) :: l => match adopt st t o e r fr with
    | some s => adopts s l
    | none => none

theorem Rel.adopt (h : Rel w0 M T γ st a w) {t o : Nat} {e : TypeId} {r : CTs} {fr : Bool} {s : St} (ha : Fw.adopt st t o e r fr = some s) : ∃ γ', Rel w0 M T γ' s a w := by
  unfold Fw.adopt at ha
  split at ha
  · next ht ho hr =>
    cases ha
    have hg := h.grown (γ' := upd γ o (.slice none 0 0)) (w' := w) (st.add o (.arr e r [] fr)).objs
      (fun p x hp => by rw [add_other _ _ (by rintro rfl; rw [ho] at hp; cases hp)]; exact hp)
      (fun p x hp => by rw [upd_other]; rintro rfl; rw [ho] at hp; cases hp)
      rfl rfl rfl (Nat.le_refl _) (fun _ _ => rfl)
      (fun p x hp hn => by
        by_cases e' : p = o
        · subst e'
          rw [add_same] at hp
          cases hp
          refine ⟨⟨[], ⟨by simp, .inl ⟨upd_same _ _ _, rfl⟩⟩, Nat.lt_of_lt_of_le Nat.zero_lt_one (by simpa [Nat.ble_eq] using hr), (fun b hb => by have hb' : blk (upd γ p (.slice none 0 0) p) = some b := hb; rw [upd_same] at hb'; cases hb'), fun i x hi => by simp at hi⟩, fun b hb => by rw [upd_same] at hb; cases hb⟩
        · rw [add_other _ _ e'] at hp; rw [hp] at hn; cases hn)
      (fun p x q y b hp hpn hq hqn hpq hb => by
        by_cases e' : p = o
        · subst e'; rw [upd_same] at hb; cases hb
        · rw [add_other _ _ e'] at hp; rw [hp] at hpn; cases hpn)
    refine ⟨upd γ o (.slice none 0 0), ?_⟩
    obtain ⟨hR, hle⟩ := hg
    refine ⟨hR.mT, hR.defers, hR.size, hR.os, hR.tape, hR.output, hR.grow, hR.kept, fun t' => ?_, hR.objs, hR.lt, hR.sep⟩
    by_cases e' : t' = t
    · subst e'
      have hv := h.tmps t'
      rw [ht] at hv
      have hv' : a.tmps.getD t' undef = .slice none 0 0 := hv
      simp only [St.set, Nat.beq_refl]
      rw [hv']
      exact ⟨⟨e, r, [], fr, add_same _ _ _⟩, (upd_same _ _ _).symm, rfl⟩
    · have hb : Nat.beq t' t = false := by cases hb : Nat.beq t' t; rfl; exact (e' (Nat.eq_of_beq_eq_true hb)).elim
      simp only [St.set, hb]
      exact hR.tmps t'
  · cases ha
theorem Rel.adopts : ∀ (l : List (Nat × Nat × TypeId × CTs × Bool)) {γ : Nat → Value} {st s : St} (_ : Rel w0 M T γ st a w) (_ : Fw.adopts st l = some s), ∃ γ', Rel w0 M T γ' s a w
  | [], γ, st, s, h, ha => by cases ha; exact ⟨γ, h⟩
  | (t, o, e, r, fr) :: l, γ, st, s, h, ha => by
    rw [Fw.adopts] at ha
    split at ha
    · next s1 h1 =>
      obtain ⟨γ1, hR⟩ := h.adopt h1
      exact Rel.adopts l hR ha
    · cases ha
end Go.Fw
/- Regions whose order is drawn: quiet operations in any order, then the others in the order of their text. -/
namespace Go.Fw
open Go

variable {P : Program} {w0 : World} {M T : Nat → Prop} {γ γ' : Nat → Value} {st : St} {a : Act} {w w' : World} {Θ : TEnv} {Γ : CEnv}

/-- What one operation of the region has left: its slot, its value, its objects. -/
structure Res where
  d : Nat
  v : AV
  δ : List (Nat × AObj)

def edgeMask (acc : List Nat) : List Edge → Nat
  | [] => 0
  | e :: r => match Region.binds .any e with
    | true => (2 ^ e.on ||| acc.getD e.on 0) ||| edgeMask acc r
    | false => edgeMask acc r
/-- For each operation all that come before it in every order, as bits. -/
def masks : List Oper → List Nat → List Nat
  | [], acc => acc
  | o :: r, acc => masks r (acc ++ [edgeMask acc o.after.toList])

def lookT : List Res → Nat → (Nat → Bool) → Nat → AV → AV
  | [], _, _, _, b => b
  | x :: r, j, m, t, b => match Nat.beq t x.d with
    | true => match m j with | true => x.v | false => .undef
    | false => lookT r (j + 1) m t b
def lookO : List Res → Nat → (Nat → Bool) → Nat → Option AObj → Option AObj
  | [], _, _, _, b => b
  | x :: r, j, m, o, b => match Nat.beq (o / 64) x.d with
    | true => match m j with | true => look x.δ o | false => none
    | false => lookO r (j + 1) m o b
/-- The state when of the path just the operations of m are done. -/
def after (base : St) (path : List Res) (m : Nat → Bool) : St :=
  { n := base.n, tmps := fun t => lookT path 0 m t (base.tmps t), objs := fun o => lookO path 0 m o (base.objs o) }

def dstsOf : List Oper → List Nat
  | [] => []
  | o :: r => match o.dst with | some d => d :: dstsOf r | none => dstsOf r
def nodup : List Nat → Bool
  | [] => true
  | x :: r => !(memNum r x) && nodup r
/-- The state before the region, without what the region is to lay. -/
def baseOf (D : List Nat) (st : St) : St :=
  let s := st.kill fun o => memNum D (o / 64)
  { s with tmps := fun t => match memNum D t with | true => .undef | false => s.tmps t }

def namesOK (d : Nat) (δ : List (Nat × AObj)) : Bool := δ.all fun x => Nat.beq (x.1 / 64) d

def stepAny (Θ : TEnv) (Γ : CEnv) (base : St) (m : Nat) (o : Oper) (d : Nat) (acc : List Res) (K : List Res → Prop) : Prop :=
  match calm Θ Γ d (after base acc m.testBit) o.op with
  | some (p, v, δ) => match namesOK d δ, quiet (after base acc m.testBit) o.op with
    | true, true => K (acc ++ [⟨d, v, δ⟩])
    | true, false => p ∧ K (acc ++ [⟨d, v, δ⟩])
    | false, _ => False
  | none => False

/-- The value that decides a guard is known from now on. -/
def fix (g : Nat) (b : Bool) (acc : List Res) : List Res :=
  match acc[g]? with
  | some x => acc.set g { x with v := .sv (.one (.bool b)) }
  | none => acc

def anyRuns (Θ : TEnv) (Γ : CEnv) (base : St) (ms : List Nat) (K : List Res → Prop) : Nat → List Oper → List Res → Prop
  | _, [], acc => K acc
  | i, o :: r, acc => match o.dst, Nat.blt (ms.getD i 0) (2 ^ i) with
    | some d, true => match o.guard with
      | none => stepAny Θ Γ base (ms.getD i 0) o d acc (anyRuns Θ Γ base ms K (i + 1) r)
      | some (g, b) => match (ms.getD i 0).testBit g, acc[g]? with
        | true, some x => match x.v with
          | .sv (.one (.bool c)) => cond c
            (match b with
              | true => stepAny Θ Γ base (ms.getD i 0) o d (fix g true acc) (anyRuns Θ Γ base ms K (i + 1) r)
              | false => anyRuns Θ Γ base ms K (i + 1) r (fix g true acc ++ [⟨d, .undef, []⟩]))
            (match b with
              | false => stepAny Θ Γ base (ms.getD i 0) o d (fix g false acc) (anyRuns Θ Γ base ms K (i + 1) r)
              | true => anyRuns Θ Γ base ms K (i + 1) r (fix g false acc ++ [⟨d, .undef, []⟩]))
          | _ => False
        | _, _ => False
    | _, _ => False

/-- What is known of one operation of a path. -/
def ResOK (Θ : TEnv) (Γ : CEnv) (base : St) (ms : List Nat) (path : List Res) (i : Nat) (o : Oper) (x : Res) : Prop :=
  o.dst = some x.d ∧ (ms.getD i 0) < 2 ^ i ∧
  (((o.guard = none ∨ ∃ g b y, o.guard = some (g, b) ∧ (ms.getD i 0).testBit g = true ∧ path[g]? = some y ∧ y.v = .sv (.one (.bool b))) ∧
      (∃ p, calm Θ Γ x.d (after base path (ms.getD i 0).testBit) o.op = some (p, x.v, x.δ) ∧ p) ∧ namesOK x.d x.δ = true) ∨
   ((∃ g b y c, o.guard = some (g, b) ∧ (ms.getD i 0).testBit g = true ∧ path[g]? = some y ∧ y.v = .sv (.one (.bool c)) ∧ c ≠ b) ∧ x.v = .undef ∧ x.δ = []))

theorem fix_self {g : Nat} {b : Bool} {acc : List Res} {x : Res} (h : acc[g]? = some x) (hv : x.v = .sv (.one (.bool b))) : fix g b acc = acc := by
  unfold fix
  rw [h]
  have : ({ x with v := .sv (.one (.bool b)) } : Res) = x := by cases x; simp at hv; rw [hv]
  simp only [this]
  obtain ⟨hlt, he⟩ := List.getElem?_eq_some_iff.1 h
  rw [← he]
  exact List.set_getElem_self hlt

theorem lookT_append (r : List Res) (m : Nat → Bool) (t : Nat) (b : AV) (hb : b = .undef ∨ ∀ x ∈ r, x.d ≠ t) : ∀ (l : List Res) (j : Nat), (∀ i, j + l.length ≤ i → m i = false) → lookT (l ++ r) j m t b = lookT l j m t b := by
  have base : ∀ (r : List Res) (j : Nat), (b = .undef ∨ ∀ x ∈ r, x.d ≠ t) → (∀ i, j ≤ i → m i = false) → lookT r j m t b = b := by
    intro r
    induction r with
    | nil => intros; rfl
    | cons x r ih =>
      intro j hb hm
      rw [lookT]
      cases he : Nat.beq t x.d with
      | true =>
        simp only [hm j (Nat.le_refl _)]
        rcases hb with rfl | hb
        · rfl
        · exact (hb x List.mem_cons_self (Nat.eq_of_beq_eq_true he).symm).elim
      | false => exact ih (j + 1) (hb.imp id fun h y hy => h y (List.mem_cons_of_mem _ hy)) fun i hi => hm i (by omega)
  intro l
  induction l with
  | nil => intro j hm; exact base r j hb (fun i hi => hm i (by simpa using hi))
  | cons x l ih =>
    intro j hm
    rw [List.cons_append, lookT, lookT]
    cases Nat.beq t x.d with
    | true => rfl
    | false => exact ih (j + 1) fun i hi => hm i (by simp only [List.length_cons]; omega)
theorem lookO_append (r : List Res) (m : Nat → Bool) (t : Nat) (b : Option AObj) (hb : b = none ∨ ∀ x ∈ r, x.d ≠ t / 64) : ∀ (l : List Res) (j : Nat), (∀ i, j + l.length ≤ i → m i = false) → lookO (l ++ r) j m t b = lookO l j m t b := by
  have base : ∀ (r : List Res) (j : Nat), (b = none ∨ ∀ x ∈ r, x.d ≠ t / 64) → (∀ i, j ≤ i → m i = false) → lookO r j m t b = b := by
    intro r
    induction r with
    | nil => intros; rfl
    | cons x r ih =>
      intro j hb hm
      rw [lookO]
      cases he : Nat.beq (t / 64) x.d with
      | true =>
        simp only [hm j (Nat.le_refl _)]
        rcases hb with rfl | hb
        · rfl
        · exact (hb x List.mem_cons_self (Nat.eq_of_beq_eq_true he).symm).elim
      | false => exact ih (j + 1) (hb.imp id fun h y hy => h y (List.mem_cons_of_mem _ hy)) fun i hi => hm i (by omega)
  intro l
  induction l with
  | nil => intro j hm; exact base r j hb (fun i hi => hm i (by simpa using hi))
  | cons x l ih =>
    intro j hm
    rw [List.cons_append, lookO, lookO]
    cases Nat.beq (t / 64) x.d with
    | true => rfl
    | false => exact ih (j + 1) fun i hi => hm i (by simp only [List.length_cons]; omega)

/-- Later results do not matter to an operation's view. -/
theorem after_append {D : List Nat} (l r : List Res) (m : Nat → Bool) (hr : ∀ x ∈ r, memNum D x.d = true) (hm : ∀ i, l.length ≤ i → m i = false) :
    after (baseOf D st) (l ++ r) m = after (baseOf D st) l m := by
  unfold after
  congr 1
  · funext t
    refine lookT_append r m t _ ?_ l 0 (fun i hi => hm i (by omega))
    cases hd : memNum D t with
    | true => exact .inl (by simp [baseOf, hd])
    | false => exact .inr fun x hx e => by rw [← e, hr x hx] at hd; cases hd
  · funext o
    refine lookO_append r m o _ ?_ l 0 (fun i hi => hm i (by omega))
    cases hd : memNum D (o / 64) with
    | true => exact .inl (by simp [baseOf, St.kill, hd])
    | false => exact .inr fun x hx e => by rw [← e, hr x hx] at hd; cases hd

theorem testBit_out {m i j : Nat} (h : m < 2 ^ i) (hj : i ≤ j) : m.testBit j = false :=
  Nat.testBit_lt_two_pow (Nat.lt_of_lt_of_le h (Nat.pow_le_pow_right (by decide) hj))

theorem memNum_iff {l : List Nat} {x : Nat} : memNum l x = true ↔ x ∈ l := by
  induction l with
  | nil => simp [memNum]
  | cons y l ih =>
    rw [memNum, List.mem_cons]
    cases hb : Nat.beq x y with
    | true => simp [Nat.eq_of_beq_eq_true hb]
    | false =>
      simp only [ih]
      constructor
      · exact .inr
      · rintro (rfl | h)
        · simp at hb
        · exact h

theorem dstsOf_mem {l : List Oper} {o : Oper} {d : Nat} (ho : o ∈ l) (hd : o.dst = some d) : d ∈ dstsOf l := by
  induction l with
  | nil => cases ho
  | cons x l ih =>
    rw [dstsOf]
    rcases List.mem_cons.1 ho with rfl | h
    · rw [hd]; exact List.mem_cons_self
    · cases x.dst with
      | none => exact ih h
      | some e => exact List.mem_cons_of_mem _ (ih h)

def HasPath (Θ : TEnv) (Γ : CEnv) (st : St) (D : List Nat) (ms : List Nat) (K : List Res → Prop) (ops : List Oper) : Prop :=
  ∃ path : List Res, path.length = ops.length ∧ (∀ x ∈ path, memNum D x.d = true) ∧ K path ∧ ∀ i o x, ops[i]? = some o → path[i]? = some x → ResOK Θ Γ (baseOf D st) ms path i o x

/-- From the walk over the quiet operations to one path of them. -/
theorem anyRuns_path {D : List Nat} {ms : List Nat} {K : List Res → Prop} : ∀ (rest : List Oper) (pre : List Oper) (acc : List Res), acc.length = pre.length →
    (∀ x ∈ acc, memNum D x.d = true) → (∀ o ∈ rest, ∀ d, o.dst = some d → memNum D d = true) →
    (∀ i o x, pre[i]? = some o → acc[i]? = some x → ResOK Θ Γ (baseOf D st) ms acc i o x) →
    anyRuns Θ Γ (baseOf D st) ms K pre.length rest acc →
    HasPath Θ Γ st D ms K (pre ++ rest)
  | [], pre, acc, hl, hD, _, hok, hr => ⟨acc, by simpa using hl, hD, hr, by simpa using hok⟩
  | o :: rest, pre, acc, hl, hD, hD', hok, hr => by
    rw [anyRuns] at hr
    split at hr
    case h_2 => exact hr.elim
    next d hd hm =>
    have hm' : ms.getD pre.length 0 < 2 ^ pre.length := by simpa [Nat.blt_eq] using hm
    have hdD : memNum D d = true := hD' o List.mem_cons_self d hd
    -- one more result
    have more : ∀ x : Res, x.d = d → ResOK Θ Γ (baseOf D st) ms (acc ++ [x]) pre.length o x → anyRuns Θ Γ (baseOf D st) ms K (pre.length + 1) rest (acc ++ [x]) →
        HasPath Θ Γ st D ms K (pre ++ o :: rest) := by
      intro x hx hxok hrun
      have hD2 : ∀ y ∈ acc ++ [x], memNum D y.d = true := by
        intro y hy
        rcases List.mem_append.1 hy with h | h
        · exact hD y h
        · rw [List.mem_singleton.1 h, hx]; exact hdD
      have := anyRuns_path rest (pre ++ [o]) (acc ++ [x]) (by simp [hl]) hD2 (fun o' ho' => hD' o' (List.mem_cons_of_mem _ ho')) ?_ (by simpa using hrun)
      · simpa using this
      · intro i o' y hi hy
        rcases Nat.lt_or_ge i pre.length with hlt | hge
        · rw [List.getElem?_append_left hlt] at hi
          have hlt2 : i < acc.length := by omega
          rw [List.getElem?_append_left hlt2] at hy
          obtain ⟨h1, h2, h3⟩ := hok i o' y hi hy
          have hview : after (baseOf D st) (acc ++ [x]) (ms.getD i 0).testBit = after (baseOf D st) acc (ms.getD i 0).testBit :=
            after_append acc [x] _ (fun z hz => by rw [List.mem_singleton.1 hz, hx]; exact hdD) fun j hj => testBit_out h2 (by omega)
          have hget : ∀ g y', (ms.getD i 0).testBit g = true → acc[g]? = some y' → (acc ++ [x])[g]? = some y' := by
            intro g y' _ hy'
            obtain ⟨hlt3, _⟩ := List.getElem?_eq_some_iff.1 hy'
            rw [List.getElem?_append_left hlt3]; exact hy'
          refine ⟨h1, h2, ?_⟩
          rcases h3 with ⟨hg, hc, hn⟩ | ⟨⟨g, b, z, c, e1, e2, e3, e4⟩, e5⟩
          · refine .inl ⟨?_, by rw [hview]; exact hc, hn⟩
            rcases hg with e | ⟨g, b, z, e1, e2, e3, e4⟩
            · exact .inl e
            · exact .inr ⟨g, b, z, e1, e2, hget g z e2 e3, e4⟩
          · exact .inr ⟨⟨g, b, z, c, e1, e2, hget g z e2 e3, e4⟩, e5⟩
        · have hi0 : i = pre.length := by
            rcases Nat.lt_or_ge pre.length i with h | h
            · rw [List.getElem?_eq_none (by simp; omega)] at hi; cases hi
            · omega
          subst hi0
          have e1 : o' = o := by simpa using hi.symm
          have e2 : y = x := by rw [← hl] at hy; simpa using hy.symm
          rw [e1, e2]
          exact hxok
    have hview : ∀ x : Res, x.d = d → after (baseOf D st) (acc ++ [x]) (ms.getD pre.length 0).testBit = after (baseOf D st) acc (ms.getD pre.length 0).testBit := fun x hx =>
      after_append acc [x] _ (fun z hz => by rw [List.mem_singleton.1 hz, hx]; exact hdD) fun j hj => testBit_out hm' (by omega)
    have step : (o.guard = none ∨ ∃ g b y, o.guard = some (g, b) ∧ (ms.getD pre.length 0).testBit g = true ∧ acc[g]? = some y ∧ y.v = .sv (.one (.bool b))) →
        stepAny Θ Γ (baseOf D st) (ms.getD pre.length 0) o d acc (anyRuns Θ Γ (baseOf D st) ms K (pre.length + 1) rest) →
        HasPath Θ Γ st D ms K (pre ++ o :: rest) := by
      intro hg hs
      unfold stepAny at hs
      have fin : ∀ (p : Prop) (v : AV) (δ : List (Nat × AObj)), calm Θ Γ d (after (baseOf D st) acc (ms.getD pre.length 0).testBit) o.op = some (p, v, δ) → namesOK d δ = true → p → anyRuns Θ Γ (baseOf D st) ms K (pre.length + 1) rest (acc ++ [⟨d, v, δ⟩]) → HasPath Θ Γ st D ms K (pre ++ o :: rest) := by
        intro p v δ hc hn hp hrun
        refine more ⟨d, v, δ⟩ rfl ⟨hd, hm', .inl ⟨?_, ⟨p, by rw [hview _ rfl]; exact hc, hp⟩, hn⟩⟩ hrun
        rcases hg with e | ⟨g, b, z, e1, e2, e3, e4⟩
        · exact .inl e
        · refine .inr ⟨g, b, z, e1, e2, ?_, e4⟩
          obtain ⟨hlt3, _⟩ := List.getElem?_eq_some_iff.1 e3
          rw [List.getElem?_append_left hlt3]; exact e3
      cases hc : calm Θ Γ d (after (baseOf D st) acc (ms.getD pre.length 0).testBit) o.op with
      | none => rw [hc] at hs; exact hs.elim
      | some res =>
        obtain ⟨p, v, δ⟩ := res
        rw [hc] at hs
        cases hn : namesOK d δ with
        | false => simp only [hn] at hs
        | true =>
          cases hq : quiet (after (baseOf D st) acc (ms.getD pre.length 0).testBit) o.op with
          | true => simp only [hn, hq] at hs; exact fin p v δ hc hn (calm_quiet hc hq) hs
          | false => simp only [hn, hq] at hs; exact fin p v δ hc hn hs.1 hs.2
    split at hr
    · next hg => exact step (.inl hg) hr
    · next g b hg =>
      split at hr
      · next x hbit hx =>
        split at hr
        · next c hc =>
          have skip : c ≠ b → anyRuns Θ Γ (baseOf D st) ms K (pre.length + 1) rest (acc ++ [⟨d, .undef, []⟩]) → HasPath Θ Γ st D ms K (pre ++ o :: rest) := fun hne hrun =>
            more ⟨d, .undef, []⟩ rfl ⟨hd, hm', .inr ⟨⟨g, b, x, c, hg, hbit, by
              obtain ⟨hlt3, _⟩ := List.getElem?_eq_some_iff.1 hx
              rw [List.getElem?_append_left hlt3]; exact hx, hc, hne⟩, rfl, rfl⟩⟩ hrun
          cases c
          · simp only [cond_false, fix_self hx hc] at hr
            cases b
            · exact step (.inr ⟨g, false, x, hg, hbit, hx, hc⟩) hr
            · exact skip (by simp) hr
          · simp only [cond_true, fix_self hx hc] at hr
            cases b
            · exact skip (by simp) hr
            · exact step (.inr ⟨g, true, x, hg, hbit, hx, hc⟩) hr
        · exact hr.elim
      · exact hr.elim
end Go.Fw
/- Quiet operations in any order. -/
namespace Go.Fw
open Go

variable {P : Program} {w0 : World} {M T : Nat → Prop} {γ γ' : Nat → Value} {st : St} {a : Act} {w w' : World} {Θ : TEnv} {Γ : CEnv}

theorem edgeMask_spec (acc : List Nat) (j : Nat) : ∀ (es : List Edge), (edgeMask acc es).testBit j = true ↔ ∃ e ∈ es, Region.binds .any e = true ∧ (e.on = j ∨ (acc.getD e.on 0).testBit j = true)
  | [] => by simp [edgeMask]
  | e :: r => by
    rw [edgeMask]
    cases hb : Region.binds .any e with
    | false =>
      simp only [edgeMask_spec acc j r, List.mem_cons]
      constructor
      · rintro ⟨e', h1, h2⟩; exact ⟨e', .inr h1, h2⟩
      · rintro ⟨e', rfl | h1, h2⟩
        · rw [hb] at h2; cases h2.1
        · exact ⟨e', h1, h2⟩
    | true =>
      simp only [Nat.testBit_or, Bool.or_eq_true, edgeMask_spec acc j r, List.mem_cons, Nat.testBit_two_pow, decide_eq_true_eq]
      constructor
      · rintro ((h | h) | ⟨e', h1, h2⟩)
        · exact ⟨e, .inl rfl, hb, .inl h⟩
        · exact ⟨e, .inl rfl, hb, .inr h⟩
        · exact ⟨e', .inr h1, h2⟩
      · rintro ⟨e', rfl | h1, h2⟩
        · exact .inl h2.2
        · exact .inr ⟨e', h1, h2⟩

theorem masks_getD : ∀ (l : List Oper) (acc : List Nat) (i : Nat), i < acc.length → (masks l acc).getD i 0 = acc.getD i 0
  | [], _, _, _ => rfl
  | o :: r, acc, i, h => by
    rw [masks, masks_getD r _ i (by simp; omega)]
    simp [List.getD_eq_getElem?_getD, List.getElem?_append_left h]
theorem masks_spec : ∀ (l : List Oper) (acc : List Nat) (i : Nat) (o : Oper), l[i]? = some o → ∃ acc', (masks l acc).getD (acc.length + i) 0 = edgeMask acc' o.after.toList ∧
    (∀ j, j < acc'.length → (masks l acc).getD j 0 = acc'.getD j 0)
  | [], _, _, _, h => by simp at h
  | o :: r, acc, 0, o', h => by
    simp at h; subst h
    refine ⟨acc, ?_, fun j hj => ?_⟩
    · rw [masks, masks_getD r _ _ (by simp)]
      simp [List.getD_eq_getElem?_getD]
    · rw [masks, masks_getD r _ _ (by simp; omega)]
      simp [List.getD_eq_getElem?_getD, List.getElem?_append_left hj]
  | o :: r, acc, i + 1, o', h => by
    obtain ⟨acc', h1, h2⟩ := masks_spec r (acc ++ [edgeMask acc o.after.toList]) i o' (by simpa using h)
    refine ⟨acc', ?_, ?_⟩
    · rw [masks, ← h1]; simp only [List.length_append, List.length_singleton]; congr 1; omega
    · rw [masks]; exact h2

theorem mask_edge {ops : List Oper} {i : Nat} {o : Oper} (ho : ops[i]? = some o) {e : Edge} (he : e ∈ o.after) (hb : Region.binds .any e = true) : ((masks ops []).getD i 0).testBit e.on = true := by
  obtain ⟨acc', h1, _⟩ := masks_spec ops [] i o ho
  simp only [List.length_nil, Nat.zero_add] at h1
  rw [h1, edgeMask_spec]
  exact ⟨e, by simpa using he, hb, .inl rfl⟩
theorem mask_back {ops : List Oper} {i : Nat} {o : Oper} (ho : ops[i]? = some o) {j : Nat} (hj : ((masks ops []).getD i 0).testBit j = true) :
    ∃ e ∈ o.after, Region.binds .any e = true ∧ (e.on = j ∨ ((masks ops []).getD e.on 0).testBit j = true) := by
  obtain ⟨acc', h1, h2⟩ := masks_spec ops [] i o ho
  simp only [List.length_nil, Nat.zero_add] at h1
  rw [h1, edgeMask_spec] at hj
  obtain ⟨e, he, hb, hj⟩ := hj
  refine ⟨e, by simpa using he, hb, hj.imp id fun h => ?_⟩
  rcases Nat.lt_or_ge e.on acc'.length with hlt | hge
  · rw [h2 _ hlt]; exact h
  · rw [List.getD_eq_getElem?_getD, List.getElem?_eq_none hge] at h; simp at h

def unl (L : Nat → Bool) : Nat → Nat
  | 0 => 0
  | n + 1 => (match L n with | true => 0 | false => 1) + unl L n
theorem unl_congr {L L' : Nat → Bool} : ∀ (n : Nat), (∀ i, i < n → L i = L' i) → unl L n = unl L' n
  | 0, _ => rfl
  | n + 1, h => by rw [unl, unl, h n (by omega), unl_congr n fun i hi => h i (by omega)]
theorem unl_set {L L' : Nat → Bool} {i : Nat} (hi : L i = false) (hi' : L' i = true) (h : ∀ j, j ≠ i → L' j = L j) : ∀ (n : Nat), i < n → unl L' n + 1 = unl L n
  | 0, hn => by omega
  | n + 1, hn => by
    rw [unl, unl]
    by_cases e : n = i
    · subst e
      rw [hi, hi', unl_congr (L := L') (L' := L) n fun j hj => h j (by omega)]
      simp only; omega
    · have := unl_set hi hi' h n (by omega)
      rw [h n e]; omega
theorem unl_zero {L : Nat → Bool} : ∀ (n : Nat), unl L n = 0 → ∀ i, i < n → L i = true
  | 0, _, i, hi => by omega
  | n + 1, h, i, hi => by
    rw [unl] at h
    cases hl : L n with
    | false => simp only [hl] at h; omega
    | true =>
      by_cases e : i = n
      · rw [e]; exact hl
      · exact unl_zero n (by simp only [hl] at h; omega) i (by omega)

theorem least {p : Nat → Prop} [DecidablePred p] : ∀ (n : Nat), (∃ i, i < n ∧ p i) → ∃ i, i < n ∧ p i ∧ ∀ j, j < i → ¬ p j := by
  intro n
  induction n using Nat.strongRecOn with
  | _ n ih =>
    rintro ⟨i, hi, hp⟩
    by_cases h : ∃ j, j < i ∧ p j
    · obtain ⟨j, hj, h1, h2⟩ := ih i hi h
      exact ⟨j, by omega, h1, h2⟩
    · exact ⟨i, hi, hp, fun j hj hpj => h ⟨j, hj, hpj⟩⟩

theorem lookT_sub {m L : Nat → Bool} (t : Nat) (b : AV) : ∀ (l : List Res) (j : Nat), (∀ i, m i = true → L i = true) → lookT l j m t b = .undef ∨ lookT l j L t b = lookT l j m t b
  | [], _, _ => .inr rfl
  | x :: r, j, h => by
    rw [lookT, lookT]
    cases Nat.beq t x.d with
    | true =>
      cases hm : m j with
      | true => rw [h j hm]; exact .inr rfl
      | false => exact .inl rfl
    | false => exact lookT_sub t b r (j + 1) h
theorem lookO_sub {m L : Nat → Bool} (o : Nat) (b : Option AObj) (y : AObj) : ∀ (l : List Res) (j : Nat), (∀ i, m i = true → L i = true) → lookO l j m o b = some y → lookO l j L o b = some y
  | [], _, _, hy => hy
  | x :: r, j, h, hy => by
    rw [lookO] at hy ⊢
    cases hb : Nat.beq (o / 64) x.d with
    | true =>
      rw [hb] at hy
      cases hm : m j with
      | true => rw [hm] at hy; rw [h j hm]; exact hy
      | false => rw [hm] at hy; cases hy
    | false => rw [hb] at hy; exact lookO_sub o b y r (j + 1) h hy
theorem lookT_congr {m L : Nat → Bool} (t : Nat) (b : AV) : ∀ (l : List Res) (j : Nat), (∀ i x, l[i]? = some x → x.d = t → m (j + i) = L (j + i)) → lookT l j m t b = lookT l j L t b
  | [], _, _ => rfl
  | x :: r, j, h => by
    rw [lookT, lookT]
    cases hb : Nat.beq t x.d with
    | true => rw [show m j = L j from h 0 x rfl (Nat.eq_of_beq_eq_true hb).symm]
    | false => exact lookT_congr t b r (j + 1) fun i y hi hy => by have := h (i + 1) y (by simpa using hi) hy; rw [show j + 1 + i = j + (i + 1) by omega]; exact this
theorem lookO_congr {m L : Nat → Bool} (o : Nat) (b : Option AObj) : ∀ (l : List Res) (j : Nat), (∀ i x, l[i]? = some x → x.d = o / 64 → m (j + i) = L (j + i)) → lookO l j m o b = lookO l j L o b
  | [], _, _ => rfl
  | x :: r, j, h => by
    rw [lookO, lookO]
    cases hb : Nat.beq (o / 64) x.d with
    | true => rw [show m j = L j from h 0 x rfl (Nat.eq_of_beq_eq_true hb).symm]
    | false => exact lookO_congr o b r (j + 1) fun i y hi hy => by have := h (i + 1) y (by simpa using hi) hy; rw [show j + 1 + i = j + (i + 1) by omega]; exact this

def Apart (path : List Res) : Prop := ∀ (i j : Nat) (x y : Res), path[i]? = some x → path[j]? = some y → x.d = y.d → i = j

theorem lookT_at {m : Nat → Bool} {b : AV} : ∀ (l : List Res) (j i : Nat) (x : Res), Apart l → l[i]? = some x → lookT l j m x.d b = (match m (j + i) with | true => x.v | false => .undef)
  | [], _, _, _, _, h => by simp at h
  | y :: r, j, 0, x, ha, h => by
    simp at h; subst h
    rw [lookT]; first | (simp; done) | (simp; rfl)
  | y :: r, j, i + 1, x, ha, h => by
    rw [lookT]
    have hne : Nat.beq x.d y.d = false := by
      cases hb : Nat.beq x.d y.d with
      | false => rfl
      | true => have := ha (i + 1) 0 x y h rfl (Nat.eq_of_beq_eq_true hb); omega
    rw [hne]
    have := lookT_at (m := m) (b := b) r (j + 1) i x (fun p q u v hu hv huv => by have := ha (p + 1) (q + 1) u v (by simpa using hu) (by simpa using hv) huv; omega) (by simpa using h)
    rw [show j + (i + 1) = j + 1 + i by omega]
    exact this
theorem lookO_at {m : Nat → Bool} {b : Option AObj} : ∀ (l : List Res) (j i : Nat) (x : Res) (o : Nat), Apart l → l[i]? = some x → o / 64 = x.d → lookO l j m o b = (match m (j + i) with | true => look x.δ o | false => none)
  | [], _, _, _, _, _, h, _ => by simp at h
  | y :: r, j, 0, x, o, ha, h, ho => by
    simp at h; subst h
    rw [lookO, ho]; first | (simp; done) | (simp; rfl)
  | y :: r, j, i + 1, x, o, ha, h, ho => by
    rw [lookO]
    have hne : Nat.beq (o / 64) y.d = false := by
      cases hb : Nat.beq (o / 64) y.d with
      | false => rfl
      | true => have := ha (i + 1) 0 x y h rfl (ho ▸ Nat.eq_of_beq_eq_true hb); omega
    rw [hne]
    have := lookO_at (m := m) (b := b) r (j + 1) i x o (fun p q u v hu hv huv => by have := ha (p + 1) (q + 1) u v (by simpa using hu) (by simpa using hv) huv; omega) (by simpa using h) ho
    rw [show j + (i + 1) = j + 1 + i by omega]
    exact this

theorem look_none_of_names {d : Nat} {δ : List (Nat × AObj)} (h : namesOK d δ = true) {o : Nat} (ho : o / 64 ≠ d) : look δ o = none := by
  cases hl : look δ o with
  | none => rfl
  | some y =>
    have := List.all_eq_true.1 h _ (look_mem δ o y hl)
    exact (ho (Nat.eq_of_beq_eq_true this)).elim

/-- One more operation is done. -/
theorem after_more {base : St} {path : List Res} (ha : Apart path) {L L' : Nat → Bool} {i : Nat} {x : Res} (hx : path[i]? = some x) (hi : L i = false) (hi' : L' i = true) (h : ∀ j, j ≠ i → L' j = L j)
    (hn : namesOK x.d x.δ = true) : ((after base path L).adds x.δ).set x.d x.v = after base path L' := by
  have hdiff : ∀ j y, path[j]? = some y → y.d ≠ x.d → L (0 + j) = L' (0 + j) := by
    intro j y hy hne
    rw [Nat.zero_add]
    refine (h j ?_).symm
    rintro rfl
    rw [hx] at hy; cases hy; exact hne rfl
  have e1 : ((after base path L).adds x.δ).set x.d x.v = { n := base.n, tmps := fun t => match Nat.beq t x.d with | true => x.v | false => lookT path 0 L t (base.tmps t), objs := ((after base path L).adds x.δ).objs } := by
    rw [adds_eq]; rfl
  rw [e1]
  unfold after
  congr 1
  · funext t
    cases hb : Nat.beq t x.d with
    | true =>
      rw [Nat.eq_of_beq_eq_true hb, lookT_at (m := L') path 0 i x ha hx, Nat.zero_add, hi']
    | false =>
      refine lookT_congr t _ path 0 fun j y hy hyt => hdiff j y hy ?_
      rintro e; rw [← e, hyt] at hb; simp at hb
  · funext o
    rw [adds_objs]
    by_cases ho : o / 64 = x.d
    · rw [lookO_at (m := L') path 0 i x o ha hx ho, Nat.zero_add, hi']
      simp only
      rw [lookO_at (m := L) path 0 i x o ha hx ho, Nat.zero_add, hi]
      cases look x.δ o <;> rfl
    · rw [look_none_of_names hn ho]
      exact lookO_congr o _ path 0 fun j y hy hyt => hdiff j y hy (fun e => ho (hyt ▸ e))

theorem after_none {D : List Nat} {path : List Res} (hD : ∀ x ∈ path, memNum D x.d = true) (L : Nat → Bool) (hL : ∀ i, L i = false) : after (baseOf D st) path L = baseOf D st := by
  have := after_append (st := st) [] path L hD (fun i _ => hL i)
  rw [List.nil_append] at this
  rw [this]
  rfl

theorem base_rel (h : Rel w0 M T γ st a w) (D : List Nat) : Rel w0 M T γ (baseOf D st) a w :=
  (h.kill _).forget _ fun t => by cases memNum D t with | true => exact .inr rfl | false => exact .inl rfl
end Go.Fw
/- Regions whose order is drawn are sound. -/
namespace Go.Fw
open Go

variable {P : Program} {w0 : World} {M T : Nat → Prop} {γ γ' : Nat → Value} {st : St} {a : Act} {w w' : World} {Θ : TEnv} {Γ : CEnv}

theorem ready_iff {ops : Array Oper} {listed : Array Bool} {i : Nat} : i ∈ Region.ready .any ops listed ↔
    ∃ o, ops[i]? = some o ∧ listed.getD i true = false ∧ ∀ e ∈ o.after, Region.binds .any e = true → listed.getD e.on false = true := by
  rw [mem_ready]
  constructor
  · rintro ⟨h1, o, h2, h3⟩; exact ⟨o, h2, h1, h3⟩
  · rintro ⟨o, h2, h1, h3⟩; exact ⟨h1, o, h2, h3⟩

/-- The tail, in the order of its text. -/
theorem any_tail {ops : Array Oper} {Q : Exit → Act → World → Prop} {t0 : Nat} (ht : ∀ i o, ops[i]? = some o → t0 ≤ i → ∀ j, j < i → ((masks ops.toList []).getD i 0).testBit j = true)
    (hlt : ∀ i o, ops[i]? = some o → (masks ops.toList []).getD i 0 < 2 ^ i) :
    ∀ (l : List Oper) (k fuel : Nat) (listed : Array Bool) (a : Act) (w : World), t0 ≤ k → (∀ j, l[j]? = ops[k + j]?) → listed.size = ops.size → (∀ i, i < ops.size → (listed.getD i false = true ↔ i < k)) → ops.size ≤ k + fuel →
      wpList P ops Q l a w → wpAny P .any ops Q fuel listed a w := by
  intro l
  induction l with
  | nil =>
    intro k fuel listed a w hk hl hsz hL hf hw
    have hend : ops.size ≤ k := by
      rcases Nat.lt_or_ge k ops.size with h | h
      · have := hl 0; simp [h] at this
      · exact h
    have hnone : Region.ready .any ops listed = [] := by
      refine List.eq_nil_iff_forall_not_mem.2 fun i hi => ?_
      obtain ⟨o, ho, hn, _⟩ := ready_iff.1 hi
      obtain ⟨hi1, _⟩ := Array.getElem?_eq_some_iff.1 ho
      have := (hL i hi1).2 (by omega)
      have hi2 : i < listed.size := by omega
      simp [Array.getD, hi2] at hn this
      rw [hn] at this; cases this
    exact wpAny_done hnone hw fuel
  | cons o l ih =>
    intro k fuel listed a w hk hl hsz hL hf hw
    have ho : ops[k]? = some o := by simpa using (hl 0).symm
    obtain ⟨hklt, _⟩ := Array.getElem?_eq_some_iff.1 ho
    cases fuel with
    | zero => omega
    | succ fuel =>
      have hkl : listed.getD k true = false := by
        have h1 : ¬ listed.getD k false = true := fun h => by have := (hL k hklt).1 h; omega
        have hi2 : k < listed.size := by omega
        simp [Array.getD, hi2] at h1 ⊢
        exact h1
      have honly : ∀ i ∈ Region.ready .any ops listed, i = k := by
        intro i hi
        obtain ⟨o', ho', hn, hall⟩ := ready_iff.1 hi
        obtain ⟨hi1, _⟩ := Array.getElem?_eq_some_iff.1 ho'
        have hi2 : i < listed.size := by omega
        have hge : k ≤ i := by
          rcases Nat.lt_or_ge i k with h | h
          · have := (hL i hi1).2 h
            simp [Array.getD, hi2] at hn this
            rw [hn] at this; cases this
          · exact h
        rcases Nat.lt_or_ge k i with h | h
        · exfalso
          -- some edge leads to k or to one not listed
          have hb := ht i o' ho' (by omega) k h
          have key : ∀ (n i : Nat) (o' : Oper), i < n → ops[i]? = some o' → (∀ e ∈ o'.after, Region.binds .any e = true → listed.getD e.on false = true) → ((masks ops.toList []).getD i 0).testBit k = true → False := by
            intro n
            induction n with
            | zero => intro i o' hi; omega
            | succ n ihn =>
              intro i o' hin ho' hall hbit
              obtain ⟨e, he, heb, hek⟩ := mask_back (ops := ops.toList) (i := i) (o := o') (by simpa using ho') hbit
              have hle := hall e he heb
              have hebit := mask_edge (ops := ops.toList) (i := i) (o := o') (by simpa using ho') he heb
              have helt : e.on < i := by
                rcases Nat.lt_or_ge e.on i with h | h
                · exact h
                · rw [testBit_out (hlt i o' ho') h] at hebit; cases hebit
              obtain ⟨hi1', _⟩ := Array.getElem?_eq_some_iff.1 ho'
              have hek' := (hL e.on (by omega)).1 hle
              rcases hek with rfl | hk2
              · omega
              · -- e.on < k but k among those before it
                have hoe : ∃ oe, ops[e.on]? = some oe := ⟨ops[e.on]'(by omega), by simp⟩
                obtain ⟨oe, hoe⟩ := hoe
                have := testBit_out (hlt e.on oe hoe) (Nat.le_of_lt hek')
                rw [this] at hk2; cases hk2
          exact key (i + 1) i o' (by omega) ho' hall hb
        · omega
      have hready : k ∈ Region.ready .any ops listed := by
        refine ready_iff.2 ⟨o, ho, hkl, fun e he hb => ?_⟩
        have hebit := mask_edge (ops := ops.toList) (i := k) (o := o) (by simpa using ho) he hb
        have helt : e.on < k := by
          rcases Nat.lt_or_ge e.on k with h | h
          · exact h
          · rw [testBit_out (hlt k o ho) h] at hebit; cases hebit
        exact (hL e.on (by omega)).2 helt
      refine ⟨fun h => (by rw [h] at hready; cases hready), fun i hi => ?_⟩
      rw [honly i hi]
      have hrest : ∀ a w, wpList P ops Q l a w → wpAny P .any ops Q fuel (listed.setIfInBounds k true) a w := by
        intro a w hw
        refine ih (k + 1) fuel _ a w (by omega) (fun j => by have := hl (j + 1); simpa [Nat.add_assoc, Nat.add_comm 1 j] using this) (by simpa using hsz) (fun i hi => ?_) (by omega) hw
        by_cases e : k = i
        · subst e
          have hi2 : k < listed.size := by omega
          simp [Array.getD, hi2]
        · rw [getD_set_ne false e, hL i hi]; omega
      unfold wpOp
      simp only [ho]
      unfold wpList at hw
      split
      · next hwt => rw [if_pos hwt] at hw; exact hw.imp (Oper.wp_mono hrest) id
      · next hwt => rw [if_neg hwt] at hw; exact hrest _ _ hw

theorem getD_true {listed : Array Bool} {i : Nat} (hi : i < listed.size) : listed.getD i true = listed.getD i false := by
  simp [Array.getD, hi]

/-- One quiet operation of the path, where all that come before it are done. -/
theorem any_step {G : Glob} (hE : EnvOK P G Θ Γ w0 M) {ops : Array Oper} {Q : Exit → Act → World → Prop} {D : List Nat} {path : List Res} {L L' : Nat → Bool} {i : Nat} {o : Oper} {x : Res}
    (hDn : ∀ d, memNum D d = true → d < st.n) (hD : ∀ x ∈ path, memNum D x.d = true) (ha : Apart path) (ho : ops[i]? = some o) (hx : path[i]? = some x)
    (hok : ∀ i o x, ops[i]? = some o → path[i]? = some x → ResOK Θ Γ (baseOf D st) (masks ops.toList []) path i o x)
    (hsub : ∀ j, ((masks ops.toList []).getD i 0).testBit j = true → L j = true) (hi : L i = false) (hi' : L' i = true) (h : ∀ j, j ≠ i → L' j = L j)
    (hR : Rel w0 M T γ (after (baseOf D st) path L) a w) {K : Act → World → Prop} (hK : ∀ γ' a' w', Rel w0 M T γ' (after (baseOf D st) path L') a' w' → K a' w') :
    wpOp P ops Q i K a w := by
  obtain ⟨hd, hm, hcase⟩ := hok i o x ho hx
  have hxD : x.d < st.n := hDn _ (hD x (List.mem_of_getElem? hx))
  have hguard : ∀ g b y c, (masks ops.toList []).getD i 0 |>.testBit g → path[g]? = some y → y.v = .sv (.one (.bool c)) → o.guard = some (g, b) → Region.wanted o (yielded ops a.tmps) = (c == b) := by
    intro g b y c hg hy hv hog
    have hgsz : g < ops.size := by
      obtain ⟨hi1, _⟩ := Array.getElem?_eq_some_iff.1 ho
      rcases Nat.lt_or_ge g i with h | h
      · omega
      · rw [testBit_out hm h] at hg; cases hg
    have hog' : ops[g]? = some (ops[g]) := by simp [hgsz]
    obtain ⟨hgd, _, _⟩ := hok g _ y hog' hy
    have hyD : y.d < st.n := hDn _ (hD y (List.mem_of_getElem? hy))
    have htm : (after (baseOf D st) path L).tmps y.d = .sv (.one (.bool c)) := by
      show lookT path 0 L y.d _ = _
      rw [lookT_at path 0 g y ha hy, Nat.zero_add, hsub g hg]
      exact hv
    have hr1 := hR.tmps y.d
    rw [htm] at hr1
    have hv' : a.tmps.getD y.d undef = .bool c := hr1
    have hsz : y.d < a.tmps.size := by rw [hR.size]; exact hyD
    have hget : a.tmps[y.d]? = some (.bool c) := by
      rw [Array.getElem?_eq_getElem hsz]
      simp [Array.getD, hsz] at hv'
      rw [hv']
    have hyd : yielded ops a.tmps g = some c := by simp [yielded, hog', hgd, hget]
    unfold Region.wanted
    rw [hog]
    simp only [hyd]
    cases c <;> cases b <;> rfl
  unfold wpOp
  simp only [ho]
  rcases hcase with ⟨hg, ⟨p, hc, hp⟩, hn⟩ | ⟨⟨g, b, y, c, e1, e2, e3, e4, e5⟩, e6, e7⟩
  · have hw : Region.wanted o (yielded ops a.tmps) = true := by
      rcases hg with e | ⟨g, b, y, e1, e2, e3, e4⟩
      · unfold Region.wanted; rw [e]
      · rw [hguard g b y b e2 e3 e4 e1]; simp
    rw [if_pos hw]
    left
    have hmore : (after (baseOf D st) path ((masks ops.toList []).getD i 0).testBit).more (after (baseOf D st) path L) :=
      ⟨fun t => lookT_sub t _ path 0 hsub, fun o y hy => lookO_sub o _ y path 0 hsub hy⟩
    obtain ⟨v', hc', hless⟩ := calm_more hmore x.d o.op hc
    have hfr : freshIn (after (baseOf D st) path L) x.δ = true := by
      refine List.all_eq_true.2 fun z hz => ?_
      have hzd : z.1 / 64 = x.d := Nat.eq_of_beq_eq_true (List.all_eq_true.1 hn z hz)
      show (lookO path 0 L z.1 _).isNone = true
      rw [lookO_at path 0 i x z.1 ha hx hzd, Nat.zero_add, hi]
      rfl
    refine calm_sound hE hR o hc' hp hfr ?_
    intro u γ' w' hR' hv'
    have hvx : RepAV (viewOf w0 T γ' ((after (baseOf D st) path L).adds x.δ) w') x.v u := by
      rcases hless with e | e
      · rw [e]; trivial
      · rw [← e]; exact hv'
    have hdn : x.d < ((after (baseOf D st) path L).adds x.δ).n := by rw [(adds_tmps _ _).2]; exact hxD
    have := hR'.set x.d hdn x.v u hvx
    rw [after_more ha hx hi hi' h hn] at this
    rw [hd]
    exact hK _ _ _ this
  · have hw : Region.wanted o (yielded ops a.tmps) = false := by
      rw [hguard g b y c e2 e3 e4 e1]
      cases c <;> cases b <;> first | rfl | exact (e5 rfl).elim
    rw [if_neg (by rw [hw]; simp), hd]
    have := hR.set x.d (show x.d < (after (baseOf D st) path L).n from hxD) .undef undef trivial
    have e : (after (baseOf D st) path L).set x.d .undef = after (baseOf D st) path L' := by
      have := after_more (base := baseOf D st) ha hx hi hi' h (by rw [e7]; rfl)
      rw [e6, e7] at this
      exact this
    rw [e] at this
    exact hK _ _ _ this

/-- The quiet operations in any order, then the tail. -/
theorem any_front {G : Glob} (hE : EnvOK P G Θ Γ w0 M) {ops : Array Oper} {Q : Exit → Act → World → Prop} {D : List Nat} {path : List Res} {t0 : Nat}
    (hlen : path.length = t0) (ht0 : t0 ≤ ops.size)
    (hDn : ∀ d, memNum D d = true → d < st.n) (hD : ∀ x ∈ path, memNum D x.d = true) (ha : Apart path)
    (hok : ∀ i o x, ops[i]? = some o → path[i]? = some x → ResOK Θ Γ (baseOf D st) (masks ops.toList []) path i o x)
    (ht : ∀ i o, ops[i]? = some o → t0 ≤ i → ∀ j, j < i → ((masks ops.toList []).getD i 0).testBit j = true)
    (hlt : ∀ i o, ops[i]? = some o → (masks ops.toList []).getD i 0 < 2 ^ i)
    (hend : ∀ γ' a' w', Rel w0 M T γ' (after (baseOf D st) path fun _ => true) a' w' → wpList P ops Q (ops.toList.drop t0) a' w') :
    ∀ (fuel : Nat) (listed : Array Bool) (γ : Nat → Value) (a : Act) (w : World), listed.size = ops.size →
      unl (fun i => listed.getD i false) ops.size ≤ fuel →
      (∀ i, t0 ≤ i → listed.getD i false = false) →
      (∀ i j, listed.getD i false = true → ((masks ops.toList []).getD i 0).testBit j = true → listed.getD j false = true) →
      Rel w0 M T γ (after (baseOf D st) path fun i => listed.getD i false) a w → wpAny P .any ops Q fuel listed a w := by
  intro fuel
  induction fuel with
  | zero =>
    intro listed γ a w hsz hf htl hcl hR
    have hall : ∀ i, i < ops.size → listed.getD i false = true := unl_zero (L := fun i => listed.getD i false) ops.size (by omega)
    have hfull : t0 = ops.size := by
      rcases Nat.lt_or_ge t0 ops.size with h | h
      · have := hall t0 h; rw [htl t0 (Nat.le_refl _)] at this; cases this
      · omega
    have hsame : after (baseOf D st) path (fun i => listed.getD i false) = after (baseOf D st) path fun _ => true := by
      unfold after
      congr 1
      · funext t; exact lookT_congr t _ path 0 fun i x hi _ => by
          obtain ⟨hlt', _⟩ := List.getElem?_eq_some_iff.1 hi
          rw [Nat.zero_add]; exact hall i (by omega)
      · funext t; exact lookO_congr t _ path 0 fun i x hi _ => by
          obtain ⟨hlt', _⟩ := List.getElem?_eq_some_iff.1 hi
          rw [Nat.zero_add]; exact hall i (by omega)
    rw [hsame] at hR
    exact any_tail ht hlt (ops.toList.drop t0) t0 0 listed a w (Nat.le_refl _) (fun j => by simp) hsz
      (fun i hi => ⟨fun _ => by omega, fun _ => hall i hi⟩) (by omega) (hend γ a w hR)
  | succ fuel ih =>
    intro listed γ a w hsz hf htl hcl hR
    by_cases hdone : ∀ i, i < t0 → listed.getD i false = true
    · have hsame : after (baseOf D st) path (fun i => listed.getD i false) = after (baseOf D st) path fun _ => true := by
        unfold after
        congr 1
        · funext t; exact lookT_congr t _ path 0 fun i x hi _ => by
            obtain ⟨hlt', _⟩ := List.getElem?_eq_some_iff.1 hi
            rw [Nat.zero_add]; exact hdone i (by omega)
        · funext t; exact lookO_congr t _ path 0 fun i x hi _ => by
            obtain ⟨hlt', _⟩ := List.getElem?_eq_some_iff.1 hi
            rw [Nat.zero_add]; exact hdone i (by omega)
      rw [hsame] at hR
      have hcount : ∀ (n : Nat), t0 ≤ n → n - t0 ≤ unl (fun i => listed.getD i false) n := by
        intro n
        induction n with
        | zero => intro _; simp
        | succ n ihn =>
          intro hn
          rw [unl]
          rcases Nat.lt_or_ge n t0 with h | h
          · have : n + 1 = t0 := by omega
            simp [this]
          · rw [htl n h]
            have := ihn h
            simp only; omega
      have := hcount ops.size ht0
      refine any_tail ht hlt (ops.toList.drop t0) t0 (fuel + 1) listed a w (Nat.le_refl _) (fun j => by simp) hsz
        (fun i hi => ⟨fun h => ?_, fun h => hdone i h⟩) (by omega) (hend γ a w hR)
      rcases Nat.lt_or_ge i t0 with h' | h'
      · exact h'
      · rw [htl i h'] at h; cases h
    · have hex : ∃ i, i < t0 ∧ listed.getD i false = false := by
        refine Classical.byContradiction fun hno => hdone fun i hi => ?_
        cases hl : listed.getD i false with
        | true => rfl
        | false => exact (hno ⟨i, hi, hl⟩).elim
      obtain ⟨i0, hi0, hl0, hmin⟩ := least t0 hex
      have hready : i0 ∈ Region.ready .any ops listed := by
        have hisz : i0 < ops.size := by omega
        refine ready_iff.2 ⟨ops[i0], by simp [hisz], by rw [getD_true (by omega)]; exact hl0, fun e he hb => ?_⟩
        have hoi : ops.toList[i0]? = some ops[i0] := by simp [hisz]
        have hebit := mask_edge hoi he hb
        have helt : e.on < i0 := by
          rcases Nat.lt_or_ge e.on i0 with h | h
          · exact h
          · rw [testBit_out (hlt i0 ops[i0] (by simp [hisz])) h] at hebit; cases hebit
        cases hl : listed.getD e.on false with
        | true => rfl
        | false => exact (hmin e.on helt hl).elim
      refine ⟨fun h => (by rw [h] at hready; cases hready), fun i hi => ?_⟩
      obtain ⟨o, ho, hn, hall⟩ := ready_iff.1 hi
      obtain ⟨hisz, _⟩ := Array.getElem?_eq_some_iff.1 ho
      have hil : listed.getD i false = false := by rw [← getD_true (by omega)]; exact hn
      have hsub : ∀ j, ((masks ops.toList []).getD i 0).testBit j = true → listed.getD j false = true := by
        intro j hj
        obtain ⟨e, he, hb, hej⟩ := mask_back (ops := ops.toList) (i := i) (o := o) (by simpa using ho) hj
        rcases hej with rfl | h
        · exact hall e he hb
        · exact hcl e.on j (hall e he hb) h
      have hit : i < t0 := by
        rcases Nat.lt_or_ge i t0 with h | h
        · exact h
        · have := hsub i0 (ht i o ho h i0 (by omega))
          rw [hl0] at this; cases this
      have hx : ∃ x, path[i]? = some x := ⟨path[i]'(by omega), by simp [show i < path.length by omega]⟩
      obtain ⟨x, hx⟩ := hx
      have hset : ∀ j, (listed.setIfInBounds i true).getD j false = (if j = i then true else listed.getD j false) := by
        intro j
        split
        · next e => subst e; simp [Array.getD, show j < listed.size by omega]
        · next e => exact getD_set_ne false (Ne.symm e)
      refine any_step hE (L := fun i => listed.getD i false) (L' := fun j => (listed.setIfInBounds i true).getD j false) hDn hD ha ho hx hok hsub hil (by simp only [hset, if_true]) (fun j hj => by simp only [hset, if_neg hj]) hR ?_
      intro γ' a' w' hR'
      refine ih _ γ' a' w' (by simpa using hsz) ?_ ?_ ?_ hR'
      · have := unl_set (L := fun i => listed.getD i false) (L' := fun j => (listed.setIfInBounds i true).getD j false) (i := i) hil (by simp only [hset, if_true]) (fun j hj => by simp only [hset, if_neg hj]) ops.size hisz
        omega
      · intro j hj
        rw [hset, if_neg (by omega)]; exact htl j hj
      · intro j k hj hk
        rw [hset] at hj ⊢
        split
        · rfl
        · split at hj
          · next e => subst e; exact hsub k hk
          · exact hcl j k hj hk
end Go.Fw
/- A region whose order is drawn. -/
namespace Go.Fw
open Go

variable {P : Program} {w0 : World} {M T : Nat → Prop} {γ γ' : Nat → Value} {st : St} {a : Act} {w w' : World} {Θ : TEnv} {Γ : CEnv}

def calmOp : Op → Bool
  | .store _ _ _ => false
  | .call { callee := .builtin .append, .. } | .call { callee := .builtin .copy, .. } | .call { callee := .builtin .clear, .. } => false
  | _ => true
/-- How many quiet operations stand first. -/
def front : List Oper → Nat
  | [] => 0
  | o :: r => match calmOp o.op with | true => front r + 1 | false => 0
def allLt (n : Nat) : List Nat → Bool
  | [] => true
  | x :: r => Nat.blt x n && allLt n r
def tailOK : Nat → List Nat → Bool
  | _, [] => true
  | i, m :: r => Nat.beq (m + 1) (2 ^ i) && tailOK (i + 1) r
def letGo (own : Nat → Bool) : List Oper → List Nat
  | [] => []
  | o :: r => match makesArr o.op, o.dst with
    | true, some d => match own d with | true => letGo own r | false => d :: letGo own r
    | _, _ => letGo own r
def landAll (own : Nat → Bool) (l : List Oper) (s : St) : St :=
  match letGo own l with
  | [] => s
  | z => s.freeze fun o => memNum z (o / 64) && !(Nat.beq (o % 64) 0)

def anyRegion (Θ : TEnv) (Γ : CEnv) (own : Nat → Bool) (ops : List Oper) (K : St → Prop) (st : St) : Prop :=
  match nodup (dstsOf (ops.take (front ops))) && (allLt st.n (dstsOf (ops.take (front ops))) && tailOK (front ops) ((masks ops []).drop (front ops))) with
  | true => anyRuns Θ Γ (baseOf (dstsOf (ops.take (front ops))) st) (masks ops []) (fun path =>
      runs Θ Γ own ops K (ops.drop (front ops)) (landAll own (ops.take (front ops)) (after (baseOf (dstsOf (ops.take (front ops))) st) path fun _ => true))) 0 (ops.take (front ops)) []
  | false => False

theorem front_le : ∀ (l : List Oper), front l ≤ l.length
  | [] => Nat.le_refl _
  | o :: r => by
    rw [front]
    cases calmOp o.op with
    | true => have := front_le r; simp only [List.length_cons]; omega
    | false => simp
theorem allLt_spec {n : Nat} : ∀ {l : List Nat}, allLt n l = true → ∀ x, memNum l x = true → x < n
  | [], _, x, hx => by simp [memNum] at hx
  | y :: r, h, x, hx => by
    rw [allLt, Bool.and_eq_true] at h
    rcases List.mem_cons.1 (memNum_iff.1 hx) with rfl | hm
    · simpa [Nat.blt_eq] using h.1
    · exact allLt_spec h.2 x (memNum_iff.2 hm)
theorem tailOK_spec : ∀ {l : List Nat} {k : Nat}, tailOK k l = true → ∀ i m, l[i]? = some m → m + 1 = 2 ^ (k + i)
  | [], _, _, i, m, hm => by simp at hm
  | x :: r, k, h, 0, m, hm => by
    rw [tailOK, Bool.and_eq_true] at h
    simp at hm; subst hm
    exact Nat.eq_of_beq_eq_true h.1
  | x :: r, k, h, i + 1, m, hm => by
    rw [tailOK, Bool.and_eq_true] at h
    have := tailOK_spec h.2 i m (by simpa using hm)
    rw [this]; congr 1; omega
theorem masks_length : ∀ (l : List Oper) (acc : List Nat), (masks l acc).length = acc.length + l.length
  | [], acc => by simp [masks]
  | o :: r, acc => by rw [masks, masks_length r]; simp; omega
theorem nodup_spec : ∀ {l : List Nat}, nodup l = true → ∀ (i j : Nat) (x : Nat), l[i]? = some x → l[j]? = some x → i = j
  | [], _, i, j, x, hi, _ => by simp at hi
  | y :: r, h, i, j, x, hi, hj => by
    rw [nodup, Bool.and_eq_true] at h
    have hno : y ∉ r := fun hm => by have := memNum_iff.2 hm; rw [this] at h; simp at h
    match i, j with
    | 0, 0 => rfl
    | 0, j + 1 => simp at hi hj; exact (hno (hi ▸ List.mem_of_getElem? hj)).elim
    | i + 1, 0 => simp at hi hj; exact (hno (hj ▸ List.mem_of_getElem? hi)).elim
    | i + 1, j + 1 => simp at hi hj; rw [nodup_spec h.2 i j x hi hj]
theorem dstsOf_get : ∀ {l : List Oper}, (∀ (i : Nat) (o : Oper), l[i]? = some o → ∃ d, o.dst = some d) → ∀ (i : Nat) (o : Oper) (d : Nat), l[i]? = some o → o.dst = some d → (dstsOf l)[i]? = some d
  | [], _, i, o, d, hi, _ => by simp at hi
  | x :: r, h, i, o, d, hi, hd => by
    obtain ⟨e, he⟩ := h 0 x rfl
    rw [dstsOf, he]
    match i with
    | 0 => simp at hi; subst hi; rw [hd] at he; cases he; rfl
    | i + 1 => simp; exact dstsOf_get (fun j o' hj => h (j + 1) o' (by simpa using hj)) i o d (by simpa using hi) hd

/-- A region whose order is drawn. -/
theorem any_sound {G : Glob} (hE : EnvOK P G Θ Γ w0 M) (hm : P.follows .mixedOrders = true) {own : Nat → Bool} {id : Nat} {ops : Array Oper} {K : St → Prop} {Q : Exit → Act → World → Prop} (h : Rel w0 M T γ st a w)
    (hr : anyRegion Θ Γ own ops.toList K st) (hn : ∀ s γ' a' w', K s → Rel w0 M T γ' s a' w' → Q .normal a' w') : (Code.region id ops true).wp P Q a w := by
  unfold anyRegion at hr
  split at hr
  case h_2 => exact hr.elim
  next hb =>
  rw [Bool.and_eq_true, Bool.and_eq_true] at hb
  obtain ⟨hnd, hlt, htl⟩ := hb
  have ht0 : front ops.toList ≤ ops.size := by simpa using front_le ops.toList
  obtain ⟨path, hlen, hD, hK, hok⟩ := anyRuns_path (D := dstsOf (ops.toList.take (front ops.toList))) (ops.toList.take (front ops.toList)) [] [] rfl (by simp)
    (fun o ho d hd => memNum_iff.2 (dstsOf_mem ho hd)) (by simp) hr
  simp only [List.nil_append] at hlen hok
  have hlen' : path.length = front ops.toList := by rw [hlen]; simp; omega
  have hok' : ∀ i o x, ops[i]? = some o → path[i]? = some x → ResOK Θ Γ (baseOf (dstsOf (ops.toList.take (front ops.toList))) st) (masks ops.toList []) path i o x := by
    intro i o x ho hx
    obtain ⟨hi, _⟩ := List.getElem?_eq_some_iff.1 hx
    refine hok i o x ?_ hx
    rw [List.getElem?_take_of_lt (by omega)]
    simpa using ho
  have hdst : ∀ (i : Nat) (o : Oper), (ops.toList.take (front ops.toList))[i]? = some o → ∃ d, o.dst = some d := by
    intro i o ho
    obtain ⟨hi, _⟩ := List.getElem?_eq_some_iff.1 ho
    have hx : path[i]? = some (path[i]'(by omega)) := by simp [show i < path.length by omega]
    exact ⟨_, (hok i o _ ho hx).1⟩
  have hapart : Apart path := by
    intro i j x y hx hy hxy
    obtain ⟨hi, _⟩ := List.getElem?_eq_some_iff.1 hx
    obtain ⟨hj, _⟩ := List.getElem?_eq_some_iff.1 hy
    have hi' : i < (ops.toList.take (front ops.toList)).length := by omega
    have hj' : j < (ops.toList.take (front ops.toList)).length := by omega
    have hoi : (ops.toList.take (front ops.toList))[i]? = some ((ops.toList.take (front ops.toList))[i]) := by simp only [List.getElem?_eq_getElem hi']
    have hoj : (ops.toList.take (front ops.toList))[j]? = some ((ops.toList.take (front ops.toList))[j]) := by simp only [List.getElem?_eq_getElem hj']
    have h1 := dstsOf_get hdst i _ x.d hoi (hok i _ x hoi hx).1
    have h2 := dstsOf_get hdst j _ y.d hoj (hok j _ y hoj hy).1
    rw [← hxy] at h2
    exact nodup_spec hnd i j x.d h1 h2
  have hmask : ∀ i o, ops[i]? = some o → front ops.toList ≤ i → (masks ops.toList []).getD i 0 + 1 = 2 ^ i := by
    intro i o ho hi
    obtain ⟨hisz, _⟩ := Array.getElem?_eq_some_iff.1 ho
    have hml : (masks ops.toList []).length = ops.size := by rw [masks_length]; simp
    have hg : ((masks ops.toList []).drop (front ops.toList))[i - front ops.toList]? = some ((masks ops.toList []).getD i 0) := by
      rw [List.getElem?_drop, show front ops.toList + (i - front ops.toList) = i by omega, List.getD_eq_getElem?_getD, List.getElem?_eq_getElem (by omega)]
      rfl
    have := tailOK_spec htl _ _ hg
    rw [this]; congr 1; omega
  refine wp_region_any hm ?_
  refine any_front (w0 := w0) (M := M) (T := T) hE (D := dstsOf (ops.toList.take (front ops.toList))) (path := path) hlen' ht0 (fun d hd => allLt_spec hlt d hd) hD hapart hok' ?_ ?_ ?_ ops.size _ γ _ _ (by simp) ?_ ?_ ?_ ?_
  · intro i o ho hi j hj
    have h1 := hmask i o ho hi
    have h2 : (masks ops.toList []).getD i 0 = 2 ^ i - 1 := by omega
    rw [h2, Nat.testBit_two_pow_sub_one]
    simpa using hj
  · intro i o ho
    rcases Nat.lt_or_ge i (front ops.toList) with hi | hi
    · have hx : path[i]? = some (path[i]'(by omega)) := by simp [show i < path.length by omega]
      exact (hok' i o _ ho hx).2.1
    · have := hmask i o ho hi; omega
  · intro γ' a' w' hR
    have hland : Rel w0 M T γ' (landAll own (ops.toList.take (front ops.toList)) (after (baseOf (dstsOf (ops.toList.take (front ops.toList))) st) path fun _ => true)) a' w' := by
      unfold landAll
      split
      · exact hR
      · exact hR.freeze _
    exact runs_sound hE hn _ _ _ _ _ hland hK
  · have : ∀ n, unl (fun i => (Array.replicate ops.size false).getD i false) n ≤ n := by
      intro n
      induction n with
      | zero => exact Nat.le_refl _
      | succ n ih => rw [unl]; split <;> omega
    exact this _
  · intro i _; simp [Array.getD]
  · intro i j hi; exfalso; simp [Array.getD] at hi
  · have := (h.drew (w.drawn + 1)) |> fun h => base_rel h (dstsOf (ops.toList.take (front ops.toList)))
    rw [after_none hD _ (fun i => by simp [Array.getD])]
    exact this
end Go.Fw
/- The walk of a function's code. -/
namespace Go.Fw
open Go

variable {P : Program} {w0 : World} {M T : Nat → Prop} {γ γ' : Nat → Value} {st : St} {a : Act} {w w' : World} {Θ : TEnv} {Γ : CEnv}

/-- What is laid down for a loop: slots that become own arrays ahead of it, what stays as it is, what changes. -/
structure LoopSpec where
  adopt : List (Nat × Nat × TypeId × CTs × Bool)
  c : Shape
  v : Shape

/-- What is laid down for a function's walk: which slots keep own arrays, and its loops by the number of their first region. -/
structure Hints where
  own : Nat → Bool
  loops : Nat → Option LoopSpec

/-- The number of the first region. -/
def firstRegion : Code → Option Nat
  | .region id _ _ => some id
  | .seq x y => match firstRegion x with | some n => some n | none => firstRegion y
  | .cond _ x y => match firstRegion x with | some n => some n | none => firstRegion y
  | .block _ x | .loop x => firstRegion x
  | _ => none

def awp (Θ : TEnv) (Γ : CEnv) (H : Hints) : Code → (Exit → St → Prop) → St → Prop
  | .skip, Q, st => Q .normal st
  | .region _ ops false, Q, st => runs Θ Γ H.own ops.toList (Q .normal) ops.toList st
  | .region _ ops true, Q, st => anyRegion Θ Γ H.own ops.toList (Q .normal) st
  | .seq x y, Q, st => awp Θ Γ H x (fun e s => match e with | .normal => awp Θ Γ H y Q s | e => Q e s) st
  | .cond c x y, Q, st => match st.ev c with
    | .sv (.one (.bool b)) => cond b (awp Θ Γ H x Q st) (awp Θ Γ H y Q st)
    | _ => False
  | .block id c, Q, st => awp Θ Γ H c (fun e s => match e with
    | .exit i => match Nat.beq i id with | true => Q .normal s | false => Q (.exit i) s
    | e => Q e s) st
  | .exit id, Q, st => Q (.exit id) st
  | .ret, Q, st => Q .ret st
  | .loop c, Q, st => match firstRegion c with
    | some n => match H.loops n with
      | some sp => match adopts st sp.adopt with
        | some s0 => match sp.c.read (only sp.c sp.v s0), sp.v.read (only sp.c sp.v s0) with
          | some x0, some y0 => ∃ (I : sp.v.den → Prop) (μ : sp.v.den → Nat), I y0 ∧ ∀ y, I y →
              awp Θ Γ H c (fun e s => match e with
                | .normal => match Nat.beq s.n s0.n, sp.c.read (only sp.c sp.v s), sp.v.read (only sp.c sp.v s) with
                  | true, some x1, some y1 => x1 = x0 ∧ I y1 ∧ μ y1 < μ y
                  | _, _, _ => False
                | e => Q e s) (joint s0.n sp.c sp.v x0 y)
          | _, _ => False
        | none => False
      | none => False
    | none => False
  | _, _, _ => False

theorem awp_sound {G : Glob} (hE : EnvOK P G Θ Γ w0 M) (hm : P.follows .mixedOrders = true) (H : Hints) : ∀ (c : Code) (QA : Exit → St → Prop) (Q : Exit → Act → World → Prop) (st : St) (γ : Nat → Value) (a : Act) (w : World),
    Rel w0 M T γ st a w → awp Θ Γ H c QA st → (∀ e s γ' a' w', QA e s → Rel w0 M T γ' s a' w' → Q e a' w') → c.wp P Q a w := by
  intro c
  induction c with
  | skip => intro QA Q st γ a w h ha hQ; exact wp_skip (hQ _ _ _ _ _ ha h)
  | region id ops d =>
    intro QA Q st γ a w h ha hQ
    cases d with
    | false => exact region_sound hE h ha fun s γ' a' w' hK hR => hQ _ _ _ _ _ hK hR
    | true => exact any_sound hE hm h ha fun s γ' a' w' hK hR => hQ _ _ _ _ _ hK hR
  | seq x y ihx ihy =>
    intro QA Q st γ a w h ha hQ
    refine wp_seq (ihx _ _ st γ a w h ha ?_)
    intro e s γ' a' w' hq hR
    cases e <;> first | exact ihy _ _ s γ' a' w' hR hq hQ | exact hQ _ _ _ _ _ hq hR
  | cond c x y ihx ihy =>
    intro QA Q st γ a w h ha hQ
    rw [awp] at ha
    split at ha
    · next b hb =>
      have hv : a.eval c = .bool b := by
        have := ev_rep h c
        rw [hb] at this
        exact this
      refine wp_cond_split hv (fun e => ?_) (fun e => ?_)
      · subst e; exact ihx _ _ st γ a w h ha hQ
      · subst e; exact ihy _ _ st γ a w h ha hQ
    · exact ha.elim
  | block id c ih =>
    intro QA Q st γ a w h ha hQ
    refine wp_block (ih _ _ st γ a w h ha ?_)
    intro e s γ' a' w' hq hR
    cases e with
    | exit i =>
      simp only [Exit.inBlock]
      cases hb : Nat.beq i id with
      | true =>
        simp only [hb] at hq
        rw [if_pos (Nat.eq_of_beq_eq_true hb)]
        exact hQ _ _ _ _ _ hq hR
      | false =>
        simp only [hb] at hq
        rw [if_neg (by rintro rfl; simp at hb)]
        exact hQ _ _ _ _ _ hq hR
    | _ => exact hQ _ _ _ _ _ hq hR
  | loop c ih =>
    intro QA Q st γ a w h ha hQ
    rw [awp] at ha
    split at ha
    · split at ha
      · next sp hsp =>
        split at ha
        · next s0 hs0 =>
          split at ha
          · next x0 y0 hx hy =>
            obtain ⟨I, μ, h0, hI⟩ := ha
            obtain ⟨γ0, hR0⟩ := Rel.adopts _ h hs0
            let J : sp.v.den → Act → World → Prop := fun y a' w' => ∃ γ', Rel w0 M T γ' (joint s0.n sp.c sp.v x0 y) a' w'
            have key : ∀ (n : Nat) (y : sp.v.den), μ y = n → I y → ∀ a' w', J y a' w' → ∀ (b : Frame) (k : List Item) (cs : List Frame),
                ∃ e a'' w'', Q e a'' w'' ∧ Arrives P (lone (b.at a' (.code c :: .inLoop c :: k)) cs w') b k cs e a'' w'' := by
              intro n
              induction n using Nat.strongRecOn with
              | _ n ihn =>
                intro y hμ hy' a' w' ⟨γ', hR⟩ b k cs
                have hbody := ih _ (Exit.then (fun a2 w2 => ∃ y2, I y2 ∧ μ y2 < μ y ∧ J y2 a2 w2) Q) _ γ' a' w' hR (hI y hy') ?_
                · obtain ⟨e, a1, w1, hq, harr⟩ := hbody b (.inLoop c :: k) cs
                  cases e with
                  | normal =>
                    obtain ⟨y2, hI2, hlt, hJ2⟩ := hq
                    obtain ⟨e2, a2, w2, hq2, harr2⟩ := ihn (μ y2) (hμ ▸ hlt) y2 rfl hI2 a1 w1 hJ2 b k cs
                    exact ⟨e2, a2, w2, hq2, .of_steps (Steps.trans harr (.one step_inLoop)) harr2⟩
                  | exit id => exact ⟨_, a1, w1, hq, .pass (x := .inLoop c) rfl (fun _ _ => .inl (by simp)) harr⟩
                  | goto l => exact ⟨_, a1, w1, hq, .pass (x := .inLoop c) rfl (fun _ _ => .inl (by simp)) harr⟩
                  | ret => exact ⟨_, a1, w1, hq, .pass (x := .inLoop c) rfl (fun _ _ => .inl (by simp)) harr⟩
                  | panic ch => exact ⟨_, a1, w1, hq, .pass (x := .inLoop c) rfl (fun _ _ => .inl (by simp)) harr⟩
                  | outgrown => exact ⟨_, a1, w1, hq, .pass (x := .inLoop c) rfl (fun _ _ => .inl (by simp)) harr⟩
                · intro e s γ2 a2 w2 hq hR2
                  cases e with
                  | normal =>
                    simp only at hq
                    split at hq
                    · next x1 y1 hsn hx1 hy1 =>
                      obtain ⟨rfl, hI1, hlt⟩ := hq
                      have hJ := hR2.joint hx1 hy1
                      rw [Nat.eq_of_beq_eq_true hsn] at hJ
                      exact ⟨y1, hI1, hlt, _, hJ⟩
                    · exact hq.elim
                  | _ => exact hQ _ _ _ _ _ hq hR2
            intro b k cs
            obtain ⟨e, a', w', hq, harr⟩ := key _ y0 rfl h0 a w ⟨_, hR0.joint hx hy⟩ b k cs
            exact ⟨e, a', w', hq, .of_steps (.one step_loop) harr⟩
          · exact ha.elim
        · exact ha.elim
      · exact ha.elim
    · exact ha.elim
  | rangeFunc f ps x y ihx ihy => intro QA Q st γ a w h ha hQ; exact ha.elim
  | exit id => intro QA Q st γ a w h ha hQ; exact wp_exit (hQ _ _ _ _ _ ha h)
  | scope c ih => intro QA Q st γ a w h ha hQ; exact ha.elim
  | label l => intro QA Q st γ a w h ha hQ; exact ha.elim
  | goto l => intro QA Q st γ a w h ha hQ; exact ha.elim
  | ret => intro QA Q st γ a w h ha hQ; exact wp_ret (hQ _ _ _ _ _ ha h)
  | refuse s => intro QA Q st γ a w h ha hQ; exact ha.elim
end Go.Fw
/- A function: from the walk of its code to what is known of its calls. -/
namespace Go.Fw
open Go

variable {P : Program} {w0 : World} {M T : Nat → Prop} {γ γ' : Nat → Value} {st : St} {a : Act} {w w' : World} {Θ : TEnv} {Γ : CEnv}

/-- The state at the entry. -/
def entry (n : Nat) (args : List SV) : St :=
  { n := n, tmps := fun t => match args[t]? with | some v => .sv v | none => .undef, objs := fun _ => none }

def isArr (st : St) (o : Nat) : Bool := match st.objs o with | some (.arr _ _ _ _) => true | _ => false

def finOne (Θ : TEnv) (st : St) : ResultVar → Option SV
  | .tmp t => match st.tmps t with | .sv v => some v | _ => none
  | .cell t ty => match Θ ty, st.tmps t with
    | some ti, .vptr o off => match st.objs o with
      | some (.var cs) => loadAtCells ti cs off
      | _ => none
    | _, _ => none
def finAll (Θ : TEnv) (st : St) : List ResultVar → Option (List SV)
  | [] => some []
  | r :: rs => match finOne Θ st r, finAll Θ st rs with
    | some v, some vs => some (v :: vs)
    | _, _ => none
def outOf : SV → Bool × List OCell
  | .one c => (false, [.plain c])
  | .agg cs => (true, cs.map .plain)
def outs : List SV → List (Bool × List OCell)
  | [] => []
  | v :: vs => outOf (v.kill fun _ => true) :: outs vs
/-- What the state hands back. -/
def fin (Θ : TEnv) (rv : List ResultVar) (st : St) : Option Out :=
  match finAll Θ (st.freeze (isArr st)) rv with
  | some vs => some ⟨outs vs⟩
  | none => none

theorem takeCells_plain : ∀ (k : Nat) (cs : List Cell), takeCells k (cs.map .plain) = (cs, [])
  | _, [] => rfl
  | k, c :: cs => by simp only [List.map_cons, takeCells, takeCells_plain (k + 1) cs, OCell.take, List.append_nil]
theorem takeRet_out (k : Nat) (v : SV) : takeRet k (outOf v) = (v, []) := by
  cases v with
  | one c => rfl
  | agg cs => simp only [takeRet, outOf, takeCells_plain]
theorem takeRets_outs : ∀ (k : Nat) (vs : List SV), takeRets k (outs vs) = (vs.map (SV.kill fun _ => true), [])
  | _, [] => rfl
  | k, v :: vs => by simp only [outs, takeRets, takeRet_out, takeRets_outs, List.map_cons, List.append_nil]

theorem sure_eq (v : Value) (t : TypeId) (b off : Nat) (hv : v = .pointer (some ⟨b, off, none⟩)) : Instr.loadAt t v = (do loadVar t (← asAddr v)) := by
  subst hv; rfl

def resOne (tmps : Array Value) : ResultVar → Sem Value
  | .tmp t => pure (tmps.getD t undef)
  | .cell x t => do loadVar t (← asAddr (tmps.getD x undef))
theorem results_eq (fn : Func) (tmps : Array Value) : results fn tmps = (do let vs ← fn.results.mapM (resOne tmps); pure (if h : vs.size = 1 then vs[0] else .tuple vs)) := by
  unfold results
  congr 1

theorem finOne_sound (hΘ : ∀ t ti, Θ t = some ti → TOK P t ti) (h : Rel w0 M T γ st a w) {r : ResultVar} {v : SV} (hf : finOne Θ st r = some v) :
    ∃ u, (resOne a.tmps r).run P w = .ok u w ∧ RepSV (viewOf w0 T γ st w) v u := by
  cases r with
  | tmp t =>
    simp only [finOne] at hf
    split at hf
    · next e =>
      cases hf
      have := h.tmps t
      rw [e] at this
      exact ⟨_, rfl, this⟩
    · cases hf
  | cell x t =>
    simp only [finOne] at hf
    split at hf
    · next ti o off ht hx =>
      split at hf
      · next cs ho =>
        have hv := h.tmps x
        rw [hx] at hv
        obtain ⟨b, cs', _, _, hv'⟩ := hv
        obtain ⟨u, hu, hr⟩ := calm_load hΘ h ht (x := .tmp x) (.inl ⟨o, off, cs, hx, ho, hf⟩)
        refine ⟨u, ?_, hr⟩
        rw [resOne, ← sure_eq _ t b off hv']
        exact hu
      · cases hf
    · cases hf

theorem finAll_sound (hΘ : ∀ t ti, Θ t = some ti → TOK P t ti) (h : Rel w0 M T γ st a w) : ∀ (rs : List ResultVar) (vs : List SV), finAll Θ st rs = some vs →
    ∃ us, (rs.mapM (resOne a.tmps)).run P w = .ok us w ∧
      RepSVs (viewOf w0 T γ st w) vs us
  | [], vs, hf => by cases hf; exact ⟨[], rfl, trivial⟩
  | r :: rs, vs, hf => by
    rw [finAll] at hf
    split at hf
    · next v vs' h1 h2 =>
      cases hf
      obtain ⟨u, hu, hr⟩ := finOne_sound hΘ h h1
      obtain ⟨us, hus, hrs⟩ := finAll_sound hΘ h rs vs' h2
      refine ⟨u :: us, ?_, hr, hrs⟩
      rw [List.mapM_cons, Sem.run_bind, hu]
      simp only [Result.andThen_ok, Sem.run_bind, hus, Sem.run_pure]
    · cases hf

theorem RepSVs.length {X : V} : ∀ (cs : List SV) (vs : List Value), RepSVs X cs vs → vs.length = cs.length
  | [], [], _ => rfl
  | _ :: cs, _ :: vs, ⟨_, h⟩ => by simp [RepSVs.length cs vs h]
  | [], _ :: _, H | _ :: _, [], H => by cases H
theorem RepSVs.get {X : V} : ∀ (cs : List SV) (vs : List Value) (i : Nat) (c : SV), RepSVs X cs vs → cs[i]? = some c → ∃ v, vs[i]? = some v ∧ RepSV X c v
  | [], _, _, _, _, h => by simp at h
  | c :: cs, v :: vs, 0, d, ⟨h1, _⟩, h => by simp at h; subst h; exact ⟨v, rfl, h1⟩
  | c :: cs, v :: vs, i + 1, d, ⟨_, h2⟩, h => by
    obtain ⟨u, hu, hr⟩ := RepSVs.get cs vs i d h2 (by simpa using h)
    exact ⟨u, by simpa using hu, hr⟩
  | _ :: _, [], _, _, H, _ => by cases H

theorem entry_rel {args : List SV} {vs : Array Value} {S : Nat → Prop} (n : Nat) (hn : args.length ≤ n)
    (h : RepSVs ⟨w, w.heap.size, S, fun _ => undef, fun _ => none⟩ args vs.toList) :
    Rel w (fun _ => False) S (fun _ => undef) (entry n args) { tmps := vs ++ Array.replicate (n - vs.size) undef, defers := [] } w := by
  have hl : vs.size = args.length := by simpa using RepSVs.length _ _ h
  refine ⟨fun _ h => h.elim, rfl, ?_, rfl, rfl, rfl, Nat.le_refl _, fun _ _ _ => rfl, fun t => ?_, (fun o x hx => by cases hx), (fun o x b hx => by cases hx), (fun o x p y b hx => by cases hx)⟩
  · simp [entry]; omega
  · simp only [entry]
    cases ha : args[t]? with
    | none => trivial
    | some v =>
      obtain ⟨u, hu, hr⟩ := RepSVs.get _ _ t v h ha
      have : (vs ++ Array.replicate (n - vs.size) undef).getD t undef = u := by
        have hlt : t < args.length := by
          rcases Nat.lt_or_ge t args.length with h' | h'
          · exact h'
          · rw [List.getElem?_eq_none h'] at ha; cases ha
        have hlt' : t < vs.size := by omega
        rw [Array.getD_eq_getD_getElem?, Array.getElem?_append_left hlt']
        have : vs[t]? = some u := by simpa using hu
        rw [this]; rfl
      rw [this]
      exact hr

/-- What is to be shown of a walk's end. -/
def endsK (Θ : TEnv) (rv : List ResultVar) (K : Out → Prop) (e : Exit) (st : St) : Prop :=
  match e with
  | .normal | .ret => match fin Θ rv st with
    | some o => K o
    | none => False
  | _ => False
def ends (Θ : TEnv) (rv : List ResultVar) (out : Out) : Exit → St → Prop := endsK Θ rv (fun o => o = out)

/-- From the walk of its code to what is known of a function's calls. -/
theorem conOK_of {G : Glob} (hE : EnvB P G Θ Γ) (hm : P.follows .mixedOrders = true) {f : FuncId} {fn : Func} {c : Code} (hf : P.funcs[f]? = some fn) (hb : fn.body = some c) (H : Hints) {con : Con}
    (hwalk : ∀ args p out, con args = some (p, out) → p → Nat.ble args.length fn.ntmps = true ∧ awp Θ Γ H c (ends Θ fn.results.toList out) (entry fn.ntmps args)) : ConOK P G f con := by
  intro args p out k S vs w hcon hp hG hrep
  obtain ⟨hn, hw⟩ := hwalk args p out hcon hp
  have hn' : args.length ≤ fn.ntmps := by simpa [Nat.ble_eq] using hn
  refine calls_of_wp hf hb (awp_sound ⟨hE, hG, fun b hb => hb.elim⟩ hm H c _ _ _ _ _ _ (entry_rel (S := S) fn.ntmps hn' hrep) hw ?_)
  have hret : ∀ s γ' a' w', ends Θ fn.results.toList out .ret s → Rel w (fun _ => False) S γ' s a' w' → bodyPost P fn (fun e w' => ∃ v vals, e = .returned v ∧ w'.os = w.os ∧ w'.tape = w.tape ∧ w'.output = w.output ∧ w.heap.size ≤ w'.heap.size ∧
      (∀ b, b < w.heap.size → w'.heap[b]? = w.heap[b]?) ∧
      RepAV ⟨w', w.heap.size, S, vals, look (out.take k).2⟩ (out.take k).1 v ∧
      (∀ o x, look (out.take k).2 o = some x → RepObj ⟨w', w.heap.size, S, vals, look (out.take k).2⟩ o x ∧ ∀ b, blk (vals o) = some b → w.heap.size ≤ b ∧ b < w'.heap.size) ∧
      (∀ o x q y b, look (out.take k).2 o = some x → look (out.take k).2 q = some y → o ≠ q → blk (vals o) = some b → blk (vals q) ≠ some b)) .ret a' w' := by
    intro s γ' a' w' he hR
    refine ⟨hR.defers, ?_⟩
    simp only [ends, endsK] at he
    split at he
    · next o ho =>
      subst he
      unfold fin at ho
      split at ho
      · next svs hvs =>
        cases ho
        have hRf := hR.freeze (isArr s)
        obtain ⟨us, hus, hrs⟩ := finAll_sound hE.types hRf _ _ hvs
        have hk := RepSVs.kill (fun _ => true) hRf svs us hrs
        have htake : Out.take k ⟨outs svs⟩ = (match svs.map (SV.kill fun _ => true) with | [v] => .sv v | l => .tup l, []) := by
          unfold Out.take
          simp only [takeRets_outs]
          rcases svs with _ | ⟨v, _ | ⟨v2, r⟩⟩ <;> rfl
        have hmap : (fn.results.mapM (resOne a'.tmps)).run P w' = .ok us.toArray w' := by
          rw [Array.mapM_eq_mapM_toList, Sem.run_map, hus]
          rfl
        refine ⟨if h : us.toArray.size = 1 then us.toArray[0] else .tuple us.toArray, ?_, _, γ', rfl, hR.os, hR.tape, hR.output, hR.grow, fun b hb => hR.kept b hb (fun h => h), ?_, ?_, ?_⟩
        · rw [results_eq, Sem.run_bind, hmap]
          simp only [Result.andThen_ok, Sem.run_pure]
        · rw [htake]
          have hl := RepSVs.length _ _ hk
          match hm : svs.map (SV.kill fun _ => true), us, hk, hl with
          | [v], [u], hk, _ => exact hk.1
          | [], [], hk, _ => exact ⟨_, by simp, hk⟩
          | v :: v2 :: r, u :: u2 :: us, hk, hl => exact ⟨_, by simp, hk⟩
          | [], _ :: _, hk, h4 | _ :: _, [], hk, h4 | [_], _ :: _ :: _, hk, h4 | _ :: _ :: _, [_], hk, h4 => simp at h4
        · intro o x hx; rw [htake] at hx; cases hx
        · intro o x q y b hx; rw [htake] at hx; cases hx
      · cases ho
    · exact he.elim
  intro e s γ' a' w' he hR
  cases e with
  | normal => exact hret s γ' a' w' he hR
  | ret => exact hret s γ' a' w' he hR
  | _ => exact he.elim
end Go.Fw

namespace Go.Fw
def codeOf (fn : Func) : Code := match fn.body with | some c => c | none => .skip
/-- Tables by number. -/
def findT : List (Nat × TI) → TEnv
  | [], _ => none
  | (t, x) :: r, i => match Nat.beq i t with | true => some x | false => findT r i
def findC : List (Nat × Con) → CEnv
  | [], _ => none
  | (t, x) :: r, i => match Nat.beq i t with | true => some x | false => findC r i
def findL : List (Nat × LoopSpec) → Nat → Option LoopSpec
  | [], _ => none
  | (t, x) :: r, i => match Nat.beq i t with | true => some x | false => findL r i
def hints (own : List Nat) (l : List (Nat × LoopSpec)) : Hints := ⟨memNum own, findL l⟩
end Go.Fw
/- What is known of a function, at the shapes of its arguments. -/
namespace Go.Fw
open Go

variable {P : Program} {Θ : TEnv} {Γ : CEnv}

/-- The shape of an argument. -/
inductive VSh where
  | one (c : CSh)
  | agg (l : List CSh)
@[reducible] def VSh.den : VSh → Type
  | .one c => c.den
  | .agg l => csDen l
def VSh.val : (s : VSh) → s.den → SV
  | .one c, x => .one (c.cell x)
  | .agg l, x => .agg (csCells l x)
def VSh.read : (s : VSh) → SV → Option s.den
  | .one c, .one x => c.read x
  | .agg l, .agg xs => csRead l xs
  | _, _ => none
theorem VSh.weak {X : V} (s : VSh) (x : SV) (d : s.den) (v : Value) (hr : s.read x = some d) (hv : RepSV X x v) : RepSV X (s.val d) v := by
  unfold VSh.read at hr
  split at hr
  · exact CSh.weak _ _ _ _ hr hv
  · obtain ⟨vs, e, h⟩ := hv
    exact ⟨vs, e, csWeak _ _ _ _ hr h⟩
  · cases hr
@[reducible] def vsDen : List VSh → Type
  | [] => Unit
  | s :: r => s.den × vsDen r
def vsVals : (l : List VSh) → vsDen l → List SV
  | [], _ => []
  | s :: r, x => s.val x.1 :: vsVals r x.2
def vsRead : (l : List VSh) → List SV → Option (vsDen l)
  | [], [] => some ()
  | s :: r, x :: xs => match s.read x, vsRead r xs with
    | some a, some b => some (a, b)
    | _, _ => none
  | _, _ => none
theorem vsWeak {X : V} : ∀ (l : List VSh) (xs : List SV) (d : vsDen l) (vs : List Value), vsRead l xs = some d → RepSVs X xs vs → RepSVs X (vsVals l d) vs
  | [], [], _, _, _, hv => hv
  | s :: r, x :: xs, d, vs, hr, hv => by
    rw [vsRead] at hr
    split at hr
    · next a b h1 h2 =>
      cases hr
      cases vs with
      | nil => cases hv
      | cons v vs => exact ⟨VSh.weak s x a v h1 hv.1, vsWeak r xs b vs h2 hv.2⟩
    · cases hr
  | [], _ :: _, _, _, hr, _ => by simp [vsRead] at hr
  | _ :: _, [], _, _, hr, _ => by simp [vsRead] at hr
theorem vsVals_length : ∀ (l : List VSh) (d : vsDen l), (vsVals l d).length = l.length
  | [], _ => rfl
  | _ :: r, d => by simp [vsVals, vsVals_length r d.2]

mutual
/-- What every value of a type keeps to. -/
def CT.inR : (c : CT) → c.den → Prop
  | .int k, (n : Int) => k.min ≤ n ∧ n ≤ k.max
  | .bool, _ => True
  | .str, (s : Bytes) => s.length ≤ maxLen
  | .sl _ r, (l : List r.den) => l.length ≤ maxLen ∧ ∀ x ∈ l, r.inR x
def CTs.inR : (r : CTs) → r.den → Prop
  | .nil, _ => True
  | .cons c r, x => c.inR x.1 ∧ r.inR x.2
end
mutual
theorem RepC.inR {h : Array Obj} {S : Nat → Prop} : ∀ (c : CT) (v : Value) (x : c.den), RepC h S c v x → c.inR x
  | .int k, v, (n : Int), H => by rw [RepC] at H; rw [CT.inR]; exact H.2
  | .bool, v, (b : Bool), H => by rw [CT.inR]; trivial
  | .str, v, (s : Bytes), H => by rw [RepC] at H; rw [CT.inR]; exact H.2
  | .sl e r, v, (l : List r.den), H => by
    rw [RepC] at H
    rw [CT.inR]
    refine ⟨H.1, fun x hx => ?_⟩
    obtain ⟨i, hi, rfl⟩ := List.mem_iff_getElem.1 hx
    rcases H.2 with ⟨hnil, _⟩ | ⟨b, off, cap, cs, t, fz, _, _, _, _, hr⟩
    · subst hnil; simp at hi
    · exact RepR.inR r _ _ (hr i _ (List.getElem?_eq_getElem hi))
theorem RepR.inR {h : Array Obj} {S : Nat → Prop} : ∀ (r : CTs) (vs : List Value) (x : r.den), RepR h S r vs x → r.inR x
  | .nil, vs, _, H => by rw [CTs.inR]; trivial
  | .cons c r, vs, (x, y), H => by
    rw [RepR] at H
    obtain ⟨v, vs', _, h1, h2⟩ := H
    rw [CTs.inR]
    exact ⟨RepC.inR c v x h1, RepR.inR r vs' y h2⟩
end
def CSh.inR : (c : CSh) → c.den → Prop
  | .int k, (n : Int) => k.min ≤ n ∧ n ≤ k.max
  | .str, (s : Bytes) => s.length ≤ maxLen
  | .sl _ r _, (l : List r.den) => l.length ≤ maxLen ∧ ∀ x ∈ l, r.inR x
  | _, _ => True
def csInR : (l : List CSh) → csDen l → Prop
  | [], _ => True
  | c :: r, x => c.inR x.1 ∧ csInR r x.2
def VSh.inR : (s : VSh) → s.den → Prop
  | .one c, x => c.inR x
  | .agg l, x => csInR l x
def vsInR : (l : List VSh) → vsDen l → Prop
  | [], _ => True
  | s :: r, x => s.inR x.1 ∧ vsInR r x.2
theorem CSh.rep_inR {X : V} (c : CSh) (x : c.den) (v : Value) (h : RepCell X (c.cell x) v) : c.inR x := by
  cases c with
  | int k => exact h.2
  | str => exact h.2
  | sl e r fr =>
    have h' : RepC X.w.heap (X.footF fr) (.sl e r) v x := h
    have := RepC.inR (.sl e r) v x h'
    rw [CT.inR] at this
    exact this
  | _ => trivial
theorem csRep_inR {X : V} : ∀ (l : List CSh) (x : csDen l) (vs : List Value), RepCells X (csCells l x) vs → csInR l x
  | [], _, _, _ => trivial
  | c :: r, x, v :: vs, h => ⟨CSh.rep_inR c x.1 v h.1, csRep_inR r x.2 vs h.2⟩
  | _ :: _, _, [], h => by cases h
theorem vsRep_inR {X : V} : ∀ (l : List VSh) (x : vsDen l) (vs : List Value), RepSVs X (vsVals l x) vs → vsInR l x
  | [], _, _, _ => trivial
  | .one c :: r, x, v :: vs, h => ⟨CSh.rep_inR c x.1 v h.1, vsRep_inR r x.2 vs h.2⟩
  | .agg l :: r, x, v :: vs, h => by
    obtain ⟨ws, hv, hc⟩ := h.1
    exact ⟨csRep_inR l x.1 _ hc, vsRep_inR r x.2 vs h.2⟩
  | _ :: _, _, [], h => by cases h

/-- What is known of a function at arguments of these shapes. -/
def conBy (sh : List VSh) (F : vsDen sh → Prop × Out) : Con := fun args =>
  match vsRead sh args with
  | some x => some (F x)
  | none => none

theorem conBy_ok {G : Glob} (hE : EnvB P G Θ Γ) (hm : P.follows .mixedOrders = true) {f : FuncId} {fn : Func} {c : Code} (hf : P.funcs[f]? = some fn) (hb : fn.body = some c) (H : Hints)
    {sh : List VSh} {F : vsDen sh → Prop × Out} (hn : Nat.ble sh.length fn.ntmps = true)
    (hwalk : ∀ x, vsInR sh x → (F x).1 → awp Θ Γ H c (ends Θ fn.results.toList (F x).2) (entry fn.ntmps (vsVals sh x))) : ConOK P G f (conBy sh F) := by
  have base : ∀ x, vsInR sh x → ConOK P G f (fun args => @ite _ (args = vsVals sh x) (Classical.propDecidable _) (some (F x)) none) := by
    intro x hin
    refine conOK_of hE hm hf hb H ?_
    intro args p out hcon hp
    split at hcon
    · next e =>
      have hF : F x = (p, out) := by simpa using hcon
      have := hwalk x hin (by rw [hF]; exact hp)
      rw [hF] at this
      rw [e]
      exact ⟨by rw [vsVals_length]; exact hn, this⟩
    · cases hcon
  intro args p out k S vs w hcon hp hG hrep
  unfold conBy at hcon
  split at hcon
  · next x hx =>
    have hv := vsWeak sh args x vs.toList hx hrep
    exact base x (vsRep_inR sh x _ hv) (vsVals sh x) p out k S vs w (by simp only [if_true]; exact hcon) hp hG hv
  · cases hcon
end Go.Fw
/- Contracts whose results are read by shapes. -/
namespace Go.Fw
open Go

variable {P : Program} {Θ : TEnv} {Γ : CEnv}

def outs0 : List SV → List (Bool × List OCell)
  | [] => []
  | v :: vs => outOf v :: outs0 vs
theorem takeRets_outs0 : ∀ (k : Nat) (vs : List SV), takeRets k (outs0 vs) = (vs, [])
  | _, [] => rfl
  | k, v :: vs => by simp only [outs0, takeRets, takeRet_out, takeRets_outs0, List.append_nil]

/-- What is to be shown of a walk's end: the results, read by their shapes. -/
def endsV (Θ : TEnv) (rv : List ResultVar) (rsh : List VSh) (K : vsDen rsh → Prop) (e : Exit) (st : St) : Prop :=
  match e with
  | .normal | .ret => match finAll Θ (st.freeze (isArr st)) rv with
    | some vs => match vsRead rsh (vs.map (SV.kill fun _ => true)) with
      | some d => K d
      | none => False
    | none => False
  | _ => False

theorem conV_of {G : Glob} (hE : EnvB P G Θ Γ) (hm : P.follows .mixedOrders = true) {f : FuncId} {fn : Func} {c : Code} (hf : P.funcs[f]? = some fn) (hb : fn.body = some c) (H : Hints) {con : Con} {rsh : List VSh}
    (hwalk : ∀ args p out, con args = some (p, out) → p → Nat.ble args.length fn.ntmps = true ∧ ∃ d : vsDen rsh, out = ⟨outs0 (vsVals rsh d)⟩ ∧ awp Θ Γ H c (endsV Θ fn.results.toList rsh fun y => y = d) (entry fn.ntmps args)) : ConOK P G f con := by
  intro args p out k S vs w hcon hp hG hrep
  obtain ⟨hn, d, hout, hw⟩ := hwalk args p out hcon hp
  subst hout
  have hn' : args.length ≤ fn.ntmps := by simpa [Nat.ble_eq] using hn
  refine calls_of_wp hf hb (awp_sound ⟨hE, hG, fun b hb => hb.elim⟩ hm H c _ _ _ _ _ _ (entry_rel (S := S) fn.ntmps hn' hrep) hw ?_)
  have hret : ∀ s γ' a' w', endsV Θ fn.results.toList rsh (fun y => y = d) .ret s → Rel w (fun _ => False) S γ' s a' w' → bodyPost P fn (fun e w' => ∃ v vals, e = .returned v ∧ w'.os = w.os ∧ w'.tape = w.tape ∧ w'.output = w.output ∧ w.heap.size ≤ w'.heap.size ∧
      (∀ b, b < w.heap.size → w'.heap[b]? = w.heap[b]?) ∧
      RepAV ⟨w', w.heap.size, S, vals, look (Out.take k ⟨outs0 (vsVals rsh d)⟩).2⟩ (Out.take k ⟨outs0 (vsVals rsh d)⟩).1 v ∧
      (∀ o x, look (Out.take k ⟨outs0 (vsVals rsh d)⟩).2 o = some x → RepObj ⟨w', w.heap.size, S, vals, look (Out.take k ⟨outs0 (vsVals rsh d)⟩).2⟩ o x ∧ ∀ b, blk (vals o) = some b → w.heap.size ≤ b ∧ b < w'.heap.size) ∧
      (∀ o x q y b, look (Out.take k ⟨outs0 (vsVals rsh d)⟩).2 o = some x → look (Out.take k ⟨outs0 (vsVals rsh d)⟩).2 q = some y → o ≠ q → blk (vals o) = some b → blk (vals q) ≠ some b)) .ret a' w' := by
    intro s γ' a' w' he hR
    refine ⟨hR.defers, ?_⟩
    simp only [endsV] at he
    split at he
    · next svs hvs =>
      split at he
      · next y hy =>
        subst he
        have hRf := hR.freeze (isArr s)
        obtain ⟨us, hus, hrs⟩ := finAll_sound hE.types hRf _ _ hvs
        have hk0 := RepSVs.kill (fun _ => true) hRf svs us hrs
        have hk := vsWeak rsh _ y us hy hk0
        have htake : Out.take k ⟨outs0 (vsVals rsh y)⟩ = (match vsVals rsh y with | [v] => .sv v | l => .tup l, []) := by
          unfold Out.take
          simp only [takeRets_outs0]
          rcases vsVals rsh y with _ | ⟨v, _ | ⟨v2, r⟩⟩ <;> rfl
        have hmap : (fn.results.mapM (resOne a'.tmps)).run P w' = .ok us.toArray w' := by
          rw [Array.mapM_eq_mapM_toList, Sem.run_map, hus]
          rfl
        refine ⟨if h : us.toArray.size = 1 then us.toArray[0] else .tuple us.toArray, ?_, _, γ', rfl, hR.os, hR.tape, hR.output, hR.grow, fun b hb => hR.kept b hb (fun h => h), ?_, ?_, ?_⟩
        · rw [results_eq, Sem.run_bind, hmap]
          simp only [Result.andThen_ok, Sem.run_pure]
        · rw [htake]
          have hl := RepSVs.length _ _ hk
          match hm : vsVals rsh y, us, hk, hl with
          | [v], [u], hk, _ => exact hk.1
          | [], [], hk, _ => exact ⟨_, by simp, hk⟩
          | v :: v2 :: r, u :: u2 :: us, hk, hl => exact ⟨_, by simp, hk⟩
          | [], _ :: _, hk, h4 | _ :: _, [], hk, h4 | [_], _ :: _ :: _, hk, h4 | _ :: _ :: _, [_], hk, h4 => simp at h4
        · intro o x hx; rw [htake] at hx; cases hx
        · intro o x q y b hx; rw [htake] at hx; cases hx
      · exact he.elim
    · exact he.elim
  intro e s γ' a' w' he hR
  cases e with
  | normal => exact hret s γ' a' w' he hR
  | ret => exact hret s γ' a' w' he hR
  | _ => exact he.elim

/-- What is known of a function at arguments and results of these shapes. -/
def conR (sh rsh : List VSh) (F : vsDen sh → Prop × vsDen rsh) : Con := conBy sh fun x => ((F x).1, ⟨outs0 (vsVals rsh (F x).2)⟩)

theorem conR_ok {G : Glob} (hE : EnvB P G Θ Γ) (hm : P.follows .mixedOrders = true) {f : FuncId} {fn : Func} {c : Code} (hf : P.funcs[f]? = some fn) (hb : fn.body = some c) (H : Hints)
    {sh rsh : List VSh} {F : vsDen sh → Prop × vsDen rsh} (hn : Nat.ble sh.length fn.ntmps = true)
    (hwalk : ∀ x, vsInR sh x → (F x).1 → awp Θ Γ H c (endsV Θ fn.results.toList rsh fun y => y = (F x).2) (entry fn.ntmps (vsVals sh x))) : ConOK P G f (conR sh rsh F) := by
  have base : ∀ x, vsInR sh x → ConOK P G f (fun args => @ite _ (args = vsVals sh x) (Classical.propDecidable _) (some ((F x).1, ⟨outs0 (vsVals rsh (F x).2)⟩)) none) := by
    intro x hin
    refine conV_of (rsh := rsh) hE hm hf hb H ?_
    intro args p out hcon hp
    split at hcon
    · next e =>
      have hF : ((F x).1, (⟨outs0 (vsVals rsh (F x).2)⟩ : Out)) = (p, out) := by simpa using hcon
      have h1 : (F x).1 = p := congrArg Prod.fst hF
      have h2 : (⟨outs0 (vsVals rsh (F x).2)⟩ : Out) = out := congrArg Prod.snd hF
      have := hwalk x hin (by rw [h1]; exact hp)
      rw [e]
      exact ⟨by rw [vsVals_length]; exact hn, (F x).2, h2.symm, this⟩
    · cases hcon
  intro args p out k S vs w hcon hp hG hrep
  unfold conR conBy at hcon
  split at hcon
  · next x hx =>
    have hv := vsWeak sh args x vs.toList hx hrep
    exact base x (vsRep_inR sh x _ hv) (vsVals sh x) p out k S vs w (by simp only [if_true]; exact hcon) hp hG hv
  · cases hcon
end Go.Fw
/- The facts on types and functions, by a check. -/
namespace Go.Fw
open Go

def CT.isZero : CT → Value → Bool
  | .int k, .int l n => decide (k = l) && decide (n = 0)
  | .bool, .bool b => !b
  | .str, .string s => s.data.toList.isEmpty
  | .sl _ _, .slice none 0 0 => true
  | _, _ => false
def CTs.isZeros : CTs → List Value → Bool
  | .nil, [] => true
  | .cons c r, v :: vs => c.isZero v && r.isZeros vs
  | _, _ => false
theorem CT.isZero_eq : ∀ (c : CT) (v : Value), c.isZero v = true → v = c.zeroVal := by
  intro c v h
  unfold CT.isZero at h
  split at h
  · simp at h; rw [h.1, h.2]; rfl
  · simp at h; subst h; rfl
  · next s =>
    obtain ⟨⟨l⟩⟩ := s
    simp at h
    subst h; rfl
  · rfl
  · cases h
theorem CTs.isZeros_eq : ∀ (r : CTs) (vs : List Value), r.isZeros vs = true → vs = r.zeroVals
  | .nil, [], _ => rfl
  | .cons c r, v :: vs, h => by
    rw [isZeros, Bool.and_eq_true] at h
    rw [CTs.zeroVals, CT.isZero_eq c v h.1, CTs.isZeros_eq r vs h.2]
  | .nil, _ :: _, h | .cons _ _, [], h => by simp [isZeros] at h

def descEq : TypeDesc → TypeDesc → Bool
  | .int k, .int l => decide (k = l)
  | .bool, .bool => true
  | .string, .string => true
  | .slice e, .slice f => Nat.beq e f
  | _, _ => false
theorem descEq_eq : ∀ (c d : TypeDesc), descEq c d = true → c = d := by
  intro c d h
  unfold descEq at h
  split at h
  · rw [of_decide_eq_true h]
  · rfl
  · rfl
  · rw [Nat.eq_of_beq_eq_true h]
  · cases h
def fieldsEq (P : Program) : List (Nat × TypeId) → List Field → Bool
  | [], [] => true
  | (o, t) :: r, f :: fs => Nat.beq o f.offset && Nat.beq t f.type && (P.info? f.type).isSome && fieldsEq P r fs
  | _, _ => false
theorem fieldsEq_eq {P : Program} : ∀ (l : List (Nat × TypeId)) (fs : List Field), fieldsEq P l fs = true → l = fs.map (fun f => (f.offset, f.type)) ∧ ∀ f ∈ fs, (P.info? f.type).isSome = true
  | [], [], _ => ⟨rfl, by simp⟩
  | (o, t) :: r, f :: fs, h => by
    rw [fieldsEq, Bool.and_eq_true, Bool.and_eq_true, Bool.and_eq_true] at h
    obtain ⟨⟨⟨h1, h2⟩, h3⟩, h4⟩ := h
    obtain ⟨e, hall⟩ := fieldsEq_eq r fs h4
    refine ⟨by rw [List.map_cons, ← e, Nat.eq_of_beq_eq_true h1, Nat.eq_of_beq_eq_true h2], fun g hg => ?_⟩
    rcases List.mem_cons.1 hg with rfl | hg
    · exact h3
    · exact hall g hg
  | [], _ :: _, h | _ :: _, [], h => by simp [fieldsEq] at h

def kindOK (P : Program) (t : TypeId) (ti : TI) : Bool :=
  match ti.kind, P.underlying t with
  | .scalar, some d => match ti.cells.desc with | some c => descEq c d | none => false
  | .str, some .string => ti.cells.beq (.cons .str .nil)
  | .slice e, some (.slice f) => Nat.beq e f && (match ti.cells with | .cons (.sl g _) .nil => Nat.beq g e | _ => false)
  | .struct fs, some (.struct flds) => fieldsEq P fs flds.toList
  | _, _ => false
def oneZero (ti : TI) (z : Value) : Bool := match ti.kind with
  | .struct _ => true
  | _ => z.oneCell'
def checkTI (P : Program) (t : TypeId) (ti : TI) : Bool :=
  match P.info? t with
  | some i => match i.zero with
    | some z => Nat.beq i.size ti.cells.len && Nat.beq i.bytes ti.bytes && ti.cells.isZeros z.cells.toList && oneZero ti z && kindOK P t ti && Nat.ble ti.bytes 4096 && !ti.cmp
    | none => false
  | none => false
theorem TOK.of_check {P : Program} {t : TypeId} {ti : TI} (h : checkTI P t ti = true) : TOK P t ti := by
  unfold checkTI at h
  split at h
  · next i hi =>
    split at h
    · next z hz =>
      simp only [Bool.and_eq_true] at h
      obtain ⟨⟨⟨⟨⟨⟨h1, h2⟩, h3⟩, h4⟩, h5⟩, h6⟩, h7⟩ := h
      refine ⟨⟨i, z, hi, Nat.eq_of_beq_eq_true h1, Nat.eq_of_beq_eq_true h2, hz, CTs.isZeros_eq _ _ h3, fun hagg => ?_⟩, ?_, by simpa [Nat.ble_eq] using h6, fun e => by rw [e] at h7; simp at h7⟩
      · unfold oneZero at h4
        unfold TI.agg at hagg
        split at h4
        · next hk => rw [hk] at hagg; cases hagg
        · exact cells_of_one z h4
      · unfold kindOK at h5
        split at h5
        · next d hk hu =>
          rw [hk]
          split at h5
          · next c hc => exact ⟨d, by rw [hc, descEq_eq c d h5], hu⟩
          · cases h5
        · next hk hu => rw [hk]; exact ⟨hu, CTs.eq_of_beq _ _ h5⟩
        · next e f hk hu =>
          rw [hk]
          rw [Bool.and_eq_true] at h5
          have hef := Nat.eq_of_beq_eq_true h5.1
          subst hef
          refine ⟨hu, ?_⟩
          have h52 := h5.2
          split at h52
          · next g r hg => exact ⟨r, by rw [hg, Nat.eq_of_beq_eq_true h52]⟩
          · cases h52
        · next fs flds hk hu =>
          rw [hk]
          obtain ⟨e, hall⟩ := fieldsEq_eq _ _ h5
          exact ⟨flds, hu, e, hall⟩
        · cases h5
    · cases h
  · cases h

def checkTs (P : Program) : List (Nat × TI) → Bool
  | [] => true
  | (t, ti) :: r => checkTI P t ti && checkTs P r
theorem types_ok {P : Program} : ∀ {l : List (Nat × TI)}, checkTs P l = true → ∀ t ti, findT l t = some ti → TOK P t ti
  | [], _, t, ti, h => by cases h
  | (i, x) :: r, hc, t, ti, h => by
    rw [checkTs, Bool.and_eq_true] at hc
    rw [findT] at h
    cases hb : Nat.beq t i with
    | true => rw [hb] at h; cases h; rw [Nat.eq_of_beq_eq_true hb]; exact .of_check hc.1
    | false => rw [hb] at h; exact types_ok hc.2 t ti h

/-- A function of the program with a body of its own, called by its number. -/
def checkFn (fn : Func) : Bool := fn.body.isSome && !(fn.name == "runtime.NumGoroutine")
theorem callable_of {P : Program} {f : FuncId} {fn : Func} (hf : P.funcs[f]? = some fn) (hc : checkFn fn = true) : Callable P f := by
  intro args w
  unfold checkFn at hc
  rw [Bool.and_eq_true] at hc
  have h1 : (fn.name == "runtime.NumGoroutine") = false := by simpa using hc.2
  have h2 : fn.body.isNone = false := by cases hb : fn.body with | none => rw [hb] at hc; simp at hc | some _ => rfl
  unfold callFunc
  simp only [Sem.run_bind, run_program, Result.andThen_ok, hf, h1, h2, Bool.false_eq_true, if_false, Sem.run_pure]

theorem env_of {P : Program} {G : Glob} {Θ : TEnv} (hT : ∀ t ti, Θ t = some ti → TOK P t ti) : ∀ {l : List (Nat × Con)}, (∀ x ∈ l, ConOK P G x.1 x.2 ∧ Callable P x.1) → EnvB P G Θ (findC l)
  | [], _ => ⟨hT, fun f con h => by cases h⟩
  | (i, c) :: r, h => by
    refine ⟨hT, fun f con hf => ?_⟩
    rw [findC] at hf
    cases hb : Nat.beq f i with
    | true => rw [hb] at hf; cases hf; rw [Nat.eq_of_beq_eq_true hb]; exact h _ List.mem_cons_self
    | false => rw [hb] at hf; exact (env_of hT fun x hx => h x (List.mem_cons_of_mem _ hx)).cons f con hf
end Go.Fw
/- Small helps for the goals of the walk. -/
namespace Go.Fw
open Go

theorem cond_intro {b : Bool} {A B : Prop} (h1 : b = true → A) (h2 : b = false → B) : cond b A B := by
  cases b
  · exact h2 rfl
  · exact h1 rfl
theorem drop_cons {α : Type} (a : List α) (n : Nat) (d : α) (h : n < a.length) : a.drop n = a.getD n d :: a.drop (n + 1) := by
  rw [List.drop_eq_getElem_cons h, List.getD_eq_getElem?_getD, List.getElem?_eq_getElem h, Option.getD_some]
theorem wrapIn (z : Int) (h : -9223372036854775808 ≤ z ∧ z ≤ 9223372036854775807) : IntKind.i64.wrap z = z := IntWalk.i64_in z (by omega)
theorem maxLen_eq : maxLen = 9223372036854775807 := by decide
theorem big_eq : big = 4294967296 := rfl
theorem getD_mem {α : Type} {l : List α} {n : Nat} {d : α} (h : n < l.length) : l.getD n d ∈ l := by
  rw [List.getD_eq_getElem?_getD, List.getElem?_eq_getElem h, Option.getD_some]; exact List.getElem_mem h
end Go.Fw
namespace Go.Fw
open Go
/-- What is asked of a call's end, by name. -/
def PostOf (w : World) (S : Nat → Prop) (k : Nat) (out : Out) (e : Ending) (w' : World) : Prop :=
  ∃ v vals, e = .returned v ∧ w'.os = w.os ∧ w'.tape = w.tape ∧ w'.output = w.output ∧ w.heap.size ≤ w'.heap.size ∧
      (∀ b, b < w.heap.size → w'.heap[b]? = w.heap[b]?) ∧
      RepAV ⟨w', w.heap.size, S, vals, Fw.look (out.take k).2⟩ (out.take k).1 v ∧
      (∀ o x, Fw.look (out.take k).2 o = some x → RepObj ⟨w', w.heap.size, S, vals, Fw.look (out.take k).2⟩ o x ∧ ∀ b, blk (vals o) = some b → w.heap.size ≤ b ∧ b < w'.heap.size) ∧
      (∀ o x q y b, Fw.look (out.take k).2 o = some x → Fw.look (out.take k).2 q = some y → o ≠ q → blk (vals o) = some b → blk (vals q) ≠ some b)
theorem post_str {w w' : World} {S : Nat → Prop} {k : Nat} {s : Bytes} (hos : w'.os = w.os) (htape : w'.tape = w.tape) (hout : w'.output = w.output) (hsize : w.heap.size ≤ w'.heap.size)
    (hblock : ∀ b, b < w.heap.size → w'.heap[b]? = w.heap[b]?) (hs : s.length ≤ maxLen) : PostOf w S k ⟨[(false, [.plain (.str s)])]⟩ (.returned (.string ⟨s.toArray⟩)) w' :=
  ⟨_, fun _ => undef, rfl, hos, htape, hout, hsize, hblock, ⟨rfl, hs⟩, (fun o x hx => by cases hx), (fun o x q y b hx => by cases hx)⟩
end Go.Fw
/- From the reading of an argument to what the walk says of it. -/
namespace Go.Fw
open Go

variable {P : Program} {H : Type} {enc : TypeId × Value → H} {w : World}

def CTs.app : CTs → CTs → CTs
  | .nil, s => s
  | .cons c r, s => .cons c (r.app s)
def joinR : (r s : CTs) → r.den → s.den → (r.app s).den
  | .nil, _, _, y => y
  | .cons _ r, s, x, y => (x.1, joinR r s x.2 y)
theorem RepR.app {h : Array Obj} {S : Nat → Prop} : ∀ (r s : CTs) (x : r.den) (y : s.den) (vs us : List Value), RepR h S r vs x → RepR h S s us y → RepR h S (r.app s) (vs ++ us) (joinR r s x y)
  | .nil, s, x, y, vs, us, h1, h2 => by rw [RepR] at h1; subst h1; exact h2
  | .cons c r, s, (x, x'), y, vs, us, h1, h2 => by
    rw [RepR] at h1
    obtain ⟨v, vs', rfl, g1, g2⟩ := h1
    show RepR h S (.cons c (r.app s)) (v :: (vs' ++ us)) (x, joinR r s x' y)
    rw [RepR]
    exact ⟨v, vs' ++ us, rfl, g1, RepR.app r s x' y vs' us g2 h2⟩

theorem add_add (a : Addr) (h : a.spot = none) (m j : Nat) : (a.add m).add j = ⟨a.block, a.off + m + j, none⟩ := by
  obtain ⟨b, o, sp⟩ := a
  simp only at h
  subst h
  unfold Addr.add
  by_cases hm : m = 0
  · by_cases hj : j = 0
    · simp [hm, hj]
    · simp [hm, hj]
  · by_cases hj : j = 0
    · simp [hm, hj]
    · simp [hm, hj]

def rowFields (f : TypeId → Option CTs) : List Field → Nat → Option CTs
  | [], _ => some .nil
  | x :: r, off => match f x.type with
    | some s => match rowFields f r (off + s.len), Nat.beq x.offset off with
      | some u, true => some (s.app u)
      | _, _ => none
    | none => none
/-- The cells of a type, as its table spells them. -/
def rowOf (P : Program) : Nat → TypeId → Option CTs
  | 0, _ => none
  | n + 1, t => match P.underlying t with
    | some (.int k) => some (.cons (.int k) .nil)
    | some .bool => some (.cons .bool .nil)
    | some .string => some (.cons .str .nil)
    | some (.slice e) => match rowOf P n e with
      | some s => match Nat.beq s.len (P.cellsOf e) && Nat.ble 1 s.len with
        | true => some (.cons (.sl e s) .nil)
        | false => none
      | none => none
    | some (.struct fs) => match rowFields (rowOf P n) fs.toList 0 with
      | some r => match Nat.beq r.len (P.cellsOf t) with
        | true => match fs.toList.all fun f => match rowOf P n f.type with | some s => Nat.beq s.len (P.cellsOf f.type) | none => false with
          | true => some r
          | false => none
        | false => none
      | none => none
    | _ => none

theorem list_of {α : Type} {Q : Nat → α → Prop} : ∀ (n : Nat), (∀ i, i < n → ∃ x, Q i x) → ∃ l : List α, l.length = n ∧ ∀ i x, l[i]? = some x → Q i x
  | 0, _ => ⟨[], rfl, fun i x h => by simp at h⟩
  | n + 1, h => by
    obtain ⟨l, hl, hq⟩ := list_of n fun i hi => h i (by omega)
    obtain ⟨x, hx⟩ := h n (by omega)
    refine ⟨l ++ [x], by simp [hl], fun i y hy => ?_⟩
    rcases Nat.lt_or_ge i n with hi | hi
    · rw [List.getElem?_append_left (by omega)] at hy; exact hq i y hy
    · rw [List.getElem?_append_right (by omega)] at hy
      have : i = n := by
        rcases Nat.lt_or_ge n i with h' | h'
        · rw [List.getElem?_eq_none (by simp; omega)] at hy; cases hy
        · omega
      subst this
      simp [hl] at hy
      rw [← hy]; exact hx

theorem app_len : ∀ (r s : CTs), (r.app s).len = r.len + s.len
  | .nil, s => by simp [CTs.app, CTs.len]
  | .cons c r, s => by simp only [CTs.app, CTs.len, app_len r s]; omega

theorem fields_rep {f : TypeId → Option CTs} {S : Nat → Prop} {h : Array Obj} (cs : List Value)
    (part : ∀ (t : TypeId) (r : CTs) (off : Nat), f t = some r → (∃ g : Field, g.type = t ∧ g.offset = off) → True) : ∀ (fs : List Field) (off : Nat) (r : CTs), rowFields f fs off = some r →
    (∀ g ∈ fs, ∀ s, f g.type = some s → ∃ x, RepR h S s ((cs.drop g.offset).take s.len) x) →
    ∃ x, RepR h S r ((cs.drop off).take r.len) x
  | [], off, r, hr, _ => by
    cases hr
    exact ⟨(), by rw [RepR]; simp [CTs.len]⟩
  | g :: fs, off, r, hr, hall => by
    rw [rowFields] at hr
    split at hr
    · next s hs =>
      split at hr
      · next u hu hb =>
        cases hr
        obtain ⟨x, hx⟩ := hall g List.mem_cons_self s hs
        rw [Nat.eq_of_beq_eq_true hb] at hx
        obtain ⟨y, hy⟩ := fields_rep cs part fs (off + s.len) u hu fun g' hg' => hall g' (List.mem_cons_of_mem _ hg')
        refine ⟨joinR s u x y, ?_⟩
        have := RepR.app s u x y _ _ hx hy
        rw [app_len]
        have e : (cs.drop off).take (s.len + u.len) = (cs.drop off).take s.len ++ (cs.drop (off + s.len)).take u.len := by
          rw [List.take_add, List.drop_drop]
        rw [e]; exact this
      · cases hr
    · cases hr

/-- What is read of a row of cells stands for a value of the walk. -/
theorem trod_rep : ∀ (n : Nat) (t : TypeId) (r : CTs), rowOf P n t = some r → ∀ (m : Nat) (base : Nat) (spare : Nat → Bool) (held : Bool) (cs : List Value) (x : DataW H × List MemPlace),
    DataW.trod enc P w base spare held m t cs = some x → ∃ y, RepR w.heap (fun b => b < w.heap.size) r cs y
  | 0, t, r, hr => by cases hr
  | n + 1, t, r, hr => by
    intro m base spare held cs x hx
    rw [rowOf] at hr
    split at hr
    · next k hu =>
      cases hr
      obtain ⟨i, rfl, _, hwf⟩ := DataW.trod_int hu hx
      simp only [Lit.wf, Bool.and_eq_true, decide_eq_true_eq] at hwf
      exact ⟨(i, ()), by rw [RepR]; exact ⟨_, [], rfl, by rw [RepC]; exact ⟨rfl, hwf⟩, by rw [RepR]⟩⟩
    · next hu =>
      cases hr
      obtain ⟨b, rfl, _⟩ := DataW.trod_bool hu hx
      exact ⟨(b, ()), by rw [RepR]; exact ⟨_, [], rfl, by rw [RepC], by rw [RepR]⟩⟩
    · next hu =>
      cases hr
      obtain ⟨s, rfl, _, hs⟩ := DataW.trod_string hu hx
      refine ⟨(s.data.toList, ()), by rw [RepR]; exact ⟨_, [], rfl, by rw [RepC]; exact ⟨by simp, by simpa using hs⟩, by rw [RepR]⟩⟩
    · next e hu =>
      split at hr
      · next s hs =>
        split at hr
        · next hb =>
          cases hr
          rw [Bool.and_eq_true] at hb
          have hlen := Nat.eq_of_beq_eq_true hb.1
          have hpos : 1 ≤ s.len := by simpa [Nat.ble_eq] using hb.2
          rcases DataW.trod_slice hu hx with ⟨rfl, _⟩ | ⟨a, len, cap, elems, rest, k, _, rfl, _, hbase, hle, hmax, hel, hrow, _, _⟩
          · exact ⟨([], ()), by rw [RepR]; exact ⟨_, [], rfl, by rw [RepC]; exact ⟨by simp, .inl ⟨rfl, none, 0, rfl⟩⟩, by rw [RepR]⟩⟩
          · by_cases h0 : len = 0
            · subst h0
              exact ⟨([], ()), by rw [RepR]; exact ⟨_, [], rfl, by rw [RepC]; exact ⟨by simp, .inl ⟨rfl, some a, cap, rfl⟩⟩, by rw [RepR]⟩⟩
            · have each : ∀ i, i < len → ∃ (ys : List Value) (z : s.den), w.cells? base (a.add (i * P.cellsOf e)) (P.cellsOf e) = some ys ∧ RepR w.heap (fun b => b < w.heap.size) s ys z := by
                intro i hi
                have h1 := hrow i hi
                rw [List.getElem?_eq_getElem (by omega)] at h1
                obtain ⟨ys, hys, hy2⟩ := Option.bind_eq_some_iff.1 h1
                obtain ⟨z, hz⟩ := trod_rep n e s hs k base spare held ys _ hy2
                exact ⟨ys, z, hys, hz⟩
              -- the block
              obtain ⟨ys0, z0, hc0, hz0⟩ := each 0 (by omega)
              obtain ⟨_, hl0, hcell0⟩ := World.cells?_some hc0
              have hc00 := hcell0 0 (by omega)
              simp only [Nat.zero_mul, Addr.add, if_true] at hc00
              have hys0 : ∃ v, ys0[0]? = some v := ⟨ys0[0]'(by omega), by simp [show 0 < ys0.length by omega]⟩
              obtain ⟨v0, hv0⟩ := hys0
              rw [hv0] at hc00
              unfold World.cell? at hc00
              split at hc00
              · next c ty fz hblk =>
                split at hc00
                · cases hc00
                · next hsp =>
                  have hspot : a.spot = none := by cases h : a.spot with | none => rfl | some q => rw [h] at hsp; simp at hsp
                  have ha : a = ⟨a.block, a.off, none⟩ := by cases a; simp at hspot; rw [hspot]
                  have hb' : a.block < w.heap.size := by
                    obtain ⟨hlt, _⟩ := Array.getElem?_eq_some_iff.1 hblk
                    exact hlt
                  have rows : ∀ i, i < len → ∃ z : s.den, RepR w.heap (fun b => b < w.heap.size) s ((c.toList.drop (a.off + i * s.len)).take s.len) z := by
                    intro i hi
                    obtain ⟨ys, z, hcs, hz⟩ := each i hi
                    obtain ⟨_, hl, hcell⟩ := World.cells?_some hcs
                    refine ⟨z, ?_⟩
                    have : (c.toList.drop (a.off + i * s.len)).take s.len = ys := by
                      refine List.ext_getElem? fun j => ?_
                      rcases Nat.lt_or_ge j s.len with hj | hj
                      · rw [List.getElem?_take_of_lt hj, List.getElem?_drop]
                        have h2 := hcell j (by omega)
                        have hadd := add_add a hspot (i * P.cellsOf e) j
                        rw [← hlen] at hadd h2
                        rw [hadd] at h2
                        unfold World.cell? at h2
                        simp only [hblk, Option.isSome_none, Bool.false_eq_true, if_false] at h2
                        rw [← h2]
                        simp
                      · rw [List.getElem?_eq_none (by simp; omega), List.getElem?_eq_none (by omega)]
                    rw [this]; exact hz
                  obtain ⟨l, hll, hlq⟩ := list_of len rows
                  refine ⟨(l, ()), by rw [RepR]; exact ⟨_, [], rfl, by rw [RepC]; exact ⟨by omega, .inr ⟨a.block, a.off, cap, c, ty, fz, by rw [hll, ← ha], by omega, hb', hblk, hlq⟩⟩, by rw [RepR]⟩⟩
              · cases hc00
        · cases hr
      · cases hr
    · next fs hu =>
      split at hr
      · next r' hf =>
        split at hr
        · next hb =>
          split at hr
          · next hall =>
            cases hr
            obtain ⟨xs, k, _, _, hcl, hxl, hparts⟩ := DataW.trod_struct hu hx
            have hlen := Nat.eq_of_beq_eq_true hb
            have := fields_rep (h := w.heap) (S := fun b => b < w.heap.size) cs (fun _ _ _ _ _ => trivial) fs.toList 0 _ hf ?_
            · obtain ⟨y, hy⟩ := this
              refine ⟨y, ?_⟩
              rw [List.drop_zero, List.take_of_length_le (by omega)] at hy
              exact hy
            · intro g hg s hs
              have hg2 := List.all_eq_true.1 hall g hg
              rw [hs] at hg2
              have hsl := Nat.eq_of_beq_eq_true hg2
              obtain ⟨i, hi, hgi⟩ := List.mem_iff_getElem.1 hg
              have hp := hparts i g (by rw [← hgi]; simp [show i < fs.size by simpa using hi])
              rw [List.getElem?_eq_getElem (by simp at hi; omega)] at hp
              rw [hsl]
              exact trod_rep n g.type s hs k base spare held _ _ hp
          · cases hr
        · cases hr
      · cases hr
    · cases hr
end Go.Fw
/- The top of a law: its call returns true, and what was there is as it was. -/
namespace Go.Fw
open Go

variable {P : Program} {H : Type} {enc : TypeId × Value → H} {w : World}

def CT.csh : CT → CSh
  | .int k => .int k
  | .bool => .bool
  | .str => .str
  | .sl e r => .sl e r false
def toC : (c : CT) → c.den → c.csh.den
  | .int _, x => x
  | .bool, x => x
  | .str, x => x
  | .sl _ _, x => x
def CTs.shs : CTs → List CSh
  | .nil => []
  | .cons c r => c.csh :: r.shs
def toCs : (r : CTs) → r.den → csDen r.shs
  | .nil, _ => ()
  | .cons c r, x => (toC c x.1, toCs r x.2)

theorem rep_shs (X : V) : ∀ (r : CTs) (vs : List Value) (x : r.den), RepR X.w.heap (X.footF false) r vs x → RepCells X (csCells r.shs (toCs r x)) vs
  | .nil, vs, x, h => by rw [RepR] at h; subst h; trivial
  | .cons c r, vs, (x, y), h => by
    rw [RepR] at h
    obtain ⟨v, vs', rfl, h1, h2⟩ := h
    refine ⟨?_, rep_shs X r vs' y h2⟩
    cases c with
    | int k => exact h1
    | bool => exact h1
    | str => exact h1
    | sl e r => exact h1

/-- The shape of a parameter of type t. -/
def argSh (P : Program) (t : TypeId) : Option VSh :=
  match rowOf P 64 t with
  | some r => match P.underlying t with
    | some (.struct _) => some (.agg r.shs)
    | some (.array _ _) => none
    | _ => match r with
      | .cons c .nil => some (.one c.csh)
      | _ => none
  | none => none
def argShs (P : Program) : List TypeId → Option (List VSh)
  | [] => some []
  | t :: ts => match argSh P t, argShs P ts with
    | some s, some l => some (s :: l)
    | _, _ => none

/-- How the walk sees the memory at the entry. -/
def start (w : World) : V := ⟨w, w.heap.size, fun b => b < w.heap.size, fun _ => undef, fun _ => none⟩

theorem arg_rep {t : TypeId} {s : VSh} (hs : argSh P t = some s) {base base' : Nat} {sp : Nat → Bool} {hd : Bool} {v : Value} {d : DataW H} {p : List MemPlace}
    (ht : DataW.Trod enc P w base sp hd t v d p) (hv : Value.okWide P w .any base' t v) : ∃ x : s.den, RepSV (start w) (s.val x) v := by
  unfold argSh at hs
  split at hs
  · next r hr =>
    obtain ⟨m, hm⟩ := ht
    obtain ⟨y, hy⟩ := trod_rep 64 t r hr m base sp hd _ _ hm
    have hy' : RepR (start w).w.heap ((start w).footF false) r v.cells.toList y :=
      RepR.mono (fun b hb => ⟨⟨⟨hb, fun _ => hb, fun o x hx => by cases hx⟩, fun e => by cases e⟩, rfl⟩) r _ y hy
    unfold Value.okWide at hv
    split at hs
    · next fs hu =>
      cases hs
      rw [hu] at hv
      obtain ⟨cs, rfl, _, _⟩ := hv
      exact ⟨toCs r y, cs, rfl, rep_shs (start w) r _ y hy'⟩
    · cases hs
    · next hns hna =>
      split at hs
      · next c =>
        cases hs
        have hcell : v.cells = #[v] := by
          cases hv2 : v <;> first
            | rfl
            | (exfalso
               rw [hv2] at hv
               split at hv
               · next hu => exact hns _ hu
               · next hu => exact hna _ _ hu
               · unfold Go.Cell.okWide at hv
                 split at hv <;> first | (rename_i h1 h2; cases h2; done) | (rename_i h2; cases h2; done) | skip
                 unfold Go.Cell.ok at hv
                 split at hv <;> first | (rename_i h1 h2; cases h2; done) | exact hv)
        have := rep_shs (start w) _ _ y hy'
        rw [hcell] at this
        exact ⟨toC c y.1, this.1⟩
      · cases hs
  · cases hs

theorem args_rep : ∀ (ts : List TypeId) (sh : List VSh), argShs P ts = some sh → ∀ {base base' : Nat} {sp : Nat → Bool} {hd : Bool} (vs : List Value) (ds : List (DataW H)) (p : List MemPlace),
    DataW.TrodAll enc P w base sp hd ts vs ds p → (∀ (j : Nat) t v, ts[j]? = some t → vs[j]? = some v → Value.okWide P w .any base' t v) → ∃ x : vsDen sh, RepSVs (start w) (vsVals sh x) vs
  | [], sh, hs, _, _, _, _, vs, ds, p, h, _ => by
    cases hs
    cases vs with
    | nil => exact ⟨(), trivial⟩
    | cons v vs => cases ds <;> simp [DataW.TrodAll] at h
  | t :: ts, sh, hs, base, base', sp, hd, vs, ds, p, h, hok => by
    rw [argShs] at hs
    split at hs
    · next s l h1 h2 =>
      cases hs
      cases vs with
      | nil => cases ds <;> simp [DataW.TrodAll] at h
      | cons v vs =>
        cases ds with
        | nil => simp [DataW.TrodAll] at h
        | cons d ds =>
          obtain ⟨a, b, g1, g2, _⟩ := h
          obtain ⟨x, hx⟩ := arg_rep h1 g1 (hok 0 t v rfl rfl)
          obtain ⟨y, hy⟩ := args_rep ts l h2 vs ds b g2 fun j t' v' ht' hv' => hok (j + 1) t' v' (by simpa using ht') (by simpa using hv')
          exact ⟨(x, y), hx, hy⟩
    · cases hs

mutual
theorem CT.beq_self : ∀ (c : CT), c.beq c = true
  | .int k => by simp [CT.beq]
  | .bool => rfl
  | .str => rfl
  | .sl e r => by simp [CT.beq, CTs.beq_self r]
theorem CTs.beq_self : ∀ (r : CTs), r.beq r = true
  | .nil => rfl
  | .cons c r => by simp [CTs.beq, CT.beq_self c, CTs.beq_self r]
end
theorem read_cell : ∀ (c : CSh) (x : c.den), c.read (c.cell x) = some x
  | .int k, x => by simp [CSh.cell, CSh.read]
  | .bool, x => rfl
  | .str, x => rfl
  | .sl e r fr, l => by
    simp only [CSh.cell, CSh.read, Nat.beq_refl]
    have h1 : boolLe fr fr = true := by cases fr <;> rfl
    have h2 : r.beq r = true := CTs.beq_self r
    rw [h1]
    simp only [Bool.and_self]
    rw [dif_pos h2]
    rfl
  | .nil, x => rfl
  | .ref o, x => by simp [CSh.cell, CSh.read]
  | .junk, x => rfl

theorem read_cells : ∀ (l : List CSh) (x : csDen l), csRead l (csCells l x) = some x
  | [], _ => rfl
  | c :: r, x => by rw [csCells, csRead, read_cell c x.1, read_cells r x.2]
theorem read_val : ∀ (l : List VSh) (x : vsDen l), vsRead l (vsVals l x) = some x
  | [], _ => rfl
  | .one c :: r, x => by
    rw [vsVals, vsRead, read_val r x.2]
    have e : (VSh.one c).read ((VSh.one c).val x.1) = some x.1 := read_cell c x.1
    rw [e]
  | .agg l :: r, x => by
    rw [vsVals, vsRead, read_val r x.2]
    have e : (VSh.agg l).read ((VSh.agg l).val x.1) = some x.1 := read_cells l x.1
    rw [e]

def outTrue : Out := ⟨[(false, [.plain (.bool true)])]⟩

/-- The call of a law returns true; the memory that was there stays. -/
theorem law_calls {G : Glob} {f : FuncId} {fn : Func} {sh : List VSh} {F : vsDen sh → Prop × Out} (hcon : ConOK P G f (conBy sh F)) (hsh : argShs P fn.params.toList = some sh)
    (hF : ∀ x, vsInR sh x → (F x).1 ∧ (F x).2 = outTrue) (hG : G.ok w) {base base' : Nat} {sp : Nat → Bool} {hd : Bool} {args : Array Value} {ds : List (DataW H)} {p : List MemPlace}
    (hA : DataW.TrodAll enc P w base sp hd fn.params.toList args.toList ds p) (hok : ∀ (j : Nat) t v, fn.params[j]? = some t → args[j]? = some v → Value.okWide P w .any base' t v) :
    Calls P f args w fun e w' => e = .returned (.bool true) ∧ w'.os = w.os ∧ w'.output = w.output ∧ w.heap.size ≤ w'.heap.size ∧ ∀ b, b < w.heap.size → w'.heap[b]? = w.heap[b]? := by
  obtain ⟨x, hx⟩ := args_rep _ _ hsh _ _ _ hA fun j t v ht hv => hok j t v (by simpa using ht) (by simpa using hv)
  have hin := vsRep_inR sh x _ hx
  obtain ⟨hp, ho⟩ := hF x hin
  have hc : conBy sh F (vsVals sh x) = some ((F x).1, outTrue) := by
    unfold conBy
    rw [read_val sh x]
    simp only [← ho]
  refine (hcon (vsVals sh x) _ _ 0 _ args w hc hp hG hx).mono ?_
  rintro e w' ⟨v, vals, rfl, h1, h2, h3, h4, h5, h6, _, _⟩
  have hv : v = .bool true := h6
  exact ⟨by rw [hv], h1, h3, h4, h5⟩

theorem kept_all {w w' : World} (h1 : w'.os = w.os) (h3 : w'.output = w.output) (h5 : ∀ b, b < w.heap.size → w'.heap[b]? = w.heap[b]?) (may : MemPlace → Prop) : w.keptBut w' may := by
  refine ⟨h1, h3, fun i hi => ?_⟩
  rw [h5 i hi]
  cases hw : w.heap[i]? with
  | none => trivial
  | some o => cases o <;> simp

theorem same_all {w w' : World} (h5 : ∀ b, b < w.heap.size → w'.heap[b]? = w.heap[b]?) {p : MemPlace} (hp : p.block < w.heap.size) : w.sameAt w' p := by
  cases p with
  | cell b off =>
    show w'.cell? _ = w.cell? _
    unfold World.cell?
    simp only
    rw [h5 b hp]
  | map b => exact h5 b hp
end Go.Fw
/- What a law's row says behind the call. -/
namespace Go.Fw
open Go

variable {P : Program} {H : Type} {enc : TypeId × Value → H} {w : World}

theorem trodAll_stays (hl : laidOutB P = true) {base : Nat} {sp' : Nat → Bool} {W W' : World} : ∀ (ts : List TypeId) (_ : ts.all (fun t => P.readableRec t && decide (t < P.types.size)) = true)
    (vs : List Value) (ds : List (DataW H)) (ps : List MemPlace), DataW.TrodAll enc P W base (fun _ => true) true ts vs ds ps → (∀ p ∈ ps, W.sameAt W' p) → (∀ p ∈ ps, sp' p.block = true) → DataW.TrodAll enc P W' base sp' true ts vs ds ps
  | [], _, vs, ds, ps, h, _, _ => by
    cases vs <;> cases ds <;> simp [DataW.TrodAll] at h ⊢
    exact h
  | t :: ts, ht, vs, ds, ps, h, h1, h2 => by
    rw [List.all_cons, Bool.and_eq_true, Bool.and_eq_true] at ht
    cases vs with
    | nil => cases ds <;> simp [DataW.TrodAll] at h
    | cons v vs =>
      cases ds with
      | nil => simp [DataW.TrodAll] at h
      | cons d ds =>
        obtain ⟨a, b, g1, g2, rfl⟩ := h
        exact ⟨a, b, WideElems.Trod_stays hl ht.1.1 (of_decide_eq_true ht.1.2) g1 (fun p hp => h1 p (List.mem_append_left _ hp)) (fun p hp => h2 p (List.mem_append_left _ hp)),
          trodAll_stays hl ts ht.2 vs ds b g2 (fun p hp => h1 p (List.mem_append_right _ hp)) (fun p hp => h2 p (List.mem_append_right _ hp)), rfl⟩

theorem trodAll_length {base : Nat} {sp : Nat → Bool} {hd : Bool} {W : World} : ∀ (ts : List TypeId) (vs : List Value) (ds : List (DataW H)) (ps : List MemPlace), DataW.TrodAll enc P W base sp hd ts vs ds ps → ds.length = ts.length
  | [], vs, ds, ps, h => by cases vs <;> cases ds <;> simp [DataW.TrodAll] at h ⊢
  | t :: ts, vs, ds, ps, h => by
    cases vs with
    | nil => cases ds <;> simp [DataW.TrodAll] at h
    | cons v vs =>
      cases ds with
      | nil => simp [DataW.TrodAll] at h
      | cons d ds =>
        obtain ⟨a, b, g1, g2, rfl⟩ := h
        simp [trodAll_length ts vs ds b g2]

theorem law_post {fn : Func} {s : ChangeSpec} {apart fresh handsOn again : Bool} {W W' : World} {args : Array Value} {ds gs : List (DataW H)} {before : List MemPlace} {tb : TypeId}
    (hvars : s.vars = []) (hspec : ∀ l : List (DataW H), l.length = fn.params.toList.length → (s.fn H l).results = [.lit (.bool true)] ∧ (s.fn H l).args = l ∧ (s.fn H l).vars = [])
    (hres : fn.resultTypes = #[tb]) (hb : P.underlying tb = some .bool) (hl : laidOutB P = true) (hread : fn.params.toList.all (fun t => P.readableRec t && decide (t < P.types.size)) = true)
    (hW : DataW.Whole enc P fn.params.toList s.vars apart W args.toList ds gs before) (hos : W'.os = W.os) (hout : W'.output = W.output) (hheap : ∀ b, b < W.heap.size → W'.heap[b]? = W.heap[b]?) :
    s.post enc P fn apart fresh handsOn again W args (.bool true) W' := by
  have hlt := hW.lt
  have hW0 := hW
  obtain ⟨p, q, hA, hV, hpq, hz, hn⟩ := hW
  rw [hvars] at hV
  have hg : gs = [] ∧ q = [] := by
    cases gs with
    | nil => exact ⟨rfl, hV⟩
    | cons g gs => simp [DataW.TrodVars] at hV
  obtain ⟨rfl, rfl⟩ := hg
  rw [List.append_nil] at hpq
  subst hpq
  have hlen := trodAll_length _ _ _ _ hA
  obtain ⟨r1, r2, r3⟩ := hspec (ds ++ []) (by simpa using hlen)
  rw [List.append_nil] at r1 r2 r3
  have hsame : ∀ x ∈ before, W.sameAt W' x := fun x hx => same_all hheap (hlt x hx)
  have R : ∀ (b : Nat) (sp : Nat → Bool) (hd : Bool), DataW.TrodAll enc P W' b sp hd fn.resultTypes.toList ((Value.bool true).resultList fn.resultTypes.size) [.lit (.bool true)] [] := by
    intro b sp hd
    rw [hres]
    exact ⟨[], [], ⟨1, by simp [DataW.trod, Value.cells, hb]⟩, rfl, rfl⟩
  have A : ∀ sp : Nat → Bool, (∀ x ∈ before, sp x.block = true) → DataW.TrodAll enc P W' 0 sp true fn.params.toList args.toList ds before := fun sp hsp => trodAll_stays hl _ hread _ _ _ hA hsame hsp
  have hold : ∀ x ∈ before, (fun b => decide (b < W.heap.size)) x.block = true := fun x hx => by simpa using hlt x hx
  refine ⟨ds, [], before, [], before, [], hW0, ?_, ?_, ?_, kept_all hos hout hheap _, fun _ => ⟨?_, .lit (.bool true) :: ds, [], before, ⟨before, [], ?_, ?_, by simp, ?_, hn⟩, fun x hx _ => hx⟩⟩
  · rw [List.append_nil, r1]; exact R _ _ _
  · rw [List.append_nil, r2]; exact A _ hold
  · rw [List.append_nil, r3, hvars]; rfl
  · intro j t r h1 h2
    rw [hres] at h1 h2
    match j with
    | 0 =>
      simp [Value.resultList] at h1 h2
      subst h1 h2
      simp [Value.okWide, hb, Go.Cell.okWide, Go.Cell.ok]
    | j + 1 => simp at h1
  · exact ChangeShapes.trodAll_append (A _ (fun _ _ => rfl)) (R _ _ _)
  · rw [hvars]; rfl
  · intro b off hp
    have hbl := hlt _ hp
    have e : W'.frozen? ⟨b, off, none⟩ = W.frozen? ⟨b, off, none⟩ := by
      unfold World.frozen?
      simp only
      rw [hheap b hbl]
    rw [e]
    exact hz b off hp
end Go.Fw
/- A law's row, from what is known of its function. -/
namespace Go.Fw
open Go

theorem law_lifted {H : Type} {enc : TypeId × Value → H} {C : Checked} {G : Glob} {os : Os} {f : FuncId} {fn : Func} {s : ChangeSpec} {conds : List PathCond} {apart fresh handsOn again : Bool} {tb : TypeId} {sh : List VSh} {F : vsDen sh → Prop × Out}
    (own : ownKnob C.prog.godebug = none) (started : os.Started) (noInit : C.prog.inits.idxOf? f = none) (hfn : C.prog.funcs[f]? = some fn)
    (witness : ∃ (w : World) (tape : Tape) (i : Input), w.os = os ∧ (w.forCall tape i).Shaped C.prog ∧ i.vars = [] ∧ Input.okWide C.prog (w.forCall tape i) .any w.heap.size f i ∧
      s.pre6 enc C.prog fn conds apart (w.forCall tape i).memory i.args ∧ ({} : Assume).holds C.prog (lone (Frame.enter C.prog f i.args .normal) [] (w.forCall tape i)))
    (hcon : ConOK C.prog G f (conBy sh F)) (hsh : argShs C.prog fn.params.toList = some sh) (hF : ∀ x, vsInR sh x → (F x).1 ∧ (F x).2 = outTrue) (hG : ∀ w, G.ok w)
    (hvars : s.vars = []) (hspec : ∀ l : List (DataW H), l.length = fn.params.toList.length → (s.fn H l).results = [.lit (.bool true)] ∧ (s.fn H l).args = l ∧ (s.fn H l).vars = [])
    (hres : fn.resultTypes = #[tb]) (hb : C.prog.underlying tb = some .bool) (hl : laidOutB C.prog = true) (hread : fn.params.toList.all (fun t => C.prog.readableRec t && decide (t < C.prog.types.size)) = true) :
    ReturnsInHanded {} C os f .any (s.pre6 enc C.prog fn conds apart) (s.post enc C.prog fn apart fresh handsOn again) := by
  refine returnsInHanded_of_change own started noInit hfn witness ?_
  intro W base args ds gs before hval hW _ _
  have hW0 := hW
  obtain ⟨p, q, hA, _⟩ := hW
  refine (law_calls hcon hsh hF (hG W) hA hval).mono ?_
  rintro e W' ⟨rfl, h1, h2, _, h3⟩
  exact ⟨_, rfl, law_post hvars hspec hres hb hl hread hW0 h1 h2 h3⟩

/-- The same for a row that lists variables which are laid ahead. -/
theorem law_lifted_laid {H : Type} {enc : TypeId × Value → H} {C : Checked} {G : Glob} {os : Os} {f : FuncId} {fn : Func} {s : ChangeSpec} {conds : List PathCond} {apart fresh handsOn again : Bool} {tb : TypeId} {sh : List VSh} {F : vsDen sh → Prop × Out}
    {X : World → Prop} (hX : ∀ w w' : World, w.heap = w'.heap → X w → X w')
    (own : ownKnob C.prog.godebug = none) (started : os.Started) (noInit : C.prog.inits.idxOf? f = none) (hfn : C.prog.funcs[f]? = some fn)
    (witness : ∃ (w : World) (tape : Tape) (i : Input), w.os = os ∧ (w.forCall tape i).Shaped C.prog ∧ i.vars = [] ∧ Input.okWide C.prog (w.forCall tape i) .any w.heap.size f i ∧
      ((s.pre enc C.prog fn conds apart (w.forCall tape i).memory i.args ∧ X (w.forCall tape i).memory) ∧ sizedMet enc C.prog fn (OpenSpec.ofChange s) apart (w.forCall tape i).memory i.args) ∧ ({} : Assume).holds C.prog (lone (Frame.enter C.prog f i.args .normal) [] (w.forCall tape i)))
    (hcon : ConOK C.prog G f (conBy sh F)) (hsh : argShs C.prog fn.params.toList = some sh) (hF : ∀ x, vsInR sh x → (F x).1 ∧ (F x).2 = outTrue) (hG : ∀ w, X w → G.ok w)
    (hvars : s.vars = []) (hspec : ∀ l : List (DataW H), l.length = fn.params.toList.length → (s.fn H l).results = [.lit (.bool true)] ∧ (s.fn H l).args = l ∧ (s.fn H l).vars = [])
    (hres : fn.resultTypes = #[tb]) (hb : C.prog.underlying tb = some .bool) (hl : laidOutB C.prog = true) (hread : fn.params.toList.all (fun t => C.prog.readableRec t && decide (t < C.prog.types.size)) = true) :
    ReturnsInHanded {} C os f .any (fun w args => (s.pre enc C.prog fn conds apart w args ∧ X w) ∧ sizedMet enc C.prog fn (OpenSpec.ofChange s) apart w args) (s.post enc C.prog fn apart fresh handsOn again) := by
  refine returnsInHanded_of_change_and (X := fun w _ => X w) (fun w w' _ h hx => hX w w' h hx) own started noInit hfn witness ?_
  intro W base args ds gs before hval hW _ _ hx _
  have hW0 := hW
  obtain ⟨p, q, hA, _⟩ := hW
  refine (law_calls hcon hsh hF (hG W hx) hA hval).mono ?_
  rintro e W' ⟨rfl, h1, h2, _, h3⟩
  exact ⟨_, rfl, law_post hvars hspec hres hb hl hread hW0 h1 h2 h3⟩
end Go.Fw
