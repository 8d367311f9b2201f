import Derived.Test.YtiifcpnpbfjlcaaV1
import Derived.Test.YtiifcpnpbfjlcaaSp
import Derived.Test.YtiifcpnpbfjlcaaL2
namespace Go.Proofs.Try
open Go Go.Fw Go.IntWalk

theorem and_small (x y : Int) (m : Nat) (hm : m < 9223372036854775807) (hy : (BitVec.ofInt 64 y).toNat = m) : 0 ≤ bitsOf .and .i64 x y ∧ bitsOf .and .i64 x y ≤ m := by
  have h : (BitVec.ofInt 64 x &&& BitVec.ofInt 64 y).toNat ≤ m := by
    rw [BitVec.toNat_and, hy]
    exact Nat.and_le_right
  show 0 ≤ IntKind.i64.wrap ((BitVec.ofInt 64 x &&& BitVec.ofInt 64 y).toNat : Int) ∧ IntKind.i64.wrap ((BitVec.ofInt 64 x &&& BitVec.ofInt 64 y).toNat : Int) ≤ m
  generalize (BitVec.ofInt 64 x &&& BitVec.ofInt 64 y).toNat = z at h ⊢
  rw [wrapIn _ (by omega)]
  omega
theorem and255 (x : Int) : 0 ≤ bitsOf .and .i64 x 255 ∧ bitsOf .and .i64 x 255 ≤ 255 := and_small x 255 255 (by omega) (by decide)

theorem ok_spec_l01New : XConOK prog G n_spec_l01New con_spec_l01New := by
  refine wk_spec_l01New (env_of (l := []) (types_ok types_checked) (fun x hx => by cases hx)) (fun ⟨_, ⟨⟩⟩ _ => ⟨([], 0, 0, ()), rfl⟩) ?_
  intro code hin hp
  have hp : code.length ≤ 1048576 := hp
  refine ⟨fun y => ∃ n : Nat, y.1.2.1 = n ∧ n ≤ code.length, fun y => ((code.length : Int) - y.1.2.1).toNat, ⟨0, rfl, by omega⟩, ?_⟩
  rintro ⟨⟨h, _, ⟨⟩⟩, ⟨⟩⟩ ⟨n, rfl, hn⟩
  dsimp only
  refine cond_intro (fun hc => ?_) fun hc => ?_
  · simp only [decide_eq_true_eq] at hc
    cases decide ((n : Int) < 4000) with
    | false => exact rfl
    | true =>
      have e : IntKind.i64.wrap ((n : Int) + 1) = ((n + 1 : Nat) : Int) := wrapIn _ (by omega)
      refine ⟨?_, ?_, ?_, ?_⟩
      · exact ⟨by omega, hc⟩
      · exact rfl
      · exact ⟨n + 1, e, by omega⟩
      show ((code.length : Int) - IntKind.i64.wrap ((n : Int) + 1)).toNat < ((code.length : Int) - n).toNat
      rw [e]
      omega
  · exact rfl

theorem ok_spec_l01Byte : XConOK prog G n_spec_l01Byte con_spec_l01Byte := by
  refine wk_spec_l01Byte (env_of (l := []) (types_ok types_checked) (fun x hx => by cases hx)) (fun _ _ => ⟨(((0 : Int), ()), (([], 0, 0, ()), ())), ⟨by decide, by decide, by decide⟩⟩) ?_
  intro b i h hin hp
  have hp : 0 ≤ i := hp
  refine ⟨by decide, by decide, cond_intro (fun hc => ?_) fun hc => ?_⟩ <;> simp only [decide_eq_true_eq, decide_eq_false_iff_not] at hc
  · have hl : b.length ≤ maxLen := hin.1.1.1
    rw [maxLen_eq] at hl
    refine ⟨⟨hp, hc⟩, ?_, and255 _⟩
    show 0 ≤ IntKind.i64.wrap (i + 1)
    rw [wrapIn _ (by omega)]
    omega
  · exact ⟨hp, and255 _⟩

theorem tmod_lt {a n : Int} (ha : 0 ≤ a) (hn : 0 < n) : 0 ≤ a.tmod n ∧ a.tmod n < n := ⟨Int.tmod_nonneg n ha, Int.tmod_lt_of_pos a hn⟩
theorem ok_spec_l01Below : XConOK prog G n_spec_l01Below con_spec_l01Below := by
  refine wk_spec_l01Below (env_of (l := [(n_spec_l01Byte, .eff (xmodes sh_spec_l01Byte) con_spec_l01Byte)]) (types_ok types_checked) (by simp only [List.forall_mem_cons]; exact ⟨⟨ok_spec_l01Byte, cal_spec_l01Byte⟩, fun x hx => by cases hx⟩)) (fun ⟨_, n, ⟨⟩⟩ _ => ⟨(((0 : Int), ()), (([], 0, 0, ()), ())), ⟨Int.le_refl _, Int.le_refl _, fun h => h, fun _ => rfl⟩⟩) ?_
  intro b i h n hin hp
  have hp : 0 ≤ i := hp
  refine cond_intro (fun hc => ?_) fun hc => ?_ <;> simp only [decide_eq_true_eq, decide_eq_false_iff_not] at hc
  · exact ⟨hp, Int.le_refl _, fun h => (by omega), fun _ => rfl⟩
  · refine cond_intro (fun hc2 => ?_) fun hc2 => ?_
    · refine ⟨hp, ?_⟩
      rintro ⟨⟨x, ⟨⟩⟩, ⟨b', i', h', ⟨⟩⟩, ⟨⟩⟩ ⟨h1, h2, h3⟩
      dsimp only at h1 h2 h3 ⊢
      have := tmod_lt h2 (show 0 < n by omega)
      exact ⟨by omega, h1, this.1, fun _ => this.2, fun h => (by omega)⟩
    · refine ⟨hp, ?_⟩
      rintro ⟨⟨x1, ⟨⟩⟩, ⟨b1, i1, g1, ⟨⟩⟩, ⟨⟩⟩ ⟨h1, h2, h3⟩
      refine ⟨h1, ?_⟩
      rintro ⟨⟨x2, ⟨⟩⟩, ⟨b2, i2, g2, ⟨⟩⟩, ⟨⟩⟩ ⟨k1, k2, k3⟩
      refine ⟨k1, ?_⟩
      rintro ⟨⟨x3, ⟨⟩⟩, ⟨b3, i3, g3, ⟨⟩⟩, ⟨⟩⟩ ⟨l1, l2, l3⟩
      refine ⟨l1, ?_⟩
      rintro ⟨⟨x4, ⟨⟩⟩, ⟨b4, i4, g4, ⟨⟩⟩, ⟨⟩⟩ ⟨m1, m2, m3⟩
      dsimp only at *
      rw [wrapIn (x1 * 16777216) (by omega), wrapIn (x2 * 65536) (by omega), wrapIn (x3 * 256) (by omega), wrapIn (x1 * 16777216 + x2 * 65536) (by omega), wrapIn (x1 * 16777216 + x2 * 65536 + x3 * 256) (by omega), wrapIn (x1 * 16777216 + x2 * 65536 + x3 * 256 + x4) (by omega)]
      have := tmod_lt (a := x1 * 16777216 + x2 * 65536 + x3 * 256 + x4) (n := n) (by omega) (by omega)
      exact ⟨by omega, m1, this.1, fun _ => this.2, fun h => (by omega)⟩

theorem ok_spec_l01Pick : XConOK prog G n_spec_l01Pick con_spec_l01Pick := by
  refine wk_spec_l01Pick (env_of (l := [(n_spec_l01Below, .eff (xmodes sh_spec_l01Below) con_spec_l01Below)]) (types_ok types_checked) (by simp only [List.forall_mem_cons]; exact ⟨⟨ok_spec_l01Below, cal_spec_l01Below⟩, fun x hx => by cases hx⟩)) (fun ⟨_, l, ⟨⟩⟩ ⟨_, hl⟩ => (match l, hl with | x :: _, _ => ⟨((x.1, ()), (([], 0, 0, ()), ())), ⟨Int.le_refl _, List.mem_cons_self⟩⟩)) ?_
  intro b i h l hin hp
  obtain ⟨hp, hl⟩ := hp
  have hpos : 0 < l.length := List.length_pos_iff.2 hl
  refine ⟨hp, ?_⟩
  rintro ⟨⟨x, ⟨⟩⟩, ⟨b', i', h', ⟨⟩⟩, ⟨⟩⟩ ⟨h1, h2, h3, _⟩
  have h3 : x < (l.length : Int) := h3 (by omega)
  refine ⟨⟨h2, h3⟩, h1, ?_⟩
  exact getD_mem (by dsimp only at h2; omega)

theorem ok_spec_l01PickInt : XConOK prog G n_spec_l01PickInt con_spec_l01PickInt := by
  refine wk_spec_l01PickInt (env_of (l := [(n_spec_l01Below, .eff (xmodes sh_spec_l01Below) con_spec_l01Below)]) (types_ok types_checked) (by simp only [List.forall_mem_cons]; exact ⟨⟨ok_spec_l01Below, cal_spec_l01Below⟩, fun x hx => by cases hx⟩)) (fun ⟨_, l, ⟨⟩⟩ ⟨_, hl⟩ => (match l, hl with | x :: _, _ => ⟨((x.1, ()), (([], 0, 0, ()), ())), ⟨Int.le_refl _, List.mem_cons_self⟩⟩)) ?_
  intro b i h l hin hp
  obtain ⟨hp, hl⟩ := hp
  have hpos : 0 < l.length := List.length_pos_iff.2 hl
  refine ⟨hp, ?_⟩
  rintro ⟨⟨x, ⟨⟩⟩, ⟨b', i', h', ⟨⟩⟩, ⟨⟩⟩ ⟨h1, h2, h3, _⟩
  have h3 : x < (l.length : Int) := h3 (by omega)
  refine ⟨⟨h2, h3⟩, h1, ?_⟩
  exact getD_mem (by dsimp only at h2; omega)

theorem ok_spec_l03Usual : XConOK prog G n_spec_l03Usual con_spec_l03Usual := by
  refine wk_spec_l03Usual (env_of (l := []) (types_ok types_checked) (fun x hx => by cases hx)) (fun _ _ => ⟨((Sp.usual, ()), ()), rfl⟩) ?_
  intro hin hp
  exact rfl

theorem ok_spec_l03Name : XConOK prog G n_spec_l03Name con_spec_l03Name := by
  refine wk_spec_l03Name (env_of (l := [(n_spec_l01Pick, .eff (xmodes sh_spec_l01Pick) con_spec_l01Pick)]) (types_ok types_checked) (by simp only [List.forall_mem_cons]; exact ⟨⟨ok_spec_l01Pick, cal_spec_l01Pick⟩, fun x hx => by cases hx⟩)) (fun _ _ => ⟨(([], ()), (([], 0, 0, ()), ())), ⟨by decide, by decide⟩⟩) ?_
  intro b i h hin hp
  refine ⟨⟨hp, by simp⟩, ?_⟩
  rintro ⟨⟨x, ⟨⟩⟩, ⟨b', i', h', ⟨⟩⟩, ⟨⟩⟩ ⟨h1, h2⟩
  refine ⟨h1, ?_⟩
  exact (show ∀ y ∈ _, List.length y.1 ≤ 1 from by decide) _ h2

theorem usual_len : Sp.usual.length = 4 := rfl
theorem ok_spec_l03Any : XConOK prog G n_spec_l03Any con_spec_l03Any := by
  refine wk_spec_l03Any (env_of (l := [(n_spec_l01Pick, .eff (xmodes sh_spec_l01Pick) con_spec_l01Pick), (n_spec_l03Name, .eff (xmodes sh_spec_l03Name) con_spec_l03Name), (n_spec_l01Below, .eff (xmodes sh_spec_l01Below) con_spec_l01Below), (n_spec_l03Usual, .eff (xmodes sh_spec_l03Usual) con_spec_l03Usual)]) (types_ok types_checked) (by simp only [List.forall_mem_cons]; exact ⟨⟨ok_spec_l01Pick, cal_spec_l01Pick⟩, ⟨ok_spec_l03Name, cal_spec_l03Name⟩, ⟨ok_spec_l01Below, cal_spec_l01Below⟩, ⟨ok_spec_l03Usual, cal_spec_l03Usual⟩, fun x hx => by cases hx⟩)) (fun _ _ => ⟨(([], ()), (([], 0, 0, ()), ())), ⟨by decide, by decide⟩⟩) ?_
  intro b i h hin hp
  have hp : 0 ≤ i := hp
  refine ⟨trivial, ?_⟩
  rintro ⟨⟨_, ⟨⟩⟩, ⟨⟩⟩ rfl
  dsimp only
  repeat' first
    | exact trivial
    | refine cond_intro (fun _ => ?_) fun _ => ?_
    | refine And.intro ?_ ?_
    | (intro r hr; simp only [] at hr)
    | intro r hr
  all_goals first
    | omega
    | (dsimp only at *; omega)
    | (simp only [List.length_set, List.length_take, List.length_append, List.length_cons, List.length_nil, usual_len]; omega)
    | (rw [big_eq]; simp only [List.length_set, List.length_take, List.length_append, List.length_cons, List.length_nil, usual_len]; omega)
    | (simp only [List.length_set, List.length_take, List.length_append, List.length_cons, List.length_nil, usual_len] at *; omega)
    | exact (show ∀ y ∈ _, List.length y.1 ≤ 10 from by decide) _ hr.2
    | simp


theorem ok_spec_l01In : ConOK prog G n_spec_l01In con_spec_l01In := by
  refine wk_spec_l01In (env_of (l := []) (types_ok types_checked) (fun x hx => by cases hx)) ?_
  intro x a b hin hp
  refine cond_intro (fun h => ?_) fun h => ?_
  · have h := decT h
    show (decide (x ≤ b), ()) = (decide (a ≤ x) && decide (x ≤ b), ())
    rw [decide_eq_true (show a ≤ x from h)]; rfl
  · have h := decF h
    show (false, ()) = (decide (a ≤ x) && decide (x ≤ b), ())
    rw [decide_eq_false (show ¬ a ≤ x from h)]; rfl
theorem lower_step {s : List UInt8} {n : Nat} (hlt : n < s.length) (hl : Sp.lower s = true) : 97 ≤ (s.getD n 0).toNat ∧ (s.getD n 0).toNat ≤ 122 := by
  have := List.all_eq_true.1 hl _ (getD_mem (d := 0) hlt)
  simpa using this
theorem ok_spec_l02Text : ConOK prog G n_spec_l02Text con_spec_l02Text := by
  refine wk_spec_l02Text (env_of (l := [(n_spec_l01In, .pure con_spec_l01In)]) (types_ok types_checked) (by simp only [List.forall_mem_cons]; exact ⟨⟨ok_spec_l01In, cal_spec_l01In⟩, fun x hx => by cases hx⟩)) ?_
  intro s most hin hp
  have hlen : s.length ≤ maxLen := hin.1
  rw [maxLen_eq] at hlen
  refine ⟨fun y => ∃ n : Nat, y.1.1 = n ∧ n ≤ s.length ∧ Sp.lower (s.take n) = true, fun y => ((s.length : Int) - y.1.1).toNat, ⟨0, rfl, by omega, rfl⟩, ?_⟩
  rintro ⟨⟨_, ⟨⟩⟩, ⟨⟩⟩ ⟨n, rfl, hn, hJ⟩
  dsimp only
  refine cond_intro (fun h => ?_) fun h => ?_ <;> simp only [decide_eq_true_eq, decide_eq_false_iff_not] at h
  · have hlt : n < s.length := by omega
    rw [wrapIn _ (by omega), Int.toNat_natCast]
    refine ⟨⟨by omega, by omega⟩, cond_intro (fun h2 => ?_) fun h2 => ⟨⟨by omega, by omega⟩, cond_intro (fun h3 => ?_) fun h3 => ?_⟩⟩ <;> simp only [decide_eq_true_eq, decide_eq_false_iff_not] at *
    · cases hl : Sp.lower s with
      | false => rfl
      | true => have := lower_step hlt hl; omega
    · cases hl : Sp.lower s with
      | false => rfl
      | true => have := lower_step hlt hl; omega
    · refine ⟨trivial, ⟨n + 1, by simp, by omega, ?_⟩, by omega⟩
      rw [Sp.take_succ' s n 0 hlt]
      unfold Sp.lower at hJ ⊢
      rw [List.all_append, hJ]
      simp only [List.all_cons, List.all_nil, Bool.and_true, Bool.true_and, Bool.and_eq_true, decide_eq_true_eq]
      omega
  · have hge : n = s.length := by omega
    rw [hge, List.take_length] at hJ
    rw [hJ]
    exact ⟨trivial, rfl⟩
theorem ok_spec_IsValidAttrName : ConOK prog G n_spec_IsValidAttrName con_spec_IsValidAttrName := by
  refine wk_spec_IsValidAttrName (env_of (l := [(n_spec_l02Text, .pure con_spec_l02Text)]) (types_ok types_checked) (by simp only [List.forall_mem_cons]; exact ⟨⟨ok_spec_l02Text, cal_spec_l02Text⟩, fun x hx => by cases hx⟩)) ?_
  intro s hin hp
  exact ⟨trivial, rfl⟩
theorem ok_spec_FieldKind : ConOK prog G n_spec_FieldKind con_spec_FieldKind := by
  refine wk_spec_FieldKind (env_of (l := []) (types_ok types_checked) (fun x hx => by cases hx)) ?_
  intro s name hin hp
  have hlen : s.length ≤ maxLen := hin.1.1
  rw [maxLen_eq] at hlen
  refine up_loop s.length hlen (fun n => ∀ i, i < n → (s.getD i ([], 0, ())).1 ≠ name) (fun i hi => by omega) (fun I μ n hn hJ next => ?_) fun I μ hJ => ?_
  · dsimp only
    refine condT (by omega) ⟨⟨by omega, by omega⟩, cond_intro (fun h => ⟨⟨by omega, by omega⟩, ?_⟩) fun h => ⟨rfl, next fun i hi => ?_⟩⟩
    · exact congrArg (·, ()) (Sp.kindOf_at s n hn hJ (by simpa only [Int.toNat_natCast, beq_iff_eq] using h)).symm
    · rcases Nat.lt_or_ge i n with h' | h'
      · exact hJ i h'
      · have : i = n := by omega
        subst this
        have h2 : ((s.getD i ([], 0, ())).1 == name) = false := h
        exact fun e => by rw [e] at h2; simp at h2
  · dsimp only
    exact condF (by omega) (congrArg (·, ()) (Sp.kindOf_none s hJ).symm)
theorem ok_spec_IsValidSchema : ConOK prog G n_spec_IsValidSchema con_spec_IsValidSchema := by
  refine wk_spec_IsValidSchema (env_of (l := [(n_spec_l01In, .pure con_spec_l01In), (n_spec_IsValidAttrName, .pure con_spec_IsValidAttrName)]) (types_ok types_checked) (by simp only [List.forall_mem_cons]; exact ⟨⟨ok_spec_l01In, cal_spec_l01In⟩, ⟨ok_spec_IsValidAttrName, cal_spec_IsValidAttrName⟩, fun x hx => by cases hx⟩)) ?_
  intro s hin hp
  have hlen : s.length ≤ maxLen := hin.1.1
  rw [maxLen_eq] at hlen
  refine up_loop s.length hlen (fun n => ∀ i, i < n → Sp.okFieldAt s i = true) (fun i hi => by omega) (fun I μ n hn hJ next => ?_) fun I μ hJ => ?_
  · dsimp only
    have no : Sp.okFieldAt s n = false → (false, ()) = (Sp.okSchema s, ()) := fun h => by rw [Sp.okSchema_no hn h]
    refine condT (by omega) ⟨⟨by omega, by omega⟩, trivial, cond_intro (fun h2 => no ?_) fun h2 => ⟨⟨by omega, by omega⟩, trivial, cond_intro (fun h3 => no ?_) fun h3 => cond_intro (fun h4 => ?_) fun h4 => ⟨rfl, next (all_upto_next hJ ?_)⟩⟩⟩
    · have h2 : Sp.okName (Sp.fieldAt s n).1 = false := notT h2
      unfold Sp.okFieldAt; rw [h2]; rfl
    · have h2 : Sp.okName (Sp.fieldAt s n).1 = true := notF h2
      have h3 : (decide (1 ≤ (Sp.fieldAt s n).2.1) && decide ((Sp.fieldAt s n).2.1 ≤ 2)) = false := notT h3
      unfold Sp.okFieldAt; rw [h2, h3]; rfl
    · have h2 : Sp.okName (Sp.fieldAt s n).1 = true := notF h2
      have h3 : (decide (1 ≤ (Sp.fieldAt s n).2.1) && decide ((Sp.fieldAt s n).2.1 ≤ 2)) = true := notF h3
      have h4 : 0 < n := by have := decT h4; omega
      rw [pred_in h4 (by omega)]
      refine ⟨⟨by omega, by omega⟩, ⟨by omega, by omega⟩, cond_intro (fun h5 => no ?_) fun h5 => ⟨rfl, next (all_upto_next hJ ?_)⟩⟩
      · have h5 : Op.bytesLess (Sp.fieldAt s (n - 1)).1 (Sp.fieldAt s n).1 = false := notT h5
        unfold Sp.okFieldAt; rw [h2, h3, h5, decide_eq_true h4]; rfl
      · have h5 : Op.bytesLess (Sp.fieldAt s (n - 1)).1 (Sp.fieldAt s n).1 = true := notF h5
        unfold Sp.okFieldAt; rw [h2, h3, h5, decide_eq_true h4]; rfl
    · have h2 : Sp.okName (Sp.fieldAt s n).1 = true := notF h2
      have h3 : (decide (1 ≤ (Sp.fieldAt s n).2.1) && decide ((Sp.fieldAt s n).2.1 ≤ 2)) = true := notF h3
      have h4 : ¬ 0 < n := by have := decF h4; omega
      unfold Sp.okFieldAt; rw [h2, h3, decide_eq_false h4]; rfl
  · dsimp only
    refine condF (by omega) (congrArg (·, ()) ?_)
    unfold Sp.okSchema
    rw [allUpto_true hJ]; rfl

theorem ok_laws_sameFields : ConOK prog G n_laws_sameFields con_laws_sameFields := by
  refine wk_laws_sameFields (env_of (l := []) (types_ok types_checked) (fun x hx => by cases hx)) ?_
  intro a b hin hp
  have hlen : a.length ≤ maxLen := hin.1.1
  rw [maxLen_eq] at hlen
  refine cond_intro (fun h => ?_) fun h => ?_
  · have h : (a.length : Int) ≠ b.length := by simpa using h
    exact congrArg (·, ()) (decide_eq_false fun e => h (by rw [e])).symm
  · have h : (a.length : Int) = b.length := by simpa using h
    exact eq_loop (K := fun r => r = (decide (a = b), ())) (fun x y => !(x.1 == y.1 && (x.2.1 == y.2.1 && true))) (fun x y => by simp [Prod.ext_iff]) _ a b _ hlen (by omega) (fun e => by rw [decide_eq_false e]) fun e => by rw [decide_eq_true e]
theorem owned_step {s : List Sp.DFile} {u : Int} {n : Nat} (hn : n < s.length) : Sp.ownedBy (s.take (n + 1)) u = Sp.ownedBy (s.take n) u ++ (if (Sp.fileAt s n).2.1 = u then [((Sp.fileAt s n).1, ())] else []) := by
  unfold Sp.ownedBy
  rw [Sp.take_succ' s n (0, 0, false, 0, [], ()) hn, List.filter_append, List.map_append]
  congr 1
  show List.map _ (List.filter _ [Sp.fileAt s n]) = _
  by_cases h : (Sp.fileAt s n).2.1 = u
  · rw [List.filter_cons_of_pos (by simpa using h), if_pos h]; rfl
  · rw [List.filter_cons_of_neg (by simpa using h), if_neg h]; rfl
theorem owned_len (s : List Sp.DFile) (u : Int) : (Sp.ownedBy s u).length ≤ s.length := by
  unfold Sp.ownedBy
  rw [List.length_map]; exact List.length_filter_le ..

/-- What is known of a store while it is drawn. -/
structure Drawn (k : Int) (s : Sp.DStore) : Prop where
  sch : s.1 = Sp.usual
  ok : Sp.okStore s = true
  nx : s.2.2.1 ≤ s.2.1.length + k
  small : Sp.smallS s
theorem ok_laws_big : ConOK prog G n_laws_big con_laws_big := by
  refine wk_laws_big (env_of (l := []) (types_ok types_checked) (fun x hx => by cases hx)) ?_
  intro b hin hp
  exact rfl

theorem ok_impl_IsValidAttrName : ConOK prog G n_impl_IsValidAttrName con_impl_IsValidAttrName := by
  refine wk_impl_IsValidAttrName (env_of (l := []) (types_ok types_checked) (fun x hx => by cases hx)) ?_
  intro s hin hp
  refine cond_intro (fun h => ?_) fun h => ?_
  · have h : (s.length : Int) = 1 := decT h
    match s, h with
    | [c], _ =>
      refine ⟨⟨by decide, (by show (0 : Int) < 1; decide)⟩, cond_intro (fun h2 => ⟨⟨by decide, (by show (0 : Int) < 1; decide)⟩, ?_⟩) fun h2 => ?_⟩
      · have h2 : (c.toNat : Int) ≥ 97 := decT h2
        refine congrArg (·, ()) (Bool.eq_iff_iff.2 ?_)
        simp only [Sp.okName, Sp.lower, List.all_cons, List.all_nil, Bool.and_true, Bool.and_eq_true, decide_eq_true_eq, List.length_cons, List.length_nil]
        constructor
        · intro h3
          have h3 : (c.toNat : Int) ≤ 122 := h3
          exact ⟨⟨⟨by omega, by omega⟩, by decide⟩, by decide⟩
        · rintro ⟨⟨⟨_, h4⟩, _⟩, _⟩
          show (c.toNat : Int) ≤ 122
          omega
      · have h2 : ¬ (c.toNat : Int) ≥ 97 := decF h2
        refine congrArg (·, ()) (Bool.eq_iff_iff.2 ?_)
        simp only [Sp.okName, Sp.lower, List.all_cons, List.all_nil, Bool.and_true, Bool.and_eq_true, decide_eq_true_eq]
        constructor
        · intro h3; cases h3
        · rintro ⟨⟨⟨h4, _⟩, _⟩, _⟩; omega
  · have h : ¬ (s.length : Int) = 1 := decF h
    refine congrArg (·, ()) (Bool.eq_iff_iff.2 ?_)
    simp only [Sp.okName, Bool.and_eq_true, decide_eq_true_eq]
    constructor
    · intro h3; cases h3
    · rintro ⟨⟨_, h4⟩, h5⟩; omega
theorem ok_impl_FieldKind : ConOK prog G n_impl_FieldKind con_impl_FieldKind := by
  refine wk_impl_FieldKind (env_of (l := []) (types_ok types_checked) (fun x hx => by cases hx)) ?_
  intro s name hin hp
  have hlen : s.length ≤ maxLen := hin.1.1
  rw [maxLen_eq] at hlen
  refine up_loop s.length hlen (fun n => ∀ i, i < n → (s.getD i ([], 0, ())).1 ≠ name) (fun i hi => by omega) (fun I μ n hn hJ next => ?_) fun I μ hJ => ?_
  · dsimp only
    refine condT (by omega) ⟨⟨by omega, by omega⟩, cond_intro (fun h => ?_) fun h => ⟨rfl, next fun i hi => ?_⟩⟩
    · exact congrArg (·, ()) (Sp.kindOf_at s n hn hJ (by simpa only [Int.toNat_natCast, beq_iff_eq] using h)).symm
    · rcases Nat.lt_or_ge i n with h' | h'
      · exact hJ i h'
      · have : i = n := by omega
        subst this
        have h2 : ((s.getD i ([], 0, ())).1 == name) = false := h
        exact fun e => by rw [e] at h2; simp at h2
  · dsimp only
    exact condF (by omega) (congrArg (·, ()) (Sp.kindOf_none s hJ).symm)
theorem kind12 {k : Int} (h : (k != 1) = false ∨ (k != 2) = false) : (decide (1 ≤ k) && decide (k ≤ 2)) = true := by
  have : k = 1 ∨ k = 2 := h.imp (by simp) (by simp)
  rcases this with h | h <;> subst h <;> rfl
theorem kind_no {k : Int} (h1 : (k != 1) = true) (h2 : (k != 2) = true) : (decide (1 ≤ k) && decide (k ≤ 2)) = false := by
  have h1 : k ≠ 1 := by simpa using h1
  have h2 : k ≠ 2 := by simpa using h2
  rw [Bool.and_eq_false_iff]
  by_cases h : k < 1
  · left; exact decide_eq_false (by omega)
  · right; exact decide_eq_false (by omega)
theorem ok_impl_IsValidSchema : ConOK prog G n_impl_IsValidSchema con_impl_IsValidSchema := by
  refine wk_impl_IsValidSchema (env_of (l := [(n_impl_IsValidAttrName, .pure con_impl_IsValidAttrName)]) (types_ok types_checked) (by simp only [List.forall_mem_cons]; exact ⟨⟨ok_impl_IsValidAttrName, cal_impl_IsValidAttrName⟩, fun x hx => by cases hx⟩)) ?_
  intro s hin hp
  have hlen : s.length ≤ maxLen := hin.1.1
  rw [maxLen_eq] at hlen
  refine up_loop s.length hlen (fun n => ∀ i, i < n → Sp.okFieldAt s i = true) (fun i hi => by omega) (fun I μ n hn hJ next => ?_) fun I μ hJ => ?_
  · dsimp only
    have no : Sp.okFieldAt s n = false → (false, ()) = (Sp.okSchema s, ()) := fun h => by rw [Sp.okSchema_no hn h]
    have rest : Sp.okName (Sp.fieldAt s n).1 = true → (decide (1 ≤ (Sp.fieldAt s n).2.1) && decide ((Sp.fieldAt s n).2.1 ≤ 2)) = true →
        bif decide ((n : Int) > 0) then
          ((0 : Int) ≤ IntKind.i64.wrap ((n : Int) - 1) ∧ IntKind.i64.wrap ((n : Int) - 1) < (s.length : Int)) ∧
            bif !Op.bytesLess (s.getD (IntKind.i64.wrap ((n : Int) - 1)).toNat ([], 0, ())).fst (s.getD (Int.toNat (n : Int)) ([], 0, ())).fst then (false, ()) = (Sp.okSchema s, ())
            else True ∧ I ((IntKind.i64.wrap ((n : Int) + 1), ()), ()) ∧ μ ((IntKind.i64.wrap ((n : Int) + 1), ()), ()) < μ (((n : Int), ()), ())
        else True ∧ I ((IntKind.i64.wrap ((n : Int) + 1), ()), ()) ∧ μ ((IntKind.i64.wrap ((n : Int) + 1), ()), ()) < μ (((n : Int), ()), ()) := by
      intro h2 h3
      refine cond_intro (fun h4 => ?_) fun h4 => ⟨trivial, next (all_upto_next hJ ?_)⟩
      · have h4 : 0 < n := by have := decT h4; omega
        rw [pred_in h4 (by omega)]
        refine ⟨⟨by omega, by omega⟩, cond_intro (fun h5 => no ?_) fun h5 => ⟨trivial, next (all_upto_next hJ ?_)⟩⟩
        · have h5 : Op.bytesLess (Sp.fieldAt s (n - 1)).1 (Sp.fieldAt s n).1 = false := notT h5
          unfold Sp.okFieldAt; rw [h2, h3, h5, decide_eq_true h4]; rfl
        · have h5 : Op.bytesLess (Sp.fieldAt s (n - 1)).1 (Sp.fieldAt s n).1 = true := notF h5
          unfold Sp.okFieldAt; rw [h2, h3, h5, decide_eq_true h4]; rfl
      · have h4 : ¬ 0 < n := by have := decF h4; omega
        unfold Sp.okFieldAt; rw [h2, h3, decide_eq_false h4]; rfl
    simp only [true_and] at rest
    refine condT (by omega) ⟨⟨by omega, by omega⟩, trivial, cond_intro (fun h2 => no ?_) fun h2 => cond_intro (fun h3 => cond_intro (fun h4 => no ?_) fun h4 => ?_) fun h3 => ?_⟩
    · have h2 : Sp.okName (Sp.fieldAt s n).1 = false := notT h2
      unfold Sp.okFieldAt; rw [h2]; rfl
    · have h2 : Sp.okName (Sp.fieldAt s n).1 = true := notF h2
      have h3 : (decide (1 ≤ (Sp.fieldAt s n).2.1) && decide ((Sp.fieldAt s n).2.1 ≤ 2)) = false := kind_no h3 h4
      unfold Sp.okFieldAt; rw [h2, h3]; rfl
    · have h2 : Sp.okName (Sp.fieldAt s n).1 = true := notF h2
      have h3 : (decide (1 ≤ (Sp.fieldAt s n).2.1) && decide ((Sp.fieldAt s n).2.1 ≤ 2)) = true := kind12 (.inr h4)
      simp only [true_and]
      exact rest h2 h3
    · have h2 : Sp.okName (Sp.fieldAt s n).1 = true := notF h2
      have h3 : (decide (1 ≤ (Sp.fieldAt s n).2.1) && decide ((Sp.fieldAt s n).2.1 ≤ 2)) = true := kind12 (.inl h3)
      simp only [true_and]
      exact rest h2 h3
  · dsimp only
    refine condF (by omega) (congrArg (·, ()) ?_)
    unfold Sp.okSchema
    rw [allUpto_true hJ]; rfl

theorem over_len {α : Type} {l : List α} {lo : Nat} {news : List α} (h : lo + news.length ≤ l.length) : (overRows l lo news).length = l.length := by
  unfold overRows
  simp only [List.length_append, List.length_take, List.length_drop]
  omega
theorem over_take {α : Type} {l : List α} {lo k : Nat} {news : List α} (hk : k ≤ lo) (h : lo ≤ l.length) : (overRows l lo news).take k = l.take k := by
  unfold overRows
  rw [List.append_assoc, List.take_append_of_le_length (by rw [List.length_take]; omega), List.take_take, Nat.min_eq_left hk]
theorem over_all {α : Type} {l : List α} {lo k : Nat} {news : List α} (hk : k = lo + news.length) (h : lo ≤ l.length) : (overRows l lo news).take k = l.take lo ++ news := by
  unfold overRows
  have : (l.take lo ++ news).length = k := by rw [List.length_append, List.length_take]; omega
  rw [List.take_append_of_le_length (by omega), ← this, List.take_length]

theorem ok_spec_AddField : ConOK prog G n_spec_AddField con_spec_AddField := by
  refine wk_spec_AddField (env_of (l := [(n_spec_IsValidSchema, .pure con_spec_IsValidSchema)]) (types_ok types_checked) (by simp only [List.forall_mem_cons]; exact ⟨⟨ok_spec_IsValidSchema, cal_spec_IsValidSchema⟩, fun x hx => by cases hx⟩)) ?_
  intro s f0 f1 hin hp
  have hp : s.length ≤ 1000 := hp
  refine ⟨by rw [big_eq]; omega, trivial, cond_intro (fun h => ?_) fun h => ?_⟩
  · have h : Sp.okSchema s = false := notT h
    have e : Sp.addField s (f0, f1, ()) = (s, false) := by unfold Sp.addField; rw [h]; rfl
    rw [e]
  · have h : Sp.okSchema s = true := notF h
    have fin : ∀ n : Nat, n ≤ s.length → (∀ i, i < n → Op.bytesLess (Sp.fieldAt s i).1 f0 = true) → (n < s.length → Op.bytesLess (Sp.fieldAt s n).1 f0 = false) →
        ((0 : Int) ≤ (n : Int) ∧ (n : Int) ≤ (s.length : Int)) ∧
          (0 : Nat) + (List.drop 0 (List.take (Int.toNat (n : Int)) s)).length ≤ big ∧
            (List.drop 0 (List.take (Int.toNat (n : Int)) s)).length + [(f0, f1, ())].length ≤ big ∧
              ((0 : Int) ≤ (n : Int) ∧ (n : Int) ≤ (s.length : Int)) ∧
                (List.drop 0 (List.take (Int.toNat (n : Int)) s) ++ [(f0, f1, ())]).length + (List.drop (Int.toNat (n : Int)) (List.take s.length s)).length ≤ big ∧
                  True ∧
                    (bif !Sp.okSchema (List.drop 0 (List.take (Int.toNat (n : Int)) s) ++ [(f0, f1, ())] ++ List.drop (Int.toNat (n : Int)) (List.take s.length s)) then ((s, false, ()) : List Sp.DField × Bool × Unit) = ((Sp.addField s (f0, f1, ())).1, (Sp.addField s (f0, f1, ())).2, ())
                    else (List.drop 0 (List.take (Int.toNat (n : Int)) s) ++ [(f0, f1, ())] ++ List.drop (Int.toNat (n : Int)) (List.take s.length s), true, ()) = ((Sp.addField s (f0, f1, ())).1, (Sp.addField s (f0, f1, ())).2, ())) := fun n hn h1 h2 => by
      have e1 : List.drop 0 (List.take (Int.toNat (n : Int)) s) ++ [(f0, f1, ())] ++ List.drop (Int.toNat (n : Int)) (List.take s.length s) = Sp.putField s (f0, f1, ()) := by
        have := Sp.takeWhile_at (p := Sp.belowField f0) (d := ([], 0, ())) s n hn h1 h2
        unfold Sp.putField
        rw [this.1, this.2, Int.toNat_natCast, List.drop_zero, List.take_length, List.append_assoc]; rfl
      have l1 : (List.drop 0 (List.take (Int.toNat (n : Int)) s)).length = n := by rw [List.drop_zero, List.length_take, Int.toNat_natCast]; omega
      have l2 : (List.drop (Int.toNat (n : Int)) (List.take s.length s)).length = s.length - n := by rw [List.length_drop, List.length_take, Int.toNat_natCast]; omega
      rw [e1, List.length_append, l1, l2, big_eq]
      simp only [List.length_cons, List.length_nil]
      refine ⟨⟨by omega, by omega⟩, by omega, by omega, ⟨by omega, by omega⟩, by omega, trivial, cond_intro (fun h3 => ?_) fun h3 => ?_⟩
      · have h3 := notT h3
        have e : Sp.addField s (f0, f1, ()) = (s, false) := by unfold Sp.addField; rw [h, h3]; rfl
        rw [e]
      · have h3 := notF h3
        have e : Sp.addField s (f0, f1, ()) = (Sp.putField s (f0, f1, ()), true) := by unfold Sp.addField; rw [h, h3]; rfl
        rw [e]
    refine up_loop s.length (by omega) (fun n => ∀ i, i < n → Op.bytesLess (Sp.fieldAt s i).1 f0 = true) (fun i hi => by omega) (fun I μ n hn hJ next => ?_) fun I μ hJ => ?_
    · dsimp only
      refine condT (by omega) ⟨⟨by omega, by omega⟩, cond_intro (fun h4 => ⟨rfl, next fun i hi => ?_⟩) fun h4 => fin n (by omega) hJ fun _ => by rw [Int.toNat_natCast] at h4; exact h4⟩
      rcases Nat.lt_or_ge i n with h5 | h5
      · exact hJ i h5
      · have : i = n := by omega
        subst this
        rw [Int.toNat_natCast] at h4; exact h4
    · dsimp only
      exact condF (by omega) (fin s.length (Nat.le_refl _) hJ fun hh => by omega)
theorem ok_spec_RemoveField : ConOK prog G n_spec_RemoveField con_spec_RemoveField := by
  refine wk_spec_RemoveField (env_of (l := [(n_spec_FieldKind, .pure con_spec_FieldKind), (n_spec_IsValidSchema, .pure con_spec_IsValidSchema)]) (types_ok types_checked) (by simp only [List.forall_mem_cons]; exact ⟨⟨ok_spec_FieldKind, cal_spec_FieldKind⟩, ⟨ok_spec_IsValidSchema, cal_spec_IsValidSchema⟩, fun x hx => by cases hx⟩)) ?_
  intro s name hin hp
  have hp : s.length ≤ 1000 := hp
  refine ⟨by rw [big_eq]; omega, fun _ => Sp.okSchema s = true ∧ Sp.kindOf s name ≠ 0, ⟨trivial, cond_intro (fun h => ?_) fun h => ⟨trivial, cond_intro (fun h2 => ?_) fun h2 => ⟨rfl, notF h, by simpa using h2⟩⟩⟩, ?_⟩
  · have h := notT h
    have e : Sp.removeField s name = (s, false) := by unfold Sp.removeField; rw [h]; rfl
    rw [e]
  · have h2 : Sp.kindOf s name = 0 := by simpa using h2
    have e : Sp.removeField s name = (s, false) := by unfold Sp.removeField; rw [h2]; simp
    rw [e]
  · rintro ⟨⟨⟩, ⟨⟩⟩ ⟨h1, h2⟩
    have e : Sp.removeField s name = (s.filter (Sp.notField name), true) := by unfold Sp.removeField; rw [h1, decide_eq_false h2]; rfl
    refine up_loopG (fun i (x : List Sp.DField) => (((), i, ()), x, ())) (fun y => y.1.2.1) (fun _ _ => rfl) s.length (by omega) (fun n x => x = (s.take n).filter (Sp.notField name)) (by simp) (fun I μ n x hn hJ next => ?_) fun I μ x hJ => ?_
    · subst hJ
      have hl : ((s.take n).filter (Sp.notField name)).length ≤ n := Nat.le_trans (List.length_filter_le _ _) (by rw [List.length_take]; omega)
      dsimp only
      rw [Int.toNat_natCast]
      refine condT (by omega) ⟨⟨by omega, by omega⟩, cond_intro (fun h4 => ⟨⟨by omega, by omega⟩, by rw [big_eq]; simp only [List.length_cons, List.length_nil]; omega, rfl, next _ ?_⟩) fun h4 => ⟨rfl, next _ ?_⟩⟩
      · rw [Sp.take_succ' s n ([], 0, ()) hn, List.filter_append, List.filter_cons]
        have : Sp.notField name (s.getD n ([], 0, ())) = true := h4
        rw [this]; rfl
      · rw [Sp.take_succ' s n ([], 0, ()) hn, List.filter_append, List.filter_cons]
        have : Sp.notField name (s.getD n ([], 0, ())) = false := h4
        rw [this]; simp
    · subst hJ
      dsimp only
      refine condF (by omega) ?_
      rw [List.take_length, e]
theorem ok_impl_hasField_1 : ConOK prog G n_impl_hasField_1 con_impl_hasField_1 := by
  refine wk_impl_hasField_1 (env_of (l := []) (types_ok types_checked) (fun x hx => by cases hx)) ?_
  intro a k name hin hp
  exact rfl
theorem ok_slices_IndexFunc_impl_Field__impl_hasField_1 : ConOK prog G n_slices_IndexFunc_impl_Field__impl_hasField_1 con_slices_IndexFunc_impl_Field__impl_hasField_1 := by
  refine wk_slices_IndexFunc_impl_Field__impl_hasField_1 (env_of (l := [(n_impl_hasField_1, .pure con_impl_hasField_1)]) (types_ok types_checked) (by simp only [List.forall_mem_cons]; exact ⟨⟨ok_impl_hasField_1, cal_impl_hasField_1⟩, fun x hx => by cases hx⟩)) ?_
  intro s name hin hp
  have hlen : s.length ≤ maxLen := hin.1.1
  rw [maxLen_eq] at hlen
  refine up_loop s.length hlen (fun n => ∀ i, i < n → (s.getD i ([], 0, ())).1 ≠ name) (fun i hi => by omega) (fun I μ n hn hJ next => ?_) fun I μ hJ => ?_
  · dsimp only
    rw [Int.toNat_natCast]
    refine condT (by omega) ⟨⟨by omega, by omega⟩, trivial, cond_intro (fun h => congrArg (·, ()) ?_) fun h => ⟨rfl, next fun i hi => ?_⟩⟩
    · exact (Sp.findAt_at (d := ([], 0, ())) hn (fun i hi => by simpa using hJ i hi) h).symm
    · rcases Nat.lt_or_ge i n with h5 | h5
      · exact hJ i h5
      · have : i = n := by omega
        subst this
        simpa using h
  · dsimp only
    exact condF (by omega) (congrArg (·, ()) (Sp.findAt_none (d := ([], 0, ())) fun i hi => by simpa using hJ i hi).symm)
theorem ok_slices_ContainsFunc_impl_Field__impl_hasField_1 : ConOK prog G n_slices_ContainsFunc_impl_Field__impl_hasField_1 con_slices_ContainsFunc_impl_Field__impl_hasField_1 := by
  refine wk_slices_ContainsFunc_impl_Field__impl_hasField_1 (env_of (l := [(n_slices_IndexFunc_impl_Field__impl_hasField_1, .pure con_slices_IndexFunc_impl_Field__impl_hasField_1), (n_impl_hasField_1, .pure con_impl_hasField_1)]) (types_ok types_checked) (by simp only [List.forall_mem_cons]; exact ⟨⟨ok_slices_IndexFunc_impl_Field__impl_hasField_1, cal_slices_IndexFunc_impl_Field__impl_hasField_1⟩, ⟨ok_impl_hasField_1, cal_impl_hasField_1⟩, fun x hx => by cases hx⟩)) ?_
  intro s name hin hp
  refine ⟨trivial, congrArg (·, ()) ?_⟩
  by_cases h : Sp.fieldPlace s name < 0
  · rw [decide_eq_true h, decide_eq_false (by omega)]; rfl
  · rw [decide_eq_false h, decide_eq_true (by omega)]; rfl
theorem ok_impl_hasField : ConOK prog G n_impl_hasField con_impl_hasField := by
  refine wk_impl_hasField (env_of (l := [(n_slices_ContainsFunc_impl_Field__impl_hasField_1, .pure con_slices_ContainsFunc_impl_Field__impl_hasField_1), (n_impl_hasField_1, .pure con_impl_hasField_1)]) (types_ok types_checked) (by simp only [List.forall_mem_cons]; exact ⟨⟨ok_slices_ContainsFunc_impl_Field__impl_hasField_1, cal_slices_ContainsFunc_impl_Field__impl_hasField_1⟩, ⟨ok_impl_hasField_1, cal_impl_hasField_1⟩, fun x hx => by cases hx⟩)) ?_
  intro s name hin hp
  exact ⟨trivial, rfl⟩
theorem ok_impl_AddField_1 : ConOK prog G n_impl_AddField_1 con_impl_AddField_1 := by
  refine wk_impl_AddField_1 (env_of (l := []) (types_ok types_checked) (fun x hx => by cases hx)) ?_
  intro a k n k2 hin hp
  exact congrArg (·, ()) (Sp.above_eq a n)
theorem ok_slices_IndexFunc_impl_Field__impl_AddField_1 : ConOK prog G n_slices_IndexFunc_impl_Field__impl_AddField_1 con_slices_IndexFunc_impl_Field__impl_AddField_1 := by
  refine wk_slices_IndexFunc_impl_Field__impl_AddField_1 (env_of (l := [(n_impl_AddField_1, .pure con_impl_AddField_1)]) (types_ok types_checked) (by simp only [List.forall_mem_cons]; exact ⟨⟨ok_impl_AddField_1, cal_impl_AddField_1⟩, fun x hx => by cases hx⟩)) ?_
  intro s name k hin hp
  have hlen : s.length ≤ maxLen := hin.1.1
  rw [maxLen_eq] at hlen
  refine up_loop s.length hlen (fun n => ∀ i, i < n → Op.bytesLess name (s.getD i ([], 0, ())).1 = false) (fun i hi => by omega) (fun I μ n hn hJ next => ?_) fun I μ hJ => ?_
  · dsimp only
    rw [Int.toNat_natCast]
    refine condT (by omega) ⟨⟨by omega, by omega⟩, trivial, cond_intro (fun h => congrArg (·, ()) ?_) fun h => ⟨rfl, next fun i hi => ?_⟩⟩
    · exact (Sp.findAt_at (d := ([], 0, ())) hn hJ h).symm
    · rcases Nat.lt_or_ge i n with h5 | h5
      · exact hJ i h5
      · have : i = n := by omega
        subst this
        exact h
  · dsimp only
    exact condF (by omega) (congrArg (·, ()) (Sp.findAt_none (d := ([], 0, ())) hJ).symm)
theorem ok_impl_RemoveField_1 : ConOK prog G n_impl_RemoveField_1 con_impl_RemoveField_1 := by
  refine wk_impl_RemoveField_1 (env_of (l := []) (types_ok types_checked) (fun x hx => by cases hx)) ?_
  intro a k name hin hp
  exact rfl
theorem ok_slices_IndexFunc_impl_Field__impl_RemoveField_1 : ConOK prog G n_slices_IndexFunc_impl_Field__impl_RemoveField_1 con_slices_IndexFunc_impl_Field__impl_RemoveField_1 := by
  refine wk_slices_IndexFunc_impl_Field__impl_RemoveField_1 (env_of (l := [(n_impl_RemoveField_1, .pure con_impl_RemoveField_1)]) (types_ok types_checked) (by simp only [List.forall_mem_cons]; exact ⟨⟨ok_impl_RemoveField_1, cal_impl_RemoveField_1⟩, fun x hx => by cases hx⟩)) ?_
  intro s name hin hp
  have hlen : s.length ≤ maxLen := hin.1.1
  rw [maxLen_eq] at hlen
  refine up_loop s.length hlen (fun n => ∀ i, i < n → (s.getD i ([], 0, ())).1 ≠ name) (fun i hi => by omega) (fun I μ n hn hJ next => ?_) fun I μ hJ => ?_
  · dsimp only
    rw [Int.toNat_natCast]
    refine condT (by omega) ⟨⟨by omega, by omega⟩, trivial, cond_intro (fun h => congrArg (·, ()) ?_) fun h => ⟨rfl, next fun i hi => ?_⟩⟩
    · exact (Sp.findAt_at (d := ([], 0, ())) hn (fun i hi => by simpa using hJ i hi) h).symm
    · rcases Nat.lt_or_ge i n with h5 | h5
      · exact hJ i h5
      · have : i = n := by omega
        subst this
        simpa using h
  · dsimp only
    exact condF (by omega) (congrArg (·, ()) (Sp.findAt_none (d := ([], 0, ())) fun i hi => by simpa using hJ i hi).symm)
theorem ok_slices_DeleteFunc_impl_Field__impl_RemoveField_1 : XConOK prog G n_slices_DeleteFunc_impl_Field__impl_RemoveField_1 con_slices_DeleteFunc_impl_Field__impl_RemoveField_1 := by
  refine wk_slices_DeleteFunc_impl_Field__impl_RemoveField_1 (env_of (l := [(n_slices_IndexFunc_impl_Field__impl_RemoveField_1, .pure con_slices_IndexFunc_impl_Field__impl_RemoveField_1), (n_impl_RemoveField_1, .pure con_impl_RemoveField_1)]) (types_ok types_checked) (by simp only [List.forall_mem_cons]; exact ⟨⟨ok_slices_IndexFunc_impl_Field__impl_RemoveField_1, cal_slices_IndexFunc_impl_Field__impl_RemoveField_1⟩, ⟨ok_impl_RemoveField_1, cal_impl_RemoveField_1⟩, fun x hx => by cases hx⟩)) (fun ⟨s, ((name, ()), ()), _⟩ _ => ⟨((s.filter (Sp.notField name), ()), ()), rfl⟩) ?_
  intro s name hin hp
  have hp : s.length ≤ 1000 := hp
  refine ⟨trivial, ?_⟩
  rcases Sp.findAt_cases (fun f : Sp.DField => f.1 == name) ([], 0, ()) s with ⟨e, hno⟩ | ⟨n, hn, e, he, hne⟩
  · have e : Sp.fieldPlace s name = -1 := e
    rw [e]
    show s = s.filter (Sp.notField name)
    refine (List.filter_eq_self.2 fun x hx => ?_).symm
    obtain ⟨i, hi, rfl⟩ := List.getElem_of_mem hx
    have := hno i hi
    rw [List.getD_eq_getElem?_getD, List.getElem?_eq_getElem hi] at this
    exact congrArg Bool.not this
  · have e : Sp.fieldPlace s name = n := e
    rw [e]
    have e1 : (((n : Nat) : Int) == -1) = false := by rw [beq_eq_false_iff_ne]; omega
    rw [e1]
    show ∃ I : (Int × Int × Unit) × List Sp.DField × Unit → Prop, _
    have w1 : ∀ k : Nat, k ≤ 1000 → IntKind.i64.wrap ((k : Int) + 1) = ((k + 1 : Nat) : Int) := fun k hk => wrapIn _ (by omega)
    rw [w1 n (by omega)]
    refine ⟨fun y => ∃ (i j : Nat) (l : List Sp.DField), y = (((i : Int), (j : Int), ()), l, ()) ∧ i < j ∧ j ≤ s.length ∧ l.length = s.length ∧ l.take i = (s.take j).filter (Sp.notField name) ∧ ∀ t, j ≤ t → l.getD t ([], 0, ()) = s.getD t ([], 0, ()),
      fun y => ((s.length : Int) - y.1.2.1).toNat, ⟨n, n + 1, s, rfl, by omega, by omega, rfl, ?_, fun _ _ => rfl⟩, ?_⟩
    · rw [Sp.take_succ' s n ([], 0, ()) hn, List.filter_append, List.filter_cons]
      have h1 : Sp.notField name (s.getD n ([], 0, ())) = false := congrArg Bool.not he
      rw [h1]
      have h2 : (s.take n).filter (Sp.notField name) = s.take n := List.filter_eq_self.2 fun x hx => by
        obtain ⟨i, hi, rfl⟩ := List.getElem_of_mem hx
        have hi' : i < n := by rw [List.length_take] at hi; omega
        have := hne i hi'
        rw [List.getD_eq_getElem?_getD, List.getElem?_eq_getElem (by omega)] at this
        rw [List.getElem_take]
        exact congrArg Bool.not this
      rw [h2]; simp
    · rintro y ⟨i, j, l, rfl, hij, hj, hl, ht, hs⟩
      dsimp only
      refine cond_intro (fun h => ?_) fun h => ?_
      · have h : j < s.length := by have h := decT h; omega
        have hsj := hs j (Nat.le_refl _)
        rw [Int.toNat_natCast, Int.toNat_natCast, hsj, w1 i (by omega), w1 j (by omega)]
        refine ⟨⟨by omega, by omega⟩, by omega, trivial, cond_intro (fun h2 => ⟨⟨by omega, by omega⟩, by omega, rfl, ⟨i + 1, j + 1, _, rfl, by omega, by omega, by rw [List.length_set]; exact hl, ?_, fun t ht => ?_⟩, by omega⟩) fun h2 => ⟨rfl, ⟨i, j + 1, l, rfl, by omega, by omega, hl, ?_, fun t ht => hs t (by omega)⟩, by omega⟩⟩
        · rw [Sp.take_succ' _ i ([], 0, ()) (by rw [List.length_set]; omega), Sp.take_succ' s j ([], 0, ()) h, List.filter_append, List.filter_cons, List.take_set_of_le (Nat.le_refl _), ht]
          have h3 : Sp.notField name (s.getD j ([], 0, ())) = true := h2
          rw [h3, List.getD_eq_getElem?_getD, List.getElem?_set, if_pos rfl, if_pos (by omega)]
          rfl
        · rw [List.getD_eq_getElem?_getD, List.getElem?_set, if_neg (by omega), ← List.getD_eq_getElem?_getD]
          exact hs t (by omega)
        · rw [Sp.take_succ' s j ([], 0, ()) h, List.filter_append, List.filter_cons, ht]
          have h3 : Sp.notField name (s.getD j ([], 0, ())) = false := h2
          rw [h3]; simp
      · have h : j = s.length := by have h := decF h; omega
        rw [Int.toNat_natCast, Nat.zero_add]
        have l1 : (overRows l i (List.replicate (l.length - i) (([], 0, ()) : Sp.DField))).length = l.length := over_len (by rw [List.length_replicate]; omega)
        refine ⟨by omega, ⟨by omega, by omega⟩, by omega, ⟨by rw [l1]; omega, by rw [l1]; omega⟩, ⟨by omega, by rw [List.length_take, l1]; omega⟩, ?_⟩
        show List.take i (List.take l.length (overRows l i (List.replicate (l.length - i) (([], 0, ()) : Sp.DField)))) = s.filter (Sp.notField name)
        rw [List.take_take, Nat.min_eq_left (by omega), over_take (Nat.le_refl _) (by omega), ht, h, List.take_length]
theorem ok_slices_Clone_impl_Field__own : XConOK prog G n_slices_Clone_impl_Field__own con_slices_Clone_impl_Field__own := by
  refine wk_slices_Clone_impl_Field__own (env_of (l := []) (types_ok types_checked) (fun x hx => by cases hx)) (fun ⟨s, _⟩ _ => ⟨((s, ()), ()), rfl⟩) ?_
  intro s hin hp
  have hp : s.length ≤ 1000 := hp
  intro g hg
  refine cond_intro (fun h => ?_) fun h => ⟨by rw [big_eq]; omega, rfl⟩
  exact (List.length_eq_zero_iff.1 (hg h)).symm
theorem ok_impl_RemoveField : XConOK prog G n_impl_RemoveField con_impl_RemoveField := by
  refine wk_impl_RemoveField (env_of (l := [(n_slices_DeleteFunc_impl_Field__impl_RemoveField_1, .eff (xmodes sh_slices_DeleteFunc_impl_Field__impl_RemoveField_1) con_slices_DeleteFunc_impl_Field__impl_RemoveField_1), (n_impl_RemoveField_1, .pure con_impl_RemoveField_1), (n_slices_Clone_impl_Field__own, .eff (xmodes sh_slices_Clone_impl_Field__own) con_slices_Clone_impl_Field__own), (n_impl_hasField, .pure con_impl_hasField), (n_impl_IsValidSchema, .pure con_impl_IsValidSchema)]) (types_ok types_checked) (by simp only [List.forall_mem_cons]; exact ⟨⟨ok_slices_DeleteFunc_impl_Field__impl_RemoveField_1, cal_slices_DeleteFunc_impl_Field__impl_RemoveField_1⟩, ⟨ok_impl_RemoveField_1, cal_impl_RemoveField_1⟩, ⟨ok_slices_Clone_impl_Field__own, cal_slices_Clone_impl_Field__own⟩, ⟨ok_impl_hasField, cal_impl_hasField⟩, ⟨ok_impl_IsValidSchema, cal_impl_IsValidSchema⟩, fun x hx => by cases hx⟩)) (fun ⟨s, n, _⟩ _ => ⟨(((Sp.removeField s n).1, (Sp.removeField s n).2, ()), ()), ⟨rfl, rfl⟩⟩) ?_
  intro s name hin hp
  have hp : s.length ≤ 1000 := hp
  have no : (¬ (Sp.okSchema s = true ∧ Sp.fieldPlace s name ≥ 0)) → Sp.removeField s name = (s, false) := fun h => by
    unfold Sp.removeField
    cases hs : Sp.okSchema s with
    | false => rfl
    | true =>
      rw [Sp.has_kind hs, decide_eq_true (Int.not_le.1 fun h' => h ⟨hs, h'⟩)]; rfl
  refine ⟨trivial, cond_intro (fun h => ⟨hp, ?_⟩) fun h => ⟨trivial, cond_intro (fun h2 => ⟨hp, ?_⟩) fun h2 => ⟨hp, ?_⟩⟩⟩
  · have := no fun hh => by have h := notT h; rw [h] at hh; cases hh.1
    rintro ⟨⟨x, ⟨⟩⟩, ⟨⟩⟩ e
    have e : x = s := e
    subst e
    dsimp only
    rw [this]; exact ⟨rfl, rfl⟩
  · have := no fun hh => by have h2 := decT (notF (notT h2)); omega
    rintro ⟨⟨x, ⟨⟩⟩, ⟨⟩⟩ e
    have e : x = s := e
    subst e
    dsimp only
    rw [this]; exact ⟨rfl, rfl⟩
  · rintro ⟨⟨x, ⟨⟩⟩, ⟨⟩⟩ e
    have e : x = s := e
    subst e
    refine ⟨hp, ?_⟩
    rintro ⟨⟨y, ⟨⟩⟩, ⟨⟩⟩ e
    have e : y = x.filter (Sp.notField name) := e
    subst e
    have g1 : Sp.okSchema x = true := notF h
    have g2 : ¬ Sp.fieldPlace x name < 0 := decF (notT (notF h2))
    have e : Sp.removeField x name = (x.filter (Sp.notField name), true) := by unfold Sp.removeField; rw [g1, Sp.has_kind g1, decide_eq_false g2]; rfl
    dsimp only
    rw [e]; exact ⟨rfl, rfl⟩
theorem ok_spec_DrawFieldKind : XConOK prog G n_spec_DrawFieldKind con_spec_DrawFieldKind := by
  refine wk_spec_DrawFieldKind (env_of (l := [(n_spec_l03Name, .eff (xmodes sh_spec_l03Name) con_spec_l03Name), (n_spec_l03Any, .eff (xmodes sh_spec_l03Any) con_spec_l03Any), (n_spec_l01New, .eff (xmodes sh_spec_l01New) con_spec_l01New)]) (types_ok types_checked) (by simp only [List.forall_mem_cons]; exact ⟨⟨ok_spec_l03Name, cal_spec_l03Name⟩, ⟨ok_spec_l03Any, cal_spec_l03Any⟩, ⟨ok_spec_l01New, cal_spec_l01New⟩, fun x hx => by cases hx⟩)) (fun _ _ => ⟨((([] : List Sp.DField), ([] : Sp.Bytes), ()), ()), (by decide : (0 : Nat) ≤ 6)⟩) ?_
  intro b hin hp
  refine ⟨hp, ?_⟩
  rintro ⟨b0, i0, g0, ⟨⟩⟩ e0
  have e0 : i0 = 0 := e0
  subst e0
  refine ⟨(show (0 : Int) ≤ 0 by decide), ?_⟩
  rintro ⟨⟨x, ⟨⟩⟩, ⟨b2, i2, g2, ⟨⟩⟩, ⟨⟩⟩ ⟨p2, h⟩
  refine ⟨p2, ?_⟩
  rintro ⟨⟨y, ⟨⟩⟩, ⟨b3, i3, g3, ⟨⟩⟩, ⟨⟩⟩ _
  exact h
theorem ok_spec_DrawRemoveField : XConOK prog G n_spec_DrawRemoveField con_spec_DrawRemoveField := by
  refine wk_spec_DrawRemoveField (env_of (l := [(n_spec_DrawFieldKind, .eff (xmodes sh_spec_DrawFieldKind) con_spec_DrawFieldKind)]) (types_ok types_checked) (by simp only [List.forall_mem_cons]; exact ⟨⟨ok_spec_DrawFieldKind, cal_spec_DrawFieldKind⟩, fun x hx => by cases hx⟩)) (fun _ _ => ⟨((([] : List Sp.DField), ([] : Sp.Bytes), ()), ()), (by decide : (0 : Nat) ≤ 6)⟩) ?_
  intro b hin hp
  refine ⟨hp, ?_⟩
  rintro ⟨⟨x, y, ⟨⟩⟩, ⟨⟩⟩ h
  exact h
theorem ok_spec_DrawAddField : XConOK prog G n_spec_DrawAddField con_spec_DrawAddField := by
  refine wk_spec_DrawAddField (env_of (l := [(n_spec_l01PickInt, .eff (xmodes sh_spec_l01PickInt) con_spec_l01PickInt), (n_spec_l01Pick, .eff (xmodes sh_spec_l01Pick) con_spec_l01Pick), (n_spec_l03Any, .eff (xmodes sh_spec_l03Any) con_spec_l03Any), (n_spec_l01New, .eff (xmodes sh_spec_l01New) con_spec_l01New)]) (types_ok types_checked) (by simp only [List.forall_mem_cons]; exact ⟨⟨ok_spec_l01PickInt, cal_spec_l01PickInt⟩, ⟨ok_spec_l01Pick, cal_spec_l01Pick⟩, ⟨ok_spec_l03Any, cal_spec_l03Any⟩, ⟨ok_spec_l01New, cal_spec_l01New⟩, fun x hx => by cases hx⟩)) (fun _ _ => ⟨((([] : List Sp.DField), (([] : Sp.Bytes), (0 : Int), ()), ()), ()), (by decide : (0 : Nat) ≤ 6)⟩) ?_
  intro b hin hp
  refine ⟨hp, ?_⟩
  rintro ⟨b0, i0, g0, ⟨⟩⟩ e0
  have e0 : i0 = 0 := e0
  subst e0
  refine ⟨(show (0 : Int) ≤ 0 by decide), ?_⟩
  rintro ⟨⟨x, ⟨⟩⟩, ⟨b2, i2, g2, ⟨⟩⟩, ⟨⟩⟩ ⟨p2, h⟩
  refine ⟨⟨p2, by simp⟩, ?_⟩
  rintro ⟨⟨y, ⟨⟩⟩, ⟨b3, i3, g3, ⟨⟩⟩, ⟨⟩⟩ ⟨p3, _⟩
  refine ⟨⟨p3, by simp⟩, ?_⟩
  rintro ⟨⟨z, ⟨⟩⟩, ⟨b4, i4, g4, ⟨⟩⟩, ⟨⟩⟩ _
  exact h

theorem condB {b : Bool} {A B : Prop} (h : b = true) (a : A) : cond b A B := by rw [h]; exact a

theorem ok_impl_AddField : XConOK prog G n_impl_AddField con_impl_AddField := by
  refine wk_impl_AddField (env_of (l := [(n_slices_Insert_impl_Field, .eff (xmodes sh_slices_Insert_impl_Field) con_slices_Insert_impl_Field), (n_slices_IndexFunc_impl_Field__impl_AddField_1, .pure con_slices_IndexFunc_impl_Field__impl_AddField_1), (n_impl_AddField_1, .pure con_impl_AddField_1), (n_impl_hasField, .pure con_impl_hasField), (n_impl_IsValidSchema, .pure con_impl_IsValidSchema), (n_slices_Clone_impl_Field__own, .eff (xmodes sh_slices_Clone_impl_Field__own) con_slices_Clone_impl_Field__own)]) (types_ok types_checked) (by simp only [List.forall_mem_cons]; exact ⟨⟨ok_slices_Insert_impl_Field, cal_slices_Insert_impl_Field⟩, ⟨ok_slices_IndexFunc_impl_Field__impl_AddField_1, cal_slices_IndexFunc_impl_Field__impl_AddField_1⟩, ⟨ok_impl_AddField_1, cal_impl_AddField_1⟩, ⟨ok_impl_hasField, cal_impl_hasField⟩, ⟨ok_impl_IsValidSchema, cal_impl_IsValidSchema⟩, ⟨ok_slices_Clone_impl_Field__own, cal_slices_Clone_impl_Field__own⟩, fun x hx => by cases hx⟩)) (fun ⟨s, ⟨n, k, _⟩, _⟩ _ => ⟨(((Sp.addField s (n, k, ())).1, (Sp.addField s (n, k, ())).2, ()), ()), ⟨rfl, rfl⟩⟩) ?_
  intro s f0 f1 hin hp
  have hp : s.length ≤ 1000 := hp
  refine ⟨hp, ?_⟩
  rintro ⟨⟨x, ⟨⟩⟩, ⟨⟩⟩ e
  have e : x = s := e
  subst e
  refine ⟨trivial, cond_intro (fun h => ?_) fun h => ⟨trivial, cond_intro (fun h2 => ?_) fun h2 => ⟨trivial, ?_⟩⟩⟩
  · have e : Sp.addField x (f0, f1, ()) = (x, false) := by unfold Sp.addField; rw [notT h]; rfl
    rw [e]; exact ⟨rfl, rfl⟩
  · have g : 0 ≤ Sp.fieldPlace x f0 := Int.not_lt.1 (decF (notT h2))
    have e : Sp.addField x (f0, f1, ()) = (x, false) := by unfold Sp.addField; rw [Sp.had_field (f := (f0, f1, ())) (notF h) g, Bool.and_false]; rfl
    rw [e]; exact ⟨rfl, rfl⟩
  · have g : Sp.fieldPlace x f0 < 0 := decT (notF h2)
    have key : ∀ n : Nat, ((Sp.fieldAbove x f0 < 0 → n = x.length) ∧ (0 ≤ Sp.fieldAbove x f0 → (n : Int) = Sp.fieldAbove x f0)) → ∀ y : List Sp.DField, y = x.take n ++ ([(f0, f1, ())] ++ x.drop n) →
        bif !Sp.okSchema y then x.length ≤ 1000 ∧ ∀ r4 : (List Sp.DField × Unit) × Unit, r4.1.1 = x → r4.1.1 = (Sp.addField x (f0, f1, ())).1 ∧ false = (Sp.addField x (f0, f1, ())).2
        else y = (Sp.addField x (f0, f1, ())).1 ∧ true = (Sp.addField x (f0, f1, ())).2 := by
      intro n hn y hy
      have hput := (Sp.put_place (f := (f0, f1, ())) g n hn).1
      have hy2 : y = Sp.putField x (f0, f1, ()) := hy.trans hput.symm
      refine cond_intro (fun h3 => ⟨hp, ?_⟩) fun h3 => ?_
      · have e : Sp.addField x (f0, f1, ()) = (x, false) := by unfold Sp.addField; rw [← hy2, notT h3, Bool.and_false]; rfl
        rintro ⟨⟨z, ⟨⟩⟩, ⟨⟩⟩ ez
        rw [e]; exact ⟨ez, rfl⟩
      · have e : Sp.addField x (f0, f1, ()) = (Sp.putField x (f0, f1, ()), true) := by unfold Sp.addField; rw [← hy2, notF h3, notF h]; rfl
        rw [e]; exact ⟨hy2, rfl⟩
    have hn1 : (1 : Nat) = 1 := rfl
    refine cond_intro (fun h3 => ?_) fun h3 => ?_
    · have g3 : Sp.fieldAbove x f0 < 0 := decT h3
      refine ⟨⟨Int.natCast_nonneg _, Int.le_refl _, hp, rfl⟩, ?_⟩
      rintro ⟨⟨y, ⟨⟩⟩, ⟨⟩⟩ ey
      exact ⟨trivial, key x.length ⟨fun _ => rfl, fun h => by omega⟩ y ey⟩
    · have g3 : 0 ≤ Sp.fieldAbove x f0 := Int.not_lt.1 (decF h3)
      have hle : Sp.fieldAbove x f0 ≤ (x.length : Int) := by
        have := (Sp.put_place (f := (f0, f1, ())) g (Sp.fieldAbove x f0).toNat ⟨fun h => by have h : Sp.fieldAbove x f0 < 0 := h; omega, fun h => by show _ = Sp.fieldAbove x f0; omega⟩).2
        omega
      refine ⟨⟨g3, hle, hp, rfl⟩, ?_⟩
      rintro ⟨⟨y, ⟨⟩⟩, ⟨⟩⟩ ey
      exact ⟨trivial, key (Sp.fieldAbove x f0).toNat ⟨fun h => by omega, fun h => by show _ = Sp.fieldAbove x f0; omega⟩ y ey⟩
theorem ok_laws_FnSchemaFields : ConOK prog G n_laws_FnSchemaFields con_laws_FnSchemaFields := by
  refine wk_laws_FnSchemaFields (env_of (l := [(n_impl_IsValidSchema, .pure con_impl_IsValidSchema), (n_impl_FieldKind, .pure con_impl_FieldKind), (n_laws_sameFields, .pure con_laws_sameFields), (n_spec_RemoveField, .pure con_spec_RemoveField), (n_impl_RemoveField, .eff (xmodes sh_impl_RemoveField) con_impl_RemoveField), (n_spec_DrawRemoveField, .eff (xmodes sh_spec_DrawRemoveField) con_spec_DrawRemoveField), (n_spec_AddField, .pure con_spec_AddField), (n_impl_AddField, .eff (xmodes sh_impl_AddField) con_impl_AddField), (n_spec_DrawAddField, .eff (xmodes sh_spec_DrawAddField) con_spec_DrawAddField), (n_laws_big, .pure con_laws_big)]) (types_ok types_checked) (by simp only [List.forall_mem_cons]; exact ⟨⟨ok_impl_IsValidSchema, cal_impl_IsValidSchema⟩, ⟨ok_impl_FieldKind, cal_impl_FieldKind⟩, ⟨ok_laws_sameFields, cal_laws_sameFields⟩, ⟨ok_spec_RemoveField, cal_spec_RemoveField⟩, ⟨ok_impl_RemoveField, cal_impl_RemoveField⟩, ⟨ok_spec_DrawRemoveField, cal_spec_DrawRemoveField⟩, ⟨ok_spec_AddField, cal_spec_AddField⟩, ⟨ok_impl_AddField, cal_impl_AddField⟩, ⟨ok_spec_DrawAddField, cal_spec_DrawAddField⟩, ⟨ok_laws_big, cal_laws_big⟩, fun x hx => by cases hx⟩)) ?_
  intro code hin hp
  refine ⟨trivial, cond_intro (fun _ => rfl) fun hb => ?_⟩
  have hb : code.length ≤ 1048576 := by have := decF hb; omega
  refine ⟨hb, ?_⟩
  rintro ⟨⟨s, ⟨f0, f1, ⟨⟩⟩, ⟨⟩⟩, ⟨⟩⟩ hs
  have hs : s.length ≤ 6 := hs
  have hs2 : s.length ≤ 1000 := by omega
  refine ⟨hs2, ?_⟩
  rintro ⟨⟨x, ok, ⟨⟩⟩, ⟨⟩⟩ ⟨e1, e2⟩
  have e1 : x = (Sp.addField s (f0, f1, ())).1 := e1
  have e2 : ok = (Sp.addField s (f0, f1, ())).2 := e2
  refine ⟨hs2, hb, ?_⟩
  rintro ⟨⟨a, nm, ⟨⟩⟩, ⟨⟩⟩ ha
  have ha : a.length ≤ 6 := ha
  have ha2 : a.length ≤ 1000 := by omega
  refine ⟨ha2, ?_⟩
  rintro ⟨⟨y, gone, ⟨⟩⟩, ⟨⟩⟩ ⟨e3, e4⟩
  have e3 : y = (Sp.removeField a nm).1 := e3
  have e4 : gone = (Sp.removeField a nm).2 := e4
  refine ⟨ha2, fun _ => True, ?_, fun _ _ => ?_⟩
  · dsimp only
    rw [← e1, ← e2, ← e3, ← e4]
    simp only [beq_self_eq_true, Bool.not_true, cond_false, decide_true, true_and, and_self]
  · dsimp only
    refine cond_intro (fun h => ⟨trivial, congrArg (·, ()) ?_⟩) fun h => ?_
    · have h : (Sp.addField s (f0, f1, ())).2 = false := e2.symm.trans (notT h)
      exact decide_eq_true (e1.trans (Sp.added_not h))
    · have h : (Sp.addField s (f0, f1, ())).2 = true := e2.symm.trans (notF h)
      obtain ⟨hk, hok, hrem, hlen, hle⟩ := Sp.added h
      rw [← e1] at hk hok hrem hlen
      have hx : x.length ≤ 1000 := by omega
      refine ⟨hx, ?_⟩
      rintro ⟨⟨z, back, ⟨⟩⟩, ⟨⟩⟩ ⟨e5, e6⟩
      have e5 : z = (Sp.removeField x f0).1 := e5
      have e6 : back = (Sp.removeField x f0).2 := e6
      have hrem : Sp.removeField x f0 = (s, true) := hrem
      rw [hrem] at e5 e6
      refine ⟨trivial, condB (beq_iff_eq.2 hk) ⟨trivial, condB hok (condB e6 ⟨trivial, condB (decide_eq_true e5) (congrArg (·, ()) ?_)⟩)⟩⟩
      rw [wrapIn _ (by omega)]
      refine beq_iff_eq.2 ?_
      show (x.length : Int) = s.length + 1
      omega
end Go.Proofs.Try

