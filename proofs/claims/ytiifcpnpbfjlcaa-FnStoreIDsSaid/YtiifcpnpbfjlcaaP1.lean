import Derived.Test.YtiifcpnpbfjlcaaV1
import Derived.Test.YtiifcpnpbfjlcaaSp
namespace Go.Proofs.Try
open Go Go.Fw Go.IntWalk

theorem and_small (x y : Int) (m : Nat) (hm : m < 9223372036854775807) (hy : (BitVec.ofInt 64 y).toNat = m) : 0 ≤ bitsOf .and .i64 x y ∧ bitsOf .and .i64 x y ≤ m := by
  have h : (BitVec.ofInt 64 x &&& BitVec.ofInt 64 y).toNat ≤ m := by
    rw [BitVec.toNat_and, hy]
    exact Nat.and_le_right
  show 0 ≤ IntKind.i64.wrap ((BitVec.ofInt 64 x &&& BitVec.ofInt 64 y).toNat : Int) ∧ IntKind.i64.wrap ((BitVec.ofInt 64 x &&& BitVec.ofInt 64 y).toNat : Int) ≤ m
  generalize (BitVec.ofInt 64 x &&& BitVec.ofInt 64 y).toNat = z at h ⊢
  rw [wrapIn _ (by omega)]
  omega
theorem and255 (x : Int) : 0 ≤ bitsOf .and .i64 x 255 ∧ bitsOf .and .i64 x 255 ≤ 255 := and_small x 255 255 (by omega) (by decide)

theorem ok_spec_l01New : XConOK prog G n_spec_l01New con_spec_l01New := by
  refine wk_spec_l01New (env_of (l := []) (types_ok types_checked) (fun x hx => by cases hx)) (fun ⟨_, ⟨⟩⟩ _ => ⟨([], 0, 0, ()), rfl⟩) ?_
  intro code hin hp
  have hp : code.length ≤ 1048576 := hp
  refine ⟨fun y => ∃ n : Nat, y.1.2.1 = n ∧ n ≤ code.length, fun y => ((code.length : Int) - y.1.2.1).toNat, ⟨0, rfl, by omega⟩, ?_⟩
  rintro ⟨⟨h, _, ⟨⟩⟩, ⟨⟩⟩ ⟨n, rfl, hn⟩
  dsimp only
  refine cond_intro (fun hc => ?_) fun hc => ?_
  · simp only [decide_eq_true_eq] at hc
    cases decide ((n : Int) < 4000) with
    | false => exact rfl
    | true =>
      have e : IntKind.i64.wrap ((n : Int) + 1) = ((n + 1 : Nat) : Int) := wrapIn _ (by omega)
      refine ⟨?_, ?_, ?_, ?_⟩
      · exact ⟨by omega, hc⟩
      · exact rfl
      · exact ⟨n + 1, e, by omega⟩
      show ((code.length : Int) - IntKind.i64.wrap ((n : Int) + 1)).toNat < ((code.length : Int) - n).toNat
      rw [e]
      omega
  · exact rfl

theorem ok_spec_l01Byte : XConOK prog G n_spec_l01Byte con_spec_l01Byte := by
  refine wk_spec_l01Byte (env_of (l := []) (types_ok types_checked) (fun x hx => by cases hx)) (fun _ _ => ⟨(((0 : Int), ()), (([], 0, 0, ()), ())), ⟨by decide, by decide, by decide⟩⟩) ?_
  intro b i h hin hp
  have hp : 0 ≤ i := hp
  refine ⟨by decide, by decide, cond_intro (fun hc => ?_) fun hc => ?_⟩ <;> simp only [decide_eq_true_eq, decide_eq_false_iff_not] at hc
  · have hl : b.length ≤ maxLen := hin.1.1.1
    rw [maxLen_eq] at hl
    refine ⟨⟨hp, hc⟩, ?_, and255 _⟩
    show 0 ≤ IntKind.i64.wrap (i + 1)
    rw [wrapIn _ (by omega)]
    omega
  · exact ⟨hp, and255 _⟩

theorem tmod_lt {a n : Int} (ha : 0 ≤ a) (hn : 0 < n) : 0 ≤ a.tmod n ∧ a.tmod n < n := ⟨Int.tmod_nonneg n ha, Int.tmod_lt_of_pos a hn⟩
theorem ok_spec_l01Below : XConOK prog G n_spec_l01Below con_spec_l01Below := by
  refine wk_spec_l01Below (env_of (l := [(n_spec_l01Byte, .eff (xmodes sh_spec_l01Byte) con_spec_l01Byte)]) (types_ok types_checked) (by simp only [List.forall_mem_cons]; exact ⟨⟨ok_spec_l01Byte, cal_spec_l01Byte⟩, fun x hx => by cases hx⟩)) (fun ⟨_, n, ⟨⟩⟩ _ => ⟨(((0 : Int), ()), (([], 0, 0, ()), ())), ⟨Int.le_refl _, Int.le_refl _, fun h => h, fun _ => rfl⟩⟩) ?_
  intro b i h n hin hp
  have hp : 0 ≤ i := hp
  refine cond_intro (fun hc => ?_) fun hc => ?_ <;> simp only [decide_eq_true_eq, decide_eq_false_iff_not] at hc
  · exact ⟨hp, Int.le_refl _, fun h => (by omega), fun _ => rfl⟩
  · refine cond_intro (fun hc2 => ?_) fun hc2 => ?_
    · refine ⟨hp, ?_⟩
      rintro ⟨⟨x, ⟨⟩⟩, ⟨b', i', h', ⟨⟩⟩, ⟨⟩⟩ ⟨h1, h2, h3⟩
      dsimp only at h1 h2 h3 ⊢
      have := tmod_lt h2 (show 0 < n by omega)
      exact ⟨by omega, h1, this.1, fun _ => this.2, fun h => (by omega)⟩
    · refine ⟨hp, ?_⟩
      rintro ⟨⟨x1, ⟨⟩⟩, ⟨b1, i1, g1, ⟨⟩⟩, ⟨⟩⟩ ⟨h1, h2, h3⟩
      refine ⟨h1, ?_⟩
      rintro ⟨⟨x2, ⟨⟩⟩, ⟨b2, i2, g2, ⟨⟩⟩, ⟨⟩⟩ ⟨k1, k2, k3⟩
      refine ⟨k1, ?_⟩
      rintro ⟨⟨x3, ⟨⟩⟩, ⟨b3, i3, g3, ⟨⟩⟩, ⟨⟩⟩ ⟨l1, l2, l3⟩
      refine ⟨l1, ?_⟩
      rintro ⟨⟨x4, ⟨⟩⟩, ⟨b4, i4, g4, ⟨⟩⟩, ⟨⟩⟩ ⟨m1, m2, m3⟩
      dsimp only at *
      rw [wrapIn (x1 * 16777216) (by omega), wrapIn (x2 * 65536) (by omega), wrapIn (x3 * 256) (by omega), wrapIn (x1 * 16777216 + x2 * 65536) (by omega), wrapIn (x1 * 16777216 + x2 * 65536 + x3 * 256) (by omega), wrapIn (x1 * 16777216 + x2 * 65536 + x3 * 256 + x4) (by omega)]
      have := tmod_lt (a := x1 * 16777216 + x2 * 65536 + x3 * 256 + x4) (n := n) (by omega) (by omega)
      exact ⟨by omega, m1, this.1, fun _ => this.2, fun h => (by omega)⟩

theorem ok_spec_l01Once : XConOK prog G n_spec_l01Once con_spec_l01Once := by
  refine wk_spec_l01Once (env_of (l := [(n_spec_l01Below, .eff (xmodes sh_spec_l01Below) con_spec_l01Below)]) (types_ok types_checked) (by simp only [List.forall_mem_cons]; exact ⟨⟨ok_spec_l01Below, cal_spec_l01Below⟩, fun x hx => by cases hx⟩)) (fun _ _ => ⟨((false, ()), (([], 0, 0, ()), ())), Int.le_refl _⟩) ?_
  intro b i h n hin hp
  refine ⟨hp, ?_⟩
  rintro ⟨⟨x, ⟨⟩⟩, ⟨b', i', h', ⟨⟩⟩, ⟨⟩⟩ ⟨h1, _⟩
  exact h1

theorem ok_spec_l01Pick : XConOK prog G n_spec_l01Pick con_spec_l01Pick := by
  refine wk_spec_l01Pick (env_of (l := [(n_spec_l01Below, .eff (xmodes sh_spec_l01Below) con_spec_l01Below)]) (types_ok types_checked) (by simp only [List.forall_mem_cons]; exact ⟨⟨ok_spec_l01Below, cal_spec_l01Below⟩, fun x hx => by cases hx⟩)) (fun ⟨_, l, ⟨⟩⟩ ⟨_, hl⟩ => (match l, hl with | x :: _, _ => ⟨((x.1, ()), (([], 0, 0, ()), ())), ⟨Int.le_refl _, List.mem_cons_self⟩⟩)) ?_
  intro b i h l hin hp
  obtain ⟨hp, hl⟩ := hp
  have hpos : 0 < l.length := List.length_pos_iff.2 hl
  refine ⟨hp, ?_⟩
  rintro ⟨⟨x, ⟨⟩⟩, ⟨b', i', h', ⟨⟩⟩, ⟨⟩⟩ ⟨h1, h2, h3, _⟩
  have h3 : x < (l.length : Int) := h3 (by omega)
  refine ⟨⟨h2, h3⟩, h1, ?_⟩
  exact getD_mem (by dsimp only at h2; omega)

theorem ok_spec_l01PickInt : XConOK prog G n_spec_l01PickInt con_spec_l01PickInt := by
  refine wk_spec_l01PickInt (env_of (l := [(n_spec_l01Below, .eff (xmodes sh_spec_l01Below) con_spec_l01Below)]) (types_ok types_checked) (by simp only [List.forall_mem_cons]; exact ⟨⟨ok_spec_l01Below, cal_spec_l01Below⟩, fun x hx => by cases hx⟩)) (fun ⟨_, l, ⟨⟩⟩ ⟨_, hl⟩ => (match l, hl with | x :: _, _ => ⟨((x.1, ()), (([], 0, 0, ()), ())), ⟨Int.le_refl _, List.mem_cons_self⟩⟩)) ?_
  intro b i h l hin hp
  obtain ⟨hp, hl⟩ := hp
  have hpos : 0 < l.length := List.length_pos_iff.2 hl
  refine ⟨hp, ?_⟩
  rintro ⟨⟨x, ⟨⟩⟩, ⟨b', i', h', ⟨⟩⟩, ⟨⟩⟩ ⟨h1, h2, h3, _⟩
  have h3 : x < (l.length : Int) := h3 (by omega)
  refine ⟨⟨h2, h3⟩, h1, ?_⟩
  exact getD_mem (by dsimp only at h2; omega)

theorem ok_spec_l03Usual : XConOK prog G n_spec_l03Usual con_spec_l03Usual := by
  refine wk_spec_l03Usual (env_of (l := []) (types_ok types_checked) (fun x hx => by cases hx)) (fun _ _ => ⟨((Sp.usual, ()), ()), rfl⟩) ?_
  intro hin hp
  exact rfl

theorem ok_spec_l03Name : XConOK prog G n_spec_l03Name con_spec_l03Name := by
  refine wk_spec_l03Name (env_of (l := [(n_spec_l01Pick, .eff (xmodes sh_spec_l01Pick) con_spec_l01Pick)]) (types_ok types_checked) (by simp only [List.forall_mem_cons]; exact ⟨⟨ok_spec_l01Pick, cal_spec_l01Pick⟩, fun x hx => by cases hx⟩)) (fun _ _ => ⟨(([], ()), (([], 0, 0, ()), ())), ⟨by decide, by decide⟩⟩) ?_
  intro b i h hin hp
  refine ⟨⟨hp, by simp⟩, ?_⟩
  rintro ⟨⟨x, ⟨⟩⟩, ⟨b', i', h', ⟨⟩⟩, ⟨⟩⟩ ⟨h1, h2⟩
  refine ⟨h1, ?_⟩
  exact (show ∀ y ∈ _, List.length y.1 ≤ 1 from by decide) _ h2

theorem usual_len : Sp.usual.length = 4 := rfl
theorem ok_spec_l03Any : XConOK prog G n_spec_l03Any con_spec_l03Any := by
  refine wk_spec_l03Any (env_of (l := [(n_spec_l01Pick, .eff (xmodes sh_spec_l01Pick) con_spec_l01Pick), (n_spec_l03Name, .eff (xmodes sh_spec_l03Name) con_spec_l03Name), (n_spec_l01Below, .eff (xmodes sh_spec_l01Below) con_spec_l01Below), (n_spec_l03Usual, .eff (xmodes sh_spec_l03Usual) con_spec_l03Usual)]) (types_ok types_checked) (by simp only [List.forall_mem_cons]; exact ⟨⟨ok_spec_l01Pick, cal_spec_l01Pick⟩, ⟨ok_spec_l03Name, cal_spec_l03Name⟩, ⟨ok_spec_l01Below, cal_spec_l01Below⟩, ⟨ok_spec_l03Usual, cal_spec_l03Usual⟩, fun x hx => by cases hx⟩)) (fun _ _ => ⟨(([], ()), (([], 0, 0, ()), ())), ⟨by decide, by decide⟩⟩) ?_
  intro b i h hin hp
  have hp : 0 ≤ i := hp
  refine ⟨trivial, ?_⟩
  rintro ⟨⟨_, ⟨⟩⟩, ⟨⟩⟩ rfl
  dsimp only
  repeat' first
    | exact trivial
    | refine cond_intro (fun _ => ?_) fun _ => ?_
    | refine And.intro ?_ ?_
    | (intro r hr; simp only [] at hr)
    | intro r hr
  all_goals first
    | omega
    | (dsimp only at *; omega)
    | (simp only [List.length_set, List.length_take, List.length_append, List.length_cons, List.length_nil, usual_len]; omega)
    | (rw [big_eq]; simp only [List.length_set, List.length_take, List.length_append, List.length_cons, List.length_nil, usual_len]; omega)
    | (simp only [List.length_set, List.length_take, List.length_append, List.length_cons, List.length_nil, usual_len] at *; omega)
    | exact (show ∀ y ∈ _, List.length y.1 ≤ 10 from by decide) _ hr.2
    | simp

theorem ok_spec_IntValue : ConOK prog G n_spec_IntValue con_spec_IntValue := by
  refine wk_spec_IntValue (env_of (l := []) (types_ok types_checked) (fun x hx => by cases hx)) ?_
  intro n hin hp
  exact rfl
theorem ok_spec_StringValue : ConOK prog G n_spec_StringValue con_spec_StringValue := by
  refine wk_spec_StringValue (env_of (l := []) (types_ok types_checked) (fun x hx => by cases hx)) ?_
  intro n hin hp
  exact rfl
theorem ok_spec_l02Value : XConOK prog G n_spec_l02Value con_spec_l02Value := by
  refine wk_spec_l02Value (env_of (l := [(n_spec_StringValue, .pure con_spec_StringValue), (n_spec_l01Pick, .eff (xmodes sh_spec_l01Pick) con_spec_l01Pick), (n_spec_IntValue, .pure con_spec_IntValue), (n_spec_l01Below, .eff (xmodes sh_spec_l01Below) con_spec_l01Below)]) (types_ok types_checked) (by simp only [List.forall_mem_cons]; exact ⟨⟨ok_spec_StringValue, cal_spec_StringValue⟩, ⟨ok_spec_l01Pick, cal_spec_l01Pick⟩, ⟨ok_spec_IntValue, cal_spec_IntValue⟩, ⟨ok_spec_l01Below, cal_spec_l01Below⟩, fun x hx => by cases hx⟩)) (fun _ _ => ⟨((((0 : Int), (0 : Int), ([] : List UInt8), ()), ()), (([], 0, 0, ()), ())), ⟨by decide, by decide⟩⟩) ?_
  intro b i h hin hp
  have hp : 0 ≤ i := hp
  repeat' first
    | exact trivial
    | refine cond_intro (fun _ => ?_) fun _ => ?_
    | refine And.intro ?_ ?_
    | (intro r hr; simp only [] at hr)
    | intro r hr
  all_goals first
    | omega
    | (dsimp only at *; omega)
    | (simp only [List.length_set, List.length_take, List.length_append, List.length_cons, List.length_nil]; omega)
    | (rw [big_eq]; simp only [List.length_set, List.length_take, List.length_append, List.length_cons, List.length_nil]; omega)
    | (simp only [List.length_set, List.length_take, List.length_append, List.length_cons, List.length_nil] at *; omega)
    | exact (show ∀ y ∈ _, List.length y.1 ≤ 10 from by decide) _ hr.2
    | simp
theorem ok_spec_l02Any : XConOK prog G n_spec_l02Any con_spec_l02Any := by
  refine wk_spec_l02Any (env_of (l := [(n_spec_l01Pick, .eff (xmodes sh_spec_l01Pick) con_spec_l01Pick), (n_spec_l01PickInt, .eff (xmodes sh_spec_l01PickInt) con_spec_l01PickInt), (n_spec_l01Below, .eff (xmodes sh_spec_l01Below) con_spec_l01Below), (n_spec_l02Value, .eff (xmodes sh_spec_l02Value) con_spec_l02Value)]) (types_ok types_checked) (by simp only [List.forall_mem_cons]; exact ⟨⟨ok_spec_l01Pick, cal_spec_l01Pick⟩, ⟨ok_spec_l01PickInt, cal_spec_l01PickInt⟩, ⟨ok_spec_l01Below, cal_spec_l01Below⟩, ⟨ok_spec_l02Value, cal_spec_l02Value⟩, fun x hx => by cases hx⟩)) (fun _ _ => ⟨((((0 : Int), (0 : Int), ([] : List UInt8), ()), ()), (([], 0, 0, ()), ())), ⟨by decide, by decide⟩⟩) ?_
  intro b i h hin hp
  have hp : 0 ≤ i := hp
  repeat' first
    | exact trivial
    | refine cond_intro (fun _ => ?_) fun _ => ?_
    | refine And.intro ?_ ?_
    | (intro r hr; simp only [] at hr)
    | intro r hr
  all_goals first
    | omega
    | (dsimp only at *; omega)
    | (simp only [List.length_set, List.length_take, List.length_append, List.length_cons, List.length_nil]; omega)
    | (rw [big_eq]; simp only [List.length_set, List.length_take, List.length_append, List.length_cons, List.length_nil]; omega)
    | (simp only [List.length_set, List.length_take, List.length_append, List.length_cons, List.length_nil] at *; omega)
    | exact (show ∀ y ∈ _, List.length y.1 ≤ 10 from by decide) _ hr.2
    | simp
end Go.Proofs.Try

