import Derived.Test.YtlhclabldgampaaGreatDoorL1
import Derived.WalkKit
import Derived.BigCall
import Derived.Lib.AtoiTie
import Derived.Lib.AtoiErrMem
import Derived.Lib.AtoiBound
import Derived.Test.YtlhclabldgampaaGreatDoorSp
namespace Go.Proofs.Tryz
open Go Go.Fw Go.RowKit

theorem fields_le : ∀ (l cur : Bytes) (x : Bytes), x ∈ Lib.fieldsGo cur l → x.length ≤ cur.length + l.length
  | [], cur, x, h => by
    rw [Lib.fieldsGo] at h
    split at h
    · cases h
    · simp at h; subst h; simp
  | b :: l, cur, x, h => by
    rw [Lib.fieldsGo] at h
    split at h
    · split at h
      · have := fields_le l [] x h; simp at this ⊢; omega
      · rcases List.mem_cons.1 h with rfl | h
        · simp
        · have := fields_le l [] x h; simp at this ⊢; omega
    · have := fields_le l (cur ++ [b]) x h
      simp at this ⊢; omega
theorem cnt_le : ∀ (l : Bytes) (b : Bool), Lib.cntF b l ≤ l.length
  | [], _ => Nat.le_refl _
  | c :: l, b => by
    have := cnt_le l (Lib.isSp c)
    simp only [Lib.cntF, List.length_cons]
    split <;> omega

theorem ok_strings_Fields : ConOK prog G n_strings_Fields con_strings_Fields := by
  intro args p out k S vs w hcon hp hG hrep
  unfold con_strings_Fields conR conBy at hcon
  split at hcon
  · next x hx =>
    obtain ⟨s, ⟨⟩⟩ := x
    have hv := psWeak sh_strings_Fields args _ vs.toList hx hrep
    match hvs : vs.toList, hv with
    | [v], hv =>
      have e1 : v = .string ⟨s.toArray⟩ := hv.1.1
      have e2 : vs = #[.string ⟨s.toArray⟩] := by
        obtain ⟨l⟩ := vs
        simp at hvs
        rw [hvs, e1]
      subst e2
      have hF := Option.some.inj hcon
      have hp1 : p = (s.length ≤ 1048576 ∧ Sp.asciiS s = true) := (congrArg Prod.fst hF).symm
      have hout : out = ⟨[(false, [.plain (.sl T_string R_9 (Sp.wordsOf s) true)])], none⟩ := (congrArg Prod.snd hF).symm
      subst hp1 hout
      have hs : s.length ≤ 1048576 := hp.1
      refine (Tryz.strings_Fields ⟨s.toArray⟩ w (by show s.toArray.size < _; rw [List.size_toArray]; omega) (fun j b hj => ?_) hG.2.1).mono ?_
      · have h := List.all_eq_true.1 hp.2 b (List.mem_of_getElem? (by simpa using hj))
        exact of_decide_eq_true h
      rintro e w' ⟨rfl, rfl⟩
      have hlen : (Lib.fields s).length ≤ 1048576 := by rw [Lib.fields_length]; have := cnt_le s true; omega
      refine ⟨_, fun _ => undef, rfl, rfl, rfl, rfl, by simp, fun b hb => heap_alloc_old w _ hb, ?_, (fun o x hx => by cases hx), (fun o x q y b hx => by cases hx)⟩
      refine ⟨?_, .inr ⟨w.heap.size, 0, (Lib.fields s).length, _, 9, (0, 0), ?_, ?_, ⟨⟨?_, ?_, ?_⟩, ?_⟩, heap_alloc_new w _, ?_⟩⟩
      · show ((Lib.fields s).map (·, ())).length ≤ maxLen
        rw [List.length_map, maxLen_eq]; omega
      · show _ = Value.slice _ ((Lib.fields s).map (·, ())).length _
        rw [List.length_map]
      · show ((Lib.fields s).map (·, ())).length ≤ _
        rw [List.length_map]; exact Nat.le_refl _
      · show w.heap.size < (w.alloc _).heap.size
        simp
      · exact fun h => absurd h (Nat.lt_irrefl _)
      · exact fun o x hx => by cases hx
      · exact fun _ => Nat.le_refl _
      · intro i x hx
        have hx : ((Lib.fields s).map (·, ()))[i]? = some x := hx
        rw [List.getElem?_map, Option.map_eq_some_iff] at hx
        obtain ⟨y, hy, rfl⟩ := hx
        have hyl := fields_le s [] y (List.mem_of_getElem? hy)
        show RepR _ _ (.cons .str .nil) ((((Lib.fields s).map fun l => Value.string ⟨l.toArray⟩).drop (0 + i * 1)).take 1) (y, ())
        rw [Nat.zero_add, Nat.mul_one]
        refine ⟨.string ⟨y.toArray⟩, [], ?_, ⟨rfl, by rw [maxLen_eq]; simp at hyl; omega⟩, rfl⟩
        have hl : i < ((Lib.fields s).map fun l => Value.string ⟨l.toArray⟩).length := by rw [List.length_map]; exact (List.getElem?_eq_some_iff.1 hy).1
        rw [List.drop_eq_getElem_cons hl]
        simp only [List.take_succ_cons, List.take_zero, List.getElem_map]
        obtain ⟨_, e⟩ := List.getElem_of_getElem? hy
        rw [e]
  · cases hcon


set_option maxRecDepth 100000 in
theorem within_runs (n a b : Int) (w : World) : Calls prog 25 #[.int .i64 n, .int .i64 a, .int .i64 b] w fun e w' => e = .returned (.bool (decide (a ≤ n) && decide (n ≤ b))) ∧ w' = w := by
  have mixed := Tryz.mixed
  by_cases h : a ≤ n
  · go_enter Tryz.func25, Tryz.ntmps25
    go_wp2
    go_ret
    simp [h]
  · go_enter Tryz.func25, Tryz.ntmps25
    go_wp2
    go_ret
    have h1 : decide (a ≤ n) = false := decide_eq_false (by omega)
    rw [h1]
    exact ⟨rfl, rfl⟩

set_option maxRecDepth 100000 in
theorem formatInt_runs (n : Int) (h0 : -9223372036854775808 ≤ n) (h1 : n ≤ 9223372036854775807) (w : World) (hG : G.ok w) : Calls prog 8 #[.int .i64 n] w fun e w' => e = .returned (.string ⟨(Lib.itoa n).toArray⟩) ∧ Below w.heap.size w w' := by
  have mixed := Tryz.mixed
  go_enter Tryz.func8, Tryz.ntmps8
  go_wp2_with (go_at_call 21; refine (Tryz.strconv_Itoa n h0 h1 _ hG.1).mono ?_; rintro e w' ⟨rfl, d, os, rfl⟩)
  go_ret
  refine ⟨rfl, rfl, rfl, rfl, by simp [Sort.grow, World.drewN], fun b hb => ?_⟩
  show (w.heap ++ os)[b]? = _
  rw [Array.getElem?_append_left hb]

theorem G_below {w w' : World} (hG : G.ok w) (h : Below w.heap.size w w') : G.ok w' := G.stable w w' hG h.size fun b hb => h.block b (Nat.lt_of_lt_of_le hb (G.low w hG))

set_option maxHeartbeats 4000000 in
set_option maxRecDepth 100000 in
theorem parseUint_runs (s : Bytes) (w : World) (hG : G.ok w) :
    Calls prog 27 #[.string ⟨s.toArray⟩] w fun e w' => e = .returned (.tuple #[.int .i64 (Sp.parseNum s), .bool (Sp.parseOk s)]) ∧ Below w.heap.size w w' := by
  have mixed := Tryz.mixed
  have hsz : (⟨s.toArray⟩ : ByteArray).size = s.length := by show s.toArray.size = _; simp
  by_cases hlen : 10 < s.length
  · have e1 := Sp.parseOk_long hlen
    rw [Sp.parseNum_no e1, e1]
    have hl : (10 : Int) < (s.length : Int) := by omega
    go_enter Tryz.func27, Tryz.ntmps27
    go_wp2
    go_ret2
    exact ⟨rfl, Below.refl _ _⟩
  · have hl : ¬ (10 : Int) < (s.length : Int) := by omega
    have hd : (⟨s.toArray⟩ : ByteArray).data.toList = s := rfl
    cases ha : Lib.atoi s with
    | none =>
      have hall : Lib.atoiAll (⟨s.toArray⟩ : ByteArray).data.toList = Lib.NumEnd.ofOption none := by rw [hd, Lib.atoiAll_short s (by omega), ha]
      have e1 : Sp.parseOk s = false := by
        cases hp : Sp.parseOk s with
        | false => rfl
        | true =>
          have := (Sp.itoa_uint (Sp.parseNum_text hp).2).2.1
          rw [(Sp.parseNum_text hp).1, ha] at this
          cases this
      rw [Sp.parseNum_no e1, e1]
      obtain ⟨ev, hv, hev⟩ := hG.2.2.1
      go_enter Tryz.func27, Tryz.ntmps27
      go_wp2_with (go_at_call 49; refine (Tryz.strconv_Atoi_syntax ⟨s.toArray⟩ (by rw [hsz]; omega) hall ev _ hv hev).mono ?_; rintro e W1 ⟨N, rfl, -, -, hb⟩)
      go_ret2
      exact ⟨rfl, hb⟩
    | some v =>
      have hbd := Lib.atoi_bound ha (by omega)
      have hai : Lib.atoi (⟨s.toArray⟩ : ByteArray).data.toList = some v := ha
      by_cases hu : Sp.isUint v = true
      · have hu2 := Sp.isUint_iff.1 hu
        have hu0 : (0 : Int) ≤ v := hu2.1
        have hu1 : v ≤ 1000000000 := hu2.2
        by_cases he : Lib.itoa v = s
        · obtain ⟨e1, e2⟩ := Sp.parseOk_of hu he
          rw [e1, e2]
          go_enter Tryz.func27, Tryz.ntmps27
          go_wp2_with (first
            | (go_at_call 49; refine (Tryz.strconv_Atoi ⟨s.toArray⟩ v (by rw [hsz]; omega) hai _).mono ?_; rintro e w' ⟨rfl, t, rfl⟩)
            | (go_at_call 25; refine (within_runs _ _ _ _).mono ?_; rintro e w' ⟨rfl, rfl⟩)
            | (go_at_call 8; refine (formatInt_runs v (by omega) (by omega) _ (G_below hG (Lib.bytesWorld_below _ _ _))).mono ?_; rintro e w2 ⟨rfl, hb2⟩))
          all_goals (go_ret2; exact ⟨rfl, (Lib.bytesWorld_below _ _ _).trans (hb2.mono (Lib.bytesWorld_below _ _ _).size)⟩)
        · have e1 : Sp.parseOk s = false := by
            cases hp : Sp.parseOk s with
            | false => rfl
            | true =>
              obtain ⟨g1, g2⟩ := Sp.parseNum_text hp
              have := (Sp.itoa_uint g2).2.1
              rw [g1, ha] at this
              exact absurd (by rw [Option.some.inj this]; exact g1) he
          rw [Sp.parseNum_no e1, e1]
          have hne : (Lib.itoa v == s) = false := beq_eq_false_iff_ne.2 he
          go_enter Tryz.func27, Tryz.ntmps27
          go_wp2_with (first
            | (go_at_call 49; refine (Tryz.strconv_Atoi ⟨s.toArray⟩ v (by rw [hsz]; omega) hai _).mono ?_; rintro e w' ⟨rfl, t, rfl⟩)
            | (go_at_call 25; refine (within_runs _ _ _ _).mono ?_; rintro e w' ⟨rfl, rfl⟩)
            | (go_at_call 8; refine (formatInt_runs v (by omega) (by omega) _ (G_below hG (Lib.bytesWorld_below _ _ _))).mono ?_; rintro e w2 ⟨rfl, hb2⟩))
          all_goals (go_ret2; exact ⟨rfl, (Lib.bytesWorld_below _ _ _).trans (hb2.mono (Lib.bytesWorld_below _ _ _).size)⟩)
      · have e1 : Sp.parseOk s = false := by
          cases hp : Sp.parseOk s with
          | false => rfl
          | true =>
            obtain ⟨g1, g2⟩ := Sp.parseNum_text hp
            have := (Sp.itoa_uint g2).2.1
            rw [g1, ha] at this
            exact absurd (by rw [Option.some.inj this]; exact g2) hu
        rw [Sp.parseNum_no e1, e1]
        have hw : (decide ((0 : Int) ≤ v) && decide (v ≤ 1000000000)) = false := by
          have : Sp.isUint v = false := by simpa using hu
          exact this
        go_enter Tryz.func27, Tryz.ntmps27
        go_wp2_with (first
          | (go_at_call 49; refine (Tryz.strconv_Atoi ⟨s.toArray⟩ v (by rw [hsz]; omega) hai _).mono ?_; rintro e w' ⟨rfl, t, rfl⟩)
          | (go_at_call 25; refine (within_runs _ _ _ _).mono ?_; rintro e w' ⟨rfl, rfl⟩; rw [hw]))
        all_goals (go_ret2; exact ⟨rfl, Lib.bytesWorld_below _ _ _⟩)

theorem ok_impl_ParseUint : ConOK prog G n_impl_ParseUint con_impl_ParseUint := by
  intro args p out k S vs w hcon hp hG hrep
  unfold con_impl_ParseUint conR conBy at hcon
  split at hcon
  · next x hx =>
    obtain ⟨s, ⟨⟩⟩ := x
    have hv := psWeak sh_impl_ParseUint args _ vs.toList hx hrep
    match hvs : vs.toList, hv with
    | [v], hv =>
      have e1 : v = .string ⟨s.toArray⟩ := hv.1.1
      have e2 : vs = #[.string ⟨s.toArray⟩] := by
        obtain ⟨l⟩ := vs
        simp at hvs
        rw [hvs, e1]
      subst e2
      have hF := Option.some.inj hcon
      have hout : out = ⟨[(false, [.plain (.int .i64 (Sp.parseNum s))]), (false, [.plain (.bool (Sp.parseOk s))])], none⟩ := (congrArg Prod.snd hF).symm
      subst hout
      refine (parseUint_runs s w hG).mono ?_
      rintro e w' ⟨rfl, hb⟩
      have hu := Sp.isUint_iff.1 (Sp.parseNum_uint s)
      refine ⟨_, fun _ => undef, rfl, hb.os, hb.tape, hb.output, hb.size, hb.block, ?_, (fun o x hx => by cases hx), (fun o x q y b hx => by cases hx)⟩
      exact ⟨_, rfl, ⟨rfl, (show (-9223372036854775808 : Int) ≤ Sp.parseNum s by omega), (show Sp.parseNum s ≤ 9223372036854775807 by omega)⟩, rfl, trivial⟩
  · cases hcon
end Go.Proofs.Tryz
