import Derived.Test.YtlhclabldgampaaGreatDoorP1
import Derived.Test.YtlhclabldgampaaGreatDoorV3
import Derived.Test.YtlhclabldgampaaGreatDoorSp
namespace Go.Proofs.Tryz
open Go Go.Fw Go.IntWalk

theorem script_long {t : Sp.Bytes} (h : (8000 : Int) < t.length) : (([] : List Sp.DAction), (-1 : Int), ()) = ((Sp.script t).1, (Sp.script t).2, ()) := by
  unfold Sp.script; rw [decide_eq_true h]; rfl
theorem ok_impl_ParseScript : ConOK prog G n_impl_ParseScript con_impl_ParseScript := by
  refine wk_impl_ParseScript (env_of (l := [(n_impl_ParseAction, .pure con_impl_ParseAction), (n_impl_ParseChange, .pure con_impl_ParseChange), (n_impl_SplitFields, .pure con_impl_SplitFields), (n_strings_Split, .pure con_strings_Split)]) (types_ok types_checked) (by simp only [List.forall_mem_cons]; exact ⟨⟨ok_impl_ParseAction, cal_impl_ParseAction⟩, ⟨ok_impl_ParseChange, cal_impl_ParseChange⟩, ⟨ok_impl_SplitFields, cal_impl_SplitFields⟩, ⟨ok_strings_Split, cal_strings_Split⟩, fun x hx => by cases hx⟩)) ?_
  intro text hin hp
  obtain ⟨hp, hsim⟩ := hp
  have hp : text.length ≤ 1048576 := hp
  refine cond_intro (fun h => script_long (decT h)) fun h => ⟨⟨hp, rfl⟩, ?_⟩
  have h8 : text.length ≤ 8000 := by have := decF h; omega
  have hs : Sp.script text = Sp.scriptGo 0 (Sp.linesOf text) [] [] := by unfold Sp.script; rw [decide_eq_false (by omega)]; rfl
  have hll := Sp.lines_len text
  have hle := @Sp.lines_le text
  have hall : ∀ x ∈ Sp.linesOf text, Sp.simpleW (Sp.wordsOf x.1) = true := List.all_eq_true.1 hsim
  rw [hs]
  generalize Sp.linesOf text = lines at *
  have hK : ∀ i : Nat, i < lines.length → IntKind.i64.wrap ((i : Int) + 1) = ((i + 1 : Nat) : Int) := fun i hi => wrapIn _ (by omega)
  refine ⟨fun y => ∃ n : Nat, y.1.2.2.1 = n ∧ n ≤ lines.length ∧ y.2.1.length ≤ n ∧ y.2.2.1.length ≤ n ∧ Sp.scriptGo n (lines.drop n) y.2.1 y.2.2.1 = Sp.scriptGo 0 lines [] [],
    fun y => ((lines.length : Int) - y.1.2.2.1).toNat, ⟨0, rfl, Nat.zero_le _, Nat.le_refl _, Nat.le_refl _, rfl⟩, ?_⟩
  rintro ⟨⟨⟨⟩, ⟨⟩, _, ⟨⟩⟩, acts, chs, ⟨⟩⟩ ⟨n, rfl, hn, ha, hc, hgo⟩
  dsimp only at ha hc hgo ⊢
  have ebig : ∀ k : Nat, k ≤ 100000 → k ≤ big := fun k hk => by rw [big_eq]; omega
  refine cond_intro (fun h1 => ⟨⟨by omega, decT h1⟩, ?_⟩) fun h1 => ?_
  · have hn1 : n < lines.length := by have := decT h1; omega
    have hw := hK n hn1
    rw [Int.toNat_natCast]
    have hd := drop_cons lines n ([], ()) hn1
    have hmem : lines.getD n ([], ()) ∈ lines := by rw [List.getD_eq_getElem?_getD, List.getElem?_eq_getElem hn1]; exact List.getElem_mem hn1
    have hxl : (lines.getD n ([], ())).1.length ≤ 1048576 := Nat.le_trans (hle _ hmem) hp
    have hxs := hall _ hmem
    rw [hd, Sp.scriptGo] at hgo
    generalize (lines.getD n ([], ())).1 = x at *
    have next : ∀ acts' chs', acts'.length ≤ n + 1 → chs'.length ≤ n + 1 → Sp.scriptGo (n + 1) (lines.drop (n + 1)) acts' chs' = Sp.scriptGo 0 lines [] [] →
        (∃ m : Nat, IntKind.i64.wrap ((n : Int) + 1) = m ∧ m ≤ lines.length ∧ acts'.length ≤ m ∧ chs'.length ≤ m ∧ Sp.scriptGo m (lines.drop m) acts' chs' = Sp.scriptGo 0 lines [] []) ∧
          ((lines.length : Int) - IntKind.i64.wrap ((n : Int) + 1)).toNat < ((lines.length : Int) - n).toNat := fun acts' chs' h1 h2 h3 =>
      ⟨⟨n + 1, hw, hn1, h1, h2, h3⟩, by rw [hw]; omega⟩
    refine ⟨hxl, fun _ => Sp.skipped x = false, ?_, fun _ hsk => ?_⟩
    · refine cond_intro (fun h2 => cond_intro (fun h3 => ⟨rfl, ?_⟩) fun h3 => ⟨⟨by decide, ?_⟩, ⟨by decide, ?_⟩, cond_intro (fun h4 => ⟨rfl, ?_⟩) fun h4 => ⟨rfl, ?_⟩⟩) fun h2 => ⟨rfl, ?_⟩
      · have h3 : ((Sp.splitF x).length : Int) = 0 := by simpa using h3
        have hnil : Sp.splitF x = [] := List.length_eq_zero_iff.1 (by omega)
        have hsk : Sp.skipped x = true := by unfold Sp.skipped; rw [h2, hnil]; rfl
        rw [hsk, cond_true] at hgo
        exact next _ _ (by omega) (by omega) hgo
      · have h3 : ((Sp.splitF x).length : Int) ≠ 0 := by simpa using h3
        omega
      · have h3 : ((Sp.splitF x).length : Int) ≠ 0 := by simpa using h3
        have hm : (Sp.splitF x).getD (Int.toNat 0) ([], ()) ∈ Sp.splitF x := by
          have h0 : Int.toNat 0 < (Sp.splitF x).length := by show 0 < _; omega
          rw [List.getD_eq_getElem?_getD, List.getElem?_eq_getElem h0]; exact List.getElem_mem h0
        rw [(Sp.split_facts h2).1] at hm ⊢
        have := (Sp.wordsOf_solid x _ hm).1
        have := List.length_pos_iff.2 this
        omega
      · have h4 : ((((Sp.splitF x).getD (Int.toNat 0) ([], ())).1.getD (Int.toNat 0) 0).toNat : Int) = 35 := by simpa using h4
        have hb : ((Sp.splitF x).getD 0 ([], ())).1.getD 0 0 = 35 := UInt8.toNat_inj.1 (by show _ = 35; have h4 : ((((Sp.splitF x).getD 0 ([], ())).1.getD 0 0).toNat : Int) = 35 := h4; omega)
        have hsk : Sp.skipped x = true := by
          unfold Sp.skipped
          rw [h2, beq_iff_eq.2 hb]; simp
        rw [hsk, cond_true] at hgo
        exact next _ _ (by omega) (by omega) hgo
      · have h3 : ((Sp.splitF x).length : Int) ≠ 0 := by simpa using h3
        have hne : (Sp.splitF x == []) = false := beq_eq_false_iff_ne.2 fun e => h3 (by rw [e]; rfl)
        have hb : (((Sp.splitF x).getD 0 ([], ())).1.getD 0 0 == 35) = false := beq_eq_false_iff_ne.2 fun e => by
          have h4 : ((((Sp.splitF x).getD 0 ([], ())).1.getD 0 0).toNat : Int) ≠ 35 := by
            have h4 := h4
            simpa using h4
          rw [e] at h4; exact h4 rfl
        unfold Sp.skipped
        rw [hne, hb, Bool.or_self, Bool.and_false]
      · unfold Sp.skipped
        rw [h2]; rfl
    · rw [hsk, cond_false] at hgo
      refine ⟨⟨hxl, hxs⟩, cond_intro (fun h2 => cond_intro (fun h3 => ?_) fun h3 => ⟨?_, rfl, ?_⟩) fun h2 => ⟨hxl, cond_intro (fun h3 => ?_) fun h3 => cond_intro (fun h4 => ?_) fun h4 => ?_⟩⟩
      · rw [h2, cond_true, h3, cond_true] at hgo
        rw [← hgo, hw]; rfl
      · refine ebig _ ?_
        show _ + 1 ≤ _
        omega
      · rw [h2, cond_true, h3, cond_false] at hgo
        exact next acts (chs ++ [Sp.parseChg x]) (by omega) (by rw [List.length_append]; show _ + 1 ≤ _; omega) hgo
      · rw [h2, cond_false, notT h3] at hgo
        rw [← hgo, hw]; rfl
      · rw [h2, cond_false, notF h3, h4] at hgo
        rw [← hgo, hw]; rfl
      · rw [h2, cond_false, notF h3, h4] at hgo
        simp only [Bool.not_true, Bool.or_self, cond_false] at hgo
        have b1 : ∀ z : Sp.DAction, acts.length + [z].length ≤ big := fun z => ebig _ (by show _ + 1 ≤ _; omega)
        have l1 : ∀ z : Sp.DAction, (acts ++ [z]).length ≤ n + 1 := fun z => by rw [List.length_append]; show _ + 1 ≤ _; omega
        refine cond_intro (fun h5 => ⟨b1 _, rfl, ?_⟩) fun h5 => cond_intro (fun h6 => ⟨b1 _, rfl, ?_⟩) fun h6 => ⟨b1 _, rfl, ?_⟩
        · have h5 : ((Sp.parseAct x).1 == 1) = true := h5
          rw [h5, Bool.true_or, cond_true] at hgo
          exact next _ _ (l1 _) (Nat.zero_le _) hgo
        · have h6 : ((Sp.parseAct x).1 == 2) = true := h6
          rw [h6, Bool.or_true, cond_true] at hgo
          exact next _ _ (l1 _) (Nat.zero_le _) hgo
        · have h5 : ((Sp.parseAct x).1 == 1) = false := h5
          have h6 : ((Sp.parseAct x).1 == 2) = false := h6
          rw [h5, h6, Bool.or_self, cond_false] at hgo
          exact next _ _ (l1 _) (by omega) hgo
  · have hnl : n = lines.length := by have := decF h1; omega
    subst hnl
    rw [List.drop_of_length_le (Nat.le_refl _), Sp.scriptGo] at hgo
    refine cond_intro (fun h2 => ?_) fun h2 => ?_
    · rw [h2, cond_true] at hgo
      rw [← hgo, wrapIn _ (by omega)]
    · rw [h2, cond_false] at hgo
      rw [← hgo]
theorem ok_laws_FnScriptLimits : ConOK prog G n_laws_FnScriptLimits con_laws_FnScriptLimits := by
  refine wk_laws_FnScriptLimits (env_of (l := [(n_impl_ParseScript, .pure con_impl_ParseScript), (n_spec_DrawPlaces, .eff (xmodes sh_spec_DrawPlaces) con_spec_DrawPlaces), (n_laws_big, .pure con_laws_big)]) (types_ok types_checked) (by simp only [List.forall_mem_cons]; exact ⟨⟨ok_impl_ParseScript, cal_impl_ParseScript⟩, ⟨ok_spec_DrawPlaces, cal_spec_DrawPlaces⟩, ⟨ok_laws_big, cal_laws_big⟩, fun x hx => by cases hx⟩)) ?_
  intro code hin hp
  refine ⟨trivial, cond_intro (fun _ => rfl) fun hb => ?_⟩
  have hb : code.length ≤ 1048576 := by have := decF hb; omega
  refine ⟨hb, ?_⟩
  rintro ⟨⟨p, ⟨⟩⟩, ⟨⟩⟩ ⟨hpl, hpb⟩
  have hpl : p.length = 12 := hpl
  have hp0 := hpb 0 (by decide)
  have hp1 := hpb 1 (by decide)
  dsimp only at hp0 hp1 ⊢
  have a0 := Int.tmod_nonneg 45 hp0.1
  have a1 : Int.tmod (p.getD 0 (0, ())).1 45 < 45 := Int.tmod_lt_of_pos _ (by decide)
  have b0 := Int.tmod_nonneg 9 hp1.1
  have b1 : Int.tmod (p.getD 1 (0, ())).1 9 < 9 := Int.tmod_lt_of_pos _ (by decide)
  have z0 : Int.toNat (0 : Int) = 0 := rfl
  have z1 : Int.toNat (1 : Int) = 1 := rfl
  rw [z0, z1]
  generalize Int.tmod (p.getD 0 (0, ())).1 45 = n at *
  generalize Int.tmod (p.getD 1 (0, ())).1 9 = m at *
  obtain ⟨N, rfl⟩ := Int.eq_ofNat_of_zero_le a0
  obtain ⟨M, rfl⟩ := Int.eq_ofNat_of_zero_le b0
  obtain ⟨c1, c2, c3, c4⟩ := Sp.script_coll N (by omega)
  obtain ⟨d1, d2, d3⟩ := Sp.script_dels M (by omega)
  obtain ⟨e1, e2⟩ := Sp.script_open
  have mx : ∀ k : Nat, k ≤ 1000 → k ≤ maxLen := fun k hk => by rw [maxLen_eq]; omega
  refine ⟨⟨by decide, by omega⟩, by decide, ⟨by decide, by omega⟩, by decide, ?_⟩
  refine up_loopG (mk := fun i s => ((s, i, ()), ())) (fun y => y.1.2.1) (fun _ _ => rfl) N (by omega) (fun k s => s = Sp.rep (Sp.kwCollect ++ [10]) k) rfl (fun I μ k s hk hJ next => ?_) fun I μ s hJ => ?_
  · subst hJ
    have hl := Sp.rep_len (Sp.kwCollect ++ [10]) k
    have h8 : (Sp.kwCollect ++ [10]).length = 8 := rfl
    rw [h8] at hl
    dsimp only
    refine condT (by omega) ⟨mx _ ?_, rfl, next _ (Sp.rep_succ (Sp.kwCollect ++ [10]) k).symm⟩
    show (Sp.rep (Sp.kwCollect ++ [10]) k).length + 8 ≤ _
    omega
  · subst hJ
    dsimp only
    refine condF (by omega) ?_
    refine up_loopG (mk := fun i s => ((s, i, ()), ())) (fun y => y.1.2.1) (fun _ _ => rfl) M (by omega) (fun k s => s = Sp.rep (Sp.oneD ++ [10]) k) rfl (fun I μ k s hk hJ next => ?_) fun I μ s hJ => ?_
    · subst hJ
      have hl := Sp.rep_len (Sp.oneD ++ [10]) k
      have h8 : (Sp.oneD ++ [10]).length = 9 := rfl
      rw [h8] at hl
      dsimp only
      refine condT (by omega) ⟨mx _ ?_, rfl, next _ (Sp.rep_succ (Sp.oneD ++ [10]) k).symm⟩
      show (Sp.rep (Sp.oneD ++ [10]) k).length + 9 ≤ _
      omega
    · subst hJ
      dsimp only
      have g1 : [(99 : UInt8), 111, 109, 109, 105, 116, 32, 48, 10] = Sp.comm0 ++ [10] := rfl
      have g2 : [(100 : UInt8), 101, 108, 101, 116, 101, 32, 49, 10] = Sp.oneD ++ [10] := rfl
      rw [g1, g2, c1, d1, e1]
      have hl := Sp.rep_len (Sp.oneD ++ [10]) M
      have h9 : (Sp.oneD ++ [10]).length = 9 := rfl
      rw [h9] at hl
      refine condF (by omega) ⟨⟨by omega, c3⟩, mx _ ?_, ⟨by omega, d2⟩, ⟨by decide, e2⟩, ?_⟩
      · show (Sp.rep (Sp.oneD ++ [10]) M).length + 9 ≤ _
        omega
      · by_cases h1 : N ≤ 40
        · have k1 : decide ((N : Int) ≤ 40) = true := decide_eq_true (by omega)
          have k3 : (((Sp.script (Sp.rep (Sp.kwCollect ++ [10]) N)).1.length : Int) == (N : Int)) = true := by rw [c2 h1]; exact beq_self_eq_true _
          rw [if_pos h1, k1, k3]
          by_cases h2 : M ≤ 6
          · rw [if_pos h2, decide_eq_true (by omega : (M : Int) ≤ 6)]; rfl
          · rw [if_neg h2, decide_eq_false (by omega : ¬ (M : Int) ≤ 6)]; rfl
        · have k1 : decide ((N : Int) ≤ 40) = false := decide_eq_false (by omega)
          rw [if_neg h1, k1]
          by_cases h2 : M ≤ 6
          · rw [if_pos h2, decide_eq_true (by omega : (M : Int) ≤ 6)]; rfl
          · rw [if_neg h2, decide_eq_false (by omega : ¬ (M : Int) ≤ 6)]; rfl
end Go.Proofs.Tryz

