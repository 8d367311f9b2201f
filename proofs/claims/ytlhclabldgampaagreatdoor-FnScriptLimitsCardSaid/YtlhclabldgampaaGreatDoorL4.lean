import Derived.Test.YtlhclabldgampaaGreatDoorL3
import Derived.Test.YtlhclabldgampaaGreatDoorSp
namespace Go.Proofs.Tryz
open Go Go.Fw Go.RowKit

theorem ok_strings_Split : ConOK prog G n_strings_Split con_strings_Split := by
  intro args p out k S vs w hcon hp hG hrep
  unfold con_strings_Split conR conBy at hcon
  split at hcon
  · next x hx =>
    obtain ⟨s, sep, ⟨⟩⟩ := x
    have hv := psWeak sh_strings_Split args _ vs.toList hx hrep
    match hvs : vs.toList, hv with
    | [v, u], hv =>
      have e1 : v = .string ⟨s.toArray⟩ := hv.1.1
      have e1' : u = .string ⟨sep.toArray⟩ := hv.2.1.1
      have e2 : vs = #[.string ⟨s.toArray⟩, .string ⟨sep.toArray⟩] := by
        obtain ⟨l⟩ := vs
        simp at hvs
        rw [hvs, e1, e1']
      subst e2
      have hF := Option.some.inj hcon
      have hp1 : p = (s.length ≤ 1048576 ∧ sep = [10]) := (congrArg Prod.fst hF).symm
      have hout : out = ⟨[(false, [.plain (.sl T_string R_9 (Sp.linesOf s) true)])], none⟩ := (congrArg Prod.snd hF).symm
      subst hp1 hout
      have hs : s.length ≤ 1048576 := hp.1
      have hsep : sep = [10] := hp.2
      subst hsep
      obtain ⟨m, hm⟩ := hG.2.2.2.2
      refine (Tryz.strings_Split ⟨s.toArray⟩ ⟨([10] : List UInt8).toArray⟩ m w (by show s.toArray.size < _; rw [List.size_toArray]; omega) hm (by decide)).mono ?_
      rintro e w' ⟨rfl, rfl⟩
      have hdata := Lib.splitB_data (⟨([10] : List UInt8).toArray⟩ : ByteArray) 0 (Lib.countB ⟨s.toArray⟩ ⟨([10] : List UInt8).toArray⟩) ⟨s.toArray⟩
      have hall := Lib.splitB_all (⟨([10] : List UInt8).toArray⟩ : ByteArray) (by decide) 0 (Lib.countB ⟨s.toArray⟩ ⟨([10] : List UInt8).toArray⟩) ⟨s.toArray⟩ rfl
      have hlines : (Sp.linesOf s).map (·.1) = (Lib.splitB (⟨([10] : List UInt8).toArray⟩ : ByteArray) 0 (Lib.countB ⟨s.toArray⟩ ⟨([10] : List UInt8).toArray⟩) ⟨s.toArray⟩).map (·.data.toList) := by
        rw [hdata, Sp.linesOf_split]; rfl
      generalize hB : Lib.splitB (⟨([10] : List UInt8).toArray⟩ : ByteArray) 0 (Lib.countB ⟨s.toArray⟩ ⟨([10] : List UInt8).toArray⟩) ⟨s.toArray⟩ = B at *
      have hlen : (Sp.linesOf s).length = B.length := by have := congrArg List.length hlines; simpa using this
      rw [← hall, ← hlen]
      have hle := Sp.lines_len s
      refine ⟨_, fun _ => undef, rfl, rfl, rfl, rfl, by simp, fun b hb => heap_alloc_old w _ hb, ?_, (fun o x hx => by cases hx), (fun o x q y b hx => by cases hx)⟩
      refine ⟨?_, .inr ⟨w.heap.size, 0, (Sp.linesOf s).length, _, 9, (0, 0), rfl, Nat.le_refl _, ⟨⟨?_, ?_, ?_⟩, ?_⟩, heap_alloc_new w _, ?_⟩⟩
      · rw [maxLen_eq]; omega
      · show w.heap.size < (w.alloc _).heap.size
        simp
      · exact fun h => absurd h (Nat.lt_irrefl _)
      · exact fun o x hx => by cases hx
      · exact fun _ => Nat.le_refl _
      · intro i x hx
        have hxl := Sp.lines_le x (List.mem_of_getElem? hx)
        have hy : (B.map (·.data.toList))[i]? = some x.1 := by rw [← hlines, List.getElem?_map, hx]; rfl
        rw [List.getElem?_map, Option.map_eq_some_iff] at hy
        obtain ⟨y, hy, hyx⟩ := hy
        show RepR _ _ (.cons .str .nil) (((B.map Value.string).drop (0 + i * 1)).take 1) x
        rw [Nat.zero_add, Nat.mul_one]
        refine ⟨.string y, [], ?_, ⟨?_, by rw [maxLen_eq]; omega⟩, rfl⟩
        · have hl : i < (B.map Value.string).length := by rw [List.length_map]; exact (List.getElem?_eq_some_iff.1 hy).1
          rw [List.drop_eq_getElem_cons hl]
          simp only [List.take_succ_cons, List.take_zero, List.getElem_map]
          obtain ⟨_, e⟩ := List.getElem_of_getElem? hy
          rw [e]
        · rw [← hyx]
  · cases hcon

/-- What is never called needs no proof. -/
theorem dead_ok {f : FuncId} {sh : List PSh} {rsh : List VSh} {F : psDen sh → Prop × vsDen rsh} (h : ∀ x, ¬ (F x).1) : ConOK prog G f (conR sh rsh F) := by
  intro args p out k S vs w hcon hp
  unfold conR conBy at hcon
  split at hcon
  · next x _ =>
    have e : (F x).1 = p := congrArg Prod.fst (Option.some.inj hcon)
    exact absurd (e.symm ▸ hp) (h x)
  · cases hcon
theorem ok_impl_fileIn : ConOK prog G n_impl_fileIn con_impl_fileIn := dead_ok fun _ h => h
theorem ok_impl_ParseQuery : ConOK prog G n_impl_ParseQuery con_impl_ParseQuery := dead_ok fun _ h => h
theorem ok_impl_FormatFile : ConOK prog G n_impl_FormatFile con_impl_FormatFile := dead_ok fun _ h => h
theorem ok_impl_FormatQuery : ConOK prog G n_impl_FormatQuery con_impl_FormatQuery := dead_ok fun _ h => h
theorem ok_impl_IsValidQuery : ConOK prog G n_impl_IsValidQuery con_impl_IsValidQuery := dead_ok fun _ h => h
theorem ok_impl_PostorderQuery : ConOK prog G n_impl_PostorderQuery con_impl_PostorderQuery := dead_ok fun _ h => h
end Go.Proofs.Tryz
