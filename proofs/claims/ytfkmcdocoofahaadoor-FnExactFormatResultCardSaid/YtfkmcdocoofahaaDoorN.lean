import Derived.Test.YtfkmcdocoofahaaDoorFwB
import Derived.Test.YtfkmcdocoofahaaDoorProg
import Derived.Lib.LaidTab
import Derived.Lib.ItoaNum
namespace Go.Proofs.Tryd
open Go Go.Fw

abbrev T_int64 : TypeId := 2
abbrev T_int : TypeId := 3
abbrev T_bool : TypeId := 4
abbrev T_uint8 : TypeId := 5
abbrev T_abi_BoundsErrorCode : TypeId := 6
abbrev T_runtime_boundsError : TypeId := 8
abbrev T_string : TypeId := 9
abbrev T_runtime_errorString : TypeId := 10
abbrev T_runtime_plainError : TypeId := 11
abbrev T_uintptr : TypeId := 12
abbrev T_runtime_errorAddressString : TypeId := 14
abbrev T_maps_unhashableTypeError : TypeId := 19
abbrev T_int32 : TypeId := 21
abbrev T_laws_Event : TypeId := 24
abbrev T_impl_Event : TypeId := 27
abbrev T_laws_Result : TypeId := 36
abbrev T_impl_Result : TypeId := 39
abbrev T_strings_Builder : TypeId := 52
abbrev T_error : TypeId := 55
abbrev T_uint64 : TypeId := 65
abbrev T_uint32 : TypeId := 73
abbrev T_uint : TypeId := 76
abbrev T_runtime_TypeAssertionError : TypeId := 82
abbrev T_runtime_PanicNilError : TypeId := 85
abbrev T_abi_TFlag : TypeId := 87
abbrev T_abi_Kind : TypeId := 88
abbrev T_abi_NameOff : TypeId := 90
abbrev T_abi_TypeOff : TypeId := 91
abbrev T_abi_Type : TypeId := 93
abbrev R_2 : CTs := (.cons (.int .i64) .nil) -- int64
abbrev R_3 : CTs := (.cons (.int .i64) .nil) -- int
abbrev R_4 : CTs := (.cons (.bool) .nil) -- bool
abbrev R_5 : CTs := (.cons (.int .u8) .nil) -- uint8
abbrev R_6 : CTs := (.cons (.int .u8) .nil) -- abi.BoundsErrorCode
abbrev R_7 : CTs := (.cons (.int .i64) (.cons (.int .i64) (.cons (.bool) (.cons (.int .u8) .nil)))) -- struct { x int64; y int; signed bool; code abi.BoundsErrorCode }
abbrev R_8 : CTs := (.cons (.int .i64) (.cons (.int .i64) (.cons (.bool) (.cons (.int .u8) .nil)))) -- runtime.boundsError
abbrev R_9 : CTs := (.cons (.str) .nil) -- string
abbrev R_10 : CTs := (.cons (.str) .nil) -- runtime.errorString
abbrev R_11 : CTs := (.cons (.str) .nil) -- runtime.plainError
abbrev R_12 : CTs := (.cons (.int .u64) .nil) -- uintptr
abbrev R_13 : CTs := (.cons (.str) (.cons (.int .u64) .nil)) -- struct { msg string; addr uintptr }
abbrev R_14 : CTs := (.cons (.str) (.cons (.int .u64) .nil)) -- runtime.errorAddressString
abbrev R_21 : CTs := (.cons (.int .i32) .nil) -- int32
abbrev R_22 : CTs := (.cons (.sl T_int R_3) .nil) -- []int
abbrev R_23 : CTs := (.cons (.int .i64) (.cons (.sl T_int R_3) (.cons (.sl T_int R_3) .nil))) -- struct { Version int; Added []int; Removed []int }
abbrev R_24 : CTs := (.cons (.int .i64) (.cons (.sl T_int R_3) (.cons (.sl T_int R_3) .nil))) -- laws.Event
abbrev R_27 : CTs := (.cons (.int .i64) (.cons (.sl T_int R_3) (.cons (.sl T_int R_3) .nil))) -- impl.Event
abbrev R_35 : CTs := (.cons (.str) (.cons (.sl T_int R_3) .nil)) -- struct { Name string; IDs []int }
abbrev R_36 : CTs := (.cons (.str) (.cons (.sl T_int R_3) .nil)) -- laws.Result
abbrev R_39 : CTs := (.cons (.str) (.cons (.sl T_int R_3) .nil)) -- impl.Result
abbrev R_45 : CTs := (.cons (.sl T_string R_9) .nil) -- []string
abbrev R_49 : CTs := (.cons (.sl T_uint8 R_5) .nil) -- []uint8
abbrev R_65 : CTs := (.cons (.int .u64) .nil) -- uint64
abbrev R_73 : CTs := (.cons (.int .u32) .nil) -- uint32
abbrev R_76 : CTs := (.cons (.int .u64) .nil) -- uint
abbrev R_87 : CTs := (.cons (.int .u8) .nil) -- abi.TFlag
abbrev R_88 : CTs := (.cons (.int .u8) .nil) -- abi.Kind
abbrev R_90 : CTs := (.cons (.int .i32) .nil) -- abi.NameOff
abbrev R_91 : CTs := (.cons (.int .i32) .nil) -- abi.TypeOff
def tys : List (Nat × Go.Fw.TI) := [
  (2, ⟨.scalar, R_2, 8, false⟩),
  (3, ⟨.scalar, R_3, 8, false⟩),
  (4, ⟨.scalar, R_4, 1, false⟩),
  (5, ⟨.scalar, R_5, 1, false⟩),
  (6, ⟨.scalar, R_6, 1, false⟩),
  (7, ⟨.struct [(0, 2), (1, 3), (2, 4), (3, 6)], R_7, 24, false⟩),
  (8, ⟨.struct [(0, 2), (1, 3), (2, 4), (3, 6)], R_8, 24, false⟩),
  (9, ⟨.str, R_9, 16, false⟩),
  (10, ⟨.str, R_10, 16, false⟩),
  (11, ⟨.str, R_11, 16, false⟩),
  (12, ⟨.scalar, R_12, 8, false⟩),
  (13, ⟨.struct [(0, 9), (1, 12)], R_13, 24, false⟩),
  (14, ⟨.struct [(0, 9), (1, 12)], R_14, 24, false⟩),
  (21, ⟨.scalar, R_21, 4, false⟩),
  (22, ⟨.slice T_int, R_22, 24, false⟩),
  (23, ⟨.struct [(0, 3), (1, 22), (2, 22)], R_23, 56, false⟩),
  (24, ⟨.struct [(0, 3), (1, 22), (2, 22)], R_24, 56, false⟩),
  (27, ⟨.struct [(0, 3), (1, 22), (2, 22)], R_27, 56, false⟩),
  (35, ⟨.struct [(0, 9), (1, 22)], R_35, 40, false⟩),
  (36, ⟨.struct [(0, 9), (1, 22)], R_36, 40, false⟩),
  (39, ⟨.struct [(0, 9), (1, 22)], R_39, 40, false⟩),
  (45, ⟨.slice T_string, R_45, 24, false⟩),
  (49, ⟨.slice T_uint8, R_49, 24, false⟩),
  (65, ⟨.scalar, R_65, 8, false⟩),
  (73, ⟨.scalar, R_73, 4, false⟩),
  (76, ⟨.scalar, R_76, 8, false⟩),
  (87, ⟨.scalar, R_87, 1, false⟩),
  (88, ⟨.scalar, R_88, 1, false⟩),
  (90, ⟨.scalar, R_90, 4, false⟩),
  (91, ⟨.scalar, R_91, 4, false⟩)]
def Θ : TEnv := findT tys
theorem types_checked : checkTs prog tys = true := by kernel_rfl
theorem mixed : prog.follows .mixedOrders = true := by kernel_rfl

/-- The table of powers of ten lies where it was laid. -/
def G : Glob where
  n := 2
  ok := fun w => Lib.TabIs prog w "internal/strconv.uint64pow10" .u64 Lib.pow10Tab
  low := by
    intro w h
    have h2 : World.var? prog w "internal/strconv.uint64pow10" = some (Lib.pow10Tab.map fun z => Value.int .u64 z).toArray := h
    unfold World.var? at h2
    obtain ⟨g, hg, hv⟩ := Option.bind_eq_some_iff.1 h2
    have e : prog.globalNamed "internal/strconv.uint64pow10" = some 1 := by kernel_rfl
    rw [e] at hg; cases hg
    rcases Nat.lt_or_ge 1 w.heap.size with h | h
    · exact h
    · rw [Array.getElem?_eq_none h] at hv; cases hv
  stable := by
    intro w w' h hs hk
    have h2 : World.var? prog w "internal/strconv.uint64pow10" = some (Lib.pow10Tab.map fun z => Value.int .u64 z).toArray := h
    show World.var? prog w' "internal/strconv.uint64pow10" = _
    unfold World.var? at h2 ⊢
    obtain ⟨g, hg, hv⟩ := Option.bind_eq_some_iff.1 h2
    rw [hg]
    have hg8 : g < 2 := by
      have e : prog.globalNamed "internal/strconv.uint64pow10" = some 1 := by kernel_rfl
      rw [e] at hg; cases hg; decide
    show (match w'.heap[g]? with | some (.cells cs _ _) => some cs | _ => none) = _
    rw [hk g hg8]
    exact hv

abbrev n_laws_szIntS : Nat := 20
theorem cal_laws_szIntS : Callable prog n_laws_szIntS := callable_of (fn := f20) (by kernel_rfl) (by kernel_rfl)
abbrev n_laws_toIntS : Nat := 12
theorem cal_laws_toIntS : Callable prog n_laws_toIntS := callable_of (fn := f12) (by kernel_rfl) (by kernel_rfl)
abbrev n_laws_eqIntS : Nat := 14
theorem cal_laws_eqIntS : Callable prog n_laws_eqIntS := callable_of (fn := f14) (by kernel_rfl) (by kernel_rfl)
abbrev n_strconv_Itoa : Nat := 27
theorem cal_strconv_Itoa : Callable prog n_strconv_Itoa := callable_of (fn := f27) (by kernel_rfl) (by kernel_rfl)
abbrev n_strings_Join : Nat := 23
theorem cal_strings_Join : Callable prog n_strings_Join := callable_of (fn := f23) (by kernel_rfl) (by kernel_rfl)
abbrev n_impl_FormatInt : Nat := 22
theorem cal_impl_FormatInt : Callable prog n_impl_FormatInt := callable_of (fn := f22) (by kernel_rfl) (by kernel_rfl)
abbrev n_spec_l01Figure : Nat := 26
theorem cal_spec_l01Figure : Callable prog n_spec_l01Figure := callable_of (fn := f26) (by kernel_rfl) (by kernel_rfl)
abbrev n_spec_FormatInt : Nat := 21
theorem cal_spec_FormatInt : Callable prog n_spec_FormatInt := callable_of (fn := f21) (by kernel_rfl) (by kernel_rfl)
abbrev n_laws_szEvent : Nat := 6
theorem cal_laws_szEvent : Callable prog n_laws_szEvent := callable_of (fn := f6) (by kernel_rfl) (by kernel_rfl)
abbrev n_laws_toEvent : Nat := 8
theorem cal_laws_toEvent : Callable prog n_laws_toEvent := callable_of (fn := f8) (by kernel_rfl) (by kernel_rfl)
abbrev n_laws_eqEvent : Nat := 10
theorem cal_laws_eqEvent : Callable prog n_laws_eqEvent := callable_of (fn := f10) (by kernel_rfl) (by kernel_rfl)
abbrev n_spec_FormatEvent : Nat := 7
theorem cal_spec_FormatEvent : Callable prog n_spec_FormatEvent := callable_of (fn := f7) (by kernel_rfl) (by kernel_rfl)
abbrev n_impl_FormatEvent : Nat := 9
theorem cal_impl_FormatEvent : Callable prog n_impl_FormatEvent := callable_of (fn := f9) (by kernel_rfl) (by kernel_rfl)
abbrev n_laws_szResult : Nat := 15
theorem cal_laws_szResult : Callable prog n_laws_szResult := callable_of (fn := f15) (by kernel_rfl) (by kernel_rfl)
abbrev n_laws_toResult : Nat := 17
theorem cal_laws_toResult : Callable prog n_laws_toResult := callable_of (fn := f17) (by kernel_rfl) (by kernel_rfl)
abbrev n_laws_eqResult : Nat := 19
theorem cal_laws_eqResult : Callable prog n_laws_eqResult := callable_of (fn := f19) (by kernel_rfl) (by kernel_rfl)
abbrev n_spec_FormatIDs : Nat := 11
theorem cal_spec_FormatIDs : Callable prog n_spec_FormatIDs := callable_of (fn := f11) (by kernel_rfl) (by kernel_rfl)
abbrev n_impl_FormatIDs : Nat := 13
theorem cal_impl_FormatIDs : Callable prog n_impl_FormatIDs := callable_of (fn := f13) (by kernel_rfl) (by kernel_rfl)
abbrev n_spec_l39With : Nat := 24
theorem cal_spec_l39With : Callable prog n_spec_l39With := callable_of (fn := f24) (by kernel_rfl) (by kernel_rfl)
abbrev n_impl_withIDs : Nat := 25
theorem cal_impl_withIDs : Callable prog n_impl_withIDs := callable_of (fn := f25) (by kernel_rfl) (by kernel_rfl)
abbrev n_spec_FormatResult : Nat := 16
theorem cal_spec_FormatResult : Callable prog n_spec_FormatResult := callable_of (fn := f16) (by kernel_rfl) (by kernel_rfl)
abbrev n_impl_FormatResult : Nat := 18
theorem cal_impl_FormatResult : Callable prog n_impl_FormatResult := callable_of (fn := f18) (by kernel_rfl) (by kernel_rfl)
abbrev n_laws_FnExactFormatEvent : Nat := 3
theorem cal_laws_FnExactFormatEvent : Callable prog n_laws_FnExactFormatEvent := callable_of (fn := f3) (by kernel_rfl) (by kernel_rfl)
abbrev n_laws_FnExactFormatIDs : Nat := 4
theorem cal_laws_FnExactFormatIDs : Callable prog n_laws_FnExactFormatIDs := callable_of (fn := f4) (by kernel_rfl) (by kernel_rfl)
abbrev n_laws_FnExactFormatResult : Nat := 5
theorem cal_laws_FnExactFormatResult : Callable prog n_laws_FnExactFormatResult := callable_of (fn := f5) (by kernel_rfl) (by kernel_rfl)
end Go.Proofs.Tryd
