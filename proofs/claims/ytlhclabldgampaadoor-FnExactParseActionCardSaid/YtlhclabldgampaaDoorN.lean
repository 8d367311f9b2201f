import Derived.Test.YtlhclabldgampaaDoorFwC
import Derived.Test.YtlhclabldgampaaDoorProg
import Derived.Lib.LaidTab
import Derived.Lib.ItoaNum
import Derived.Lib.Space
namespace Go.Proofs.Tryd
open Go Go.Fw

abbrev T_int64 : TypeId := 2
abbrev T_int : TypeId := 3
abbrev T_bool : TypeId := 4
abbrev T_uint8 : TypeId := 5
abbrev T_abi_BoundsErrorCode : TypeId := 6
abbrev T_runtime_boundsError : TypeId := 8
abbrev T_string : TypeId := 9
abbrev T_runtime_errorString : TypeId := 10
abbrev T_runtime_plainError : TypeId := 11
abbrev T_uintptr : TypeId := 12
abbrev T_runtime_errorAddressString : TypeId := 14
abbrev T_maps_unhashableTypeError : TypeId := 19
abbrev T_int32 : TypeId := 21
abbrev T_impl_Action : TypeId := 24
abbrev T_impl_File : TypeId := 54
abbrev T_impl_Dir : TypeId := 57
abbrev T_impl_Change : TypeId := 59
abbrev T_error : TypeId := 69
abbrev T_strings_Builder : TypeId := 76
abbrev T_impl_Value : TypeId := 82
abbrev T_impl_Attr : TypeId := 84
abbrev T_impl_Node : TypeId := 86
abbrev T_strings_span : TypeId := 89
abbrev T_uint32 : TypeId := 90
abbrev T_unicode_RangeTable : TypeId := 101
abbrev T_uint16 : TypeId := 102
abbrev T_unicode_Range16 : TypeId := 104
abbrev T_unicode_Range32 : TypeId := 107
abbrev T_strconv_Error : TypeId := 109
abbrev T_uint : TypeId := 122
abbrev T_uint64 : TypeId := 124
abbrev T_strconv_NumError : TypeId := 129
abbrev T_errors_errorString : TypeId := 140
abbrev T_runtime_TypeAssertionError : TypeId := 152
abbrev T_runtime_PanicNilError : TypeId := 155
abbrev T_abi_TFlag : TypeId := 157
abbrev T_abi_Kind : TypeId := 158
abbrev T_abi_NameOff : TypeId := 160
abbrev T_abi_TypeOff : TypeId := 161
abbrev T_abi_Type : TypeId := 163
abbrev T_fmt_wrapError : TypeId := 165
abbrev T_fmt_wrapErrors : TypeId := 168
abbrev R_2 : CTs := (.cons (.int .i64) .nil) -- int64
abbrev R_3 : CTs := (.cons (.int .i64) .nil) -- int
abbrev R_4 : CTs := (.cons (.bool) .nil) -- bool
abbrev R_5 : CTs := (.cons (.int .u8) .nil) -- uint8
abbrev R_6 : CTs := (.cons (.int .u8) .nil) -- abi.BoundsErrorCode
abbrev R_7 : CTs := (.cons (.int .i64) (.cons (.int .i64) (.cons (.bool) (.cons (.int .u8) .nil)))) -- struct { x int64; y int; signed bool; code abi.BoundsErrorCode }
abbrev R_8 : CTs := (.cons (.int .i64) (.cons (.int .i64) (.cons (.bool) (.cons (.int .u8) .nil)))) -- runtime.boundsError
abbrev R_9 : CTs := (.cons (.str) .nil) -- string
abbrev R_10 : CTs := (.cons (.str) .nil) -- runtime.errorString
abbrev R_11 : CTs := (.cons (.str) .nil) -- runtime.plainError
abbrev R_12 : CTs := (.cons (.int .u64) .nil) -- uintptr
abbrev R_13 : CTs := (.cons (.str) (.cons (.int .u64) .nil)) -- struct { msg string; addr uintptr }
abbrev R_14 : CTs := (.cons (.str) (.cons (.int .u64) .nil)) -- runtime.errorAddressString
abbrev R_21 : CTs := (.cons (.int .i32) .nil) -- int32
abbrev R_82 : CTs := (.cons (.int .i64) (.cons (.int .i64) (.cons (.str) .nil))) -- impl.Value
abbrev R_84 : CTs := (.cons (.str) (.cons (.int .i64) (.cons (.int .i64) (.cons (.str) .nil)))) -- impl.Attr
abbrev R_52 : CTs := (.cons (.sl T_impl_Attr R_84) .nil) -- []impl.Attr
abbrev R_54 : CTs := (.cons (.int .i64) (.cons (.int .i64) (.cons (.bool) (.cons (.int .i64) (.cons (.sl T_impl_Attr R_84) .nil))))) -- impl.File
abbrev R_86 : CTs := (.cons (.int .i64) (.cons (.int .i64) (.cons (.int .i64) (.cons (.str) (.cons (.int .i64) (.cons (.int .i64) (.cons (.str) .nil))))))) -- impl.Node
abbrev R_55 : CTs := (.cons (.sl T_impl_Node R_86) .nil) -- []impl.Node
abbrev R_57 : CTs := (.cons (.str) (.cons (.sl T_impl_Node R_86) .nil)) -- impl.Dir
abbrev R_59 : CTs := (.cons (.int .i64) (.cons (.int .i64) (.cons (.int .i64) (.cons (.bool) (.cons (.int .i64) (.cons (.sl T_impl_Attr R_84) (.cons (.int .i64) (.cons (.str) (.cons (.sl T_impl_Node R_86) .nil))))))))) -- impl.Change
abbrev R_22 : CTs := (.cons (.sl T_impl_Change R_59) .nil) -- []impl.Change
abbrev R_23 : CTs := (.cons (.int .i64) (.cons (.int .i64) (.cons (.sl T_impl_Change R_59) (.cons (.str) (.cons (.int .i64) .nil))))) -- struct { Kind int; User int; Changes []impl.Change; Name string; Arg int }
abbrev R_24 : CTs := (.cons (.int .i64) (.cons (.int .i64) (.cons (.sl T_impl_Change R_59) (.cons (.str) (.cons (.int .i64) .nil))))) -- impl.Action
abbrev R_30 : CTs := (.cons (.sl T_string R_9) .nil) -- []string
abbrev R_49 : CTs := (.cons (.sl T_int R_3) .nil) -- []int
abbrev R_53 : CTs := (.cons (.int .i64) (.cons (.int .i64) (.cons (.bool) (.cons (.int .i64) (.cons (.sl T_impl_Attr R_84) .nil))))) -- struct { ID int; Owner int; Shared bool; Link int; Attrs []impl.Attr }
abbrev R_56 : CTs := (.cons (.str) (.cons (.sl T_impl_Node R_86) .nil)) -- struct { Name string; Query []impl.Node }
abbrev R_58 : CTs := (.cons (.int .i64) (.cons (.int .i64) (.cons (.int .i64) (.cons (.bool) (.cons (.int .i64) (.cons (.sl T_impl_Attr R_84) (.cons (.int .i64) (.cons (.str) (.cons (.sl T_impl_Node R_86) .nil))))))))) -- struct { Kind int; File impl.File; ID int; Dir impl.Dir }
abbrev R_64 : CTs := (.cons (.sl T_uint8 R_5) .nil) -- []uint8
abbrev R_81 : CTs := (.cons (.int .i64) (.cons (.int .i64) (.cons (.str) .nil))) -- struct { Kind int; Int int; Str string }
abbrev R_83 : CTs := (.cons (.str) (.cons (.int .i64) (.cons (.int .i64) (.cons (.str) .nil)))) -- struct { Name string; Value impl.Value }
abbrev R_85 : CTs := (.cons (.int .i64) (.cons (.int .i64) (.cons (.int .i64) (.cons (.str) (.cons (.int .i64) (.cons (.int .i64) (.cons (.str) .nil))))))) -- struct { Op int; Left int; Right int; Name string; Value impl.Value }
abbrev R_89 : CTs := (.cons (.int .i64) (.cons (.int .i64) .nil)) -- strings.span
abbrev R_87 : CTs := (.cons (.sl T_strings_span R_89) .nil) -- []strings.span
abbrev R_88 : CTs := (.cons (.int .i64) (.cons (.int .i64) .nil)) -- struct { start int; end int }
abbrev R_90 : CTs := (.cons (.int .u32) .nil) -- uint32
abbrev R_102 : CTs := (.cons (.int .u16) .nil) -- uint16
abbrev R_104 : CTs := (.cons (.int .u16) (.cons (.int .u16) (.cons (.int .u16) .nil))) -- unicode.Range16
abbrev R_98 : CTs := (.cons (.sl T_unicode_Range16 R_104) .nil) -- []unicode.Range16
abbrev R_107 : CTs := (.cons (.int .u32) (.cons (.int .u32) (.cons (.int .u32) .nil))) -- unicode.Range32
abbrev R_99 : CTs := (.cons (.sl T_unicode_Range32 R_107) .nil) -- []unicode.Range32
abbrev R_100 : CTs := (.cons (.sl T_unicode_Range16 R_104) (.cons (.sl T_unicode_Range32 R_107) (.cons (.int .i64) .nil))) -- struct { R16 []unicode.Range16; R32 []unicode.Range32; LatinOffset int }
abbrev R_101 : CTs := (.cons (.sl T_unicode_Range16 R_104) (.cons (.sl T_unicode_Range32 R_107) (.cons (.int .i64) .nil))) -- unicode.RangeTable
abbrev R_103 : CTs := (.cons (.int .u16) (.cons (.int .u16) (.cons (.int .u16) .nil))) -- struct { Lo uint16; Hi uint16; Stride uint16 }
abbrev R_106 : CTs := (.cons (.int .u32) (.cons (.int .u32) (.cons (.int .u32) .nil))) -- struct { Lo uint32; Hi uint32; Stride uint32 }
abbrev R_109 : CTs := (.cons (.int .i64) .nil) -- strconv.Error
abbrev R_122 : CTs := (.cons (.int .u64) .nil) -- uint
abbrev R_124 : CTs := (.cons (.int .u64) .nil) -- uint64
abbrev R_139 : CTs := (.cons (.str) .nil) -- struct { s string }
abbrev R_140 : CTs := (.cons (.str) .nil) -- errors.errorString
abbrev R_157 : CTs := (.cons (.int .u8) .nil) -- abi.TFlag
abbrev R_158 : CTs := (.cons (.int .u8) .nil) -- abi.Kind
abbrev R_160 : CTs := (.cons (.int .i32) .nil) -- abi.NameOff
abbrev R_161 : CTs := (.cons (.int .i32) .nil) -- abi.TypeOff
def tys : List (Nat × Go.Fw.TI) := [
  (2, ⟨.scalar, R_2, 8, false⟩),
  (3, ⟨.scalar, R_3, 8, false⟩),
  (4, ⟨.scalar, R_4, 1, false⟩),
  (5, ⟨.scalar, R_5, 1, false⟩),
  (6, ⟨.scalar, R_6, 1, false⟩),
  (7, ⟨.struct [(0, 2), (1, 3), (2, 4), (3, 6)], R_7, 24, false⟩),
  (8, ⟨.struct [(0, 2), (1, 3), (2, 4), (3, 6)], R_8, 24, false⟩),
  (9, ⟨.str, R_9, 16, false⟩),
  (10, ⟨.str, R_10, 16, false⟩),
  (11, ⟨.str, R_11, 16, false⟩),
  (12, ⟨.scalar, R_12, 8, false⟩),
  (13, ⟨.struct [(0, 9), (1, 12)], R_13, 24, false⟩),
  (14, ⟨.struct [(0, 9), (1, 12)], R_14, 24, false⟩),
  (21, ⟨.scalar, R_21, 4, false⟩),
  (22, ⟨.slice T_impl_Change, R_22, 24, false⟩),
  (23, ⟨.struct [(0, 3), (1, 3), (2, 22), (3, 9), (4, 3)], R_23, 64, false⟩),
  (24, ⟨.struct [(0, 3), (1, 3), (2, 22), (3, 9), (4, 3)], R_24, 64, false⟩),
  (30, ⟨.slice T_string, R_30, 24, false⟩),
  (49, ⟨.slice T_int, R_49, 24, false⟩),
  (52, ⟨.slice T_impl_Attr, R_52, 24, false⟩),
  (53, ⟨.struct [(0, 3), (1, 3), (2, 4), (3, 3), (4, 52)], R_53, 56, false⟩),
  (54, ⟨.struct [(0, 3), (1, 3), (2, 4), (3, 3), (4, 52)], R_54, 56, false⟩),
  (55, ⟨.slice T_impl_Node, R_55, 24, false⟩),
  (56, ⟨.struct [(0, 9), (1, 55)], R_56, 40, false⟩),
  (57, ⟨.struct [(0, 9), (1, 55)], R_57, 40, false⟩),
  (58, ⟨.struct [(0, 3), (1, 54), (6, 3), (7, 57)], R_58, 112, false⟩),
  (59, ⟨.struct [(0, 3), (1, 54), (6, 3), (7, 57)], R_59, 112, false⟩),
  (64, ⟨.slice T_uint8, R_64, 24, false⟩),
  (81, ⟨.struct [(0, 3), (1, 3), (2, 9)], R_81, 32, false⟩),
  (82, ⟨.struct [(0, 3), (1, 3), (2, 9)], R_82, 32, true⟩),
  (83, ⟨.struct [(0, 9), (1, 82)], R_83, 48, true⟩),
  (84, ⟨.struct [(0, 9), (1, 82)], R_84, 48, true⟩),
  (85, ⟨.struct [(0, 3), (1, 3), (2, 3), (3, 9), (4, 82)], R_85, 72, true⟩),
  (86, ⟨.struct [(0, 3), (1, 3), (2, 3), (3, 9), (4, 82)], R_86, 72, true⟩),
  (87, ⟨.slice T_strings_span, R_87, 24, false⟩),
  (88, ⟨.struct [(0, 3), (1, 3)], R_88, 16, false⟩),
  (89, ⟨.struct [(0, 3), (1, 3)], R_89, 16, false⟩),
  (90, ⟨.scalar, R_90, 4, false⟩),
  (98, ⟨.slice T_unicode_Range16, R_98, 24, false⟩),
  (99, ⟨.slice T_unicode_Range32, R_99, 24, false⟩),
  (100, ⟨.struct [(0, 98), (1, 99), (2, 3)], R_100, 56, false⟩),
  (101, ⟨.struct [(0, 98), (1, 99), (2, 3)], R_101, 56, false⟩),
  (102, ⟨.scalar, R_102, 2, false⟩),
  (103, ⟨.struct [(0, 102), (1, 102), (2, 102)], R_103, 6, false⟩),
  (104, ⟨.struct [(0, 102), (1, 102), (2, 102)], R_104, 6, false⟩),
  (106, ⟨.struct [(0, 90), (1, 90), (2, 90)], R_106, 12, false⟩),
  (107, ⟨.struct [(0, 90), (1, 90), (2, 90)], R_107, 12, false⟩),
  (109, ⟨.scalar, R_109, 8, false⟩),
  (122, ⟨.scalar, R_122, 8, false⟩),
  (124, ⟨.scalar, R_124, 8, false⟩),
  (139, ⟨.struct [(0, 9)], R_139, 16, false⟩),
  (140, ⟨.struct [(0, 9)], R_140, 16, false⟩),
  (157, ⟨.scalar, R_157, 1, false⟩),
  (158, ⟨.scalar, R_158, 1, false⟩),
  (160, ⟨.scalar, R_160, 4, false⟩),
  (161, ⟨.scalar, R_161, 4, false⟩)]
def Θ : TEnv := findT tys
theorem types_checked : checkTs prog tys = true := by kernel_rfl
theorem mixed : prog.follows .mixedOrders = true := by kernel_rfl

theorem var_keep {w w' : World} {name : String} {g : Nat} {cs : Array Value} (hg : prog.globalNamed name = some g) (hk : w'.heap[g]? = w.heap[g]?) (h : World.var? prog w name = some cs) : World.var? prog w' name = some cs := by
  unfold World.var? at h ⊢
  rw [hg] at h ⊢
  show (match w'.heap[g]? with | some (.cells cs _ _) => some cs | _ => none) = _
  rw [hk]
  exact h
theorem var_low {w : World} {name : String} {g : Nat} {cs : Array Value} (hg : prog.globalNamed name = some g) (h : World.var? prog w name = some cs) : g < w.heap.size := by
  unfold World.var? at h
  rw [hg] at h
  have h : (match w.heap[g]? with | some (.cells cs _ _) => some cs | _ => none) = some cs := h
  rcases Nat.lt_or_ge g w.heap.size with h' | h'
  · exact h'
  · rw [Array.getElem?_eq_none h'] at h; cases h
def isErr (ev : Value) : Prop := ev = .nilIface ∨ ∃ te pe, ev = .iface te pe
/-- The tables and the two errors lie where they were laid. -/
def G : Glob where
  n := 6
  ok := fun w => Lib.TabIs prog w "internal/strconv.uint64pow10" .u64 Lib.pow10Tab ∧ Lib.TabIs prog w "strings.asciiSpace" .u8 Lib.asciiSpaceTab ∧
    (∃ ev, w.cell? ⟨2, 0, none⟩ = some ev ∧ isErr ev) ∧ ∃ ev, w.cell? ⟨3, 0, none⟩ = some ev ∧ isErr ev
  low := fun w h => var_low (g := 5) (by kernel_rfl) h.1
  stable := by
    intro w w' h hs hk
    refine ⟨var_keep (g := 5) (by kernel_rfl) (hk 5 (by decide)) h.1, var_keep (g := 0) (by kernel_rfl) (hk 0 (by decide)) h.2.1, ?_, ?_⟩
    · obtain ⟨ev, h1, h2⟩ := h.2.2.1
      exact ⟨ev, by rw [World.cell?_of_block (a := ⟨2, 0, none⟩) (hk 2 (by decide))]; exact h1, h2⟩
    · obtain ⟨ev, h1, h2⟩ := h.2.2.2
      exact ⟨ev, by rw [World.cell?_of_block (a := ⟨3, 0, none⟩) (hk 3 (by decide))]; exact h1, h2⟩

abbrev n_strconv_Itoa : Nat := 47
theorem cal_strconv_Itoa : Callable prog n_strconv_Itoa := callable_of (fn := f47) (by kernel_rfl) (by kernel_rfl)
abbrev n_strings_Join : Nat := 35
theorem cal_strings_Join : Callable prog n_strings_Join := callable_of (fn := f35) (by kernel_rfl) (by kernel_rfl)
abbrev n_impl_FormatInt : Nat := 31
theorem cal_impl_FormatInt : Callable prog n_impl_FormatInt := callable_of (fn := f31) (by kernel_rfl) (by kernel_rfl)
abbrev n_spec_l01Figure : Nat := 43
theorem cal_spec_l01Figure : Callable prog n_spec_l01Figure := callable_of (fn := f43) (by kernel_rfl) (by kernel_rfl)
abbrev n_spec_FormatInt : Nat := 26
theorem cal_spec_FormatInt : Callable prog n_spec_FormatInt := callable_of (fn := f26) (by kernel_rfl) (by kernel_rfl)
abbrev n_laws_eqValue : Nat := 83
theorem cal_laws_eqValue : Callable prog n_laws_eqValue := callable_of (fn := f83) (by kernel_rfl) (by kernel_rfl)
abbrev n_laws_eqAttr : Nat := 74
theorem cal_laws_eqAttr : Callable prog n_laws_eqAttr := callable_of (fn := f74) (by kernel_rfl) (by kernel_rfl)
abbrev n_laws_eqNode : Nat := 75
theorem cal_laws_eqNode : Callable prog n_laws_eqNode := callable_of (fn := f75) (by kernel_rfl) (by kernel_rfl)
abbrev n_laws_eqAttrS : Nat := 62
theorem cal_laws_eqAttrS : Callable prog n_laws_eqAttrS := callable_of (fn := f62) (by kernel_rfl) (by kernel_rfl)
abbrev n_laws_eqNodeS : Nat := 63
theorem cal_laws_eqNodeS : Callable prog n_laws_eqNodeS := callable_of (fn := f63) (by kernel_rfl) (by kernel_rfl)
abbrev n_laws_eqFile : Nat := 53
theorem cal_laws_eqFile : Callable prog n_laws_eqFile := callable_of (fn := f53) (by kernel_rfl) (by kernel_rfl)
abbrev n_laws_eqDir : Nat := 54
theorem cal_laws_eqDir : Callable prog n_laws_eqDir := callable_of (fn := f54) (by kernel_rfl) (by kernel_rfl)
abbrev n_laws_eqChange : Nat := 36
theorem cal_laws_eqChange : Callable prog n_laws_eqChange := callable_of (fn := f36) (by kernel_rfl) (by kernel_rfl)
abbrev n_laws_eqChangeS : Nat := 19
theorem cal_laws_eqChangeS : Callable prog n_laws_eqChangeS := callable_of (fn := f19) (by kernel_rfl) (by kernel_rfl)
abbrev n_laws_eqAction : Nat := 6
theorem cal_laws_eqAction : Callable prog n_laws_eqAction := callable_of (fn := f6) (by kernel_rfl) (by kernel_rfl)
abbrev n_spec_l01In : Nat := 23
theorem cal_spec_l01In : Callable prog n_spec_l01In := callable_of (fn := f23) (by kernel_rfl) (by kernel_rfl)
abbrev n_impl_within : Nat := 27
theorem cal_impl_within : Callable prog n_impl_within := callable_of (fn := f27) (by kernel_rfl) (by kernel_rfl)
abbrev n_spec_l02Text : Nat := 42
theorem cal_spec_l02Text : Callable prog n_spec_l02Text := callable_of (fn := f42) (by kernel_rfl) (by kernel_rfl)
abbrev n_spec_IsValidString : Nat := 24
theorem cal_spec_IsValidString : Callable prog n_spec_IsValidString := callable_of (fn := f24) (by kernel_rfl) (by kernel_rfl)
abbrev n_impl_IsValidString : Nat := 34
theorem cal_impl_IsValidString : Callable prog n_impl_IsValidString := callable_of (fn := f34) (by kernel_rfl) (by kernel_rfl)
abbrev n_spec_IsValidAction : Nat := 25
theorem cal_spec_IsValidAction : Callable prog n_spec_IsValidAction := callable_of (fn := f25) (by kernel_rfl) (by kernel_rfl)
abbrev n_impl_IsValidAction : Nat := 32
theorem cal_impl_IsValidAction : Callable prog n_impl_IsValidAction := callable_of (fn := f32) (by kernel_rfl) (by kernel_rfl)
abbrev n_impl_areNumbers_1 : Nat := 49
theorem cal_impl_areNumbers_1 : Callable prog n_impl_areNumbers_1 := callable_of (fn := f49) (by kernel_rfl) (by kernel_rfl)
abbrev n_slices_IndexFunc_int__impl_areNumbers_1 : Nat := 59
theorem cal_slices_IndexFunc_int__impl_areNumbers_1 : Callable prog n_slices_IndexFunc_int__impl_areNumbers_1 := callable_of (fn := f59) (by kernel_rfl) (by kernel_rfl)
abbrev n_slices_ContainsFunc_int__impl_areNumbers_1 : Nat := 48
theorem cal_slices_ContainsFunc_int__impl_areNumbers_1 : Callable prog n_slices_ContainsFunc_int__impl_areNumbers_1 := callable_of (fn := f48) (by kernel_rfl) (by kernel_rfl)
abbrev n_impl_areNumbers : Nat := 33
theorem cal_impl_areNumbers : Callable prog n_impl_areNumbers := callable_of (fn := f33) (by kernel_rfl) (by kernel_rfl)
abbrev n_spec_FormatAction : Nat := 12
theorem cal_spec_FormatAction : Callable prog n_spec_FormatAction := callable_of (fn := f12) (by kernel_rfl) (by kernel_rfl)
abbrev n_impl_FormatAction : Nat := 18
theorem cal_impl_FormatAction : Callable prog n_impl_FormatAction := callable_of (fn := f18) (by kernel_rfl) (by kernel_rfl)
abbrev n_strings_Fields : Nat := 28
theorem cal_strings_Fields : Callable prog n_strings_Fields := callable_of (fn := f28) (by kernel_rfl) (by kernel_rfl)
abbrev n_impl_ParseUint : Nat := 29
theorem cal_impl_ParseUint : Callable prog n_impl_ParseUint := callable_of (fn := f29) (by kernel_rfl) (by kernel_rfl)
abbrev n_spec_ParseUint : Nat := 22
theorem cal_spec_ParseUint : Callable prog n_spec_ParseUint := callable_of (fn := f22) (by kernel_rfl) (by kernel_rfl)
abbrev n_spec_SplitFields : Nat := 9
theorem cal_spec_SplitFields : Callable prog n_spec_SplitFields := callable_of (fn := f9) (by kernel_rfl) (by kernel_rfl)
abbrev n_impl_SplitFields : Nat := 14
theorem cal_impl_SplitFields : Callable prog n_impl_SplitFields := callable_of (fn := f14) (by kernel_rfl) (by kernel_rfl)
abbrev n_spec_l10Part : Nat := 11
theorem cal_spec_l10Part : Callable prog n_spec_l10Part := callable_of (fn := f11) (by kernel_rfl) (by kernel_rfl)
abbrev n_impl_wordAt : Nat := 16
theorem cal_impl_wordAt : Callable prog n_impl_wordAt := callable_of (fn := f16) (by kernel_rfl) (by kernel_rfl)
abbrev n_spec_l26Num : Nat := 10
theorem cal_spec_l26Num : Callable prog n_spec_l26Num := callable_of (fn := f10) (by kernel_rfl) (by kernel_rfl)
abbrev n_impl_numberAt : Nat := 15
theorem cal_impl_numberAt : Callable prog n_impl_numberAt := callable_of (fn := f15) (by kernel_rfl) (by kernel_rfl)
abbrev n_spec_l10Join : Nat := 13
theorem cal_spec_l10Join : Callable prog n_spec_l10Join := callable_of (fn := f13) (by kernel_rfl) (by kernel_rfl)
abbrev n_slices_Equal_string : Nat := 30
theorem cal_slices_Equal_string : Callable prog n_slices_Equal_string := callable_of (fn := f30) (by kernel_rfl) (by kernel_rfl)
abbrev n_impl_sameFields : Nat := 17
theorem cal_impl_sameFields : Callable prog n_impl_sameFields := callable_of (fn := f17) (by kernel_rfl) (by kernel_rfl)
abbrev n_spec_ParseAction : Nat := 4
theorem cal_spec_ParseAction : Callable prog n_spec_ParseAction := callable_of (fn := f4) (by kernel_rfl) (by kernel_rfl)
abbrev n_impl_ParseAction : Nat := 5
theorem cal_impl_ParseAction : Callable prog n_impl_ParseAction := callable_of (fn := f5) (by kernel_rfl) (by kernel_rfl)
abbrev n_laws_markChangeS : Nat := 20
theorem cal_laws_markChangeS : Callable prog n_laws_markChangeS := callable_of (fn := f20) (by kernel_rfl) (by kernel_rfl)
abbrev n_laws_heldChangeS : Nat := 21
theorem cal_laws_heldChangeS : Callable prog n_laws_heldChangeS := callable_of (fn := f21) (by kernel_rfl) (by kernel_rfl)
abbrev n_laws_markAction : Nat := 7
theorem cal_laws_markAction : Callable prog n_laws_markAction := callable_of (fn := f7) (by kernel_rfl) (by kernel_rfl)
abbrev n_laws_heldAction : Nat := 8
theorem cal_laws_heldAction : Callable prog n_laws_heldAction := callable_of (fn := f8) (by kernel_rfl) (by kernel_rfl)
abbrev n_laws_FnExactParseAction : Nat := 3
theorem cal_laws_FnExactParseAction : Callable prog n_laws_FnExactParseAction := callable_of (fn := f3) (by kernel_rfl) (by kernel_rfl)
end Go.Proofs.Tryd
