import Derived.Test.YtlhclabldgampaaGreatDoorFwC
import Derived.Test.YtlhclabldgampaaGreatDoorProg
import Derived.Lib.LaidTab
import Derived.Lib.ItoaNum
import Derived.Lib.Space
namespace Go.Proofs.Tryz
open Go Go.Fw

abbrev T_int64 : TypeId := 2
abbrev T_int : TypeId := 3
abbrev T_bool : TypeId := 4
abbrev T_uint8 : TypeId := 5
abbrev T_abi_BoundsErrorCode : TypeId := 6
abbrev T_runtime_boundsError : TypeId := 8
abbrev T_string : TypeId := 9
abbrev T_runtime_errorString : TypeId := 10
abbrev T_runtime_plainError : TypeId := 11
abbrev T_uintptr : TypeId := 12
abbrev T_runtime_errorAddressString : TypeId := 14
abbrev T_maps_unhashableTypeError : TypeId := 19
abbrev T_int32 : TypeId := 21
abbrev T_impl_File : TypeId := 28
abbrev T_impl_Dir : TypeId := 31
abbrev T_impl_Change : TypeId := 33
abbrev T_impl_Action : TypeId := 39
abbrev T_spec_l01Cur : TypeId := 64
abbrev T_impl_Value : TypeId := 70
abbrev T_impl_Attr : TypeId := 74
abbrev T_impl_queryReader : TypeId := 77
abbrev T_strings_Builder : TypeId := 82
abbrev T_error : TypeId := 85
abbrev T_uint : TypeId := 100
abbrev T_impl_Node : TypeId := 107
abbrev T_strings_span : TypeId := 121
abbrev T_uint32 : TypeId := 122
abbrev T_uint64 : TypeId := 131
abbrev T_unicode_RangeTable : TypeId := 143
abbrev T_uint16 : TypeId := 144
abbrev T_unicode_Range16 : TypeId := 146
abbrev T_unicode_Range32 : TypeId := 149
abbrev T_strconv_Error : TypeId := 151
abbrev T_strconv_NumError : TypeId := 168
abbrev T_utf8_acceptRange : TypeId := 172
abbrev T_errors_errorString : TypeId := 179
abbrev T_runtime_TypeAssertionError : TypeId := 185
abbrev T_runtime_PanicNilError : TypeId := 188
abbrev T_abi_TFlag : TypeId := 190
abbrev T_abi_Kind : TypeId := 191
abbrev T_abi_NameOff : TypeId := 193
abbrev T_abi_TypeOff : TypeId := 194
abbrev T_abi_Type : TypeId := 196
abbrev T_fmt_wrapError : TypeId := 198
abbrev T_fmt_wrapErrors : TypeId := 201
abbrev R_2 : CTs := (.cons (.int .i64) .nil) -- int64
abbrev R_3 : CTs := (.cons (.int .i64) .nil) -- int
abbrev R_4 : CTs := (.cons (.bool) .nil) -- bool
abbrev R_5 : CTs := (.cons (.int .u8) .nil) -- uint8
abbrev R_6 : CTs := (.cons (.int .u8) .nil) -- abi.BoundsErrorCode
abbrev R_7 : CTs := (.cons (.int .i64) (.cons (.int .i64) (.cons (.bool) (.cons (.int .u8) .nil)))) -- struct { x int64; y int; signed bool; code abi.BoundsErrorCode }
abbrev R_8 : CTs := (.cons (.int .i64) (.cons (.int .i64) (.cons (.bool) (.cons (.int .u8) .nil)))) -- runtime.boundsError
abbrev R_9 : CTs := (.cons (.str) .nil) -- string
abbrev R_10 : CTs := (.cons (.str) .nil) -- runtime.errorString
abbrev R_11 : CTs := (.cons (.str) .nil) -- runtime.plainError
abbrev R_12 : CTs := (.cons (.int .u64) .nil) -- uintptr
abbrev R_13 : CTs := (.cons (.str) (.cons (.int .u64) .nil)) -- struct { msg string; addr uintptr }
abbrev R_14 : CTs := (.cons (.str) (.cons (.int .u64) .nil)) -- runtime.errorAddressString
abbrev R_21 : CTs := (.cons (.int .i32) .nil) -- int32
abbrev R_22 : CTs := (.cons (.sl T_uint8 R_5) .nil) -- []uint8
abbrev R_24 : CTs := (.cons (.sl T_int R_3) .nil) -- []int
abbrev R_70 : CTs := (.cons (.int .i64) (.cons (.int .i64) (.cons (.str) .nil))) -- impl.Value
abbrev R_74 : CTs := (.cons (.str) (.cons (.int .i64) (.cons (.int .i64) (.cons (.str) .nil)))) -- impl.Attr
abbrev R_26 : CTs := (.cons (.sl T_impl_Attr R_74) .nil) -- []impl.Attr
abbrev R_27 : CTs := (.cons (.int .i64) (.cons (.int .i64) (.cons (.bool) (.cons (.int .i64) (.cons (.sl T_impl_Attr R_74) .nil))))) -- struct { ID int; Owner int; Shared bool; Link int; Attrs []impl.Attr }
abbrev R_28 : CTs := (.cons (.int .i64) (.cons (.int .i64) (.cons (.bool) (.cons (.int .i64) (.cons (.sl T_impl_Attr R_74) .nil))))) -- impl.File
abbrev R_107 : CTs := (.cons (.int .i64) (.cons (.int .i64) (.cons (.int .i64) (.cons (.str) (.cons (.int .i64) (.cons (.int .i64) (.cons (.str) .nil))))))) -- impl.Node
abbrev R_29 : CTs := (.cons (.sl T_impl_Node R_107) .nil) -- []impl.Node
abbrev R_30 : CTs := (.cons (.str) (.cons (.sl T_impl_Node R_107) .nil)) -- struct { Name string; Query []impl.Node }
abbrev R_31 : CTs := (.cons (.str) (.cons (.sl T_impl_Node R_107) .nil)) -- impl.Dir
abbrev R_32 : CTs := (.cons (.int .i64) (.cons (.int .i64) (.cons (.int .i64) (.cons (.bool) (.cons (.int .i64) (.cons (.sl T_impl_Attr R_74) (.cons (.int .i64) (.cons (.str) (.cons (.sl T_impl_Node R_107) .nil))))))))) -- struct { Kind int; File impl.File; ID int; Dir impl.Dir }
abbrev R_33 : CTs := (.cons (.int .i64) (.cons (.int .i64) (.cons (.int .i64) (.cons (.bool) (.cons (.int .i64) (.cons (.sl T_impl_Attr R_74) (.cons (.int .i64) (.cons (.str) (.cons (.sl T_impl_Node R_107) .nil))))))))) -- impl.Change
abbrev R_37 : CTs := (.cons (.sl T_impl_Change R_33) .nil) -- []impl.Change
abbrev R_38 : CTs := (.cons (.int .i64) (.cons (.int .i64) (.cons (.sl T_impl_Change R_33) (.cons (.str) (.cons (.int .i64) .nil))))) -- struct { Kind int; User int; Changes []impl.Change; Name string; Arg int }
abbrev R_39 : CTs := (.cons (.int .i64) (.cons (.int .i64) (.cons (.sl T_impl_Change R_33) (.cons (.str) (.cons (.int .i64) .nil))))) -- impl.Action
abbrev R_42 : CTs := (.cons (.sl T_impl_Action R_39) .nil) -- []impl.Action
abbrev R_48 : CTs := (.cons (.sl T_string R_9) .nil) -- []string
abbrev R_63 : CTs := (.cons (.sl T_uint8 R_5) (.cons (.int .i64) (.cons (.int .i64) .nil))) -- struct { b []uint8; i int; h int }
abbrev R_64 : CTs := (.cons (.sl T_uint8 R_5) (.cons (.int .i64) (.cons (.int .i64) .nil))) -- spec.l01Cur
abbrev R_69 : CTs := (.cons (.int .i64) (.cons (.int .i64) (.cons (.str) .nil))) -- struct { Kind int; Int int; Str string }
abbrev R_73 : CTs := (.cons (.str) (.cons (.int .i64) (.cons (.int .i64) (.cons (.str) .nil)))) -- struct { Name string; Value impl.Value }
abbrev R_76 : CTs := (.cons (.sl T_string R_9) (.cons (.sl T_impl_Node R_107) .nil)) -- struct { fields []string; nodes []impl.Node }
abbrev R_77 : CTs := (.cons (.sl T_string R_9) (.cons (.sl T_impl_Node R_107) .nil)) -- impl.queryReader
abbrev R_100 : CTs := (.cons (.int .u64) .nil) -- uint
abbrev R_106 : CTs := (.cons (.int .i64) (.cons (.int .i64) (.cons (.int .i64) (.cons (.str) (.cons (.int .i64) (.cons (.int .i64) (.cons (.str) .nil))))))) -- struct { Op int; Left int; Right int; Name string; Value impl.Value }
abbrev R_121 : CTs := (.cons (.int .i64) (.cons (.int .i64) .nil)) -- strings.span
abbrev R_119 : CTs := (.cons (.sl T_strings_span R_121) .nil) -- []strings.span
abbrev R_120 : CTs := (.cons (.int .i64) (.cons (.int .i64) .nil)) -- struct { start int; end int }
abbrev R_122 : CTs := (.cons (.int .u32) .nil) -- uint32
abbrev R_131 : CTs := (.cons (.int .u64) .nil) -- uint64
abbrev R_144 : CTs := (.cons (.int .u16) .nil) -- uint16
abbrev R_146 : CTs := (.cons (.int .u16) (.cons (.int .u16) (.cons (.int .u16) .nil))) -- unicode.Range16
abbrev R_140 : CTs := (.cons (.sl T_unicode_Range16 R_146) .nil) -- []unicode.Range16
abbrev R_149 : CTs := (.cons (.int .u32) (.cons (.int .u32) (.cons (.int .u32) .nil))) -- unicode.Range32
abbrev R_141 : CTs := (.cons (.sl T_unicode_Range32 R_149) .nil) -- []unicode.Range32
abbrev R_142 : CTs := (.cons (.sl T_unicode_Range16 R_146) (.cons (.sl T_unicode_Range32 R_149) (.cons (.int .i64) .nil))) -- struct { R16 []unicode.Range16; R32 []unicode.Range32; LatinOffset int }
abbrev R_143 : CTs := (.cons (.sl T_unicode_Range16 R_146) (.cons (.sl T_unicode_Range32 R_149) (.cons (.int .i64) .nil))) -- unicode.RangeTable
abbrev R_145 : CTs := (.cons (.int .u16) (.cons (.int .u16) (.cons (.int .u16) .nil))) -- struct { Lo uint16; Hi uint16; Stride uint16 }
abbrev R_148 : CTs := (.cons (.int .u32) (.cons (.int .u32) (.cons (.int .u32) .nil))) -- struct { Lo uint32; Hi uint32; Stride uint32 }
abbrev R_151 : CTs := (.cons (.int .i64) .nil) -- strconv.Error
abbrev R_171 : CTs := (.cons (.int .u8) (.cons (.int .u8) .nil)) -- struct { lo uint8; hi uint8 }
abbrev R_172 : CTs := (.cons (.int .u8) (.cons (.int .u8) .nil)) -- utf8.acceptRange
abbrev R_178 : CTs := (.cons (.str) .nil) -- struct { s string }
abbrev R_179 : CTs := (.cons (.str) .nil) -- errors.errorString
abbrev R_190 : CTs := (.cons (.int .u8) .nil) -- abi.TFlag
abbrev R_191 : CTs := (.cons (.int .u8) .nil) -- abi.Kind
abbrev R_193 : CTs := (.cons (.int .i32) .nil) -- abi.NameOff
abbrev R_194 : CTs := (.cons (.int .i32) .nil) -- abi.TypeOff
def tys : List (Nat × Go.Fw.TI) := [
  (2, ⟨.scalar, R_2, 8, false⟩),
  (3, ⟨.scalar, R_3, 8, false⟩),
  (4, ⟨.scalar, R_4, 1, false⟩),
  (5, ⟨.scalar, R_5, 1, false⟩),
  (6, ⟨.scalar, R_6, 1, false⟩),
  (7, ⟨.struct [(0, 2), (1, 3), (2, 4), (3, 6)], R_7, 24, false⟩),
  (8, ⟨.struct [(0, 2), (1, 3), (2, 4), (3, 6)], R_8, 24, false⟩),
  (9, ⟨.str, R_9, 16, false⟩),
  (10, ⟨.str, R_10, 16, false⟩),
  (11, ⟨.str, R_11, 16, false⟩),
  (12, ⟨.scalar, R_12, 8, false⟩),
  (13, ⟨.struct [(0, 9), (1, 12)], R_13, 24, false⟩),
  (14, ⟨.struct [(0, 9), (1, 12)], R_14, 24, false⟩),
  (21, ⟨.scalar, R_21, 4, false⟩),
  (22, ⟨.slice T_uint8, R_22, 24, false⟩),
  (24, ⟨.slice T_int, R_24, 24, false⟩),
  (26, ⟨.slice T_impl_Attr, R_26, 24, false⟩),
  (27, ⟨.struct [(0, 3), (1, 3), (2, 4), (3, 3), (4, 26)], R_27, 56, false⟩),
  (28, ⟨.struct [(0, 3), (1, 3), (2, 4), (3, 3), (4, 26)], R_28, 56, false⟩),
  (29, ⟨.slice T_impl_Node, R_29, 24, false⟩),
  (30, ⟨.struct [(0, 9), (1, 29)], R_30, 40, false⟩),
  (31, ⟨.struct [(0, 9), (1, 29)], R_31, 40, false⟩),
  (32, ⟨.struct [(0, 3), (1, 28), (6, 3), (7, 31)], R_32, 112, false⟩),
  (33, ⟨.struct [(0, 3), (1, 28), (6, 3), (7, 31)], R_33, 112, false⟩),
  (37, ⟨.slice T_impl_Change, R_37, 24, false⟩),
  (38, ⟨.struct [(0, 3), (1, 3), (2, 37), (3, 9), (4, 3)], R_38, 64, false⟩),
  (39, ⟨.struct [(0, 3), (1, 3), (2, 37), (3, 9), (4, 3)], R_39, 64, false⟩),
  (42, ⟨.slice T_impl_Action, R_42, 24, false⟩),
  (48, ⟨.slice T_string, R_48, 24, false⟩),
  (63, ⟨.struct [(0, 22), (1, 3), (2, 3)], R_63, 40, false⟩),
  (64, ⟨.struct [(0, 22), (1, 3), (2, 3)], R_64, 40, false⟩),
  (69, ⟨.struct [(0, 3), (1, 3), (2, 9)], R_69, 32, false⟩),
  (70, ⟨.struct [(0, 3), (1, 3), (2, 9)], R_70, 32, true⟩),
  (73, ⟨.struct [(0, 9), (1, 70)], R_73, 48, true⟩),
  (74, ⟨.struct [(0, 9), (1, 70)], R_74, 48, true⟩),
  (76, ⟨.struct [(0, 48), (1, 29)], R_76, 48, false⟩),
  (77, ⟨.struct [(0, 48), (1, 29)], R_77, 48, false⟩),
  (100, ⟨.scalar, R_100, 8, false⟩),
  (106, ⟨.struct [(0, 3), (1, 3), (2, 3), (3, 9), (4, 70)], R_106, 72, true⟩),
  (107, ⟨.struct [(0, 3), (1, 3), (2, 3), (3, 9), (4, 70)], R_107, 72, true⟩),
  (119, ⟨.slice T_strings_span, R_119, 24, false⟩),
  (120, ⟨.struct [(0, 3), (1, 3)], R_120, 16, false⟩),
  (121, ⟨.struct [(0, 3), (1, 3)], R_121, 16, false⟩),
  (122, ⟨.scalar, R_122, 4, false⟩),
  (131, ⟨.scalar, R_131, 8, false⟩),
  (140, ⟨.slice T_unicode_Range16, R_140, 24, false⟩),
  (141, ⟨.slice T_unicode_Range32, R_141, 24, false⟩),
  (142, ⟨.struct [(0, 140), (1, 141), (2, 3)], R_142, 56, false⟩),
  (143, ⟨.struct [(0, 140), (1, 141), (2, 3)], R_143, 56, false⟩),
  (144, ⟨.scalar, R_144, 2, false⟩),
  (145, ⟨.struct [(0, 144), (1, 144), (2, 144)], R_145, 6, false⟩),
  (146, ⟨.struct [(0, 144), (1, 144), (2, 144)], R_146, 6, false⟩),
  (148, ⟨.struct [(0, 122), (1, 122), (2, 122)], R_148, 12, false⟩),
  (149, ⟨.struct [(0, 122), (1, 122), (2, 122)], R_149, 12, false⟩),
  (151, ⟨.scalar, R_151, 8, false⟩),
  (171, ⟨.struct [(0, 5), (1, 5)], R_171, 2, false⟩),
  (172, ⟨.struct [(0, 5), (1, 5)], R_172, 2, false⟩),
  (178, ⟨.struct [(0, 9)], R_178, 16, false⟩),
  (179, ⟨.struct [(0, 9)], R_179, 16, false⟩),
  (190, ⟨.scalar, R_190, 1, false⟩),
  (191, ⟨.scalar, R_191, 1, false⟩),
  (193, ⟨.scalar, R_193, 4, false⟩),
  (194, ⟨.scalar, R_194, 4, false⟩)]
def Θ : TEnv := findT tys
theorem types_checked : checkTs prog tys = true := by kernel_rfl
theorem mixed : prog.follows .mixedOrders = true := by kernel_rfl

theorem var_keep {w w' : World} {name : String} {g : Nat} {cs : Array Value} (hg : prog.globalNamed name = some g) (hk : w'.heap[g]? = w.heap[g]?) (h : World.var? prog w name = some cs) : World.var? prog w' name = some cs := by
  unfold World.var? at h ⊢
  rw [hg] at h ⊢
  show (match w'.heap[g]? with | some (.cells cs _ _) => some cs | _ => none) = _
  rw [hk]
  exact h
def isErr (ev : Value) : Prop := ev = .nilIface ∨ ∃ te pe, ev = .iface te pe
/-- The tables and the two errors lie where they were laid. -/
def G : Glob where
  n := 6
  ok := fun w => Lib.TabIs prog w "internal/strconv.uint64pow10" .u64 Lib.pow10Tab ∧ Lib.TabIs prog w "strings.asciiSpace" .u8 Lib.asciiSpaceTab ∧
    (∃ ev, w.cell? ⟨4, 0, none⟩ = some ev ∧ isErr ev) ∧ (∃ ev, w.cell? ⟨5, 0, none⟩ = some ev ∧ isErr ev) ∧ ∃ m, w.cell? ⟨2, 0, none⟩ = some (.int .i64 m)
  low := by
    intro w h
    obtain ⟨ev, h1, _⟩ := h.2.2.2.1
    rcases Nat.lt_or_ge 5 w.heap.size with h' | h'
    · exact h'
    · simp [World.cell?, Array.getElem?_eq_none h'] at h1
  stable := by
    intro w w' h hs hk
    refine ⟨var_keep (g := 3) (by kernel_rfl) (hk 3 (by decide)) h.1, var_keep (g := 0) (by kernel_rfl) (hk 0 (by decide)) h.2.1, ?_, ?_, ?_⟩
    · obtain ⟨ev, h1, h2⟩ := h.2.2.1
      exact ⟨ev, by rw [World.cell?_of_block (a := ⟨4, 0, none⟩) (hk 4 (by decide))]; exact h1, h2⟩
    · obtain ⟨ev, h1, h2⟩ := h.2.2.2.1
      exact ⟨ev, by rw [World.cell?_of_block (a := ⟨5, 0, none⟩) (hk 5 (by decide))]; exact h1, h2⟩
    · obtain ⟨m, h1⟩ := h.2.2.2.2
      exact ⟨m, by rw [World.cell?_of_block (a := ⟨2, 0, none⟩) (hk 2 (by decide))]; exact h1⟩

abbrev n_strconv_Itoa : Nat := 21
theorem cal_strconv_Itoa : Callable prog n_strconv_Itoa := callable_of (fn := f21) (by kernel_rfl) (by kernel_rfl)
abbrev n_strings_Join : Nat := 18
theorem cal_strings_Join : Callable prog n_strings_Join := callable_of (fn := f18) (by kernel_rfl) (by kernel_rfl)
abbrev n_impl_FormatInt : Nat := 8
theorem cal_impl_FormatInt : Callable prog n_impl_FormatInt := callable_of (fn := f8) (by kernel_rfl) (by kernel_rfl)
abbrev n_impl_within : Nat := 25
theorem cal_impl_within : Callable prog n_impl_within := callable_of (fn := f25) (by kernel_rfl) (by kernel_rfl)
abbrev n_impl_IsValidString : Nat := 37
theorem cal_impl_IsValidString : Callable prog n_impl_IsValidString := callable_of (fn := f37) (by kernel_rfl) (by kernel_rfl)
abbrev n_impl_IsValidAction : Nat := 45
theorem cal_impl_IsValidAction : Callable prog n_impl_IsValidAction := callable_of (fn := f45) (by kernel_rfl) (by kernel_rfl)
abbrev n_impl_areNumbers_1 : Nat := 63
theorem cal_impl_areNumbers_1 : Callable prog n_impl_areNumbers_1 := callable_of (fn := f63) (by kernel_rfl) (by kernel_rfl)
abbrev n_slices_IndexFunc_int__impl_areNumbers_1 : Nat := 73
theorem cal_slices_IndexFunc_int__impl_areNumbers_1 : Callable prog n_slices_IndexFunc_int__impl_areNumbers_1 := callable_of (fn := f73) (by kernel_rfl) (by kernel_rfl)
abbrev n_slices_ContainsFunc_int__impl_areNumbers_1 : Nat := 62
theorem cal_slices_ContainsFunc_int__impl_areNumbers_1 : Callable prog n_slices_ContainsFunc_int__impl_areNumbers_1 := callable_of (fn := f62) (by kernel_rfl) (by kernel_rfl)
abbrev n_impl_areNumbers : Nat := 41
theorem cal_impl_areNumbers : Callable prog n_impl_areNumbers := callable_of (fn := f41) (by kernel_rfl) (by kernel_rfl)
abbrev n_impl_FormatAction : Nat := 22
theorem cal_impl_FormatAction : Callable prog n_impl_FormatAction := callable_of (fn := f22) (by kernel_rfl) (by kernel_rfl)
abbrev n_strings_Fields : Nat := 26
theorem cal_strings_Fields : Callable prog n_strings_Fields := callable_of (fn := f26) (by kernel_rfl) (by kernel_rfl)
abbrev n_impl_ParseUint : Nat := 27
theorem cal_impl_ParseUint : Callable prog n_impl_ParseUint := callable_of (fn := f27) (by kernel_rfl) (by kernel_rfl)
abbrev n_impl_SplitFields : Nat := 13
theorem cal_impl_SplitFields : Callable prog n_impl_SplitFields := callable_of (fn := f13) (by kernel_rfl) (by kernel_rfl)
abbrev n_impl_wordAt : Nat := 16
theorem cal_impl_wordAt : Callable prog n_impl_wordAt := callable_of (fn := f16) (by kernel_rfl) (by kernel_rfl)
abbrev n_impl_numberAt : Nat := 15
theorem cal_impl_numberAt : Callable prog n_impl_numberAt := callable_of (fn := f15) (by kernel_rfl) (by kernel_rfl)
abbrev n_slices_Equal_string : Nat := 34
theorem cal_slices_Equal_string : Callable prog n_slices_Equal_string := callable_of (fn := f34) (by kernel_rfl) (by kernel_rfl)
abbrev n_impl_sameFields : Nat := 19
theorem cal_impl_sameFields : Callable prog n_impl_sameFields := callable_of (fn := f19) (by kernel_rfl) (by kernel_rfl)
abbrev n_impl_ParseAction : Nat := 9
theorem cal_impl_ParseAction : Callable prog n_impl_ParseAction := callable_of (fn := f9) (by kernel_rfl) (by kernel_rfl)
abbrev n_spec_l01New : Nat := 11
theorem cal_spec_l01New : Callable prog n_spec_l01New := callable_of (fn := f11) (by kernel_rfl) (by kernel_rfl)
abbrev n_spec_l01Byte : Nat := 24
theorem cal_spec_l01Byte : Callable prog n_spec_l01Byte := callable_of (fn := f24) (by kernel_rfl) (by kernel_rfl)
abbrev n_spec_l01Below : Nat := 12
theorem cal_spec_l01Below : Callable prog n_spec_l01Below := callable_of (fn := f12) (by kernel_rfl) (by kernel_rfl)
abbrev n_impl_IsValidValue : Nat := 43
theorem cal_impl_IsValidValue : Callable prog n_impl_IsValidValue := callable_of (fn := f43) (by kernel_rfl) (by kernel_rfl)
abbrev n_impl_IsValidAttrName : Nat := 42
theorem cal_impl_IsValidAttrName : Callable prog n_impl_IsValidAttrName := callable_of (fn := f42) (by kernel_rfl) (by kernel_rfl)
abbrev n_impl_EqualFiles : Nat := 40
theorem cal_impl_EqualFiles : Callable prog n_impl_EqualFiles := callable_of (fn := f40) (by kernel_rfl) (by kernel_rfl)
abbrev n_slices_Equal_impl_Attr : Nat := 61
theorem cal_slices_Equal_impl_Attr : Callable prog n_slices_Equal_impl_Attr := callable_of (fn := f61) (by kernel_rfl) (by kernel_rfl)
abbrev n_laws_big : Nat := 5
theorem cal_laws_big : Callable prog n_laws_big := callable_of (fn := f5) (by kernel_rfl) (by kernel_rfl)
abbrev n_spec_DrawPlaces : Nat := 6
theorem cal_spec_DrawPlaces : Callable prog n_spec_DrawPlaces := callable_of (fn := f6) (by kernel_rfl) (by kernel_rfl)
abbrev n_strings_Split : Nat := 23
theorem cal_strings_Split : Callable prog n_strings_Split := callable_of (fn := f23) (by kernel_rfl) (by kernel_rfl)
abbrev n_impl_fileIn : Nat := 14
theorem cal_impl_fileIn : Callable prog n_impl_fileIn := callable_of (fn := f14) (by kernel_rfl) (by kernel_rfl)
abbrev n_impl_ParseQuery : Nat := 17
theorem cal_impl_ParseQuery : Callable prog n_impl_ParseQuery := callable_of (fn := f17) (by kernel_rfl) (by kernel_rfl)
abbrev n_impl_FormatFile : Nat := 35
theorem cal_impl_FormatFile : Callable prog n_impl_FormatFile := callable_of (fn := f35) (by kernel_rfl) (by kernel_rfl)
abbrev n_impl_FormatQuery : Nat := 36
theorem cal_impl_FormatQuery : Callable prog n_impl_FormatQuery := callable_of (fn := f36) (by kernel_rfl) (by kernel_rfl)
abbrev n_impl_IsValidQuery : Nat := 30
theorem cal_impl_IsValidQuery : Callable prog n_impl_IsValidQuery := callable_of (fn := f30) (by kernel_rfl) (by kernel_rfl)
abbrev n_impl_PostorderQuery : Nat := 39
theorem cal_impl_PostorderQuery : Callable prog n_impl_PostorderQuery := callable_of (fn := f39) (by kernel_rfl) (by kernel_rfl)
abbrev n_slices_Equal_impl_Node : Nat := 60
theorem cal_slices_Equal_impl_Node : Callable prog n_slices_Equal_impl_Node := callable_of (fn := f60) (by kernel_rfl) (by kernel_rfl)
abbrev n_impl_EqualQueries : Nat := 38
theorem cal_impl_EqualQueries : Callable prog n_impl_EqualQueries := callable_of (fn := f38) (by kernel_rfl) (by kernel_rfl)
abbrev n_impl_FormatChange : Nat := 20
theorem cal_impl_FormatChange : Callable prog n_impl_FormatChange := callable_of (fn := f20) (by kernel_rfl) (by kernel_rfl)
abbrev n_impl_ParseChange : Nat := 7
theorem cal_impl_ParseChange : Callable prog n_impl_ParseChange := callable_of (fn := f7) (by kernel_rfl) (by kernel_rfl)
abbrev n_impl_ParseScript : Nat := 10
theorem cal_impl_ParseScript : Callable prog n_impl_ParseScript := callable_of (fn := f10) (by kernel_rfl) (by kernel_rfl)
abbrev n_laws_FnScriptLimits : Nat := 4
theorem cal_laws_FnScriptLimits : Callable prog n_laws_FnScriptLimits := callable_of (fn := f4) (by kernel_rfl) (by kernel_rfl)
end Go.Proofs.Tryz
