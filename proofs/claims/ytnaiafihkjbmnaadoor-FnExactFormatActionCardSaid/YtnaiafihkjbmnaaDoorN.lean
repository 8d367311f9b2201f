import Derived.Test.YtnaiafihkjbmnaaDoorFwC
import Derived.Test.YtnaiafihkjbmnaaDoorProg
import Derived.Lib.LaidTab
import Derived.Lib.ItoaNum
namespace Go.Proofs.Tryd
open Go Go.Fw

abbrev T_int64 : TypeId := 2
abbrev T_int : TypeId := 3
abbrev T_bool : TypeId := 4
abbrev T_uint8 : TypeId := 5
abbrev T_abi_BoundsErrorCode : TypeId := 6
abbrev T_runtime_boundsError : TypeId := 8
abbrev T_string : TypeId := 9
abbrev T_runtime_errorString : TypeId := 10
abbrev T_runtime_plainError : TypeId := 11
abbrev T_uintptr : TypeId := 12
abbrev T_runtime_errorAddressString : TypeId := 14
abbrev T_maps_unhashableTypeError : TypeId := 19
abbrev T_int32 : TypeId := 21
abbrev T_laws_Watch : TypeId := 25
abbrev T_impl_Watch : TypeId := 31
abbrev T_laws_Action : TypeId := 40
abbrev T_impl_Action : TypeId := 45
abbrev T_impl_Event : TypeId := 59
abbrev T_laws_Event : TypeId := 81
abbrev T_laws_File : TypeId := 90
abbrev T_laws_Dir : TypeId := 93
abbrev T_laws_Change : TypeId := 95
abbrev T_impl_File : TypeId := 99
abbrev T_impl_Dir : TypeId := 102
abbrev T_impl_Change : TypeId := 104
abbrev T_strings_Builder : TypeId := 110
abbrev T_error : TypeId := 113
abbrev T_impl_Value : TypeId := 134
abbrev T_impl_Attr : TypeId := 136
abbrev T_impl_Node : TypeId := 138
abbrev T_strings_span : TypeId := 151
abbrev T_uint32 : TypeId := 152
abbrev T_uint64 : TypeId := 157
abbrev T_laws_Value : TypeId := 163
abbrev T_laws_Attr : TypeId := 165
abbrev T_laws_Node : TypeId := 168
abbrev T_unicode_RangeTable : TypeId := 176
abbrev T_uint16 : TypeId := 177
abbrev T_unicode_Range16 : TypeId := 179
abbrev T_unicode_Range32 : TypeId := 182
abbrev T_strconv_Error : TypeId := 184
abbrev T_uint : TypeId := 194
abbrev T_strconv_NumError : TypeId := 205
abbrev T_errors_errorString : TypeId := 211
abbrev T_runtime_TypeAssertionError : TypeId := 217
abbrev T_runtime_PanicNilError : TypeId := 220
abbrev T_abi_TFlag : TypeId := 222
abbrev T_abi_Kind : TypeId := 223
abbrev T_abi_NameOff : TypeId := 225
abbrev T_abi_TypeOff : TypeId := 226
abbrev T_abi_Type : TypeId := 228
abbrev T_fmt_wrapError : TypeId := 230
abbrev T_fmt_wrapErrors : TypeId := 233
abbrev R_2 : CTs := (.cons (.int .i64) .nil) -- int64
abbrev R_3 : CTs := (.cons (.int .i64) .nil) -- int
abbrev R_4 : CTs := (.cons (.bool) .nil) -- bool
abbrev R_5 : CTs := (.cons (.int .u8) .nil) -- uint8
abbrev R_6 : CTs := (.cons (.int .u8) .nil) -- abi.BoundsErrorCode
abbrev R_7 : CTs := (.cons (.int .i64) (.cons (.int .i64) (.cons (.bool) (.cons (.int .u8) .nil)))) -- struct { x int64; y int; signed bool; code abi.BoundsErrorCode }
abbrev R_8 : CTs := (.cons (.int .i64) (.cons (.int .i64) (.cons (.bool) (.cons (.int .u8) .nil)))) -- runtime.boundsError
abbrev R_9 : CTs := (.cons (.str) .nil) -- string
abbrev R_10 : CTs := (.cons (.str) .nil) -- runtime.errorString
abbrev R_11 : CTs := (.cons (.str) .nil) -- runtime.plainError
abbrev R_12 : CTs := (.cons (.int .u64) .nil) -- uintptr
abbrev R_13 : CTs := (.cons (.str) (.cons (.int .u64) .nil)) -- struct { msg string; addr uintptr }
abbrev R_14 : CTs := (.cons (.str) (.cons (.int .u64) .nil)) -- runtime.errorAddressString
abbrev R_21 : CTs := (.cons (.int .i32) .nil) -- int32
abbrev R_22 : CTs := (.cons (.sl T_int R_3) .nil) -- []int
abbrev R_81 : CTs := (.cons (.int .i64) (.cons (.sl T_int R_3) (.cons (.sl T_int R_3) .nil))) -- laws.Event
abbrev R_23 : CTs := (.cons (.sl T_laws_Event R_81) .nil) -- []laws.Event
abbrev R_24 : CTs := (.cons (.int .i64) (.cons (.str) (.cons (.sl T_int R_3) (.cons (.sl T_laws_Event R_81) .nil)))) -- struct { User int; Dir string; Initial []int; Events []laws.Event }
abbrev R_25 : CTs := (.cons (.int .i64) (.cons (.str) (.cons (.sl T_int R_3) (.cons (.sl T_laws_Event R_81) .nil)))) -- laws.Watch
abbrev R_27 : CTs := (.cons (.sl T_string R_9) .nil) -- []string
abbrev R_59 : CTs := (.cons (.int .i64) (.cons (.sl T_int R_3) (.cons (.sl T_int R_3) .nil))) -- impl.Event
abbrev R_29 : CTs := (.cons (.sl T_impl_Event R_59) .nil) -- []impl.Event
abbrev R_30 : CTs := (.cons (.int .i64) (.cons (.str) (.cons (.sl T_int R_3) (.cons (.sl T_impl_Event R_59) .nil)))) -- struct { User int; Dir string; Initial []int; Events []impl.Event }
abbrev R_31 : CTs := (.cons (.int .i64) (.cons (.str) (.cons (.sl T_int R_3) (.cons (.sl T_impl_Event R_59) .nil)))) -- impl.Watch
abbrev R_163 : CTs := (.cons (.int .i64) (.cons (.int .i64) (.cons (.str) .nil))) -- laws.Value
abbrev R_165 : CTs := (.cons (.str) (.cons (.int .i64) (.cons (.int .i64) (.cons (.str) .nil)))) -- laws.Attr
abbrev R_88 : CTs := (.cons (.sl T_laws_Attr R_165) .nil) -- []laws.Attr
abbrev R_90 : CTs := (.cons (.int .i64) (.cons (.int .i64) (.cons (.bool) (.cons (.int .i64) (.cons (.sl T_laws_Attr R_165) .nil))))) -- laws.File
abbrev R_168 : CTs := (.cons (.int .i64) (.cons (.int .i64) (.cons (.int .i64) (.cons (.str) (.cons (.int .i64) (.cons (.int .i64) (.cons (.str) .nil))))))) -- laws.Node
abbrev R_91 : CTs := (.cons (.sl T_laws_Node R_168) .nil) -- []laws.Node
abbrev R_93 : CTs := (.cons (.str) (.cons (.sl T_laws_Node R_168) .nil)) -- laws.Dir
abbrev R_95 : CTs := (.cons (.int .i64) (.cons (.int .i64) (.cons (.int .i64) (.cons (.bool) (.cons (.int .i64) (.cons (.sl T_laws_Attr R_165) (.cons (.int .i64) (.cons (.str) (.cons (.sl T_laws_Node R_168) .nil))))))))) -- laws.Change
abbrev R_38 : CTs := (.cons (.sl T_laws_Change R_95) .nil) -- []laws.Change
abbrev R_39 : CTs := (.cons (.int .i64) (.cons (.int .i64) (.cons (.sl T_laws_Change R_95) (.cons (.str) (.cons (.int .i64) .nil))))) -- struct { Kind int; User int; Changes []laws.Change; Name string; Arg int }
abbrev R_40 : CTs := (.cons (.int .i64) (.cons (.int .i64) (.cons (.sl T_laws_Change R_95) (.cons (.str) (.cons (.int .i64) .nil))))) -- laws.Action
abbrev R_134 : CTs := (.cons (.int .i64) (.cons (.int .i64) (.cons (.str) .nil))) -- impl.Value
abbrev R_136 : CTs := (.cons (.str) (.cons (.int .i64) (.cons (.int .i64) (.cons (.str) .nil)))) -- impl.Attr
abbrev R_97 : CTs := (.cons (.sl T_impl_Attr R_136) .nil) -- []impl.Attr
abbrev R_99 : CTs := (.cons (.int .i64) (.cons (.int .i64) (.cons (.bool) (.cons (.int .i64) (.cons (.sl T_impl_Attr R_136) .nil))))) -- impl.File
abbrev R_138 : CTs := (.cons (.int .i64) (.cons (.int .i64) (.cons (.int .i64) (.cons (.str) (.cons (.int .i64) (.cons (.int .i64) (.cons (.str) .nil))))))) -- impl.Node
abbrev R_100 : CTs := (.cons (.sl T_impl_Node R_138) .nil) -- []impl.Node
abbrev R_102 : CTs := (.cons (.str) (.cons (.sl T_impl_Node R_138) .nil)) -- impl.Dir
abbrev R_104 : CTs := (.cons (.int .i64) (.cons (.int .i64) (.cons (.int .i64) (.cons (.bool) (.cons (.int .i64) (.cons (.sl T_impl_Attr R_136) (.cons (.int .i64) (.cons (.str) (.cons (.sl T_impl_Node R_138) .nil))))))))) -- impl.Change
abbrev R_43 : CTs := (.cons (.sl T_impl_Change R_104) .nil) -- []impl.Change
abbrev R_44 : CTs := (.cons (.int .i64) (.cons (.int .i64) (.cons (.sl T_impl_Change R_104) (.cons (.str) (.cons (.int .i64) .nil))))) -- struct { Kind int; User int; Changes []impl.Change; Name string; Arg int }
abbrev R_45 : CTs := (.cons (.int .i64) (.cons (.int .i64) (.cons (.sl T_impl_Change R_104) (.cons (.str) (.cons (.int .i64) .nil))))) -- impl.Action
abbrev R_58 : CTs := (.cons (.int .i64) (.cons (.sl T_int R_3) (.cons (.sl T_int R_3) .nil))) -- struct { Version int; Added []int; Removed []int }
abbrev R_84 : CTs := (.cons (.sl T_uint8 R_5) .nil) -- []uint8
abbrev R_89 : CTs := (.cons (.int .i64) (.cons (.int .i64) (.cons (.bool) (.cons (.int .i64) (.cons (.sl T_laws_Attr R_165) .nil))))) -- struct { ID int; Owner int; Shared bool; Link int; Attrs []laws.Attr }
abbrev R_92 : CTs := (.cons (.str) (.cons (.sl T_laws_Node R_168) .nil)) -- struct { Name string; Query []laws.Node }
abbrev R_94 : CTs := (.cons (.int .i64) (.cons (.int .i64) (.cons (.int .i64) (.cons (.bool) (.cons (.int .i64) (.cons (.sl T_laws_Attr R_165) (.cons (.int .i64) (.cons (.str) (.cons (.sl T_laws_Node R_168) .nil))))))))) -- struct { Kind int; File laws.File; ID int; Dir laws.Dir }
abbrev R_98 : CTs := (.cons (.int .i64) (.cons (.int .i64) (.cons (.bool) (.cons (.int .i64) (.cons (.sl T_impl_Attr R_136) .nil))))) -- struct { ID int; Owner int; Shared bool; Link int; Attrs []impl.Attr }
abbrev R_101 : CTs := (.cons (.str) (.cons (.sl T_impl_Node R_138) .nil)) -- struct { Name string; Query []impl.Node }
abbrev R_103 : CTs := (.cons (.int .i64) (.cons (.int .i64) (.cons (.int .i64) (.cons (.bool) (.cons (.int .i64) (.cons (.sl T_impl_Attr R_136) (.cons (.int .i64) (.cons (.str) (.cons (.sl T_impl_Node R_138) .nil))))))))) -- struct { Kind int; File impl.File; ID int; Dir impl.Dir }
abbrev R_133 : CTs := (.cons (.int .i64) (.cons (.int .i64) (.cons (.str) .nil))) -- struct { Kind int; Int int; Str string }
abbrev R_135 : CTs := (.cons (.str) (.cons (.int .i64) (.cons (.int .i64) (.cons (.str) .nil)))) -- struct { Name string; Value impl.Value }
abbrev R_137 : CTs := (.cons (.int .i64) (.cons (.int .i64) (.cons (.int .i64) (.cons (.str) (.cons (.int .i64) (.cons (.int .i64) (.cons (.str) .nil))))))) -- struct { Op int; Left int; Right int; Name string; Value impl.Value }
abbrev R_151 : CTs := (.cons (.int .i64) (.cons (.int .i64) .nil)) -- strings.span
abbrev R_149 : CTs := (.cons (.sl T_strings_span R_151) .nil) -- []strings.span
abbrev R_150 : CTs := (.cons (.int .i64) (.cons (.int .i64) .nil)) -- struct { start int; end int }
abbrev R_152 : CTs := (.cons (.int .u32) .nil) -- uint32
abbrev R_157 : CTs := (.cons (.int .u64) .nil) -- uint64
abbrev R_164 : CTs := (.cons (.str) (.cons (.int .i64) (.cons (.int .i64) (.cons (.str) .nil)))) -- struct { Name string; Value laws.Value }
abbrev R_167 : CTs := (.cons (.int .i64) (.cons (.int .i64) (.cons (.int .i64) (.cons (.str) (.cons (.int .i64) (.cons (.int .i64) (.cons (.str) .nil))))))) -- struct { Op int; Left int; Right int; Name string; Value laws.Value }
abbrev R_177 : CTs := (.cons (.int .u16) .nil) -- uint16
abbrev R_179 : CTs := (.cons (.int .u16) (.cons (.int .u16) (.cons (.int .u16) .nil))) -- unicode.Range16
abbrev R_173 : CTs := (.cons (.sl T_unicode_Range16 R_179) .nil) -- []unicode.Range16
abbrev R_182 : CTs := (.cons (.int .u32) (.cons (.int .u32) (.cons (.int .u32) .nil))) -- unicode.Range32
abbrev R_174 : CTs := (.cons (.sl T_unicode_Range32 R_182) .nil) -- []unicode.Range32
abbrev R_175 : CTs := (.cons (.sl T_unicode_Range16 R_179) (.cons (.sl T_unicode_Range32 R_182) (.cons (.int .i64) .nil))) -- struct { R16 []unicode.Range16; R32 []unicode.Range32; LatinOffset int }
abbrev R_176 : CTs := (.cons (.sl T_unicode_Range16 R_179) (.cons (.sl T_unicode_Range32 R_182) (.cons (.int .i64) .nil))) -- unicode.RangeTable
abbrev R_178 : CTs := (.cons (.int .u16) (.cons (.int .u16) (.cons (.int .u16) .nil))) -- struct { Lo uint16; Hi uint16; Stride uint16 }
abbrev R_181 : CTs := (.cons (.int .u32) (.cons (.int .u32) (.cons (.int .u32) .nil))) -- struct { Lo uint32; Hi uint32; Stride uint32 }
abbrev R_184 : CTs := (.cons (.int .i64) .nil) -- strconv.Error
abbrev R_194 : CTs := (.cons (.int .u64) .nil) -- uint
abbrev R_210 : CTs := (.cons (.str) .nil) -- struct { s string }
abbrev R_211 : CTs := (.cons (.str) .nil) -- errors.errorString
abbrev R_222 : CTs := (.cons (.int .u8) .nil) -- abi.TFlag
abbrev R_223 : CTs := (.cons (.int .u8) .nil) -- abi.Kind
abbrev R_225 : CTs := (.cons (.int .i32) .nil) -- abi.NameOff
abbrev R_226 : CTs := (.cons (.int .i32) .nil) -- abi.TypeOff
def tys : List (Nat × Go.Fw.TI) := [
  (2, ⟨.scalar, R_2, 8, false⟩),
  (3, ⟨.scalar, R_3, 8, false⟩),
  (4, ⟨.scalar, R_4, 1, false⟩),
  (5, ⟨.scalar, R_5, 1, false⟩),
  (6, ⟨.scalar, R_6, 1, false⟩),
  (7, ⟨.struct [(0, 2), (1, 3), (2, 4), (3, 6)], R_7, 24, false⟩),
  (8, ⟨.struct [(0, 2), (1, 3), (2, 4), (3, 6)], R_8, 24, false⟩),
  (9, ⟨.str, R_9, 16, false⟩),
  (10, ⟨.str, R_10, 16, false⟩),
  (11, ⟨.str, R_11, 16, false⟩),
  (12, ⟨.scalar, R_12, 8, false⟩),
  (13, ⟨.struct [(0, 9), (1, 12)], R_13, 24, false⟩),
  (14, ⟨.struct [(0, 9), (1, 12)], R_14, 24, false⟩),
  (21, ⟨.scalar, R_21, 4, false⟩),
  (22, ⟨.slice T_int, R_22, 24, false⟩),
  (23, ⟨.slice T_laws_Event, R_23, 24, false⟩),
  (24, ⟨.struct [(0, 3), (1, 9), (2, 22), (3, 23)], R_24, 72, false⟩),
  (25, ⟨.struct [(0, 3), (1, 9), (2, 22), (3, 23)], R_25, 72, false⟩),
  (27, ⟨.slice T_string, R_27, 24, false⟩),
  (29, ⟨.slice T_impl_Event, R_29, 24, false⟩),
  (30, ⟨.struct [(0, 3), (1, 9), (2, 22), (3, 29)], R_30, 72, false⟩),
  (31, ⟨.struct [(0, 3), (1, 9), (2, 22), (3, 29)], R_31, 72, false⟩),
  (38, ⟨.slice T_laws_Change, R_38, 24, false⟩),
  (39, ⟨.struct [(0, 3), (1, 3), (2, 38), (3, 9), (4, 3)], R_39, 64, false⟩),
  (40, ⟨.struct [(0, 3), (1, 3), (2, 38), (3, 9), (4, 3)], R_40, 64, false⟩),
  (43, ⟨.slice T_impl_Change, R_43, 24, false⟩),
  (44, ⟨.struct [(0, 3), (1, 3), (2, 43), (3, 9), (4, 3)], R_44, 64, false⟩),
  (45, ⟨.struct [(0, 3), (1, 3), (2, 43), (3, 9), (4, 3)], R_45, 64, false⟩),
  (58, ⟨.struct [(0, 3), (1, 22), (2, 22)], R_58, 56, false⟩),
  (59, ⟨.struct [(0, 3), (1, 22), (2, 22)], R_59, 56, false⟩),
  (81, ⟨.struct [(0, 3), (1, 22), (2, 22)], R_81, 56, false⟩),
  (84, ⟨.slice T_uint8, R_84, 24, false⟩),
  (88, ⟨.slice T_laws_Attr, R_88, 24, false⟩),
  (89, ⟨.struct [(0, 3), (1, 3), (2, 4), (3, 3), (4, 88)], R_89, 56, false⟩),
  (90, ⟨.struct [(0, 3), (1, 3), (2, 4), (3, 3), (4, 88)], R_90, 56, false⟩),
  (91, ⟨.slice T_laws_Node, R_91, 24, false⟩),
  (92, ⟨.struct [(0, 9), (1, 91)], R_92, 40, false⟩),
  (93, ⟨.struct [(0, 9), (1, 91)], R_93, 40, false⟩),
  (94, ⟨.struct [(0, 3), (1, 90), (6, 3), (7, 93)], R_94, 112, false⟩),
  (95, ⟨.struct [(0, 3), (1, 90), (6, 3), (7, 93)], R_95, 112, false⟩),
  (97, ⟨.slice T_impl_Attr, R_97, 24, false⟩),
  (98, ⟨.struct [(0, 3), (1, 3), (2, 4), (3, 3), (4, 97)], R_98, 56, false⟩),
  (99, ⟨.struct [(0, 3), (1, 3), (2, 4), (3, 3), (4, 97)], R_99, 56, false⟩),
  (100, ⟨.slice T_impl_Node, R_100, 24, false⟩),
  (101, ⟨.struct [(0, 9), (1, 100)], R_101, 40, false⟩),
  (102, ⟨.struct [(0, 9), (1, 100)], R_102, 40, false⟩),
  (103, ⟨.struct [(0, 3), (1, 99), (6, 3), (7, 102)], R_103, 112, false⟩),
  (104, ⟨.struct [(0, 3), (1, 99), (6, 3), (7, 102)], R_104, 112, false⟩),
  (133, ⟨.struct [(0, 3), (1, 3), (2, 9)], R_133, 32, false⟩),
  (134, ⟨.struct [(0, 3), (1, 3), (2, 9)], R_134, 32, false⟩),
  (135, ⟨.struct [(0, 9), (1, 134)], R_135, 48, false⟩),
  (136, ⟨.struct [(0, 9), (1, 134)], R_136, 48, false⟩),
  (137, ⟨.struct [(0, 3), (1, 3), (2, 3), (3, 9), (4, 134)], R_137, 72, false⟩),
  (138, ⟨.struct [(0, 3), (1, 3), (2, 3), (3, 9), (4, 134)], R_138, 72, false⟩),
  (149, ⟨.slice T_strings_span, R_149, 24, false⟩),
  (150, ⟨.struct [(0, 3), (1, 3)], R_150, 16, false⟩),
  (151, ⟨.struct [(0, 3), (1, 3)], R_151, 16, false⟩),
  (152, ⟨.scalar, R_152, 4, false⟩),
  (157, ⟨.scalar, R_157, 8, false⟩),
  (163, ⟨.struct [(0, 3), (1, 3), (2, 9)], R_163, 32, false⟩),
  (164, ⟨.struct [(0, 9), (1, 163)], R_164, 48, false⟩),
  (165, ⟨.struct [(0, 9), (1, 163)], R_165, 48, false⟩),
  (167, ⟨.struct [(0, 3), (1, 3), (2, 3), (3, 9), (4, 163)], R_167, 72, false⟩),
  (168, ⟨.struct [(0, 3), (1, 3), (2, 3), (3, 9), (4, 163)], R_168, 72, false⟩),
  (173, ⟨.slice T_unicode_Range16, R_173, 24, false⟩),
  (174, ⟨.slice T_unicode_Range32, R_174, 24, false⟩),
  (175, ⟨.struct [(0, 173), (1, 174), (2, 3)], R_175, 56, false⟩),
  (176, ⟨.struct [(0, 173), (1, 174), (2, 3)], R_176, 56, false⟩),
  (177, ⟨.scalar, R_177, 2, false⟩),
  (178, ⟨.struct [(0, 177), (1, 177), (2, 177)], R_178, 6, false⟩),
  (179, ⟨.struct [(0, 177), (1, 177), (2, 177)], R_179, 6, false⟩),
  (181, ⟨.struct [(0, 152), (1, 152), (2, 152)], R_181, 12, false⟩),
  (182, ⟨.struct [(0, 152), (1, 152), (2, 152)], R_182, 12, false⟩),
  (184, ⟨.scalar, R_184, 8, false⟩),
  (194, ⟨.scalar, R_194, 8, false⟩),
  (210, ⟨.struct [(0, 9)], R_210, 16, false⟩),
  (211, ⟨.struct [(0, 9)], R_211, 16, false⟩),
  (222, ⟨.scalar, R_222, 1, false⟩),
  (223, ⟨.scalar, R_223, 1, false⟩),
  (225, ⟨.scalar, R_225, 4, false⟩),
  (226, ⟨.scalar, R_226, 4, false⟩)]
def Θ : TEnv := findT tys
theorem types_checked : checkTs prog tys = true := by kernel_rfl
theorem mixed : prog.follows .mixedOrders = true := by kernel_rfl

/-- The table of powers of ten lies where it was laid. -/
def G : Glob where
  n := 4
  ok := fun w => Lib.TabIs prog w "internal/strconv.uint64pow10" .u64 Lib.pow10Tab
  low := by
    intro w h
    have h2 : World.var? prog w "internal/strconv.uint64pow10" = some (Lib.pow10Tab.map fun z => Value.int .u64 z).toArray := h
    unfold World.var? at h2
    obtain ⟨g, hg, hv⟩ := Option.bind_eq_some_iff.1 h2
    have e : prog.globalNamed "internal/strconv.uint64pow10" = some 3 := by kernel_rfl
    rw [e] at hg; cases hg
    rcases Nat.lt_or_ge 3 w.heap.size with h | h
    · exact h
    · rw [Array.getElem?_eq_none h] at hv; cases hv
  stable := by
    intro w w' h hs hk
    have h2 : World.var? prog w "internal/strconv.uint64pow10" = some (Lib.pow10Tab.map fun z => Value.int .u64 z).toArray := h
    show World.var? prog w' "internal/strconv.uint64pow10" = _
    unfold World.var? at h2 ⊢
    obtain ⟨g, hg, hv⟩ := Option.bind_eq_some_iff.1 h2
    rw [hg]
    have hg8 : g < 4 := by
      have e : prog.globalNamed "internal/strconv.uint64pow10" = some 3 := by kernel_rfl
      rw [e] at hg; cases hg; decide
    show (match w'.heap[g]? with | some (.cells cs _ _) => some cs | _ => none) = _
    rw [hk g hg8]
    exact hv

abbrev n_laws_szIntS : Nat := 24
theorem cal_laws_szIntS : Callable prog n_laws_szIntS := callable_of (fn := f24) (by kernel_rfl) (by kernel_rfl)
abbrev n_laws_toIntS : Nat := 29
theorem cal_laws_toIntS : Callable prog n_laws_toIntS := callable_of (fn := f29) (by kernel_rfl) (by kernel_rfl)
abbrev n_laws_eqIntS : Nat := 34
theorem cal_laws_eqIntS : Callable prog n_laws_eqIntS := callable_of (fn := f34) (by kernel_rfl) (by kernel_rfl)
abbrev n_strconv_Itoa : Nat := 64
theorem cal_strconv_Itoa : Callable prog n_strconv_Itoa := callable_of (fn := f64) (by kernel_rfl) (by kernel_rfl)
abbrev n_strings_Join : Nat := 47
theorem cal_strings_Join : Callable prog n_strings_Join := callable_of (fn := f47) (by kernel_rfl) (by kernel_rfl)
abbrev n_impl_FormatInt : Nat := 32
theorem cal_impl_FormatInt : Callable prog n_impl_FormatInt := callable_of (fn := f32) (by kernel_rfl) (by kernel_rfl)
abbrev n_spec_l01Figure : Nat := 61
theorem cal_spec_l01Figure : Callable prog n_spec_l01Figure := callable_of (fn := f61) (by kernel_rfl) (by kernel_rfl)
abbrev n_spec_FormatInt : Nat := 27
theorem cal_spec_FormatInt : Callable prog n_spec_FormatInt := callable_of (fn := f27) (by kernel_rfl) (by kernel_rfl)
abbrev n_laws_szEvent : Nat := 59
theorem cal_laws_szEvent : Callable prog n_laws_szEvent := callable_of (fn := f59) (by kernel_rfl) (by kernel_rfl)
abbrev n_laws_toEvent : Nat := 62
theorem cal_laws_toEvent : Callable prog n_laws_toEvent := callable_of (fn := f62) (by kernel_rfl) (by kernel_rfl)
abbrev n_laws_eqEvent : Nat := 65
theorem cal_laws_eqEvent : Callable prog n_laws_eqEvent := callable_of (fn := f65) (by kernel_rfl) (by kernel_rfl)
abbrev n_spec_FormatEvent : Nat := 28
theorem cal_spec_FormatEvent : Callable prog n_spec_FormatEvent := callable_of (fn := f28) (by kernel_rfl) (by kernel_rfl)
abbrev n_impl_FormatEvent : Nat := 33
theorem cal_impl_FormatEvent : Callable prog n_impl_FormatEvent := callable_of (fn := f33) (by kernel_rfl) (by kernel_rfl)
abbrev n_spec_FormatIDs : Nat := 60
theorem cal_spec_FormatIDs : Callable prog n_spec_FormatIDs := callable_of (fn := f60) (by kernel_rfl) (by kernel_rfl)
abbrev n_impl_FormatIDs : Nat := 63
theorem cal_impl_FormatIDs : Callable prog n_impl_FormatIDs := callable_of (fn := f63) (by kernel_rfl) (by kernel_rfl)
abbrev n_spec_l39With : Nat := 26
theorem cal_spec_l39With : Callable prog n_spec_l39With := callable_of (fn := f26) (by kernel_rfl) (by kernel_rfl)
abbrev n_impl_withIDs : Nat := 31
theorem cal_impl_withIDs : Callable prog n_impl_withIDs := callable_of (fn := f31) (by kernel_rfl) (by kernel_rfl)
abbrev n_laws_szValue : Nat := 131
theorem cal_laws_szValue : Callable prog n_laws_szValue := callable_of (fn := f131) (by kernel_rfl) (by kernel_rfl)
abbrev n_laws_szAttr : Nat := 113
theorem cal_laws_szAttr : Callable prog n_laws_szAttr := callable_of (fn := f113) (by kernel_rfl) (by kernel_rfl)
abbrev n_laws_szNode : Nat := 114
theorem cal_laws_szNode : Callable prog n_laws_szNode := callable_of (fn := f114) (by kernel_rfl) (by kernel_rfl)
abbrev n_laws_szAttrS : Nat := 98
theorem cal_laws_szAttrS : Callable prog n_laws_szAttrS := callable_of (fn := f98) (by kernel_rfl) (by kernel_rfl)
abbrev n_laws_szNodeS : Nat := 99
theorem cal_laws_szNodeS : Callable prog n_laws_szNodeS := callable_of (fn := f99) (by kernel_rfl) (by kernel_rfl)
abbrev n_laws_szFile : Nat := 85
theorem cal_laws_szFile : Callable prog n_laws_szFile := callable_of (fn := f85) (by kernel_rfl) (by kernel_rfl)
abbrev n_laws_szDir : Nat := 86
theorem cal_laws_szDir : Callable prog n_laws_szDir := callable_of (fn := f86) (by kernel_rfl) (by kernel_rfl)
abbrev n_laws_szChange : Nat := 66
theorem cal_laws_szChange : Callable prog n_laws_szChange := callable_of (fn := f66) (by kernel_rfl) (by kernel_rfl)
abbrev n_laws_szChangeS : Nat := 39
theorem cal_laws_szChangeS : Callable prog n_laws_szChangeS := callable_of (fn := f39) (by kernel_rfl) (by kernel_rfl)
abbrev n_laws_szAction : Nat := 15
theorem cal_laws_szAction : Callable prog n_laws_szAction := callable_of (fn := f15) (by kernel_rfl) (by kernel_rfl)
abbrev n_laws_toValue : Nat := 132
theorem cal_laws_toValue : Callable prog n_laws_toValue := callable_of (fn := f132) (by kernel_rfl) (by kernel_rfl)
abbrev n_laws_toAttr : Nat := 115
theorem cal_laws_toAttr : Callable prog n_laws_toAttr := callable_of (fn := f115) (by kernel_rfl) (by kernel_rfl)
abbrev n_laws_toNode : Nat := 116
theorem cal_laws_toNode : Callable prog n_laws_toNode := callable_of (fn := f116) (by kernel_rfl) (by kernel_rfl)
abbrev n_laws_toAttrS : Nat := 100
theorem cal_laws_toAttrS : Callable prog n_laws_toAttrS := callable_of (fn := f100) (by kernel_rfl) (by kernel_rfl)
abbrev n_laws_toNodeS : Nat := 101
theorem cal_laws_toNodeS : Callable prog n_laws_toNodeS := callable_of (fn := f101) (by kernel_rfl) (by kernel_rfl)
abbrev n_laws_toFile : Nat := 87
theorem cal_laws_toFile : Callable prog n_laws_toFile := callable_of (fn := f87) (by kernel_rfl) (by kernel_rfl)
abbrev n_laws_toDir : Nat := 88
theorem cal_laws_toDir : Callable prog n_laws_toDir := callable_of (fn := f88) (by kernel_rfl) (by kernel_rfl)
abbrev n_laws_toChange : Nat := 68
theorem cal_laws_toChange : Callable prog n_laws_toChange := callable_of (fn := f68) (by kernel_rfl) (by kernel_rfl)
abbrev n_laws_toChangeS : Nat := 43
theorem cal_laws_toChangeS : Callable prog n_laws_toChangeS := callable_of (fn := f43) (by kernel_rfl) (by kernel_rfl)
abbrev n_laws_toAction : Nat := 17
theorem cal_laws_toAction : Callable prog n_laws_toAction := callable_of (fn := f17) (by kernel_rfl) (by kernel_rfl)
abbrev n_laws_eqValue : Nat := 133
theorem cal_laws_eqValue : Callable prog n_laws_eqValue := callable_of (fn := f133) (by kernel_rfl) (by kernel_rfl)
abbrev n_laws_eqAttr : Nat := 117
theorem cal_laws_eqAttr : Callable prog n_laws_eqAttr := callable_of (fn := f117) (by kernel_rfl) (by kernel_rfl)
abbrev n_laws_eqNode : Nat := 118
theorem cal_laws_eqNode : Callable prog n_laws_eqNode := callable_of (fn := f118) (by kernel_rfl) (by kernel_rfl)
abbrev n_laws_eqAttrS : Nat := 104
theorem cal_laws_eqAttrS : Callable prog n_laws_eqAttrS := callable_of (fn := f104) (by kernel_rfl) (by kernel_rfl)
abbrev n_laws_eqNodeS : Nat := 105
theorem cal_laws_eqNodeS : Callable prog n_laws_eqNodeS := callable_of (fn := f105) (by kernel_rfl) (by kernel_rfl)
abbrev n_laws_eqFile : Nat := 92
theorem cal_laws_eqFile : Callable prog n_laws_eqFile := callable_of (fn := f92) (by kernel_rfl) (by kernel_rfl)
abbrev n_laws_eqDir : Nat := 93
theorem cal_laws_eqDir : Callable prog n_laws_eqDir := callable_of (fn := f93) (by kernel_rfl) (by kernel_rfl)
abbrev n_laws_eqChange : Nat := 75
theorem cal_laws_eqChange : Callable prog n_laws_eqChange := callable_of (fn := f75) (by kernel_rfl) (by kernel_rfl)
abbrev n_laws_eqChangeS : Nat := 48
theorem cal_laws_eqChangeS : Callable prog n_laws_eqChangeS := callable_of (fn := f48) (by kernel_rfl) (by kernel_rfl)
abbrev n_laws_eqAction : Nat := 19
theorem cal_laws_eqAction : Callable prog n_laws_eqAction := callable_of (fn := f19) (by kernel_rfl) (by kernel_rfl)
abbrev n_spec_l01In : Nat := 40
theorem cal_spec_l01In : Callable prog n_spec_l01In := callable_of (fn := f40) (by kernel_rfl) (by kernel_rfl)
abbrev n_impl_within : Nat := 69
theorem cal_impl_within : Callable prog n_impl_within := callable_of (fn := f69) (by kernel_rfl) (by kernel_rfl)
abbrev n_spec_l02Text : Nat := 67
theorem cal_spec_l02Text : Callable prog n_spec_l02Text := callable_of (fn := f67) (by kernel_rfl) (by kernel_rfl)
abbrev n_spec_IsValidString : Nat := 41
theorem cal_spec_IsValidString : Callable prog n_spec_IsValidString := callable_of (fn := f41) (by kernel_rfl) (by kernel_rfl)
abbrev n_impl_IsValidString : Nat := 46
theorem cal_impl_IsValidString : Callable prog n_impl_IsValidString := callable_of (fn := f46) (by kernel_rfl) (by kernel_rfl)
abbrev n_spec_IsValidAction : Nat := 42
theorem cal_spec_IsValidAction : Callable prog n_spec_IsValidAction := callable_of (fn := f42) (by kernel_rfl) (by kernel_rfl)
abbrev n_impl_IsValidAction : Nat := 44
theorem cal_impl_IsValidAction : Callable prog n_impl_IsValidAction := callable_of (fn := f44) (by kernel_rfl) (by kernel_rfl)
abbrev n_impl_areNumbers_1 : Nat := 71
theorem cal_impl_areNumbers_1 : Callable prog n_impl_areNumbers_1 := callable_of (fn := f71) (by kernel_rfl) (by kernel_rfl)
abbrev n_slices_IndexFunc_int__impl_areNumbers_1 : Nat := 89
theorem cal_slices_IndexFunc_int__impl_areNumbers_1 : Callable prog n_slices_IndexFunc_int__impl_areNumbers_1 := callable_of (fn := f89) (by kernel_rfl) (by kernel_rfl)
abbrev n_slices_ContainsFunc_int__impl_areNumbers_1 : Nat := 70
theorem cal_slices_ContainsFunc_int__impl_areNumbers_1 : Callable prog n_slices_ContainsFunc_int__impl_areNumbers_1 := callable_of (fn := f70) (by kernel_rfl) (by kernel_rfl)
abbrev n_impl_areNumbers : Nat := 45
theorem cal_impl_areNumbers : Callable prog n_impl_areNumbers := callable_of (fn := f45) (by kernel_rfl) (by kernel_rfl)
abbrev n_spec_FormatAction : Nat := 16
theorem cal_spec_FormatAction : Callable prog n_spec_FormatAction := callable_of (fn := f16) (by kernel_rfl) (by kernel_rfl)
abbrev n_impl_FormatAction : Nat := 18
theorem cal_impl_FormatAction : Callable prog n_impl_FormatAction := callable_of (fn := f18) (by kernel_rfl) (by kernel_rfl)
abbrev n_laws_FnExactFormatAction : Nat := 4
theorem cal_laws_FnExactFormatAction : Callable prog n_laws_FnExactFormatAction := callable_of (fn := f4) (by kernel_rfl) (by kernel_rfl)
end Go.Proofs.Tryd
