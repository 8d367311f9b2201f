import Derived.Test.YtiifcpnpbfjlcaaFwC
import Derived.Test.YtiifcpnpbfjlcaaProg
import Derived.Lib.LaidTab
import Derived.Lib.ItoaNum
namespace Go.Proofs.Try
open Go Go.Fw

abbrev T_int64 : TypeId := 2
abbrev T_int : TypeId := 3
abbrev T_bool : TypeId := 4
abbrev T_uint8 : TypeId := 5
abbrev T_abi_BoundsErrorCode : TypeId := 6
abbrev T_runtime_boundsError : TypeId := 8
abbrev T_string : TypeId := 9
abbrev T_runtime_errorString : TypeId := 10
abbrev T_runtime_plainError : TypeId := 11
abbrev T_uintptr : TypeId := 12
abbrev T_runtime_errorAddressString : TypeId := 14
abbrev T_maps_unhashableTypeError : TypeId := 19
abbrev T_int32 : TypeId := 21
abbrev T_impl_Field : TypeId := 26
abbrev T_impl_File : TypeId := 39
abbrev T_impl_Store : TypeId := 44
abbrev T_impl_Value : TypeId := 106
abbrev T_spec_l01Cur : TypeId := 109
abbrev T_impl_Attr : TypeId := 116
abbrev T_uint : TypeId := 125
abbrev T_runtime_TypeAssertionError : TypeId := 129
abbrev T_runtime_PanicNilError : TypeId := 132
abbrev T_uint32 : TypeId := 134
abbrev T_abi_TFlag : TypeId := 135
abbrev T_abi_Kind : TypeId := 136
abbrev T_abi_NameOff : TypeId := 139
abbrev T_abi_TypeOff : TypeId := 140
abbrev T_abi_Type : TypeId := 142
abbrev R_2 : CTs := (.cons (.int .i64) .nil) -- int64
abbrev R_3 : CTs := (.cons (.int .i64) .nil) -- int
abbrev R_4 : CTs := (.cons (.bool) .nil) -- bool
abbrev R_5 : CTs := (.cons (.int .u8) .nil) -- uint8
abbrev R_6 : CTs := (.cons (.int .u8) .nil) -- abi.BoundsErrorCode
abbrev R_7 : CTs := (.cons (.int .i64) (.cons (.int .i64) (.cons (.bool) (.cons (.int .u8) .nil)))) -- struct { x int64; y int; signed bool; code abi.BoundsErrorCode }
abbrev R_8 : CTs := (.cons (.int .i64) (.cons (.int .i64) (.cons (.bool) (.cons (.int .u8) .nil)))) -- runtime.boundsError
abbrev R_9 : CTs := (.cons (.str) .nil) -- string
abbrev R_10 : CTs := (.cons (.str) .nil) -- runtime.errorString
abbrev R_11 : CTs := (.cons (.str) .nil) -- runtime.plainError
abbrev R_12 : CTs := (.cons (.int .u64) .nil) -- uintptr
abbrev R_13 : CTs := (.cons (.str) (.cons (.int .u64) .nil)) -- struct { msg string; addr uintptr }
abbrev R_14 : CTs := (.cons (.str) (.cons (.int .u64) .nil)) -- runtime.errorAddressString
abbrev R_21 : CTs := (.cons (.int .i32) .nil) -- int32
abbrev R_22 : CTs := (.cons (.sl T_uint8 R_5) .nil) -- []uint8
abbrev R_26 : CTs := (.cons (.str) (.cons (.int .i64) .nil)) -- impl.Field
abbrev R_24 : CTs := (.cons (.sl T_impl_Field R_26) .nil) -- []impl.Field
abbrev R_25 : CTs := (.cons (.str) (.cons (.int .i64) .nil)) -- struct { Name string; Kind int }
abbrev R_106 : CTs := (.cons (.int .i64) (.cons (.int .i64) (.cons (.str) .nil))) -- impl.Value
abbrev R_116 : CTs := (.cons (.str) (.cons (.int .i64) (.cons (.int .i64) (.cons (.str) .nil)))) -- impl.Attr
abbrev R_37 : CTs := (.cons (.sl T_impl_Attr R_116) .nil) -- []impl.Attr
abbrev R_38 : CTs := (.cons (.int .i64) (.cons (.int .i64) (.cons (.bool) (.cons (.int .i64) (.cons (.sl T_impl_Attr R_116) .nil))))) -- struct { ID int; Owner int; Shared bool; Link int; Attrs []impl.Attr }
abbrev R_39 : CTs := (.cons (.int .i64) (.cons (.int .i64) (.cons (.bool) (.cons (.int .i64) (.cons (.sl T_impl_Attr R_116) .nil))))) -- impl.File
abbrev R_42 : CTs := (.cons (.sl T_impl_File R_39) .nil) -- []impl.File
abbrev R_43 : CTs := (.cons (.sl T_impl_Field R_26) (.cons (.sl T_impl_File R_39) (.cons (.int .i64) .nil))) -- struct { Schema []impl.Field; Files []impl.File; NextID int }
abbrev R_44 : CTs := (.cons (.sl T_impl_Field R_26) (.cons (.sl T_impl_File R_39) (.cons (.int .i64) .nil))) -- impl.Store
abbrev R_54 : CTs := (.cons (.sl T_int R_3) .nil) -- []int
abbrev R_79 : CTs := (.cons (.sl T_string R_9) .nil) -- []string
abbrev R_105 : CTs := (.cons (.int .i64) (.cons (.int .i64) (.cons (.str) .nil))) -- struct { Kind int; Int int; Str string }
abbrev R_108 : CTs := (.cons (.sl T_uint8 R_5) (.cons (.int .i64) (.cons (.int .i64) .nil))) -- struct { b []uint8; i int; h int }
abbrev R_109 : CTs := (.cons (.sl T_uint8 R_5) (.cons (.int .i64) (.cons (.int .i64) .nil))) -- spec.l01Cur
abbrev R_115 : CTs := (.cons (.str) (.cons (.int .i64) (.cons (.int .i64) (.cons (.str) .nil)))) -- struct { Name string; Value impl.Value }
abbrev R_125 : CTs := (.cons (.int .u64) .nil) -- uint
abbrev R_134 : CTs := (.cons (.int .u32) .nil) -- uint32
abbrev R_135 : CTs := (.cons (.int .u8) .nil) -- abi.TFlag
abbrev R_136 : CTs := (.cons (.int .u8) .nil) -- abi.Kind
abbrev R_139 : CTs := (.cons (.int .i32) .nil) -- abi.NameOff
abbrev R_140 : CTs := (.cons (.int .i32) .nil) -- abi.TypeOff
def tys : List (Nat × Go.Fw.TI) := [
  (2, ⟨.scalar, R_2, 8, false⟩),
  (3, ⟨.scalar, R_3, 8, false⟩),
  (4, ⟨.scalar, R_4, 1, false⟩),
  (5, ⟨.scalar, R_5, 1, false⟩),
  (6, ⟨.scalar, R_6, 1, false⟩),
  (7, ⟨.struct [(0, 2), (1, 3), (2, 4), (3, 6)], R_7, 24, false⟩),
  (8, ⟨.struct [(0, 2), (1, 3), (2, 4), (3, 6)], R_8, 24, false⟩),
  (9, ⟨.str, R_9, 16, false⟩),
  (10, ⟨.str, R_10, 16, false⟩),
  (11, ⟨.str, R_11, 16, false⟩),
  (12, ⟨.scalar, R_12, 8, false⟩),
  (13, ⟨.struct [(0, 9), (1, 12)], R_13, 24, false⟩),
  (14, ⟨.struct [(0, 9), (1, 12)], R_14, 24, false⟩),
  (21, ⟨.scalar, R_21, 4, false⟩),
  (22, ⟨.slice T_uint8, R_22, 24, false⟩),
  (24, ⟨.slice T_impl_Field, R_24, 24, false⟩),
  (25, ⟨.struct [(0, 9), (1, 3)], R_25, 24, false⟩),
  (26, ⟨.struct [(0, 9), (1, 3)], R_26, 24, true⟩),
  (37, ⟨.slice T_impl_Attr, R_37, 24, false⟩),
  (38, ⟨.struct [(0, 3), (1, 3), (2, 4), (3, 3), (4, 37)], R_38, 56, false⟩),
  (39, ⟨.struct [(0, 3), (1, 3), (2, 4), (3, 3), (4, 37)], R_39, 56, false⟩),
  (42, ⟨.slice T_impl_File, R_42, 24, false⟩),
  (43, ⟨.struct [(0, 24), (1, 42), (2, 3)], R_43, 56, false⟩),
  (44, ⟨.struct [(0, 24), (1, 42), (2, 3)], R_44, 56, false⟩),
  (54, ⟨.slice T_int, R_54, 24, false⟩),
  (79, ⟨.slice T_string, R_79, 24, false⟩),
  (105, ⟨.struct [(0, 3), (1, 3), (2, 9)], R_105, 32, false⟩),
  (106, ⟨.struct [(0, 3), (1, 3), (2, 9)], R_106, 32, true⟩),
  (108, ⟨.struct [(0, 22), (1, 3), (2, 3)], R_108, 40, false⟩),
  (109, ⟨.struct [(0, 22), (1, 3), (2, 3)], R_109, 40, false⟩),
  (115, ⟨.struct [(0, 9), (1, 106)], R_115, 48, true⟩),
  (116, ⟨.struct [(0, 9), (1, 106)], R_116, 48, true⟩),
  (125, ⟨.scalar, R_125, 8, false⟩),
  (134, ⟨.scalar, R_134, 4, false⟩),
  (135, ⟨.scalar, R_135, 1, false⟩),
  (136, ⟨.scalar, R_136, 1, false⟩),
  (139, ⟨.scalar, R_139, 4, false⟩),
  (140, ⟨.scalar, R_140, 4, false⟩)]
def Θ : TEnv := findT tys
theorem types_checked : checkTs prog tys = true := by kernel_rfl
theorem mixed : prog.follows .mixedOrders = true := by kernel_rfl

/-- Nothing is asked of the memory that lies there from the start. -/
def G : Glob where
  n := 0
  ok := fun _ => True
  low := fun _ _ => Nat.zero_le _
  stable := fun _ _ _ _ _ => trivial

abbrev n_spec_l01New : Nat := 57
theorem cal_spec_l01New : Callable prog n_spec_l01New := callable_of (fn := f57) (by kernel_rfl) (by kernel_rfl)
abbrev n_spec_l01Byte : Nat := 117
theorem cal_spec_l01Byte : Callable prog n_spec_l01Byte := callable_of (fn := f117) (by kernel_rfl) (by kernel_rfl)
abbrev n_spec_l01Below : Nat := 90
theorem cal_spec_l01Below : Callable prog n_spec_l01Below := callable_of (fn := f90) (by kernel_rfl) (by kernel_rfl)
abbrev n_spec_l01Once : Nat := 91
theorem cal_spec_l01Once : Callable prog n_spec_l01Once := callable_of (fn := f91) (by kernel_rfl) (by kernel_rfl)
abbrev n_spec_l01Pick : Nat := 59
theorem cal_spec_l01Pick : Callable prog n_spec_l01Pick := callable_of (fn := f59) (by kernel_rfl) (by kernel_rfl)
abbrev n_spec_l01PickInt : Nat := 60
theorem cal_spec_l01PickInt : Callable prog n_spec_l01PickInt := callable_of (fn := f60) (by kernel_rfl) (by kernel_rfl)
abbrev n_spec_l03Usual : Nat := 100
theorem cal_spec_l03Usual : Callable prog n_spec_l03Usual := callable_of (fn := f100) (by kernel_rfl) (by kernel_rfl)
abbrev n_spec_l03Name : Nat := 101
theorem cal_spec_l03Name : Callable prog n_spec_l03Name := callable_of (fn := f101) (by kernel_rfl) (by kernel_rfl)
abbrev n_spec_l03Any : Nat := 58
theorem cal_spec_l03Any : Callable prog n_spec_l03Any := callable_of (fn := f58) (by kernel_rfl) (by kernel_rfl)
abbrev n_spec_l02Value : Nat := 123
theorem cal_spec_l02Value : Callable prog n_spec_l02Value := callable_of (fn := f123) (by kernel_rfl) (by kernel_rfl)
abbrev n_spec_l02Any : Nat := 108
theorem cal_spec_l02Any : Callable prog n_spec_l02Any := callable_of (fn := f108) (by kernel_rfl) (by kernel_rfl)
abbrev n_spec_IntValue : Nat := 99
theorem cal_spec_IntValue : Callable prog n_spec_IntValue := callable_of (fn := f99) (by kernel_rfl) (by kernel_rfl)
abbrev n_spec_StringValue : Nat := 109
theorem cal_spec_StringValue : Callable prog n_spec_StringValue := callable_of (fn := f109) (by kernel_rfl) (by kernel_rfl)
abbrev n_spec_DrawNewStore : Nat := 50
theorem cal_spec_DrawNewStore : Callable prog n_spec_DrawNewStore := callable_of (fn := f50) (by kernel_rfl) (by kernel_rfl)
abbrev n_spec_l01In : Nat := 78
theorem cal_spec_l01In : Callable prog n_spec_l01In := callable_of (fn := f78) (by kernel_rfl) (by kernel_rfl)
abbrev n_impl_within : Nat := 87
theorem cal_impl_within : Callable prog n_impl_within := callable_of (fn := f87) (by kernel_rfl) (by kernel_rfl)
abbrev n_spec_l02Text : Nat := 122
theorem cal_spec_l02Text : Callable prog n_spec_l02Text := callable_of (fn := f122) (by kernel_rfl) (by kernel_rfl)
abbrev n_spec_IsValidString : Nat := 127
theorem cal_spec_IsValidString : Callable prog n_spec_IsValidString := callable_of (fn := f127) (by kernel_rfl) (by kernel_rfl)
abbrev n_impl_IsValidString : Nat := 128
theorem cal_impl_IsValidString : Callable prog n_impl_IsValidString := callable_of (fn := f128) (by kernel_rfl) (by kernel_rfl)
abbrev n_spec_IsValidValue : Nat := 124
theorem cal_spec_IsValidValue : Callable prog n_spec_IsValidValue := callable_of (fn := f124) (by kernel_rfl) (by kernel_rfl)
abbrev n_impl_IsValidValue : Nat := 125
theorem cal_impl_IsValidValue : Callable prog n_impl_IsValidValue := callable_of (fn := f125) (by kernel_rfl) (by kernel_rfl)
abbrev n_spec_IsValidAttrName : Nat := 106
theorem cal_spec_IsValidAttrName : Callable prog n_spec_IsValidAttrName := callable_of (fn := f106) (by kernel_rfl) (by kernel_rfl)
abbrev n_impl_IsValidAttrName : Nat := 71
theorem cal_impl_IsValidAttrName : Callable prog n_impl_IsValidAttrName := callable_of (fn := f71) (by kernel_rfl) (by kernel_rfl)
abbrev n_spec_FieldKind : Nat := 70
theorem cal_spec_FieldKind : Callable prog n_spec_FieldKind := callable_of (fn := f70) (by kernel_rfl) (by kernel_rfl)
abbrev n_impl_FieldKind : Nat := 16
theorem cal_impl_FieldKind : Callable prog n_impl_FieldKind := callable_of (fn := f16) (by kernel_rfl) (by kernel_rfl)
abbrev n_spec_IsValidSchema : Nat := 66
theorem cal_spec_IsValidSchema : Callable prog n_spec_IsValidSchema := callable_of (fn := f66) (by kernel_rfl) (by kernel_rfl)
abbrev n_impl_IsValidSchema : Nat := 17
theorem cal_impl_IsValidSchema : Callable prog n_impl_IsValidSchema := callable_of (fn := f17) (by kernel_rfl) (by kernel_rfl)
abbrev n_spec_MatchesSchema : Nat := 113
theorem cal_spec_MatchesSchema : Callable prog n_spec_MatchesSchema := callable_of (fn := f113) (by kernel_rfl) (by kernel_rfl)
abbrev n_impl_MatchesSchema : Nat := 115
theorem cal_impl_MatchesSchema : Callable prog n_impl_MatchesSchema := callable_of (fn := f115) (by kernel_rfl) (by kernel_rfl)
abbrev n_spec_IsValidFile : Nat := 81
theorem cal_spec_IsValidFile : Callable prog n_spec_IsValidFile := callable_of (fn := f81) (by kernel_rfl) (by kernel_rfl)
abbrev n_impl_IsValidFile : Nat := 83
theorem cal_impl_IsValidFile : Callable prog n_impl_IsValidFile := callable_of (fn := f83) (by kernel_rfl) (by kernel_rfl)
abbrev n_spec_IsValidStore : Nat := 28
theorem cal_spec_IsValidStore : Callable prog n_spec_IsValidStore := callable_of (fn := f28) (by kernel_rfl) (by kernel_rfl)
abbrev n_impl_IsValidStore : Nat := 42
theorem cal_impl_IsValidStore : Callable prog n_impl_IsValidStore := callable_of (fn := f42) (by kernel_rfl) (by kernel_rfl)
abbrev n_laws_sameFields : Nat := 15
theorem cal_laws_sameFields : Callable prog n_laws_sameFields := callable_of (fn := f15) (by kernel_rfl) (by kernel_rfl)
abbrev n_laws_sameAttrs : Nat := 88
theorem cal_laws_sameAttrs : Callable prog n_laws_sameAttrs := callable_of (fn := f88) (by kernel_rfl) (by kernel_rfl)
abbrev n_laws_sameFile : Nat := 43
theorem cal_laws_sameFile : Callable prog n_laws_sameFile := callable_of (fn := f43) (by kernel_rfl) (by kernel_rfl)
abbrev n_laws_sameFiles : Nat := 47
theorem cal_laws_sameFiles : Callable prog n_laws_sameFiles := callable_of (fn := f47) (by kernel_rfl) (by kernel_rfl)
abbrev n_laws_sameStore : Nat := 25
theorem cal_laws_sameStore : Callable prog n_laws_sameStore := callable_of (fn := f25) (by kernel_rfl) (by kernel_rfl)
abbrev n_laws_sameInts : Nat := 29
theorem cal_laws_sameInts : Callable prog n_laws_sameInts := callable_of (fn := f29) (by kernel_rfl) (by kernel_rfl)
abbrev n_spec_l04Copy : Nat := 79
theorem cal_spec_l04Copy : Callable prog n_spec_l04Copy := callable_of (fn := f79) (by kernel_rfl) (by kernel_rfl)
abbrev n_impl_copyFile : Nat := 75
theorem cal_impl_copyFile : Callable prog n_impl_copyFile := callable_of (fn := f75) (by kernel_rfl) (by kernel_rfl)
abbrev n_impl_isUser : Nat := 77
theorem cal_impl_isUser : Callable prog n_impl_isUser := callable_of (fn := f77) (by kernel_rfl) (by kernel_rfl)
abbrev n_spec_CanRead : Nat := 22
theorem cal_spec_CanRead : Callable prog n_spec_CanRead := callable_of (fn := f22) (by kernel_rfl) (by kernel_rfl)
abbrev n_impl_CanRead : Nat := 21
theorem cal_impl_CanRead : Callable prog n_impl_CanRead := callable_of (fn := f21) (by kernel_rfl) (by kernel_rfl)
abbrev n_spec_CanWrite : Nat := 24
theorem cal_spec_CanWrite : Callable prog n_spec_CanWrite := callable_of (fn := f24) (by kernel_rfl) (by kernel_rfl)
abbrev n_impl_CanWrite : Nat := 23
theorem cal_impl_CanWrite : Callable prog n_impl_CanWrite := callable_of (fn := f23) (by kernel_rfl) (by kernel_rfl)
abbrev n_spec_l05Place : Nat := 80
theorem cal_spec_l05Place : Callable prog n_spec_l05Place := callable_of (fn := f80) (by kernel_rfl) (by kernel_rfl)
abbrev n_impl_fileAt_1 : Nat := 112
theorem cal_impl_fileAt_1 : Callable prog n_impl_fileAt_1 := callable_of (fn := f112) (by kernel_rfl) (by kernel_rfl)
abbrev n_slices_IndexFunc_impl_File__impl_fileAt_1 : Nat := 111
theorem cal_slices_IndexFunc_impl_File__impl_fileAt_1 : Callable prog n_slices_IndexFunc_impl_File__impl_fileAt_1 := callable_of (fn := f111) (by kernel_rfl) (by kernel_rfl)
abbrev n_impl_fileAt : Nat := 76
theorem cal_impl_fileAt : Callable prog n_impl_fileAt := callable_of (fn := f76) (by kernel_rfl) (by kernel_rfl)
abbrev n_spec_FindFile : Nat := 27
theorem cal_spec_FindFile : Callable prog n_spec_FindFile := callable_of (fn := f27) (by kernel_rfl) (by kernel_rfl)
abbrev n_impl_FindFile : Nat := 41
theorem cal_impl_FindFile : Callable prog n_impl_FindFile := callable_of (fn := f41) (by kernel_rfl) (by kernel_rfl)
abbrev n_slices_Clone_impl_Field : Nat := 61
theorem cal_slices_Clone_impl_Field : Callable prog n_slices_Clone_impl_Field := callable_of (fn := f61) (by kernel_rfl) (by kernel_rfl)
abbrev n_slices_Clone_impl_Attr : Nat := 110
theorem cal_slices_Clone_impl_Attr : Callable prog n_slices_Clone_impl_Attr := callable_of (fn := f110) (by kernel_rfl) (by kernel_rfl)
abbrev n_spec_FilesOwnedBy : Nat := 31
theorem cal_spec_FilesOwnedBy : Callable prog n_spec_FilesOwnedBy := callable_of (fn := f31) (by kernel_rfl) (by kernel_rfl)
abbrev n_impl_FilesOwnedBy : Nat := 30
theorem cal_impl_FilesOwnedBy : Callable prog n_impl_FilesOwnedBy := callable_of (fn := f30) (by kernel_rfl) (by kernel_rfl)
abbrev n_spec_VisibleStore : Nat := 26
theorem cal_spec_VisibleStore : Callable prog n_spec_VisibleStore := callable_of (fn := f26) (by kernel_rfl) (by kernel_rfl)
abbrev n_impl_VisibleStore : Nat := 20
theorem cal_impl_VisibleStore : Callable prog n_impl_VisibleStore := callable_of (fn := f20) (by kernel_rfl) (by kernel_rfl)
abbrev n_spec_SetAttr : Nat := 98
theorem cal_spec_SetAttr : Callable prog n_spec_SetAttr := callable_of (fn := f98) (by kernel_rfl) (by kernel_rfl)
abbrev n_spec_l04File : Nat := 107
theorem cal_spec_l04File : Callable prog n_spec_l04File := callable_of (fn := f107) (by kernel_rfl) (by kernel_rfl)
abbrev n_spec_l04Any : Nat := 72
theorem cal_spec_l04Any : Callable prog n_spec_l04Any := callable_of (fn := f72) (by kernel_rfl) (by kernel_rfl)
abbrev n_spec_NewStore : Nat := 55
theorem cal_spec_NewStore : Callable prog n_spec_NewStore := callable_of (fn := f55) (by kernel_rfl) (by kernel_rfl)
abbrev n_spec_l05Copy : Nat := 84
theorem cal_spec_l05Copy : Callable prog n_spec_l05Copy := callable_of (fn := f84) (by kernel_rfl) (by kernel_rfl)
abbrev n_spec_CreateFile : Nat := 34
theorem cal_spec_CreateFile : Callable prog n_spec_CreateFile := callable_of (fn := f34) (by kernel_rfl) (by kernel_rfl)
abbrev n_spec_ReplaceFile : Nat := 37
theorem cal_spec_ReplaceFile : Callable prog n_spec_ReplaceFile := callable_of (fn := f37) (by kernel_rfl) (by kernel_rfl)
abbrev n_spec_DeleteFile : Nat := 40
theorem cal_spec_DeleteFile : Callable prog n_spec_DeleteFile := callable_of (fn := f40) (by kernel_rfl) (by kernel_rfl)
abbrev n_spec_l05Store : Nat := 89
theorem cal_spec_l05Store : Callable prog n_spec_l05Store := callable_of (fn := f89) (by kernel_rfl) (by kernel_rfl)
abbrev n_spec_l05Any : Nat := 74
theorem cal_spec_l05Any : Callable prog n_spec_l05Any := callable_of (fn := f74) (by kernel_rfl) (by kernel_rfl)
abbrev n_spec_l06User : Nat := 73
theorem cal_spec_l06User : Callable prog n_spec_l06User := callable_of (fn := f73) (by kernel_rfl) (by kernel_rfl)
abbrev n_spec_l06Hidden : Nat := 92
theorem cal_spec_l06Hidden : Callable prog n_spec_l06Hidden := callable_of (fn := f92) (by kernel_rfl) (by kernel_rfl)
abbrev n_spec_DrawCanRead : Nat := 18
theorem cal_spec_DrawCanRead : Callable prog n_spec_DrawCanRead := callable_of (fn := f18) (by kernel_rfl) (by kernel_rfl)
abbrev n_spec_DrawVisibleStore : Nat := 19
theorem cal_spec_DrawVisibleStore : Callable prog n_spec_DrawVisibleStore := callable_of (fn := f19) (by kernel_rfl) (by kernel_rfl)
abbrev n_spec_DrawEqualForUser : Nat := 44
theorem cal_spec_DrawEqualForUser : Callable prog n_spec_DrawEqualForUser := callable_of (fn := f44) (by kernel_rfl) (by kernel_rfl)
abbrev n_spec_EqualFiles : Nat := 120
theorem cal_spec_EqualFiles : Callable prog n_spec_EqualFiles := callable_of (fn := f120) (by kernel_rfl) (by kernel_rfl)
abbrev n_impl_EqualFiles : Nat := 95
theorem cal_impl_EqualFiles : Callable prog n_impl_EqualFiles := callable_of (fn := f95) (by kernel_rfl) (by kernel_rfl)
abbrev n_spec_l05Fields : Nat := 119
theorem cal_spec_l05Fields : Callable prog n_spec_l05Fields := callable_of (fn := f119) (by kernel_rfl) (by kernel_rfl)
abbrev n_spec_EqualStores : Nat := 96
theorem cal_spec_EqualStores : Callable prog n_spec_EqualStores := callable_of (fn := f96) (by kernel_rfl) (by kernel_rfl)
abbrev n_slices_Equal_impl_Attr : Nat := 118
theorem cal_slices_Equal_impl_Attr : Callable prog n_slices_Equal_impl_Attr := callable_of (fn := f118) (by kernel_rfl) (by kernel_rfl)
abbrev n_slices_Equal_impl_Field : Nat := 93
theorem cal_slices_Equal_impl_Field : Callable prog n_slices_Equal_impl_Field := callable_of (fn := f93) (by kernel_rfl) (by kernel_rfl)
abbrev n_slices_EqualFunc_impl_File_impl_File__impl_EqualFiles : Nat := 94
theorem cal_slices_EqualFunc_impl_File_impl_File__impl_EqualFiles : Callable prog n_slices_EqualFunc_impl_File_impl_File__impl_EqualFiles := callable_of (fn := f94) (by kernel_rfl) (by kernel_rfl)
abbrev n_spec_EqualForUser : Nat := 46
theorem cal_spec_EqualForUser : Callable prog n_spec_EqualForUser := callable_of (fn := f46) (by kernel_rfl) (by kernel_rfl)
abbrev n_impl_EqualForUser : Nat := 45
theorem cal_impl_EqualForUser : Callable prog n_impl_EqualForUser := callable_of (fn := f45) (by kernel_rfl) (by kernel_rfl)
abbrev n_laws_FnReadWrite : Nat := 4
theorem cal_laws_FnReadWrite : Callable prog n_laws_FnReadWrite := callable_of (fn := f4) (by kernel_rfl) (by kernel_rfl)
abbrev n_laws_FnHiddenChanges : Nat := 6
theorem cal_laws_FnHiddenChanges : Callable prog n_laws_FnHiddenChanges := callable_of (fn := f6) (by kernel_rfl) (by kernel_rfl)
abbrev n_laws_big : Nat := 8
theorem cal_laws_big : Callable prog n_laws_big := callable_of (fn := f8) (by kernel_rfl) (by kernel_rfl)
abbrev n_slices_Delete_impl_File : Nat := 86
theorem cal_slices_Delete_impl_File : Callable prog n_slices_Delete_impl_File := callable_of (fn := f86) (by kernel_rfl) (by kernel_rfl)
abbrev n_impl_copyFiles : Nat := 114
theorem cal_impl_copyFiles : Callable prog n_impl_copyFiles := callable_of (fn := f114) (by kernel_rfl) (by kernel_rfl)
abbrev n_impl_copyStore : Nat := 82
theorem cal_impl_copyStore : Callable prog n_impl_copyStore := callable_of (fn := f82) (by kernel_rfl) (by kernel_rfl)
abbrev n_impl_CreateFile : Nat := 33
theorem cal_impl_CreateFile : Callable prog n_impl_CreateFile := callable_of (fn := f33) (by kernel_rfl) (by kernel_rfl)
abbrev n_impl_ReplaceFile : Nat := 36
theorem cal_impl_ReplaceFile : Callable prog n_impl_ReplaceFile := callable_of (fn := f36) (by kernel_rfl) (by kernel_rfl)
abbrev n_impl_DeleteFile : Nat := 39
theorem cal_impl_DeleteFile : Callable prog n_impl_DeleteFile := callable_of (fn := f39) (by kernel_rfl) (by kernel_rfl)
abbrev n_impl_NewStore : Nat := 54
theorem cal_impl_NewStore : Callable prog n_impl_NewStore := callable_of (fn := f54) (by kernel_rfl) (by kernel_rfl)
abbrev n_impl_FileIDs : Nat := 51
theorem cal_impl_FileIDs : Callable prog n_impl_FileIDs := callable_of (fn := f51) (by kernel_rfl) (by kernel_rfl)
abbrev n_spec_FileIDs : Nat := 52
theorem cal_spec_FileIDs : Callable prog n_spec_FileIDs := callable_of (fn := f52) (by kernel_rfl) (by kernel_rfl)
abbrev n_impl_EqualStores : Nat := 53
theorem cal_impl_EqualStores : Callable prog n_impl_EqualStores := callable_of (fn := f53) (by kernel_rfl) (by kernel_rfl)
abbrev n_spec_l05Id : Nat := 116
theorem cal_spec_l05Id : Callable prog n_spec_l05Id := callable_of (fn := f116) (by kernel_rfl) (by kernel_rfl)
abbrev n_spec_DrawFindFile : Nat := 85
theorem cal_spec_DrawFindFile : Callable prog n_spec_DrawFindFile := callable_of (fn := f85) (by kernel_rfl) (by kernel_rfl)
abbrev n_spec_DrawDeleteFile : Nat := 38
theorem cal_spec_DrawDeleteFile : Callable prog n_spec_DrawDeleteFile := callable_of (fn := f38) (by kernel_rfl) (by kernel_rfl)
abbrev n_spec_DrawReplaceFile : Nat := 35
theorem cal_spec_DrawReplaceFile : Callable prog n_spec_DrawReplaceFile := callable_of (fn := f35) (by kernel_rfl) (by kernel_rfl)
abbrev n_spec_DrawCreateFile : Nat := 32
theorem cal_spec_DrawCreateFile : Callable prog n_spec_DrawCreateFile := callable_of (fn := f32) (by kernel_rfl) (by kernel_rfl)
abbrev n_spec_DrawFileIDs : Nat := 48
theorem cal_spec_DrawFileIDs : Callable prog n_spec_DrawFileIDs := callable_of (fn := f48) (by kernel_rfl) (by kernel_rfl)
abbrev n_spec_DrawEqualStores : Nat := 49
theorem cal_spec_DrawEqualStores : Callable prog n_spec_DrawEqualStores := callable_of (fn := f49) (by kernel_rfl) (by kernel_rfl)
abbrev n_spec_DefaultSchema : Nat := 97
theorem cal_spec_DefaultSchema : Callable prog n_spec_DefaultSchema := callable_of (fn := f97) (by kernel_rfl) (by kernel_rfl)
abbrev n_laws_sampleStore : Nat := 56
theorem cal_laws_sampleStore : Callable prog n_laws_sampleStore := callable_of (fn := f56) (by kernel_rfl) (by kernel_rfl)
abbrev n_laws_FnStoreFind : Nat := 5
theorem cal_laws_FnStoreFind : Callable prog n_laws_FnStoreFind := callable_of (fn := f5) (by kernel_rfl) (by kernel_rfl)
abbrev n_laws_FnStoreIDs : Nat := 7
theorem cal_laws_FnStoreIDs : Callable prog n_laws_FnStoreIDs := callable_of (fn := f7) (by kernel_rfl) (by kernel_rfl)
end Go.Proofs.Try
