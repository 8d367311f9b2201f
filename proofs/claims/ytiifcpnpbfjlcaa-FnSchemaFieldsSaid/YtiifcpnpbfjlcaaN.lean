import Derived.Test.YtiifcpnpbfjlcaaFwC
import Derived.Test.YtiifcpnpbfjlcaaProg
import Derived.Lib.LaidTab
import Derived.Lib.ItoaNum
namespace Go.Proofs.Try
open Go Go.Fw

abbrev T_int64 : TypeId := 2
abbrev T_int : TypeId := 3
abbrev T_bool : TypeId := 4
abbrev T_uint8 : TypeId := 5
abbrev T_abi_BoundsErrorCode : TypeId := 6
abbrev T_runtime_boundsError : TypeId := 8
abbrev T_string : TypeId := 9
abbrev T_runtime_errorString : TypeId := 10
abbrev T_runtime_plainError : TypeId := 11
abbrev T_uintptr : TypeId := 12
abbrev T_runtime_errorAddressString : TypeId := 14
abbrev T_maps_unhashableTypeError : TypeId := 19
abbrev T_int32 : TypeId := 21
abbrev T_impl_Field : TypeId := 26
abbrev T_impl_File : TypeId := 39
abbrev T_impl_Store : TypeId := 44
abbrev T_impl_Value : TypeId := 106
abbrev T_spec_l01Cur : TypeId := 109
abbrev T_impl_Attr : TypeId := 116
abbrev T_uint : TypeId := 125
abbrev T_runtime_TypeAssertionError : TypeId := 129
abbrev T_runtime_PanicNilError : TypeId := 132
abbrev T_uint32 : TypeId := 134
abbrev T_abi_TFlag : TypeId := 135
abbrev T_abi_Kind : TypeId := 136
abbrev T_abi_NameOff : TypeId := 139
abbrev T_abi_TypeOff : TypeId := 140
abbrev T_abi_Type : TypeId := 142
abbrev R_2 : CTs := (.cons (.int .i64) .nil) -- int64
abbrev R_3 : CTs := (.cons (.int .i64) .nil) -- int
abbrev R_4 : CTs := (.cons (.bool) .nil) -- bool
abbrev R_5 : CTs := (.cons (.int .u8) .nil) -- uint8
abbrev R_6 : CTs := (.cons (.int .u8) .nil) -- abi.BoundsErrorCode
abbrev R_7 : CTs := (.cons (.int .i64) (.cons (.int .i64) (.cons (.bool) (.cons (.int .u8) .nil)))) -- struct { x int64; y int; signed bool; code abi.BoundsErrorCode }
abbrev R_8 : CTs := (.cons (.int .i64) (.cons (.int .i64) (.cons (.bool) (.cons (.int .u8) .nil)))) -- runtime.boundsError
abbrev R_9 : CTs := (.cons (.str) .nil) -- string
abbrev R_10 : CTs := (.cons (.str) .nil) -- runtime.errorString
abbrev R_11 : CTs := (.cons (.str) .nil) -- runtime.plainError
abbrev R_12 : CTs := (.cons (.int .u64) .nil) -- uintptr
abbrev R_13 : CTs := (.cons (.str) (.cons (.int .u64) .nil)) -- struct { msg string; addr uintptr }
abbrev R_14 : CTs := (.cons (.str) (.cons (.int .u64) .nil)) -- runtime.errorAddressString
abbrev R_21 : CTs := (.cons (.int .i32) .nil) -- int32
abbrev R_22 : CTs := (.cons (.sl T_uint8 R_5) .nil) -- []uint8
abbrev R_26 : CTs := (.cons (.str) (.cons (.int .i64) .nil)) -- impl.Field
abbrev R_24 : CTs := (.cons (.sl T_impl_Field R_26) .nil) -- []impl.Field
abbrev R_25 : CTs := (.cons (.str) (.cons (.int .i64) .nil)) -- struct { Name string; Kind int }
abbrev R_106 : CTs := (.cons (.int .i64) (.cons (.int .i64) (.cons (.str) .nil))) -- impl.Value
abbrev R_116 : CTs := (.cons (.str) (.cons (.int .i64) (.cons (.int .i64) (.cons (.str) .nil)))) -- impl.Attr
abbrev R_37 : CTs := (.cons (.sl T_impl_Attr R_116) .nil) -- []impl.Attr
abbrev R_38 : CTs := (.cons (.int .i64) (.cons (.int .i64) (.cons (.bool) (.cons (.int .i64) (.cons (.sl T_impl_Attr R_116) .nil))))) -- struct { ID int; Owner int; Shared bool; Link int; Attrs []impl.Attr }
abbrev R_39 : CTs := (.cons (.int .i64) (.cons (.int .i64) (.cons (.bool) (.cons (.int .i64) (.cons (.sl T_impl_Attr R_116) .nil))))) -- impl.File
abbrev R_42 : CTs := (.cons (.sl T_impl_File R_39) .nil) -- []impl.File
abbrev R_43 : CTs := (.cons (.sl T_impl_Field R_26) (.cons (.sl T_impl_File R_39) (.cons (.int .i64) .nil))) -- struct { Schema []impl.Field; Files []impl.File; NextID int }
abbrev R_44 : CTs := (.cons (.sl T_impl_Field R_26) (.cons (.sl T_impl_File R_39) (.cons (.int .i64) .nil))) -- impl.Store
abbrev R_54 : CTs := (.cons (.sl T_int R_3) .nil) -- []int
abbrev R_79 : CTs := (.cons (.sl T_string R_9) .nil) -- []string
abbrev R_105 : CTs := (.cons (.int .i64) (.cons (.int .i64) (.cons (.str) .nil))) -- struct { Kind int; Int int; Str string }
abbrev R_108 : CTs := (.cons (.sl T_uint8 R_5) (.cons (.int .i64) (.cons (.int .i64) .nil))) -- struct { b []uint8; i int; h int }
abbrev R_109 : CTs := (.cons (.sl T_uint8 R_5) (.cons (.int .i64) (.cons (.int .i64) .nil))) -- spec.l01Cur
abbrev R_115 : CTs := (.cons (.str) (.cons (.int .i64) (.cons (.int .i64) (.cons (.str) .nil)))) -- struct { Name string; Value impl.Value }
abbrev R_125 : CTs := (.cons (.int .u64) .nil) -- uint
abbrev R_134 : CTs := (.cons (.int .u32) .nil) -- uint32
abbrev R_135 : CTs := (.cons (.int .u8) .nil) -- abi.TFlag
abbrev R_136 : CTs := (.cons (.int .u8) .nil) -- abi.Kind
abbrev R_139 : CTs := (.cons (.int .i32) .nil) -- abi.NameOff
abbrev R_140 : CTs := (.cons (.int .i32) .nil) -- abi.TypeOff
def tys : List (Nat × Go.Fw.TI) := [
  (2, ⟨.scalar, R_2, 8, false⟩),
  (3, ⟨.scalar, R_3, 8, false⟩),
  (4, ⟨.scalar, R_4, 1, false⟩),
  (5, ⟨.scalar, R_5, 1, false⟩),
  (6, ⟨.scalar, R_6, 1, false⟩),
  (7, ⟨.struct [(0, 2), (1, 3), (2, 4), (3, 6)], R_7, 24, false⟩),
  (8, ⟨.struct [(0, 2), (1, 3), (2, 4), (3, 6)], R_8, 24, false⟩),
  (9, ⟨.str, R_9, 16, false⟩),
  (10, ⟨.str, R_10, 16, false⟩),
  (11, ⟨.str, R_11, 16, false⟩),
  (12, ⟨.scalar, R_12, 8, false⟩),
  (13, ⟨.struct [(0, 9), (1, 12)], R_13, 24, false⟩),
  (14, ⟨.struct [(0, 9), (1, 12)], R_14, 24, false⟩),
  (21, ⟨.scalar, R_21, 4, false⟩),
  (22, ⟨.slice T_uint8, R_22, 24, false⟩),
  (24, ⟨.slice T_impl_Field, R_24, 24, false⟩),
  (25, ⟨.struct [(0, 9), (1, 3)], R_25, 24, false⟩),
  (26, ⟨.struct [(0, 9), (1, 3)], R_26, 24, true⟩),
  (37, ⟨.slice T_impl_Attr, R_37, 24, false⟩),
  (38, ⟨.struct [(0, 3), (1, 3), (2, 4), (3, 3), (4, 37)], R_38, 56, false⟩),
  (39, ⟨.struct [(0, 3), (1, 3), (2, 4), (3, 3), (4, 37)], R_39, 56, false⟩),
  (42, ⟨.slice T_impl_File, R_42, 24, false⟩),
  (43, ⟨.struct [(0, 24), (1, 42), (2, 3)], R_43, 56, false⟩),
  (44, ⟨.struct [(0, 24), (1, 42), (2, 3)], R_44, 56, false⟩),
  (54, ⟨.slice T_int, R_54, 24, false⟩),
  (79, ⟨.slice T_string, R_79, 24, false⟩),
  (105, ⟨.struct [(0, 3), (1, 3), (2, 9)], R_105, 32, false⟩),
  (106, ⟨.struct [(0, 3), (1, 3), (2, 9)], R_106, 32, true⟩),
  (108, ⟨.struct [(0, 22), (1, 3), (2, 3)], R_108, 40, false⟩),
  (109, ⟨.struct [(0, 22), (1, 3), (2, 3)], R_109, 40, false⟩),
  (115, ⟨.struct [(0, 9), (1, 106)], R_115, 48, true⟩),
  (116, ⟨.struct [(0, 9), (1, 106)], R_116, 48, true⟩),
  (125, ⟨.scalar, R_125, 8, false⟩),
  (134, ⟨.scalar, R_134, 4, false⟩),
  (135, ⟨.scalar, R_135, 1, false⟩),
  (136, ⟨.scalar, R_136, 1, false⟩),
  (139, ⟨.scalar, R_139, 4, false⟩),
  (140, ⟨.scalar, R_140, 4, false⟩)]
def Θ : TEnv := findT tys
theorem types_checked : checkTs prog tys = true := by kernel_rfl
theorem mixed : prog.follows .mixedOrders = true := by kernel_rfl

/-- Nothing is asked of the memory that lies there from the start. -/
def G : Glob where
  n := 0
  ok := fun _ => True
  low := fun _ _ => Nat.zero_le _
  stable := fun _ _ _ _ _ => trivial

abbrev n_spec_l01New : Nat := 57
theorem cal_spec_l01New : Callable prog n_spec_l01New := callable_of (fn := f57) (by kernel_rfl) (by kernel_rfl)
abbrev n_spec_l01Byte : Nat := 117
theorem cal_spec_l01Byte : Callable prog n_spec_l01Byte := callable_of (fn := f117) (by kernel_rfl) (by kernel_rfl)
abbrev n_spec_l01Below : Nat := 90
theorem cal_spec_l01Below : Callable prog n_spec_l01Below := callable_of (fn := f90) (by kernel_rfl) (by kernel_rfl)
abbrev n_spec_l01Pick : Nat := 59
theorem cal_spec_l01Pick : Callable prog n_spec_l01Pick := callable_of (fn := f59) (by kernel_rfl) (by kernel_rfl)
abbrev n_spec_l01PickInt : Nat := 60
theorem cal_spec_l01PickInt : Callable prog n_spec_l01PickInt := callable_of (fn := f60) (by kernel_rfl) (by kernel_rfl)
abbrev n_spec_l03Usual : Nat := 100
theorem cal_spec_l03Usual : Callable prog n_spec_l03Usual := callable_of (fn := f100) (by kernel_rfl) (by kernel_rfl)
abbrev n_spec_l03Name : Nat := 101
theorem cal_spec_l03Name : Callable prog n_spec_l03Name := callable_of (fn := f101) (by kernel_rfl) (by kernel_rfl)
abbrev n_spec_l03Any : Nat := 58
theorem cal_spec_l03Any : Callable prog n_spec_l03Any := callable_of (fn := f58) (by kernel_rfl) (by kernel_rfl)
abbrev n_spec_l01In : Nat := 78
theorem cal_spec_l01In : Callable prog n_spec_l01In := callable_of (fn := f78) (by kernel_rfl) (by kernel_rfl)
abbrev n_spec_l02Text : Nat := 122
theorem cal_spec_l02Text : Callable prog n_spec_l02Text := callable_of (fn := f122) (by kernel_rfl) (by kernel_rfl)
abbrev n_spec_IsValidAttrName : Nat := 106
theorem cal_spec_IsValidAttrName : Callable prog n_spec_IsValidAttrName := callable_of (fn := f106) (by kernel_rfl) (by kernel_rfl)
abbrev n_impl_IsValidAttrName : Nat := 71
theorem cal_impl_IsValidAttrName : Callable prog n_impl_IsValidAttrName := callable_of (fn := f71) (by kernel_rfl) (by kernel_rfl)
abbrev n_spec_FieldKind : Nat := 70
theorem cal_spec_FieldKind : Callable prog n_spec_FieldKind := callable_of (fn := f70) (by kernel_rfl) (by kernel_rfl)
abbrev n_impl_FieldKind : Nat := 16
theorem cal_impl_FieldKind : Callable prog n_impl_FieldKind := callable_of (fn := f16) (by kernel_rfl) (by kernel_rfl)
abbrev n_spec_IsValidSchema : Nat := 66
theorem cal_spec_IsValidSchema : Callable prog n_spec_IsValidSchema := callable_of (fn := f66) (by kernel_rfl) (by kernel_rfl)
abbrev n_impl_IsValidSchema : Nat := 17
theorem cal_impl_IsValidSchema : Callable prog n_impl_IsValidSchema := callable_of (fn := f17) (by kernel_rfl) (by kernel_rfl)
abbrev n_laws_sameFields : Nat := 15
theorem cal_laws_sameFields : Callable prog n_laws_sameFields := callable_of (fn := f15) (by kernel_rfl) (by kernel_rfl)
abbrev n_laws_big : Nat := 8
theorem cal_laws_big : Callable prog n_laws_big := callable_of (fn := f8) (by kernel_rfl) (by kernel_rfl)
abbrev n_spec_AddField : Nat := 11
theorem cal_spec_AddField : Callable prog n_spec_AddField := callable_of (fn := f11) (by kernel_rfl) (by kernel_rfl)
abbrev n_spec_RemoveField : Nat := 14
theorem cal_spec_RemoveField : Callable prog n_spec_RemoveField := callable_of (fn := f14) (by kernel_rfl) (by kernel_rfl)
abbrev n_impl_hasField_1 : Nat := 103
theorem cal_impl_hasField_1 : Callable prog n_impl_hasField_1 := callable_of (fn := f103) (by kernel_rfl) (by kernel_rfl)
abbrev n_slices_IndexFunc_impl_Field__impl_hasField_1 : Nat := 63
theorem cal_slices_IndexFunc_impl_Field__impl_hasField_1 : Callable prog n_slices_IndexFunc_impl_Field__impl_hasField_1 := callable_of (fn := f63) (by kernel_rfl) (by kernel_rfl)
abbrev n_slices_ContainsFunc_impl_Field__impl_hasField_1 : Nat := 102
theorem cal_slices_ContainsFunc_impl_Field__impl_hasField_1 : Callable prog n_slices_ContainsFunc_impl_Field__impl_hasField_1 := callable_of (fn := f102) (by kernel_rfl) (by kernel_rfl)
abbrev n_impl_hasField : Nat := 62
theorem cal_impl_hasField : Callable prog n_impl_hasField := callable_of (fn := f62) (by kernel_rfl) (by kernel_rfl)
abbrev n_impl_AddField_1 : Nat := 64
theorem cal_impl_AddField_1 : Callable prog n_impl_AddField_1 := callable_of (fn := f64) (by kernel_rfl) (by kernel_rfl)
abbrev n_slices_IndexFunc_impl_Field__impl_AddField_1 : Nat := 63
theorem cal_slices_IndexFunc_impl_Field__impl_AddField_1 : Callable prog n_slices_IndexFunc_impl_Field__impl_AddField_1 := callable_of (fn := f63) (by kernel_rfl) (by kernel_rfl)
abbrev n_impl_RemoveField_1 : Nat := 69
theorem cal_impl_RemoveField_1 : Callable prog n_impl_RemoveField_1 := callable_of (fn := f69) (by kernel_rfl) (by kernel_rfl)
abbrev n_slices_IndexFunc_impl_Field__impl_RemoveField_1 : Nat := 63
theorem cal_slices_IndexFunc_impl_Field__impl_RemoveField_1 : Callable prog n_slices_IndexFunc_impl_Field__impl_RemoveField_1 := callable_of (fn := f63) (by kernel_rfl) (by kernel_rfl)
abbrev n_slices_DeleteFunc_impl_Field__impl_RemoveField_1 : Nat := 68
theorem cal_slices_DeleteFunc_impl_Field__impl_RemoveField_1 : Callable prog n_slices_DeleteFunc_impl_Field__impl_RemoveField_1 := callable_of (fn := f68) (by kernel_rfl) (by kernel_rfl)
abbrev n_impl_RemoveField : Nat := 13
theorem cal_impl_RemoveField : Callable prog n_impl_RemoveField := callable_of (fn := f13) (by kernel_rfl) (by kernel_rfl)
abbrev n_spec_DrawFieldKind : Nat := 67
theorem cal_spec_DrawFieldKind : Callable prog n_spec_DrawFieldKind := callable_of (fn := f67) (by kernel_rfl) (by kernel_rfl)
abbrev n_spec_DrawRemoveField : Nat := 12
theorem cal_spec_DrawRemoveField : Callable prog n_spec_DrawRemoveField := callable_of (fn := f12) (by kernel_rfl) (by kernel_rfl)
abbrev n_spec_DrawAddField : Nat := 9
theorem cal_spec_DrawAddField : Callable prog n_spec_DrawAddField := callable_of (fn := f9) (by kernel_rfl) (by kernel_rfl)
abbrev n_slices_Clone_impl_Field__own : Nat := 61
theorem cal_slices_Clone_impl_Field__own : Callable prog n_slices_Clone_impl_Field__own := callable_of (fn := f61) (by kernel_rfl) (by kernel_rfl)
abbrev n_slices_Insert_impl_Field : Nat := 65
theorem cal_slices_Insert_impl_Field : Callable prog n_slices_Insert_impl_Field := callable_of (fn := f65) (by kernel_rfl) (by kernel_rfl)
abbrev n_impl_AddField : Nat := 10
theorem cal_impl_AddField : Callable prog n_impl_AddField := callable_of (fn := f10) (by kernel_rfl) (by kernel_rfl)
abbrev n_laws_FnSchemaFields : Nat := 3
theorem cal_laws_FnSchemaFields : Callable prog n_laws_FnSchemaFields := callable_of (fn := f3) (by kernel_rfl) (by kernel_rfl)
end Go.Proofs.Try
