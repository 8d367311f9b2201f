import Derived.Test.YtiifcpnpbfjlcaaN
import Derived.Test.YtiifcpnpbfjlcaaSp
namespace Go.Proofs.Try
open Go Go.Fw
def sh_spec_l01New : List XSh := [.p (.v (.one (.sl T_uint8 R_5 false)))]
def psh_spec_l01New : List CSh := [.sl T_uint8 R_5 false, .int .i64, .int .i64]
def F_spec_l01New : xsDen sh_spec_l01New → Prop × (csDen psh_spec_l01New → Prop) := fun (code, ()) => (code.length ≤ 1048576, fun (b, i, h, ()) => i = 0)
def con_spec_l01New : XCon := conP sh_spec_l01New psh_spec_l01New F_spec_l01New
def sh_spec_l01Byte : List XSh := [.ptr [.sl T_uint8 R_5 false, .int .i64, .int .i64]]
def rsh_spec_l01Byte : List RSh := [.one (.c (.int .i64))]
def F_spec_l01Byte : xsDen sh_spec_l01Byte → Prop × (rsDen rsh_spec_l01Byte × bkDen sh_spec_l01Byte → Prop) := fun ((b, i, h, ()), ()) => (0 ≤ i, fun ((x, ()), ((b', i', h', ()), ())) => 0 ≤ i' ∧ 0 ≤ x ∧ x ≤ 255)
def con_spec_l01Byte : XCon := conX sh_spec_l01Byte rsh_spec_l01Byte F_spec_l01Byte
def sh_spec_l01Below : List XSh := [.ptr [.sl T_uint8 R_5 false, .int .i64, .int .i64], .p (.v (.one (.int .i64)))]
def rsh_spec_l01Below : List RSh := [.one (.c (.int .i64))]
def F_spec_l01Below : xsDen sh_spec_l01Below → Prop × (rsDen rsh_spec_l01Below × bkDen sh_spec_l01Below → Prop) := fun ((b, i, h, ()), n, ()) => (0 ≤ i, fun ((x, ()), ((b', i', h', ()), ())) => 0 ≤ i' ∧ 0 ≤ x ∧ (0 < n → x < n) ∧ (n ≤ 0 → x = 0))
def con_spec_l01Below : XCon := conX sh_spec_l01Below rsh_spec_l01Below F_spec_l01Below
def sh_spec_l01Pick : List XSh := [.ptr [.sl T_uint8 R_5 false, .int .i64, .int .i64], .p (.v (.one (.sl T_string R_9 false)))]
def rsh_spec_l01Pick : List RSh := [.one (.c .str)]
def F_spec_l01Pick : xsDen sh_spec_l01Pick → Prop × (rsDen rsh_spec_l01Pick × bkDen sh_spec_l01Pick → Prop) := fun ((b, i, h, ()), list, ()) => (0 ≤ i ∧ list ≠ [], fun ((x, ()), ((b', i', h', ()), ())) => 0 ≤ i' ∧ (x, ()) ∈ list)
def con_spec_l01Pick : XCon := conX sh_spec_l01Pick rsh_spec_l01Pick F_spec_l01Pick
def sh_spec_l01PickInt : List XSh := [.ptr [.sl T_uint8 R_5 false, .int .i64, .int .i64], .p (.v (.one (.sl T_int R_3 false)))]
def rsh_spec_l01PickInt : List RSh := [.one (.c (.int .i64))]
def F_spec_l01PickInt : xsDen sh_spec_l01PickInt → Prop × (rsDen rsh_spec_l01PickInt × bkDen sh_spec_l01PickInt → Prop) := fun ((b, i, h, ()), list, ()) => (0 ≤ i ∧ list ≠ [], fun ((x, ()), ((b', i', h', ()), ())) => 0 ≤ i' ∧ (x, ()) ∈ list)
def con_spec_l01PickInt : XCon := conX sh_spec_l01PickInt rsh_spec_l01PickInt F_spec_l01PickInt
def sh_spec_l03Usual : List XSh := []
def rsh_spec_l03Usual : List RSh := [.one (.own T_impl_Field R_26 true)]
def F_spec_l03Usual : xsDen sh_spec_l03Usual → Prop × (rsDen rsh_spec_l03Usual × bkDen sh_spec_l03Usual → Prop) := fun (()) => (True, fun ((s, ()), ()) => s = Sp.usual)
def con_spec_l03Usual : XCon := conX sh_spec_l03Usual rsh_spec_l03Usual F_spec_l03Usual
def sh_spec_l03Name : List XSh := [.ptr [.sl T_uint8 R_5 false, .int .i64, .int .i64]]
def rsh_spec_l03Name : List RSh := [.one (.c .str)]
def F_spec_l03Name : xsDen sh_spec_l03Name → Prop × (rsDen rsh_spec_l03Name × bkDen sh_spec_l03Name → Prop) := fun ((b, i, h, ()), ()) => (0 ≤ i, fun ((x, ()), ((b', i', h', ()), ())) => 0 ≤ i' ∧ x.length ≤ 1)
def con_spec_l03Name : XCon := conX sh_spec_l03Name rsh_spec_l03Name F_spec_l03Name
def sh_spec_l03Any : List XSh := [.ptr [.sl T_uint8 R_5 false, .int .i64, .int .i64]]
def rsh_spec_l03Any : List RSh := [.one (.c (.sl T_impl_Field R_26 true))]
def F_spec_l03Any : xsDen sh_spec_l03Any → Prop × (rsDen rsh_spec_l03Any × bkDen sh_spec_l03Any → Prop) := fun ((b, i, h, ()), ()) => (0 ≤ i, fun ((s, ()), ((b', i', h', ()), ())) => 0 ≤ i' ∧ s.length ≤ 6)
def con_spec_l03Any : XCon := conX sh_spec_l03Any rsh_spec_l03Any F_spec_l03Any
def sh_spec_l01In : List PSh := [.v (.one (.int .i64)), .v (.one (.int .i64)), .v (.one (.int .i64))]
def rsh_spec_l01In : List VSh := [.one (.bool)]
def F_spec_l01In : psDen sh_spec_l01In → Prop × vsDen rsh_spec_l01In := fun (x, a, b, ()) => (True, (decide (a ≤ x) && decide (x ≤ b)), ())
def con_spec_l01In : Con := conR sh_spec_l01In rsh_spec_l01In F_spec_l01In
def sh_spec_l02Text : List PSh := [.v (.one (.str)), .v (.one (.int .i64))]
def rsh_spec_l02Text : List VSh := [.one (.bool)]
def F_spec_l02Text : psDen sh_spec_l02Text → Prop × vsDen rsh_spec_l02Text := fun (s, m, ()) => (True, (Sp.lower s && decide (1 ≤ (s.length : Int)) && decide ((s.length : Int) ≤ m)), ())
def con_spec_l02Text : Con := conR sh_spec_l02Text rsh_spec_l02Text F_spec_l02Text
def sh_spec_IsValidAttrName : List PSh := [.v (.one (.str))]
def rsh_spec_IsValidAttrName : List VSh := [.one (.bool)]
def F_spec_IsValidAttrName : psDen sh_spec_IsValidAttrName → Prop × vsDen rsh_spec_IsValidAttrName := fun (s, ()) => (True, Sp.okName s, ())
def con_spec_IsValidAttrName : Con := conR sh_spec_IsValidAttrName rsh_spec_IsValidAttrName F_spec_IsValidAttrName
def sh_impl_IsValidAttrName : List PSh := [.v (.one (.str))]
def rsh_impl_IsValidAttrName : List VSh := [.one (.bool)]
def F_impl_IsValidAttrName : psDen sh_impl_IsValidAttrName → Prop × vsDen rsh_impl_IsValidAttrName := fun (s, ()) => (True, Sp.okName s, ())
def con_impl_IsValidAttrName : Con := conR sh_impl_IsValidAttrName rsh_impl_IsValidAttrName F_impl_IsValidAttrName
def sh_spec_FieldKind : List PSh := [.v (.one (.sl T_impl_Field R_26 false)), .v (.one (.str))]
def rsh_spec_FieldKind : List VSh := [.one (.int .i64)]
def F_spec_FieldKind : psDen sh_spec_FieldKind → Prop × vsDen rsh_spec_FieldKind := fun (fs, s, ()) => (True, Sp.kindOf fs s, ())
def con_spec_FieldKind : Con := conR sh_spec_FieldKind rsh_spec_FieldKind F_spec_FieldKind
def sh_impl_FieldKind : List PSh := [.v (.one (.sl T_impl_Field R_26 false)), .v (.one (.str))]
def rsh_impl_FieldKind : List VSh := [.one (.int .i64)]
def F_impl_FieldKind : psDen sh_impl_FieldKind → Prop × vsDen rsh_impl_FieldKind := fun (fs, s, ()) => (True, Sp.kindOf fs s, ())
def con_impl_FieldKind : Con := conR sh_impl_FieldKind rsh_impl_FieldKind F_impl_FieldKind
def sh_spec_IsValidSchema : List PSh := [.v (.one (.sl T_impl_Field R_26 false))]
def rsh_spec_IsValidSchema : List VSh := [.one (.bool)]
def F_spec_IsValidSchema : psDen sh_spec_IsValidSchema → Prop × vsDen rsh_spec_IsValidSchema := fun (fs, ()) => (True, Sp.okSchema fs, ())
def con_spec_IsValidSchema : Con := conR sh_spec_IsValidSchema rsh_spec_IsValidSchema F_spec_IsValidSchema
def sh_impl_IsValidSchema : List PSh := [.v (.one (.sl T_impl_Field R_26 false))]
def rsh_impl_IsValidSchema : List VSh := [.one (.bool)]
def F_impl_IsValidSchema : psDen sh_impl_IsValidSchema → Prop × vsDen rsh_impl_IsValidSchema := fun (fs, ()) => (True, Sp.okSchema fs, ())
def con_impl_IsValidSchema : Con := conR sh_impl_IsValidSchema rsh_impl_IsValidSchema F_impl_IsValidSchema
def sh_laws_sameFields : List PSh := [.v (.one (.sl T_impl_Field R_26 false)), .v (.one (.sl T_impl_Field R_26 false))]
def rsh_laws_sameFields : List VSh := [.one (.bool)]
def F_laws_sameFields : psDen sh_laws_sameFields → Prop × vsDen rsh_laws_sameFields := fun (a, b, ()) => (True, decide (a = b), ())
def con_laws_sameFields : Con := conR sh_laws_sameFields rsh_laws_sameFields F_laws_sameFields
def sh_laws_big : List PSh := [.v (.one (.sl T_uint8 R_5 false))]
def rsh_laws_big : List VSh := [.one (.bool)]
def F_laws_big : psDen sh_laws_big → Prop × vsDen rsh_laws_big := fun (code, ()) => (True, decide (1048576 < (code.length : Int)), ())
def con_laws_big : Con := conR sh_laws_big rsh_laws_big F_laws_big
def sh_spec_AddField : List PSh := [.v (.one (.sl T_impl_Field R_26 false)), .v (.agg [.str, .int .i64])]
def rsh_spec_AddField : List VSh := [.one (.sl T_impl_Field R_26 true), .one (.bool)]
def F_spec_AddField : psDen sh_spec_AddField → Prop × vsDen rsh_spec_AddField := fun (s, (n, k, ()), ()) => (s.length ≤ 1000, (Sp.addField s (n, k, ())).1, (Sp.addField s (n, k, ())).2, ())
def con_spec_AddField : Con := conR sh_spec_AddField rsh_spec_AddField F_spec_AddField
def sh_spec_RemoveField : List PSh := [.v (.one (.sl T_impl_Field R_26 false)), .v (.one (.str))]
def rsh_spec_RemoveField : List VSh := [.one (.sl T_impl_Field R_26 true), .one (.bool)]
def F_spec_RemoveField : psDen sh_spec_RemoveField → Prop × vsDen rsh_spec_RemoveField := fun (s, n, ()) => (s.length ≤ 1000, (Sp.removeField s n).1, (Sp.removeField s n).2, ())
def con_spec_RemoveField : Con := conR sh_spec_RemoveField rsh_spec_RemoveField F_spec_RemoveField
def sh_impl_hasField_1 : List PSh := [.v (.agg [.str, .int .i64]), .kp [.str]]
def rsh_impl_hasField_1 : List VSh := [.one (.bool)]
def F_impl_hasField_1 : psDen sh_impl_hasField_1 → Prop × vsDen rsh_impl_hasField_1 := fun ((a, k, ()), name, ()) => (True, (a == name.1), ())
def con_impl_hasField_1 : Con := conR sh_impl_hasField_1 rsh_impl_hasField_1 F_impl_hasField_1
def sh_slices_IndexFunc_impl_Field__impl_hasField_1 : List PSh := [.v (.one (.sl T_impl_Field R_26 false)), .fn 103 [[.str]]]
def rsh_slices_IndexFunc_impl_Field__impl_hasField_1 : List VSh := [.one (.int .i64)]
def F_slices_IndexFunc_impl_Field__impl_hasField_1 : psDen sh_slices_IndexFunc_impl_Field__impl_hasField_1 → Prop × vsDen rsh_slices_IndexFunc_impl_Field__impl_hasField_1 := fun (l, ((name, ()), ()), ()) => (True, Sp.fieldPlace l name, ())
def con_slices_IndexFunc_impl_Field__impl_hasField_1 : Con := conR sh_slices_IndexFunc_impl_Field__impl_hasField_1 rsh_slices_IndexFunc_impl_Field__impl_hasField_1 F_slices_IndexFunc_impl_Field__impl_hasField_1
def sh_slices_ContainsFunc_impl_Field__impl_hasField_1 : List PSh := [.v (.one (.sl T_impl_Field R_26 false)), .fn 103 [[.str]]]
def rsh_slices_ContainsFunc_impl_Field__impl_hasField_1 : List VSh := [.one (.bool)]
def F_slices_ContainsFunc_impl_Field__impl_hasField_1 : psDen sh_slices_ContainsFunc_impl_Field__impl_hasField_1 → Prop × vsDen rsh_slices_ContainsFunc_impl_Field__impl_hasField_1 := fun (l, ((name, ()), ()), ()) => (True, !decide (Sp.fieldPlace l name < 0), ())
def con_slices_ContainsFunc_impl_Field__impl_hasField_1 : Con := conR sh_slices_ContainsFunc_impl_Field__impl_hasField_1 rsh_slices_ContainsFunc_impl_Field__impl_hasField_1 F_slices_ContainsFunc_impl_Field__impl_hasField_1
def sh_impl_hasField : List PSh := [.v (.one (.sl T_impl_Field R_26 false)), .v (.one (.str))]
def rsh_impl_hasField : List VSh := [.one (.bool)]
def F_impl_hasField : psDen sh_impl_hasField → Prop × vsDen rsh_impl_hasField := fun (l, name, ()) => (True, !decide (Sp.fieldPlace l name < 0), ())
def con_impl_hasField : Con := conR sh_impl_hasField rsh_impl_hasField F_impl_hasField
def sh_impl_AddField_1 : List PSh := [.v (.agg [.str, .int .i64]), .kp [.str, .int .i64]]
def rsh_impl_AddField_1 : List VSh := [.one (.bool)]
def F_impl_AddField_1 : psDen sh_impl_AddField_1 → Prop × vsDen rsh_impl_AddField_1 := fun ((a, k, ()), f, ()) => (True, Op.bytesLess f.1 a, ())
def con_impl_AddField_1 : Con := conR sh_impl_AddField_1 rsh_impl_AddField_1 F_impl_AddField_1
def sh_slices_IndexFunc_impl_Field__impl_AddField_1 : List PSh := [.v (.one (.sl T_impl_Field R_26 false)), .fn 64 [[.str, .int .i64]]]
def rsh_slices_IndexFunc_impl_Field__impl_AddField_1 : List VSh := [.one (.int .i64)]
def F_slices_IndexFunc_impl_Field__impl_AddField_1 : psDen sh_slices_IndexFunc_impl_Field__impl_AddField_1 → Prop × vsDen rsh_slices_IndexFunc_impl_Field__impl_AddField_1 := fun (l, ((n, k, ()), ()), ()) => (True, Sp.fieldAbove l n, ())
def con_slices_IndexFunc_impl_Field__impl_AddField_1 : Con := conR sh_slices_IndexFunc_impl_Field__impl_AddField_1 rsh_slices_IndexFunc_impl_Field__impl_AddField_1 F_slices_IndexFunc_impl_Field__impl_AddField_1
def sh_impl_RemoveField_1 : List PSh := [.v (.agg [.str, .int .i64]), .kp [.str]]
def rsh_impl_RemoveField_1 : List VSh := [.one (.bool)]
def F_impl_RemoveField_1 : psDen sh_impl_RemoveField_1 → Prop × vsDen rsh_impl_RemoveField_1 := fun ((a, k, ()), name, ()) => (True, (a == name.1), ())
def con_impl_RemoveField_1 : Con := conR sh_impl_RemoveField_1 rsh_impl_RemoveField_1 F_impl_RemoveField_1
def sh_slices_IndexFunc_impl_Field__impl_RemoveField_1 : List PSh := [.v (.one (.sl T_impl_Field R_26 false)), .fn 69 [[.str]]]
def rsh_slices_IndexFunc_impl_Field__impl_RemoveField_1 : List VSh := [.one (.int .i64)]
def F_slices_IndexFunc_impl_Field__impl_RemoveField_1 : psDen sh_slices_IndexFunc_impl_Field__impl_RemoveField_1 → Prop × vsDen rsh_slices_IndexFunc_impl_Field__impl_RemoveField_1 := fun (l, ((name, ()), ()), ()) => (True, Sp.fieldPlace l name, ())
def con_slices_IndexFunc_impl_Field__impl_RemoveField_1 : Con := conR sh_slices_IndexFunc_impl_Field__impl_RemoveField_1 rsh_slices_IndexFunc_impl_Field__impl_RemoveField_1 F_slices_IndexFunc_impl_Field__impl_RemoveField_1
def sh_slices_DeleteFunc_impl_Field__impl_RemoveField_1 : List XSh := [.own T_impl_Field R_26, .p (.fn 69 [[.str]])]
def rsh_slices_DeleteFunc_impl_Field__impl_RemoveField_1 : List RSh := [.one (.own T_impl_Field R_26 false)]
def F_slices_DeleteFunc_impl_Field__impl_RemoveField_1 : xsDen sh_slices_DeleteFunc_impl_Field__impl_RemoveField_1 → Prop × (rsDen rsh_slices_DeleteFunc_impl_Field__impl_RemoveField_1 × bkDen sh_slices_DeleteFunc_impl_Field__impl_RemoveField_1 → Prop) := fun (s, ((name, ()), ()), ()) => (s.length ≤ 1000, fun ((r, ()), ()) => r = s.filter (Sp.notField name))
def con_slices_DeleteFunc_impl_Field__impl_RemoveField_1 : XCon := conX sh_slices_DeleteFunc_impl_Field__impl_RemoveField_1 rsh_slices_DeleteFunc_impl_Field__impl_RemoveField_1 F_slices_DeleteFunc_impl_Field__impl_RemoveField_1
def sh_impl_RemoveField : List XSh := [.p (.v (.one (.sl T_impl_Field R_26 false))), .p (.v (.one (.str)))]
def rsh_impl_RemoveField : List RSh := [.one (.c (.sl T_impl_Field R_26 false)), .one (.c .bool)]
def F_impl_RemoveField : xsDen sh_impl_RemoveField → Prop × (rsDen rsh_impl_RemoveField × bkDen sh_impl_RemoveField → Prop) := fun (s, n, ()) => (s.length ≤ 1000, fun ((r, ok, ()), ()) => r = (Sp.removeField s n).1 ∧ ok = (Sp.removeField s n).2)
def con_impl_RemoveField : XCon := conX sh_impl_RemoveField rsh_impl_RemoveField F_impl_RemoveField
def sh_spec_DrawFieldKind : List XSh := [.p (.v (.one (.sl T_uint8 R_5 false)))]
def rsh_spec_DrawFieldKind : List RSh := [.one (.c (.sl T_impl_Field R_26 true)), .one (.c .str)]
def F_spec_DrawFieldKind : xsDen sh_spec_DrawFieldKind → Prop × (rsDen rsh_spec_DrawFieldKind × bkDen sh_spec_DrawFieldKind → Prop) := fun (code, ()) => (code.length ≤ 1048576, fun ((s, n, ()), ()) => s.length ≤ 6)
def con_spec_DrawFieldKind : XCon := conX sh_spec_DrawFieldKind rsh_spec_DrawFieldKind F_spec_DrawFieldKind
def sh_spec_DrawRemoveField : List XSh := [.p (.v (.one (.sl T_uint8 R_5 false)))]
def rsh_spec_DrawRemoveField : List RSh := [.one (.c (.sl T_impl_Field R_26 true)), .one (.c .str)]
def F_spec_DrawRemoveField : xsDen sh_spec_DrawRemoveField → Prop × (rsDen rsh_spec_DrawRemoveField × bkDen sh_spec_DrawRemoveField → Prop) := fun (code, ()) => (code.length ≤ 1048576, fun ((s, n, ()), ()) => s.length ≤ 6)
def con_spec_DrawRemoveField : XCon := conX sh_spec_DrawRemoveField rsh_spec_DrawRemoveField F_spec_DrawRemoveField
def sh_spec_DrawAddField : List XSh := [.p (.v (.one (.sl T_uint8 R_5 false)))]
def rsh_spec_DrawAddField : List RSh := [.one (.c (.sl T_impl_Field R_26 true)), .agg [.c .str, .c (.int .i64)]]
def F_spec_DrawAddField : xsDen sh_spec_DrawAddField → Prop × (rsDen rsh_spec_DrawAddField × bkDen sh_spec_DrawAddField → Prop) := fun (code, ()) => (code.length ≤ 1048576, fun ((s, (n, k, ()), ()), ()) => s.length ≤ 6)
def con_spec_DrawAddField : XCon := conX sh_spec_DrawAddField rsh_spec_DrawAddField F_spec_DrawAddField
def sh_slices_Clone_impl_Field__own : List XSh := [.p (.v (.one (.sl T_impl_Field R_26 false)))]
def rsh_slices_Clone_impl_Field__own : List RSh := [.one (.own T_impl_Field R_26 false)]
def F_slices_Clone_impl_Field__own : xsDen sh_slices_Clone_impl_Field__own → Prop × (rsDen rsh_slices_Clone_impl_Field__own × bkDen sh_slices_Clone_impl_Field__own → Prop) := fun (l, ()) => (l.length ≤ 1000, fun ((r, ()), ()) => r = l)
def con_slices_Clone_impl_Field__own : XCon := conX sh_slices_Clone_impl_Field__own rsh_slices_Clone_impl_Field__own F_slices_Clone_impl_Field__own
def sh_slices_Insert_impl_Field : List XSh := [.own T_impl_Field R_26, .p (.v (.one (.int .i64))), .own T_impl_Field R_26]
def rsh_slices_Insert_impl_Field : List RSh := [.one (.own T_impl_Field R_26 false)]
def F_slices_Insert_impl_Field : xsDen sh_slices_Insert_impl_Field → Prop × (rsDen rsh_slices_Insert_impl_Field × bkDen sh_slices_Insert_impl_Field → Prop) := fun (s, i, v, ()) => (0 ≤ i ∧ i ≤ s.length ∧ s.length ≤ 1000 ∧ v.length = 1, fun ((r, ()), ()) => r = s.take i.toNat ++ (v ++ s.drop i.toNat))
def con_slices_Insert_impl_Field : XCon := conX sh_slices_Insert_impl_Field rsh_slices_Insert_impl_Field F_slices_Insert_impl_Field
def sh_impl_AddField : List XSh := [.p (.v (.one (.sl T_impl_Field R_26 false))), .p (.v (.agg [.str, .int .i64]))]
def rsh_impl_AddField : List RSh := [.one (.c (.sl T_impl_Field R_26 false)), .one (.c .bool)]
def F_impl_AddField : xsDen sh_impl_AddField → Prop × (rsDen rsh_impl_AddField × bkDen sh_impl_AddField → Prop) := fun (s, (n, k, ()), ()) => (s.length ≤ 1000, fun ((r, ok, ()), ()) => r = (Sp.addField s (n, k, ())).1 ∧ ok = (Sp.addField s (n, k, ())).2)
def con_impl_AddField : XCon := conX sh_impl_AddField rsh_impl_AddField F_impl_AddField
def sh_laws_FnSchemaFields : List PSh := [.v (.one (.sl T_uint8 R_5 false))]
def rsh_laws_FnSchemaFields : List VSh := [.one (.bool)]
def F_laws_FnSchemaFields : psDen sh_laws_FnSchemaFields → Prop × vsDen rsh_laws_FnSchemaFields := fun (code, ()) => (True, true, ())
def con_laws_FnSchemaFields : Con := conR sh_laws_FnSchemaFields rsh_laws_FnSchemaFields F_laws_FnSchemaFields
def Γ_spec_l01New : CEnv := findC []
def Γ_spec_l01Byte : CEnv := findC []
def Γ_spec_l01Below : CEnv := findC [(n_spec_l01Byte, .eff (xmodes sh_spec_l01Byte) con_spec_l01Byte)]
def Γ_spec_l01Pick : CEnv := findC [(n_spec_l01Below, .eff (xmodes sh_spec_l01Below) con_spec_l01Below)]
def Γ_spec_l01PickInt : CEnv := findC [(n_spec_l01Below, .eff (xmodes sh_spec_l01Below) con_spec_l01Below)]
def Γ_spec_l03Usual : CEnv := findC []
def Γ_spec_l03Name : CEnv := findC [(n_spec_l01Pick, .eff (xmodes sh_spec_l01Pick) con_spec_l01Pick)]
def Γ_spec_l03Any : CEnv := findC [(n_spec_l01Pick, .eff (xmodes sh_spec_l01Pick) con_spec_l01Pick), (n_spec_l03Name, .eff (xmodes sh_spec_l03Name) con_spec_l03Name), (n_spec_l01Below, .eff (xmodes sh_spec_l01Below) con_spec_l01Below), (n_spec_l03Usual, .eff (xmodes sh_spec_l03Usual) con_spec_l03Usual)]
def Γ_spec_l01In : CEnv := findC []
def Γ_spec_l02Text : CEnv := findC [(n_spec_l01In, .pure con_spec_l01In)]
def Γ_spec_IsValidAttrName : CEnv := findC [(n_spec_l02Text, .pure con_spec_l02Text)]
def Γ_impl_IsValidAttrName : CEnv := findC []
def Γ_spec_FieldKind : CEnv := findC []
def Γ_impl_FieldKind : CEnv := findC []
def Γ_spec_IsValidSchema : CEnv := findC [(n_spec_l01In, .pure con_spec_l01In), (n_spec_IsValidAttrName, .pure con_spec_IsValidAttrName)]
def Γ_impl_IsValidSchema : CEnv := findC [(n_impl_IsValidAttrName, .pure con_impl_IsValidAttrName)]
def Γ_laws_sameFields : CEnv := findC []
def Γ_laws_big : CEnv := findC []
def Γ_spec_AddField : CEnv := findC [(n_spec_IsValidSchema, .pure con_spec_IsValidSchema)]
def Γ_spec_RemoveField : CEnv := findC [(n_spec_FieldKind, .pure con_spec_FieldKind), (n_spec_IsValidSchema, .pure con_spec_IsValidSchema)]
def Γ_impl_hasField_1 : CEnv := findC []
def Γ_slices_IndexFunc_impl_Field__impl_hasField_1 : CEnv := findC [(n_impl_hasField_1, .pure con_impl_hasField_1)]
def Γ_slices_ContainsFunc_impl_Field__impl_hasField_1 : CEnv := findC [(n_slices_IndexFunc_impl_Field__impl_hasField_1, .pure con_slices_IndexFunc_impl_Field__impl_hasField_1), (n_impl_hasField_1, .pure con_impl_hasField_1)]
def Γ_impl_hasField : CEnv := findC [(n_slices_ContainsFunc_impl_Field__impl_hasField_1, .pure con_slices_ContainsFunc_impl_Field__impl_hasField_1), (n_impl_hasField_1, .pure con_impl_hasField_1)]
def Γ_impl_AddField_1 : CEnv := findC []
def Γ_slices_IndexFunc_impl_Field__impl_AddField_1 : CEnv := findC [(n_impl_AddField_1, .pure con_impl_AddField_1)]
def Γ_impl_RemoveField_1 : CEnv := findC []
def Γ_slices_IndexFunc_impl_Field__impl_RemoveField_1 : CEnv := findC [(n_impl_RemoveField_1, .pure con_impl_RemoveField_1)]
def Γ_slices_DeleteFunc_impl_Field__impl_RemoveField_1 : CEnv := findC [(n_slices_IndexFunc_impl_Field__impl_RemoveField_1, .pure con_slices_IndexFunc_impl_Field__impl_RemoveField_1), (n_impl_RemoveField_1, .pure con_impl_RemoveField_1)]
def Γ_impl_RemoveField : CEnv := findC [(n_slices_DeleteFunc_impl_Field__impl_RemoveField_1, .eff (xmodes sh_slices_DeleteFunc_impl_Field__impl_RemoveField_1) con_slices_DeleteFunc_impl_Field__impl_RemoveField_1), (n_impl_RemoveField_1, .pure con_impl_RemoveField_1), (n_slices_Clone_impl_Field__own, .eff (xmodes sh_slices_Clone_impl_Field__own) con_slices_Clone_impl_Field__own), (n_impl_hasField, .pure con_impl_hasField), (n_impl_IsValidSchema, .pure con_impl_IsValidSchema)]
def Γ_spec_DrawFieldKind : CEnv := findC [(n_spec_l03Name, .eff (xmodes sh_spec_l03Name) con_spec_l03Name), (n_spec_l03Any, .eff (xmodes sh_spec_l03Any) con_spec_l03Any), (n_spec_l01New, .eff (xmodes sh_spec_l01New) con_spec_l01New)]
def Γ_spec_DrawRemoveField : CEnv := findC [(n_spec_DrawFieldKind, .eff (xmodes sh_spec_DrawFieldKind) con_spec_DrawFieldKind)]
def Γ_spec_DrawAddField : CEnv := findC [(n_spec_l01PickInt, .eff (xmodes sh_spec_l01PickInt) con_spec_l01PickInt), (n_spec_l01Pick, .eff (xmodes sh_spec_l01Pick) con_spec_l01Pick), (n_spec_l03Any, .eff (xmodes sh_spec_l03Any) con_spec_l03Any), (n_spec_l01New, .eff (xmodes sh_spec_l01New) con_spec_l01New)]
def Γ_slices_Clone_impl_Field__own : CEnv := findC []
def Γ_slices_Insert_impl_Field : CEnv := findC []
def Γ_impl_AddField : CEnv := findC [(n_slices_Insert_impl_Field, .eff (xmodes sh_slices_Insert_impl_Field) con_slices_Insert_impl_Field), (n_slices_IndexFunc_impl_Field__impl_AddField_1, .pure con_slices_IndexFunc_impl_Field__impl_AddField_1), (n_impl_AddField_1, .pure con_impl_AddField_1), (n_impl_hasField, .pure con_impl_hasField), (n_impl_IsValidSchema, .pure con_impl_IsValidSchema), (n_slices_Clone_impl_Field__own, .eff (xmodes sh_slices_Clone_impl_Field__own) con_slices_Clone_impl_Field__own)]
def Γ_laws_FnSchemaFields : CEnv := findC [(n_impl_IsValidSchema, .pure con_impl_IsValidSchema), (n_impl_FieldKind, .pure con_impl_FieldKind), (n_laws_sameFields, .pure con_laws_sameFields), (n_spec_RemoveField, .pure con_spec_RemoveField), (n_impl_RemoveField, .eff (xmodes sh_impl_RemoveField) con_impl_RemoveField), (n_spec_DrawRemoveField, .eff (xmodes sh_spec_DrawRemoveField) con_spec_DrawRemoveField), (n_spec_AddField, .pure con_spec_AddField), (n_impl_AddField, .eff (xmodes sh_impl_AddField) con_impl_AddField), (n_spec_DrawAddField, .eff (xmodes sh_spec_DrawAddField) con_spec_DrawAddField), (n_laws_big, .pure con_laws_big)]
end Go.Proofs.Try
