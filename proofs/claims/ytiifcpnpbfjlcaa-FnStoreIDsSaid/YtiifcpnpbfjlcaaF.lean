import Derived.Test.YtiifcpnpbfjlcaaN
import Derived.Test.YtiifcpnpbfjlcaaSp
namespace Go.Proofs.Try
open Go Go.Fw
def sh_spec_l01New : List XSh := [.p (.v (.one (.sl T_uint8 R_5 false)))]
def psh_spec_l01New : List CSh := [.sl T_uint8 R_5 false, .int .i64, .int .i64]
def F_spec_l01New : xsDen sh_spec_l01New → Prop × (csDen psh_spec_l01New → Prop) := fun (code, ()) => (code.length ≤ 1048576, fun (b, i, h, ()) => i = 0)
def con_spec_l01New : XCon := conP sh_spec_l01New psh_spec_l01New F_spec_l01New
def sh_spec_l01Byte : List XSh := [.ptr [.sl T_uint8 R_5 false, .int .i64, .int .i64]]
def rsh_spec_l01Byte : List RSh := [.one (.c (.int .i64))]
def F_spec_l01Byte : xsDen sh_spec_l01Byte → Prop × (rsDen rsh_spec_l01Byte × bkDen sh_spec_l01Byte → Prop) := fun ((b, i, h, ()), ()) => (0 ≤ i, fun ((x, ()), ((b', i', h', ()), ())) => 0 ≤ i' ∧ 0 ≤ x ∧ x ≤ 255)
def con_spec_l01Byte : XCon := conX sh_spec_l01Byte rsh_spec_l01Byte F_spec_l01Byte
def sh_spec_l01Below : List XSh := [.ptr [.sl T_uint8 R_5 false, .int .i64, .int .i64], .p (.v (.one (.int .i64)))]
def rsh_spec_l01Below : List RSh := [.one (.c (.int .i64))]
def F_spec_l01Below : xsDen sh_spec_l01Below → Prop × (rsDen rsh_spec_l01Below × bkDen sh_spec_l01Below → Prop) := fun ((b, i, h, ()), n, ()) => (0 ≤ i, fun ((x, ()), ((b', i', h', ()), ())) => 0 ≤ i' ∧ 0 ≤ x ∧ (0 < n → x < n) ∧ (n ≤ 0 → x = 0))
def con_spec_l01Below : XCon := conX sh_spec_l01Below rsh_spec_l01Below F_spec_l01Below
def sh_spec_l01Once : List XSh := [.ptr [.sl T_uint8 R_5 false, .int .i64, .int .i64], .p (.v (.one (.int .i64)))]
def rsh_spec_l01Once : List RSh := [.one (.c .bool)]
def F_spec_l01Once : xsDen sh_spec_l01Once → Prop × (rsDen rsh_spec_l01Once × bkDen sh_spec_l01Once → Prop) := fun ((b, i, h, ()), n, ()) => (0 ≤ i, fun ((x, ()), ((b', i', h', ()), ())) => 0 ≤ i')
def con_spec_l01Once : XCon := conX sh_spec_l01Once rsh_spec_l01Once F_spec_l01Once
def sh_spec_l01Pick : List XSh := [.ptr [.sl T_uint8 R_5 false, .int .i64, .int .i64], .p (.v (.one (.sl T_string R_9 false)))]
def rsh_spec_l01Pick : List RSh := [.one (.c .str)]
def F_spec_l01Pick : xsDen sh_spec_l01Pick → Prop × (rsDen rsh_spec_l01Pick × bkDen sh_spec_l01Pick → Prop) := fun ((b, i, h, ()), list, ()) => (0 ≤ i ∧ list ≠ [], fun ((x, ()), ((b', i', h', ()), ())) => 0 ≤ i' ∧ (x, ()) ∈ list)
def con_spec_l01Pick : XCon := conX sh_spec_l01Pick rsh_spec_l01Pick F_spec_l01Pick
def sh_spec_l01PickInt : List XSh := [.ptr [.sl T_uint8 R_5 false, .int .i64, .int .i64], .p (.v (.one (.sl T_int R_3 false)))]
def rsh_spec_l01PickInt : List RSh := [.one (.c (.int .i64))]
def F_spec_l01PickInt : xsDen sh_spec_l01PickInt → Prop × (rsDen rsh_spec_l01PickInt × bkDen sh_spec_l01PickInt → Prop) := fun ((b, i, h, ()), list, ()) => (0 ≤ i ∧ list ≠ [], fun ((x, ()), ((b', i', h', ()), ())) => 0 ≤ i' ∧ (x, ()) ∈ list)
def con_spec_l01PickInt : XCon := conX sh_spec_l01PickInt rsh_spec_l01PickInt F_spec_l01PickInt
def sh_spec_l03Usual : List XSh := []
def rsh_spec_l03Usual : List RSh := [.one (.own T_impl_Field R_26 true)]
def F_spec_l03Usual : xsDen sh_spec_l03Usual → Prop × (rsDen rsh_spec_l03Usual × bkDen sh_spec_l03Usual → Prop) := fun (()) => (True, fun ((s, ()), ()) => s = Sp.usual)
def con_spec_l03Usual : XCon := conX sh_spec_l03Usual rsh_spec_l03Usual F_spec_l03Usual
def sh_spec_l03Name : List XSh := [.ptr [.sl T_uint8 R_5 false, .int .i64, .int .i64]]
def rsh_spec_l03Name : List RSh := [.one (.c .str)]
def F_spec_l03Name : xsDen sh_spec_l03Name → Prop × (rsDen rsh_spec_l03Name × bkDen sh_spec_l03Name → Prop) := fun ((b, i, h, ()), ()) => (0 ≤ i, fun ((x, ()), ((b', i', h', ()), ())) => 0 ≤ i' ∧ x.length ≤ 1)
def con_spec_l03Name : XCon := conX sh_spec_l03Name rsh_spec_l03Name F_spec_l03Name
def sh_spec_l03Any : List XSh := [.ptr [.sl T_uint8 R_5 false, .int .i64, .int .i64]]
def rsh_spec_l03Any : List RSh := [.one (.c (.sl T_impl_Field R_26 true))]
def F_spec_l03Any : xsDen sh_spec_l03Any → Prop × (rsDen rsh_spec_l03Any × bkDen sh_spec_l03Any → Prop) := fun ((b, i, h, ()), ()) => (0 ≤ i, fun ((s, ()), ((b', i', h', ()), ())) => 0 ≤ i' ∧ s.length ≤ 6)
def con_spec_l03Any : XCon := conX sh_spec_l03Any rsh_spec_l03Any F_spec_l03Any
def sh_spec_l02Value : List XSh := [.ptr [.sl T_uint8 R_5 false, .int .i64, .int .i64]]
def rsh_spec_l02Value : List RSh := [.agg [.c (.int .i64), .c (.int .i64), .c .str]]
def F_spec_l02Value : xsDen sh_spec_l02Value → Prop × (rsDen rsh_spec_l02Value × bkDen sh_spec_l02Value → Prop) := fun ((b, i, h, ()), ()) => (0 ≤ i, fun (((k, n, s, ()), ()), ((b', i', h', ()), ())) => 0 ≤ i' ∧ s.length ≤ 10)
def con_spec_l02Value : XCon := conX sh_spec_l02Value rsh_spec_l02Value F_spec_l02Value
def sh_spec_l02Any : List XSh := [.ptr [.sl T_uint8 R_5 false, .int .i64, .int .i64]]
def rsh_spec_l02Any : List RSh := [.agg [.c (.int .i64), .c (.int .i64), .c .str]]
def F_spec_l02Any : xsDen sh_spec_l02Any → Prop × (rsDen rsh_spec_l02Any × bkDen sh_spec_l02Any → Prop) := fun ((b, i, h, ()), ()) => (0 ≤ i, fun (((k, n, s, ()), ()), ((b', i', h', ()), ())) => 0 ≤ i' ∧ s.length ≤ 10)
def con_spec_l02Any : XCon := conX sh_spec_l02Any rsh_spec_l02Any F_spec_l02Any
def sh_spec_IntValue : List PSh := [.v (.one (.int .i64))]
def rsh_spec_IntValue : List VSh := [.agg [.int .i64, .int .i64, .str]]
def F_spec_IntValue : psDen sh_spec_IntValue → Prop × vsDen rsh_spec_IntValue := fun (n, ()) => (True, (1, n, [], ()), ())
def con_spec_IntValue : Con := conR sh_spec_IntValue rsh_spec_IntValue F_spec_IntValue
def sh_spec_StringValue : List PSh := [.v (.one (.str))]
def rsh_spec_StringValue : List VSh := [.agg [.int .i64, .int .i64, .str]]
def F_spec_StringValue : psDen sh_spec_StringValue → Prop × vsDen rsh_spec_StringValue := fun (w, ()) => (True, (2, 0, w, ()), ())
def con_spec_StringValue : Con := conR sh_spec_StringValue rsh_spec_StringValue F_spec_StringValue
def sh_spec_DrawNewStore : List XSh := [.p (.v (.one (.sl T_uint8 R_5 false)))]
def rsh_spec_DrawNewStore : List RSh := [.one (.c (.sl T_impl_Field R_26 true))]
def F_spec_DrawNewStore : xsDen sh_spec_DrawNewStore → Prop × (rsDen rsh_spec_DrawNewStore × bkDen sh_spec_DrawNewStore → Prop) := fun (code, ()) => (code.length ≤ 1048576, fun ((s, ()), ()) => s.length ≤ 6)
def con_spec_DrawNewStore : XCon := conX sh_spec_DrawNewStore rsh_spec_DrawNewStore F_spec_DrawNewStore
def sh_spec_l01In : List PSh := [.v (.one (.int .i64)), .v (.one (.int .i64)), .v (.one (.int .i64))]
def rsh_spec_l01In : List VSh := [.one (.bool)]
def F_spec_l01In : psDen sh_spec_l01In → Prop × vsDen rsh_spec_l01In := fun (x, a, b, ()) => (True, (decide (a ≤ x) && decide (x ≤ b)), ())
def con_spec_l01In : Con := conR sh_spec_l01In rsh_spec_l01In F_spec_l01In
def sh_impl_within : List PSh := [.v (.one (.int .i64)), .v (.one (.int .i64)), .v (.one (.int .i64))]
def rsh_impl_within : List VSh := [.one (.bool)]
def F_impl_within : psDen sh_impl_within → Prop × vsDen rsh_impl_within := fun (x, a, b, ()) => (True, (decide (a ≤ x) && decide (x ≤ b)), ())
def con_impl_within : Con := conR sh_impl_within rsh_impl_within F_impl_within
def sh_spec_l02Text : List PSh := [.v (.one (.str)), .v (.one (.int .i64))]
def rsh_spec_l02Text : List VSh := [.one (.bool)]
def F_spec_l02Text : psDen sh_spec_l02Text → Prop × vsDen rsh_spec_l02Text := fun (s, m, ()) => (True, (Sp.lower s && decide (1 ≤ (s.length : Int)) && decide ((s.length : Int) ≤ m)), ())
def con_spec_l02Text : Con := conR sh_spec_l02Text rsh_spec_l02Text F_spec_l02Text
def sh_spec_IsValidString : List PSh := [.v (.one (.str))]
def rsh_spec_IsValidString : List VSh := [.one (.bool)]
def F_spec_IsValidString : psDen sh_spec_IsValidString → Prop × vsDen rsh_spec_IsValidString := fun (s, ()) => (True, Sp.validStr s, ())
def con_spec_IsValidString : Con := conR sh_spec_IsValidString rsh_spec_IsValidString F_spec_IsValidString
def sh_impl_IsValidString : List PSh := [.v (.one (.str))]
def rsh_impl_IsValidString : List VSh := [.one (.bool)]
def F_impl_IsValidString : psDen sh_impl_IsValidString → Prop × vsDen rsh_impl_IsValidString := fun (s, ()) => (True, Sp.validStr s, ())
def con_impl_IsValidString : Con := conR sh_impl_IsValidString rsh_impl_IsValidString F_impl_IsValidString
def sh_spec_IsValidValue : List PSh := [.v (.agg [.int .i64, .int .i64, .str])]
def rsh_spec_IsValidValue : List VSh := [.one (.bool)]
def F_spec_IsValidValue : psDen sh_spec_IsValidValue → Prop × vsDen rsh_spec_IsValidValue := fun ((k, n, s, ()), ()) => (True, Sp.okValue k n s, ())
def con_spec_IsValidValue : Con := conR sh_spec_IsValidValue rsh_spec_IsValidValue F_spec_IsValidValue
def sh_impl_IsValidValue : List PSh := [.v (.agg [.int .i64, .int .i64, .str])]
def rsh_impl_IsValidValue : List VSh := [.one (.bool)]
def F_impl_IsValidValue : psDen sh_impl_IsValidValue → Prop × vsDen rsh_impl_IsValidValue := fun ((k, n, s, ()), ()) => (True, Sp.okValue k n s, ())
def con_impl_IsValidValue : Con := conR sh_impl_IsValidValue rsh_impl_IsValidValue F_impl_IsValidValue
def sh_spec_IsValidAttrName : List PSh := [.v (.one (.str))]
def rsh_spec_IsValidAttrName : List VSh := [.one (.bool)]
def F_spec_IsValidAttrName : psDen sh_spec_IsValidAttrName → Prop × vsDen rsh_spec_IsValidAttrName := fun (s, ()) => (True, Sp.okName s, ())
def con_spec_IsValidAttrName : Con := conR sh_spec_IsValidAttrName rsh_spec_IsValidAttrName F_spec_IsValidAttrName
def sh_impl_IsValidAttrName : List PSh := [.v (.one (.str))]
def rsh_impl_IsValidAttrName : List VSh := [.one (.bool)]
def F_impl_IsValidAttrName : psDen sh_impl_IsValidAttrName → Prop × vsDen rsh_impl_IsValidAttrName := fun (s, ()) => (True, Sp.okName s, ())
def con_impl_IsValidAttrName : Con := conR sh_impl_IsValidAttrName rsh_impl_IsValidAttrName F_impl_IsValidAttrName
def sh_spec_FieldKind : List PSh := [.v (.one (.sl T_impl_Field R_26 false)), .v (.one (.str))]
def rsh_spec_FieldKind : List VSh := [.one (.int .i64)]
def F_spec_FieldKind : psDen sh_spec_FieldKind → Prop × vsDen rsh_spec_FieldKind := fun (fs, s, ()) => (True, Sp.kindOf fs s, ())
def con_spec_FieldKind : Con := conR sh_spec_FieldKind rsh_spec_FieldKind F_spec_FieldKind
def sh_impl_FieldKind : List PSh := [.v (.one (.sl T_impl_Field R_26 false)), .v (.one (.str))]
def rsh_impl_FieldKind : List VSh := [.one (.int .i64)]
def F_impl_FieldKind : psDen sh_impl_FieldKind → Prop × vsDen rsh_impl_FieldKind := fun (fs, s, ()) => (True, Sp.kindOf fs s, ())
def con_impl_FieldKind : Con := conR sh_impl_FieldKind rsh_impl_FieldKind F_impl_FieldKind
def sh_spec_IsValidSchema : List PSh := [.v (.one (.sl T_impl_Field R_26 false))]
def rsh_spec_IsValidSchema : List VSh := [.one (.bool)]
def F_spec_IsValidSchema : psDen sh_spec_IsValidSchema → Prop × vsDen rsh_spec_IsValidSchema := fun (fs, ()) => (True, Sp.okSchema fs, ())
def con_spec_IsValidSchema : Con := conR sh_spec_IsValidSchema rsh_spec_IsValidSchema F_spec_IsValidSchema
def sh_impl_IsValidSchema : List PSh := [.v (.one (.sl T_impl_Field R_26 false))]
def rsh_impl_IsValidSchema : List VSh := [.one (.bool)]
def F_impl_IsValidSchema : psDen sh_impl_IsValidSchema → Prop × vsDen rsh_impl_IsValidSchema := fun (fs, ()) => (True, Sp.okSchema fs, ())
def con_impl_IsValidSchema : Con := conR sh_impl_IsValidSchema rsh_impl_IsValidSchema F_impl_IsValidSchema
def sh_spec_MatchesSchema : List PSh := [.v (.one (.sl T_impl_Field R_26 false)), .v (.one (.str)), .v (.agg [.int .i64, .int .i64, .str])]
def rsh_spec_MatchesSchema : List VSh := [.one (.bool)]
def F_spec_MatchesSchema : psDen sh_spec_MatchesSchema → Prop × vsDen rsh_spec_MatchesSchema := fun (fs, s, (k, n, w, ()), ()) => (True, Sp.matchesS fs s k n w, ())
def con_spec_MatchesSchema : Con := conR sh_spec_MatchesSchema rsh_spec_MatchesSchema F_spec_MatchesSchema
def sh_impl_MatchesSchema : List PSh := [.v (.one (.sl T_impl_Field R_26 false)), .v (.one (.str)), .v (.agg [.int .i64, .int .i64, .str])]
def rsh_impl_MatchesSchema : List VSh := [.one (.bool)]
def F_impl_MatchesSchema : psDen sh_impl_MatchesSchema → Prop × vsDen rsh_impl_MatchesSchema := fun (fs, s, (k, n, w, ()), ()) => (True, Sp.matchesS fs s k n w, ())
def con_impl_MatchesSchema : Con := conR sh_impl_MatchesSchema rsh_impl_MatchesSchema F_impl_MatchesSchema
def sh_spec_IsValidFile : List PSh := [.v (.one (.sl T_impl_Field R_26 false)), .v (.agg [.int .i64, .int .i64, .bool, .int .i64, .sl T_impl_Attr R_116 false])]
def rsh_spec_IsValidFile : List VSh := [.one (.bool)]
def F_spec_IsValidFile : psDen sh_spec_IsValidFile → Prop × vsDen rsh_spec_IsValidFile := fun (fs, f, ()) => (True, Sp.okFile fs f, ())
def con_spec_IsValidFile : Con := conR sh_spec_IsValidFile rsh_spec_IsValidFile F_spec_IsValidFile
def sh_impl_IsValidFile : List PSh := [.v (.one (.sl T_impl_Field R_26 false)), .v (.agg [.int .i64, .int .i64, .bool, .int .i64, .sl T_impl_Attr R_116 false])]
def rsh_impl_IsValidFile : List VSh := [.one (.bool)]
def F_impl_IsValidFile : psDen sh_impl_IsValidFile → Prop × vsDen rsh_impl_IsValidFile := fun (fs, f, ()) => (True, Sp.okFile fs f, ())
def con_impl_IsValidFile : Con := conR sh_impl_IsValidFile rsh_impl_IsValidFile F_impl_IsValidFile
def sh_spec_IsValidStore : List PSh := [.v (.agg [.sl T_impl_Field R_26 false, .sl T_impl_File R_39 false, .int .i64])]
def rsh_spec_IsValidStore : List VSh := [.one (.bool)]
def F_spec_IsValidStore : psDen sh_spec_IsValidStore → Prop × vsDen rsh_spec_IsValidStore := fun (s, ()) => (True, Sp.okStore s, ())
def con_spec_IsValidStore : Con := conR sh_spec_IsValidStore rsh_spec_IsValidStore F_spec_IsValidStore
def sh_impl_IsValidStore : List PSh := [.v (.agg [.sl T_impl_Field R_26 false, .sl T_impl_File R_39 false, .int .i64])]
def rsh_impl_IsValidStore : List VSh := [.one (.bool)]
def F_impl_IsValidStore : psDen sh_impl_IsValidStore → Prop × vsDen rsh_impl_IsValidStore := fun (s, ()) => (True, Sp.okStore s, ())
def con_impl_IsValidStore : Con := conR sh_impl_IsValidStore rsh_impl_IsValidStore F_impl_IsValidStore
def sh_laws_sameFields : List PSh := [.v (.one (.sl T_impl_Field R_26 false)), .v (.one (.sl T_impl_Field R_26 false))]
def rsh_laws_sameFields : List VSh := [.one (.bool)]
def F_laws_sameFields : psDen sh_laws_sameFields → Prop × vsDen rsh_laws_sameFields := fun (a, b, ()) => (True, decide (a = b), ())
def con_laws_sameFields : Con := conR sh_laws_sameFields rsh_laws_sameFields F_laws_sameFields
def sh_laws_sameAttrs : List PSh := [.v (.one (.sl T_impl_Attr R_116 false)), .v (.one (.sl T_impl_Attr R_116 false))]
def rsh_laws_sameAttrs : List VSh := [.one (.bool)]
def F_laws_sameAttrs : psDen sh_laws_sameAttrs → Prop × vsDen rsh_laws_sameAttrs := fun (a, b, ()) => (True, decide (a = b), ())
def con_laws_sameAttrs : Con := conR sh_laws_sameAttrs rsh_laws_sameAttrs F_laws_sameAttrs
def sh_laws_sameFile : List PSh := [.v (.agg [.int .i64, .int .i64, .bool, .int .i64, .sl T_impl_Attr R_116 false]), .v (.agg [.int .i64, .int .i64, .bool, .int .i64, .sl T_impl_Attr R_116 false])]
def rsh_laws_sameFile : List VSh := [.one (.bool)]
def F_laws_sameFile : psDen sh_laws_sameFile → Prop × vsDen rsh_laws_sameFile := fun (a, b, ()) => (True, decide (a = b), ())
def con_laws_sameFile : Con := conR sh_laws_sameFile rsh_laws_sameFile F_laws_sameFile
def sh_laws_sameFiles : List PSh := [.v (.one (.sl T_impl_File R_39 false)), .v (.one (.sl T_impl_File R_39 false))]
def rsh_laws_sameFiles : List VSh := [.one (.bool)]
def F_laws_sameFiles : psDen sh_laws_sameFiles → Prop × vsDen rsh_laws_sameFiles := fun (a, b, ()) => (True, decide (a = b), ())
def con_laws_sameFiles : Con := conR sh_laws_sameFiles rsh_laws_sameFiles F_laws_sameFiles
def sh_laws_sameStore : List PSh := [.v (.agg [.sl T_impl_Field R_26 false, .sl T_impl_File R_39 false, .int .i64]), .v (.agg [.sl T_impl_Field R_26 false, .sl T_impl_File R_39 false, .int .i64])]
def rsh_laws_sameStore : List VSh := [.one (.bool)]
def F_laws_sameStore : psDen sh_laws_sameStore → Prop × vsDen rsh_laws_sameStore := fun (a, b, ()) => (True, decide (a = b), ())
def con_laws_sameStore : Con := conR sh_laws_sameStore rsh_laws_sameStore F_laws_sameStore
def sh_laws_sameInts : List PSh := [.v (.one (.sl T_int R_3 false)), .v (.one (.sl T_int R_3 false))]
def rsh_laws_sameInts : List VSh := [.one (.bool)]
def F_laws_sameInts : psDen sh_laws_sameInts → Prop × vsDen rsh_laws_sameInts := fun (a, b, ()) => (True, decide (a = b), ())
def con_laws_sameInts : Con := conR sh_laws_sameInts rsh_laws_sameInts F_laws_sameInts
def sh_spec_l04Copy : List PSh := [.v (.agg [.int .i64, .int .i64, .bool, .int .i64, .sl T_impl_Attr R_116 false])]
def rsh_spec_l04Copy : List VSh := [.agg [.int .i64, .int .i64, .bool, .int .i64, .sl T_impl_Attr R_116 true]]
def F_spec_l04Copy : psDen sh_spec_l04Copy → Prop × vsDen rsh_spec_l04Copy := fun (f, ()) => (Sp.smallF f, f, ())
def con_spec_l04Copy : Con := conR sh_spec_l04Copy rsh_spec_l04Copy F_spec_l04Copy
def sh_impl_copyFile : List PSh := [.v (.agg [.int .i64, .int .i64, .bool, .int .i64, .sl T_impl_Attr R_116 false])]
def rsh_impl_copyFile : List VSh := [.agg [.int .i64, .int .i64, .bool, .int .i64, .sl T_impl_Attr R_116 false]]
def F_impl_copyFile : psDen sh_impl_copyFile → Prop × vsDen rsh_impl_copyFile := fun (f, ()) => (Sp.smallF f, f, ())
def con_impl_copyFile : Con := conR sh_impl_copyFile rsh_impl_copyFile F_impl_copyFile
def sh_impl_isUser : List PSh := [.v (.one (.int .i64))]
def rsh_impl_isUser : List VSh := [.one (.bool)]
def F_impl_isUser : psDen sh_impl_isUser → Prop × vsDen rsh_impl_isUser := fun (u, ()) => (True, (decide (0 ≤ u) && decide (u ≤ 2)), ())
def con_impl_isUser : Con := conR sh_impl_isUser rsh_impl_isUser F_impl_isUser
def sh_spec_CanRead : List PSh := [.v (.agg [.int .i64, .int .i64, .bool, .int .i64, .sl T_impl_Attr R_116 false]), .v (.one (.int .i64))]
def rsh_spec_CanRead : List VSh := [.one (.bool)]
def F_spec_CanRead : psDen sh_spec_CanRead → Prop × vsDen rsh_spec_CanRead := fun (f, u, ()) => (True, Sp.canRead f u, ())
def con_spec_CanRead : Con := conR sh_spec_CanRead rsh_spec_CanRead F_spec_CanRead
def sh_impl_CanRead : List PSh := [.v (.agg [.int .i64, .int .i64, .bool, .int .i64, .sl T_impl_Attr R_116 false]), .v (.one (.int .i64))]
def rsh_impl_CanRead : List VSh := [.one (.bool)]
def F_impl_CanRead : psDen sh_impl_CanRead → Prop × vsDen rsh_impl_CanRead := fun (f, u, ()) => (True, Sp.canRead f u, ())
def con_impl_CanRead : Con := conR sh_impl_CanRead rsh_impl_CanRead F_impl_CanRead
def sh_spec_CanWrite : List PSh := [.v (.agg [.int .i64, .int .i64, .bool, .int .i64, .sl T_impl_Attr R_116 false]), .v (.one (.int .i64))]
def rsh_spec_CanWrite : List VSh := [.one (.bool)]
def F_spec_CanWrite : psDen sh_spec_CanWrite → Prop × vsDen rsh_spec_CanWrite := fun (f, u, ()) => (True, Sp.canWrite f u, ())
def con_spec_CanWrite : Con := conR sh_spec_CanWrite rsh_spec_CanWrite F_spec_CanWrite
def sh_impl_CanWrite : List PSh := [.v (.agg [.int .i64, .int .i64, .bool, .int .i64, .sl T_impl_Attr R_116 false]), .v (.one (.int .i64))]
def rsh_impl_CanWrite : List VSh := [.one (.bool)]
def F_impl_CanWrite : psDen sh_impl_CanWrite → Prop × vsDen rsh_impl_CanWrite := fun (f, u, ()) => (True, Sp.canWrite f u, ())
def con_impl_CanWrite : Con := conR sh_impl_CanWrite rsh_impl_CanWrite F_impl_CanWrite
def sh_spec_l05Place : List PSh := [.v (.agg [.sl T_impl_Field R_26 false, .sl T_impl_File R_39 false, .int .i64]), .v (.one (.int .i64))]
def rsh_spec_l05Place : List VSh := [.one (.int .i64)]
def F_spec_l05Place : psDen sh_spec_l05Place → Prop × vsDen rsh_spec_l05Place := fun ((_, fs, _, ()), id, ()) => (True, Sp.place fs id, ())
def con_spec_l05Place : Con := conR sh_spec_l05Place rsh_spec_l05Place F_spec_l05Place
def sh_impl_fileAt_1 : List PSh := [.v (.agg [.int .i64, .int .i64, .bool, .int .i64, .sl T_impl_Attr R_116 false]), .kp [.int .i64]]
def rsh_impl_fileAt_1 : List VSh := [.one (.bool)]
def F_impl_fileAt_1 : psDen sh_impl_fileAt_1 → Prop × vsDen rsh_impl_fileAt_1 := fun ((i, o, s, l, a, ()), id, ()) => (True, decide (i = id.1), ())
def con_impl_fileAt_1 : Con := conR sh_impl_fileAt_1 rsh_impl_fileAt_1 F_impl_fileAt_1
def sh_slices_IndexFunc_impl_File__impl_fileAt_1 : List PSh := [.v (.one (.sl T_impl_File R_39 false)), .fn 112 [[.int .i64]]]
def rsh_slices_IndexFunc_impl_File__impl_fileAt_1 : List VSh := [.one (.int .i64)]
def F_slices_IndexFunc_impl_File__impl_fileAt_1 : psDen sh_slices_IndexFunc_impl_File__impl_fileAt_1 → Prop × vsDen rsh_slices_IndexFunc_impl_File__impl_fileAt_1 := fun (l, ((id, ()), ()), ()) => (True, Sp.place l id, ())
def con_slices_IndexFunc_impl_File__impl_fileAt_1 : Con := conR sh_slices_IndexFunc_impl_File__impl_fileAt_1 rsh_slices_IndexFunc_impl_File__impl_fileAt_1 F_slices_IndexFunc_impl_File__impl_fileAt_1
def sh_impl_fileAt : List PSh := [.v (.agg [.sl T_impl_Field R_26 false, .sl T_impl_File R_39 false, .int .i64]), .v (.one (.int .i64))]
def rsh_impl_fileAt : List VSh := [.one (.int .i64)]
def F_impl_fileAt : psDen sh_impl_fileAt → Prop × vsDen rsh_impl_fileAt := fun ((_, fs, _, ()), id, ()) => (True, Sp.place fs id, ())
def con_impl_fileAt : Con := conR sh_impl_fileAt rsh_impl_fileAt F_impl_fileAt
def sh_spec_FindFile : List PSh := [.v (.agg [.sl T_impl_Field R_26 false, .sl T_impl_File R_39 false, .int .i64]), .v (.one (.int .i64))]
def rsh_spec_FindFile : List VSh := [.agg [.int .i64, .int .i64, .bool, .int .i64, .sl T_impl_Attr R_116 false], .one (.bool)]
def F_spec_FindFile : psDen sh_spec_FindFile → Prop × vsDen rsh_spec_FindFile := fun (s, id, ()) => (Sp.smallS s, (Sp.findFile s id).1, (Sp.findFile s id).2, ())
def con_spec_FindFile : Con := conR sh_spec_FindFile rsh_spec_FindFile F_spec_FindFile
def sh_impl_FindFile : List PSh := [.v (.agg [.sl T_impl_Field R_26 false, .sl T_impl_File R_39 false, .int .i64]), .v (.one (.int .i64))]
def rsh_impl_FindFile : List VSh := [.agg [.int .i64, .int .i64, .bool, .int .i64, .sl T_impl_Attr R_116 false], .one (.bool)]
def F_impl_FindFile : psDen sh_impl_FindFile → Prop × vsDen rsh_impl_FindFile := fun (s, id, ()) => (Sp.smallS s, (Sp.findFile s id).1, (Sp.findFile s id).2, ())
def con_impl_FindFile : Con := conR sh_impl_FindFile rsh_impl_FindFile F_impl_FindFile
def sh_slices_Clone_impl_Field : List PSh := [.v (.one (.sl T_impl_Field R_26 false))]
def rsh_slices_Clone_impl_Field : List VSh := [.one (.sl T_impl_Field R_26 false)]
def F_slices_Clone_impl_Field : psDen sh_slices_Clone_impl_Field → Prop × vsDen rsh_slices_Clone_impl_Field := fun (l, ()) => (l.length ≤ 1000, l, ())
def con_slices_Clone_impl_Field : Con := conR sh_slices_Clone_impl_Field rsh_slices_Clone_impl_Field F_slices_Clone_impl_Field
def sh_slices_Clone_impl_Attr : List PSh := [.v (.one (.sl T_impl_Attr R_116 false))]
def rsh_slices_Clone_impl_Attr : List VSh := [.one (.sl T_impl_Attr R_116 false)]
def F_slices_Clone_impl_Attr : psDen sh_slices_Clone_impl_Attr → Prop × vsDen rsh_slices_Clone_impl_Attr := fun (l, ()) => (l.length ≤ 1000, l, ())
def con_slices_Clone_impl_Attr : Con := conR sh_slices_Clone_impl_Attr rsh_slices_Clone_impl_Attr F_slices_Clone_impl_Attr
def sh_spec_FilesOwnedBy : List PSh := [.v (.agg [.sl T_impl_Field R_26 false, .sl T_impl_File R_39 false, .int .i64]), .v (.one (.int .i64))]
def rsh_spec_FilesOwnedBy : List VSh := [.one (.sl T_int R_3 true)]
def F_spec_FilesOwnedBy : psDen sh_spec_FilesOwnedBy → Prop × vsDen rsh_spec_FilesOwnedBy := fun ((_, fs, _, ()), u, ()) => (fs.length ≤ 1000, Sp.ownedBy fs u, ())
def con_spec_FilesOwnedBy : Con := conR sh_spec_FilesOwnedBy rsh_spec_FilesOwnedBy F_spec_FilesOwnedBy
def sh_impl_FilesOwnedBy : List PSh := [.v (.agg [.sl T_impl_Field R_26 false, .sl T_impl_File R_39 false, .int .i64]), .v (.one (.int .i64))]
def rsh_impl_FilesOwnedBy : List VSh := [.one (.sl T_int R_3 true)]
def F_impl_FilesOwnedBy : psDen sh_impl_FilesOwnedBy → Prop × vsDen rsh_impl_FilesOwnedBy := fun ((_, fs, _, ()), u, ()) => (fs.length ≤ 1000, Sp.ownedBy fs u, ())
def con_impl_FilesOwnedBy : Con := conR sh_impl_FilesOwnedBy rsh_impl_FilesOwnedBy F_impl_FilesOwnedBy
def sh_spec_VisibleStore : List PSh := [.v (.agg [.sl T_impl_Field R_26 false, .sl T_impl_File R_39 false, .int .i64]), .v (.one (.int .i64))]
def rsh_spec_VisibleStore : List VSh := [.agg [.sl T_impl_Field R_26 false, .sl T_impl_File R_39 false, .int .i64]]
def F_spec_VisibleStore : psDen sh_spec_VisibleStore → Prop × vsDen rsh_spec_VisibleStore := fun (s, u, ()) => (Sp.smallS s, Sp.visible s u, ())
def con_spec_VisibleStore : Con := conR sh_spec_VisibleStore rsh_spec_VisibleStore F_spec_VisibleStore
def sh_impl_VisibleStore : List PSh := [.v (.agg [.sl T_impl_Field R_26 false, .sl T_impl_File R_39 false, .int .i64]), .v (.one (.int .i64))]
def rsh_impl_VisibleStore : List VSh := [.agg [.sl T_impl_Field R_26 false, .sl T_impl_File R_39 false, .int .i64]]
def F_impl_VisibleStore : psDen sh_impl_VisibleStore → Prop × vsDen rsh_impl_VisibleStore := fun (s, u, ()) => (Sp.smallS s, Sp.visible s u, ())
def con_impl_VisibleStore : Con := conR sh_impl_VisibleStore rsh_impl_VisibleStore F_impl_VisibleStore
def sh_spec_SetAttr : List XSh := [.p (.v (.agg [.int .i64, .int .i64, .bool, .int .i64, .sl T_impl_Attr R_116 false])), .p (.v (.one (.str))), .p (.v (.agg [.int .i64, .int .i64, .str]))]
def rsh_spec_SetAttr : List RSh := [.agg [.c (.int .i64), .c (.int .i64), .c .bool, .c (.int .i64), .own T_impl_Attr R_116 true]]
def F_spec_SetAttr : xsDen sh_spec_SetAttr → Prop × (rsDen rsh_spec_SetAttr × bkDen sh_spec_SetAttr → Prop) := fun ((i, o, s, l, a, ()), name, (k, n, w, ()), ()) => (a.length ≤ 1000, fun (((i', o', s', l', a', ()), ()), ()) => i' = i ∧ o' = o ∧ s' = s ∧ l' = l ∧ a' = Sp.setAttr a name k n w)
def con_spec_SetAttr : XCon := conX sh_spec_SetAttr rsh_spec_SetAttr F_spec_SetAttr
def sh_spec_l04File : List XSh := [.ptr [.sl T_uint8 R_5 false, .int .i64, .int .i64], .p (.v (.one (.int .i64)))]
def rsh_spec_l04File : List RSh := [.agg [.c (.int .i64), .c (.int .i64), .c .bool, .c (.int .i64), .own T_impl_Attr R_116 true]]
def F_spec_l04File : xsDen sh_spec_l04File → Prop × (rsDen rsh_spec_l04File × bkDen sh_spec_l04File → Prop) := fun ((b, i, h, ()), id, ()) => (0 ≤ i, fun (((d, o, s, l, a, ()), ()), ((b', i', h', ()), ())) => 0 ≤ i' ∧ d = id ∧ 0 ≤ o ∧ o ≤ 2 ∧ 0 ≤ l ∧ l ≤ 6 ∧ Sp.okAttrs Sp.usual a = true ∧ a.length ≤ 4)
def con_spec_l04File : XCon := conX sh_spec_l04File rsh_spec_l04File F_spec_l04File
def sh_spec_l04Any : List XSh := [.ptr [.sl T_uint8 R_5 false, .int .i64, .int .i64]]
def rsh_spec_l04Any : List RSh := [.agg [.c (.int .i64), .c (.int .i64), .c .bool, .c (.int .i64), .c (.sl T_impl_Attr R_116 true)]]
def F_spec_l04Any : xsDen sh_spec_l04Any → Prop × (rsDen rsh_spec_l04Any × bkDen sh_spec_l04Any → Prop) := fun ((b, i, h, ()), ()) => (0 ≤ i, fun (((d, o, s, l, a, ()), ()), ((b', i', h', ()), ())) => 0 ≤ i' ∧ a.length ≤ 10)
def con_spec_l04Any : XCon := conX sh_spec_l04Any rsh_spec_l04Any F_spec_l04Any
def sh_spec_NewStore : List XSh := [.p (.v (.one (.sl T_impl_Field R_26 false)))]
def rsh_spec_NewStore : List RSh := [.agg [.own T_impl_Field R_26 true, .own T_impl_File R_39 true, .c (.int .i64)]]
def F_spec_NewStore : xsDen sh_spec_NewStore → Prop × (rsDen rsh_spec_NewStore × bkDen sh_spec_NewStore → Prop) := fun (s, ()) => (s.length ≤ 1000, fun (((a, l, nx, ()), ()), ()) => a = s ∧ l = [] ∧ nx = 1)
def con_spec_NewStore : XCon := conX sh_spec_NewStore rsh_spec_NewStore F_spec_NewStore
def sh_spec_l05Copy : List XSh := [.p (.v (.agg [.sl T_impl_Field R_26 false, .sl T_impl_File R_39 false, .int .i64]))]
def rsh_spec_l05Copy : List RSh := [.agg [.own T_impl_Field R_26 true, .own T_impl_File R_39 true, .c (.int .i64)]]
def F_spec_l05Copy : xsDen sh_spec_l05Copy → Prop × (rsDen rsh_spec_l05Copy × bkDen sh_spec_l05Copy → Prop) := fun (s, ()) => (Sp.smallS s, fun (((a, l, nx, ()), ()), ()) => (a, l, nx, ()) = s)
def con_spec_l05Copy : XCon := conX sh_spec_l05Copy rsh_spec_l05Copy F_spec_l05Copy
def sh_spec_CreateFile : List XSh := [.p (.v (.agg [.sl T_impl_Field R_26 false, .sl T_impl_File R_39 false, .int .i64])), .p (.v (.agg [.int .i64, .int .i64, .bool, .int .i64, .sl T_impl_Attr R_116 false]))]
def rsh_spec_CreateFile : List RSh := [.agg [.own T_impl_Field R_26 true, .own T_impl_File R_39 true, .c (.int .i64)], .one (.c (.int .i64)), .one (.c .bool)]
def F_spec_CreateFile : xsDen sh_spec_CreateFile → Prop × (rsDen rsh_spec_CreateFile × bkDen sh_spec_CreateFile → Prop) := fun (s, f, ()) => (Sp.smallS s ∧ Sp.smallF f, fun (((a, l, nx, ()), id, ok, ()), ()) => a = (Sp.createFile s f).1.1 ∧ l = (Sp.createFile s f).1.2.1 ∧ nx = (Sp.createFile s f).1.2.2.1 ∧ id = (Sp.createFile s f).2.1 ∧ ok = (Sp.createFile s f).2.2)
def con_spec_CreateFile : XCon := conX sh_spec_CreateFile rsh_spec_CreateFile F_spec_CreateFile
def sh_spec_ReplaceFile : List XSh := [.p (.v (.agg [.sl T_impl_Field R_26 false, .sl T_impl_File R_39 false, .int .i64])), .p (.v (.agg [.int .i64, .int .i64, .bool, .int .i64, .sl T_impl_Attr R_116 false]))]
def rsh_spec_ReplaceFile : List RSh := [.agg [.own T_impl_Field R_26 true, .own T_impl_File R_39 true, .c (.int .i64)], .one (.c .bool)]
def F_spec_ReplaceFile : xsDen sh_spec_ReplaceFile → Prop × (rsDen rsh_spec_ReplaceFile × bkDen sh_spec_ReplaceFile → Prop) := fun (s, f, ()) => (Sp.smallS s ∧ Sp.smallF f, fun (((a, l, nx, ()), ok, ()), ()) => a = (Sp.replaceFile s f).1.1 ∧ l = (Sp.replaceFile s f).1.2.1 ∧ nx = (Sp.replaceFile s f).1.2.2.1 ∧ ok = (Sp.replaceFile s f).2)
def con_spec_ReplaceFile : XCon := conX sh_spec_ReplaceFile rsh_spec_ReplaceFile F_spec_ReplaceFile
def sh_spec_DeleteFile : List XSh := [.p (.v (.agg [.sl T_impl_Field R_26 false, .sl T_impl_File R_39 false, .int .i64])), .p (.v (.one (.int .i64)))]
def rsh_spec_DeleteFile : List RSh := [.agg [.own T_impl_Field R_26 true, .own T_impl_File R_39 true, .c (.int .i64)], .one (.c .bool)]
def F_spec_DeleteFile : xsDen sh_spec_DeleteFile → Prop × (rsDen rsh_spec_DeleteFile × bkDen sh_spec_DeleteFile → Prop) := fun (s, id, ()) => (Sp.smallS s, fun (((a, l, nx, ()), ok, ()), ()) => a = (Sp.deleteFile s id).1.1 ∧ l = (Sp.deleteFile s id).1.2.1 ∧ nx = (Sp.deleteFile s id).1.2.2.1 ∧ ok = (Sp.deleteFile s id).2)
def con_spec_DeleteFile : XCon := conX sh_spec_DeleteFile rsh_spec_DeleteFile F_spec_DeleteFile
def sh_spec_l05Store : List XSh := [.ptr [.sl T_uint8 R_5 false, .int .i64, .int .i64]]
def rsh_spec_l05Store : List RSh := [.agg [.own T_impl_Field R_26 true, .own T_impl_File R_39 true, .c (.int .i64)]]
def F_spec_l05Store : xsDen sh_spec_l05Store → Prop × (rsDen rsh_spec_l05Store × bkDen sh_spec_l05Store → Prop) := fun ((b, i, h, ()), ()) => (0 ≤ i, fun (((a, l, nx, ()), ()), ((b', i', h', ()), ())) => 0 ≤ i' ∧ a = Sp.usual ∧ Sp.okStore (a, l, nx, ()) = true ∧ nx ≤ l.length + 2 ∧ Sp.smallS (a, l, nx, ()))
def con_spec_l05Store : XCon := conX sh_spec_l05Store rsh_spec_l05Store F_spec_l05Store
def sh_spec_l05Any : List XSh := [.ptr [.sl T_uint8 R_5 false, .int .i64, .int .i64]]
def rsh_spec_l05Any : List RSh := [.agg [.c (.sl T_impl_Field R_26 true), .c (.sl T_impl_File R_39 true), .c (.int .i64)]]
def F_spec_l05Any : xsDen sh_spec_l05Any → Prop × (rsDen rsh_spec_l05Any × bkDen sh_spec_l05Any → Prop) := fun ((b, i, h, ()), ()) => (0 ≤ i, fun (((a, l, nx, ()), ()), ((b', i', h', ()), ())) => 0 ≤ i' ∧ Sp.smallS (a, l, nx, ()))
def con_spec_l05Any : XCon := conX sh_spec_l05Any rsh_spec_l05Any F_spec_l05Any
def sh_spec_l06User : List XSh := [.ptr [.sl T_uint8 R_5 false, .int .i64, .int .i64]]
def rsh_spec_l06User : List RSh := [.one (.c (.int .i64))]
def F_spec_l06User : xsDen sh_spec_l06User → Prop × (rsDen rsh_spec_l06User × bkDen sh_spec_l06User → Prop) := fun ((b, i, h, ()), ()) => (0 ≤ i, fun ((x, ()), ((b', i', h', ()), ())) => 0 ≤ i')
def con_spec_l06User : XCon := conX sh_spec_l06User rsh_spec_l06User F_spec_l06User
def sh_spec_l06Hidden : List XSh := [.ptr [.sl T_uint8 R_5 false, .int .i64, .int .i64], .p (.v (.agg [.sl T_impl_Field R_26 false, .sl T_impl_File R_39 false, .int .i64])), .p (.v (.one (.int .i64)))]
def rsh_spec_l06Hidden : List RSh := [.agg [.c (.sl T_impl_Field R_26 false), .c (.sl T_impl_File R_39 false), .c (.int .i64)]]
def F_spec_l06Hidden : xsDen sh_spec_l06Hidden → Prop × (rsDen rsh_spec_l06Hidden × bkDen sh_spec_l06Hidden → Prop) := fun ((b, i, h, ()), s, u, ()) => (0 ≤ i ∧ 0 ≤ u ∧ u ≤ 2 ∧ Sp.smallS s, fun (((a, l, nx, ()), ()), ((b', i', h', ()), ())) => 0 ≤ i' ∧ Sp.smallS (a, l, nx, ()))
def con_spec_l06Hidden : XCon := conX sh_spec_l06Hidden rsh_spec_l06Hidden F_spec_l06Hidden
def sh_spec_DrawCanRead : List XSh := [.p (.v (.one (.sl T_uint8 R_5 false)))]
def rsh_spec_DrawCanRead : List RSh := [.agg [.c (.int .i64), .c (.int .i64), .c .bool, .c (.int .i64), .c (.sl T_impl_Attr R_116 true)], .one (.c (.int .i64))]
def F_spec_DrawCanRead : xsDen sh_spec_DrawCanRead → Prop × (rsDen rsh_spec_DrawCanRead × bkDen sh_spec_DrawCanRead → Prop) := fun (code, ()) => (code.length ≤ 1048576, fun (((d, o, s, l, a, ()), u, ()), ()) => Sp.smallF (d, o, s, l, a, ()))
def con_spec_DrawCanRead : XCon := conX sh_spec_DrawCanRead rsh_spec_DrawCanRead F_spec_DrawCanRead
def sh_spec_DrawVisibleStore : List XSh := [.p (.v (.one (.sl T_uint8 R_5 false)))]
def rsh_spec_DrawVisibleStore : List RSh := [.agg [.c (.sl T_impl_Field R_26 true), .c (.sl T_impl_File R_39 true), .c (.int .i64)], .one (.c (.int .i64))]
def F_spec_DrawVisibleStore : xsDen sh_spec_DrawVisibleStore → Prop × (rsDen rsh_spec_DrawVisibleStore × bkDen sh_spec_DrawVisibleStore → Prop) := fun (code, ()) => (code.length ≤ 1048576, fun (((a, l, nx, ()), u, ()), ()) => Sp.smallS (a, l, nx, ()))
def con_spec_DrawVisibleStore : XCon := conX sh_spec_DrawVisibleStore rsh_spec_DrawVisibleStore F_spec_DrawVisibleStore
def sh_spec_DrawEqualForUser : List XSh := [.p (.v (.one (.sl T_uint8 R_5 false)))]
def rsh_spec_DrawEqualForUser : List RSh := [.agg [.c (.sl T_impl_Field R_26 true), .c (.sl T_impl_File R_39 true), .c (.int .i64)], .agg [.c (.sl T_impl_Field R_26 false), .c (.sl T_impl_File R_39 false), .c (.int .i64)], .one (.c (.int .i64))]
def F_spec_DrawEqualForUser : xsDen sh_spec_DrawEqualForUser → Prop × (rsDen rsh_spec_DrawEqualForUser × bkDen sh_spec_DrawEqualForUser → Prop) := fun (code, ()) => (code.length ≤ 1048576, fun (((a, l, nx, ()), (a2, l2, nx2, ()), u, ()), ()) => Sp.smallS (a, l, nx, ()) ∧ Sp.smallS (a2, l2, nx2, ()))
def con_spec_DrawEqualForUser : XCon := conX sh_spec_DrawEqualForUser rsh_spec_DrawEqualForUser F_spec_DrawEqualForUser
def sh_spec_EqualFiles : List PSh := [.v (.agg [.int .i64, .int .i64, .bool, .int .i64, .sl T_impl_Attr R_116 false]), .v (.agg [.int .i64, .int .i64, .bool, .int .i64, .sl T_impl_Attr R_116 false])]
def rsh_spec_EqualFiles : List VSh := [.one (.bool)]
def F_spec_EqualFiles : psDen sh_spec_EqualFiles → Prop × vsDen rsh_spec_EqualFiles := fun (a, b, ()) => (True, decide (a = b), ())
def con_spec_EqualFiles : Con := conR sh_spec_EqualFiles rsh_spec_EqualFiles F_spec_EqualFiles
def sh_impl_EqualFiles : List PSh := [.v (.agg [.int .i64, .int .i64, .bool, .int .i64, .sl T_impl_Attr R_116 false]), .v (.agg [.int .i64, .int .i64, .bool, .int .i64, .sl T_impl_Attr R_116 false])]
def rsh_impl_EqualFiles : List VSh := [.one (.bool)]
def F_impl_EqualFiles : psDen sh_impl_EqualFiles → Prop × vsDen rsh_impl_EqualFiles := fun (a, b, ()) => (True, decide (a = b), ())
def con_impl_EqualFiles : Con := conR sh_impl_EqualFiles rsh_impl_EqualFiles F_impl_EqualFiles
def sh_spec_l05Fields : List PSh := [.v (.one (.sl T_impl_Field R_26 false)), .v (.one (.sl T_impl_Field R_26 false))]
def rsh_spec_l05Fields : List VSh := [.one (.bool)]
def F_spec_l05Fields : psDen sh_spec_l05Fields → Prop × vsDen rsh_spec_l05Fields := fun (a, b, ()) => (True, decide (a = b), ())
def con_spec_l05Fields : Con := conR sh_spec_l05Fields rsh_spec_l05Fields F_spec_l05Fields
def sh_spec_EqualStores : List PSh := [.v (.agg [.sl T_impl_Field R_26 false, .sl T_impl_File R_39 false, .int .i64]), .v (.agg [.sl T_impl_Field R_26 false, .sl T_impl_File R_39 false, .int .i64])]
def rsh_spec_EqualStores : List VSh := [.one (.bool)]
def F_spec_EqualStores : psDen sh_spec_EqualStores → Prop × vsDen rsh_spec_EqualStores := fun (a, b, ()) => (True, decide (a = b), ())
def con_spec_EqualStores : Con := conR sh_spec_EqualStores rsh_spec_EqualStores F_spec_EqualStores
def sh_slices_Equal_impl_Attr : List PSh := [.v (.one (.sl T_impl_Attr R_116 false)), .v (.one (.sl T_impl_Attr R_116 false))]
def rsh_slices_Equal_impl_Attr : List VSh := [.one (.bool)]
def F_slices_Equal_impl_Attr : psDen sh_slices_Equal_impl_Attr → Prop × vsDen rsh_slices_Equal_impl_Attr := fun (a, b, ()) => (True, decide (a = b), ())
def con_slices_Equal_impl_Attr : Con := conR sh_slices_Equal_impl_Attr rsh_slices_Equal_impl_Attr F_slices_Equal_impl_Attr
def sh_slices_Equal_impl_Field : List PSh := [.v (.one (.sl T_impl_Field R_26 false)), .v (.one (.sl T_impl_Field R_26 false))]
def rsh_slices_Equal_impl_Field : List VSh := [.one (.bool)]
def F_slices_Equal_impl_Field : psDen sh_slices_Equal_impl_Field → Prop × vsDen rsh_slices_Equal_impl_Field := fun (a, b, ()) => (True, decide (a = b), ())
def con_slices_Equal_impl_Field : Con := conR sh_slices_Equal_impl_Field rsh_slices_Equal_impl_Field F_slices_Equal_impl_Field
def sh_slices_EqualFunc_impl_File_impl_File__impl_EqualFiles : List PSh := [.v (.one (.sl T_impl_File R_39 false)), .v (.one (.sl T_impl_File R_39 false)), .fn 95 []]
def rsh_slices_EqualFunc_impl_File_impl_File__impl_EqualFiles : List VSh := [.one (.bool)]
def F_slices_EqualFunc_impl_File_impl_File__impl_EqualFiles : psDen sh_slices_EqualFunc_impl_File_impl_File__impl_EqualFiles → Prop × vsDen rsh_slices_EqualFunc_impl_File_impl_File__impl_EqualFiles := fun (a, b, _, ()) => (True, decide (a = b), ())
def con_slices_EqualFunc_impl_File_impl_File__impl_EqualFiles : Con := conR sh_slices_EqualFunc_impl_File_impl_File__impl_EqualFiles rsh_slices_EqualFunc_impl_File_impl_File__impl_EqualFiles F_slices_EqualFunc_impl_File_impl_File__impl_EqualFiles
def sh_spec_EqualForUser : List PSh := [.v (.agg [.sl T_impl_Field R_26 false, .sl T_impl_File R_39 false, .int .i64]), .v (.agg [.sl T_impl_Field R_26 false, .sl T_impl_File R_39 false, .int .i64]), .v (.one (.int .i64))]
def rsh_spec_EqualForUser : List VSh := [.one (.bool)]
def F_spec_EqualForUser : psDen sh_spec_EqualForUser → Prop × vsDen rsh_spec_EqualForUser := fun (a, b, u, ()) => (Sp.smallS a ∧ Sp.smallS b, decide ((Sp.visible a u).1 = (Sp.visible b u).1) && decide ((Sp.visible a u).2.1 = (Sp.visible b u).2.1), ())
def con_spec_EqualForUser : Con := conR sh_spec_EqualForUser rsh_spec_EqualForUser F_spec_EqualForUser
def sh_impl_EqualForUser : List PSh := [.v (.agg [.sl T_impl_Field R_26 false, .sl T_impl_File R_39 false, .int .i64]), .v (.agg [.sl T_impl_Field R_26 false, .sl T_impl_File R_39 false, .int .i64]), .v (.one (.int .i64))]
def rsh_impl_EqualForUser : List VSh := [.one (.bool)]
def F_impl_EqualForUser : psDen sh_impl_EqualForUser → Prop × vsDen rsh_impl_EqualForUser := fun (a, b, u, ()) => (Sp.smallS a ∧ Sp.smallS b, decide ((Sp.visible a u).1 = (Sp.visible b u).1) && decide ((Sp.visible a u).2.1 = (Sp.visible b u).2.1), ())
def con_impl_EqualForUser : Con := conR sh_impl_EqualForUser rsh_impl_EqualForUser F_impl_EqualForUser
def sh_laws_FnReadWrite : List PSh := [.v (.one (.sl T_uint8 R_5 false))]
def rsh_laws_FnReadWrite : List VSh := [.one (.bool)]
def F_laws_FnReadWrite : psDen sh_laws_FnReadWrite → Prop × vsDen rsh_laws_FnReadWrite := fun (code, ()) => (True, true, ())
def con_laws_FnReadWrite : Con := conR sh_laws_FnReadWrite rsh_laws_FnReadWrite F_laws_FnReadWrite
def sh_laws_FnHiddenChanges : List PSh := [.v (.one (.sl T_uint8 R_5 false))]
def rsh_laws_FnHiddenChanges : List VSh := [.one (.bool)]
def F_laws_FnHiddenChanges : psDen sh_laws_FnHiddenChanges → Prop × vsDen rsh_laws_FnHiddenChanges := fun (code, ()) => (True, true, ())
def con_laws_FnHiddenChanges : Con := conR sh_laws_FnHiddenChanges rsh_laws_FnHiddenChanges F_laws_FnHiddenChanges
def sh_laws_big : List PSh := [.v (.one (.sl T_uint8 R_5 false))]
def rsh_laws_big : List VSh := [.one (.bool)]
def F_laws_big : psDen sh_laws_big → Prop × vsDen rsh_laws_big := fun (code, ()) => (True, decide (1048576 < (code.length : Int)), ())
def con_laws_big : Con := conR sh_laws_big rsh_laws_big F_laws_big
def sh_slices_Delete_impl_File : List XSh := [.own T_impl_File R_39, .p (.v (.one (.int .i64))), .p (.v (.one (.int .i64)))]
def rsh_slices_Delete_impl_File : List RSh := [.one (.own T_impl_File R_39 false)]
def F_slices_Delete_impl_File : xsDen sh_slices_Delete_impl_File → Prop × (rsDen rsh_slices_Delete_impl_File × bkDen sh_slices_Delete_impl_File → Prop) := fun (s, i, j, ()) => (0 ≤ i ∧ i ≤ j ∧ j ≤ s.length, fun ((r, ()), ()) => r = s.take i.toNat ++ s.drop j.toNat)
def con_slices_Delete_impl_File : XCon := conX sh_slices_Delete_impl_File rsh_slices_Delete_impl_File F_slices_Delete_impl_File
def sh_impl_copyFiles : List XSh := [.p (.v (.one (.sl T_impl_File R_39 false)))]
def rsh_impl_copyFiles : List RSh := [.one (.own T_impl_File R_39 false)]
def F_impl_copyFiles : xsDen sh_impl_copyFiles → Prop × (rsDen rsh_impl_copyFiles × bkDen sh_impl_copyFiles → Prop) := fun (l, ()) => (l.length ≤ 1000 ∧ ∀ f ∈ l, Sp.smallF f, fun ((r, ()), ()) => r = l)
def con_impl_copyFiles : XCon := conX sh_impl_copyFiles rsh_impl_copyFiles F_impl_copyFiles
def sh_impl_copyStore : List XSh := [.p (.v (.agg [.sl T_impl_Field R_26 false, .sl T_impl_File R_39 false, .int .i64]))]
def rsh_impl_copyStore : List RSh := [.agg [.c (.sl T_impl_Field R_26 false), .own T_impl_File R_39 false, .c (.int .i64)]]
def F_impl_copyStore : xsDen sh_impl_copyStore → Prop × (rsDen rsh_impl_copyStore × bkDen sh_impl_copyStore → Prop) := fun (s, ()) => (Sp.smallS s, fun (((a, l, nx, ()), ()), ()) => (a, l, nx, ()) = s)
def con_impl_copyStore : XCon := conX sh_impl_copyStore rsh_impl_copyStore F_impl_copyStore
def sh_impl_CreateFile : List XSh := [.p (.v (.agg [.sl T_impl_Field R_26 false, .sl T_impl_File R_39 false, .int .i64])), .p (.v (.agg [.int .i64, .int .i64, .bool, .int .i64, .sl T_impl_Attr R_116 false]))]
def rsh_impl_CreateFile : List RSh := [.agg [.c (.sl T_impl_Field R_26 false), .own T_impl_File R_39 false, .c (.int .i64)], .one (.c (.int .i64)), .one (.c .bool)]
def F_impl_CreateFile : xsDen sh_impl_CreateFile → Prop × (rsDen rsh_impl_CreateFile × bkDen sh_impl_CreateFile → Prop) := fun (s, f, ()) => (Sp.smallS s ∧ Sp.smallF f, fun (((a, l, nx, ()), id, ok, ()), ()) => a = (Sp.createFile s f).1.1 ∧ l = (Sp.createFile s f).1.2.1 ∧ nx = (Sp.createFile s f).1.2.2.1 ∧ id = (Sp.createFile s f).2.1 ∧ ok = (Sp.createFile s f).2.2)
def con_impl_CreateFile : XCon := conX sh_impl_CreateFile rsh_impl_CreateFile F_impl_CreateFile
def sh_impl_ReplaceFile : List XSh := [.p (.v (.agg [.sl T_impl_Field R_26 false, .sl T_impl_File R_39 false, .int .i64])), .p (.v (.agg [.int .i64, .int .i64, .bool, .int .i64, .sl T_impl_Attr R_116 false]))]
def rsh_impl_ReplaceFile : List RSh := [.agg [.c (.sl T_impl_Field R_26 false), .own T_impl_File R_39 false, .c (.int .i64)], .one (.c .bool)]
def F_impl_ReplaceFile : xsDen sh_impl_ReplaceFile → Prop × (rsDen rsh_impl_ReplaceFile × bkDen sh_impl_ReplaceFile → Prop) := fun (s, f, ()) => (Sp.smallS s ∧ Sp.smallF f, fun (((a, l, nx, ()), ok, ()), ()) => a = (Sp.replaceFile s f).1.1 ∧ l = (Sp.replaceFile s f).1.2.1 ∧ nx = (Sp.replaceFile s f).1.2.2.1 ∧ ok = (Sp.replaceFile s f).2)
def con_impl_ReplaceFile : XCon := conX sh_impl_ReplaceFile rsh_impl_ReplaceFile F_impl_ReplaceFile
def sh_impl_DeleteFile : List XSh := [.p (.v (.agg [.sl T_impl_Field R_26 false, .sl T_impl_File R_39 false, .int .i64])), .p (.v (.one (.int .i64)))]
def rsh_impl_DeleteFile : List RSh := [.agg [.c (.sl T_impl_Field R_26 false), .own T_impl_File R_39 false, .c (.int .i64)], .one (.c .bool)]
def F_impl_DeleteFile : xsDen sh_impl_DeleteFile → Prop × (rsDen rsh_impl_DeleteFile × bkDen sh_impl_DeleteFile → Prop) := fun (s, id, ()) => (Sp.smallS s, fun (((a, l, nx, ()), ok, ()), ()) => a = (Sp.deleteFile s id).1.1 ∧ l = (Sp.deleteFile s id).1.2.1 ∧ nx = (Sp.deleteFile s id).1.2.2.1 ∧ ok = (Sp.deleteFile s id).2)
def con_impl_DeleteFile : XCon := conX sh_impl_DeleteFile rsh_impl_DeleteFile F_impl_DeleteFile
def sh_impl_NewStore : List PSh := [.v (.one (.sl T_impl_Field R_26 false))]
def rsh_impl_NewStore : List VSh := [.agg [.sl T_impl_Field R_26 false, .sl T_impl_File R_39 false, .int .i64]]
def F_impl_NewStore : psDen sh_impl_NewStore → Prop × vsDen rsh_impl_NewStore := fun (s, ()) => (s.length ≤ 1000, (s, [], 1, ()), ())
def con_impl_NewStore : Con := conR sh_impl_NewStore rsh_impl_NewStore F_impl_NewStore
def sh_impl_FileIDs : List PSh := [.v (.agg [.sl T_impl_Field R_26 false, .sl T_impl_File R_39 false, .int .i64])]
def rsh_impl_FileIDs : List VSh := [.one (.sl T_int R_3 true)]
def F_impl_FileIDs : psDen sh_impl_FileIDs → Prop × vsDen rsh_impl_FileIDs := fun ((_, l, _, ()), ()) => (l.length ≤ 1000, Sp.fileIDs l, ())
def con_impl_FileIDs : Con := conR sh_impl_FileIDs rsh_impl_FileIDs F_impl_FileIDs
def sh_spec_FileIDs : List PSh := [.v (.agg [.sl T_impl_Field R_26 false, .sl T_impl_File R_39 false, .int .i64])]
def rsh_spec_FileIDs : List VSh := [.one (.sl T_int R_3 true)]
def F_spec_FileIDs : psDen sh_spec_FileIDs → Prop × vsDen rsh_spec_FileIDs := fun ((_, l, _, ()), ()) => (l.length ≤ 1000, Sp.fileIDs l, ())
def con_spec_FileIDs : Con := conR sh_spec_FileIDs rsh_spec_FileIDs F_spec_FileIDs
def sh_impl_EqualStores : List PSh := [.v (.agg [.sl T_impl_Field R_26 false, .sl T_impl_File R_39 false, .int .i64]), .v (.agg [.sl T_impl_Field R_26 false, .sl T_impl_File R_39 false, .int .i64])]
def rsh_impl_EqualStores : List VSh := [.one (.bool)]
def F_impl_EqualStores : psDen sh_impl_EqualStores → Prop × vsDen rsh_impl_EqualStores := fun (a, b, ()) => (True, decide (a = b), ())
def con_impl_EqualStores : Con := conR sh_impl_EqualStores rsh_impl_EqualStores F_impl_EqualStores
def sh_spec_l05Id : List XSh := [.ptr [.sl T_uint8 R_5 false, .int .i64, .int .i64]]
def rsh_spec_l05Id : List RSh := [.one (.c (.int .i64))]
def F_spec_l05Id : xsDen sh_spec_l05Id → Prop × (rsDen rsh_spec_l05Id × bkDen sh_spec_l05Id → Prop) := fun ((b, i, h, ()), ()) => (0 ≤ i, fun ((x, ()), ((b', i', h', ()), ())) => 0 ≤ i')
def con_spec_l05Id : XCon := conX sh_spec_l05Id rsh_spec_l05Id F_spec_l05Id
def sh_spec_DrawFindFile : List XSh := [.p (.v (.one (.sl T_uint8 R_5 false)))]
def rsh_spec_DrawFindFile : List RSh := [.agg [.c (.sl T_impl_Field R_26 true), .c (.sl T_impl_File R_39 true), .c (.int .i64)], .one (.c (.int .i64))]
def F_spec_DrawFindFile : xsDen sh_spec_DrawFindFile → Prop × (rsDen rsh_spec_DrawFindFile × bkDen sh_spec_DrawFindFile → Prop) := fun (code, ()) => (code.length ≤ 1048576, fun (((a, l, nx, ()), u, ()), ()) => Sp.smallS (a, l, nx, ()))
def con_spec_DrawFindFile : XCon := conX sh_spec_DrawFindFile rsh_spec_DrawFindFile F_spec_DrawFindFile
def sh_spec_DrawDeleteFile : List XSh := [.p (.v (.one (.sl T_uint8 R_5 false)))]
def rsh_spec_DrawDeleteFile : List RSh := [.agg [.c (.sl T_impl_Field R_26 true), .c (.sl T_impl_File R_39 true), .c (.int .i64)], .one (.c (.int .i64))]
def F_spec_DrawDeleteFile : xsDen sh_spec_DrawDeleteFile → Prop × (rsDen rsh_spec_DrawDeleteFile × bkDen sh_spec_DrawDeleteFile → Prop) := fun (code, ()) => (code.length ≤ 1048576, fun (((a, l, nx, ()), u, ()), ()) => Sp.smallS (a, l, nx, ()))
def con_spec_DrawDeleteFile : XCon := conX sh_spec_DrawDeleteFile rsh_spec_DrawDeleteFile F_spec_DrawDeleteFile
def sh_spec_DrawReplaceFile : List XSh := [.p (.v (.one (.sl T_uint8 R_5 false)))]
def rsh_spec_DrawReplaceFile : List RSh := [.agg [.c (.sl T_impl_Field R_26 true), .c (.sl T_impl_File R_39 true), .c (.int .i64)], .agg [.c (.int .i64), .c (.int .i64), .c .bool, .c (.int .i64), .c (.sl T_impl_Attr R_116 true)]]
def F_spec_DrawReplaceFile : xsDen sh_spec_DrawReplaceFile → Prop × (rsDen rsh_spec_DrawReplaceFile × bkDen sh_spec_DrawReplaceFile → Prop) := fun (code, ()) => (code.length ≤ 1048576, fun (((a, l, nx, ()), (d, o, s, k, al, ()), ()), ()) => Sp.smallS (a, l, nx, ()) ∧ Sp.smallF (d, o, s, k, al, ()))
def con_spec_DrawReplaceFile : XCon := conX sh_spec_DrawReplaceFile rsh_spec_DrawReplaceFile F_spec_DrawReplaceFile
def sh_spec_DrawCreateFile : List XSh := [.p (.v (.one (.sl T_uint8 R_5 false)))]
def rsh_spec_DrawCreateFile : List RSh := [.agg [.c (.sl T_impl_Field R_26 true), .c (.sl T_impl_File R_39 true), .c (.int .i64)], .agg [.c (.int .i64), .c (.int .i64), .c .bool, .c (.int .i64), .c (.sl T_impl_Attr R_116 true)]]
def F_spec_DrawCreateFile : xsDen sh_spec_DrawCreateFile → Prop × (rsDen rsh_spec_DrawCreateFile × bkDen sh_spec_DrawCreateFile → Prop) := fun (code, ()) => (code.length ≤ 1048576, fun (((a, l, nx, ()), (d, o, s, k, al, ()), ()), ()) => Sp.smallS (a, l, nx, ()) ∧ Sp.smallF (d, o, s, k, al, ()))
def con_spec_DrawCreateFile : XCon := conX sh_spec_DrawCreateFile rsh_spec_DrawCreateFile F_spec_DrawCreateFile
def sh_spec_DrawFileIDs : List XSh := [.p (.v (.one (.sl T_uint8 R_5 false)))]
def rsh_spec_DrawFileIDs : List RSh := [.agg [.c (.sl T_impl_Field R_26 true), .c (.sl T_impl_File R_39 true), .c (.int .i64)]]
def F_spec_DrawFileIDs : xsDen sh_spec_DrawFileIDs → Prop × (rsDen rsh_spec_DrawFileIDs × bkDen sh_spec_DrawFileIDs → Prop) := fun (code, ()) => (code.length ≤ 1048576, fun (((a, l, nx, ()), ()), ()) => Sp.smallS (a, l, nx, ()))
def con_spec_DrawFileIDs : XCon := conX sh_spec_DrawFileIDs rsh_spec_DrawFileIDs F_spec_DrawFileIDs
def sh_spec_DrawEqualStores : List XSh := [.p (.v (.one (.sl T_uint8 R_5 false)))]
def rsh_spec_DrawEqualStores : List RSh := [.agg [.c (.sl T_impl_Field R_26 true), .c (.sl T_impl_File R_39 true), .c (.int .i64)], .agg [.c (.sl T_impl_Field R_26 false), .c (.sl T_impl_File R_39 false), .c (.int .i64)]]
def F_spec_DrawEqualStores : xsDen sh_spec_DrawEqualStores → Prop × (rsDen rsh_spec_DrawEqualStores × bkDen sh_spec_DrawEqualStores → Prop) := fun (code, ()) => (code.length ≤ 1048576, fun (((a, l, nx, ()), (a2, l2, nx2, ()), ()), ()) => Sp.smallS (a, l, nx, ()) ∧ Sp.smallS (a2, l2, nx2, ()))
def con_spec_DrawEqualStores : XCon := conX sh_spec_DrawEqualStores rsh_spec_DrawEqualStores F_spec_DrawEqualStores
def sh_spec_DefaultSchema : List XSh := []
def rsh_spec_DefaultSchema : List RSh := [.one (.own T_impl_Field R_26 true)]
def F_spec_DefaultSchema : xsDen sh_spec_DefaultSchema → Prop × (rsDen rsh_spec_DefaultSchema × bkDen sh_spec_DefaultSchema → Prop) := fun (()) => (True, fun ((s, ()), ()) => s = Sp.usual)
def con_spec_DefaultSchema : XCon := conX sh_spec_DefaultSchema rsh_spec_DefaultSchema F_spec_DefaultSchema
def sh_laws_sampleStore : List XSh := [.p (.v (.one (.int .i64)))]
def rsh_laws_sampleStore : List RSh := [.agg [.c (.sl T_impl_Field R_26 true), .c (.sl T_impl_File R_39 true), .c (.int .i64)]]
def F_laws_sampleStore : xsDen sh_laws_sampleStore → Prop × (rsDen rsh_laws_sampleStore × bkDen sh_laws_sampleStore → Prop) := fun (n, ()) => (True, fun (((a, l, nx, ()), ()), ()) => a = (Sp.sample n).1 ∧ l = (Sp.sample n).2.1 ∧ nx = (Sp.sample n).2.2.1)
def con_laws_sampleStore : XCon := conX sh_laws_sampleStore rsh_laws_sampleStore F_laws_sampleStore
def sh_laws_FnStoreFind : List PSh := [.v (.one (.sl T_uint8 R_5 false))]
def rsh_laws_FnStoreFind : List VSh := [.one (.bool)]
def F_laws_FnStoreFind : psDen sh_laws_FnStoreFind → Prop × vsDen rsh_laws_FnStoreFind := fun (code, ()) => (True, true, ())
def con_laws_FnStoreFind : Con := conR sh_laws_FnStoreFind rsh_laws_FnStoreFind F_laws_FnStoreFind
def sh_laws_FnStoreIDs : List PSh := [.v (.one (.sl T_uint8 R_5 false))]
def rsh_laws_FnStoreIDs : List VSh := [.one (.bool)]
def F_laws_FnStoreIDs : psDen sh_laws_FnStoreIDs → Prop × vsDen rsh_laws_FnStoreIDs := fun (code, ()) => (True, true, ())
def con_laws_FnStoreIDs : Con := conR sh_laws_FnStoreIDs rsh_laws_FnStoreIDs F_laws_FnStoreIDs
def Γ_spec_l01New : CEnv := findC []
def Γ_spec_l01Byte : CEnv := findC []
def Γ_spec_l01Below : CEnv := findC [(n_spec_l01Byte, .eff (xmodes sh_spec_l01Byte) con_spec_l01Byte)]
def Γ_spec_l01Once : CEnv := findC [(n_spec_l01Below, .eff (xmodes sh_spec_l01Below) con_spec_l01Below)]
def Γ_spec_l01Pick : CEnv := findC [(n_spec_l01Below, .eff (xmodes sh_spec_l01Below) con_spec_l01Below)]
def Γ_spec_l01PickInt : CEnv := findC [(n_spec_l01Below, .eff (xmodes sh_spec_l01Below) con_spec_l01Below)]
def Γ_spec_l03Usual : CEnv := findC []
def Γ_spec_l03Name : CEnv := findC [(n_spec_l01Pick, .eff (xmodes sh_spec_l01Pick) con_spec_l01Pick)]
def Γ_spec_l03Any : CEnv := findC [(n_spec_l01Pick, .eff (xmodes sh_spec_l01Pick) con_spec_l01Pick), (n_spec_l03Name, .eff (xmodes sh_spec_l03Name) con_spec_l03Name), (n_spec_l01Below, .eff (xmodes sh_spec_l01Below) con_spec_l01Below), (n_spec_l03Usual, .eff (xmodes sh_spec_l03Usual) con_spec_l03Usual)]
def Γ_spec_l02Value : CEnv := findC [(n_spec_StringValue, .pure con_spec_StringValue), (n_spec_l01Pick, .eff (xmodes sh_spec_l01Pick) con_spec_l01Pick), (n_spec_IntValue, .pure con_spec_IntValue), (n_spec_l01Below, .eff (xmodes sh_spec_l01Below) con_spec_l01Below)]
def Γ_spec_l02Any : CEnv := findC [(n_spec_l01Pick, .eff (xmodes sh_spec_l01Pick) con_spec_l01Pick), (n_spec_l01PickInt, .eff (xmodes sh_spec_l01PickInt) con_spec_l01PickInt), (n_spec_l01Below, .eff (xmodes sh_spec_l01Below) con_spec_l01Below), (n_spec_l02Value, .eff (xmodes sh_spec_l02Value) con_spec_l02Value)]
def Γ_spec_IntValue : CEnv := findC []
def Γ_spec_StringValue : CEnv := findC []
def Γ_spec_DrawNewStore : CEnv := findC [(n_spec_l03Any, .eff (xmodes sh_spec_l03Any) con_spec_l03Any), (n_spec_l01New, .eff (xmodes sh_spec_l01New) con_spec_l01New)]
def Γ_spec_l01In : CEnv := findC []
def Γ_impl_within : CEnv := findC []
def Γ_spec_l02Text : CEnv := findC [(n_spec_l01In, .pure con_spec_l01In)]
def Γ_spec_IsValidString : CEnv := findC [(n_spec_l02Text, .pure con_spec_l02Text)]
def Γ_impl_IsValidString : CEnv := findC [(n_impl_within, .pure con_impl_within)]
def Γ_spec_IsValidValue : CEnv := findC [(n_spec_IsValidString, .pure con_spec_IsValidString), (n_spec_l01In, .pure con_spec_l01In)]
def Γ_impl_IsValidValue : CEnv := findC [(n_impl_IsValidString, .pure con_impl_IsValidString), (n_impl_within, .pure con_impl_within)]
def Γ_spec_IsValidAttrName : CEnv := findC [(n_spec_l02Text, .pure con_spec_l02Text)]
def Γ_impl_IsValidAttrName : CEnv := findC []
def Γ_spec_FieldKind : CEnv := findC []
def Γ_impl_FieldKind : CEnv := findC []
def Γ_spec_IsValidSchema : CEnv := findC [(n_spec_l01In, .pure con_spec_l01In), (n_spec_IsValidAttrName, .pure con_spec_IsValidAttrName)]
def Γ_impl_IsValidSchema : CEnv := findC [(n_impl_IsValidAttrName, .pure con_impl_IsValidAttrName)]
def Γ_spec_MatchesSchema : CEnv := findC [(n_spec_FieldKind, .pure con_spec_FieldKind), (n_spec_IsValidValue, .pure con_spec_IsValidValue)]
def Γ_impl_MatchesSchema : CEnv := findC [(n_impl_FieldKind, .pure con_impl_FieldKind), (n_impl_IsValidValue, .pure con_impl_IsValidValue)]
def Γ_spec_IsValidFile : CEnv := findC [(n_spec_l01In, .pure con_spec_l01In), (n_spec_IsValidSchema, .pure con_spec_IsValidSchema), (n_spec_MatchesSchema, .pure con_spec_MatchesSchema)]
def Γ_impl_IsValidFile : CEnv := findC [(n_impl_IsValidSchema, .pure con_impl_IsValidSchema), (n_impl_isUser, .pure con_impl_isUser), (n_impl_within, .pure con_impl_within), (n_impl_MatchesSchema, .pure con_impl_MatchesSchema)]
def Γ_spec_IsValidStore : CEnv := findC [(n_spec_l01In, .pure con_spec_l01In), (n_spec_IsValidSchema, .pure con_spec_IsValidSchema), (n_spec_IsValidFile, .pure con_spec_IsValidFile)]
def Γ_impl_IsValidStore : CEnv := findC [(n_impl_within, .pure con_impl_within), (n_impl_IsValidSchema, .pure con_impl_IsValidSchema), (n_impl_IsValidFile, .pure con_impl_IsValidFile)]
def Γ_laws_sameFields : CEnv := findC []
def Γ_laws_sameAttrs : CEnv := findC []
def Γ_laws_sameFile : CEnv := findC [(n_laws_sameAttrs, .pure con_laws_sameAttrs)]
def Γ_laws_sameFiles : CEnv := findC [(n_laws_sameFile, .pure con_laws_sameFile)]
def Γ_laws_sameStore : CEnv := findC [(n_laws_sameFiles, .pure con_laws_sameFiles), (n_laws_sameFields, .pure con_laws_sameFields)]
def Γ_laws_sameInts : CEnv := findC []
def Γ_spec_l04Copy : CEnv := findC []
def Γ_impl_copyFile : CEnv := findC [(n_slices_Clone_impl_Attr, .pure con_slices_Clone_impl_Attr)]
def Γ_impl_isUser : CEnv := findC [(n_impl_within, .pure con_impl_within)]
def Γ_spec_CanRead : CEnv := findC [(n_spec_l01In, .pure con_spec_l01In)]
def Γ_impl_CanRead : CEnv := findC [(n_impl_isUser, .pure con_impl_isUser)]
def Γ_spec_CanWrite : CEnv := findC [(n_spec_l01In, .pure con_spec_l01In)]
def Γ_impl_CanWrite : CEnv := findC [(n_impl_isUser, .pure con_impl_isUser)]
def Γ_spec_l05Place : CEnv := findC []
def Γ_impl_fileAt_1 : CEnv := findC []
def Γ_slices_IndexFunc_impl_File__impl_fileAt_1 : CEnv := findC [(n_impl_fileAt_1, .pure con_impl_fileAt_1)]
def Γ_impl_fileAt : CEnv := findC [(n_slices_IndexFunc_impl_File__impl_fileAt_1, .pure con_slices_IndexFunc_impl_File__impl_fileAt_1), (n_impl_fileAt_1, .pure con_impl_fileAt_1)]
def Γ_spec_FindFile : CEnv := findC [(n_spec_l04Copy, .pure con_spec_l04Copy), (n_spec_l05Place, .pure con_spec_l05Place)]
def Γ_impl_FindFile : CEnv := findC [(n_impl_copyFile, .pure con_impl_copyFile), (n_impl_fileAt, .pure con_impl_fileAt)]
def Γ_slices_Clone_impl_Field : CEnv := findC []
def Γ_slices_Clone_impl_Attr : CEnv := findC []
def Γ_spec_FilesOwnedBy : CEnv := findC []
def Γ_impl_FilesOwnedBy : CEnv := findC []
def Γ_spec_VisibleStore : CEnv := findC [(n_spec_l05Place, .pure con_spec_l05Place), (n_spec_l04Copy, .pure con_spec_l04Copy), (n_spec_CanRead, .pure con_spec_CanRead)]
def Γ_impl_VisibleStore : CEnv := findC [(n_impl_fileAt, .pure con_impl_fileAt), (n_impl_copyFile, .pure con_impl_copyFile), (n_impl_CanRead, .pure con_impl_CanRead), (n_slices_Clone_impl_Field, .pure con_slices_Clone_impl_Field)]
def Γ_spec_SetAttr : CEnv := findC []
def Γ_spec_l04File : CEnv := findC [(n_spec_StringValue, .pure con_spec_StringValue), (n_spec_l01Pick, .eff (xmodes sh_spec_l01Pick) con_spec_l01Pick), (n_spec_SetAttr, .eff (xmodes sh_spec_SetAttr) con_spec_SetAttr), (n_spec_IntValue, .pure con_spec_IntValue), (n_spec_l01Once, .eff (xmodes sh_spec_l01Once) con_spec_l01Once), (n_spec_l01Below, .eff (xmodes sh_spec_l01Below) con_spec_l01Below)]
def Γ_spec_l04Any : CEnv := findC [(n_spec_SetAttr, .eff (xmodes sh_spec_SetAttr) con_spec_SetAttr), (n_spec_StringValue, .pure con_spec_StringValue), (n_spec_l02Any, .eff (xmodes sh_spec_l02Any) con_spec_l02Any), (n_spec_l03Name, .eff (xmodes sh_spec_l03Name) con_spec_l03Name), (n_spec_l01PickInt, .eff (xmodes sh_spec_l01PickInt) con_spec_l01PickInt), (n_spec_l04File, .eff (xmodes sh_spec_l04File) con_spec_l04File), (n_spec_l01Below, .eff (xmodes sh_spec_l01Below) con_spec_l01Below)]
def Γ_spec_NewStore : CEnv := findC []
def Γ_spec_l05Copy : CEnv := findC [(n_spec_l04Copy, .pure con_spec_l04Copy)]
def Γ_spec_CreateFile : CEnv := findC [(n_spec_IsValidFile, .pure con_spec_IsValidFile), (n_spec_IsValidStore, .pure con_spec_IsValidStore), (n_spec_l04Copy, .pure con_spec_l04Copy), (n_spec_l05Copy, .eff (xmodes sh_spec_l05Copy) con_spec_l05Copy)]
def Γ_spec_ReplaceFile : CEnv := findC [(n_spec_l04Copy, .pure con_spec_l04Copy), (n_spec_IsValidFile, .pure con_spec_IsValidFile), (n_spec_IsValidStore, .pure con_spec_IsValidStore), (n_spec_l05Place, .pure con_spec_l05Place), (n_spec_l05Copy, .eff (xmodes sh_spec_l05Copy) con_spec_l05Copy)]
def Γ_spec_DeleteFile : CEnv := findC [(n_spec_IsValidStore, .pure con_spec_IsValidStore), (n_spec_l05Place, .pure con_spec_l05Place), (n_spec_l05Copy, .eff (xmodes sh_spec_l05Copy) con_spec_l05Copy)]
def Γ_spec_l05Store : CEnv := findC [(n_spec_DeleteFile, .eff (xmodes sh_spec_DeleteFile) con_spec_DeleteFile), (n_spec_l01Once, .eff (xmodes sh_spec_l01Once) con_spec_l01Once), (n_spec_CreateFile, .eff (xmodes sh_spec_CreateFile) con_spec_CreateFile), (n_spec_l04File, .eff (xmodes sh_spec_l04File) con_spec_l04File), (n_spec_l01Below, .eff (xmodes sh_spec_l01Below) con_spec_l01Below), (n_spec_NewStore, .eff (xmodes sh_spec_NewStore) con_spec_NewStore), (n_spec_l03Usual, .eff (xmodes sh_spec_l03Usual) con_spec_l03Usual)]
def Γ_spec_l05Any : CEnv := findC [(n_spec_CreateFile, .eff (xmodes sh_spec_CreateFile) con_spec_CreateFile), (n_spec_l04File, .eff (xmodes sh_spec_l04File) con_spec_l04File), (n_spec_l03Any, .eff (xmodes sh_spec_l03Any) con_spec_l03Any), (n_spec_l04Any, .eff (xmodes sh_spec_l04Any) con_spec_l04Any), (n_spec_l01PickInt, .eff (xmodes sh_spec_l01PickInt) con_spec_l01PickInt), (n_spec_l01Below, .eff (xmodes sh_spec_l01Below) con_spec_l01Below), (n_spec_l05Store, .eff (xmodes sh_spec_l05Store) con_spec_l05Store)]
def Γ_spec_l06User : CEnv := findC [(n_spec_l01PickInt, .eff (xmodes sh_spec_l01PickInt) con_spec_l01PickInt)]
def Γ_spec_l06Hidden : CEnv := findC [(n_spec_DeleteFile, .eff (xmodes sh_spec_DeleteFile) con_spec_DeleteFile), (n_spec_ReplaceFile, .eff (xmodes sh_spec_ReplaceFile) con_spec_ReplaceFile), (n_spec_CanRead, .pure con_spec_CanRead), (n_spec_CreateFile, .eff (xmodes sh_spec_CreateFile) con_spec_CreateFile), (n_spec_l04File, .eff (xmodes sh_spec_l04File) con_spec_l04File), (n_spec_l01Below, .eff (xmodes sh_spec_l01Below) con_spec_l01Below)]
def Γ_spec_DrawCanRead : CEnv := findC [(n_spec_l06User, .eff (xmodes sh_spec_l06User) con_spec_l06User), (n_spec_l04Any, .eff (xmodes sh_spec_l04Any) con_spec_l04Any), (n_spec_l01New, .eff (xmodes sh_spec_l01New) con_spec_l01New)]
def Γ_spec_DrawVisibleStore : CEnv := findC [(n_spec_l06User, .eff (xmodes sh_spec_l06User) con_spec_l06User), (n_spec_l05Any, .eff (xmodes sh_spec_l05Any) con_spec_l05Any), (n_spec_l01New, .eff (xmodes sh_spec_l01New) con_spec_l01New)]
def Γ_spec_DrawEqualForUser : CEnv := findC [(n_spec_l06Hidden, .eff (xmodes sh_spec_l06Hidden) con_spec_l06Hidden), (n_spec_l06User, .eff (xmodes sh_spec_l06User) con_spec_l06User), (n_spec_l05Any, .eff (xmodes sh_spec_l05Any) con_spec_l05Any), (n_spec_l01Once, .eff (xmodes sh_spec_l01Once) con_spec_l01Once), (n_spec_l01Below, .eff (xmodes sh_spec_l01Below) con_spec_l01Below), (n_spec_l05Store, .eff (xmodes sh_spec_l05Store) con_spec_l05Store), (n_spec_l01New, .eff (xmodes sh_spec_l01New) con_spec_l01New)]
def Γ_spec_EqualFiles : CEnv := findC []
def Γ_impl_EqualFiles : CEnv := findC [(n_slices_Equal_impl_Attr, .pure con_slices_Equal_impl_Attr)]
def Γ_spec_l05Fields : CEnv := findC []
def Γ_spec_EqualStores : CEnv := findC [(n_spec_EqualFiles, .pure con_spec_EqualFiles), (n_spec_l05Fields, .pure con_spec_l05Fields)]
def Γ_slices_Equal_impl_Attr : CEnv := findC []
def Γ_slices_Equal_impl_Field : CEnv := findC []
def Γ_slices_EqualFunc_impl_File_impl_File__impl_EqualFiles : CEnv := findC [(n_impl_EqualFiles, .pure con_impl_EqualFiles)]
def Γ_spec_EqualForUser : CEnv := findC [(n_spec_EqualStores, .pure con_spec_EqualStores), (n_spec_VisibleStore, .pure con_spec_VisibleStore)]
def Γ_impl_EqualForUser : CEnv := findC [(n_impl_EqualFiles, .pure con_impl_EqualFiles), (n_slices_EqualFunc_impl_File_impl_File__impl_EqualFiles, .pure con_slices_EqualFunc_impl_File_impl_File__impl_EqualFiles), (n_slices_Equal_impl_Field, .pure con_slices_Equal_impl_Field), (n_impl_VisibleStore, .pure con_impl_VisibleStore)]
def Γ_laws_FnReadWrite : CEnv := findC [(n_laws_sameInts, .pure con_laws_sameInts), (n_spec_FilesOwnedBy, .pure con_spec_FilesOwnedBy), (n_impl_FilesOwnedBy, .pure con_impl_FilesOwnedBy), (n_spec_IsValidStore, .pure con_spec_IsValidStore), (n_spec_FindFile, .pure con_spec_FindFile), (n_laws_sameStore, .pure con_laws_sameStore), (n_spec_VisibleStore, .pure con_spec_VisibleStore), (n_spec_CanWrite, .pure con_spec_CanWrite), (n_impl_CanWrite, .pure con_impl_CanWrite), (n_spec_CanRead, .pure con_spec_CanRead), (n_impl_CanRead, .pure con_impl_CanRead), (n_impl_VisibleStore, .pure con_impl_VisibleStore), (n_spec_DrawVisibleStore, .eff (xmodes sh_spec_DrawVisibleStore) con_spec_DrawVisibleStore), (n_spec_DrawCanRead, .eff (xmodes sh_spec_DrawCanRead) con_spec_DrawCanRead), (n_laws_big, .pure con_laws_big)]
def Γ_laws_FnHiddenChanges : CEnv := findC [(n_laws_sameFiles, .pure con_laws_sameFiles), (n_laws_sameFields, .pure con_laws_sameFields), (n_spec_EqualForUser, .pure con_spec_EqualForUser), (n_spec_VisibleStore, .pure con_spec_VisibleStore), (n_impl_EqualForUser, .pure con_impl_EqualForUser), (n_spec_DrawEqualForUser, .eff (xmodes sh_spec_DrawEqualForUser) con_spec_DrawEqualForUser), (n_laws_big, .pure con_laws_big)]
def Γ_laws_big : CEnv := findC []
def Γ_slices_Delete_impl_File : CEnv := findC []
def Γ_impl_copyFiles : CEnv := findC [(n_impl_copyFile, .pure con_impl_copyFile)]
def Γ_impl_copyStore : CEnv := findC [(n_impl_copyFiles, .eff (xmodes sh_impl_copyFiles) con_impl_copyFiles), (n_slices_Clone_impl_Field, .pure con_slices_Clone_impl_Field)]
def Γ_impl_CreateFile : CEnv := findC [(n_impl_IsValidFile, .pure con_impl_IsValidFile), (n_impl_IsValidStore, .pure con_impl_IsValidStore), (n_impl_copyFile, .pure con_impl_copyFile), (n_impl_copyStore, .eff (xmodes sh_impl_copyStore) con_impl_copyStore)]
def Γ_impl_ReplaceFile : CEnv := findC [(n_impl_copyFile, .pure con_impl_copyFile), (n_impl_IsValidFile, .pure con_impl_IsValidFile), (n_impl_IsValidStore, .pure con_impl_IsValidStore), (n_impl_fileAt, .pure con_impl_fileAt), (n_impl_copyStore, .eff (xmodes sh_impl_copyStore) con_impl_copyStore)]
def Γ_impl_DeleteFile : CEnv := findC [(n_slices_Delete_impl_File, .eff (xmodes sh_slices_Delete_impl_File) con_slices_Delete_impl_File), (n_impl_IsValidStore, .pure con_impl_IsValidStore), (n_impl_fileAt, .pure con_impl_fileAt), (n_impl_copyStore, .eff (xmodes sh_impl_copyStore) con_impl_copyStore)]
def Γ_impl_NewStore : CEnv := findC [(n_slices_Clone_impl_Field, .pure con_slices_Clone_impl_Field)]
def Γ_impl_FileIDs : CEnv := findC []
def Γ_spec_FileIDs : CEnv := findC []
def Γ_impl_EqualStores : CEnv := findC [(n_impl_EqualFiles, .pure con_impl_EqualFiles), (n_slices_EqualFunc_impl_File_impl_File__impl_EqualFiles, .pure con_slices_EqualFunc_impl_File_impl_File__impl_EqualFiles), (n_slices_Equal_impl_Field, .pure con_slices_Equal_impl_Field)]
def Γ_spec_l05Id : CEnv := findC [(n_spec_l01PickInt, .eff (xmodes sh_spec_l01PickInt) con_spec_l01PickInt)]
def Γ_spec_DrawFindFile : CEnv := findC [(n_spec_l05Id, .eff (xmodes sh_spec_l05Id) con_spec_l05Id), (n_spec_l05Any, .eff (xmodes sh_spec_l05Any) con_spec_l05Any), (n_spec_l01New, .eff (xmodes sh_spec_l01New) con_spec_l01New)]
def Γ_spec_DrawDeleteFile : CEnv := findC [(n_spec_DrawFindFile, .eff (xmodes sh_spec_DrawFindFile) con_spec_DrawFindFile)]
def Γ_spec_DrawReplaceFile : CEnv := findC [(n_spec_l04Any, .eff (xmodes sh_spec_l04Any) con_spec_l04Any), (n_spec_l05Any, .eff (xmodes sh_spec_l05Any) con_spec_l05Any), (n_spec_l01New, .eff (xmodes sh_spec_l01New) con_spec_l01New)]
def Γ_spec_DrawCreateFile : CEnv := findC [(n_spec_DrawReplaceFile, .eff (xmodes sh_spec_DrawReplaceFile) con_spec_DrawReplaceFile)]
def Γ_spec_DrawFileIDs : CEnv := findC [(n_spec_l05Any, .eff (xmodes sh_spec_l05Any) con_spec_l05Any), (n_spec_l01New, .eff (xmodes sh_spec_l01New) con_spec_l01New)]
def Γ_spec_DrawEqualStores : CEnv := findC [(n_spec_l05Copy, .eff (xmodes sh_spec_l05Copy) con_spec_l05Copy), (n_spec_l01Once, .eff (xmodes sh_spec_l01Once) con_spec_l01Once), (n_spec_l05Any, .eff (xmodes sh_spec_l05Any) con_spec_l05Any), (n_spec_l01New, .eff (xmodes sh_spec_l01New) con_spec_l01New)]
def Γ_spec_DefaultSchema : CEnv := findC [(n_spec_l03Usual, .eff (xmodes sh_spec_l03Usual) con_spec_l03Usual)]
def Γ_laws_sampleStore : CEnv := findC [(n_spec_CreateFile, .eff (xmodes sh_spec_CreateFile) con_spec_CreateFile), (n_spec_SetAttr, .eff (xmodes sh_spec_SetAttr) con_spec_SetAttr), (n_spec_IntValue, .pure con_spec_IntValue), (n_spec_NewStore, .eff (xmodes sh_spec_NewStore) con_spec_NewStore), (n_spec_DefaultSchema, .eff (xmodes sh_spec_DefaultSchema) con_spec_DefaultSchema)]
def Γ_laws_FnStoreFind : CEnv := findC [(n_laws_sameFile, .pure con_laws_sameFile), (n_impl_IsValidStore, .pure con_impl_IsValidStore), (n_impl_FindFile, .pure con_impl_FindFile), (n_laws_sameStore, .pure con_laws_sameStore), (n_spec_DeleteFile, .eff (xmodes sh_spec_DeleteFile) con_spec_DeleteFile), (n_impl_DeleteFile, .eff (xmodes sh_impl_DeleteFile) con_impl_DeleteFile), (n_spec_DrawDeleteFile, .eff (xmodes sh_spec_DrawDeleteFile) con_spec_DrawDeleteFile), (n_spec_ReplaceFile, .eff (xmodes sh_spec_ReplaceFile) con_spec_ReplaceFile), (n_impl_ReplaceFile, .eff (xmodes sh_impl_ReplaceFile) con_impl_ReplaceFile), (n_spec_DrawReplaceFile, .eff (xmodes sh_spec_DrawReplaceFile) con_spec_DrawReplaceFile), (n_spec_CreateFile, .eff (xmodes sh_spec_CreateFile) con_spec_CreateFile), (n_impl_CreateFile, .eff (xmodes sh_impl_CreateFile) con_impl_CreateFile), (n_spec_DrawCreateFile, .eff (xmodes sh_spec_DrawCreateFile) con_spec_DrawCreateFile), (n_laws_big, .pure con_laws_big)]
def Γ_laws_FnStoreIDs : CEnv := findC [(n_impl_DeleteFile, .eff (xmodes sh_impl_DeleteFile) con_impl_DeleteFile), (n_impl_CreateFile, .eff (xmodes sh_impl_CreateFile) con_impl_CreateFile), (n_laws_sampleStore, .eff (xmodes sh_laws_sampleStore) con_laws_sampleStore), (n_spec_IsValidStore, .pure con_spec_IsValidStore), (n_impl_IsValidStore, .pure con_impl_IsValidStore), (n_spec_NewStore, .eff (xmodes sh_spec_NewStore) con_spec_NewStore), (n_impl_NewStore, .pure con_impl_NewStore), (n_laws_sameStore, .pure con_laws_sameStore), (n_impl_EqualStores, .pure con_impl_EqualStores), (n_laws_sameInts, .pure con_laws_sameInts), (n_spec_FileIDs, .pure con_spec_FileIDs), (n_impl_FileIDs, .pure con_impl_FileIDs), (n_spec_DrawNewStore, .eff (xmodes sh_spec_DrawNewStore) con_spec_DrawNewStore), (n_spec_DrawEqualStores, .eff (xmodes sh_spec_DrawEqualStores) con_spec_DrawEqualStores), (n_spec_DrawFileIDs, .eff (xmodes sh_spec_DrawFileIDs) con_spec_DrawFileIDs), (n_laws_big, .pure con_laws_big)]
end Go.Proofs.Try
