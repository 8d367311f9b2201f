import Derived.Test.YtlhclabldgampaaGreatDoorN
import Derived.Test.YtlhclabldgampaaGreatDoorSp
namespace Go.Proofs.Tryz
open Go Go.Fw
def sh_strconv_Itoa : List PSh := [.v (.one (.int .i64))]
def rsh_strconv_Itoa : List VSh := [.one (.str)]
def F_strconv_Itoa : psDen sh_strconv_Itoa → Prop × vsDen rsh_strconv_Itoa := fun (n, ()) => (-9223372036854775808 ≤ n ∧ n ≤ 9223372036854775807, Lib.itoa n, ())
def con_strconv_Itoa : Con := conR sh_strconv_Itoa rsh_strconv_Itoa F_strconv_Itoa
def sh_strings_Join : List PSh := [.v (.one (.sl T_string R_9 false)), .v (.one (.str))]
def rsh_strings_Join : List VSh := [.one (.str)]
def F_strings_Join : psDen sh_strings_Join → Prop × vsDen rsh_strings_Join := fun (l, sep, ()) => (l.length ≤ 140737488355328 ∧ (Lib.join (l.map (·.1)) sep).length ≤ 140737488355328, Lib.join (l.map (·.1)) sep, ())
def con_strings_Join : Con := conR sh_strings_Join rsh_strings_Join F_strings_Join
def sh_impl_FormatInt : List PSh := [.v (.one (.int .i64))]
def rsh_impl_FormatInt : List VSh := [.one (.str)]
def F_impl_FormatInt : psDen sh_impl_FormatInt → Prop × vsDen rsh_impl_FormatInt := fun (n, ()) => (True, Lib.itoa n, ())
def con_impl_FormatInt : Con := conR sh_impl_FormatInt rsh_impl_FormatInt F_impl_FormatInt
def sh_impl_within : List PSh := [.v (.one (.int .i64)), .v (.one (.int .i64)), .v (.one (.int .i64))]
def rsh_impl_within : List VSh := [.one (.bool)]
def F_impl_within : psDen sh_impl_within → Prop × vsDen rsh_impl_within := fun (x, a, b, ()) => (True, (decide (a ≤ x) && decide (x ≤ b)), ())
def con_impl_within : Con := conR sh_impl_within rsh_impl_within F_impl_within
def sh_impl_IsValidString : List PSh := [.v (.one (.str))]
def rsh_impl_IsValidString : List VSh := [.one (.bool)]
def F_impl_IsValidString : psDen sh_impl_IsValidString → Prop × vsDen rsh_impl_IsValidString := fun (s, ()) => (True, Sp.validStr s, ())
def con_impl_IsValidString : Con := conR sh_impl_IsValidString rsh_impl_IsValidString F_impl_IsValidString
def sh_impl_IsValidAction : List PSh := [.v (.agg [.int .i64, .int .i64, .sl T_impl_Change R_33 false, .str, .int .i64])]
def rsh_impl_IsValidAction : List VSh := [.one (.bool)]
def F_impl_IsValidAction : psDen sh_impl_IsValidAction → Prop × vsDen rsh_impl_IsValidAction := fun ((k, u, c, n, a, ()), ()) => (True, Sp.validAct k c.length, ())
def con_impl_IsValidAction : Con := conR sh_impl_IsValidAction rsh_impl_IsValidAction F_impl_IsValidAction
def sh_impl_areNumbers_1 : List PSh := [.v (.one (.int .i64))]
def rsh_impl_areNumbers_1 : List VSh := [.one (.bool)]
def F_impl_areNumbers_1 : psDen sh_impl_areNumbers_1 → Prop × vsDen rsh_impl_areNumbers_1 := fun (n, ()) => (True, !Sp.isUint n, ())
def con_impl_areNumbers_1 : Con := conR sh_impl_areNumbers_1 rsh_impl_areNumbers_1 F_impl_areNumbers_1
def sh_slices_IndexFunc_int__impl_areNumbers_1 : List PSh := [.v (.one (.sl T_int R_3 false)), .fn 63 []]
def rsh_slices_IndexFunc_int__impl_areNumbers_1 : List VSh := [.one (.int .i64)]
def F_slices_IndexFunc_int__impl_areNumbers_1 : psDen sh_slices_IndexFunc_int__impl_areNumbers_1 → Prop × vsDen rsh_slices_IndexFunc_int__impl_areNumbers_1 := fun (l, _, ()) => (True, Sp.idxOf l, ())
def con_slices_IndexFunc_int__impl_areNumbers_1 : Con := conR sh_slices_IndexFunc_int__impl_areNumbers_1 rsh_slices_IndexFunc_int__impl_areNumbers_1 F_slices_IndexFunc_int__impl_areNumbers_1
def sh_slices_ContainsFunc_int__impl_areNumbers_1 : List PSh := [.v (.one (.sl T_int R_3 false)), .fn 63 []]
def rsh_slices_ContainsFunc_int__impl_areNumbers_1 : List VSh := [.one (.bool)]
def F_slices_ContainsFunc_int__impl_areNumbers_1 : psDen sh_slices_ContainsFunc_int__impl_areNumbers_1 → Prop × vsDen rsh_slices_ContainsFunc_int__impl_areNumbers_1 := fun (l, _, ()) => (True, !Sp.areUints l, ())
def con_slices_ContainsFunc_int__impl_areNumbers_1 : Con := conR sh_slices_ContainsFunc_int__impl_areNumbers_1 rsh_slices_ContainsFunc_int__impl_areNumbers_1 F_slices_ContainsFunc_int__impl_areNumbers_1
def sh_impl_areNumbers : List PSh := [.v (.one (.sl T_int R_3 false))]
def rsh_impl_areNumbers : List VSh := [.one (.bool)]
def F_impl_areNumbers : psDen sh_impl_areNumbers → Prop × vsDen rsh_impl_areNumbers := fun (l, ()) => (True, Sp.areUints l, ())
def con_impl_areNumbers : Con := conR sh_impl_areNumbers rsh_impl_areNumbers F_impl_areNumbers
def sh_impl_FormatAction : List PSh := [.v (.agg [.int .i64, .int .i64, .sl T_impl_Change R_33 false, .str, .int .i64])]
def rsh_impl_FormatAction : List VSh := [.one (.str)]
def F_impl_FormatAction : psDen sh_impl_FormatAction → Prop × vsDen rsh_impl_FormatAction := fun ((k, u, c, n, a, ()), ()) => (n.length ≤ 1048576, Sp.actionText k u c.length n a, ())
def con_impl_FormatAction : Con := conR sh_impl_FormatAction rsh_impl_FormatAction F_impl_FormatAction
def sh_strings_Fields : List PSh := [.v (.one (.str))]
def rsh_strings_Fields : List VSh := [.one (.sl T_string R_9 true)]
def F_strings_Fields : psDen sh_strings_Fields → Prop × vsDen rsh_strings_Fields := fun (s, ()) => (s.length ≤ 1048576 ∧ Sp.asciiS s = true, Sp.wordsOf s, ())
def con_strings_Fields : Con := conR sh_strings_Fields rsh_strings_Fields F_strings_Fields
def sh_impl_ParseUint : List PSh := [.v (.one (.str))]
def rsh_impl_ParseUint : List VSh := [.one (.int .i64), .one (.bool)]
def F_impl_ParseUint : psDen sh_impl_ParseUint → Prop × vsDen rsh_impl_ParseUint := fun (s, ()) => (True, Sp.parseNum s, Sp.parseOk s, ())
def con_impl_ParseUint : Con := conR sh_impl_ParseUint rsh_impl_ParseUint F_impl_ParseUint
def sh_impl_SplitFields : List PSh := [.v (.one (.str))]
def rsh_impl_SplitFields : List VSh := [.one (.sl T_string R_9 true), .one (.bool)]
def F_impl_SplitFields : psDen sh_impl_SplitFields → Prop × vsDen rsh_impl_SplitFields := fun (s, ()) => (s.length ≤ 1048576, Sp.splitF s, Sp.splitOk s, ())
def con_impl_SplitFields : Con := conR sh_impl_SplitFields rsh_impl_SplitFields F_impl_SplitFields
def sh_impl_wordAt : List PSh := [.v (.one (.sl T_string R_9 false)), .v (.one (.int .i64))]
def rsh_impl_wordAt : List VSh := [.one (.str)]
def F_impl_wordAt : psDen sh_impl_wordAt → Prop × vsDen rsh_impl_wordAt := fun (w, i, ()) => (0 ≤ i, Sp.wordAt w i, ())
def con_impl_wordAt : Con := conR sh_impl_wordAt rsh_impl_wordAt F_impl_wordAt
def sh_impl_numberAt : List PSh := [.v (.one (.sl T_string R_9 false)), .v (.one (.int .i64))]
def rsh_impl_numberAt : List VSh := [.one (.int .i64), .one (.bool)]
def F_impl_numberAt : psDen sh_impl_numberAt → Prop × vsDen rsh_impl_numberAt := fun (w, i, ()) => (0 ≤ i, Sp.numAt w i, Sp.parseOk (Sp.wordAt w i), ())
def con_impl_numberAt : Con := conR sh_impl_numberAt rsh_impl_numberAt F_impl_numberAt
def sh_slices_Equal_string : List PSh := [.v (.one (.sl T_string R_9 false)), .v (.one (.sl T_string R_9 false))]
def rsh_slices_Equal_string : List VSh := [.one (.bool)]
def F_slices_Equal_string : psDen sh_slices_Equal_string → Prop × vsDen rsh_slices_Equal_string := fun (a, b, ()) => (True, decide (a = b), ())
def con_slices_Equal_string : Con := conR sh_slices_Equal_string rsh_slices_Equal_string F_slices_Equal_string
def sh_impl_sameFields : List PSh := [.v (.one (.str)), .v (.one (.sl T_string R_9 false))]
def rsh_impl_sameFields : List VSh := [.one (.bool)]
def F_impl_sameFields : psDen sh_impl_sameFields → Prop × vsDen rsh_impl_sameFields := fun (s, w, ()) => (s.length ≤ 1048576 ∧ Sp.asciiS s = true, (!(s == []) && decide (Sp.wordsOf s = w)), ())
def con_impl_sameFields : Con := conR sh_impl_sameFields rsh_impl_sameFields F_impl_sameFields
def sh_impl_ParseAction : List PSh := [.v (.one (.str))]
def rsh_impl_ParseAction : List VSh := [.agg [.int .i64, .int .i64, .sl T_impl_Change R_33 true, .str, .int .i64], .one (.bool)]
def F_impl_ParseAction : psDen sh_impl_ParseAction → Prop × vsDen rsh_impl_ParseAction := fun (s, ()) => (s.length ≤ 1048576, Sp.parseAct s, Sp.parseActOk s, ())
def con_impl_ParseAction : Con := conR sh_impl_ParseAction rsh_impl_ParseAction F_impl_ParseAction
def sh_spec_l01New : List XSh := [.p (.v (.one (.sl T_uint8 R_5 false)))]
def psh_spec_l01New : List CSh := [.sl T_uint8 R_5 false, .int .i64, .int .i64]
def F_spec_l01New : xsDen sh_spec_l01New → Prop × (csDen psh_spec_l01New → Prop) := fun (code, ()) => (code.length ≤ 1048576, fun (b, i, h, ()) => i = 0)
def con_spec_l01New : XCon := conP sh_spec_l01New psh_spec_l01New F_spec_l01New
def sh_spec_l01Byte : List XSh := [.ptr [.sl T_uint8 R_5 false, .int .i64, .int .i64]]
def rsh_spec_l01Byte : List RSh := [.one (.c (.int .i64))]
def F_spec_l01Byte : xsDen sh_spec_l01Byte → Prop × (rsDen rsh_spec_l01Byte × bkDen sh_spec_l01Byte → Prop) := fun ((b, i, h, ()), ()) => (0 ≤ i, fun ((x, ()), ((b', i', h', ()), ())) => 0 ≤ i' ∧ 0 ≤ x ∧ x ≤ 255)
def con_spec_l01Byte : XCon := conX sh_spec_l01Byte rsh_spec_l01Byte F_spec_l01Byte
def sh_spec_l01Below : List XSh := [.ptr [.sl T_uint8 R_5 false, .int .i64, .int .i64], .p (.v (.one (.int .i64)))]
def rsh_spec_l01Below : List RSh := [.one (.c (.int .i64))]
def F_spec_l01Below : xsDen sh_spec_l01Below → Prop × (rsDen rsh_spec_l01Below × bkDen sh_spec_l01Below → Prop) := fun ((b, i, h, ()), n, ()) => (0 ≤ i, fun ((x, ()), ((b', i', h', ()), ())) => 0 ≤ i' ∧ 0 ≤ x ∧ (0 < n → x < n) ∧ (n ≤ 0 → x = 0))
def con_spec_l01Below : XCon := conX sh_spec_l01Below rsh_spec_l01Below F_spec_l01Below
def sh_impl_IsValidValue : List PSh := [.v (.agg [.int .i64, .int .i64, .str])]
def rsh_impl_IsValidValue : List VSh := [.one (.bool)]
def F_impl_IsValidValue : psDen sh_impl_IsValidValue → Prop × vsDen rsh_impl_IsValidValue := fun ((k, n, s, ()), ()) => (True, Sp.okValue k n s, ())
def con_impl_IsValidValue : Con := conR sh_impl_IsValidValue rsh_impl_IsValidValue F_impl_IsValidValue
def sh_impl_IsValidAttrName : List PSh := [.v (.one (.str))]
def rsh_impl_IsValidAttrName : List VSh := [.one (.bool)]
def F_impl_IsValidAttrName : psDen sh_impl_IsValidAttrName → Prop × vsDen rsh_impl_IsValidAttrName := fun (s, ()) => (True, Sp.okName s, ())
def con_impl_IsValidAttrName : Con := conR sh_impl_IsValidAttrName rsh_impl_IsValidAttrName F_impl_IsValidAttrName
def sh_impl_EqualFiles : List PSh := [.v (.agg [.int .i64, .int .i64, .bool, .int .i64, .sl T_impl_Attr R_74 false]), .v (.agg [.int .i64, .int .i64, .bool, .int .i64, .sl T_impl_Attr R_74 false])]
def rsh_impl_EqualFiles : List VSh := [.one (.bool)]
def F_impl_EqualFiles : psDen sh_impl_EqualFiles → Prop × vsDen rsh_impl_EqualFiles := fun (a, b, ()) => (True, decide (a = b), ())
def con_impl_EqualFiles : Con := conR sh_impl_EqualFiles rsh_impl_EqualFiles F_impl_EqualFiles
def sh_slices_Equal_impl_Attr : List PSh := [.v (.one (.sl T_impl_Attr R_74 false)), .v (.one (.sl T_impl_Attr R_74 false))]
def rsh_slices_Equal_impl_Attr : List VSh := [.one (.bool)]
def F_slices_Equal_impl_Attr : psDen sh_slices_Equal_impl_Attr → Prop × vsDen rsh_slices_Equal_impl_Attr := fun (a, b, ()) => (True, decide (a = b), ())
def con_slices_Equal_impl_Attr : Con := conR sh_slices_Equal_impl_Attr rsh_slices_Equal_impl_Attr F_slices_Equal_impl_Attr
def sh_laws_big : List PSh := [.v (.one (.sl T_uint8 R_5 false))]
def rsh_laws_big : List VSh := [.one (.bool)]
def F_laws_big : psDen sh_laws_big → Prop × vsDen rsh_laws_big := fun (code, ()) => (True, decide (1048576 < (code.length : Int)), ())
def con_laws_big : Con := conR sh_laws_big rsh_laws_big F_laws_big
def sh_spec_DrawPlaces : List XSh := [.p (.v (.one (.sl T_uint8 R_5 false)))]
def rsh_spec_DrawPlaces : List RSh := [.one (.c (.sl T_int R_3 true))]
def F_spec_DrawPlaces : xsDen sh_spec_DrawPlaces → Prop × (rsDen rsh_spec_DrawPlaces × bkDen sh_spec_DrawPlaces → Prop) := fun (code, ()) => (code.length ≤ 1048576, fun ((p, ()), ()) => p.length = 12 ∧ ∀ i, i < 12 → 0 ≤ (p.getD i (0, ())).1 ∧ (p.getD i (0, ())).1 < 10000)
def con_spec_DrawPlaces : XCon := conX sh_spec_DrawPlaces rsh_spec_DrawPlaces F_spec_DrawPlaces
def sh_strings_Split : List PSh := [.v (.one (.str)), .v (.one (.str))]
def rsh_strings_Split : List VSh := [.one (.sl T_string R_9 true)]
def F_strings_Split : psDen sh_strings_Split → Prop × vsDen rsh_strings_Split := fun (s, sep, ()) => (s.length ≤ 1048576 ∧ sep = [10], Sp.linesOf s, ())
def con_strings_Split : Con := conR sh_strings_Split rsh_strings_Split F_strings_Split
def sh_impl_fileIn : List PSh := [.v (.one (.sl T_string R_9 false))]
def rsh_impl_fileIn : List VSh := [.agg [.int .i64, .int .i64, .bool, .int .i64, .sl T_impl_Attr R_74 true], .one (.bool)]
def F_impl_fileIn : psDen sh_impl_fileIn → Prop × vsDen rsh_impl_fileIn := fun (w, ()) => (False, (0, 0, false, 0, [], ()), false, ())
def con_impl_fileIn : Con := conR sh_impl_fileIn rsh_impl_fileIn F_impl_fileIn
def sh_impl_ParseQuery : List PSh := [.v (.one (.str))]
def rsh_impl_ParseQuery : List VSh := [.one (.sl T_impl_Node R_107 true), .one (.bool)]
def F_impl_ParseQuery : psDen sh_impl_ParseQuery → Prop × vsDen rsh_impl_ParseQuery := fun (s, ()) => (False, [], false, ())
def con_impl_ParseQuery : Con := conR sh_impl_ParseQuery rsh_impl_ParseQuery F_impl_ParseQuery
def sh_impl_FormatFile : List PSh := [.v (.agg [.int .i64, .int .i64, .bool, .int .i64, .sl T_impl_Attr R_74 false])]
def rsh_impl_FormatFile : List VSh := [.one (.str)]
def F_impl_FormatFile : psDen sh_impl_FormatFile → Prop × vsDen rsh_impl_FormatFile := fun (f, ()) => (False, [], ())
def con_impl_FormatFile : Con := conR sh_impl_FormatFile rsh_impl_FormatFile F_impl_FormatFile
def sh_impl_FormatQuery : List PSh := [.v (.one (.sl T_impl_Node R_107 false))]
def rsh_impl_FormatQuery : List VSh := [.one (.str)]
def F_impl_FormatQuery : psDen sh_impl_FormatQuery → Prop × vsDen rsh_impl_FormatQuery := fun (q, ()) => (False, [], ())
def con_impl_FormatQuery : Con := conR sh_impl_FormatQuery rsh_impl_FormatQuery F_impl_FormatQuery
def sh_impl_IsValidQuery : List PSh := [.v (.one (.sl T_impl_Node R_107 false))]
def rsh_impl_IsValidQuery : List VSh := [.one (.bool)]
def F_impl_IsValidQuery : psDen sh_impl_IsValidQuery → Prop × vsDen rsh_impl_IsValidQuery := fun (q, ()) => (False, false, ())
def con_impl_IsValidQuery : Con := conR sh_impl_IsValidQuery rsh_impl_IsValidQuery F_impl_IsValidQuery
def sh_impl_PostorderQuery : List PSh := [.v (.one (.sl T_impl_Node R_107 false))]
def rsh_impl_PostorderQuery : List VSh := [.one (.sl T_impl_Node R_107 true)]
def F_impl_PostorderQuery : psDen sh_impl_PostorderQuery → Prop × vsDen rsh_impl_PostorderQuery := fun (q, ()) => (False, [], ())
def con_impl_PostorderQuery : Con := conR sh_impl_PostorderQuery rsh_impl_PostorderQuery F_impl_PostorderQuery
def sh_slices_Equal_impl_Node : List PSh := [.v (.one (.sl T_impl_Node R_107 false)), .v (.one (.sl T_impl_Node R_107 false))]
def rsh_slices_Equal_impl_Node : List VSh := [.one (.bool)]
def F_slices_Equal_impl_Node : psDen sh_slices_Equal_impl_Node → Prop × vsDen rsh_slices_Equal_impl_Node := fun (a, b, ()) => (True, decide (a = b), ())
def con_slices_Equal_impl_Node : Con := conR sh_slices_Equal_impl_Node rsh_slices_Equal_impl_Node F_slices_Equal_impl_Node
def sh_impl_EqualQueries : List PSh := [.v (.one (.sl T_impl_Node R_107 false)), .v (.one (.sl T_impl_Node R_107 false))]
def rsh_impl_EqualQueries : List VSh := [.one (.bool)]
def F_impl_EqualQueries : psDen sh_impl_EqualQueries → Prop × vsDen rsh_impl_EqualQueries := fun (a, b, ()) => (True, decide (a = b), ())
def con_impl_EqualQueries : Con := conR sh_impl_EqualQueries rsh_impl_EqualQueries F_impl_EqualQueries
def sh_impl_FormatChange : List PSh := [.v (.agg [.int .i64, .int .i64, .int .i64, .bool, .int .i64, .sl T_impl_Attr R_74 false, .int .i64, .str, .sl T_impl_Node R_107 false])]
def rsh_impl_FormatChange : List VSh := [.one (.str)]
def F_impl_FormatChange : psDen sh_impl_FormatChange → Prop × vsDen rsh_impl_FormatChange := fun ((k, i, o, sh, l, a, id, nm, q, ()), ()) => ((k = 3 ∨ k = 0) ∧ i = 0 ∧ o = 0 ∧ sh = false ∧ l = 0 ∧ a = [] ∧ nm = [] ∧ q = [], Sp.chgText k id, ())
def con_impl_FormatChange : Con := conR sh_impl_FormatChange rsh_impl_FormatChange F_impl_FormatChange
def sh_impl_ParseChange : List PSh := [.v (.one (.str))]
def rsh_impl_ParseChange : List VSh := [.agg [.int .i64, .int .i64, .int .i64, .bool, .int .i64, .sl T_impl_Attr R_74 true, .int .i64, .str, .sl T_impl_Node R_107 true], .one (.bool)]
def F_impl_ParseChange : psDen sh_impl_ParseChange → Prop × vsDen rsh_impl_ParseChange := fun (s, ()) => (s.length ≤ 1048576 ∧ Sp.simpleW (Sp.wordsOf s) = true, Sp.parseChg s, Sp.parseChgOk s, ())
def con_impl_ParseChange : Con := conR sh_impl_ParseChange rsh_impl_ParseChange F_impl_ParseChange
def sh_impl_ParseScript : List PSh := [.v (.one (.str))]
def rsh_impl_ParseScript : List VSh := [.one (.sl T_impl_Action R_39 true), .one (.int .i64)]
def F_impl_ParseScript : psDen sh_impl_ParseScript → Prop × vsDen rsh_impl_ParseScript := fun (text, ()) => (text.length ≤ 1048576 ∧ Sp.simpleT text = true, (Sp.script text).1, (Sp.script text).2, ())
def con_impl_ParseScript : Con := conR sh_impl_ParseScript rsh_impl_ParseScript F_impl_ParseScript
def sh_laws_FnScriptLimits : List PSh := [.v (.one (.sl T_uint8 R_5 false))]
def rsh_laws_FnScriptLimits : List VSh := [.one (.bool)]
def F_laws_FnScriptLimits : psDen sh_laws_FnScriptLimits → Prop × vsDen rsh_laws_FnScriptLimits := fun (code, ()) => (True, true, ())
def con_laws_FnScriptLimits : Con := conR sh_laws_FnScriptLimits rsh_laws_FnScriptLimits F_laws_FnScriptLimits
def Γ_strconv_Itoa : CEnv := findC []
def Γ_strings_Join : CEnv := findC []
def Γ_impl_FormatInt : CEnv := findC [(n_strconv_Itoa, .pure con_strconv_Itoa)]
def Γ_impl_within : CEnv := findC []
def Γ_impl_IsValidString : CEnv := findC [(n_impl_within, .pure con_impl_within)]
def Γ_impl_IsValidAction : CEnv := findC [(n_impl_within, .pure con_impl_within)]
def Γ_impl_areNumbers_1 : CEnv := findC [(n_impl_within, .pure con_impl_within)]
def Γ_slices_IndexFunc_int__impl_areNumbers_1 : CEnv := findC [(n_impl_areNumbers_1, .pure con_impl_areNumbers_1)]
def Γ_slices_ContainsFunc_int__impl_areNumbers_1 : CEnv := findC [(n_slices_IndexFunc_int__impl_areNumbers_1, .pure con_slices_IndexFunc_int__impl_areNumbers_1), (n_impl_areNumbers_1, .pure con_impl_areNumbers_1)]
def Γ_impl_areNumbers : CEnv := findC [(n_impl_areNumbers_1, .pure con_impl_areNumbers_1), (n_slices_ContainsFunc_int__impl_areNumbers_1, .pure con_slices_ContainsFunc_int__impl_areNumbers_1)]
def Γ_impl_FormatAction : CEnv := findC [(n_strings_Join, .pure con_strings_Join), (n_impl_IsValidString, .pure con_impl_IsValidString), (n_impl_areNumbers, .pure con_impl_areNumbers), (n_impl_IsValidAction, .pure con_impl_IsValidAction), (n_impl_FormatInt, .pure con_impl_FormatInt)]
def Γ_strings_Fields : CEnv := findC []
def Γ_impl_ParseUint : CEnv := findC [(n_impl_FormatInt, .pure con_impl_FormatInt), (n_impl_within, .pure con_impl_within)]
def Γ_impl_SplitFields : CEnv := findC [(n_strings_Fields, .pure con_strings_Fields), (n_impl_within, .pure con_impl_within)]
def Γ_impl_wordAt : CEnv := findC []
def Γ_impl_numberAt : CEnv := findC [(n_impl_ParseUint, .pure con_impl_ParseUint), (n_impl_wordAt, .pure con_impl_wordAt)]
def Γ_slices_Equal_string : CEnv := findC []
def Γ_impl_sameFields : CEnv := findC [(n_slices_Equal_string, .pure con_slices_Equal_string), (n_strings_Fields, .pure con_strings_Fields)]
def Γ_impl_ParseAction : CEnv := findC [(n_impl_sameFields, .pure con_impl_sameFields), (n_impl_FormatAction, .pure con_impl_FormatAction), (n_impl_wordAt, .pure con_impl_wordAt), (n_impl_numberAt, .pure con_impl_numberAt), (n_impl_SplitFields, .pure con_impl_SplitFields)]
def Γ_spec_l01New : CEnv := findC []
def Γ_spec_l01Byte : CEnv := findC []
def Γ_spec_l01Below : CEnv := findC [(n_spec_l01Byte, .eff (xmodes sh_spec_l01Byte) con_spec_l01Byte)]
def Γ_impl_IsValidValue : CEnv := findC [(n_impl_IsValidString, .pure con_impl_IsValidString), (n_impl_within, .pure con_impl_within)]
def Γ_impl_IsValidAttrName : CEnv := findC []
def Γ_impl_EqualFiles : CEnv := findC [(n_slices_Equal_impl_Attr, .pure con_slices_Equal_impl_Attr)]
def Γ_slices_Equal_impl_Attr : CEnv := findC []
def Γ_laws_big : CEnv := findC []
def Γ_spec_DrawPlaces : CEnv := findC [(n_spec_l01Below, .eff (xmodes sh_spec_l01Below) con_spec_l01Below), (n_spec_l01New, .eff (xmodes sh_spec_l01New) con_spec_l01New)]
def Γ_strings_Split : CEnv := findC []
def Γ_impl_fileIn : CEnv := findC [(n_impl_ParseUint, .pure con_impl_ParseUint)]
def Γ_impl_ParseQuery : CEnv := findC [(n_impl_IsValidQuery, .pure con_impl_IsValidQuery), (n_impl_SplitFields, .pure con_impl_SplitFields)]
def Γ_impl_FormatFile : CEnv := findC [(n_strings_Join, .pure con_strings_Join), (n_impl_FormatInt, .pure con_impl_FormatInt)]
def Γ_impl_FormatQuery : CEnv := findC [(n_impl_IsValidQuery, .pure con_impl_IsValidQuery)]
def Γ_impl_IsValidQuery : CEnv := findC [(n_impl_within, .pure con_impl_within)]
def Γ_impl_PostorderQuery : CEnv := findC [(n_impl_ParseQuery, .pure con_impl_ParseQuery), (n_impl_FormatQuery, .pure con_impl_FormatQuery)]
def Γ_slices_Equal_impl_Node : CEnv := findC []
def Γ_impl_EqualQueries : CEnv := findC [(n_slices_Equal_impl_Node, .pure con_slices_Equal_impl_Node)]
def Γ_impl_FormatChange : CEnv := findC [(n_strings_Join, .pure con_strings_Join), (n_impl_IsValidValue, .pure con_impl_IsValidValue), (n_impl_IsValidAttrName, .pure con_impl_IsValidAttrName), (n_impl_areNumbers, .pure con_impl_areNumbers), (n_impl_EqualFiles, .pure con_impl_EqualFiles), (n_impl_EqualQueries, .pure con_impl_EqualQueries), (n_impl_PostorderQuery, .pure con_impl_PostorderQuery), (n_impl_IsValidQuery, .pure con_impl_IsValidQuery), (n_impl_IsValidString, .pure con_impl_IsValidString), (n_impl_FormatQuery, .pure con_impl_FormatQuery), (n_impl_FormatInt, .pure con_impl_FormatInt), (n_strings_Split, .pure con_strings_Split), (n_impl_FormatFile, .pure con_impl_FormatFile)]
def Γ_impl_ParseChange : CEnv := findC [(n_impl_sameFields, .pure con_impl_sameFields), (n_impl_FormatChange, .pure con_impl_FormatChange), (n_impl_ParseQuery, .pure con_impl_ParseQuery), (n_strings_Join, .pure con_strings_Join), (n_impl_wordAt, .pure con_impl_wordAt), (n_impl_numberAt, .pure con_impl_numberAt), (n_impl_fileIn, .pure con_impl_fileIn), (n_impl_SplitFields, .pure con_impl_SplitFields)]
def Γ_impl_ParseScript : CEnv := findC [(n_impl_ParseAction, .pure con_impl_ParseAction), (n_impl_ParseChange, .pure con_impl_ParseChange), (n_impl_SplitFields, .pure con_impl_SplitFields), (n_strings_Split, .pure con_strings_Split)]
def Γ_laws_FnScriptLimits : CEnv := findC [(n_impl_ParseScript, .pure con_impl_ParseScript), (n_spec_DrawPlaces, .eff (xmodes sh_spec_DrawPlaces) con_spec_DrawPlaces), (n_laws_big, .pure con_laws_big)]
end Go.Proofs.Tryz
