import Derived.Test.YtlhclabldgampaaDoorN
import Derived.Test.YtlhclabldgampaaDoorSp
namespace Go.Proofs.Tryd
open Go Go.Fw
def sh_strconv_Itoa : List PSh := [.v (.one (.int .i64))]
def rsh_strconv_Itoa : List VSh := [.one (.str)]
def F_strconv_Itoa : psDen sh_strconv_Itoa → Prop × vsDen rsh_strconv_Itoa := fun (n, ()) => (-9223372036854775808 ≤ n ∧ n ≤ 9223372036854775807, Lib.itoa n, ())
def con_strconv_Itoa : Con := conR sh_strconv_Itoa rsh_strconv_Itoa F_strconv_Itoa
def sh_strings_Join : List PSh := [.v (.one (.sl T_string R_9 false)), .v (.one (.str))]
def rsh_strings_Join : List VSh := [.one (.str)]
def F_strings_Join : psDen sh_strings_Join → Prop × vsDen rsh_strings_Join := fun (l, sep, ()) => (l.length ≤ 140737488355328 ∧ (Lib.join (l.map (·.1)) sep).length ≤ 140737488355328, Lib.join (l.map (·.1)) sep, ())
def con_strings_Join : Con := conR sh_strings_Join rsh_strings_Join F_strings_Join
def sh_impl_FormatInt : List PSh := [.v (.one (.int .i64))]
def rsh_impl_FormatInt : List VSh := [.one (.str)]
def F_impl_FormatInt : psDen sh_impl_FormatInt → Prop × vsDen rsh_impl_FormatInt := fun (n, ()) => (True, Lib.itoa n, ())
def con_impl_FormatInt : Con := conR sh_impl_FormatInt rsh_impl_FormatInt F_impl_FormatInt
def sh_spec_l01Figure : List PSh := [.v (.one (.int .i64))]
def rsh_spec_l01Figure : List VSh := [.one (.int .u8)]
def F_spec_l01Figure : psDen sh_spec_l01Figure → Prop × vsDen rsh_spec_l01Figure := fun (x, ()) => (0 ≤ x ∧ x < 10, 48 + x, ())
def con_spec_l01Figure : Con := conR sh_spec_l01Figure rsh_spec_l01Figure F_spec_l01Figure
def sh_spec_FormatInt : List PSh := [.v (.one (.int .i64))]
def rsh_spec_FormatInt : List VSh := [.one (.str)]
def F_spec_FormatInt : psDen sh_spec_FormatInt → Prop × vsDen rsh_spec_FormatInt := fun (n, ()) => (True, Lib.itoa n, ())
def con_spec_FormatInt : Con := conR sh_spec_FormatInt rsh_spec_FormatInt F_spec_FormatInt
def sh_laws_eqValue : List PSh := [.v (.agg [.int .i64, .int .i64, .str]), .v (.agg [.int .i64, .int .i64, .str])]
def rsh_laws_eqValue : List VSh := [.one (.bool)]
def F_laws_eqValue : psDen sh_laws_eqValue → Prop × vsDen rsh_laws_eqValue := fun (a, b, ()) => (True, Sp.eqValue a b, ())
def con_laws_eqValue : Con := conR sh_laws_eqValue rsh_laws_eqValue F_laws_eqValue
def sh_laws_eqAttr : List PSh := [.v (.agg [.str, .int .i64, .int .i64, .str]), .v (.agg [.str, .int .i64, .int .i64, .str])]
def rsh_laws_eqAttr : List VSh := [.one (.bool)]
def F_laws_eqAttr : psDen sh_laws_eqAttr → Prop × vsDen rsh_laws_eqAttr := fun (a, b, ()) => (True, Sp.eqAttr a b, ())
def con_laws_eqAttr : Con := conR sh_laws_eqAttr rsh_laws_eqAttr F_laws_eqAttr
def sh_laws_eqNode : List PSh := [.v (.agg [.int .i64, .int .i64, .int .i64, .str, .int .i64, .int .i64, .str]), .v (.agg [.int .i64, .int .i64, .int .i64, .str, .int .i64, .int .i64, .str])]
def rsh_laws_eqNode : List VSh := [.one (.bool)]
def F_laws_eqNode : psDen sh_laws_eqNode → Prop × vsDen rsh_laws_eqNode := fun (a, b, ()) => (True, Sp.eqNode a b, ())
def con_laws_eqNode : Con := conR sh_laws_eqNode rsh_laws_eqNode F_laws_eqNode
def sh_laws_eqAttrS : List PSh := [.v (.one (.sl T_impl_Attr R_84 false)), .v (.one (.sl T_impl_Attr R_84 false))]
def rsh_laws_eqAttrS : List VSh := [.one (.bool)]
def F_laws_eqAttrS : psDen sh_laws_eqAttrS → Prop × vsDen rsh_laws_eqAttrS := fun (a, b, ()) => (True, Sp.eqAttrS a b, ())
def con_laws_eqAttrS : Con := conR sh_laws_eqAttrS rsh_laws_eqAttrS F_laws_eqAttrS
def sh_laws_eqNodeS : List PSh := [.v (.one (.sl T_impl_Node R_86 false)), .v (.one (.sl T_impl_Node R_86 false))]
def rsh_laws_eqNodeS : List VSh := [.one (.bool)]
def F_laws_eqNodeS : psDen sh_laws_eqNodeS → Prop × vsDen rsh_laws_eqNodeS := fun (a, b, ()) => (True, Sp.eqNodeS a b, ())
def con_laws_eqNodeS : Con := conR sh_laws_eqNodeS rsh_laws_eqNodeS F_laws_eqNodeS
def sh_laws_eqFile : List PSh := [.v (.agg [.int .i64, .int .i64, .bool, .int .i64, .sl T_impl_Attr R_84 false]), .v (.agg [.int .i64, .int .i64, .bool, .int .i64, .sl T_impl_Attr R_84 false])]
def rsh_laws_eqFile : List VSh := [.one (.bool)]
def F_laws_eqFile : psDen sh_laws_eqFile → Prop × vsDen rsh_laws_eqFile := fun (a, b, ()) => (True, Sp.eqFile a b, ())
def con_laws_eqFile : Con := conR sh_laws_eqFile rsh_laws_eqFile F_laws_eqFile
def sh_laws_eqDir : List PSh := [.v (.agg [.str, .sl T_impl_Node R_86 false]), .v (.agg [.str, .sl T_impl_Node R_86 false])]
def rsh_laws_eqDir : List VSh := [.one (.bool)]
def F_laws_eqDir : psDen sh_laws_eqDir → Prop × vsDen rsh_laws_eqDir := fun (a, b, ()) => (True, Sp.eqDir a b, ())
def con_laws_eqDir : Con := conR sh_laws_eqDir rsh_laws_eqDir F_laws_eqDir
def sh_laws_eqChange : List PSh := [.v (.agg [.int .i64, .int .i64, .int .i64, .bool, .int .i64, .sl T_impl_Attr R_84 false, .int .i64, .str, .sl T_impl_Node R_86 false]), .v (.agg [.int .i64, .int .i64, .int .i64, .bool, .int .i64, .sl T_impl_Attr R_84 false, .int .i64, .str, .sl T_impl_Node R_86 false])]
def rsh_laws_eqChange : List VSh := [.one (.bool)]
def F_laws_eqChange : psDen sh_laws_eqChange → Prop × vsDen rsh_laws_eqChange := fun (a, b, ()) => (True, Sp.eqChange a b, ())
def con_laws_eqChange : Con := conR sh_laws_eqChange rsh_laws_eqChange F_laws_eqChange
def sh_laws_eqChangeS : List PSh := [.v (.one (.sl T_impl_Change R_59 false)), .v (.one (.sl T_impl_Change R_59 false))]
def rsh_laws_eqChangeS : List VSh := [.one (.bool)]
def F_laws_eqChangeS : psDen sh_laws_eqChangeS → Prop × vsDen rsh_laws_eqChangeS := fun (a, b, ()) => (True, Sp.eqChangeS a b, ())
def con_laws_eqChangeS : Con := conR sh_laws_eqChangeS rsh_laws_eqChangeS F_laws_eqChangeS
def sh_laws_eqAction : List PSh := [.v (.agg [.int .i64, .int .i64, .sl T_impl_Change R_59 false, .str, .int .i64]), .v (.agg [.int .i64, .int .i64, .sl T_impl_Change R_59 false, .str, .int .i64])]
def rsh_laws_eqAction : List VSh := [.one (.bool)]
def F_laws_eqAction : psDen sh_laws_eqAction → Prop × vsDen rsh_laws_eqAction := fun (a, b, ()) => (True, Sp.eqAction a b, ())
def con_laws_eqAction : Con := conR sh_laws_eqAction rsh_laws_eqAction F_laws_eqAction
def sh_spec_l01In : List PSh := [.v (.one (.int .i64)), .v (.one (.int .i64)), .v (.one (.int .i64))]
def rsh_spec_l01In : List VSh := [.one (.bool)]
def F_spec_l01In : psDen sh_spec_l01In → Prop × vsDen rsh_spec_l01In := fun (x, a, b, ()) => (True, (decide (a ≤ x) && decide (x ≤ b)), ())
def con_spec_l01In : Con := conR sh_spec_l01In rsh_spec_l01In F_spec_l01In
def sh_impl_within : List PSh := [.v (.one (.int .i64)), .v (.one (.int .i64)), .v (.one (.int .i64))]
def rsh_impl_within : List VSh := [.one (.bool)]
def F_impl_within : psDen sh_impl_within → Prop × vsDen rsh_impl_within := fun (x, a, b, ()) => (True, (decide (a ≤ x) && decide (x ≤ b)), ())
def con_impl_within : Con := conR sh_impl_within rsh_impl_within F_impl_within
def sh_spec_l02Text : List PSh := [.v (.one (.str)), .v (.one (.int .i64))]
def rsh_spec_l02Text : List VSh := [.one (.bool)]
def F_spec_l02Text : psDen sh_spec_l02Text → Prop × vsDen rsh_spec_l02Text := fun (s, m, ()) => (True, (Sp.lower s && decide (1 ≤ (s.length : Int)) && decide ((s.length : Int) ≤ m)), ())
def con_spec_l02Text : Con := conR sh_spec_l02Text rsh_spec_l02Text F_spec_l02Text
def sh_spec_IsValidString : List PSh := [.v (.one (.str))]
def rsh_spec_IsValidString : List VSh := [.one (.bool)]
def F_spec_IsValidString : psDen sh_spec_IsValidString → Prop × vsDen rsh_spec_IsValidString := fun (s, ()) => (True, Sp.validStr s, ())
def con_spec_IsValidString : Con := conR sh_spec_IsValidString rsh_spec_IsValidString F_spec_IsValidString
def sh_impl_IsValidString : List PSh := [.v (.one (.str))]
def rsh_impl_IsValidString : List VSh := [.one (.bool)]
def F_impl_IsValidString : psDen sh_impl_IsValidString → Prop × vsDen rsh_impl_IsValidString := fun (s, ()) => (True, Sp.validStr s, ())
def con_impl_IsValidString : Con := conR sh_impl_IsValidString rsh_impl_IsValidString F_impl_IsValidString
def sh_spec_IsValidAction : List PSh := [.v (.agg [.int .i64, .int .i64, .sl T_impl_Change R_59 false, .str, .int .i64])]
def rsh_spec_IsValidAction : List VSh := [.one (.bool)]
def F_spec_IsValidAction : psDen sh_spec_IsValidAction → Prop × vsDen rsh_spec_IsValidAction := fun ((k, u, c, n, a, ()), ()) => (True, Sp.validAct k c.length, ())
def con_spec_IsValidAction : Con := conR sh_spec_IsValidAction rsh_spec_IsValidAction F_spec_IsValidAction
def sh_impl_IsValidAction : List PSh := [.v (.agg [.int .i64, .int .i64, .sl T_impl_Change R_59 false, .str, .int .i64])]
def rsh_impl_IsValidAction : List VSh := [.one (.bool)]
def F_impl_IsValidAction : psDen sh_impl_IsValidAction → Prop × vsDen rsh_impl_IsValidAction := fun ((k, u, c, n, a, ()), ()) => (True, Sp.validAct k c.length, ())
def con_impl_IsValidAction : Con := conR sh_impl_IsValidAction rsh_impl_IsValidAction F_impl_IsValidAction
def sh_impl_areNumbers_1 : List PSh := [.v (.one (.int .i64))]
def rsh_impl_areNumbers_1 : List VSh := [.one (.bool)]
def F_impl_areNumbers_1 : psDen sh_impl_areNumbers_1 → Prop × vsDen rsh_impl_areNumbers_1 := fun (n, ()) => (True, !Sp.isUint n, ())
def con_impl_areNumbers_1 : Con := conR sh_impl_areNumbers_1 rsh_impl_areNumbers_1 F_impl_areNumbers_1
def sh_slices_IndexFunc_int__impl_areNumbers_1 : List PSh := [.v (.one (.sl T_int R_3 false)), .fn 49 []]
def rsh_slices_IndexFunc_int__impl_areNumbers_1 : List VSh := [.one (.int .i64)]
def F_slices_IndexFunc_int__impl_areNumbers_1 : psDen sh_slices_IndexFunc_int__impl_areNumbers_1 → Prop × vsDen rsh_slices_IndexFunc_int__impl_areNumbers_1 := fun (l, _, ()) => (True, Sp.idxOf l, ())
def con_slices_IndexFunc_int__impl_areNumbers_1 : Con := conR sh_slices_IndexFunc_int__impl_areNumbers_1 rsh_slices_IndexFunc_int__impl_areNumbers_1 F_slices_IndexFunc_int__impl_areNumbers_1
def sh_slices_ContainsFunc_int__impl_areNumbers_1 : List PSh := [.v (.one (.sl T_int R_3 false)), .fn 49 []]
def rsh_slices_ContainsFunc_int__impl_areNumbers_1 : List VSh := [.one (.bool)]
def F_slices_ContainsFunc_int__impl_areNumbers_1 : psDen sh_slices_ContainsFunc_int__impl_areNumbers_1 → Prop × vsDen rsh_slices_ContainsFunc_int__impl_areNumbers_1 := fun (l, _, ()) => (True, !Sp.areUints l, ())
def con_slices_ContainsFunc_int__impl_areNumbers_1 : Con := conR sh_slices_ContainsFunc_int__impl_areNumbers_1 rsh_slices_ContainsFunc_int__impl_areNumbers_1 F_slices_ContainsFunc_int__impl_areNumbers_1
def sh_impl_areNumbers : List PSh := [.v (.one (.sl T_int R_3 false))]
def rsh_impl_areNumbers : List VSh := [.one (.bool)]
def F_impl_areNumbers : psDen sh_impl_areNumbers → Prop × vsDen rsh_impl_areNumbers := fun (l, ()) => (True, Sp.areUints l, ())
def con_impl_areNumbers : Con := conR sh_impl_areNumbers rsh_impl_areNumbers F_impl_areNumbers
def sh_spec_FormatAction : List PSh := [.v (.agg [.int .i64, .int .i64, .sl T_impl_Change R_59 false, .str, .int .i64])]
def rsh_spec_FormatAction : List VSh := [.one (.str)]
def F_spec_FormatAction : psDen sh_spec_FormatAction → Prop × vsDen rsh_spec_FormatAction := fun ((k, u, c, n, a, ()), ()) => (n.length ≤ 1048576, Sp.actionText k u c.length n a, ())
def con_spec_FormatAction : Con := conR sh_spec_FormatAction rsh_spec_FormatAction F_spec_FormatAction
def sh_impl_FormatAction : List PSh := [.v (.agg [.int .i64, .int .i64, .sl T_impl_Change R_59 false, .str, .int .i64])]
def rsh_impl_FormatAction : List VSh := [.one (.str)]
def F_impl_FormatAction : psDen sh_impl_FormatAction → Prop × vsDen rsh_impl_FormatAction := fun ((k, u, c, n, a, ()), ()) => (n.length ≤ 1048576, Sp.actionText k u c.length n a, ())
def con_impl_FormatAction : Con := conR sh_impl_FormatAction rsh_impl_FormatAction F_impl_FormatAction
def sh_strings_Fields : List PSh := [.v (.one (.str))]
def rsh_strings_Fields : List VSh := [.one (.sl T_string R_9 true)]
def F_strings_Fields : psDen sh_strings_Fields → Prop × vsDen rsh_strings_Fields := fun (s, ()) => (s.length ≤ 1048576 ∧ Sp.asciiS s = true, Sp.wordsOf s, ())
def con_strings_Fields : Con := conR sh_strings_Fields rsh_strings_Fields F_strings_Fields
def sh_impl_ParseUint : List PSh := [.v (.one (.str))]
def rsh_impl_ParseUint : List VSh := [.one (.int .i64), .one (.bool)]
def F_impl_ParseUint : psDen sh_impl_ParseUint → Prop × vsDen rsh_impl_ParseUint := fun (s, ()) => (True, Sp.parseNum s, Sp.parseOk s, ())
def con_impl_ParseUint : Con := conR sh_impl_ParseUint rsh_impl_ParseUint F_impl_ParseUint
def sh_spec_ParseUint : List PSh := [.v (.one (.str))]
def rsh_spec_ParseUint : List VSh := [.one (.int .i64), .one (.bool)]
def F_spec_ParseUint : psDen sh_spec_ParseUint → Prop × vsDen rsh_spec_ParseUint := fun (s, ()) => (True, Sp.parseNum s, Sp.parseOk s, ())
def con_spec_ParseUint : Con := conR sh_spec_ParseUint rsh_spec_ParseUint F_spec_ParseUint
def sh_spec_SplitFields : List PSh := [.v (.one (.str))]
def rsh_spec_SplitFields : List VSh := [.one (.sl T_string R_9 true), .one (.bool)]
def F_spec_SplitFields : psDen sh_spec_SplitFields → Prop × vsDen rsh_spec_SplitFields := fun (s, ()) => (s.length ≤ 1048576, Sp.splitF s, Sp.splitOk s, ())
def con_spec_SplitFields : Con := conR sh_spec_SplitFields rsh_spec_SplitFields F_spec_SplitFields
def sh_impl_SplitFields : List PSh := [.v (.one (.str))]
def rsh_impl_SplitFields : List VSh := [.one (.sl T_string R_9 true), .one (.bool)]
def F_impl_SplitFields : psDen sh_impl_SplitFields → Prop × vsDen rsh_impl_SplitFields := fun (s, ()) => (s.length ≤ 1048576, Sp.splitF s, Sp.splitOk s, ())
def con_impl_SplitFields : Con := conR sh_impl_SplitFields rsh_impl_SplitFields F_impl_SplitFields
def sh_spec_l10Part : List PSh := [.v (.one (.sl T_string R_9 false)), .v (.one (.int .i64))]
def rsh_spec_l10Part : List VSh := [.one (.str)]
def F_spec_l10Part : psDen sh_spec_l10Part → Prop × vsDen rsh_spec_l10Part := fun (w, i, ()) => (0 ≤ i, Sp.wordAt w i, ())
def con_spec_l10Part : Con := conR sh_spec_l10Part rsh_spec_l10Part F_spec_l10Part
def sh_impl_wordAt : List PSh := [.v (.one (.sl T_string R_9 false)), .v (.one (.int .i64))]
def rsh_impl_wordAt : List VSh := [.one (.str)]
def F_impl_wordAt : psDen sh_impl_wordAt → Prop × vsDen rsh_impl_wordAt := fun (w, i, ()) => (0 ≤ i, Sp.wordAt w i, ())
def con_impl_wordAt : Con := conR sh_impl_wordAt rsh_impl_wordAt F_impl_wordAt
def sh_spec_l26Num : List PSh := [.v (.one (.sl T_string R_9 false)), .v (.one (.int .i64))]
def rsh_spec_l26Num : List VSh := [.one (.int .i64)]
def F_spec_l26Num : psDen sh_spec_l26Num → Prop × vsDen rsh_spec_l26Num := fun (w, i, ()) => (0 ≤ i, Sp.numAt w i, ())
def con_spec_l26Num : Con := conR sh_spec_l26Num rsh_spec_l26Num F_spec_l26Num
def sh_impl_numberAt : List PSh := [.v (.one (.sl T_string R_9 false)), .v (.one (.int .i64))]
def rsh_impl_numberAt : List VSh := [.one (.int .i64), .one (.bool)]
def F_impl_numberAt : psDen sh_impl_numberAt → Prop × vsDen rsh_impl_numberAt := fun (w, i, ()) => (0 ≤ i, Sp.numAt w i, Sp.parseOk (Sp.wordAt w i), ())
def con_impl_numberAt : Con := conR sh_impl_numberAt rsh_impl_numberAt F_impl_numberAt
def sh_spec_l10Join : List PSh := [.v (.one (.sl T_string R_9 false))]
def rsh_spec_l10Join : List VSh := [.one (.str)]
def F_spec_l10Join : psDen sh_spec_l10Join → Prop × vsDen rsh_spec_l10Join := fun (w, ()) => (w.length ≤ 1000 ∧ (Sp.joinW w).length ≤ 2097152, Sp.joinW w, ())
def con_spec_l10Join : Con := conR sh_spec_l10Join rsh_spec_l10Join F_spec_l10Join
def sh_slices_Equal_string : List PSh := [.v (.one (.sl T_string R_9 false)), .v (.one (.sl T_string R_9 false))]
def rsh_slices_Equal_string : List VSh := [.one (.bool)]
def F_slices_Equal_string : psDen sh_slices_Equal_string → Prop × vsDen rsh_slices_Equal_string := fun (a, b, ()) => (True, decide (a = b), ())
def con_slices_Equal_string : Con := conR sh_slices_Equal_string rsh_slices_Equal_string F_slices_Equal_string
def sh_impl_sameFields : List PSh := [.v (.one (.str)), .v (.one (.sl T_string R_9 false))]
def rsh_impl_sameFields : List VSh := [.one (.bool)]
def F_impl_sameFields : psDen sh_impl_sameFields → Prop × vsDen rsh_impl_sameFields := fun (s, w, ()) => (s.length ≤ 1048576 ∧ Sp.asciiS s = true, (!(s == []) && decide (Sp.wordsOf s = w)), ())
def con_impl_sameFields : Con := conR sh_impl_sameFields rsh_impl_sameFields F_impl_sameFields
def sh_spec_ParseAction : List PSh := [.v (.one (.str))]
def rsh_spec_ParseAction : List VSh := [.agg [.int .i64, .int .i64, .sl T_impl_Change R_59 true, .str, .int .i64], .one (.bool)]
def F_spec_ParseAction : psDen sh_spec_ParseAction → Prop × vsDen rsh_spec_ParseAction := fun (s, ()) => (s.length ≤ 1048576, Sp.parseAct s, Sp.parseActOk s, ())
def con_spec_ParseAction : Con := conR sh_spec_ParseAction rsh_spec_ParseAction F_spec_ParseAction
def sh_impl_ParseAction : List PSh := [.v (.one (.str))]
def rsh_impl_ParseAction : List VSh := [.agg [.int .i64, .int .i64, .sl T_impl_Change R_59 true, .str, .int .i64], .one (.bool)]
def F_impl_ParseAction : psDen sh_impl_ParseAction → Prop × vsDen rsh_impl_ParseAction := fun (s, ()) => (s.length ≤ 1048576, Sp.parseAct s, Sp.parseActOk s, ())
def con_impl_ParseAction : Con := conR sh_impl_ParseAction rsh_impl_ParseAction F_impl_ParseAction
def sh_laws_markChangeS : List PSh := [.v (.one (.sl T_impl_Change R_59 false)), .v (.one (.int .i64))]
def rsh_laws_markChangeS : List VSh := [.one (.int .i64)]
def F_laws_markChangeS : psDen sh_laws_markChangeS → Prop × vsDen rsh_laws_markChangeS := fun (a, k, ()) => (a = [], k, ())
def con_laws_markChangeS : Con := conR sh_laws_markChangeS rsh_laws_markChangeS F_laws_markChangeS
def sh_laws_heldChangeS : List PSh := [.v (.one (.sl T_impl_Change R_59 false)), .v (.one (.int .i64))]
def rsh_laws_heldChangeS : List VSh := [.one (.int .i64)]
def F_laws_heldChangeS : psDen sh_laws_heldChangeS → Prop × vsDen rsh_laws_heldChangeS := fun (a, k, ()) => (a = [], k, ())
def con_laws_heldChangeS : Con := conR sh_laws_heldChangeS rsh_laws_heldChangeS F_laws_heldChangeS
def sh_laws_markAction : List PSh := [.v (.agg [.int .i64, .int .i64, .sl T_impl_Change R_59 false, .str, .int .i64]), .v (.one (.int .i64))]
def rsh_laws_markAction : List VSh := [.one (.int .i64)]
def F_laws_markAction : psDen sh_laws_markAction → Prop × vsDen rsh_laws_markAction := fun (a, k, ()) => (a.2.2.1 = [], k, ())
def con_laws_markAction : Con := conR sh_laws_markAction rsh_laws_markAction F_laws_markAction
def sh_laws_heldAction : List PSh := [.v (.agg [.int .i64, .int .i64, .sl T_impl_Change R_59 false, .str, .int .i64]), .v (.one (.int .i64))]
def rsh_laws_heldAction : List VSh := [.one (.int .i64)]
def F_laws_heldAction : psDen sh_laws_heldAction → Prop × vsDen rsh_laws_heldAction := fun (a, k, ()) => (a.2.2.1 = [] ∧ 0 ≤ k, k, ())
def con_laws_heldAction : Con := conR sh_laws_heldAction rsh_laws_heldAction F_laws_heldAction
def sh_laws_FnExactParseAction : List PSh := [.v (.one (.str))]
def rsh_laws_FnExactParseAction : List VSh := [.one (.bool)]
def F_laws_FnExactParseAction : psDen sh_laws_FnExactParseAction → Prop × vsDen rsh_laws_FnExactParseAction := fun (aLine, ()) => (True, true, ())
def con_laws_FnExactParseAction : Con := conR sh_laws_FnExactParseAction rsh_laws_FnExactParseAction F_laws_FnExactParseAction
def Γ_strconv_Itoa : CEnv := findC []
def Γ_strings_Join : CEnv := findC []
def Γ_impl_FormatInt : CEnv := findC [(n_strconv_Itoa, .pure con_strconv_Itoa)]
def Γ_spec_l01Figure : CEnv := findC []
def Γ_spec_FormatInt : CEnv := findC [(n_spec_l01Figure, .pure con_spec_l01Figure)]
def Γ_laws_eqValue : CEnv := findC []
def Γ_laws_eqAttr : CEnv := findC [(n_laws_eqValue, .pure con_laws_eqValue)]
def Γ_laws_eqNode : CEnv := findC [(n_laws_eqValue, .pure con_laws_eqValue)]
def Γ_laws_eqAttrS : CEnv := findC [(n_laws_eqAttr, .pure con_laws_eqAttr)]
def Γ_laws_eqNodeS : CEnv := findC [(n_laws_eqNode, .pure con_laws_eqNode)]
def Γ_laws_eqFile : CEnv := findC [(n_laws_eqAttrS, .pure con_laws_eqAttrS)]
def Γ_laws_eqDir : CEnv := findC [(n_laws_eqNodeS, .pure con_laws_eqNodeS)]
def Γ_laws_eqChange : CEnv := findC [(n_laws_eqDir, .pure con_laws_eqDir), (n_laws_eqFile, .pure con_laws_eqFile)]
def Γ_laws_eqChangeS : CEnv := findC [(n_laws_eqChange, .pure con_laws_eqChange)]
def Γ_laws_eqAction : CEnv := findC [(n_laws_eqChangeS, .pure con_laws_eqChangeS)]
def Γ_spec_l01In : CEnv := findC []
def Γ_impl_within : CEnv := findC []
def Γ_spec_l02Text : CEnv := findC [(n_spec_l01In, .pure con_spec_l01In)]
def Γ_spec_IsValidString : CEnv := findC [(n_spec_l02Text, .pure con_spec_l02Text)]
def Γ_impl_IsValidString : CEnv := findC [(n_impl_within, .pure con_impl_within)]
def Γ_spec_IsValidAction : CEnv := findC [(n_spec_l01In, .pure con_spec_l01In)]
def Γ_impl_IsValidAction : CEnv := findC [(n_impl_within, .pure con_impl_within)]
def Γ_impl_areNumbers_1 : CEnv := findC [(n_impl_within, .pure con_impl_within)]
def Γ_slices_IndexFunc_int__impl_areNumbers_1 : CEnv := findC [(n_impl_areNumbers_1, .pure con_impl_areNumbers_1)]
def Γ_slices_ContainsFunc_int__impl_areNumbers_1 : CEnv := findC [(n_slices_IndexFunc_int__impl_areNumbers_1, .pure con_slices_IndexFunc_int__impl_areNumbers_1), (n_impl_areNumbers_1, .pure con_impl_areNumbers_1)]
def Γ_impl_areNumbers : CEnv := findC [(n_impl_areNumbers_1, .pure con_impl_areNumbers_1), (n_slices_ContainsFunc_int__impl_areNumbers_1, .pure con_slices_ContainsFunc_int__impl_areNumbers_1)]
def Γ_spec_FormatAction : CEnv := findC [(n_spec_FormatInt, .pure con_spec_FormatInt), (n_spec_IsValidAction, .pure con_spec_IsValidAction), (n_spec_IsValidString, .pure con_spec_IsValidString), (n_spec_l01In, .pure con_spec_l01In)]
def Γ_impl_FormatAction : CEnv := findC [(n_strings_Join, .pure con_strings_Join), (n_impl_IsValidString, .pure con_impl_IsValidString), (n_impl_areNumbers, .pure con_impl_areNumbers), (n_impl_IsValidAction, .pure con_impl_IsValidAction), (n_impl_FormatInt, .pure con_impl_FormatInt)]
def Γ_strings_Fields : CEnv := findC []
def Γ_impl_ParseUint : CEnv := findC [(n_impl_FormatInt, .pure con_impl_FormatInt), (n_impl_within, .pure con_impl_within)]
def Γ_spec_ParseUint : CEnv := findC [(n_spec_FormatInt, .pure con_spec_FormatInt)]
def Γ_spec_SplitFields : CEnv := findC []
def Γ_impl_SplitFields : CEnv := findC [(n_strings_Fields, .pure con_strings_Fields), (n_impl_within, .pure con_impl_within)]
def Γ_spec_l10Part : CEnv := findC []
def Γ_impl_wordAt : CEnv := findC []
def Γ_spec_l26Num : CEnv := findC [(n_spec_ParseUint, .pure con_spec_ParseUint), (n_spec_l10Part, .pure con_spec_l10Part)]
def Γ_impl_numberAt : CEnv := findC [(n_impl_ParseUint, .pure con_impl_ParseUint), (n_impl_wordAt, .pure con_impl_wordAt)]
def Γ_spec_l10Join : CEnv := findC []
def Γ_slices_Equal_string : CEnv := findC []
def Γ_impl_sameFields : CEnv := findC [(n_slices_Equal_string, .pure con_slices_Equal_string), (n_strings_Fields, .pure con_strings_Fields)]
def Γ_spec_ParseAction : CEnv := findC [(n_spec_l10Join, .pure con_spec_l10Join), (n_spec_FormatAction, .pure con_spec_FormatAction), (n_spec_l10Part, .pure con_spec_l10Part), (n_spec_l26Num, .pure con_spec_l26Num), (n_spec_SplitFields, .pure con_spec_SplitFields)]
def Γ_impl_ParseAction : CEnv := findC [(n_impl_sameFields, .pure con_impl_sameFields), (n_impl_FormatAction, .pure con_impl_FormatAction), (n_impl_wordAt, .pure con_impl_wordAt), (n_impl_numberAt, .pure con_impl_numberAt), (n_impl_SplitFields, .pure con_impl_SplitFields)]
def Γ_laws_markChangeS : CEnv := findC []
def Γ_laws_heldChangeS : CEnv := findC []
def Γ_laws_markAction : CEnv := findC [(n_laws_markChangeS, .pure con_laws_markChangeS)]
def Γ_laws_heldAction : CEnv := findC [(n_laws_heldChangeS, .pure con_laws_heldChangeS)]
def Γ_laws_FnExactParseAction : CEnv := findC [(n_laws_heldAction, .pure con_laws_heldAction), (n_laws_markAction, .pure con_laws_markAction), (n_laws_eqAction, .pure con_laws_eqAction), (n_impl_ParseAction, .pure con_impl_ParseAction), (n_spec_ParseAction, .pure con_spec_ParseAction)]
end Go.Proofs.Tryd
