import Derived.Test.YtnaiafihkjbmnaaDoorN
import Derived.Test.YtnaiafihkjbmnaaDoorSp
namespace Go.Proofs.Tryd
open Go Go.Fw
def sh_laws_szIntS : List PSh := [.v (.one (.sl T_int R_3 false)), .v (.one (.int .i64))]
def rsh_laws_szIntS : List VSh := [.one (.int .i64)]
def F_laws_szIntS : psDen sh_laws_szIntS → Prop × vsDen rsh_laws_szIntS := fun (a, left, ()) => (0 ≤ left ∧ left ≤ 1048576, Sp.szLen a.length left, ())
def con_laws_szIntS : Con := conR sh_laws_szIntS rsh_laws_szIntS F_laws_szIntS
def sh_laws_toIntS : List PSh := [.v (.one (.sl T_int R_3 false))]
def rsh_laws_toIntS : List VSh := [.one (.sl T_int R_3 true)]
def F_laws_toIntS : psDen sh_laws_toIntS → Prop × vsDen rsh_laws_toIntS := fun (a, ()) => (a.length ≤ big, a, ())
def con_laws_toIntS : Con := conR sh_laws_toIntS rsh_laws_toIntS F_laws_toIntS
def sh_laws_eqIntS : List PSh := [.v (.one (.sl T_int R_3 false)), .v (.one (.sl T_int R_3 false))]
def rsh_laws_eqIntS : List VSh := [.one (.bool)]
def F_laws_eqIntS : psDen sh_laws_eqIntS → Prop × vsDen rsh_laws_eqIntS := fun (a, b, ()) => (True, decide (a = b), ())
def con_laws_eqIntS : Con := conR sh_laws_eqIntS rsh_laws_eqIntS F_laws_eqIntS
def sh_strconv_Itoa : List PSh := [.v (.one (.int .i64))]
def rsh_strconv_Itoa : List VSh := [.one (.str)]
def F_strconv_Itoa : psDen sh_strconv_Itoa → Prop × vsDen rsh_strconv_Itoa := fun (n, ()) => (-9223372036854775808 ≤ n ∧ n ≤ 9223372036854775807, Lib.itoa n, ())
def con_strconv_Itoa : Con := conR sh_strconv_Itoa rsh_strconv_Itoa F_strconv_Itoa
def sh_strings_Join : List PSh := [.v (.one (.sl T_string R_9 false)), .v (.one (.str))]
def rsh_strings_Join : List VSh := [.one (.str)]
def F_strings_Join : psDen sh_strings_Join → Prop × vsDen rsh_strings_Join := fun (l, sep, ()) => (l.length ≤ 140737488355328 ∧ (Lib.join (l.map (·.1)) sep).length ≤ 140737488355328, Lib.join (l.map (·.1)) sep, ())
def con_strings_Join : Con := conR sh_strings_Join rsh_strings_Join F_strings_Join
def sh_impl_FormatInt : List PSh := [.v (.one (.int .i64))]
def rsh_impl_FormatInt : List VSh := [.one (.str)]
def F_impl_FormatInt : psDen sh_impl_FormatInt → Prop × vsDen rsh_impl_FormatInt := fun (n, ()) => (True, Lib.itoa n, ())
def con_impl_FormatInt : Con := conR sh_impl_FormatInt rsh_impl_FormatInt F_impl_FormatInt
def sh_spec_l01Figure : List PSh := [.v (.one (.int .i64))]
def rsh_spec_l01Figure : List VSh := [.one (.int .u8)]
def F_spec_l01Figure : psDen sh_spec_l01Figure → Prop × vsDen rsh_spec_l01Figure := fun (x, ()) => (0 ≤ x ∧ x < 10, 48 + x, ())
def con_spec_l01Figure : Con := conR sh_spec_l01Figure rsh_spec_l01Figure F_spec_l01Figure
def sh_spec_FormatInt : List PSh := [.v (.one (.int .i64))]
def rsh_spec_FormatInt : List VSh := [.one (.str)]
def F_spec_FormatInt : psDen sh_spec_FormatInt → Prop × vsDen rsh_spec_FormatInt := fun (n, ()) => (True, Lib.itoa n, ())
def con_spec_FormatInt : Con := conR sh_spec_FormatInt rsh_spec_FormatInt F_spec_FormatInt
def sh_laws_szEvent : List PSh := [.v (.agg [.int .i64, .sl T_int R_3 false, .sl T_int R_3 false]), .v (.one (.int .i64))]
def rsh_laws_szEvent : List VSh := [.one (.int .i64)]
def F_laws_szEvent : psDen sh_laws_szEvent → Prop × vsDen rsh_laws_szEvent := fun ((_, a1, a2, ()), left, ()) => (0 ≤ left ∧ left ≤ 1048576, Sp.szEvent a1 a2 left, ())
def con_laws_szEvent : Con := conR sh_laws_szEvent rsh_laws_szEvent F_laws_szEvent
def sh_laws_toEvent : List PSh := [.v (.agg [.int .i64, .sl T_int R_3 false, .sl T_int R_3 false])]
def rsh_laws_toEvent : List VSh := [.agg [.int .i64, .sl T_int R_3 true, .sl T_int R_3 true]]
def F_laws_toEvent : psDen sh_laws_toEvent → Prop × vsDen rsh_laws_toEvent := fun ((a0, a1, a2, ()), ()) => (a1.length ≤ big ∧ a2.length ≤ big, (a0, a1, a2, ()), ())
def con_laws_toEvent : Con := conR sh_laws_toEvent rsh_laws_toEvent F_laws_toEvent
def sh_laws_eqEvent : List PSh := [.v (.agg [.int .i64, .sl T_int R_3 false, .sl T_int R_3 false]), .v (.agg [.int .i64, .sl T_int R_3 false, .sl T_int R_3 false])]
def rsh_laws_eqEvent : List VSh := [.one (.bool)]
def F_laws_eqEvent : psDen sh_laws_eqEvent → Prop × vsDen rsh_laws_eqEvent := fun (a, b, ()) => (True, decide (a = b), ())
def con_laws_eqEvent : Con := conR sh_laws_eqEvent rsh_laws_eqEvent F_laws_eqEvent
def sh_spec_FormatEvent : List PSh := [.v (.agg [.int .i64, .sl T_int R_3 false, .sl T_int R_3 false])]
def rsh_spec_FormatEvent : List VSh := [.one (.str)]
def F_spec_FormatEvent : psDen sh_spec_FormatEvent → Prop × vsDen rsh_spec_FormatEvent := fun ((v, a, r, ()), ()) => (a.length ≤ 1048576 ∧ r.length ≤ 1048576, Sp.eventText v a r, ())
def con_spec_FormatEvent : Con := conR sh_spec_FormatEvent rsh_spec_FormatEvent F_spec_FormatEvent
def sh_impl_FormatEvent : List PSh := [.v (.agg [.int .i64, .sl T_int R_3 false, .sl T_int R_3 false])]
def rsh_impl_FormatEvent : List VSh := [.one (.str)]
def F_impl_FormatEvent : psDen sh_impl_FormatEvent → Prop × vsDen rsh_impl_FormatEvent := fun ((v, a, r, ()), ()) => (a.length ≤ 1048576 ∧ r.length ≤ 1048576, Sp.eventText v a r, ())
def con_impl_FormatEvent : Con := conR sh_impl_FormatEvent rsh_impl_FormatEvent F_impl_FormatEvent
def sh_spec_FormatIDs : List PSh := [.v (.one (.sl T_int R_3 false))]
def rsh_spec_FormatIDs : List VSh := [.one (.str)]
def F_spec_FormatIDs : psDen sh_spec_FormatIDs → Prop × vsDen rsh_spec_FormatIDs := fun (ids, ()) => (ids.length ≤ 1048576, Sp.idsText ids, ())
def con_spec_FormatIDs : Con := conR sh_spec_FormatIDs rsh_spec_FormatIDs F_spec_FormatIDs
def sh_impl_FormatIDs : List PSh := [.v (.one (.sl T_int R_3 false))]
def rsh_impl_FormatIDs : List VSh := [.one (.str)]
def F_impl_FormatIDs : psDen sh_impl_FormatIDs → Prop × vsDen rsh_impl_FormatIDs := fun (ids, ()) => (ids.length ≤ 1048576, Sp.idsText ids, ())
def con_impl_FormatIDs : Con := conR sh_impl_FormatIDs rsh_impl_FormatIDs F_impl_FormatIDs
def sh_spec_l39With : List PSh := [.v (.one (.str)), .v (.one (.sl T_int R_3 false))]
def rsh_spec_l39With : List VSh := [.one (.str)]
def F_spec_l39With : psDen sh_spec_l39With → Prop × vsDen rsh_spec_l39With := fun (s, ids, ()) => (s.length ≤ 1048576 ∧ ids.length ≤ 1048576, Sp.withIds s ids, ())
def con_spec_l39With : Con := conR sh_spec_l39With rsh_spec_l39With F_spec_l39With
def sh_impl_withIDs : List PSh := [.v (.one (.str)), .v (.one (.sl T_int R_3 false))]
def rsh_impl_withIDs : List VSh := [.one (.str)]
def F_impl_withIDs : psDen sh_impl_withIDs → Prop × vsDen rsh_impl_withIDs := fun (s, ids, ()) => (s.length ≤ 1048576 ∧ ids.length ≤ 1048576, Sp.withIds s ids, ())
def con_impl_withIDs : Con := conR sh_impl_withIDs rsh_impl_withIDs F_impl_withIDs
def sh_laws_szValue : List PSh := [.v (.agg [.int .i64, .int .i64, .str]), .v (.one (.int .i64))]
def rsh_laws_szValue : List VSh := [.one (.int .i64)]
def F_laws_szValue : psDen sh_laws_szValue → Prop × vsDen rsh_laws_szValue := fun ((k, i, s, ()), left, ()) => (0 ≤ left ∧ left ≤ 1048576, Sp.szLen s.length left, ())
def con_laws_szValue : Con := conR sh_laws_szValue rsh_laws_szValue F_laws_szValue
def sh_laws_szAttr : List PSh := [.v (.agg [.str, .int .i64, .int .i64, .str]), .v (.one (.int .i64))]
def rsh_laws_szAttr : List VSh := [.one (.int .i64)]
def F_laws_szAttr : psDen sh_laws_szAttr → Prop × vsDen rsh_laws_szAttr := fun (a, left, ()) => (0 ≤ left ∧ left ≤ 1048576, Sp.szLen (Sp.wAttr a) left, ())
def con_laws_szAttr : Con := conR sh_laws_szAttr rsh_laws_szAttr F_laws_szAttr
def sh_laws_szNode : List PSh := [.v (.agg [.int .i64, .int .i64, .int .i64, .str, .int .i64, .int .i64, .str]), .v (.one (.int .i64))]
def rsh_laws_szNode : List VSh := [.one (.int .i64)]
def F_laws_szNode : psDen sh_laws_szNode → Prop × vsDen rsh_laws_szNode := fun (a, left, ()) => (0 ≤ left ∧ left ≤ 1048576, Sp.szLen (Sp.wNode a) left, ())
def con_laws_szNode : Con := conR sh_laws_szNode rsh_laws_szNode F_laws_szNode
def sh_laws_szAttrS : List PSh := [.v (.one (.sl T_laws_Attr R_165 false)), .v (.one (.int .i64))]
def rsh_laws_szAttrS : List VSh := [.one (.int .i64)]
def F_laws_szAttrS : psDen sh_laws_szAttrS → Prop × vsDen rsh_laws_szAttrS := fun (a, left, ()) => (0 ≤ left ∧ left ≤ 1048576, Sp.szLen (Sp.wAttrS a) left, ())
def con_laws_szAttrS : Con := conR sh_laws_szAttrS rsh_laws_szAttrS F_laws_szAttrS
def sh_laws_szNodeS : List PSh := [.v (.one (.sl T_laws_Node R_168 false)), .v (.one (.int .i64))]
def rsh_laws_szNodeS : List VSh := [.one (.int .i64)]
def F_laws_szNodeS : psDen sh_laws_szNodeS → Prop × vsDen rsh_laws_szNodeS := fun (a, left, ()) => (0 ≤ left ∧ left ≤ 1048576, Sp.szLen (Sp.wNodeS a) left, ())
def con_laws_szNodeS : Con := conR sh_laws_szNodeS rsh_laws_szNodeS F_laws_szNodeS
def sh_laws_szFile : List PSh := [.v (.agg [.int .i64, .int .i64, .bool, .int .i64, .sl T_laws_Attr R_165 false]), .v (.one (.int .i64))]
def rsh_laws_szFile : List VSh := [.one (.int .i64)]
def F_laws_szFile : psDen sh_laws_szFile → Prop × vsDen rsh_laws_szFile := fun (a, left, ()) => (0 ≤ left ∧ left ≤ 1048576, Sp.szLen (Sp.wFile a) left, ())
def con_laws_szFile : Con := conR sh_laws_szFile rsh_laws_szFile F_laws_szFile
def sh_laws_szDir : List PSh := [.v (.agg [.str, .sl T_laws_Node R_168 false]), .v (.one (.int .i64))]
def rsh_laws_szDir : List VSh := [.one (.int .i64)]
def F_laws_szDir : psDen sh_laws_szDir → Prop × vsDen rsh_laws_szDir := fun (a, left, ()) => (0 ≤ left ∧ left ≤ 1048576, Sp.szLen (Sp.wDir a) left, ())
def con_laws_szDir : Con := conR sh_laws_szDir rsh_laws_szDir F_laws_szDir
def sh_laws_szChange : List PSh := [.v (.agg [.int .i64, .int .i64, .int .i64, .bool, .int .i64, .sl T_laws_Attr R_165 false, .int .i64, .str, .sl T_laws_Node R_168 false]), .v (.one (.int .i64))]
def rsh_laws_szChange : List VSh := [.one (.int .i64)]
def F_laws_szChange : psDen sh_laws_szChange → Prop × vsDen rsh_laws_szChange := fun (a, left, ()) => (0 ≤ left ∧ left ≤ 1048576, Sp.szLen (Sp.wChange a) left, ())
def con_laws_szChange : Con := conR sh_laws_szChange rsh_laws_szChange F_laws_szChange
def sh_laws_szChangeS : List PSh := [.v (.one (.sl T_laws_Change R_95 false)), .v (.one (.int .i64))]
def rsh_laws_szChangeS : List VSh := [.one (.int .i64)]
def F_laws_szChangeS : psDen sh_laws_szChangeS → Prop × vsDen rsh_laws_szChangeS := fun (a, left, ()) => (0 ≤ left ∧ left ≤ 1048576, Sp.szLen (Sp.wChangeS a) left, ())
def con_laws_szChangeS : Con := conR sh_laws_szChangeS rsh_laws_szChangeS F_laws_szChangeS
def sh_laws_szAction : List PSh := [.v (.agg [.int .i64, .int .i64, .sl T_laws_Change R_95 false, .str, .int .i64]), .v (.one (.int .i64))]
def rsh_laws_szAction : List VSh := [.one (.int .i64)]
def F_laws_szAction : psDen sh_laws_szAction → Prop × vsDen rsh_laws_szAction := fun (a, left, ()) => (0 ≤ left ∧ left ≤ 1048576, Sp.szLen (Sp.wAction a) left, ())
def con_laws_szAction : Con := conR sh_laws_szAction rsh_laws_szAction F_laws_szAction
def sh_laws_toValue : List PSh := [.v (.agg [.int .i64, .int .i64, .str])]
def rsh_laws_toValue : List VSh := [.agg [.int .i64, .int .i64, .str]]
def F_laws_toValue : psDen sh_laws_toValue → Prop × vsDen rsh_laws_toValue := fun ((k, i, s, ()), ()) => (True, (k, i, s, ()), ())
def con_laws_toValue : Con := conR sh_laws_toValue rsh_laws_toValue F_laws_toValue
def sh_laws_toAttr : List PSh := [.v (.agg [.str, .int .i64, .int .i64, .str])]
def rsh_laws_toAttr : List VSh := [.agg [.str, .int .i64, .int .i64, .str]]
def F_laws_toAttr : psDen sh_laws_toAttr → Prop × vsDen rsh_laws_toAttr := fun ((n, k, i, s, ()), ()) => (True, (n, k, i, s, ()), ())
def con_laws_toAttr : Con := conR sh_laws_toAttr rsh_laws_toAttr F_laws_toAttr
def sh_laws_toNode : List PSh := [.v (.agg [.int .i64, .int .i64, .int .i64, .str, .int .i64, .int .i64, .str])]
def rsh_laws_toNode : List VSh := [.agg [.int .i64, .int .i64, .int .i64, .str, .int .i64, .int .i64, .str]]
def F_laws_toNode : psDen sh_laws_toNode → Prop × vsDen rsh_laws_toNode := fun ((o, l, r, n, k, i, s, ()), ()) => (True, (o, l, r, n, k, i, s, ()), ())
def con_laws_toNode : Con := conR sh_laws_toNode rsh_laws_toNode F_laws_toNode
def sh_laws_toAttrS : List PSh := [.v (.one (.sl T_laws_Attr R_165 false))]
def rsh_laws_toAttrS : List VSh := [.one (.sl T_impl_Attr R_136 true)]
def F_laws_toAttrS : psDen sh_laws_toAttrS → Prop × vsDen rsh_laws_toAttrS := fun (a, ()) => (Sp.wAttrS a ≤ big, a, ())
def con_laws_toAttrS : Con := conR sh_laws_toAttrS rsh_laws_toAttrS F_laws_toAttrS
def sh_laws_toNodeS : List PSh := [.v (.one (.sl T_laws_Node R_168 false))]
def rsh_laws_toNodeS : List VSh := [.one (.sl T_impl_Node R_138 true)]
def F_laws_toNodeS : psDen sh_laws_toNodeS → Prop × vsDen rsh_laws_toNodeS := fun (a, ()) => (Sp.wNodeS a ≤ big, a, ())
def con_laws_toNodeS : Con := conR sh_laws_toNodeS rsh_laws_toNodeS F_laws_toNodeS
def sh_laws_toFile : List PSh := [.v (.agg [.int .i64, .int .i64, .bool, .int .i64, .sl T_laws_Attr R_165 false])]
def rsh_laws_toFile : List VSh := [.agg [.int .i64, .int .i64, .bool, .int .i64, .sl T_impl_Attr R_136 true]]
def F_laws_toFile : psDen sh_laws_toFile → Prop × vsDen rsh_laws_toFile := fun ((i, o, s, l, a, ()), ()) => (Sp.wAttrS a ≤ big, (i, o, s, l, a, ()), ())
def con_laws_toFile : Con := conR sh_laws_toFile rsh_laws_toFile F_laws_toFile
def sh_laws_toDir : List PSh := [.v (.agg [.str, .sl T_laws_Node R_168 false])]
def rsh_laws_toDir : List VSh := [.agg [.str, .sl T_impl_Node R_138 true]]
def F_laws_toDir : psDen sh_laws_toDir → Prop × vsDen rsh_laws_toDir := fun ((n, q, ()), ()) => (Sp.wNodeS q ≤ big, (n, q, ()), ())
def con_laws_toDir : Con := conR sh_laws_toDir rsh_laws_toDir F_laws_toDir
def sh_laws_toChange : List PSh := [.v (.agg [.int .i64, .int .i64, .int .i64, .bool, .int .i64, .sl T_laws_Attr R_165 false, .int .i64, .str, .sl T_laws_Node R_168 false])]
def rsh_laws_toChange : List VSh := [.agg [.int .i64, .int .i64, .int .i64, .bool, .int .i64, .sl T_impl_Attr R_136 true, .int .i64, .str, .sl T_impl_Node R_138 true]]
def F_laws_toChange : psDen sh_laws_toChange → Prop × vsDen rsh_laws_toChange := fun (a, ()) => (Sp.wChange a ≤ big, a, ())
def con_laws_toChange : Con := conR sh_laws_toChange rsh_laws_toChange F_laws_toChange
def sh_laws_toChangeS : List PSh := [.v (.one (.sl T_laws_Change R_95 false))]
def rsh_laws_toChangeS : List VSh := [.one (.sl T_impl_Change R_104 true)]
def F_laws_toChangeS : psDen sh_laws_toChangeS → Prop × vsDen rsh_laws_toChangeS := fun (a, ()) => (Sp.wChangeS a ≤ big, a, ())
def con_laws_toChangeS : Con := conR sh_laws_toChangeS rsh_laws_toChangeS F_laws_toChangeS
def sh_laws_toAction : List PSh := [.v (.agg [.int .i64, .int .i64, .sl T_laws_Change R_95 false, .str, .int .i64])]
def rsh_laws_toAction : List VSh := [.agg [.int .i64, .int .i64, .sl T_impl_Change R_104 true, .str, .int .i64]]
def F_laws_toAction : psDen sh_laws_toAction → Prop × vsDen rsh_laws_toAction := fun (a, ()) => (Sp.wAction a ≤ big, a, ())
def con_laws_toAction : Con := conR sh_laws_toAction rsh_laws_toAction F_laws_toAction
def sh_laws_eqValue : List PSh := [.v (.agg [.int .i64, .int .i64, .str]), .v (.agg [.int .i64, .int .i64, .str])]
def rsh_laws_eqValue : List VSh := [.one (.bool)]
def F_laws_eqValue : psDen sh_laws_eqValue → Prop × vsDen rsh_laws_eqValue := fun (a, b, ()) => (True, Sp.eqValue a b, ())
def con_laws_eqValue : Con := conR sh_laws_eqValue rsh_laws_eqValue F_laws_eqValue
def sh_laws_eqAttr : List PSh := [.v (.agg [.str, .int .i64, .int .i64, .str]), .v (.agg [.str, .int .i64, .int .i64, .str])]
def rsh_laws_eqAttr : List VSh := [.one (.bool)]
def F_laws_eqAttr : psDen sh_laws_eqAttr → Prop × vsDen rsh_laws_eqAttr := fun (a, b, ()) => (True, Sp.eqAttr a b, ())
def con_laws_eqAttr : Con := conR sh_laws_eqAttr rsh_laws_eqAttr F_laws_eqAttr
def sh_laws_eqNode : List PSh := [.v (.agg [.int .i64, .int .i64, .int .i64, .str, .int .i64, .int .i64, .str]), .v (.agg [.int .i64, .int .i64, .int .i64, .str, .int .i64, .int .i64, .str])]
def rsh_laws_eqNode : List VSh := [.one (.bool)]
def F_laws_eqNode : psDen sh_laws_eqNode → Prop × vsDen rsh_laws_eqNode := fun (a, b, ()) => (True, Sp.eqNode a b, ())
def con_laws_eqNode : Con := conR sh_laws_eqNode rsh_laws_eqNode F_laws_eqNode
def sh_laws_eqAttrS : List PSh := [.v (.one (.sl T_impl_Attr R_136 false)), .v (.one (.sl T_impl_Attr R_136 false))]
def rsh_laws_eqAttrS : List VSh := [.one (.bool)]
def F_laws_eqAttrS : psDen sh_laws_eqAttrS → Prop × vsDen rsh_laws_eqAttrS := fun (a, b, ()) => (True, Sp.eqAttrS a b, ())
def con_laws_eqAttrS : Con := conR sh_laws_eqAttrS rsh_laws_eqAttrS F_laws_eqAttrS
def sh_laws_eqNodeS : List PSh := [.v (.one (.sl T_impl_Node R_138 false)), .v (.one (.sl T_impl_Node R_138 false))]
def rsh_laws_eqNodeS : List VSh := [.one (.bool)]
def F_laws_eqNodeS : psDen sh_laws_eqNodeS → Prop × vsDen rsh_laws_eqNodeS := fun (a, b, ()) => (True, Sp.eqNodeS a b, ())
def con_laws_eqNodeS : Con := conR sh_laws_eqNodeS rsh_laws_eqNodeS F_laws_eqNodeS
def sh_laws_eqFile : List PSh := [.v (.agg [.int .i64, .int .i64, .bool, .int .i64, .sl T_impl_Attr R_136 false]), .v (.agg [.int .i64, .int .i64, .bool, .int .i64, .sl T_impl_Attr R_136 false])]
def rsh_laws_eqFile : List VSh := [.one (.bool)]
def F_laws_eqFile : psDen sh_laws_eqFile → Prop × vsDen rsh_laws_eqFile := fun (a, b, ()) => (True, Sp.eqFile a b, ())
def con_laws_eqFile : Con := conR sh_laws_eqFile rsh_laws_eqFile F_laws_eqFile
def sh_laws_eqDir : List PSh := [.v (.agg [.str, .sl T_impl_Node R_138 false]), .v (.agg [.str, .sl T_impl_Node R_138 false])]
def rsh_laws_eqDir : List VSh := [.one (.bool)]
def F_laws_eqDir : psDen sh_laws_eqDir → Prop × vsDen rsh_laws_eqDir := fun (a, b, ()) => (True, Sp.eqDir a b, ())
def con_laws_eqDir : Con := conR sh_laws_eqDir rsh_laws_eqDir F_laws_eqDir
def sh_laws_eqChange : List PSh := [.v (.agg [.int .i64, .int .i64, .int .i64, .bool, .int .i64, .sl T_impl_Attr R_136 false, .int .i64, .str, .sl T_impl_Node R_138 false]), .v (.agg [.int .i64, .int .i64, .int .i64, .bool, .int .i64, .sl T_impl_Attr R_136 false, .int .i64, .str, .sl T_impl_Node R_138 false])]
def rsh_laws_eqChange : List VSh := [.one (.bool)]
def F_laws_eqChange : psDen sh_laws_eqChange → Prop × vsDen rsh_laws_eqChange := fun (a, b, ()) => (True, Sp.eqChange a b, ())
def con_laws_eqChange : Con := conR sh_laws_eqChange rsh_laws_eqChange F_laws_eqChange
def sh_laws_eqChangeS : List PSh := [.v (.one (.sl T_impl_Change R_104 false)), .v (.one (.sl T_impl_Change R_104 false))]
def rsh_laws_eqChangeS : List VSh := [.one (.bool)]
def F_laws_eqChangeS : psDen sh_laws_eqChangeS → Prop × vsDen rsh_laws_eqChangeS := fun (a, b, ()) => (True, Sp.eqChangeS a b, ())
def con_laws_eqChangeS : Con := conR sh_laws_eqChangeS rsh_laws_eqChangeS F_laws_eqChangeS
def sh_laws_eqAction : List PSh := [.v (.agg [.int .i64, .int .i64, .sl T_impl_Change R_104 false, .str, .int .i64]), .v (.agg [.int .i64, .int .i64, .sl T_impl_Change R_104 false, .str, .int .i64])]
def rsh_laws_eqAction : List VSh := [.one (.bool)]
def F_laws_eqAction : psDen sh_laws_eqAction → Prop × vsDen rsh_laws_eqAction := fun (a, b, ()) => (True, Sp.eqAction a b, ())
def con_laws_eqAction : Con := conR sh_laws_eqAction rsh_laws_eqAction F_laws_eqAction
def sh_spec_l01In : List PSh := [.v (.one (.int .i64)), .v (.one (.int .i64)), .v (.one (.int .i64))]
def rsh_spec_l01In : List VSh := [.one (.bool)]
def F_spec_l01In : psDen sh_spec_l01In → Prop × vsDen rsh_spec_l01In := fun (x, a, b, ()) => (True, (decide (a ≤ x) && decide (x ≤ b)), ())
def con_spec_l01In : Con := conR sh_spec_l01In rsh_spec_l01In F_spec_l01In
def sh_impl_within : List PSh := [.v (.one (.int .i64)), .v (.one (.int .i64)), .v (.one (.int .i64))]
def rsh_impl_within : List VSh := [.one (.bool)]
def F_impl_within : psDen sh_impl_within → Prop × vsDen rsh_impl_within := fun (x, a, b, ()) => (True, (decide (a ≤ x) && decide (x ≤ b)), ())
def con_impl_within : Con := conR sh_impl_within rsh_impl_within F_impl_within
def sh_spec_l02Text : List PSh := [.v (.one (.str)), .v (.one (.int .i64))]
def rsh_spec_l02Text : List VSh := [.one (.bool)]
def F_spec_l02Text : psDen sh_spec_l02Text → Prop × vsDen rsh_spec_l02Text := fun (s, m, ()) => (True, (Sp.lower s && decide (1 ≤ (s.length : Int)) && decide ((s.length : Int) ≤ m)), ())
def con_spec_l02Text : Con := conR sh_spec_l02Text rsh_spec_l02Text F_spec_l02Text
def sh_spec_IsValidString : List PSh := [.v (.one (.str))]
def rsh_spec_IsValidString : List VSh := [.one (.bool)]
def F_spec_IsValidString : psDen sh_spec_IsValidString → Prop × vsDen rsh_spec_IsValidString := fun (s, ()) => (True, Sp.validStr s, ())
def con_spec_IsValidString : Con := conR sh_spec_IsValidString rsh_spec_IsValidString F_spec_IsValidString
def sh_impl_IsValidString : List PSh := [.v (.one (.str))]
def rsh_impl_IsValidString : List VSh := [.one (.bool)]
def F_impl_IsValidString : psDen sh_impl_IsValidString → Prop × vsDen rsh_impl_IsValidString := fun (s, ()) => (True, Sp.validStr s, ())
def con_impl_IsValidString : Con := conR sh_impl_IsValidString rsh_impl_IsValidString F_impl_IsValidString
def sh_spec_IsValidAction : List PSh := [.v (.agg [.int .i64, .int .i64, .sl T_impl_Change R_104 false, .str, .int .i64])]
def rsh_spec_IsValidAction : List VSh := [.one (.bool)]
def F_spec_IsValidAction : psDen sh_spec_IsValidAction → Prop × vsDen rsh_spec_IsValidAction := fun ((k, u, c, n, a, ()), ()) => (True, Sp.validAct k c.length, ())
def con_spec_IsValidAction : Con := conR sh_spec_IsValidAction rsh_spec_IsValidAction F_spec_IsValidAction
def sh_impl_IsValidAction : List PSh := [.v (.agg [.int .i64, .int .i64, .sl T_impl_Change R_104 false, .str, .int .i64])]
def rsh_impl_IsValidAction : List VSh := [.one (.bool)]
def F_impl_IsValidAction : psDen sh_impl_IsValidAction → Prop × vsDen rsh_impl_IsValidAction := fun ((k, u, c, n, a, ()), ()) => (True, Sp.validAct k c.length, ())
def con_impl_IsValidAction : Con := conR sh_impl_IsValidAction rsh_impl_IsValidAction F_impl_IsValidAction
def sh_impl_areNumbers_1 : List PSh := [.v (.one (.int .i64))]
def rsh_impl_areNumbers_1 : List VSh := [.one (.bool)]
def F_impl_areNumbers_1 : psDen sh_impl_areNumbers_1 → Prop × vsDen rsh_impl_areNumbers_1 := fun (n, ()) => (True, !Sp.isUint n, ())
def con_impl_areNumbers_1 : Con := conR sh_impl_areNumbers_1 rsh_impl_areNumbers_1 F_impl_areNumbers_1
def sh_slices_IndexFunc_int__impl_areNumbers_1 : List PSh := [.v (.one (.sl T_int R_3 false)), .fn 71 []]
def rsh_slices_IndexFunc_int__impl_areNumbers_1 : List VSh := [.one (.int .i64)]
def F_slices_IndexFunc_int__impl_areNumbers_1 : psDen sh_slices_IndexFunc_int__impl_areNumbers_1 → Prop × vsDen rsh_slices_IndexFunc_int__impl_areNumbers_1 := fun (l, _, ()) => (True, Sp.idxOf l, ())
def con_slices_IndexFunc_int__impl_areNumbers_1 : Con := conR sh_slices_IndexFunc_int__impl_areNumbers_1 rsh_slices_IndexFunc_int__impl_areNumbers_1 F_slices_IndexFunc_int__impl_areNumbers_1
def sh_slices_ContainsFunc_int__impl_areNumbers_1 : List PSh := [.v (.one (.sl T_int R_3 false)), .fn 71 []]
def rsh_slices_ContainsFunc_int__impl_areNumbers_1 : List VSh := [.one (.bool)]
def F_slices_ContainsFunc_int__impl_areNumbers_1 : psDen sh_slices_ContainsFunc_int__impl_areNumbers_1 → Prop × vsDen rsh_slices_ContainsFunc_int__impl_areNumbers_1 := fun (l, _, ()) => (True, !Sp.areUints l, ())
def con_slices_ContainsFunc_int__impl_areNumbers_1 : Con := conR sh_slices_ContainsFunc_int__impl_areNumbers_1 rsh_slices_ContainsFunc_int__impl_areNumbers_1 F_slices_ContainsFunc_int__impl_areNumbers_1
def sh_impl_areNumbers : List PSh := [.v (.one (.sl T_int R_3 false))]
def rsh_impl_areNumbers : List VSh := [.one (.bool)]
def F_impl_areNumbers : psDen sh_impl_areNumbers → Prop × vsDen rsh_impl_areNumbers := fun (l, ()) => (True, Sp.areUints l, ())
def con_impl_areNumbers : Con := conR sh_impl_areNumbers rsh_impl_areNumbers F_impl_areNumbers
def sh_spec_FormatAction : List PSh := [.v (.agg [.int .i64, .int .i64, .sl T_impl_Change R_104 false, .str, .int .i64])]
def rsh_spec_FormatAction : List VSh := [.one (.str)]
def F_spec_FormatAction : psDen sh_spec_FormatAction → Prop × vsDen rsh_spec_FormatAction := fun ((k, u, c, n, a, ()), ()) => (n.length ≤ 1048576, Sp.actionText k u c.length n a, ())
def con_spec_FormatAction : Con := conR sh_spec_FormatAction rsh_spec_FormatAction F_spec_FormatAction
def sh_impl_FormatAction : List PSh := [.v (.agg [.int .i64, .int .i64, .sl T_impl_Change R_104 false, .str, .int .i64])]
def rsh_impl_FormatAction : List VSh := [.one (.str)]
def F_impl_FormatAction : psDen sh_impl_FormatAction → Prop × vsDen rsh_impl_FormatAction := fun ((k, u, c, n, a, ()), ()) => (n.length ≤ 1048576, Sp.actionText k u c.length n a, ())
def con_impl_FormatAction : Con := conR sh_impl_FormatAction rsh_impl_FormatAction F_impl_FormatAction
def sh_laws_FnExactFormatAction : List PSh := [.v (.agg [.int .i64, .int .i64, .sl T_laws_Change R_95 false, .str, .int .i64])]
def rsh_laws_FnExactFormatAction : List VSh := [.one (.bool)]
def F_laws_FnExactFormatAction : psDen sh_laws_FnExactFormatAction → Prop × vsDen rsh_laws_FnExactFormatAction := fun (_, ()) => (True, true, ())
def con_laws_FnExactFormatAction : Con := conR sh_laws_FnExactFormatAction rsh_laws_FnExactFormatAction F_laws_FnExactFormatAction
def Γ_laws_szIntS : CEnv := findC []
def Γ_laws_toIntS : CEnv := findC []
def Γ_laws_eqIntS : CEnv := findC []
def Γ_strconv_Itoa : CEnv := findC []
def Γ_strings_Join : CEnv := findC []
def Γ_impl_FormatInt : CEnv := findC [(n_strconv_Itoa, .pure con_strconv_Itoa)]
def Γ_spec_l01Figure : CEnv := findC []
def Γ_spec_FormatInt : CEnv := findC [(n_spec_l01Figure, .pure con_spec_l01Figure)]
def Γ_laws_szEvent : CEnv := findC [(n_laws_szIntS, .pure con_laws_szIntS)]
def Γ_laws_toEvent : CEnv := findC [(n_laws_toIntS, .pure con_laws_toIntS)]
def Γ_laws_eqEvent : CEnv := findC [(n_laws_eqIntS, .pure con_laws_eqIntS)]
def Γ_spec_FormatEvent : CEnv := findC [(n_spec_FormatInt, .pure con_spec_FormatInt)]
def Γ_impl_FormatEvent : CEnv := findC [(n_impl_FormatInt, .pure con_impl_FormatInt)]
def Γ_spec_FormatIDs : CEnv := findC [(n_spec_FormatInt, .pure con_spec_FormatInt)]
def Γ_impl_FormatIDs : CEnv := findC [(n_strings_Join, .pure con_strings_Join), (n_impl_FormatInt, .pure con_impl_FormatInt)]
def Γ_spec_l39With : CEnv := findC [(n_spec_FormatIDs, .pure con_spec_FormatIDs)]
def Γ_impl_withIDs : CEnv := findC [(n_impl_FormatIDs, .pure con_impl_FormatIDs)]
def Γ_laws_szValue : CEnv := findC []
def Γ_laws_szAttr : CEnv := findC [(n_laws_szValue, .pure con_laws_szValue)]
def Γ_laws_szNode : CEnv := findC [(n_laws_szValue, .pure con_laws_szValue)]
def Γ_laws_szAttrS : CEnv := findC [(n_laws_szAttr, .pure con_laws_szAttr)]
def Γ_laws_szNodeS : CEnv := findC [(n_laws_szNode, .pure con_laws_szNode)]
def Γ_laws_szFile : CEnv := findC [(n_laws_szAttrS, .pure con_laws_szAttrS)]
def Γ_laws_szDir : CEnv := findC [(n_laws_szNodeS, .pure con_laws_szNodeS)]
def Γ_laws_szChange : CEnv := findC [(n_laws_szDir, .pure con_laws_szDir), (n_laws_szFile, .pure con_laws_szFile)]
def Γ_laws_szChangeS : CEnv := findC [(n_laws_szChange, .pure con_laws_szChange)]
def Γ_laws_szAction : CEnv := findC [(n_laws_szChangeS, .pure con_laws_szChangeS)]
def Γ_laws_toValue : CEnv := findC []
def Γ_laws_toAttr : CEnv := findC [(n_laws_toValue, .pure con_laws_toValue)]
def Γ_laws_toNode : CEnv := findC [(n_laws_toValue, .pure con_laws_toValue)]
def Γ_laws_toAttrS : CEnv := findC [(n_laws_toAttr, .pure con_laws_toAttr)]
def Γ_laws_toNodeS : CEnv := findC [(n_laws_toNode, .pure con_laws_toNode)]
def Γ_laws_toFile : CEnv := findC [(n_laws_toAttrS, .pure con_laws_toAttrS)]
def Γ_laws_toDir : CEnv := findC [(n_laws_toNodeS, .pure con_laws_toNodeS)]
def Γ_laws_toChange : CEnv := findC [(n_laws_toDir, .pure con_laws_toDir), (n_laws_toFile, .pure con_laws_toFile)]
def Γ_laws_toChangeS : CEnv := findC [(n_laws_toChange, .pure con_laws_toChange)]
def Γ_laws_toAction : CEnv := findC [(n_laws_toChangeS, .pure con_laws_toChangeS)]
def Γ_laws_eqValue : CEnv := findC []
def Γ_laws_eqAttr : CEnv := findC [(n_laws_eqValue, .pure con_laws_eqValue)]
def Γ_laws_eqNode : CEnv := findC [(n_laws_eqValue, .pure con_laws_eqValue)]
def Γ_laws_eqAttrS : CEnv := findC [(n_laws_eqAttr, .pure con_laws_eqAttr)]
def Γ_laws_eqNodeS : CEnv := findC [(n_laws_eqNode, .pure con_laws_eqNode)]
def Γ_laws_eqFile : CEnv := findC [(n_laws_eqAttrS, .pure con_laws_eqAttrS)]
def Γ_laws_eqDir : CEnv := findC [(n_laws_eqNodeS, .pure con_laws_eqNodeS)]
def Γ_laws_eqChange : CEnv := findC [(n_laws_eqDir, .pure con_laws_eqDir), (n_laws_eqFile, .pure con_laws_eqFile)]
def Γ_laws_eqChangeS : CEnv := findC [(n_laws_eqChange, .pure con_laws_eqChange)]
def Γ_laws_eqAction : CEnv := findC [(n_laws_eqChangeS, .pure con_laws_eqChangeS)]
def Γ_spec_l01In : CEnv := findC []
def Γ_impl_within : CEnv := findC []
def Γ_spec_l02Text : CEnv := findC [(n_spec_l01In, .pure con_spec_l01In)]
def Γ_spec_IsValidString : CEnv := findC [(n_spec_l02Text, .pure con_spec_l02Text)]
def Γ_impl_IsValidString : CEnv := findC [(n_impl_within, .pure con_impl_within)]
def Γ_spec_IsValidAction : CEnv := findC [(n_spec_l01In, .pure con_spec_l01In)]
def Γ_impl_IsValidAction : CEnv := findC [(n_impl_within, .pure con_impl_within)]
def Γ_impl_areNumbers_1 : CEnv := findC [(n_impl_within, .pure con_impl_within)]
def Γ_slices_IndexFunc_int__impl_areNumbers_1 : CEnv := findC [(n_impl_areNumbers_1, .pure con_impl_areNumbers_1)]
def Γ_slices_ContainsFunc_int__impl_areNumbers_1 : CEnv := findC [(n_slices_IndexFunc_int__impl_areNumbers_1, .pure con_slices_IndexFunc_int__impl_areNumbers_1), (n_impl_areNumbers_1, .pure con_impl_areNumbers_1)]
def Γ_impl_areNumbers : CEnv := findC [(n_impl_areNumbers_1, .pure con_impl_areNumbers_1), (n_slices_ContainsFunc_int__impl_areNumbers_1, .pure con_slices_ContainsFunc_int__impl_areNumbers_1)]
def Γ_spec_FormatAction : CEnv := findC [(n_spec_FormatInt, .pure con_spec_FormatInt), (n_spec_IsValidAction, .pure con_spec_IsValidAction), (n_spec_IsValidString, .pure con_spec_IsValidString), (n_spec_l01In, .pure con_spec_l01In)]
def Γ_impl_FormatAction : CEnv := findC [(n_strings_Join, .pure con_strings_Join), (n_impl_IsValidString, .pure con_impl_IsValidString), (n_impl_areNumbers, .pure con_impl_areNumbers), (n_impl_IsValidAction, .pure con_impl_IsValidAction), (n_impl_FormatInt, .pure con_impl_FormatInt)]
def Γ_laws_FnExactFormatAction : CEnv := findC [(n_laws_eqAction, .pure con_laws_eqAction), (n_impl_FormatAction, .pure con_impl_FormatAction), (n_spec_FormatAction, .pure con_spec_FormatAction), (n_laws_toAction, .pure con_laws_toAction), (n_laws_szAction, .pure con_laws_szAction)]
end Go.Proofs.Tryd
