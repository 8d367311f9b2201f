import Derived.Test.YtfkmcdocoofahaaDoorN
import Derived.Test.YtfkmcdocoofahaaDoorSp
namespace Go.Proofs.Tryd
open Go Go.Fw
def sh_laws_szIntS : List VSh := [.one (.sl T_int R_3 false), .one (.int .i64)]
def rsh_laws_szIntS : List VSh := [.one (.int .i64)]
def F_laws_szIntS : vsDen sh_laws_szIntS → Prop × vsDen rsh_laws_szIntS := fun (a, left, ()) => (0 ≤ left ∧ left ≤ 1048576, Sp.szLen a.length left, ())
def con_laws_szIntS : Con := conR sh_laws_szIntS rsh_laws_szIntS F_laws_szIntS
def sh_laws_toIntS : List VSh := [.one (.sl T_int R_3 false)]
def rsh_laws_toIntS : List VSh := [.one (.sl T_int R_3 true)]
def F_laws_toIntS : vsDen sh_laws_toIntS → Prop × vsDen rsh_laws_toIntS := fun (a, ()) => (a.length ≤ big, a, ())
def con_laws_toIntS : Con := conR sh_laws_toIntS rsh_laws_toIntS F_laws_toIntS
def sh_laws_eqIntS : List VSh := [.one (.sl T_int R_3 false), .one (.sl T_int R_3 false)]
def rsh_laws_eqIntS : List VSh := [.one (.bool)]
def F_laws_eqIntS : vsDen sh_laws_eqIntS → Prop × vsDen rsh_laws_eqIntS := fun (a, b, ()) => (True, decide (a = b), ())
def con_laws_eqIntS : Con := conR sh_laws_eqIntS rsh_laws_eqIntS F_laws_eqIntS
def sh_strconv_Itoa : List VSh := [.one (.int .i64)]
def rsh_strconv_Itoa : List VSh := [.one (.str)]
def F_strconv_Itoa : vsDen sh_strconv_Itoa → Prop × vsDen rsh_strconv_Itoa := fun (n, ()) => (-9223372036854775808 ≤ n ∧ n ≤ 9223372036854775807, Lib.itoa n, ())
def con_strconv_Itoa : Con := conR sh_strconv_Itoa rsh_strconv_Itoa F_strconv_Itoa
def sh_strings_Join : List VSh := [.one (.sl T_string R_9 false), .one (.str)]
def rsh_strings_Join : List VSh := [.one (.str)]
def F_strings_Join : vsDen sh_strings_Join → Prop × vsDen rsh_strings_Join := fun (l, sep, ()) => (l.length ≤ 140737488355328 ∧ (Lib.join (l.map (·.1)) sep).length ≤ 140737488355328, Lib.join (l.map (·.1)) sep, ())
def con_strings_Join : Con := conR sh_strings_Join rsh_strings_Join F_strings_Join
def sh_impl_FormatInt : List VSh := [.one (.int .i64)]
def rsh_impl_FormatInt : List VSh := [.one (.str)]
def F_impl_FormatInt : vsDen sh_impl_FormatInt → Prop × vsDen rsh_impl_FormatInt := fun (n, ()) => (True, Lib.itoa n, ())
def con_impl_FormatInt : Con := conR sh_impl_FormatInt rsh_impl_FormatInt F_impl_FormatInt
def sh_spec_l01Figure : List VSh := [.one (.int .i64)]
def rsh_spec_l01Figure : List VSh := [.one (.int .u8)]
def F_spec_l01Figure : vsDen sh_spec_l01Figure → Prop × vsDen rsh_spec_l01Figure := fun (x, ()) => (0 ≤ x ∧ x < 10, 48 + x, ())
def con_spec_l01Figure : Con := conR sh_spec_l01Figure rsh_spec_l01Figure F_spec_l01Figure
def sh_spec_FormatInt : List VSh := [.one (.int .i64)]
def rsh_spec_FormatInt : List VSh := [.one (.str)]
def F_spec_FormatInt : vsDen sh_spec_FormatInt → Prop × vsDen rsh_spec_FormatInt := fun (n, ()) => (True, Lib.itoa n, ())
def con_spec_FormatInt : Con := conR sh_spec_FormatInt rsh_spec_FormatInt F_spec_FormatInt
def sh_laws_szEvent : List VSh := [.agg [.int .i64, .sl T_int R_3 false, .sl T_int R_3 false], .one (.int .i64)]
def rsh_laws_szEvent : List VSh := [.one (.int .i64)]
def F_laws_szEvent : vsDen sh_laws_szEvent → Prop × vsDen rsh_laws_szEvent := fun ((_, a1, a2, ()), left, ()) => (0 ≤ left ∧ left ≤ 1048576, Sp.szEvent a1 a2 left, ())
def con_laws_szEvent : Con := conR sh_laws_szEvent rsh_laws_szEvent F_laws_szEvent
def sh_laws_toEvent : List VSh := [.agg [.int .i64, .sl T_int R_3 false, .sl T_int R_3 false]]
def rsh_laws_toEvent : List VSh := [.agg [.int .i64, .sl T_int R_3 true, .sl T_int R_3 true]]
def F_laws_toEvent : vsDen sh_laws_toEvent → Prop × vsDen rsh_laws_toEvent := fun ((a0, a1, a2, ()), ()) => (a1.length ≤ big ∧ a2.length ≤ big, (a0, a1, a2, ()), ())
def con_laws_toEvent : Con := conR sh_laws_toEvent rsh_laws_toEvent F_laws_toEvent
def sh_laws_eqEvent : List VSh := [.agg [.int .i64, .sl T_int R_3 false, .sl T_int R_3 false], .agg [.int .i64, .sl T_int R_3 false, .sl T_int R_3 false]]
def rsh_laws_eqEvent : List VSh := [.one (.bool)]
def F_laws_eqEvent : vsDen sh_laws_eqEvent → Prop × vsDen rsh_laws_eqEvent := fun (a, b, ()) => (True, decide (a = b), ())
def con_laws_eqEvent : Con := conR sh_laws_eqEvent rsh_laws_eqEvent F_laws_eqEvent
def sh_spec_FormatEvent : List VSh := [.agg [.int .i64, .sl T_int R_3 false, .sl T_int R_3 false]]
def rsh_spec_FormatEvent : List VSh := [.one (.str)]
def F_spec_FormatEvent : vsDen sh_spec_FormatEvent → Prop × vsDen rsh_spec_FormatEvent := fun ((v, a, r, ()), ()) => (a.length ≤ 1048576 ∧ r.length ≤ 1048576, Sp.eventText v a r, ())
def con_spec_FormatEvent : Con := conR sh_spec_FormatEvent rsh_spec_FormatEvent F_spec_FormatEvent
def sh_impl_FormatEvent : List VSh := [.agg [.int .i64, .sl T_int R_3 false, .sl T_int R_3 false]]
def rsh_impl_FormatEvent : List VSh := [.one (.str)]
def F_impl_FormatEvent : vsDen sh_impl_FormatEvent → Prop × vsDen rsh_impl_FormatEvent := fun ((v, a, r, ()), ()) => (a.length ≤ 1048576 ∧ r.length ≤ 1048576, Sp.eventText v a r, ())
def con_impl_FormatEvent : Con := conR sh_impl_FormatEvent rsh_impl_FormatEvent F_impl_FormatEvent
def sh_laws_szResult : List VSh := [.agg [.str, .sl T_int R_3 false], .one (.int .i64)]
def rsh_laws_szResult : List VSh := [.one (.int .i64)]
def F_laws_szResult : vsDen sh_laws_szResult → Prop × vsDen rsh_laws_szResult := fun ((a0, a1, ()), left, ()) => (0 ≤ left ∧ left ≤ 1048576, Sp.szResult a0 a1 left, ())
def con_laws_szResult : Con := conR sh_laws_szResult rsh_laws_szResult F_laws_szResult
def sh_laws_toResult : List VSh := [.agg [.str, .sl T_int R_3 false]]
def rsh_laws_toResult : List VSh := [.agg [.str, .sl T_int R_3 true]]
def F_laws_toResult : vsDen sh_laws_toResult → Prop × vsDen rsh_laws_toResult := fun ((a0, a1, ()), ()) => (a1.length ≤ big, (a0, a1, ()), ())
def con_laws_toResult : Con := conR sh_laws_toResult rsh_laws_toResult F_laws_toResult
def sh_laws_eqResult : List VSh := [.agg [.str, .sl T_int R_3 false], .agg [.str, .sl T_int R_3 false]]
def rsh_laws_eqResult : List VSh := [.one (.bool)]
def F_laws_eqResult : vsDen sh_laws_eqResult → Prop × vsDen rsh_laws_eqResult := fun (a, b, ()) => (True, decide (a = b), ())
def con_laws_eqResult : Con := conR sh_laws_eqResult rsh_laws_eqResult F_laws_eqResult
def sh_spec_FormatIDs : List VSh := [.one (.sl T_int R_3 false)]
def rsh_spec_FormatIDs : List VSh := [.one (.str)]
def F_spec_FormatIDs : vsDen sh_spec_FormatIDs → Prop × vsDen rsh_spec_FormatIDs := fun (ids, ()) => (ids.length ≤ 1048576, Sp.idsText ids, ())
def con_spec_FormatIDs : Con := conR sh_spec_FormatIDs rsh_spec_FormatIDs F_spec_FormatIDs
def sh_impl_FormatIDs : List VSh := [.one (.sl T_int R_3 false)]
def rsh_impl_FormatIDs : List VSh := [.one (.str)]
def F_impl_FormatIDs : vsDen sh_impl_FormatIDs → Prop × vsDen rsh_impl_FormatIDs := fun (ids, ()) => (ids.length ≤ 1048576, Sp.idsText ids, ())
def con_impl_FormatIDs : Con := conR sh_impl_FormatIDs rsh_impl_FormatIDs F_impl_FormatIDs
def sh_spec_l39With : List VSh := [.one (.str), .one (.sl T_int R_3 false)]
def rsh_spec_l39With : List VSh := [.one (.str)]
def F_spec_l39With : vsDen sh_spec_l39With → Prop × vsDen rsh_spec_l39With := fun (s, ids, ()) => (s.length ≤ 1048576 ∧ ids.length ≤ 1048576, Sp.withIds s ids, ())
def con_spec_l39With : Con := conR sh_spec_l39With rsh_spec_l39With F_spec_l39With
def sh_impl_withIDs : List VSh := [.one (.str), .one (.sl T_int R_3 false)]
def rsh_impl_withIDs : List VSh := [.one (.str)]
def F_impl_withIDs : vsDen sh_impl_withIDs → Prop × vsDen rsh_impl_withIDs := fun (s, ids, ()) => (s.length ≤ 1048576 ∧ ids.length ≤ 1048576, Sp.withIds s ids, ())
def con_impl_withIDs : Con := conR sh_impl_withIDs rsh_impl_withIDs F_impl_withIDs
def sh_spec_FormatResult : List VSh := [.agg [.str, .sl T_int R_3 false]]
def rsh_spec_FormatResult : List VSh := [.one (.str)]
def F_spec_FormatResult : vsDen sh_spec_FormatResult → Prop × vsDen rsh_spec_FormatResult := fun ((s, ids, ()), ()) => (s.length ≤ 1048576 ∧ ids.length ≤ 1048576, Sp.withIds s ids, ())
def con_spec_FormatResult : Con := conR sh_spec_FormatResult rsh_spec_FormatResult F_spec_FormatResult
def sh_impl_FormatResult : List VSh := [.agg [.str, .sl T_int R_3 false]]
def rsh_impl_FormatResult : List VSh := [.one (.str)]
def F_impl_FormatResult : vsDen sh_impl_FormatResult → Prop × vsDen rsh_impl_FormatResult := fun ((s, ids, ()), ()) => (s.length ≤ 1048576 ∧ ids.length ≤ 1048576, Sp.withIds s ids, ())
def con_impl_FormatResult : Con := conR sh_impl_FormatResult rsh_impl_FormatResult F_impl_FormatResult
def sh_laws_FnExactFormatEvent : List VSh := [.agg [.int .i64, .sl T_int R_3 false, .sl T_int R_3 false]]
def rsh_laws_FnExactFormatEvent : List VSh := [.one (.bool)]
def F_laws_FnExactFormatEvent : vsDen sh_laws_FnExactFormatEvent → Prop × vsDen rsh_laws_FnExactFormatEvent := fun (_, ()) => (True, true, ())
def con_laws_FnExactFormatEvent : Con := conR sh_laws_FnExactFormatEvent rsh_laws_FnExactFormatEvent F_laws_FnExactFormatEvent
def sh_laws_FnExactFormatIDs : List VSh := [.one (.sl T_int R_3 false)]
def rsh_laws_FnExactFormatIDs : List VSh := [.one (.bool)]
def F_laws_FnExactFormatIDs : vsDen sh_laws_FnExactFormatIDs → Prop × vsDen rsh_laws_FnExactFormatIDs := fun (_, ()) => (True, true, ())
def con_laws_FnExactFormatIDs : Con := conR sh_laws_FnExactFormatIDs rsh_laws_FnExactFormatIDs F_laws_FnExactFormatIDs
def sh_laws_FnExactFormatResult : List VSh := [.agg [.str, .sl T_int R_3 false]]
def rsh_laws_FnExactFormatResult : List VSh := [.one (.bool)]
def F_laws_FnExactFormatResult : vsDen sh_laws_FnExactFormatResult → Prop × vsDen rsh_laws_FnExactFormatResult := fun (_, ()) => (True, true, ())
def con_laws_FnExactFormatResult : Con := conR sh_laws_FnExactFormatResult rsh_laws_FnExactFormatResult F_laws_FnExactFormatResult
def Γ_laws_szIntS : CEnv := findC []
def Γ_laws_toIntS : CEnv := findC []
def Γ_laws_eqIntS : CEnv := findC []
def Γ_strconv_Itoa : CEnv := findC []
def Γ_strings_Join : CEnv := findC []
def Γ_impl_FormatInt : CEnv := findC [(n_strconv_Itoa, con_strconv_Itoa)]
def Γ_spec_l01Figure : CEnv := findC []
def Γ_spec_FormatInt : CEnv := findC [(n_spec_l01Figure, con_spec_l01Figure)]
def Γ_laws_szEvent : CEnv := findC [(n_laws_szIntS, con_laws_szIntS)]
def Γ_laws_toEvent : CEnv := findC [(n_laws_toIntS, con_laws_toIntS)]
def Γ_laws_eqEvent : CEnv := findC [(n_laws_eqIntS, con_laws_eqIntS)]
def Γ_spec_FormatEvent : CEnv := findC [(n_spec_FormatInt, con_spec_FormatInt)]
def Γ_impl_FormatEvent : CEnv := findC [(n_impl_FormatInt, con_impl_FormatInt)]
def Γ_laws_szResult : CEnv := findC [(n_laws_szIntS, con_laws_szIntS)]
def Γ_laws_toResult : CEnv := findC [(n_laws_toIntS, con_laws_toIntS)]
def Γ_laws_eqResult : CEnv := findC [(n_laws_eqIntS, con_laws_eqIntS)]
def Γ_spec_FormatIDs : CEnv := findC [(n_spec_FormatInt, con_spec_FormatInt)]
def Γ_impl_FormatIDs : CEnv := findC [(n_strings_Join, con_strings_Join), (n_impl_FormatInt, con_impl_FormatInt)]
def Γ_spec_l39With : CEnv := findC [(n_spec_FormatIDs, con_spec_FormatIDs)]
def Γ_impl_withIDs : CEnv := findC [(n_impl_FormatIDs, con_impl_FormatIDs)]
def Γ_spec_FormatResult : CEnv := findC [(n_spec_l39With, con_spec_l39With)]
def Γ_impl_FormatResult : CEnv := findC [(n_impl_withIDs, con_impl_withIDs)]
def Γ_laws_FnExactFormatEvent : CEnv := findC [(n_laws_eqEvent, con_laws_eqEvent), (n_impl_FormatEvent, con_impl_FormatEvent), (n_spec_FormatEvent, con_spec_FormatEvent), (n_laws_toEvent, con_laws_toEvent), (n_laws_szEvent, con_laws_szEvent)]
def Γ_laws_FnExactFormatIDs : CEnv := findC [(n_laws_eqIntS, con_laws_eqIntS), (n_impl_FormatIDs, con_impl_FormatIDs), (n_spec_FormatIDs, con_spec_FormatIDs), (n_laws_toIntS, con_laws_toIntS)]
def Γ_laws_FnExactFormatResult : CEnv := findC [(n_laws_eqResult, con_laws_eqResult), (n_impl_FormatResult, con_impl_FormatResult), (n_spec_FormatResult, con_spec_FormatResult), (n_laws_toResult, con_laws_toResult), (n_laws_szResult, con_laws_szResult)]
end Go.Proofs.Tryd
