import Derived.Test.YtfkmcdocoofahaaDoorF
namespace Go.Proofs.Tryd
open Go Go.Fw
def H_laws_szIntS : Hints := Go.Fw.hints [] []
def VC_laws_szIntS (a : List (Int × Unit)) (left : Int) (K : Int × Unit → Prop) : Prop :=
  bif decide (IntKind.i64.wrap (left - (↑a.length : Int)) < (0 : Int)) then K ((-1 : Int), ()) else K (IntKind.i64.wrap (left - (↑a.length : Int)), ())
theorem wk_laws_szIntS (env : EnvB prog G Θ Γ_laws_szIntS) (h : ∀ (a : List (Int × Unit)) (left : Int), ((a.length ≤ maxLen ∧ ∀ (x : Int × Unit), x ∈ a → ((-9223372036854775808 : Int) ≤ x.fst ∧ x.fst ≤ (9223372036854775807 : Int)) ∧ True) ∧
  ((-9223372036854775808 : Int) ≤ left ∧ left ≤ (9223372036854775807 : Int)) ∧ True) → ((0 : Int) ≤ left ∧ left ≤ (1048576 : Int)) → VC_laws_szIntS a left fun r => r = ((Sp.szLen a.length left, ()))) : ConOK prog G n_laws_szIntS con_laws_szIntS :=
  conR_ok env mixed (fn := f20) (c := codeOf f20) (by kernel_rfl) (by kernel_rfl) H_laws_szIntS (by kernel_rfl) fun ⟨a, left, ⟨⟩⟩ hin hp =>
    Eq.mpr ((by kernel_rfl : awp Θ Γ_laws_szIntS H_laws_szIntS (codeOf f20) (endsV Θ f20.results.toList rsh_laws_szIntS fun r => r = (F_laws_szIntS (a, left, ())).2) (entry f20.ntmps (vsVals sh_laws_szIntS (a, left, ()))) = VC_laws_szIntS a left fun r => r = ((Sp.szLen a.length left, ())))) (h a left hin hp)

def H_laws_toIntS : Hints := Go.Fw.hints [7] [(3, ⟨[], ⟨[(0, .one (.sl 3 (.cons (.int .i64) .nil) false)), (3, .one (.ref 449))], []⟩, ⟨[(4, .one (.int .i64))], [(449, .arr 3 (.cons (.int .i64) .nil) true)]⟩⟩)]
def VC_laws_toIntS (a : List (Int × Unit)) (K : List (Int × Unit) × Unit → Prop) : Prop :=
  ((0 : Int) ≤ (↑a.length : Int) ∧ (↑a.length : Int) ≤ (↑a.length : Int) ∧ (↑a.length : Int) ≤ (↑big : Int)) ∧
    ∃ (I : (Int × Unit) × List (Int × Unit) × Unit → Prop),
      ∃ (μ : (Int × Unit) × List (Int × Unit) × Unit → Nat),
        I (((0 : Int), ()), List.replicate (↑a.length : Int).toNat ((0 : Int), ()), ()) ∧
          ∀ (y : (Int × Unit) × List (Int × Unit) × Unit),
            I y →
              bif decide (y.fst.fst < (↑a.length : Int)) then
                ((0 : Int) ≤ y.fst.fst ∧ y.fst.fst < (↑a.length : Int)) ∧
                  ((0 : Int) ≤ y.fst.fst ∧ y.fst.fst < (↑(List.length y.snd.fst) : Int)) ∧
                    Int.toNat y.fst.fst < List.length y.snd.fst ∧
                      ((a, (), ()), ()) = ((a, (), ()), ()) ∧
                        I ((IntKind.i64.wrap (y.fst.fst + (1 : Int)), ()), List.set y.snd.fst (Int.toNat y.fst.fst) ((a.getD (Int.toNat y.fst.fst) ((0 : Int), ())).fst, ()), ()) ∧
                          μ ((IntKind.i64.wrap (y.fst.fst + (1 : Int)), ()), List.set y.snd.fst (Int.toNat y.fst.fst) ((a.getD (Int.toNat y.fst.fst) ((0 : Int), ())).fst, ()), ()) <
                            μ y
              else K (y.snd.fst, ())
theorem wk_laws_toIntS (env : EnvB prog G Θ Γ_laws_toIntS) (h : ∀ (a : List (Int × Unit)), ((a.length ≤ maxLen ∧ ∀ (x : Int × Unit), x ∈ a → ((-9223372036854775808 : Int) ≤ x.fst ∧ x.fst ≤ (9223372036854775807 : Int)) ∧ True) ∧ True) → (a.length ≤ big) → VC_laws_toIntS a fun r => r = ((a, ()))) : ConOK prog G n_laws_toIntS con_laws_toIntS :=
  conR_ok env mixed (fn := f12) (c := codeOf f12) (by kernel_rfl) (by kernel_rfl) H_laws_toIntS (by kernel_rfl) fun ⟨a, ⟨⟩⟩ hin hp =>
    Eq.mpr ((by kernel_rfl : awp Θ Γ_laws_toIntS H_laws_toIntS (codeOf f12) (endsV Θ f12.results.toList rsh_laws_toIntS fun r => r = (F_laws_toIntS (a, ())).2) (entry f12.ntmps (vsVals sh_laws_toIntS (a, ()))) = VC_laws_toIntS a fun r => r = ((a, ())))) (h a hin hp)

def H_laws_eqIntS : Hints := Go.Fw.hints [] [(4, ⟨[], ⟨[(0, .one (.sl 3 (.cons (.int .i64) .nil) false)), (1, .one (.sl 3 (.cons (.int .i64) .nil) false))], []⟩, ⟨[(5, .one (.int .i64))], []⟩⟩)]
def VC_laws_eqIntS (a : List (Int × Unit)) (b : List (Int × Unit)) (K : Bool × Unit → Prop) : Prop :=
  bif (↑a.length : Int) != (↑b.length : Int) then K (false, ())
  else
    ∃ (I : (Int × Unit) × Unit → Prop),
      ∃ (μ : (Int × Unit) × Unit → Nat),
        I (((0 : Int), ()), ()) ∧
          ∀ (y : (Int × Unit) × Unit),
            I y →
              bif decide (y.fst.fst < (↑a.length : Int)) then
                ((0 : Int) ≤ y.fst.fst ∧ y.fst.fst < (↑a.length : Int)) ∧
                  ((0 : Int) ≤ y.fst.fst ∧ y.fst.fst < (↑b.length : Int)) ∧
                    bif (a.getD (Int.toNat y.fst.fst) ((0 : Int), ())).fst != (b.getD (Int.toNat y.fst.fst) ((0 : Int), ())).fst then K (false, ())
                    else ((a, b, ()), ()) = ((a, b, ()), ()) ∧ I ((IntKind.i64.wrap (y.fst.fst + (1 : Int)), ()), ()) ∧ μ ((IntKind.i64.wrap (y.fst.fst + (1 : Int)), ()), ()) < μ y
              else K (true, ())
theorem wk_laws_eqIntS (env : EnvB prog G Θ Γ_laws_eqIntS) (h : ∀ (a : List (Int × Unit)) (b : List (Int × Unit)), ((a.length ≤ maxLen ∧ ∀ (x : Int × Unit), x ∈ a → ((-9223372036854775808 : Int) ≤ x.fst ∧ x.fst ≤ (9223372036854775807 : Int)) ∧ True) ∧
  (b.length ≤ maxLen ∧ ∀ (x : Int × Unit), x ∈ b → ((-9223372036854775808 : Int) ≤ x.fst ∧ x.fst ≤ (9223372036854775807 : Int)) ∧ True) ∧ True) → (True) → VC_laws_eqIntS a b fun r => r = ((decide (a = b), ()))) : ConOK prog G n_laws_eqIntS con_laws_eqIntS :=
  conR_ok env mixed (fn := f14) (c := codeOf f14) (by kernel_rfl) (by kernel_rfl) H_laws_eqIntS (by kernel_rfl) fun ⟨a, b, ⟨⟩⟩ hin hp =>
    Eq.mpr ((by kernel_rfl : awp Θ Γ_laws_eqIntS H_laws_eqIntS (codeOf f14) (endsV Θ f14.results.toList rsh_laws_eqIntS fun r => r = (F_laws_eqIntS (a, b, ())).2) (entry f14.ntmps (vsVals sh_laws_eqIntS (a, b, ()))) = VC_laws_eqIntS a b fun r => r = ((decide (a = b), ())))) (h a b hin hp)

def H_impl_FormatInt : Hints := Go.Fw.hints [] []
def VC_impl_FormatInt (n : Int) (K : List UInt8 × Unit → Prop) : Prop :=
  ((-9223372036854775808 : Int) ≤ n ∧ n ≤ (9223372036854775807 : Int)) ∧ K (Lib.itoa n, ())
theorem wk_impl_FormatInt (env : EnvB prog G Θ Γ_impl_FormatInt) (h : ∀ (n : Int), (((-9223372036854775808 : Int) ≤ n ∧ n ≤ (9223372036854775807 : Int)) ∧ True) → (True) → VC_impl_FormatInt n fun r => r = ((Lib.itoa n, ()))) : ConOK prog G n_impl_FormatInt con_impl_FormatInt :=
  conR_ok env mixed (fn := f22) (c := codeOf f22) (by kernel_rfl) (by kernel_rfl) H_impl_FormatInt (by kernel_rfl) fun ⟨n, ⟨⟩⟩ hin hp =>
    Eq.mpr ((by kernel_rfl : awp Θ Γ_impl_FormatInt H_impl_FormatInt (codeOf f22) (endsV Θ f22.results.toList rsh_impl_FormatInt fun r => r = (F_impl_FormatInt (n, ())).2) (entry f22.ntmps (vsVals sh_impl_FormatInt (n, ()))) = VC_impl_FormatInt n fun r => r = ((Lib.itoa n, ())))) (h n hin hp)

def H_spec_l01Figure : Hints := Go.Fw.hints [] []
def VC_spec_l01Figure (x : Int) (K : Int × Unit → Prop) : Prop :=
  bif decide (x < (10 : Int)) then K (IntKind.u8.wrap (IntKind.i64.wrap ((48 : Int) + x)), ())
  else K (IntKind.u8.wrap (IntKind.i64.wrap (IntKind.i64.wrap ((97 : Int) + x) - (10 : Int))), ())
theorem wk_spec_l01Figure (env : EnvB prog G Θ Γ_spec_l01Figure) (h : ∀ (x : Int), (((-9223372036854775808 : Int) ≤ x ∧ x ≤ (9223372036854775807 : Int)) ∧ True) → ((0 : Int) ≤ x ∧ x < (10 : Int)) → VC_spec_l01Figure x fun r => r = (((48 : Int) + x, ()))) : ConOK prog G n_spec_l01Figure con_spec_l01Figure :=
  conR_ok env mixed (fn := f26) (c := codeOf f26) (by kernel_rfl) (by kernel_rfl) H_spec_l01Figure (by kernel_rfl) fun ⟨x, ⟨⟩⟩ hin hp =>
    Eq.mpr ((by kernel_rfl : awp Θ Γ_spec_l01Figure H_spec_l01Figure (codeOf f26) (endsV Θ f26.results.toList rsh_spec_l01Figure fun r => r = (F_spec_l01Figure (x, ())).2) (entry f26.ntmps (vsVals sh_spec_l01Figure (x, ()))) = VC_spec_l01Figure x fun r => r = (((48 : Int) + x, ())))) (h x hin hp)

def H_spec_FormatInt : Hints := Go.Fw.hints [] [(5, ⟨[], ⟨[(3, .one (.bool))], []⟩, ⟨[(0, .one (.int .i64)), (4, .one (.str))], []⟩⟩)]
def VC_spec_FormatInt (n : Int) (K : List UInt8 × Unit → Prop) : Prop :=
  bif n == (0 : Int) then K ([(48 : UInt8)], ())
  else
    ∃ (I : (Int × List UInt8 × Unit) × Unit → Prop),
      ∃ (μ : (Int × List UInt8 × Unit) × Unit → Nat),
        I ((n, [], ()), ()) ∧
          ∀ (y : (Int × List UInt8 × Unit) × Unit),
            I y →
              bif y.fst.fst != (0 : Int) then
                (10 : Int) ≠ (0 : Int) ∧
                  bif decide (Int.tmod y.fst.fst (10 : Int) < (0 : Int)) then
                    ((0 : Int) ≤ IntKind.i64.wrap ((0 : Int) - Int.tmod y.fst.fst (10 : Int)) ∧ IntKind.i64.wrap ((0 : Int) - Int.tmod y.fst.fst (10 : Int)) < (10 : Int)) ∧
                      let r := (48 : Int) + IntKind.i64.wrap ((0 : Int) - Int.tmod y.fst.fst (10 : Int));
                      List.length (byteRow [(r, ())]) + List.length y.fst.snd.fst ≤ maxLen ∧
                        (10 : Int) ≠ (0 : Int) ∧
                          ((decide (n < (0 : Int)), ()), ()) = ((decide (n < (0 : Int)), ()), ()) ∧
                            I ((IntKind.i64.wrap (Int.tdiv y.fst.fst (10 : Int)), byteRow [(r, ())] ++ y.fst.snd.fst, ()), ()) ∧
                              μ ((IntKind.i64.wrap (Int.tdiv y.fst.fst (10 : Int)), byteRow [(r, ())] ++ y.fst.snd.fst, ()), ()) < μ y
                  else
                    ((0 : Int) ≤ Int.tmod y.fst.fst (10 : Int) ∧ Int.tmod y.fst.fst (10 : Int) < (10 : Int)) ∧
                      let r := (48 : Int) + Int.tmod y.fst.fst (10 : Int);
                      List.length (byteRow [(r, ())]) + List.length y.fst.snd.fst ≤ maxLen ∧
                        (10 : Int) ≠ (0 : Int) ∧
                          ((decide (n < (0 : Int)), ()), ()) = ((decide (n < (0 : Int)), ()), ()) ∧
                            I ((IntKind.i64.wrap (Int.tdiv y.fst.fst (10 : Int)), byteRow [(r, ())] ++ y.fst.snd.fst, ()), ()) ∧
                              μ ((IntKind.i64.wrap (Int.tdiv y.fst.fst (10 : Int)), byteRow [(r, ())] ++ y.fst.snd.fst, ()), ()) < μ y
              else bif decide (n < (0 : Int)) then [(45 : UInt8)].length + List.length y.fst.snd.fst ≤ maxLen ∧ K ([(45 : UInt8)] ++ y.fst.snd.fst, ()) else K (y.fst.snd.fst, ())
theorem wk_spec_FormatInt (env : EnvB prog G Θ Γ_spec_FormatInt) (h : ∀ (n : Int), (((-9223372036854775808 : Int) ≤ n ∧ n ≤ (9223372036854775807 : Int)) ∧ True) → (True) → VC_spec_FormatInt n fun r => r = ((Lib.itoa n, ()))) : ConOK prog G n_spec_FormatInt con_spec_FormatInt :=
  conR_ok env mixed (fn := f21) (c := codeOf f21) (by kernel_rfl) (by kernel_rfl) H_spec_FormatInt (by kernel_rfl) fun ⟨n, ⟨⟩⟩ hin hp =>
    Eq.mpr ((by kernel_rfl : awp Θ Γ_spec_FormatInt H_spec_FormatInt (codeOf f21) (endsV Θ f21.results.toList rsh_spec_FormatInt fun r => r = (F_spec_FormatInt (n, ())).2) (entry f21.ntmps (vsVals sh_spec_FormatInt (n, ()))) = VC_spec_FormatInt n fun r => r = ((Lib.itoa n, ())))) (h n hin hp)

def H_laws_szEvent : Hints := Go.Fw.hints [] []
def VC_laws_szEvent (a0 : Int) (a1 : List (Int × Unit)) (a2 : List (Int × Unit)) (left : Int) (K : Int × Unit → Prop) : Prop :=
  ((0 : Int) ≤ left ∧ left ≤ (1048576 : Int)) ∧
    bif decide (Sp.szLen a1.length left < (0 : Int)) then K ((-1 : Int), ())
    else
      ((0 : Int) ≤ Sp.szLen a1.length left ∧ Sp.szLen a1.length left ≤ (1048576 : Int)) ∧
        let r := Sp.szLen a2.length (Sp.szLen a1.length left);
        bif decide (r < (0 : Int)) then K ((-1 : Int), ()) else K (r, ())
theorem wk_laws_szEvent (env : EnvB prog G Θ Γ_laws_szEvent) (h : ∀ (a0 : Int) (a1 : List (Int × Unit)) (a2 : List (Int × Unit)) (left : Int), ((((-9223372036854775808 : Int) ≤ a0 ∧ a0 ≤ (9223372036854775807 : Int)) ∧
    (a1.length ≤ maxLen ∧ ∀ (x : Int × Unit), x ∈ a1 → ((-9223372036854775808 : Int) ≤ x.fst ∧ x.fst ≤ (9223372036854775807 : Int)) ∧ True) ∧
      (a2.length ≤ maxLen ∧ ∀ (x : Int × Unit), x ∈ a2 → ((-9223372036854775808 : Int) ≤ x.fst ∧ x.fst ≤ (9223372036854775807 : Int)) ∧ True) ∧ True) ∧
  ((-9223372036854775808 : Int) ≤ left ∧ left ≤ (9223372036854775807 : Int)) ∧ True) → ((0 : Int) ≤ left ∧ left ≤ (1048576 : Int)) → VC_laws_szEvent a0 a1 a2 left fun r => r = ((Sp.szEvent a1 a2 left, ()))) : ConOK prog G n_laws_szEvent con_laws_szEvent :=
  conR_ok env mixed (fn := f6) (c := codeOf f6) (by kernel_rfl) (by kernel_rfl) H_laws_szEvent (by kernel_rfl) fun ⟨⟨a0, a1, a2, ⟨⟩⟩, left, ⟨⟩⟩ hin hp =>
    Eq.mpr ((by kernel_rfl : awp Θ Γ_laws_szEvent H_laws_szEvent (codeOf f6) (endsV Θ f6.results.toList rsh_laws_szEvent fun r => r = (F_laws_szEvent ((a0, a1, a2, ()), left, ())).2) (entry f6.ntmps (vsVals sh_laws_szEvent ((a0, a1, a2, ()), left, ()))) = VC_laws_szEvent a0 a1 a2 left fun r => r = ((Sp.szEvent a1 a2 left, ())))) (h a0 a1 a2 left hin hp)

def H_laws_toEvent : Hints := Go.Fw.hints [] []
def VC_laws_toEvent (a0 : Int) (a1 : List (Int × Unit)) (a2 : List (Int × Unit)) (K : (Int × List (Int × Unit) × List (Int × Unit) × Unit) × Unit → Prop) : Prop :=
  a1.length ≤ big ∧ a2.length ≤ big ∧ K ((a0, a1, a2, ()), ())
theorem wk_laws_toEvent (env : EnvB prog G Θ Γ_laws_toEvent) (h : ∀ (a0 : Int) (a1 : List (Int × Unit)) (a2 : List (Int × Unit)), ((((-9223372036854775808 : Int) ≤ a0 ∧ a0 ≤ (9223372036854775807 : Int)) ∧
    (a1.length ≤ maxLen ∧ ∀ (x : Int × Unit), x ∈ a1 → ((-9223372036854775808 : Int) ≤ x.fst ∧ x.fst ≤ (9223372036854775807 : Int)) ∧ True) ∧
      (a2.length ≤ maxLen ∧ ∀ (x : Int × Unit), x ∈ a2 → ((-9223372036854775808 : Int) ≤ x.fst ∧ x.fst ≤ (9223372036854775807 : Int)) ∧ True) ∧ True) ∧
  True) → (a1.length ≤ big ∧ a2.length ≤ big) → VC_laws_toEvent a0 a1 a2 fun r => r = (((a0, a1, a2, ()), ()))) : ConOK prog G n_laws_toEvent con_laws_toEvent :=
  conR_ok env mixed (fn := f8) (c := codeOf f8) (by kernel_rfl) (by kernel_rfl) H_laws_toEvent (by kernel_rfl) fun ⟨⟨a0, a1, a2, ⟨⟩⟩, ⟨⟩⟩ hin hp =>
    Eq.mpr ((by kernel_rfl : awp Θ Γ_laws_toEvent H_laws_toEvent (codeOf f8) (endsV Θ f8.results.toList rsh_laws_toEvent fun r => r = (F_laws_toEvent ((a0, a1, a2, ()), ())).2) (entry f8.ntmps (vsVals sh_laws_toEvent ((a0, a1, a2, ()), ()))) = VC_laws_toEvent a0 a1 a2 fun r => r = (((a0, a1, a2, ()), ())))) (h a0 a1 a2 hin hp)

def H_laws_eqEvent : Hints := Go.Fw.hints [] []
def VC_laws_eqEvent (a0 : Int) (a1 : List (Int × Unit)) (a2 : List (Int × Unit)) (b0 : Int) (b1 : List (Int × Unit)) (b2 : List (Int × Unit)) (K : Bool × Unit → Prop) : Prop :=
  bif a0 != b0 then K (false, ())
  else
    True ∧
      let r := decide (a1 = b1);
      bif !r then K (false, ())
      else
        True ∧
          let r := decide (a2 = b2);
          bif !r then K (false, ()) else K (true, ())
theorem wk_laws_eqEvent (env : EnvB prog G Θ Γ_laws_eqEvent) (h : ∀ (a0 : Int) (a1 : List (Int × Unit)) (a2 : List (Int × Unit)) (b0 : Int) (b1 : List (Int × Unit)) (b2 : List (Int × Unit)), ((((-9223372036854775808 : Int) ≤ a0 ∧ a0 ≤ (9223372036854775807 : Int)) ∧
    (a1.length ≤ maxLen ∧ ∀ (x : Int × Unit), x ∈ a1 → ((-9223372036854775808 : Int) ≤ x.fst ∧ x.fst ≤ (9223372036854775807 : Int)) ∧ True) ∧
      (a2.length ≤ maxLen ∧ ∀ (x : Int × Unit), x ∈ a2 → ((-9223372036854775808 : Int) ≤ x.fst ∧ x.fst ≤ (9223372036854775807 : Int)) ∧ True) ∧ True) ∧
  (((-9223372036854775808 : Int) ≤ b0 ∧ b0 ≤ (9223372036854775807 : Int)) ∧
      (b1.length ≤ maxLen ∧ ∀ (x : Int × Unit), x ∈ b1 → ((-9223372036854775808 : Int) ≤ x.fst ∧ x.fst ≤ (9223372036854775807 : Int)) ∧ True) ∧
        (b2.length ≤ maxLen ∧ ∀ (x : Int × Unit), x ∈ b2 → ((-9223372036854775808 : Int) ≤ x.fst ∧ x.fst ≤ (9223372036854775807 : Int)) ∧ True) ∧ True) ∧
    True) → (True) → VC_laws_eqEvent a0 a1 a2 b0 b1 b2 fun r => r = ((decide ((a0, a1, a2, ()) = (b0, b1, b2, ())), ()))) : ConOK prog G n_laws_eqEvent con_laws_eqEvent :=
  conR_ok env mixed (fn := f10) (c := codeOf f10) (by kernel_rfl) (by kernel_rfl) H_laws_eqEvent (by kernel_rfl) fun ⟨⟨a0, a1, a2, ⟨⟩⟩, ⟨b0, b1, b2, ⟨⟩⟩, ⟨⟩⟩ hin hp =>
    Eq.mpr ((by kernel_rfl : awp Θ Γ_laws_eqEvent H_laws_eqEvent (codeOf f10) (endsV Θ f10.results.toList rsh_laws_eqEvent fun r => r = (F_laws_eqEvent ((a0, a1, a2, ()), (b0, b1, b2, ()), ())).2) (entry f10.ntmps (vsVals sh_laws_eqEvent ((a0, a1, a2, ()), (b0, b1, b2, ()), ()))) = VC_laws_eqEvent a0 a1 a2 b0 b1 b2 fun r => r = ((decide ((a0, a1, a2, ()) = (b0, b1, b2, ())), ())))) (h a0 a1 a2 b0 b1 b2 hin hp)

def H_spec_FormatEvent : Hints := Go.Fw.hints [] [(3, ⟨[], ⟨[(1, .vptr 64 0)], [(64, .var [.int .i64, .sl 3 (.cons (.int .i64) .nil) false, .sl 3 (.cons (.int .i64) .nil) false])]⟩, ⟨[(3, .one (.str)), (4, .one (.int .i64))], []⟩⟩), (7, ⟨[], ⟨[(1, .vptr 64 0)], [(64, .var [.int .i64, .sl 3 (.cons (.int .i64) .nil) false, .sl 3 (.cons (.int .i64) .nil) false])]⟩, ⟨[(3, .one (.str)), (5, .one (.int .i64))], []⟩⟩)]
def VC_spec_FormatEvent (e0 : Int) (e1 : List (Int × Unit)) (e2 : List (Int × Unit)) (K : List UInt8 × Unit → Prop) : Prop :=
  True ∧
    ∃ (I : (List UInt8 × Int × Unit) × Unit → Prop),
      ∃ (μ : (List UInt8 × Int × Unit) × Unit → Nat),
        I ((Lib.itoa e0, (0 : Int), ()), ()) ∧
          ∀ (y : (List UInt8 × Int × Unit) × Unit),
            I y →
              bif decide (y.fst.snd.fst < (↑e1.length : Int)) then
                List.length y.fst.fst + [(32 : UInt8), (43 : UInt8)].length ≤ maxLen ∧
                  ((0 : Int) ≤ y.fst.snd.fst ∧ y.fst.snd.fst < (↑e1.length : Int)) ∧
                    True ∧
                      let r := Lib.itoa (e1.getD (Int.toNat y.fst.snd.fst) ((0 : Int), ())).fst;
                      (y.fst.fst ++ [(32 : UInt8), (43 : UInt8)]).length + r.length ≤ maxLen ∧
                        (((), ()), (e0, e1, e2, ()), ()) = (((), ()), (e0, e1, e2, ()), ()) ∧
                          I ((y.fst.fst ++ [(32 : UInt8), (43 : UInt8)] ++ r, IntKind.i64.wrap (y.fst.snd.fst + (1 : Int)), ()), ()) ∧
                            μ ((y.fst.fst ++ [(32 : UInt8), (43 : UInt8)] ++ r, IntKind.i64.wrap (y.fst.snd.fst + (1 : Int)), ()), ()) < μ y
              else
                ∃ (I : (List UInt8 × Int × Unit) × Unit → Prop),
                  ∃ (μ : (List UInt8 × Int × Unit) × Unit → Nat),
                    I ((y.fst.fst, (0 : Int), ()), ()) ∧
                      ∀ (y : (List UInt8 × Int × Unit) × Unit),
                        I y →
                          bif decide (y.fst.snd.fst < (↑e2.length : Int)) then
                            List.length y.fst.fst + [(32 : UInt8), (45 : UInt8)].length ≤ maxLen ∧
                              ((0 : Int) ≤ y.fst.snd.fst ∧ y.fst.snd.fst < (↑e2.length : Int)) ∧
                                True ∧
                                  let r := Lib.itoa (e2.getD (Int.toNat y.fst.snd.fst) ((0 : Int), ())).fst;
                                  (y.fst.fst ++ [(32 : UInt8), (45 : UInt8)]).length + r.length ≤ maxLen ∧
                                    (((), ()), (e0, e1, e2, ()), ()) = (((), ()), (e0, e1, e2, ()), ()) ∧
                                      I ((y.fst.fst ++ [(32 : UInt8), (45 : UInt8)] ++ r, IntKind.i64.wrap (y.fst.snd.fst + (1 : Int)), ()), ()) ∧
                                        μ ((y.fst.fst ++ [(32 : UInt8), (45 : UInt8)] ++ r, IntKind.i64.wrap (y.fst.snd.fst + (1 : Int)), ()), ()) < μ y
                          else K (y.fst.fst, ())
theorem wk_spec_FormatEvent (env : EnvB prog G Θ Γ_spec_FormatEvent) (h : ∀ (e0 : Int) (e1 : List (Int × Unit)) (e2 : List (Int × Unit)), ((((-9223372036854775808 : Int) ≤ e0 ∧ e0 ≤ (9223372036854775807 : Int)) ∧
    (e1.length ≤ maxLen ∧ ∀ (x : Int × Unit), x ∈ e1 → ((-9223372036854775808 : Int) ≤ x.fst ∧ x.fst ≤ (9223372036854775807 : Int)) ∧ True) ∧
      (e2.length ≤ maxLen ∧ ∀ (x : Int × Unit), x ∈ e2 → ((-9223372036854775808 : Int) ≤ x.fst ∧ x.fst ≤ (9223372036854775807 : Int)) ∧ True) ∧ True) ∧
  True) → (e1.length ≤ (1048576 : Nat) ∧ e2.length ≤ (1048576 : Nat)) → VC_spec_FormatEvent e0 e1 e2 fun r => r = ((Sp.eventText e0 e1 e2, ()))) : ConOK prog G n_spec_FormatEvent con_spec_FormatEvent :=
  conR_ok env mixed (fn := f7) (c := codeOf f7) (by kernel_rfl) (by kernel_rfl) H_spec_FormatEvent (by kernel_rfl) fun ⟨⟨e0, e1, e2, ⟨⟩⟩, ⟨⟩⟩ hin hp =>
    Eq.mpr ((by kernel_rfl : awp Θ Γ_spec_FormatEvent H_spec_FormatEvent (codeOf f7) (endsV Θ f7.results.toList rsh_spec_FormatEvent fun r => r = (F_spec_FormatEvent ((e0, e1, e2, ()), ())).2) (entry f7.ntmps (vsVals sh_spec_FormatEvent ((e0, e1, e2, ()), ()))) = VC_spec_FormatEvent e0 e1 e2 fun r => r = ((Sp.eventText e0 e1 e2, ())))) (h e0 e1 e2 hin hp)

def H_impl_FormatEvent : Hints := Go.Fw.hints [] [(3, ⟨[], ⟨[(1, .vptr 64 0), (12, .one (.sl 3 (.cons (.int .i64) .nil) false)), (13, .one (.int .i64))], [(64, .var [.int .i64, .sl 3 (.cons (.int .i64) .nil) false, .sl 3 (.cons (.int .i64) .nil) false])]⟩, ⟨[(3, .one (.str)), (14, .one (.int .i64))], []⟩⟩), (8, ⟨[], ⟨[(25, .one (.sl 3 (.cons (.int .i64) .nil) false)), (26, .one (.int .i64))], []⟩, ⟨[(3, .one (.str)), (27, .one (.int .i64))], []⟩⟩)]
def VC_impl_FormatEvent (e0 : Int) (e1 : List (Int × Unit)) (e2 : List (Int × Unit)) (K : List UInt8 × Unit → Prop) : Prop :=
  True ∧
    ∃ (I : (List UInt8 × Int × Unit) × Unit → Prop),
      ∃ (μ : (List UInt8 × Int × Unit) × Unit → Nat),
        I ((Lib.itoa e0, (0 : Int), ()), ()) ∧
          ∀ (y : (List UInt8 × Int × Unit) × Unit),
            I y →
              bif decide (y.fst.snd.fst < (↑e1.length : Int)) then
                ((0 : Int) ≤ y.fst.snd.fst ∧ y.fst.snd.fst < (↑e1.length : Int)) ∧
                  True ∧
                    let r := Lib.itoa (e1.getD (Int.toNat y.fst.snd.fst) ((0 : Int), ())).fst;
                    [(32 : UInt8), (43 : UInt8)].length + r.length ≤ maxLen ∧
                      List.length y.fst.fst + ([(32 : UInt8), (43 : UInt8)] ++ r).length ≤ maxLen ∧
                        (((), e1, (↑e1.length : Int), ()), (e0, e1, e2, ()), ()) = (((), e1, (↑e1.length : Int), ()), (e0, e1, e2, ()), ()) ∧
                          I ((y.fst.fst ++ ([(32 : UInt8), (43 : UInt8)] ++ r), IntKind.i64.wrap (y.fst.snd.fst + (1 : Int)), ()), ()) ∧
                            μ ((y.fst.fst ++ ([(32 : UInt8), (43 : UInt8)] ++ r), IntKind.i64.wrap (y.fst.snd.fst + (1 : Int)), ()), ()) < μ y
              else
                ∃ (I : (List UInt8 × Int × Unit) × Unit → Prop),
                  ∃ (μ : (List UInt8 × Int × Unit) × Unit → Nat),
                    I ((y.fst.fst, (0 : Int), ()), ()) ∧
                      ∀ (y : (List UInt8 × Int × Unit) × Unit),
                        I y →
                          bif decide (y.fst.snd.fst < (↑e2.length : Int)) then
                            ((0 : Int) ≤ y.fst.snd.fst ∧ y.fst.snd.fst < (↑e2.length : Int)) ∧
                              True ∧
                                let r := Lib.itoa (e2.getD (Int.toNat y.fst.snd.fst) ((0 : Int), ())).fst;
                                [(32 : UInt8), (45 : UInt8)].length + r.length ≤ maxLen ∧
                                  List.length y.fst.fst + ([(32 : UInt8), (45 : UInt8)] ++ r).length ≤ maxLen ∧
                                    ((e2, (↑e2.length : Int), ()), ()) = ((e2, (↑e2.length : Int), ()), ()) ∧
                                      I ((y.fst.fst ++ ([(32 : UInt8), (45 : UInt8)] ++ r), IntKind.i64.wrap (y.fst.snd.fst + (1 : Int)), ()), ()) ∧
                                        μ ((y.fst.fst ++ ([(32 : UInt8), (45 : UInt8)] ++ r), IntKind.i64.wrap (y.fst.snd.fst + (1 : Int)), ()), ()) < μ y
                          else K (y.fst.fst, ())
theorem wk_impl_FormatEvent (env : EnvB prog G Θ Γ_impl_FormatEvent) (h : ∀ (e0 : Int) (e1 : List (Int × Unit)) (e2 : List (Int × Unit)), ((((-9223372036854775808 : Int) ≤ e0 ∧ e0 ≤ (9223372036854775807 : Int)) ∧
    (e1.length ≤ maxLen ∧ ∀ (x : Int × Unit), x ∈ e1 → ((-9223372036854775808 : Int) ≤ x.fst ∧ x.fst ≤ (9223372036854775807 : Int)) ∧ True) ∧
      (e2.length ≤ maxLen ∧ ∀ (x : Int × Unit), x ∈ e2 → ((-9223372036854775808 : Int) ≤ x.fst ∧ x.fst ≤ (9223372036854775807 : Int)) ∧ True) ∧ True) ∧
  True) → (e1.length ≤ (1048576 : Nat) ∧ e2.length ≤ (1048576 : Nat)) → VC_impl_FormatEvent e0 e1 e2 fun r => r = ((Sp.eventText e0 e1 e2, ()))) : ConOK prog G n_impl_FormatEvent con_impl_FormatEvent :=
  conR_ok env mixed (fn := f9) (c := codeOf f9) (by kernel_rfl) (by kernel_rfl) H_impl_FormatEvent (by kernel_rfl) fun ⟨⟨e0, e1, e2, ⟨⟩⟩, ⟨⟩⟩ hin hp =>
    Eq.mpr ((by kernel_rfl : awp Θ Γ_impl_FormatEvent H_impl_FormatEvent (codeOf f9) (endsV Θ f9.results.toList rsh_impl_FormatEvent fun r => r = (F_impl_FormatEvent ((e0, e1, e2, ()), ())).2) (entry f9.ntmps (vsVals sh_impl_FormatEvent ((e0, e1, e2, ()), ()))) = VC_impl_FormatEvent e0 e1 e2 fun r => r = ((Sp.eventText e0 e1 e2, ())))) (h e0 e1 e2 hin hp)

def H_laws_szResult : Hints := Go.Fw.hints [] []
def VC_laws_szResult (a0 : List UInt8) (a1 : List (Int × Unit)) (left : Int) (K : Int × Unit → Prop) : Prop :=
  bif decide (IntKind.i64.wrap (left - (↑a0.length : Int)) < (0 : Int)) then K ((-1 : Int), ())
  else
    ((0 : Int) ≤ IntKind.i64.wrap (left - (↑a0.length : Int)) ∧ IntKind.i64.wrap (left - (↑a0.length : Int)) ≤ (1048576 : Int)) ∧
      let r := Sp.szLen a1.length (IntKind.i64.wrap (left - (↑a0.length : Int)));
      bif decide (r < (0 : Int)) then K ((-1 : Int), ()) else K (r, ())
theorem wk_laws_szResult (env : EnvB prog G Θ Γ_laws_szResult) (h : ∀ (a0 : List UInt8) (a1 : List (Int × Unit)) (left : Int), ((a0.length.le maxLen ∧ (a1.length ≤ maxLen ∧ ∀ (x : Int × Unit), x ∈ a1 → ((-9223372036854775808 : Int) ≤ x.fst ∧ x.fst ≤ (9223372036854775807 : Int)) ∧ True) ∧ True) ∧
  ((-9223372036854775808 : Int) ≤ left ∧ left ≤ (9223372036854775807 : Int)) ∧ True) → ((0 : Int) ≤ left ∧ left ≤ (1048576 : Int)) → VC_laws_szResult a0 a1 left fun r => r = ((Sp.szResult a0 a1 left, ()))) : ConOK prog G n_laws_szResult con_laws_szResult :=
  conR_ok env mixed (fn := f15) (c := codeOf f15) (by kernel_rfl) (by kernel_rfl) H_laws_szResult (by kernel_rfl) fun ⟨⟨a0, a1, ⟨⟩⟩, left, ⟨⟩⟩ hin hp =>
    Eq.mpr ((by kernel_rfl : awp Θ Γ_laws_szResult H_laws_szResult (codeOf f15) (endsV Θ f15.results.toList rsh_laws_szResult fun r => r = (F_laws_szResult ((a0, a1, ()), left, ())).2) (entry f15.ntmps (vsVals sh_laws_szResult ((a0, a1, ()), left, ()))) = VC_laws_szResult a0 a1 left fun r => r = ((Sp.szResult a0 a1 left, ())))) (h a0 a1 left hin hp)

def H_laws_toResult : Hints := Go.Fw.hints [] []
def VC_laws_toResult (a0 : List UInt8) (a1 : List (Int × Unit)) (K : (List UInt8 × List (Int × Unit) × Unit) × Unit → Prop) : Prop :=
  a1.length ≤ big ∧ K ((a0, a1, ()), ())
theorem wk_laws_toResult (env : EnvB prog G Θ Γ_laws_toResult) (h : ∀ (a0 : List UInt8) (a1 : List (Int × Unit)), ((a0.length.le maxLen ∧ (a1.length ≤ maxLen ∧ ∀ (x : Int × Unit), x ∈ a1 → ((-9223372036854775808 : Int) ≤ x.fst ∧ x.fst ≤ (9223372036854775807 : Int)) ∧ True) ∧ True) ∧ True) → (a1.length ≤ big) → VC_laws_toResult a0 a1 fun r => r = (((a0, a1, ()), ()))) : ConOK prog G n_laws_toResult con_laws_toResult :=
  conR_ok env mixed (fn := f17) (c := codeOf f17) (by kernel_rfl) (by kernel_rfl) H_laws_toResult (by kernel_rfl) fun ⟨⟨a0, a1, ⟨⟩⟩, ⟨⟩⟩ hin hp =>
    Eq.mpr ((by kernel_rfl : awp Θ Γ_laws_toResult H_laws_toResult (codeOf f17) (endsV Θ f17.results.toList rsh_laws_toResult fun r => r = (F_laws_toResult ((a0, a1, ()), ())).2) (entry f17.ntmps (vsVals sh_laws_toResult ((a0, a1, ()), ()))) = VC_laws_toResult a0 a1 fun r => r = (((a0, a1, ()), ())))) (h a0 a1 hin hp)

def H_laws_eqResult : Hints := Go.Fw.hints [] []
def VC_laws_eqResult (a0 : List UInt8) (a1 : List (Int × Unit)) (b0 : List UInt8) (b1 : List (Int × Unit)) (K : Bool × Unit → Prop) : Prop :=
  bif !a0 == b0 then K (false, ())
  else
    True ∧
      let r := decide (a1 = b1);
      bif !r then K (false, ()) else K (true, ())
theorem wk_laws_eqResult (env : EnvB prog G Θ Γ_laws_eqResult) (h : ∀ (a0 : List UInt8) (a1 : List (Int × Unit)) (b0 : List UInt8) (b1 : List (Int × Unit)), ((a0.length.le maxLen ∧ (a1.length ≤ maxLen ∧ ∀ (x : Int × Unit), x ∈ a1 → ((-9223372036854775808 : Int) ≤ x.fst ∧ x.fst ≤ (9223372036854775807 : Int)) ∧ True) ∧ True) ∧
  (b0.length.le maxLen ∧ (b1.length ≤ maxLen ∧ ∀ (x : Int × Unit), x ∈ b1 → ((-9223372036854775808 : Int) ≤ x.fst ∧ x.fst ≤ (9223372036854775807 : Int)) ∧ True) ∧ True) ∧ True) → (True) → VC_laws_eqResult a0 a1 b0 b1 fun r => r = ((decide ((a0, a1, ()) = (b0, b1, ())), ()))) : ConOK prog G n_laws_eqResult con_laws_eqResult :=
  conR_ok env mixed (fn := f19) (c := codeOf f19) (by kernel_rfl) (by kernel_rfl) H_laws_eqResult (by kernel_rfl) fun ⟨⟨a0, a1, ⟨⟩⟩, ⟨b0, b1, ⟨⟩⟩, ⟨⟩⟩ hin hp =>
    Eq.mpr ((by kernel_rfl : awp Θ Γ_laws_eqResult H_laws_eqResult (codeOf f19) (endsV Θ f19.results.toList rsh_laws_eqResult fun r => r = (F_laws_eqResult ((a0, a1, ()), (b0, b1, ()), ())).2) (entry f19.ntmps (vsVals sh_laws_eqResult ((a0, a1, ()), (b0, b1, ()), ()))) = VC_laws_eqResult a0 a1 b0 b1 fun r => r = ((decide ((a0, a1, ()) = (b0, b1, ())), ())))) (h a0 a1 b0 b1 hin hp)

def H_spec_FormatIDs : Hints := Go.Fw.hints [] [(3, ⟨[], ⟨[(0, .one (.sl 3 (.cons (.int .i64) .nil) false))], []⟩, ⟨[(3, .one (.str)), (4, .one (.int .i64))], []⟩⟩)]
def VC_spec_FormatIDs (ids : List (Int × Unit)) (K : List UInt8 × Unit → Prop) : Prop :=
  ∃ (I : (List UInt8 × Int × Unit) × Unit → Prop),
    ∃ (μ : (List UInt8 × Int × Unit) × Unit → Nat),
      I (([], (0 : Int), ()), ()) ∧
        ∀ (y : (List UInt8 × Int × Unit) × Unit),
          I y →
            bif decide (y.fst.snd.fst < (↑ids.length : Int)) then
              bif decide (y.fst.snd.fst > (0 : Int)) then
                List.length y.fst.fst + [(32 : UInt8)].length ≤ maxLen ∧
                  ((0 : Int) ≤ y.fst.snd.fst ∧ y.fst.snd.fst < (↑ids.length : Int)) ∧
                    True ∧
                      let r := Lib.itoa (ids.getD (Int.toNat y.fst.snd.fst) ((0 : Int), ())).fst;
                      (y.fst.fst ++ [(32 : UInt8)]).length + r.length ≤ maxLen ∧
                        ((ids, ()), ()) = ((ids, ()), ()) ∧
                          I ((y.fst.fst ++ [(32 : UInt8)] ++ r, IntKind.i64.wrap (y.fst.snd.fst + (1 : Int)), ()), ()) ∧
                            μ ((y.fst.fst ++ [(32 : UInt8)] ++ r, IntKind.i64.wrap (y.fst.snd.fst + (1 : Int)), ()), ()) < μ y
              else
                ((0 : Int) ≤ y.fst.snd.fst ∧ y.fst.snd.fst < (↑ids.length : Int)) ∧
                  True ∧
                    let r := Lib.itoa (ids.getD (Int.toNat y.fst.snd.fst) ((0 : Int), ())).fst;
                    List.length y.fst.fst + r.length ≤ maxLen ∧
                      ((ids, ()), ()) = ((ids, ()), ()) ∧
                        I ((y.fst.fst ++ r, IntKind.i64.wrap (y.fst.snd.fst + (1 : Int)), ()), ()) ∧ μ ((y.fst.fst ++ r, IntKind.i64.wrap (y.fst.snd.fst + (1 : Int)), ()), ()) < μ y
            else K (y.fst.fst, ())
theorem wk_spec_FormatIDs (env : EnvB prog G Θ Γ_spec_FormatIDs) (h : ∀ (ids : List (Int × Unit)), ((ids.length ≤ maxLen ∧ ∀ (x : Int × Unit), x ∈ ids → ((-9223372036854775808 : Int) ≤ x.fst ∧ x.fst ≤ (9223372036854775807 : Int)) ∧ True) ∧ True) → (ids.length ≤ (1048576 : Nat)) → VC_spec_FormatIDs ids fun r => r = ((Sp.idsText ids, ()))) : ConOK prog G n_spec_FormatIDs con_spec_FormatIDs :=
  conR_ok env mixed (fn := f11) (c := codeOf f11) (by kernel_rfl) (by kernel_rfl) H_spec_FormatIDs (by kernel_rfl) fun ⟨ids, ⟨⟩⟩ hin hp =>
    Eq.mpr ((by kernel_rfl : awp Θ Γ_spec_FormatIDs H_spec_FormatIDs (codeOf f11) (endsV Θ f11.results.toList rsh_spec_FormatIDs fun r => r = (F_spec_FormatIDs (ids, ())).2) (entry f11.ntmps (vsVals sh_spec_FormatIDs (ids, ()))) = VC_spec_FormatIDs ids fun r => r = ((Sp.idsText ids, ())))) (h ids hin hp)

def H_impl_FormatIDs : Hints := Go.Fw.hints [6] [(3, ⟨[], ⟨[(3, .one (.ref 385)), (7, .one (.sl 3 (.cons (.int .i64) .nil) false)), (8, .one (.int .i64))], []⟩, ⟨[(9, .one (.int .i64))], [(385, .arr 9 (.cons .str .nil) true)]⟩⟩)]
def VC_impl_FormatIDs (ids : List (Int × Unit)) (K : List UInt8 × Unit → Prop) : Prop :=
  ∃ (I : (Int × Unit) × List (List UInt8 × Unit) × Unit → Prop),
    ∃ (μ : (Int × Unit) × List (List UInt8 × Unit) × Unit → Nat),
      I (((0 : Int), ()), [], ()) ∧
        ∀ (y : (Int × Unit) × List (List UInt8 × Unit) × Unit),
          I y →
            bif decide (y.fst.fst < (↑ids.length : Int)) then
              ((0 : Int) ≤ y.fst.fst ∧ y.fst.fst < (↑ids.length : Int)) ∧
                True ∧
                  let r := Lib.itoa (ids.getD (Int.toNat y.fst.fst) ((0 : Int), ())).fst;
                  List.length y.snd.fst + [(r, ())].length ≤ big ∧
                    (((), ids, (↑ids.length : Int), ()), ()) = (((), ids, (↑ids.length : Int), ()), ()) ∧
                      I ((IntKind.i64.wrap (y.fst.fst + (1 : Int)), ()), y.snd.fst ++ [(r, ())], ()) ∧
                        μ ((IntKind.i64.wrap (y.fst.fst + (1 : Int)), ()), y.snd.fst ++ [(r, ())], ()) < μ y
            else
              (List.length y.snd.fst ≤ (140737488355328 : Nat) ∧
                  (Lib.join (List.map (fun (x : List UInt8 × Unit) => x.fst) y.snd.fst) [(32 : UInt8)]).length ≤ (140737488355328 : Nat)) ∧
                let r := Lib.join (List.map (fun (x : List UInt8 × Unit) => x.fst) y.snd.fst) [(32 : UInt8)];
                K (r, ())
theorem wk_impl_FormatIDs (env : EnvB prog G Θ Γ_impl_FormatIDs) (h : ∀ (ids : List (Int × Unit)), ((ids.length ≤ maxLen ∧ ∀ (x : Int × Unit), x ∈ ids → ((-9223372036854775808 : Int) ≤ x.fst ∧ x.fst ≤ (9223372036854775807 : Int)) ∧ True) ∧ True) → (ids.length ≤ (1048576 : Nat)) → VC_impl_FormatIDs ids fun r => r = ((Sp.idsText ids, ()))) : ConOK prog G n_impl_FormatIDs con_impl_FormatIDs :=
  conR_ok env mixed (fn := f13) (c := codeOf f13) (by kernel_rfl) (by kernel_rfl) H_impl_FormatIDs (by kernel_rfl) fun ⟨ids, ⟨⟩⟩ hin hp =>
    Eq.mpr ((by kernel_rfl : awp Θ Γ_impl_FormatIDs H_impl_FormatIDs (codeOf f13) (endsV Θ f13.results.toList rsh_impl_FormatIDs fun r => r = (F_impl_FormatIDs (ids, ())).2) (entry f13.ntmps (vsVals sh_impl_FormatIDs (ids, ()))) = VC_impl_FormatIDs ids fun r => r = ((Sp.idsText ids, ())))) (h ids hin hp)

def H_spec_l39With : Hints := Go.Fw.hints [] []
def VC_spec_l39With (s : List UInt8) (ids : List (Int × Unit)) (K : List UInt8 × Unit → Prop) : Prop :=
  bif (↑ids.length : Int) == (0 : Int) then K (s, ())
  else
    s.length + [(32 : UInt8)].length ≤ maxLen ∧
      ids.length ≤ (1048576 : Nat) ∧ (s ++ [(32 : UInt8)]).length + List.length (Sp.idsText ids) ≤ maxLen ∧ K (s ++ [(32 : UInt8)] ++ Sp.idsText ids, ())
theorem wk_spec_l39With (env : EnvB prog G Θ Γ_spec_l39With) (h : ∀ (s : List UInt8) (ids : List (Int × Unit)), (s.length.le maxLen ∧ (ids.length ≤ maxLen ∧ ∀ (x : Int × Unit), x ∈ ids → ((-9223372036854775808 : Int) ≤ x.fst ∧ x.fst ≤ (9223372036854775807 : Int)) ∧ True) ∧ True) → (s.length ≤ (1048576 : Nat) ∧ ids.length ≤ (1048576 : Nat)) → VC_spec_l39With s ids fun r => r = ((Sp.withIds s ids, ()))) : ConOK prog G n_spec_l39With con_spec_l39With :=
  conR_ok env mixed (fn := f24) (c := codeOf f24) (by kernel_rfl) (by kernel_rfl) H_spec_l39With (by kernel_rfl) fun ⟨s, ids, ⟨⟩⟩ hin hp =>
    Eq.mpr ((by kernel_rfl : awp Θ Γ_spec_l39With H_spec_l39With (codeOf f24) (endsV Θ f24.results.toList rsh_spec_l39With fun r => r = (F_spec_l39With (s, ids, ())).2) (entry f24.ntmps (vsVals sh_spec_l39With (s, ids, ()))) = VC_spec_l39With s ids fun r => r = ((Sp.withIds s ids, ())))) (h s ids hin hp)

def H_impl_withIDs : Hints := Go.Fw.hints [] []
def VC_impl_withIDs (s : List UInt8) (ids : List (Int × Unit)) (K : List UInt8 × Unit → Prop) : Prop :=
  bif (↑ids.length : Int) == (0 : Int) then K (s, ())
  else
    s.length + [(32 : UInt8)].length ≤ maxLen ∧
      ids.length ≤ (1048576 : Nat) ∧ (s ++ [(32 : UInt8)]).length + List.length (Sp.idsText ids) ≤ maxLen ∧ K (s ++ [(32 : UInt8)] ++ Sp.idsText ids, ())
theorem wk_impl_withIDs (env : EnvB prog G Θ Γ_impl_withIDs) (h : ∀ (s : List UInt8) (ids : List (Int × Unit)), (s.length.le maxLen ∧ (ids.length ≤ maxLen ∧ ∀ (x : Int × Unit), x ∈ ids → ((-9223372036854775808 : Int) ≤ x.fst ∧ x.fst ≤ (9223372036854775807 : Int)) ∧ True) ∧ True) → (s.length ≤ (1048576 : Nat) ∧ ids.length ≤ (1048576 : Nat)) → VC_impl_withIDs s ids fun r => r = ((Sp.withIds s ids, ()))) : ConOK prog G n_impl_withIDs con_impl_withIDs :=
  conR_ok env mixed (fn := f25) (c := codeOf f25) (by kernel_rfl) (by kernel_rfl) H_impl_withIDs (by kernel_rfl) fun ⟨s, ids, ⟨⟩⟩ hin hp =>
    Eq.mpr ((by kernel_rfl : awp Θ Γ_impl_withIDs H_impl_withIDs (codeOf f25) (endsV Θ f25.results.toList rsh_impl_withIDs fun r => r = (F_impl_withIDs (s, ids, ())).2) (entry f25.ntmps (vsVals sh_impl_withIDs (s, ids, ()))) = VC_impl_withIDs s ids fun r => r = ((Sp.withIds s ids, ())))) (h s ids hin hp)

def H_spec_FormatResult : Hints := Go.Fw.hints [] []
def VC_spec_FormatResult (a0 : List UInt8) (a1 : List (Int × Unit)) (K : List UInt8 × Unit → Prop) : Prop :=
  (a0.length ≤ (1048576 : Nat) ∧ a1.length ≤ (1048576 : Nat)) ∧ K (Sp.withIds a0 a1, ())
theorem wk_spec_FormatResult (env : EnvB prog G Θ Γ_spec_FormatResult) (h : ∀ (a0 : List UInt8) (a1 : List (Int × Unit)), ((a0.length.le maxLen ∧ (a1.length ≤ maxLen ∧ ∀ (x : Int × Unit), x ∈ a1 → ((-9223372036854775808 : Int) ≤ x.fst ∧ x.fst ≤ (9223372036854775807 : Int)) ∧ True) ∧ True) ∧ True) → (a0.length ≤ (1048576 : Nat) ∧ a1.length ≤ (1048576 : Nat)) → VC_spec_FormatResult a0 a1 fun r => r = ((Sp.withIds a0 a1, ()))) : ConOK prog G n_spec_FormatResult con_spec_FormatResult :=
  conR_ok env mixed (fn := f16) (c := codeOf f16) (by kernel_rfl) (by kernel_rfl) H_spec_FormatResult (by kernel_rfl) fun ⟨⟨a0, a1, ⟨⟩⟩, ⟨⟩⟩ hin hp =>
    Eq.mpr ((by kernel_rfl : awp Θ Γ_spec_FormatResult H_spec_FormatResult (codeOf f16) (endsV Θ f16.results.toList rsh_spec_FormatResult fun r => r = (F_spec_FormatResult ((a0, a1, ()), ())).2) (entry f16.ntmps (vsVals sh_spec_FormatResult ((a0, a1, ()), ()))) = VC_spec_FormatResult a0 a1 fun r => r = ((Sp.withIds a0 a1, ())))) (h a0 a1 hin hp)

def H_impl_FormatResult : Hints := Go.Fw.hints [] []
def VC_impl_FormatResult (r0 : List UInt8) (r1 : List (Int × Unit)) (K : List UInt8 × Unit → Prop) : Prop :=
  (r0.length ≤ (1048576 : Nat) ∧ r1.length ≤ (1048576 : Nat)) ∧ K (Sp.withIds r0 r1, ())
theorem wk_impl_FormatResult (env : EnvB prog G Θ Γ_impl_FormatResult) (h : ∀ (r0 : List UInt8) (r1 : List (Int × Unit)), ((r0.length.le maxLen ∧ (r1.length ≤ maxLen ∧ ∀ (x : Int × Unit), x ∈ r1 → ((-9223372036854775808 : Int) ≤ x.fst ∧ x.fst ≤ (9223372036854775807 : Int)) ∧ True) ∧ True) ∧ True) → (r0.length ≤ (1048576 : Nat) ∧ r1.length ≤ (1048576 : Nat)) → VC_impl_FormatResult r0 r1 fun r => r = ((Sp.withIds r0 r1, ()))) : ConOK prog G n_impl_FormatResult con_impl_FormatResult :=
  conR_ok env mixed (fn := f18) (c := codeOf f18) (by kernel_rfl) (by kernel_rfl) H_impl_FormatResult (by kernel_rfl) fun ⟨⟨r0, r1, ⟨⟩⟩, ⟨⟩⟩ hin hp =>
    Eq.mpr ((by kernel_rfl : awp Θ Γ_impl_FormatResult H_impl_FormatResult (codeOf f18) (endsV Θ f18.results.toList rsh_impl_FormatResult fun r => r = (F_impl_FormatResult ((r0, r1, ()), ())).2) (entry f18.ntmps (vsVals sh_impl_FormatResult ((r0, r1, ()), ()))) = VC_impl_FormatResult r0 r1 fun r => r = ((Sp.withIds r0 r1, ())))) (h r0 r1 hin hp)

def H_laws_FnExactFormatEvent : Hints := Go.Fw.hints [] []
def VC_laws_FnExactFormatEvent (aE0 : Int) (aE1 : List (Int × Unit)) (aE2 : List (Int × Unit)) (K : Bool × Unit → Prop) : Prop :=
  ((0 : Int) ≤ (1048576 : Int) ∧ (1048576 : Int) ≤ (1048576 : Int)) ∧
    let r := Sp.szEvent aE1 aE2 (1048576 : Int);
    bif decide (r < (0 : Int)) then K (true, ())
    else
      (aE1.length ≤ big ∧ aE2.length ≤ big) ∧
        (aE1.length ≤ (1048576 : Nat) ∧ aE2.length ≤ (1048576 : Nat)) ∧
          (aE1.length ≤ big ∧ aE2.length ≤ big) ∧
            (aE1.length ≤ (1048576 : Nat) ∧ aE2.length ≤ (1048576 : Nat)) ∧
              bif !Sp.eventText aE0 aE1 aE2 == Sp.eventText aE0 aE1 aE2 then K (false, ())
              else
                (aE1.length ≤ big ∧ aE2.length ≤ big) ∧
                  True ∧
                    let r := decide ((aE0, aE1, aE2, ()) = (aE0, aE1, aE2, ()));
                    bif !r then K (false, ()) else K (true, ())
theorem wk_laws_FnExactFormatEvent (env : EnvB prog G Θ Γ_laws_FnExactFormatEvent) (h : ∀ (aE0 : Int) (aE1 : List (Int × Unit)) (aE2 : List (Int × Unit)), ((((-9223372036854775808 : Int) ≤ aE0 ∧ aE0 ≤ (9223372036854775807 : Int)) ∧
    (aE1.length ≤ maxLen ∧ ∀ (x : Int × Unit), x ∈ aE1 → ((-9223372036854775808 : Int) ≤ x.fst ∧ x.fst ≤ (9223372036854775807 : Int)) ∧ True) ∧
      (aE2.length ≤ maxLen ∧ ∀ (x : Int × Unit), x ∈ aE2 → ((-9223372036854775808 : Int) ≤ x.fst ∧ x.fst ≤ (9223372036854775807 : Int)) ∧ True) ∧ True) ∧
  True) → (True) → VC_laws_FnExactFormatEvent aE0 aE1 aE2 fun r => r = ((true, ()))) : ConOK prog G n_laws_FnExactFormatEvent con_laws_FnExactFormatEvent :=
  conR_ok env mixed (fn := f3) (c := codeOf f3) (by kernel_rfl) (by kernel_rfl) H_laws_FnExactFormatEvent (by kernel_rfl) fun ⟨⟨aE0, aE1, aE2, ⟨⟩⟩, ⟨⟩⟩ hin hp =>
    Eq.mpr ((by kernel_rfl : awp Θ Γ_laws_FnExactFormatEvent H_laws_FnExactFormatEvent (codeOf f3) (endsV Θ f3.results.toList rsh_laws_FnExactFormatEvent fun r => r = (F_laws_FnExactFormatEvent ((aE0, aE1, aE2, ()), ())).2) (entry f3.ntmps (vsVals sh_laws_FnExactFormatEvent ((aE0, aE1, aE2, ()), ()))) = VC_laws_FnExactFormatEvent aE0 aE1 aE2 fun r => r = ((true, ())))) (h aE0 aE1 aE2 hin hp)

def H_laws_FnExactFormatIDs : Hints := Go.Fw.hints [] []
def VC_laws_FnExactFormatIDs (aIds : List (Int × Unit)) (K : Bool × Unit → Prop) : Prop :=
  bif decide ((↑aIds.length : Int) > (1048576 : Int)) then K (true, ())
  else
    aIds.length ≤ big ∧
      aIds.length ≤ (1048576 : Nat) ∧
        aIds.length ≤ big ∧
          aIds.length ≤ (1048576 : Nat) ∧
            bif !Sp.idsText aIds == Sp.idsText aIds then K (false, ())
            else
              aIds.length ≤ big ∧
                True ∧
                  let r := decide (aIds = aIds);
                  bif !r then K (false, ()) else K (true, ())
theorem wk_laws_FnExactFormatIDs (env : EnvB prog G Θ Γ_laws_FnExactFormatIDs) (h : ∀ (aIds : List (Int × Unit)), ((aIds.length ≤ maxLen ∧ ∀ (x : Int × Unit), x ∈ aIds → ((-9223372036854775808 : Int) ≤ x.fst ∧ x.fst ≤ (9223372036854775807 : Int)) ∧ True) ∧ True) → (True) → VC_laws_FnExactFormatIDs aIds fun r => r = ((true, ()))) : ConOK prog G n_laws_FnExactFormatIDs con_laws_FnExactFormatIDs :=
  conR_ok env mixed (fn := f4) (c := codeOf f4) (by kernel_rfl) (by kernel_rfl) H_laws_FnExactFormatIDs (by kernel_rfl) fun ⟨aIds, ⟨⟩⟩ hin hp =>
    Eq.mpr ((by kernel_rfl : awp Θ Γ_laws_FnExactFormatIDs H_laws_FnExactFormatIDs (codeOf f4) (endsV Θ f4.results.toList rsh_laws_FnExactFormatIDs fun r => r = (F_laws_FnExactFormatIDs (aIds, ())).2) (entry f4.ntmps (vsVals sh_laws_FnExactFormatIDs (aIds, ()))) = VC_laws_FnExactFormatIDs aIds fun r => r = ((true, ())))) (h aIds hin hp)

def H_laws_FnExactFormatResult : Hints := Go.Fw.hints [] []
def VC_laws_FnExactFormatResult (aR0 : List UInt8) (aR1 : List (Int × Unit)) (K : Bool × Unit → Prop) : Prop :=
  ((0 : Int) ≤ (1048576 : Int) ∧ (1048576 : Int) ≤ (1048576 : Int)) ∧
    let r := Sp.szResult aR0 aR1 (1048576 : Int);
    bif decide (r < (0 : Int)) then K (true, ())
    else
      aR1.length ≤ big ∧
        (aR0.length ≤ (1048576 : Nat) ∧ aR1.length ≤ (1048576 : Nat)) ∧
          aR1.length ≤ big ∧
            (aR0.length ≤ (1048576 : Nat) ∧ aR1.length ≤ (1048576 : Nat)) ∧
              bif !Sp.withIds aR0 aR1 == Sp.withIds aR0 aR1 then K (false, ())
              else
                aR1.length ≤ big ∧
                  True ∧
                    let r := decide ((aR0, aR1, ()) = (aR0, aR1, ()));
                    bif !r then K (false, ()) else K (true, ())
theorem wk_laws_FnExactFormatResult (env : EnvB prog G Θ Γ_laws_FnExactFormatResult) (h : ∀ (aR0 : List UInt8) (aR1 : List (Int × Unit)), ((aR0.length.le maxLen ∧ (aR1.length ≤ maxLen ∧ ∀ (x : Int × Unit), x ∈ aR1 → ((-9223372036854775808 : Int) ≤ x.fst ∧ x.fst ≤ (9223372036854775807 : Int)) ∧ True) ∧ True) ∧ True) → (True) → VC_laws_FnExactFormatResult aR0 aR1 fun r => r = ((true, ()))) : ConOK prog G n_laws_FnExactFormatResult con_laws_FnExactFormatResult :=
  conR_ok env mixed (fn := f5) (c := codeOf f5) (by kernel_rfl) (by kernel_rfl) H_laws_FnExactFormatResult (by kernel_rfl) fun ⟨⟨aR0, aR1, ⟨⟩⟩, ⟨⟩⟩ hin hp =>
    Eq.mpr ((by kernel_rfl : awp Θ Γ_laws_FnExactFormatResult H_laws_FnExactFormatResult (codeOf f5) (endsV Θ f5.results.toList rsh_laws_FnExactFormatResult fun r => r = (F_laws_FnExactFormatResult ((aR0, aR1, ()), ())).2) (entry f5.ntmps (vsVals sh_laws_FnExactFormatResult ((aR0, aR1, ()), ()))) = VC_laws_FnExactFormatResult aR0 aR1 fun r => r = ((true, ())))) (h aR0 aR1 hin hp)

end Go.Proofs.Tryd
