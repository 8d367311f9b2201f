import Derived.Test.YtnaiafihkjbmnaaDoorF
namespace Go.Proofs.Tryd
open Go Go.Fw
def H_laws_szIntS : Hints := Go.Fw.hints [] [] [] []
def VC_laws_szIntS (a : List (Int × Unit)) (left : Int) (K : Int × Unit → Prop) : Prop :=
  bif decide (IntKind.i64.wrap (left - (↑a.length : Int)) < (0 : Int)) then K ((-1 : Int), ()) else K (IntKind.i64.wrap (left - (↑a.length : Int)), ())
theorem wk_laws_szIntS (env : EnvB prog G Θ Γ_laws_szIntS) (h : ∀ (a : List (Int × Unit)) (left : Int), ((a.length ≤ maxLen ∧ ∀ (x : Int × Unit), x ∈ a → ((-9223372036854775808 : Int) ≤ x.fst ∧ x.fst ≤ (9223372036854775807 : Int)) ∧ True) ∧
  ((-9223372036854775808 : Int) ≤ left ∧ left ≤ (9223372036854775807 : Int)) ∧ True) → ((0 : Int) ≤ left ∧ left ≤ (1048576 : Int)) → VC_laws_szIntS a left fun r => r = ((Sp.szLen a.length left, ()))) : ConOK prog G n_laws_szIntS con_laws_szIntS :=
  conR_ok env mixed (fn := f24) (c := codeOf f24) (by kernel_rfl) (by kernel_rfl) H_laws_szIntS (by kernel_rfl) fun ⟨a, left, ⟨⟩⟩ hin hp =>
    Eq.mpr ((by kernel_rfl : awp Θ Γ_laws_szIntS H_laws_szIntS (codeOf f24) (endsV Θ f24.results.toList rsh_laws_szIntS fun r => r = (F_laws_szIntS (a, left, ())).2) (entry f24.ntmps (psVals sh_laws_szIntS (a, left, ()))) = VC_laws_szIntS a left fun r => r = ((Sp.szLen a.length left, ())))) (h a left hin hp)

def H_laws_toIntS : Hints := Go.Fw.hints [7] [(3, ⟨[], ⟨[(0, .one (.sl 3 (.cons (.int .i64) .nil) false)), (3, .one (.ref 449))], []⟩, ⟨[(4, .one (.int .i64))], [(449, .arr 3 (.cons (.int .i64) .nil) true)]⟩⟩)] [] []
def VC_laws_toIntS (a : List (Int × Unit)) (K : List (Int × Unit) × Unit → Prop) : Prop :=
  ((0 : Int) ≤ (↑a.length : Int) ∧ (↑a.length : Int) ≤ (↑a.length : Int) ∧ (↑a.length : Int) ≤ (↑big : Int)) ∧
    let s0 := ((a, (), ()), ());
    ∃ (I : (Int × Unit) × List (Int × Unit) × Unit → Prop),
      ∃ (μ : (Int × Unit) × List (Int × Unit) × Unit → Nat),
        I (((0 : Int), ()), List.replicate (↑a.length : Int).toNat ((0 : Int), ()), ()) ∧
          ∀ (y1 : (Int × Unit) × List (Int × Unit) × Unit),
            I y1 →
              bif decide (y1.fst.fst < (↑a.length : Int)) then
                ((0 : Int) ≤ y1.fst.fst ∧ y1.fst.fst < (↑a.length : Int)) ∧
                  ((0 : Int) ≤ y1.fst.fst ∧ y1.fst.fst < (↑(List.length y1.snd.fst) : Int)) ∧
                    Int.toNat y1.fst.fst < List.length y1.snd.fst ∧
                      s0 = s0 ∧
                        I
                            ((IntKind.i64.wrap (y1.fst.fst + (1 : Int)), ()), List.set y1.snd.fst (Int.toNat y1.fst.fst) ((a.getD (Int.toNat y1.fst.fst) ((0 : Int), ())).fst, ()),
                              ()) ∧
                          μ
                              ((IntKind.i64.wrap (y1.fst.fst + (1 : Int)), ()), List.set y1.snd.fst (Int.toNat y1.fst.fst) ((a.getD (Int.toNat y1.fst.fst) ((0 : Int), ())).fst, ()),
                                ()) <
                            μ y1
              else K (y1.snd.fst, ())
theorem wk_laws_toIntS (env : EnvB prog G Θ Γ_laws_toIntS) (h : ∀ (a : List (Int × Unit)), ((a.length ≤ maxLen ∧ ∀ (x : Int × Unit), x ∈ a → ((-9223372036854775808 : Int) ≤ x.fst ∧ x.fst ≤ (9223372036854775807 : Int)) ∧ True) ∧ True) → (a.length ≤ big) → VC_laws_toIntS a fun r => r = ((a, ()))) : ConOK prog G n_laws_toIntS con_laws_toIntS :=
  conR_ok env mixed (fn := f29) (c := codeOf f29) (by kernel_rfl) (by kernel_rfl) H_laws_toIntS (by kernel_rfl) fun ⟨a, ⟨⟩⟩ hin hp =>
    Eq.mpr ((by kernel_rfl : awp Θ Γ_laws_toIntS H_laws_toIntS (codeOf f29) (endsV Θ f29.results.toList rsh_laws_toIntS fun r => r = (F_laws_toIntS (a, ())).2) (entry f29.ntmps (psVals sh_laws_toIntS (a, ()))) = VC_laws_toIntS a fun r => r = ((a, ())))) (h a hin hp)

def H_laws_eqIntS : Hints := Go.Fw.hints [] [(4, ⟨[], ⟨[(0, .one (.sl 3 (.cons (.int .i64) .nil) false)), (1, .one (.sl 3 (.cons (.int .i64) .nil) false))], []⟩, ⟨[(5, .one (.int .i64))], []⟩⟩)] [] []
def VC_laws_eqIntS (a : List (Int × Unit)) (b : List (Int × Unit)) (K : Bool × Unit → Prop) : Prop :=
  bif (↑a.length : Int) != (↑b.length : Int) then K (false, ())
  else
    let s0 := ((a, b, ()), ());
    ∃ (I : (Int × Unit) × Unit → Prop),
      ∃ (μ : (Int × Unit) × Unit → Nat),
        I (((0 : Int), ()), ()) ∧
          ∀ (y1 : (Int × Unit) × Unit),
            I y1 →
              bif decide (y1.fst.fst < (↑a.length : Int)) then
                ((0 : Int) ≤ y1.fst.fst ∧ y1.fst.fst < (↑a.length : Int)) ∧
                  ((0 : Int) ≤ y1.fst.fst ∧ y1.fst.fst < (↑b.length : Int)) ∧
                    bif (a.getD (Int.toNat y1.fst.fst) ((0 : Int), ())).fst != (b.getD (Int.toNat y1.fst.fst) ((0 : Int), ())).fst then K (false, ())
                    else s0 = s0 ∧ I ((IntKind.i64.wrap (y1.fst.fst + (1 : Int)), ()), ()) ∧ μ ((IntKind.i64.wrap (y1.fst.fst + (1 : Int)), ()), ()) < μ y1
              else K (true, ())
theorem wk_laws_eqIntS (env : EnvB prog G Θ Γ_laws_eqIntS) (h : ∀ (a : List (Int × Unit)) (b : List (Int × Unit)), ((a.length ≤ maxLen ∧ ∀ (x : Int × Unit), x ∈ a → ((-9223372036854775808 : Int) ≤ x.fst ∧ x.fst ≤ (9223372036854775807 : Int)) ∧ True) ∧
  (b.length ≤ maxLen ∧ ∀ (x : Int × Unit), x ∈ b → ((-9223372036854775808 : Int) ≤ x.fst ∧ x.fst ≤ (9223372036854775807 : Int)) ∧ True) ∧ True) → (True) → VC_laws_eqIntS a b fun r => r = ((decide (a = b), ()))) : ConOK prog G n_laws_eqIntS con_laws_eqIntS :=
  conR_ok env mixed (fn := f34) (c := codeOf f34) (by kernel_rfl) (by kernel_rfl) H_laws_eqIntS (by kernel_rfl) fun ⟨a, b, ⟨⟩⟩ hin hp =>
    Eq.mpr ((by kernel_rfl : awp Θ Γ_laws_eqIntS H_laws_eqIntS (codeOf f34) (endsV Θ f34.results.toList rsh_laws_eqIntS fun r => r = (F_laws_eqIntS (a, b, ())).2) (entry f34.ntmps (psVals sh_laws_eqIntS (a, b, ()))) = VC_laws_eqIntS a b fun r => r = ((decide (a = b), ())))) (h a b hin hp)

def H_impl_FormatInt : Hints := Go.Fw.hints [] [] [] []
def VC_impl_FormatInt (n : Int) (K : List UInt8 × Unit → Prop) : Prop :=
  ((-9223372036854775808 : Int) ≤ n ∧ n ≤ (9223372036854775807 : Int)) ∧ K (Lib.itoa n, ())
theorem wk_impl_FormatInt (env : EnvB prog G Θ Γ_impl_FormatInt) (h : ∀ (n : Int), (((-9223372036854775808 : Int) ≤ n ∧ n ≤ (9223372036854775807 : Int)) ∧ True) → (True) → VC_impl_FormatInt n fun r => r = ((Lib.itoa n, ()))) : ConOK prog G n_impl_FormatInt con_impl_FormatInt :=
  conR_ok env mixed (fn := f32) (c := codeOf f32) (by kernel_rfl) (by kernel_rfl) H_impl_FormatInt (by kernel_rfl) fun ⟨n, ⟨⟩⟩ hin hp =>
    Eq.mpr ((by kernel_rfl : awp Θ Γ_impl_FormatInt H_impl_FormatInt (codeOf f32) (endsV Θ f32.results.toList rsh_impl_FormatInt fun r => r = (F_impl_FormatInt (n, ())).2) (entry f32.ntmps (psVals sh_impl_FormatInt (n, ()))) = VC_impl_FormatInt n fun r => r = ((Lib.itoa n, ())))) (h n hin hp)

def H_spec_l01Figure : Hints := Go.Fw.hints [] [] [] []
def VC_spec_l01Figure (x : Int) (K : Int × Unit → Prop) : Prop :=
  bif decide (x < (10 : Int)) then K (IntKind.u8.wrap (IntKind.i64.wrap ((48 : Int) + x)), ())
  else K (IntKind.u8.wrap (IntKind.i64.wrap (IntKind.i64.wrap ((97 : Int) + x) - (10 : Int))), ())
theorem wk_spec_l01Figure (env : EnvB prog G Θ Γ_spec_l01Figure) (h : ∀ (x : Int), (((-9223372036854775808 : Int) ≤ x ∧ x ≤ (9223372036854775807 : Int)) ∧ True) → ((0 : Int) ≤ x ∧ x < (10 : Int)) → VC_spec_l01Figure x fun r => r = (((48 : Int) + x, ()))) : ConOK prog G n_spec_l01Figure con_spec_l01Figure :=
  conR_ok env mixed (fn := f61) (c := codeOf f61) (by kernel_rfl) (by kernel_rfl) H_spec_l01Figure (by kernel_rfl) fun ⟨x, ⟨⟩⟩ hin hp =>
    Eq.mpr ((by kernel_rfl : awp Θ Γ_spec_l01Figure H_spec_l01Figure (codeOf f61) (endsV Θ f61.results.toList rsh_spec_l01Figure fun r => r = (F_spec_l01Figure (x, ())).2) (entry f61.ntmps (psVals sh_spec_l01Figure (x, ()))) = VC_spec_l01Figure x fun r => r = (((48 : Int) + x, ())))) (h x hin hp)

def H_spec_FormatInt : Hints := Go.Fw.hints [] [(5, ⟨[], ⟨[(3, .one (.bool))], []⟩, ⟨[(0, .one (.int .i64)), (4, .one (.str))], []⟩⟩)] [] []
def VC_spec_FormatInt (n : Int) (K : List UInt8 × Unit → Prop) : Prop :=
  bif n == (0 : Int) then K ([(48 : UInt8)], ())
  else
    let s0 := ((decide (n < (0 : Int)), ()), ());
    ∃ (I : (Int × List UInt8 × Unit) × Unit → Prop),
      ∃ (μ : (Int × List UInt8 × Unit) × Unit → Nat),
        I ((n, [], ()), ()) ∧
          ∀ (y1 : (Int × List UInt8 × Unit) × Unit),
            I y1 →
              bif y1.fst.fst != (0 : Int) then
                (10 : Int) ≠ (0 : Int) ∧
                  bif decide (Int.tmod y1.fst.fst (10 : Int) < (0 : Int)) then
                    ((0 : Int) ≤ IntKind.i64.wrap ((0 : Int) - Int.tmod y1.fst.fst (10 : Int)) ∧ IntKind.i64.wrap ((0 : Int) - Int.tmod y1.fst.fst (10 : Int)) < (10 : Int)) ∧
                      let r2 := (48 : Int) + IntKind.i64.wrap ((0 : Int) - Int.tmod y1.fst.fst (10 : Int));
                      List.length (byteRow [(r2, ())]) + List.length y1.fst.snd.fst ≤ maxLen ∧
                        (10 : Int) ≠ (0 : Int) ∧
                          s0 = s0 ∧
                            I ((IntKind.i64.wrap (Int.tdiv y1.fst.fst (10 : Int)), byteRow [(r2, ())] ++ y1.fst.snd.fst, ()), ()) ∧
                              μ ((IntKind.i64.wrap (Int.tdiv y1.fst.fst (10 : Int)), byteRow [(r2, ())] ++ y1.fst.snd.fst, ()), ()) < μ y1
                  else
                    ((0 : Int) ≤ Int.tmod y1.fst.fst (10 : Int) ∧ Int.tmod y1.fst.fst (10 : Int) < (10 : Int)) ∧
                      let r3 := (48 : Int) + Int.tmod y1.fst.fst (10 : Int);
                      List.length (byteRow [(r3, ())]) + List.length y1.fst.snd.fst ≤ maxLen ∧
                        (10 : Int) ≠ (0 : Int) ∧
                          s0 = s0 ∧
                            I ((IntKind.i64.wrap (Int.tdiv y1.fst.fst (10 : Int)), byteRow [(r3, ())] ++ y1.fst.snd.fst, ()), ()) ∧
                              μ ((IntKind.i64.wrap (Int.tdiv y1.fst.fst (10 : Int)), byteRow [(r3, ())] ++ y1.fst.snd.fst, ()), ()) < μ y1
              else bif decide (n < (0 : Int)) then [(45 : UInt8)].length + List.length y1.fst.snd.fst ≤ maxLen ∧ K ([(45 : UInt8)] ++ y1.fst.snd.fst, ()) else K (y1.fst.snd.fst, ())
theorem wk_spec_FormatInt (env : EnvB prog G Θ Γ_spec_FormatInt) (h : ∀ (n : Int), (((-9223372036854775808 : Int) ≤ n ∧ n ≤ (9223372036854775807 : Int)) ∧ True) → (True) → VC_spec_FormatInt n fun r => r = ((Lib.itoa n, ()))) : ConOK prog G n_spec_FormatInt con_spec_FormatInt :=
  conR_ok env mixed (fn := f27) (c := codeOf f27) (by kernel_rfl) (by kernel_rfl) H_spec_FormatInt (by kernel_rfl) fun ⟨n, ⟨⟩⟩ hin hp =>
    Eq.mpr ((by kernel_rfl : awp Θ Γ_spec_FormatInt H_spec_FormatInt (codeOf f27) (endsV Θ f27.results.toList rsh_spec_FormatInt fun r => r = (F_spec_FormatInt (n, ())).2) (entry f27.ntmps (psVals sh_spec_FormatInt (n, ()))) = VC_spec_FormatInt n fun r => r = ((Lib.itoa n, ())))) (h n hin hp)

def H_laws_szEvent : Hints := Go.Fw.hints [] [] [] []
def VC_laws_szEvent (a0 : Int) (a1 : List (Int × Unit)) (a2 : List (Int × Unit)) (left : Int) (K : Int × Unit → Prop) : Prop :=
  ((0 : Int) ≤ left ∧ left ≤ (1048576 : Int)) ∧
    bif decide (Sp.szLen a1.length left < (0 : Int)) then K ((-1 : Int), ())
    else
      ((0 : Int) ≤ Sp.szLen a1.length left ∧ Sp.szLen a1.length left ≤ (1048576 : Int)) ∧
        let r0 := Sp.szLen a2.length (Sp.szLen a1.length left);
        bif decide (r0 < (0 : Int)) then K ((-1 : Int), ()) else K (r0, ())
theorem wk_laws_szEvent (env : EnvB prog G Θ Γ_laws_szEvent) (h : ∀ (a0 : Int) (a1 : List (Int × Unit)) (a2 : List (Int × Unit)) (left : Int), ((((-9223372036854775808 : Int) ≤ a0 ∧ a0 ≤ (9223372036854775807 : Int)) ∧
    (a1.length ≤ maxLen ∧ ∀ (x : Int × Unit), x ∈ a1 → ((-9223372036854775808 : Int) ≤ x.fst ∧ x.fst ≤ (9223372036854775807 : Int)) ∧ True) ∧
      (a2.length ≤ maxLen ∧ ∀ (x : Int × Unit), x ∈ a2 → ((-9223372036854775808 : Int) ≤ x.fst ∧ x.fst ≤ (9223372036854775807 : Int)) ∧ True) ∧ True) ∧
  ((-9223372036854775808 : Int) ≤ left ∧ left ≤ (9223372036854775807 : Int)) ∧ True) → ((0 : Int) ≤ left ∧ left ≤ (1048576 : Int)) → VC_laws_szEvent a0 a1 a2 left fun r => r = ((Sp.szEvent a1 a2 left, ()))) : ConOK prog G n_laws_szEvent con_laws_szEvent :=
  conR_ok env mixed (fn := f59) (c := codeOf f59) (by kernel_rfl) (by kernel_rfl) H_laws_szEvent (by kernel_rfl) fun ⟨⟨a0, a1, a2, ⟨⟩⟩, left, ⟨⟩⟩ hin hp =>
    Eq.mpr ((by kernel_rfl : awp Θ Γ_laws_szEvent H_laws_szEvent (codeOf f59) (endsV Θ f59.results.toList rsh_laws_szEvent fun r => r = (F_laws_szEvent ((a0, a1, a2, ()), left, ())).2) (entry f59.ntmps (psVals sh_laws_szEvent ((a0, a1, a2, ()), left, ()))) = VC_laws_szEvent a0 a1 a2 left fun r => r = ((Sp.szEvent a1 a2 left, ())))) (h a0 a1 a2 left hin hp)

def H_laws_toEvent : Hints := Go.Fw.hints [] [] [] []
def VC_laws_toEvent (a0 : Int) (a1 : List (Int × Unit)) (a2 : List (Int × Unit)) (K : (Int × List (Int × Unit) × List (Int × Unit) × Unit) × Unit → Prop) : Prop :=
  a1.length ≤ big ∧ a2.length ≤ big ∧ K ((a0, a1, a2, ()), ())
theorem wk_laws_toEvent (env : EnvB prog G Θ Γ_laws_toEvent) (h : ∀ (a0 : Int) (a1 : List (Int × Unit)) (a2 : List (Int × Unit)), ((((-9223372036854775808 : Int) ≤ a0 ∧ a0 ≤ (9223372036854775807 : Int)) ∧
    (a1.length ≤ maxLen ∧ ∀ (x : Int × Unit), x ∈ a1 → ((-9223372036854775808 : Int) ≤ x.fst ∧ x.fst ≤ (9223372036854775807 : Int)) ∧ True) ∧
      (a2.length ≤ maxLen ∧ ∀ (x : Int × Unit), x ∈ a2 → ((-9223372036854775808 : Int) ≤ x.fst ∧ x.fst ≤ (9223372036854775807 : Int)) ∧ True) ∧ True) ∧
  True) → (a1.length ≤ big ∧ a2.length ≤ big) → VC_laws_toEvent a0 a1 a2 fun r => r = (((a0, a1, a2, ()), ()))) : ConOK prog G n_laws_toEvent con_laws_toEvent :=
  conR_ok env mixed (fn := f62) (c := codeOf f62) (by kernel_rfl) (by kernel_rfl) H_laws_toEvent (by kernel_rfl) fun ⟨⟨a0, a1, a2, ⟨⟩⟩, ⟨⟩⟩ hin hp =>
    Eq.mpr ((by kernel_rfl : awp Θ Γ_laws_toEvent H_laws_toEvent (codeOf f62) (endsV Θ f62.results.toList rsh_laws_toEvent fun r => r = (F_laws_toEvent ((a0, a1, a2, ()), ())).2) (entry f62.ntmps (psVals sh_laws_toEvent ((a0, a1, a2, ()), ()))) = VC_laws_toEvent a0 a1 a2 fun r => r = (((a0, a1, a2, ()), ())))) (h a0 a1 a2 hin hp)

def H_laws_eqEvent : Hints := Go.Fw.hints [] [] [] []
def VC_laws_eqEvent (a0 : Int) (a1 : List (Int × Unit)) (a2 : List (Int × Unit)) (b0 : Int) (b1 : List (Int × Unit)) (b2 : List (Int × Unit)) (K : Bool × Unit → Prop) : Prop :=
  bif a0 != b0 then K (false, ())
  else
    True ∧
      let r0 := decide (a1 = b1);
      bif !r0 then K (false, ())
      else
        True ∧
          let r1 := decide (a2 = b2);
          bif !r1 then K (false, ()) else K (true, ())
theorem wk_laws_eqEvent (env : EnvB prog G Θ Γ_laws_eqEvent) (h : ∀ (a0 : Int) (a1 : List (Int × Unit)) (a2 : List (Int × Unit)) (b0 : Int) (b1 : List (Int × Unit)) (b2 : List (Int × Unit)), ((((-9223372036854775808 : Int) ≤ a0 ∧ a0 ≤ (9223372036854775807 : Int)) ∧
    (a1.length ≤ maxLen ∧ ∀ (x : Int × Unit), x ∈ a1 → ((-9223372036854775808 : Int) ≤ x.fst ∧ x.fst ≤ (9223372036854775807 : Int)) ∧ True) ∧
      (a2.length ≤ maxLen ∧ ∀ (x : Int × Unit), x ∈ a2 → ((-9223372036854775808 : Int) ≤ x.fst ∧ x.fst ≤ (9223372036854775807 : Int)) ∧ True) ∧ True) ∧
  (((-9223372036854775808 : Int) ≤ b0 ∧ b0 ≤ (9223372036854775807 : Int)) ∧
      (b1.length ≤ maxLen ∧ ∀ (x : Int × Unit), x ∈ b1 → ((-9223372036854775808 : Int) ≤ x.fst ∧ x.fst ≤ (9223372036854775807 : Int)) ∧ True) ∧
        (b2.length ≤ maxLen ∧ ∀ (x : Int × Unit), x ∈ b2 → ((-9223372036854775808 : Int) ≤ x.fst ∧ x.fst ≤ (9223372036854775807 : Int)) ∧ True) ∧ True) ∧
    True) → (True) → VC_laws_eqEvent a0 a1 a2 b0 b1 b2 fun r => r = ((decide ((a0, a1, a2, ()) = (b0, b1, b2, ())), ()))) : ConOK prog G n_laws_eqEvent con_laws_eqEvent :=
  conR_ok env mixed (fn := f65) (c := codeOf f65) (by kernel_rfl) (by kernel_rfl) H_laws_eqEvent (by kernel_rfl) fun ⟨⟨a0, a1, a2, ⟨⟩⟩, ⟨b0, b1, b2, ⟨⟩⟩, ⟨⟩⟩ hin hp =>
    Eq.mpr ((by kernel_rfl : awp Θ Γ_laws_eqEvent H_laws_eqEvent (codeOf f65) (endsV Θ f65.results.toList rsh_laws_eqEvent fun r => r = (F_laws_eqEvent ((a0, a1, a2, ()), (b0, b1, b2, ()), ())).2) (entry f65.ntmps (psVals sh_laws_eqEvent ((a0, a1, a2, ()), (b0, b1, b2, ()), ()))) = VC_laws_eqEvent a0 a1 a2 b0 b1 b2 fun r => r = ((decide ((a0, a1, a2, ()) = (b0, b1, b2, ())), ())))) (h a0 a1 a2 b0 b1 b2 hin hp)

def H_spec_FormatEvent : Hints := Go.Fw.hints [] [(3, ⟨[], ⟨[(1, .kptr [.int .i64, .sl 3 (.cons (.int .i64) .nil) false, .sl 3 (.cons (.int .i64) .nil) false] 0)], []⟩, ⟨[(3, .one (.str)), (4, .one (.int .i64))], []⟩⟩), (7, ⟨[], ⟨[(1, .kptr [.int .i64, .sl 3 (.cons (.int .i64) .nil) false, .sl 3 (.cons (.int .i64) .nil) false] 0)], []⟩, ⟨[(3, .one (.str)), (5, .one (.int .i64))], []⟩⟩)] [] []
def VC_spec_FormatEvent (e0 : Int) (e1 : List (Int × Unit)) (e2 : List (Int × Unit)) (K : List UInt8 × Unit → Prop) : Prop :=
  True ∧
    let s0 := (((e0, e1, e2, ()), ()), ());
    ∃ (I : (List UInt8 × Int × Unit) × Unit → Prop),
      ∃ (μ : (List UInt8 × Int × Unit) × Unit → Nat),
        I ((Lib.itoa e0, (0 : Int), ()), ()) ∧
          ∀ (y1 : (List UInt8 × Int × Unit) × Unit),
            I y1 →
              bif decide (y1.fst.snd.fst < (↑e1.length : Int)) then
                List.length y1.fst.fst + [(32 : UInt8), (43 : UInt8)].length ≤ maxLen ∧
                  ((0 : Int) ≤ y1.fst.snd.fst ∧ y1.fst.snd.fst < (↑e1.length : Int)) ∧
                    True ∧
                      let r2 := Lib.itoa (e1.getD (Int.toNat y1.fst.snd.fst) ((0 : Int), ())).fst;
                      (y1.fst.fst ++ [(32 : UInt8), (43 : UInt8)]).length + r2.length ≤ maxLen ∧
                        s0 = s0 ∧
                          I ((y1.fst.fst ++ [(32 : UInt8), (43 : UInt8)] ++ r2, IntKind.i64.wrap (y1.fst.snd.fst + (1 : Int)), ()), ()) ∧
                            μ ((y1.fst.fst ++ [(32 : UInt8), (43 : UInt8)] ++ r2, IntKind.i64.wrap (y1.fst.snd.fst + (1 : Int)), ()), ()) < μ y1
              else
                let s3 := (((e0, e1, e2, ()), ()), ());
                ∃ (I : (List UInt8 × Int × Unit) × Unit → Prop),
                  ∃ (μ : (List UInt8 × Int × Unit) × Unit → Nat),
                    I ((y1.fst.fst, (0 : Int), ()), ()) ∧
                      ∀ (y4 : (List UInt8 × Int × Unit) × Unit),
                        I y4 →
                          bif decide (y4.fst.snd.fst < (↑e2.length : Int)) then
                            List.length y4.fst.fst + [(32 : UInt8), (45 : UInt8)].length ≤ maxLen ∧
                              ((0 : Int) ≤ y4.fst.snd.fst ∧ y4.fst.snd.fst < (↑e2.length : Int)) ∧
                                True ∧
                                  let r5 := Lib.itoa (e2.getD (Int.toNat y4.fst.snd.fst) ((0 : Int), ())).fst;
                                  (y4.fst.fst ++ [(32 : UInt8), (45 : UInt8)]).length + r5.length ≤ maxLen ∧
                                    s3 = s3 ∧
                                      I ((y4.fst.fst ++ [(32 : UInt8), (45 : UInt8)] ++ r5, IntKind.i64.wrap (y4.fst.snd.fst + (1 : Int)), ()), ()) ∧
                                        μ ((y4.fst.fst ++ [(32 : UInt8), (45 : UInt8)] ++ r5, IntKind.i64.wrap (y4.fst.snd.fst + (1 : Int)), ()), ()) < μ y4
                          else K (y4.fst.fst, ())
theorem wk_spec_FormatEvent (env : EnvB prog G Θ Γ_spec_FormatEvent) (h : ∀ (e0 : Int) (e1 : List (Int × Unit)) (e2 : List (Int × Unit)), ((((-9223372036854775808 : Int) ≤ e0 ∧ e0 ≤ (9223372036854775807 : Int)) ∧
    (e1.length ≤ maxLen ∧ ∀ (x : Int × Unit), x ∈ e1 → ((-9223372036854775808 : Int) ≤ x.fst ∧ x.fst ≤ (9223372036854775807 : Int)) ∧ True) ∧
      (e2.length ≤ maxLen ∧ ∀ (x : Int × Unit), x ∈ e2 → ((-9223372036854775808 : Int) ≤ x.fst ∧ x.fst ≤ (9223372036854775807 : Int)) ∧ True) ∧ True) ∧
  True) → (e1.length ≤ (1048576 : Nat) ∧ e2.length ≤ (1048576 : Nat)) → VC_spec_FormatEvent e0 e1 e2 fun r => r = ((Sp.eventText e0 e1 e2, ()))) : ConOK prog G n_spec_FormatEvent con_spec_FormatEvent :=
  conR_ok env mixed (fn := f28) (c := codeOf f28) (by kernel_rfl) (by kernel_rfl) H_spec_FormatEvent (by kernel_rfl) fun ⟨⟨e0, e1, e2, ⟨⟩⟩, ⟨⟩⟩ hin hp =>
    Eq.mpr ((by kernel_rfl : awp Θ Γ_spec_FormatEvent H_spec_FormatEvent (codeOf f28) (endsV Θ f28.results.toList rsh_spec_FormatEvent fun r => r = (F_spec_FormatEvent ((e0, e1, e2, ()), ())).2) (entry f28.ntmps (psVals sh_spec_FormatEvent ((e0, e1, e2, ()), ()))) = VC_spec_FormatEvent e0 e1 e2 fun r => r = ((Sp.eventText e0 e1 e2, ())))) (h e0 e1 e2 hin hp)

def H_impl_FormatEvent : Hints := Go.Fw.hints [] [(3, ⟨[], ⟨[(1, .kptr [.int .i64, .sl 3 (.cons (.int .i64) .nil) false, .sl 3 (.cons (.int .i64) .nil) false] 0), (12, .one (.sl 3 (.cons (.int .i64) .nil) false)), (13, .one (.int .i64))], []⟩, ⟨[(3, .one (.str)), (14, .one (.int .i64))], []⟩⟩), (8, ⟨[], ⟨[(25, .one (.sl 3 (.cons (.int .i64) .nil) false)), (26, .one (.int .i64))], []⟩, ⟨[(3, .one (.str)), (27, .one (.int .i64))], []⟩⟩)] [] []
def VC_impl_FormatEvent (e0 : Int) (e1 : List (Int × Unit)) (e2 : List (Int × Unit)) (K : List UInt8 × Unit → Prop) : Prop :=
  True ∧
    let s0 := (((e0, e1, e2, ()), e1, (↑e1.length : Int), ()), ());
    ∃ (I : (List UInt8 × Int × Unit) × Unit → Prop),
      ∃ (μ : (List UInt8 × Int × Unit) × Unit → Nat),
        I ((Lib.itoa e0, (0 : Int), ()), ()) ∧
          ∀ (y1 : (List UInt8 × Int × Unit) × Unit),
            I y1 →
              bif decide (y1.fst.snd.fst < (↑e1.length : Int)) then
                ((0 : Int) ≤ y1.fst.snd.fst ∧ y1.fst.snd.fst < (↑e1.length : Int)) ∧
                  True ∧
                    let r2 := Lib.itoa (e1.getD (Int.toNat y1.fst.snd.fst) ((0 : Int), ())).fst;
                    [(32 : UInt8), (43 : UInt8)].length + r2.length ≤ maxLen ∧
                      List.length y1.fst.fst + ([(32 : UInt8), (43 : UInt8)] ++ r2).length ≤ maxLen ∧
                        s0 = s0 ∧
                          I ((y1.fst.fst ++ ([(32 : UInt8), (43 : UInt8)] ++ r2), IntKind.i64.wrap (y1.fst.snd.fst + (1 : Int)), ()), ()) ∧
                            μ ((y1.fst.fst ++ ([(32 : UInt8), (43 : UInt8)] ++ r2), IntKind.i64.wrap (y1.fst.snd.fst + (1 : Int)), ()), ()) < μ y1
              else
                let s3 := ((e2, (↑e2.length : Int), ()), ());
                ∃ (I : (List UInt8 × Int × Unit) × Unit → Prop),
                  ∃ (μ : (List UInt8 × Int × Unit) × Unit → Nat),
                    I ((y1.fst.fst, (0 : Int), ()), ()) ∧
                      ∀ (y4 : (List UInt8 × Int × Unit) × Unit),
                        I y4 →
                          bif decide (y4.fst.snd.fst < (↑e2.length : Int)) then
                            ((0 : Int) ≤ y4.fst.snd.fst ∧ y4.fst.snd.fst < (↑e2.length : Int)) ∧
                              True ∧
                                let r5 := Lib.itoa (e2.getD (Int.toNat y4.fst.snd.fst) ((0 : Int), ())).fst;
                                [(32 : UInt8), (45 : UInt8)].length + r5.length ≤ maxLen ∧
                                  List.length y4.fst.fst + ([(32 : UInt8), (45 : UInt8)] ++ r5).length ≤ maxLen ∧
                                    s3 = s3 ∧
                                      I ((y4.fst.fst ++ ([(32 : UInt8), (45 : UInt8)] ++ r5), IntKind.i64.wrap (y4.fst.snd.fst + (1 : Int)), ()), ()) ∧
                                        μ ((y4.fst.fst ++ ([(32 : UInt8), (45 : UInt8)] ++ r5), IntKind.i64.wrap (y4.fst.snd.fst + (1 : Int)), ()), ()) < μ y4
                          else K (y4.fst.fst, ())
theorem wk_impl_FormatEvent (env : EnvB prog G Θ Γ_impl_FormatEvent) (h : ∀ (e0 : Int) (e1 : List (Int × Unit)) (e2 : List (Int × Unit)), ((((-9223372036854775808 : Int) ≤ e0 ∧ e0 ≤ (9223372036854775807 : Int)) ∧
    (e1.length ≤ maxLen ∧ ∀ (x : Int × Unit), x ∈ e1 → ((-9223372036854775808 : Int) ≤ x.fst ∧ x.fst ≤ (9223372036854775807 : Int)) ∧ True) ∧
      (e2.length ≤ maxLen ∧ ∀ (x : Int × Unit), x ∈ e2 → ((-9223372036854775808 : Int) ≤ x.fst ∧ x.fst ≤ (9223372036854775807 : Int)) ∧ True) ∧ True) ∧
  True) → (e1.length ≤ (1048576 : Nat) ∧ e2.length ≤ (1048576 : Nat)) → VC_impl_FormatEvent e0 e1 e2 fun r => r = ((Sp.eventText e0 e1 e2, ()))) : ConOK prog G n_impl_FormatEvent con_impl_FormatEvent :=
  conR_ok env mixed (fn := f33) (c := codeOf f33) (by kernel_rfl) (by kernel_rfl) H_impl_FormatEvent (by kernel_rfl) fun ⟨⟨e0, e1, e2, ⟨⟩⟩, ⟨⟩⟩ hin hp =>
    Eq.mpr ((by kernel_rfl : awp Θ Γ_impl_FormatEvent H_impl_FormatEvent (codeOf f33) (endsV Θ f33.results.toList rsh_impl_FormatEvent fun r => r = (F_impl_FormatEvent ((e0, e1, e2, ()), ())).2) (entry f33.ntmps (psVals sh_impl_FormatEvent ((e0, e1, e2, ()), ()))) = VC_impl_FormatEvent e0 e1 e2 fun r => r = ((Sp.eventText e0 e1 e2, ())))) (h e0 e1 e2 hin hp)

def H_spec_FormatIDs : Hints := Go.Fw.hints [] [(3, ⟨[], ⟨[(0, .one (.sl 3 (.cons (.int .i64) .nil) false))], []⟩, ⟨[(3, .one (.str)), (4, .one (.int .i64))], []⟩⟩)] [] []
def VC_spec_FormatIDs (ids : List (Int × Unit)) (K : List UInt8 × Unit → Prop) : Prop :=
  let s0 := ((ids, ()), ());
  ∃ (I : (List UInt8 × Int × Unit) × Unit → Prop),
    ∃ (μ : (List UInt8 × Int × Unit) × Unit → Nat),
      I (([], (0 : Int), ()), ()) ∧
        ∀ (y1 : (List UInt8 × Int × Unit) × Unit),
          I y1 →
            bif decide (y1.fst.snd.fst < (↑ids.length : Int)) then
              bif decide (y1.fst.snd.fst > (0 : Int)) then
                List.length y1.fst.fst + [(32 : UInt8)].length ≤ maxLen ∧
                  ((0 : Int) ≤ y1.fst.snd.fst ∧ y1.fst.snd.fst < (↑ids.length : Int)) ∧
                    True ∧
                      let r2 := Lib.itoa (ids.getD (Int.toNat y1.fst.snd.fst) ((0 : Int), ())).fst;
                      (y1.fst.fst ++ [(32 : UInt8)]).length + r2.length ≤ maxLen ∧
                        s0 = s0 ∧
                          I ((y1.fst.fst ++ [(32 : UInt8)] ++ r2, IntKind.i64.wrap (y1.fst.snd.fst + (1 : Int)), ()), ()) ∧
                            μ ((y1.fst.fst ++ [(32 : UInt8)] ++ r2, IntKind.i64.wrap (y1.fst.snd.fst + (1 : Int)), ()), ()) < μ y1
              else
                ((0 : Int) ≤ y1.fst.snd.fst ∧ y1.fst.snd.fst < (↑ids.length : Int)) ∧
                  True ∧
                    let r3 := Lib.itoa (ids.getD (Int.toNat y1.fst.snd.fst) ((0 : Int), ())).fst;
                    List.length y1.fst.fst + r3.length ≤ maxLen ∧
                      s0 = s0 ∧
                        I ((y1.fst.fst ++ r3, IntKind.i64.wrap (y1.fst.snd.fst + (1 : Int)), ()), ()) ∧
                          μ ((y1.fst.fst ++ r3, IntKind.i64.wrap (y1.fst.snd.fst + (1 : Int)), ()), ()) < μ y1
            else K (y1.fst.fst, ())
theorem wk_spec_FormatIDs (env : EnvB prog G Θ Γ_spec_FormatIDs) (h : ∀ (ids : List (Int × Unit)), ((ids.length ≤ maxLen ∧ ∀ (x : Int × Unit), x ∈ ids → ((-9223372036854775808 : Int) ≤ x.fst ∧ x.fst ≤ (9223372036854775807 : Int)) ∧ True) ∧ True) → (ids.length ≤ (1048576 : Nat)) → VC_spec_FormatIDs ids fun r => r = ((Sp.idsText ids, ()))) : ConOK prog G n_spec_FormatIDs con_spec_FormatIDs :=
  conR_ok env mixed (fn := f60) (c := codeOf f60) (by kernel_rfl) (by kernel_rfl) H_spec_FormatIDs (by kernel_rfl) fun ⟨ids, ⟨⟩⟩ hin hp =>
    Eq.mpr ((by kernel_rfl : awp Θ Γ_spec_FormatIDs H_spec_FormatIDs (codeOf f60) (endsV Θ f60.results.toList rsh_spec_FormatIDs fun r => r = (F_spec_FormatIDs (ids, ())).2) (entry f60.ntmps (psVals sh_spec_FormatIDs (ids, ()))) = VC_spec_FormatIDs ids fun r => r = ((Sp.idsText ids, ())))) (h ids hin hp)

def H_impl_FormatIDs : Hints := Go.Fw.hints [6] [(3, ⟨[], ⟨[(3, .one (.ref 385)), (7, .one (.sl 3 (.cons (.int .i64) .nil) false)), (8, .one (.int .i64))], []⟩, ⟨[(9, .one (.int .i64))], [(385, .arr 9 (.cons .str .nil) true)]⟩⟩)] [] []
def VC_impl_FormatIDs (ids : List (Int × Unit)) (K : List UInt8 × Unit → Prop) : Prop :=
  let s0 := (((), ids, (↑ids.length : Int), ()), ());
  ∃ (I : (Int × Unit) × List (List UInt8 × Unit) × Unit → Prop),
    ∃ (μ : (Int × Unit) × List (List UInt8 × Unit) × Unit → Nat),
      I (((0 : Int), ()), [], ()) ∧
        ∀ (y1 : (Int × Unit) × List (List UInt8 × Unit) × Unit),
          I y1 →
            bif decide (y1.fst.fst < (↑ids.length : Int)) then
              ((0 : Int) ≤ y1.fst.fst ∧ y1.fst.fst < (↑ids.length : Int)) ∧
                True ∧
                  let r2 := Lib.itoa (ids.getD (Int.toNat y1.fst.fst) ((0 : Int), ())).fst;
                  List.length y1.snd.fst + [(r2, ())].length ≤ big ∧
                    s0 = s0 ∧
                      I ((IntKind.i64.wrap (y1.fst.fst + (1 : Int)), ()), y1.snd.fst ++ [(r2, ())], ()) ∧
                        μ ((IntKind.i64.wrap (y1.fst.fst + (1 : Int)), ()), y1.snd.fst ++ [(r2, ())], ()) < μ y1
            else
              (List.length y1.snd.fst ≤ (140737488355328 : Nat) ∧
                  (Lib.join (List.map (fun (x : List UInt8 × Unit) => x.fst) y1.snd.fst) [(32 : UInt8)]).length ≤ (140737488355328 : Nat)) ∧
                let r3 := Lib.join (List.map (fun (x : List UInt8 × Unit) => x.fst) y1.snd.fst) [(32 : UInt8)];
                K (r3, ())
theorem wk_impl_FormatIDs (env : EnvB prog G Θ Γ_impl_FormatIDs) (h : ∀ (ids : List (Int × Unit)), ((ids.length ≤ maxLen ∧ ∀ (x : Int × Unit), x ∈ ids → ((-9223372036854775808 : Int) ≤ x.fst ∧ x.fst ≤ (9223372036854775807 : Int)) ∧ True) ∧ True) → (ids.length ≤ (1048576 : Nat)) → VC_impl_FormatIDs ids fun r => r = ((Sp.idsText ids, ()))) : ConOK prog G n_impl_FormatIDs con_impl_FormatIDs :=
  conR_ok env mixed (fn := f63) (c := codeOf f63) (by kernel_rfl) (by kernel_rfl) H_impl_FormatIDs (by kernel_rfl) fun ⟨ids, ⟨⟩⟩ hin hp =>
    Eq.mpr ((by kernel_rfl : awp Θ Γ_impl_FormatIDs H_impl_FormatIDs (codeOf f63) (endsV Θ f63.results.toList rsh_impl_FormatIDs fun r => r = (F_impl_FormatIDs (ids, ())).2) (entry f63.ntmps (psVals sh_impl_FormatIDs (ids, ()))) = VC_impl_FormatIDs ids fun r => r = ((Sp.idsText ids, ())))) (h ids hin hp)

def H_spec_l39With : Hints := Go.Fw.hints [] [] [] []
def VC_spec_l39With (s : List UInt8) (ids : List (Int × Unit)) (K : List UInt8 × Unit → Prop) : Prop :=
  bif (↑ids.length : Int) == (0 : Int) then K (s, ())
  else
    s.length + [(32 : UInt8)].length ≤ maxLen ∧
      ids.length ≤ (1048576 : Nat) ∧ (s ++ [(32 : UInt8)]).length + List.length (Sp.idsText ids) ≤ maxLen ∧ K (s ++ [(32 : UInt8)] ++ Sp.idsText ids, ())
theorem wk_spec_l39With (env : EnvB prog G Θ Γ_spec_l39With) (h : ∀ (s : List UInt8) (ids : List (Int × Unit)), (s.length.le maxLen ∧ (ids.length ≤ maxLen ∧ ∀ (x : Int × Unit), x ∈ ids → ((-9223372036854775808 : Int) ≤ x.fst ∧ x.fst ≤ (9223372036854775807 : Int)) ∧ True) ∧ True) → (s.length ≤ (1048576 : Nat) ∧ ids.length ≤ (1048576 : Nat)) → VC_spec_l39With s ids fun r => r = ((Sp.withIds s ids, ()))) : ConOK prog G n_spec_l39With con_spec_l39With :=
  conR_ok env mixed (fn := f26) (c := codeOf f26) (by kernel_rfl) (by kernel_rfl) H_spec_l39With (by kernel_rfl) fun ⟨s, ids, ⟨⟩⟩ hin hp =>
    Eq.mpr ((by kernel_rfl : awp Θ Γ_spec_l39With H_spec_l39With (codeOf f26) (endsV Θ f26.results.toList rsh_spec_l39With fun r => r = (F_spec_l39With (s, ids, ())).2) (entry f26.ntmps (psVals sh_spec_l39With (s, ids, ()))) = VC_spec_l39With s ids fun r => r = ((Sp.withIds s ids, ())))) (h s ids hin hp)

def H_impl_withIDs : Hints := Go.Fw.hints [] [] [] []
def VC_impl_withIDs (s : List UInt8) (ids : List (Int × Unit)) (K : List UInt8 × Unit → Prop) : Prop :=
  bif (↑ids.length : Int) == (0 : Int) then K (s, ())
  else
    s.length + [(32 : UInt8)].length ≤ maxLen ∧
      ids.length ≤ (1048576 : Nat) ∧ (s ++ [(32 : UInt8)]).length + List.length (Sp.idsText ids) ≤ maxLen ∧ K (s ++ [(32 : UInt8)] ++ Sp.idsText ids, ())
theorem wk_impl_withIDs (env : EnvB prog G Θ Γ_impl_withIDs) (h : ∀ (s : List UInt8) (ids : List (Int × Unit)), (s.length.le maxLen ∧ (ids.length ≤ maxLen ∧ ∀ (x : Int × Unit), x ∈ ids → ((-9223372036854775808 : Int) ≤ x.fst ∧ x.fst ≤ (9223372036854775807 : Int)) ∧ True) ∧ True) → (s.length ≤ (1048576 : Nat) ∧ ids.length ≤ (1048576 : Nat)) → VC_impl_withIDs s ids fun r => r = ((Sp.withIds s ids, ()))) : ConOK prog G n_impl_withIDs con_impl_withIDs :=
  conR_ok env mixed (fn := f31) (c := codeOf f31) (by kernel_rfl) (by kernel_rfl) H_impl_withIDs (by kernel_rfl) fun ⟨s, ids, ⟨⟩⟩ hin hp =>
    Eq.mpr ((by kernel_rfl : awp Θ Γ_impl_withIDs H_impl_withIDs (codeOf f31) (endsV Θ f31.results.toList rsh_impl_withIDs fun r => r = (F_impl_withIDs (s, ids, ())).2) (entry f31.ntmps (psVals sh_impl_withIDs (s, ids, ()))) = VC_impl_withIDs s ids fun r => r = ((Sp.withIds s ids, ())))) (h s ids hin hp)

def H_laws_szValue : Hints := Go.Fw.hints [] [] [] []
def VC_laws_szValue (a0 : Int) (a1 : Int) (a2 : List UInt8) (left : Int) (K : Int × Unit → Prop) : Prop :=
  bif decide (IntKind.i64.wrap (left - (↑a2.length : Int)) < (0 : Int)) then K ((-1 : Int), ()) else K (IntKind.i64.wrap (left - (↑a2.length : Int)), ())
theorem wk_laws_szValue (env : EnvB prog G Θ Γ_laws_szValue) (h : ∀ (a0 : Int) (a1 : Int) (a2 : List UInt8) (left : Int), ((((-9223372036854775808 : Int) ≤ a0 ∧ a0 ≤ (9223372036854775807 : Int)) ∧ ((-9223372036854775808 : Int) ≤ a1 ∧ a1 ≤ (9223372036854775807 : Int)) ∧ a2.length.le maxLen ∧ True) ∧
  ((-9223372036854775808 : Int) ≤ left ∧ left ≤ (9223372036854775807 : Int)) ∧ True) → ((0 : Int) ≤ left ∧ left ≤ (1048576 : Int)) → VC_laws_szValue a0 a1 a2 left fun r => r = ((Sp.szLen a2.length left, ()))) : ConOK prog G n_laws_szValue con_laws_szValue :=
  conR_ok env mixed (fn := f131) (c := codeOf f131) (by kernel_rfl) (by kernel_rfl) H_laws_szValue (by kernel_rfl) fun ⟨⟨a0, a1, a2, ⟨⟩⟩, left, ⟨⟩⟩ hin hp =>
    Eq.mpr ((by kernel_rfl : awp Θ Γ_laws_szValue H_laws_szValue (codeOf f131) (endsV Θ f131.results.toList rsh_laws_szValue fun r => r = (F_laws_szValue ((a0, a1, a2, ()), left, ())).2) (entry f131.ntmps (psVals sh_laws_szValue ((a0, a1, a2, ()), left, ()))) = VC_laws_szValue a0 a1 a2 left fun r => r = ((Sp.szLen a2.length left, ())))) (h a0 a1 a2 left hin hp)

def H_laws_szAttr : Hints := Go.Fw.hints [] [] [] []
def VC_laws_szAttr (a0 : List UInt8) (a1 : Int) (a2 : Int) (a3 : List UInt8) (left : Int) (K : Int × Unit → Prop) : Prop :=
  bif decide (IntKind.i64.wrap (left - (↑a0.length : Int)) < (0 : Int)) then K ((-1 : Int), ())
  else
    ((0 : Int) ≤ IntKind.i64.wrap (left - (↑a0.length : Int)) ∧ IntKind.i64.wrap (left - (↑a0.length : Int)) ≤ (1048576 : Int)) ∧
      let r0 := Sp.szLen a3.length (IntKind.i64.wrap (left - (↑a0.length : Int)));
      bif decide (r0 < (0 : Int)) then K ((-1 : Int), ()) else K (r0, ())
theorem wk_laws_szAttr (env : EnvB prog G Θ Γ_laws_szAttr) (h : ∀ (a0 : List UInt8) (a1 : Int) (a2 : Int) (a3 : List UInt8) (left : Int), ((a0.length.le maxLen ∧
    ((-9223372036854775808 : Int) ≤ a1 ∧ a1 ≤ (9223372036854775807 : Int)) ∧ ((-9223372036854775808 : Int) ≤ a2 ∧ a2 ≤ (9223372036854775807 : Int)) ∧ a3.length.le maxLen ∧ True) ∧
  ((-9223372036854775808 : Int) ≤ left ∧ left ≤ (9223372036854775807 : Int)) ∧ True) → ((0 : Int) ≤ left ∧ left ≤ (1048576 : Int)) → VC_laws_szAttr a0 a1 a2 a3 left fun r => r = ((Sp.szLen (Sp.wAttr (a0, a1, a2, a3, ())) left, ()))) : ConOK prog G n_laws_szAttr con_laws_szAttr :=
  conR_ok env mixed (fn := f113) (c := codeOf f113) (by kernel_rfl) (by kernel_rfl) H_laws_szAttr (by kernel_rfl) fun ⟨⟨a0, a1, a2, a3, ⟨⟩⟩, left, ⟨⟩⟩ hin hp =>
    Eq.mpr ((by kernel_rfl : awp Θ Γ_laws_szAttr H_laws_szAttr (codeOf f113) (endsV Θ f113.results.toList rsh_laws_szAttr fun r => r = (F_laws_szAttr ((a0, a1, a2, a3, ()), left, ())).2) (entry f113.ntmps (psVals sh_laws_szAttr ((a0, a1, a2, a3, ()), left, ()))) = VC_laws_szAttr a0 a1 a2 a3 left fun r => r = ((Sp.szLen (Sp.wAttr (a0, a1, a2, a3, ())) left, ())))) (h a0 a1 a2 a3 left hin hp)

def H_laws_szNode : Hints := Go.Fw.hints [] [] [] []
def VC_laws_szNode (a0 : Int) (a1 : Int) (a2 : Int) (a3 : List UInt8) (a4 : Int) (a5 : Int) (a6 : List UInt8) (left : Int) (K : Int × Unit → Prop) : Prop :=
  bif decide (IntKind.i64.wrap (left - (↑a3.length : Int)) < (0 : Int)) then K ((-1 : Int), ())
  else
    ((0 : Int) ≤ IntKind.i64.wrap (left - (↑a3.length : Int)) ∧ IntKind.i64.wrap (left - (↑a3.length : Int)) ≤ (1048576 : Int)) ∧
      let r0 := Sp.szLen a6.length (IntKind.i64.wrap (left - (↑a3.length : Int)));
      bif decide (r0 < (0 : Int)) then K ((-1 : Int), ()) else K (r0, ())
theorem wk_laws_szNode (env : EnvB prog G Θ Γ_laws_szNode) (h : ∀ (a0 : Int) (a1 : Int) (a2 : Int) (a3 : List UInt8) (a4 : Int) (a5 : Int) (a6 : List UInt8) (left : Int), ((((-9223372036854775808 : Int) ≤ a0 ∧ a0 ≤ (9223372036854775807 : Int)) ∧
    ((-9223372036854775808 : Int) ≤ a1 ∧ a1 ≤ (9223372036854775807 : Int)) ∧
      ((-9223372036854775808 : Int) ≤ a2 ∧ a2 ≤ (9223372036854775807 : Int)) ∧
        a3.length.le maxLen ∧
          ((-9223372036854775808 : Int) ≤ a4 ∧ a4 ≤ (9223372036854775807 : Int)) ∧
            ((-9223372036854775808 : Int) ≤ a5 ∧ a5 ≤ (9223372036854775807 : Int)) ∧ a6.length.le maxLen ∧ True) ∧
  ((-9223372036854775808 : Int) ≤ left ∧ left ≤ (9223372036854775807 : Int)) ∧ True) → ((0 : Int) ≤ left ∧ left ≤ (1048576 : Int)) → VC_laws_szNode a0 a1 a2 a3 a4 a5 a6 left fun r => r = ((Sp.szLen (Sp.wNode (a0, a1, a2, a3, a4, a5, a6, ())) left, ()))) : ConOK prog G n_laws_szNode con_laws_szNode :=
  conR_ok env mixed (fn := f114) (c := codeOf f114) (by kernel_rfl) (by kernel_rfl) H_laws_szNode (by kernel_rfl) fun ⟨⟨a0, a1, a2, a3, a4, a5, a6, ⟨⟩⟩, left, ⟨⟩⟩ hin hp =>
    Eq.mpr ((by kernel_rfl : awp Θ Γ_laws_szNode H_laws_szNode (codeOf f114) (endsV Θ f114.results.toList rsh_laws_szNode fun r => r = (F_laws_szNode ((a0, a1, a2, a3, a4, a5, a6, ()), left, ())).2) (entry f114.ntmps (psVals sh_laws_szNode ((a0, a1, a2, a3, a4, a5, a6, ()), left, ()))) = VC_laws_szNode a0 a1 a2 a3 a4 a5 a6 left fun r => r = ((Sp.szLen (Sp.wNode (a0, a1, a2, a3, a4, a5, a6, ())) left, ())))) (h a0 a1 a2 a3 a4 a5 a6 left hin hp)

def H_laws_szAttrS : Hints := Go.Fw.hints [] [(5, ⟨[], ⟨[(0, .one (.sl 165 (.cons .str (.cons (.int .i64) (.cons (.int .i64) (.cons .str .nil)))) false))], []⟩, ⟨[(1, .one (.int .i64)), (5, .one (.int .i64))], []⟩⟩)] [] []
def VC_laws_szAttrS (a : List (List UInt8 × Int × Int × List UInt8 × Unit)) (left : Int) (K : Int × Unit → Prop) : Prop :=
  bif decide (IntKind.i64.wrap (left - (↑a.length : Int)) < (0 : Int)) then K ((-1 : Int), ())
  else
    let s0 := ((a, ()), ());
    ∃ (I : (Int × Int × Unit) × Unit → Prop),
      ∃ (μ : (Int × Int × Unit) × Unit → Nat),
        I ((IntKind.i64.wrap (left - (↑a.length : Int)), (0 : Int), ()), ()) ∧
          ∀ (y1 : (Int × Int × Unit) × Unit),
            I y1 →
              bif decide (y1.fst.snd.fst < (↑a.length : Int)) then
                ((0 : Int) ≤ y1.fst.snd.fst ∧ y1.fst.snd.fst < (↑a.length : Int)) ∧
                  ((0 : Int) ≤ y1.fst.fst ∧ y1.fst.fst ≤ (1048576 : Int)) ∧
                    let r2 :=
                      Sp.szLen
                        (Sp.wAttr
                          ((a.getD (Int.toNat y1.fst.snd.fst) ([], (0 : Int), (0 : Int), [], ())).fst, (a.getD (Int.toNat y1.fst.snd.fst) ([], (0 : Int), (0 : Int), [], ())).snd.fst,
                            (a.getD (Int.toNat y1.fst.snd.fst) ([], (0 : Int), (0 : Int), [], ())).snd.snd.fst,
                            (a.getD (Int.toNat y1.fst.snd.fst) ([], (0 : Int), (0 : Int), [], ())).snd.snd.snd.fst, ()))
                        y1.fst.fst;
                    bif decide (r2 < (0 : Int)) then K ((-1 : Int), ())
                    else s0 = s0 ∧ I ((r2, IntKind.i64.wrap (y1.fst.snd.fst + (1 : Int)), ()), ()) ∧ μ ((r2, IntKind.i64.wrap (y1.fst.snd.fst + (1 : Int)), ()), ()) < μ y1
              else K (y1.fst.fst, ())
theorem wk_laws_szAttrS (env : EnvB prog G Θ Γ_laws_szAttrS) (h : ∀ (a : List (List UInt8 × Int × Int × List UInt8 × Unit)) (left : Int), ((a.length ≤ maxLen ∧
    ∀ (x : List UInt8 × Int × Int × List UInt8 × Unit),
      x ∈ a →
        (List.length x.fst).le maxLen ∧
          ((-9223372036854775808 : Int) ≤ x.snd.fst ∧ x.snd.fst ≤ (9223372036854775807 : Int)) ∧
            ((-9223372036854775808 : Int) ≤ x.snd.snd.fst ∧ x.snd.snd.fst ≤ (9223372036854775807 : Int)) ∧ (List.length x.snd.snd.snd.fst).le maxLen ∧ True) ∧
  ((-9223372036854775808 : Int) ≤ left ∧ left ≤ (9223372036854775807 : Int)) ∧ True) → ((0 : Int) ≤ left ∧ left ≤ (1048576 : Int)) → VC_laws_szAttrS a left fun r => r = ((Sp.szLen (Sp.wAttrS a) left, ()))) : ConOK prog G n_laws_szAttrS con_laws_szAttrS :=
  conR_ok env mixed (fn := f98) (c := codeOf f98) (by kernel_rfl) (by kernel_rfl) H_laws_szAttrS (by kernel_rfl) fun ⟨a, left, ⟨⟩⟩ hin hp =>
    Eq.mpr ((by kernel_rfl : awp Θ Γ_laws_szAttrS H_laws_szAttrS (codeOf f98) (endsV Θ f98.results.toList rsh_laws_szAttrS fun r => r = (F_laws_szAttrS (a, left, ())).2) (entry f98.ntmps (psVals sh_laws_szAttrS (a, left, ()))) = VC_laws_szAttrS a left fun r => r = ((Sp.szLen (Sp.wAttrS a) left, ())))) (h a left hin hp)

def H_laws_szNodeS : Hints := Go.Fw.hints [] [(5, ⟨[], ⟨[(0, .one (.sl 168 (.cons (.int .i64) (.cons (.int .i64) (.cons (.int .i64) (.cons .str (.cons (.int .i64) (.cons (.int .i64) (.cons .str .nil))))))) false))], []⟩, ⟨[(1, .one (.int .i64)), (5, .one (.int .i64))], []⟩⟩)] [] []
def VC_laws_szNodeS (a : List (Int × Int × Int × List UInt8 × Int × Int × List UInt8 × Unit)) (left : Int) (K : Int × Unit → Prop) : Prop :=
  bif decide (IntKind.i64.wrap (left - (↑a.length : Int)) < (0 : Int)) then K ((-1 : Int), ())
  else
    let s0 := ((a, ()), ());
    ∃ (I : (Int × Int × Unit) × Unit → Prop),
      ∃ (μ : (Int × Int × Unit) × Unit → Nat),
        I ((IntKind.i64.wrap (left - (↑a.length : Int)), (0 : Int), ()), ()) ∧
          ∀ (y1 : (Int × Int × Unit) × Unit),
            I y1 →
              bif decide (y1.fst.snd.fst < (↑a.length : Int)) then
                ((0 : Int) ≤ y1.fst.snd.fst ∧ y1.fst.snd.fst < (↑a.length : Int)) ∧
                  ((0 : Int) ≤ y1.fst.fst ∧ y1.fst.fst ≤ (1048576 : Int)) ∧
                    let r2 :=
                      Sp.szLen
                        (Sp.wNode
                          ((a.getD (Int.toNat y1.fst.snd.fst) ((0 : Int), (0 : Int), (0 : Int), [], (0 : Int), (0 : Int), [], ())).fst,
                            (a.getD (Int.toNat y1.fst.snd.fst) ((0 : Int), (0 : Int), (0 : Int), [], (0 : Int), (0 : Int), [], ())).snd.fst,
                            (a.getD (Int.toNat y1.fst.snd.fst) ((0 : Int), (0 : Int), (0 : Int), [], (0 : Int), (0 : Int), [], ())).snd.snd.fst,
                            (a.getD (Int.toNat y1.fst.snd.fst) ((0 : Int), (0 : Int), (0 : Int), [], (0 : Int), (0 : Int), [], ())).snd.snd.snd.fst,
                            (a.getD (Int.toNat y1.fst.snd.fst) ((0 : Int), (0 : Int), (0 : Int), [], (0 : Int), (0 : Int), [], ())).snd.snd.snd.snd.fst,
                            (a.getD (Int.toNat y1.fst.snd.fst) ((0 : Int), (0 : Int), (0 : Int), [], (0 : Int), (0 : Int), [], ())).snd.snd.snd.snd.snd.fst,
                            (a.getD (Int.toNat y1.fst.snd.fst) ((0 : Int), (0 : Int), (0 : Int), [], (0 : Int), (0 : Int), [], ())).snd.snd.snd.snd.snd.snd.fst, ()))
                        y1.fst.fst;
                    bif decide (r2 < (0 : Int)) then K ((-1 : Int), ())
                    else s0 = s0 ∧ I ((r2, IntKind.i64.wrap (y1.fst.snd.fst + (1 : Int)), ()), ()) ∧ μ ((r2, IntKind.i64.wrap (y1.fst.snd.fst + (1 : Int)), ()), ()) < μ y1
              else K (y1.fst.fst, ())
theorem wk_laws_szNodeS (env : EnvB prog G Θ Γ_laws_szNodeS) (h : ∀ (a : List (Int × Int × Int × List UInt8 × Int × Int × List UInt8 × Unit)) (left : Int), ((a.length ≤ maxLen ∧
    ∀ (x : Int × Int × Int × List UInt8 × Int × Int × List UInt8 × Unit),
      x ∈ a →
        ((-9223372036854775808 : Int) ≤ x.fst ∧ x.fst ≤ (9223372036854775807 : Int)) ∧
          ((-9223372036854775808 : Int) ≤ x.snd.fst ∧ x.snd.fst ≤ (9223372036854775807 : Int)) ∧
            ((-9223372036854775808 : Int) ≤ x.snd.snd.fst ∧ x.snd.snd.fst ≤ (9223372036854775807 : Int)) ∧
              (List.length x.snd.snd.snd.fst).le maxLen ∧
                ((-9223372036854775808 : Int) ≤ x.snd.snd.snd.snd.fst ∧ x.snd.snd.snd.snd.fst ≤ (9223372036854775807 : Int)) ∧
                  ((-9223372036854775808 : Int) ≤ x.snd.snd.snd.snd.snd.fst ∧ x.snd.snd.snd.snd.snd.fst ≤ (9223372036854775807 : Int)) ∧
                    (List.length x.snd.snd.snd.snd.snd.snd.fst).le maxLen ∧ True) ∧
  ((-9223372036854775808 : Int) ≤ left ∧ left ≤ (9223372036854775807 : Int)) ∧ True) → ((0 : Int) ≤ left ∧ left ≤ (1048576 : Int)) → VC_laws_szNodeS a left fun r => r = ((Sp.szLen (Sp.wNodeS a) left, ()))) : ConOK prog G n_laws_szNodeS con_laws_szNodeS :=
  conR_ok env mixed (fn := f99) (c := codeOf f99) (by kernel_rfl) (by kernel_rfl) H_laws_szNodeS (by kernel_rfl) fun ⟨a, left, ⟨⟩⟩ hin hp =>
    Eq.mpr ((by kernel_rfl : awp Θ Γ_laws_szNodeS H_laws_szNodeS (codeOf f99) (endsV Θ f99.results.toList rsh_laws_szNodeS fun r => r = (F_laws_szNodeS (a, left, ())).2) (entry f99.ntmps (psVals sh_laws_szNodeS (a, left, ()))) = VC_laws_szNodeS a left fun r => r = ((Sp.szLen (Sp.wNodeS a) left, ())))) (h a left hin hp)

def H_laws_szFile : Hints := Go.Fw.hints [] [] [] []
def VC_laws_szFile (a0 : Int) (a1 : Int) (a2 : Bool) (a3 : Int) (a4 : List (List UInt8 × Int × Int × List UInt8 × Unit)) (left : Int) (K : Int × Unit → Prop) : Prop :=
  ((0 : Int) ≤ left ∧ left ≤ (1048576 : Int)) ∧ bif decide (Sp.szLen (Sp.wAttrS a4) left < (0 : Int)) then K ((-1 : Int), ()) else K (Sp.szLen (Sp.wAttrS a4) left, ())
theorem wk_laws_szFile (env : EnvB prog G Θ Γ_laws_szFile) (h : ∀ (a0 : Int) (a1 : Int) (a2 : Bool) (a3 : Int) (a4 : List (List UInt8 × Int × Int × List UInt8 × Unit)) (left : Int), ((((-9223372036854775808 : Int) ≤ a0 ∧ a0 ≤ (9223372036854775807 : Int)) ∧
    ((-9223372036854775808 : Int) ≤ a1 ∧ a1 ≤ (9223372036854775807 : Int)) ∧
      True ∧
        ((-9223372036854775808 : Int) ≤ a3 ∧ a3 ≤ (9223372036854775807 : Int)) ∧
          (a4.length ≤ maxLen ∧
              ∀ (x : List UInt8 × Int × Int × List UInt8 × Unit),
                x ∈ a4 →
                  (List.length x.fst).le maxLen ∧
                    ((-9223372036854775808 : Int) ≤ x.snd.fst ∧ x.snd.fst ≤ (9223372036854775807 : Int)) ∧
                      ((-9223372036854775808 : Int) ≤ x.snd.snd.fst ∧ x.snd.snd.fst ≤ (9223372036854775807 : Int)) ∧ (List.length x.snd.snd.snd.fst).le maxLen ∧ True) ∧
            True) ∧
  ((-9223372036854775808 : Int) ≤ left ∧ left ≤ (9223372036854775807 : Int)) ∧ True) → ((0 : Int) ≤ left ∧ left ≤ (1048576 : Int)) → VC_laws_szFile a0 a1 a2 a3 a4 left fun r => r = ((Sp.szLen (Sp.wFile (a0, a1, a2, a3, a4, ())) left, ()))) : ConOK prog G n_laws_szFile con_laws_szFile :=
  conR_ok env mixed (fn := f85) (c := codeOf f85) (by kernel_rfl) (by kernel_rfl) H_laws_szFile (by kernel_rfl) fun ⟨⟨a0, a1, a2, a3, a4, ⟨⟩⟩, left, ⟨⟩⟩ hin hp =>
    Eq.mpr ((by kernel_rfl : awp Θ Γ_laws_szFile H_laws_szFile (codeOf f85) (endsV Θ f85.results.toList rsh_laws_szFile fun r => r = (F_laws_szFile ((a0, a1, a2, a3, a4, ()), left, ())).2) (entry f85.ntmps (psVals sh_laws_szFile ((a0, a1, a2, a3, a4, ()), left, ()))) = VC_laws_szFile a0 a1 a2 a3 a4 left fun r => r = ((Sp.szLen (Sp.wFile (a0, a1, a2, a3, a4, ())) left, ())))) (h a0 a1 a2 a3 a4 left hin hp)

def H_laws_szDir : Hints := Go.Fw.hints [] [] [] []
def VC_laws_szDir (a0 : List UInt8) (a1 : List (Int × Int × Int × List UInt8 × Int × Int × List UInt8 × Unit)) (left : Int) (K : Int × Unit → Prop) : Prop :=
  bif decide (IntKind.i64.wrap (left - (↑a0.length : Int)) < (0 : Int)) then K ((-1 : Int), ())
  else
    ((0 : Int) ≤ IntKind.i64.wrap (left - (↑a0.length : Int)) ∧ IntKind.i64.wrap (left - (↑a0.length : Int)) ≤ (1048576 : Int)) ∧
      let r0 := Sp.szLen (Sp.wNodeS a1) (IntKind.i64.wrap (left - (↑a0.length : Int)));
      bif decide (r0 < (0 : Int)) then K ((-1 : Int), ()) else K (r0, ())
theorem wk_laws_szDir (env : EnvB prog G Θ Γ_laws_szDir) (h : ∀ (a0 : List UInt8) (a1 : List (Int × Int × Int × List UInt8 × Int × Int × List UInt8 × Unit)) (left : Int), ((a0.length.le maxLen ∧
    (a1.length ≤ maxLen ∧
        ∀ (x : Int × Int × Int × List UInt8 × Int × Int × List UInt8 × Unit),
          x ∈ a1 →
            ((-9223372036854775808 : Int) ≤ x.fst ∧ x.fst ≤ (9223372036854775807 : Int)) ∧
              ((-9223372036854775808 : Int) ≤ x.snd.fst ∧ x.snd.fst ≤ (9223372036854775807 : Int)) ∧
                ((-9223372036854775808 : Int) ≤ x.snd.snd.fst ∧ x.snd.snd.fst ≤ (9223372036854775807 : Int)) ∧
                  (List.length x.snd.snd.snd.fst).le maxLen ∧
                    ((-9223372036854775808 : Int) ≤ x.snd.snd.snd.snd.fst ∧ x.snd.snd.snd.snd.fst ≤ (9223372036854775807 : Int)) ∧
                      ((-9223372036854775808 : Int) ≤ x.snd.snd.snd.snd.snd.fst ∧ x.snd.snd.snd.snd.snd.fst ≤ (9223372036854775807 : Int)) ∧
                        (List.length x.snd.snd.snd.snd.snd.snd.fst).le maxLen ∧ True) ∧
      True) ∧
  ((-9223372036854775808 : Int) ≤ left ∧ left ≤ (9223372036854775807 : Int)) ∧ True) → ((0 : Int) ≤ left ∧ left ≤ (1048576 : Int)) → VC_laws_szDir a0 a1 left fun r => r = ((Sp.szLen (Sp.wDir (a0, a1, ())) left, ()))) : ConOK prog G n_laws_szDir con_laws_szDir :=
  conR_ok env mixed (fn := f86) (c := codeOf f86) (by kernel_rfl) (by kernel_rfl) H_laws_szDir (by kernel_rfl) fun ⟨⟨a0, a1, ⟨⟩⟩, left, ⟨⟩⟩ hin hp =>
    Eq.mpr ((by kernel_rfl : awp Θ Γ_laws_szDir H_laws_szDir (codeOf f86) (endsV Θ f86.results.toList rsh_laws_szDir fun r => r = (F_laws_szDir ((a0, a1, ()), left, ())).2) (entry f86.ntmps (psVals sh_laws_szDir ((a0, a1, ()), left, ()))) = VC_laws_szDir a0 a1 left fun r => r = ((Sp.szLen (Sp.wDir (a0, a1, ())) left, ())))) (h a0 a1 left hin hp)

def H_laws_szChange : Hints := Go.Fw.hints [] [] [] []
def VC_laws_szChange (a0 : Int) (a1 : Int) (a2 : Int) (a3 : Bool) (a4 : Int) (a5 : List (List UInt8 × Int × Int × List UInt8 × Unit)) (a6 : Int) (a7 : List UInt8) (a8 : List (Int × Int × Int × List UInt8 × Int × Int × List UInt8 × Unit)) (left : Int) (K : Int × Unit → Prop) : Prop :=
  ((0 : Int) ≤ left ∧ left ≤ (1048576 : Int)) ∧
    let r0 := Sp.szLen (Sp.wFile (a1, a2, a3, a4, a5, ())) left;
    bif decide (r0 < (0 : Int)) then K ((-1 : Int), ())
    else
      ((0 : Int) ≤ r0 ∧ r0 ≤ (1048576 : Int)) ∧
        let r1 := Sp.szLen (Sp.wDir (a7, a8, ())) r0;
        bif decide (r1 < (0 : Int)) then K ((-1 : Int), ()) else K (r1, ())
theorem wk_laws_szChange (env : EnvB prog G Θ Γ_laws_szChange) (h : ∀ (a0 : Int) (a1 : Int) (a2 : Int) (a3 : Bool) (a4 : Int) (a5 : List (List UInt8 × Int × Int × List UInt8 × Unit)) (a6 : Int) (a7 : List UInt8) (a8 : List (Int × Int × Int × List UInt8 × Int × Int × List UInt8 × Unit)) (left : Int), ((((-9223372036854775808 : Int) ≤ a0 ∧ a0 ≤ (9223372036854775807 : Int)) ∧
    ((-9223372036854775808 : Int) ≤ a1 ∧ a1 ≤ (9223372036854775807 : Int)) ∧
      ((-9223372036854775808 : Int) ≤ a2 ∧ a2 ≤ (9223372036854775807 : Int)) ∧
        True ∧
          ((-9223372036854775808 : Int) ≤ a4 ∧ a4 ≤ (9223372036854775807 : Int)) ∧
            (a5.length ≤ maxLen ∧
                ∀ (x : List UInt8 × Int × Int × List UInt8 × Unit),
                  x ∈ a5 →
                    (List.length x.fst).le maxLen ∧
                      ((-9223372036854775808 : Int) ≤ x.snd.fst ∧ x.snd.fst ≤ (9223372036854775807 : Int)) ∧
                        ((-9223372036854775808 : Int) ≤ x.snd.snd.fst ∧ x.snd.snd.fst ≤ (9223372036854775807 : Int)) ∧ (List.length x.snd.snd.snd.fst).le maxLen ∧ True) ∧
              ((-9223372036854775808 : Int) ≤ a6 ∧ a6 ≤ (9223372036854775807 : Int)) ∧
                a7.length.le maxLen ∧
                  (a8.length ≤ maxLen ∧
                      ∀ (x : Int × Int × Int × List UInt8 × Int × Int × List UInt8 × Unit),
                        x ∈ a8 →
                          ((-9223372036854775808 : Int) ≤ x.fst ∧ x.fst ≤ (9223372036854775807 : Int)) ∧
                            ((-9223372036854775808 : Int) ≤ x.snd.fst ∧ x.snd.fst ≤ (9223372036854775807 : Int)) ∧
                              ((-9223372036854775808 : Int) ≤ x.snd.snd.fst ∧ x.snd.snd.fst ≤ (9223372036854775807 : Int)) ∧
                                (List.length x.snd.snd.snd.fst).le maxLen ∧
                                  ((-9223372036854775808 : Int) ≤ x.snd.snd.snd.snd.fst ∧ x.snd.snd.snd.snd.fst ≤ (9223372036854775807 : Int)) ∧
                                    ((-9223372036854775808 : Int) ≤ x.snd.snd.snd.snd.snd.fst ∧ x.snd.snd.snd.snd.snd.fst ≤ (9223372036854775807 : Int)) ∧
                                      (List.length x.snd.snd.snd.snd.snd.snd.fst).le maxLen ∧ True) ∧
                    True) ∧
  ((-9223372036854775808 : Int) ≤ left ∧ left ≤ (9223372036854775807 : Int)) ∧ True) → ((0 : Int) ≤ left ∧ left ≤ (1048576 : Int)) → VC_laws_szChange a0 a1 a2 a3 a4 a5 a6 a7 a8 left fun r => r = ((Sp.szLen (Sp.wChange (a0, a1, a2, a3, a4, a5, a6, a7, a8, ())) left, ()))) : ConOK prog G n_laws_szChange con_laws_szChange :=
  conR_ok env mixed (fn := f66) (c := codeOf f66) (by kernel_rfl) (by kernel_rfl) H_laws_szChange (by kernel_rfl) fun ⟨⟨a0, a1, a2, a3, a4, a5, a6, a7, a8, ⟨⟩⟩, left, ⟨⟩⟩ hin hp =>
    Eq.mpr ((by kernel_rfl : awp Θ Γ_laws_szChange H_laws_szChange (codeOf f66) (endsV Θ f66.results.toList rsh_laws_szChange fun r => r = (F_laws_szChange ((a0, a1, a2, a3, a4, a5, a6, a7, a8, ()), left, ())).2) (entry f66.ntmps (psVals sh_laws_szChange ((a0, a1, a2, a3, a4, a5, a6, a7, a8, ()), left, ()))) = VC_laws_szChange a0 a1 a2 a3 a4 a5 a6 a7 a8 left fun r => r = ((Sp.szLen (Sp.wChange (a0, a1, a2, a3, a4, a5, a6, a7, a8, ())) left, ())))) (h a0 a1 a2 a3 a4 a5 a6 a7 a8 left hin hp)

def H_laws_szChangeS : Hints := Go.Fw.hints [] [(5, ⟨[], ⟨[(0, .one (.sl 95 (.cons (.int .i64) (.cons (.int .i64) (.cons (.int .i64) (.cons .bool (.cons (.int .i64) (.cons (.sl 165 (.cons .str (.cons (.int .i64) (.cons (.int .i64) (.cons .str .nil))))) (.cons (.int .i64) (.cons .str (.cons (.sl 168 (.cons (.int .i64) (.cons (.int .i64) (.cons (.int .i64) (.cons .str (.cons (.int .i64) (.cons (.int .i64) (.cons .str .nil)))))))) .nil))))))))) false))], []⟩, ⟨[(1, .one (.int .i64)), (5, .one (.int .i64))], []⟩⟩)] [] []
def VC_laws_szChangeS (a : List
  (Int × Int × Int × Bool × Int × List (List UInt8 × Int × Int × List UInt8 × Unit) × Int × List UInt8 × List (Int × Int × Int × List UInt8 × Int × Int × List UInt8 × Unit) × Unit)) (left : Int) (K : Int × Unit → Prop) : Prop :=
  bif decide (IntKind.i64.wrap (left - (↑a.length : Int)) < (0 : Int)) then K ((-1 : Int), ())
  else
    let s0 := ((a, ()), ());
    ∃ (I : (Int × Int × Unit) × Unit → Prop),
      ∃ (μ : (Int × Int × Unit) × Unit → Nat),
        I ((IntKind.i64.wrap (left - (↑a.length : Int)), (0 : Int), ()), ()) ∧
          ∀ (y1 : (Int × Int × Unit) × Unit),
            I y1 →
              bif decide (y1.fst.snd.fst < (↑a.length : Int)) then
                ((0 : Int) ≤ y1.fst.snd.fst ∧ y1.fst.snd.fst < (↑a.length : Int)) ∧
                  ((0 : Int) ≤ y1.fst.fst ∧ y1.fst.fst ≤ (1048576 : Int)) ∧
                    let r2 :=
                      Sp.szLen
                        (Sp.wChange
                          ((a.getD (Int.toNat y1.fst.snd.fst) ((0 : Int), (0 : Int), (0 : Int), false, (0 : Int), [], (0 : Int), [], [], ())).fst,
                            (a.getD (Int.toNat y1.fst.snd.fst) ((0 : Int), (0 : Int), (0 : Int), false, (0 : Int), [], (0 : Int), [], [], ())).snd.fst,
                            (a.getD (Int.toNat y1.fst.snd.fst) ((0 : Int), (0 : Int), (0 : Int), false, (0 : Int), [], (0 : Int), [], [], ())).snd.snd.fst,
                            (a.getD (Int.toNat y1.fst.snd.fst) ((0 : Int), (0 : Int), (0 : Int), false, (0 : Int), [], (0 : Int), [], [], ())).snd.snd.snd.fst,
                            (a.getD (Int.toNat y1.fst.snd.fst) ((0 : Int), (0 : Int), (0 : Int), false, (0 : Int), [], (0 : Int), [], [], ())).snd.snd.snd.snd.fst,
                            (a.getD (Int.toNat y1.fst.snd.fst) ((0 : Int), (0 : Int), (0 : Int), false, (0 : Int), [], (0 : Int), [], [], ())).snd.snd.snd.snd.snd.fst,
                            (a.getD (Int.toNat y1.fst.snd.fst) ((0 : Int), (0 : Int), (0 : Int), false, (0 : Int), [], (0 : Int), [], [], ())).snd.snd.snd.snd.snd.snd.fst,
                            (a.getD (Int.toNat y1.fst.snd.fst) ((0 : Int), (0 : Int), (0 : Int), false, (0 : Int), [], (0 : Int), [], [], ())).snd.snd.snd.snd.snd.snd.snd.fst,
                            (a.getD (Int.toNat y1.fst.snd.fst) ((0 : Int), (0 : Int), (0 : Int), false, (0 : Int), [], (0 : Int), [], [], ())).snd.snd.snd.snd.snd.snd.snd.snd.fst,
                            ()))
                        y1.fst.fst;
                    bif decide (r2 < (0 : Int)) then K ((-1 : Int), ())
                    else s0 = s0 ∧ I ((r2, IntKind.i64.wrap (y1.fst.snd.fst + (1 : Int)), ()), ()) ∧ μ ((r2, IntKind.i64.wrap (y1.fst.snd.fst + (1 : Int)), ()), ()) < μ y1
              else K (y1.fst.fst, ())
theorem wk_laws_szChangeS (env : EnvB prog G Θ Γ_laws_szChangeS) (h : ∀ (a : List
  (Int × Int × Int × Bool × Int × List (List UInt8 × Int × Int × List UInt8 × Unit) × Int × List UInt8 × List (Int × Int × Int × List UInt8 × Int × Int × List UInt8 × Unit) × Unit)) (left : Int), ((a.length ≤ maxLen ∧
    ∀
      (x :
        Int ×
          Int ×
            Int × Bool × Int × List (List UInt8 × Int × Int × List UInt8 × Unit) × Int × List UInt8 × List (Int × Int × Int × List UInt8 × Int × Int × List UInt8 × Unit) × Unit),
      x ∈ a →
        ((-9223372036854775808 : Int) ≤ x.fst ∧ x.fst ≤ (9223372036854775807 : Int)) ∧
          ((-9223372036854775808 : Int) ≤ x.snd.fst ∧ x.snd.fst ≤ (9223372036854775807 : Int)) ∧
            ((-9223372036854775808 : Int) ≤ x.snd.snd.fst ∧ x.snd.snd.fst ≤ (9223372036854775807 : Int)) ∧
              True ∧
                ((-9223372036854775808 : Int) ≤ x.snd.snd.snd.snd.fst ∧ x.snd.snd.snd.snd.fst ≤ (9223372036854775807 : Int)) ∧
                  (List.length x.snd.snd.snd.snd.snd.fst ≤ maxLen ∧
                      ∀ (x_1 : List UInt8 × Int × Int × List UInt8 × Unit),
                        x_1 ∈ x.snd.snd.snd.snd.snd.fst →
                          (List.length x_1.fst).le maxLen ∧
                            ((-9223372036854775808 : Int) ≤ x_1.snd.fst ∧ x_1.snd.fst ≤ (9223372036854775807 : Int)) ∧
                              ((-9223372036854775808 : Int) ≤ x_1.snd.snd.fst ∧ x_1.snd.snd.fst ≤ (9223372036854775807 : Int)) ∧
                                (List.length x_1.snd.snd.snd.fst).le maxLen ∧ True) ∧
                    ((-9223372036854775808 : Int) ≤ x.snd.snd.snd.snd.snd.snd.fst ∧ x.snd.snd.snd.snd.snd.snd.fst ≤ (9223372036854775807 : Int)) ∧
                      (List.length x.snd.snd.snd.snd.snd.snd.snd.fst).le maxLen ∧
                        (List.length x.snd.snd.snd.snd.snd.snd.snd.snd.fst ≤ maxLen ∧
                            ∀ (x_1 : Int × Int × Int × List UInt8 × Int × Int × List UInt8 × Unit),
                              x_1 ∈ x.snd.snd.snd.snd.snd.snd.snd.snd.fst →
                                ((-9223372036854775808 : Int) ≤ x_1.fst ∧ x_1.fst ≤ (9223372036854775807 : Int)) ∧
                                  ((-9223372036854775808 : Int) ≤ x_1.snd.fst ∧ x_1.snd.fst ≤ (9223372036854775807 : Int)) ∧
                                    ((-9223372036854775808 : Int) ≤ x_1.snd.snd.fst ∧ x_1.snd.snd.fst ≤ (9223372036854775807 : Int)) ∧
                                      (List.length x_1.snd.snd.snd.fst).le maxLen ∧
                                        ((-9223372036854775808 : Int) ≤ x_1.snd.snd.snd.snd.fst ∧ x_1.snd.snd.snd.snd.fst ≤ (9223372036854775807 : Int)) ∧
                                          ((-9223372036854775808 : Int) ≤ x_1.snd.snd.snd.snd.snd.fst ∧ x_1.snd.snd.snd.snd.snd.fst ≤ (9223372036854775807 : Int)) ∧
                                            (List.length x_1.snd.snd.snd.snd.snd.snd.fst).le maxLen ∧ True) ∧
                          True) ∧
  ((-9223372036854775808 : Int) ≤ left ∧ left ≤ (9223372036854775807 : Int)) ∧ True) → ((0 : Int) ≤ left ∧ left ≤ (1048576 : Int)) → VC_laws_szChangeS a left fun r => r = ((Sp.szLen (Sp.wChangeS a) left, ()))) : ConOK prog G n_laws_szChangeS con_laws_szChangeS :=
  conR_ok env mixed (fn := f39) (c := codeOf f39) (by kernel_rfl) (by kernel_rfl) H_laws_szChangeS (by kernel_rfl) fun ⟨a, left, ⟨⟩⟩ hin hp =>
    Eq.mpr ((by kernel_rfl : awp Θ Γ_laws_szChangeS H_laws_szChangeS (codeOf f39) (endsV Θ f39.results.toList rsh_laws_szChangeS fun r => r = (F_laws_szChangeS (a, left, ())).2) (entry f39.ntmps (psVals sh_laws_szChangeS (a, left, ()))) = VC_laws_szChangeS a left fun r => r = ((Sp.szLen (Sp.wChangeS a) left, ())))) (h a left hin hp)

def H_laws_szAction : Hints := Go.Fw.hints [] [] [] []
def VC_laws_szAction (a0 : Int) (a1 : Int) (a2 : List
  (Int × Int × Int × Bool × Int × List (List UInt8 × Int × Int × List UInt8 × Unit) × Int × List UInt8 × List (Int × Int × Int × List UInt8 × Int × Int × List UInt8 × Unit) × Unit)) (a3 : List UInt8) (a4 : Int) (left : Int) (K : Int × Unit → Prop) : Prop :=
  ((0 : Int) ≤ left ∧ left ≤ (1048576 : Int)) ∧
    bif decide (Sp.szLen (Sp.wChangeS a2) left < (0 : Int)) then K ((-1 : Int), ())
    else
      bif decide (IntKind.i64.wrap (Sp.szLen (Sp.wChangeS a2) left - (↑a3.length : Int)) < (0 : Int)) then K ((-1 : Int), ())
      else K (IntKind.i64.wrap (Sp.szLen (Sp.wChangeS a2) left - (↑a3.length : Int)), ())
theorem wk_laws_szAction (env : EnvB prog G Θ Γ_laws_szAction) (h : ∀ (a0 : Int) (a1 : Int) (a2 : List
  (Int × Int × Int × Bool × Int × List (List UInt8 × Int × Int × List UInt8 × Unit) × Int × List UInt8 × List (Int × Int × Int × List UInt8 × Int × Int × List UInt8 × Unit) × Unit)) (a3 : List UInt8) (a4 : Int) (left : Int), ((((-9223372036854775808 : Int) ≤ a0 ∧ a0 ≤ (9223372036854775807 : Int)) ∧
    ((-9223372036854775808 : Int) ≤ a1 ∧ a1 ≤ (9223372036854775807 : Int)) ∧
      (a2.length ≤ maxLen ∧
          ∀
            (x :
              Int ×
                Int ×
                  Int ×
                    Bool × Int × List (List UInt8 × Int × Int × List UInt8 × Unit) × Int × List UInt8 × List (Int × Int × Int × List UInt8 × Int × Int × List UInt8 × Unit) × Unit),
            x ∈ a2 →
              ((-9223372036854775808 : Int) ≤ x.fst ∧ x.fst ≤ (9223372036854775807 : Int)) ∧
                ((-9223372036854775808 : Int) ≤ x.snd.fst ∧ x.snd.fst ≤ (9223372036854775807 : Int)) ∧
                  ((-9223372036854775808 : Int) ≤ x.snd.snd.fst ∧ x.snd.snd.fst ≤ (9223372036854775807 : Int)) ∧
                    True ∧
                      ((-9223372036854775808 : Int) ≤ x.snd.snd.snd.snd.fst ∧ x.snd.snd.snd.snd.fst ≤ (9223372036854775807 : Int)) ∧
                        (List.length x.snd.snd.snd.snd.snd.fst ≤ maxLen ∧
                            ∀ (x_1 : List UInt8 × Int × Int × List UInt8 × Unit),
                              x_1 ∈ x.snd.snd.snd.snd.snd.fst →
                                (List.length x_1.fst).le maxLen ∧
                                  ((-9223372036854775808 : Int) ≤ x_1.snd.fst ∧ x_1.snd.fst ≤ (9223372036854775807 : Int)) ∧
                                    ((-9223372036854775808 : Int) ≤ x_1.snd.snd.fst ∧ x_1.snd.snd.fst ≤ (9223372036854775807 : Int)) ∧
                                      (List.length x_1.snd.snd.snd.fst).le maxLen ∧ True) ∧
                          ((-9223372036854775808 : Int) ≤ x.snd.snd.snd.snd.snd.snd.fst ∧ x.snd.snd.snd.snd.snd.snd.fst ≤ (9223372036854775807 : Int)) ∧
                            (List.length x.snd.snd.snd.snd.snd.snd.snd.fst).le maxLen ∧
                              (List.length x.snd.snd.snd.snd.snd.snd.snd.snd.fst ≤ maxLen ∧
                                  ∀ (x_1 : Int × Int × Int × List UInt8 × Int × Int × List UInt8 × Unit),
                                    x_1 ∈ x.snd.snd.snd.snd.snd.snd.snd.snd.fst →
                                      ((-9223372036854775808 : Int) ≤ x_1.fst ∧ x_1.fst ≤ (9223372036854775807 : Int)) ∧
                                        ((-9223372036854775808 : Int) ≤ x_1.snd.fst ∧ x_1.snd.fst ≤ (9223372036854775807 : Int)) ∧
                                          ((-9223372036854775808 : Int) ≤ x_1.snd.snd.fst ∧ x_1.snd.snd.fst ≤ (9223372036854775807 : Int)) ∧
                                            (List.length x_1.snd.snd.snd.fst).le maxLen ∧
                                              ((-9223372036854775808 : Int) ≤ x_1.snd.snd.snd.snd.fst ∧ x_1.snd.snd.snd.snd.fst ≤ (9223372036854775807 : Int)) ∧
                                                ((-9223372036854775808 : Int) ≤ x_1.snd.snd.snd.snd.snd.fst ∧ x_1.snd.snd.snd.snd.snd.fst ≤ (9223372036854775807 : Int)) ∧
                                                  (List.length x_1.snd.snd.snd.snd.snd.snd.fst).le maxLen ∧ True) ∧
                                True) ∧
        a3.length.le maxLen ∧ ((-9223372036854775808 : Int) ≤ a4 ∧ a4 ≤ (9223372036854775807 : Int)) ∧ True) ∧
  ((-9223372036854775808 : Int) ≤ left ∧ left ≤ (9223372036854775807 : Int)) ∧ True) → ((0 : Int) ≤ left ∧ left ≤ (1048576 : Int)) → VC_laws_szAction a0 a1 a2 a3 a4 left fun r => r = ((Sp.szLen (Sp.wAction (a0, a1, a2, a3, a4, ())) left, ()))) : ConOK prog G n_laws_szAction con_laws_szAction :=
  conR_ok env mixed (fn := f15) (c := codeOf f15) (by kernel_rfl) (by kernel_rfl) H_laws_szAction (by kernel_rfl) fun ⟨⟨a0, a1, a2, a3, a4, ⟨⟩⟩, left, ⟨⟩⟩ hin hp =>
    Eq.mpr ((by kernel_rfl : awp Θ Γ_laws_szAction H_laws_szAction (codeOf f15) (endsV Θ f15.results.toList rsh_laws_szAction fun r => r = (F_laws_szAction ((a0, a1, a2, a3, a4, ()), left, ())).2) (entry f15.ntmps (psVals sh_laws_szAction ((a0, a1, a2, a3, a4, ()), left, ()))) = VC_laws_szAction a0 a1 a2 a3 a4 left fun r => r = ((Sp.szLen (Sp.wAction (a0, a1, a2, a3, a4, ())) left, ())))) (h a0 a1 a2 a3 a4 left hin hp)

def H_laws_toValue : Hints := Go.Fw.hints [] [] [] []
def VC_laws_toValue (a0 : Int) (a1 : Int) (a2 : List UInt8) (K : (Int × Int × List UInt8 × Unit) × Unit → Prop) : Prop :=
  K ((a0, a1, a2, ()), ())
theorem wk_laws_toValue (env : EnvB prog G Θ Γ_laws_toValue) (h : ∀ (a0 : Int) (a1 : Int) (a2 : List UInt8), ((((-9223372036854775808 : Int) ≤ a0 ∧ a0 ≤ (9223372036854775807 : Int)) ∧ ((-9223372036854775808 : Int) ≤ a1 ∧ a1 ≤ (9223372036854775807 : Int)) ∧ a2.length.le maxLen ∧ True) ∧
  True) → (True) → VC_laws_toValue a0 a1 a2 fun r => r = (((a0, a1, a2, ()), ()))) : ConOK prog G n_laws_toValue con_laws_toValue :=
  conR_ok env mixed (fn := f132) (c := codeOf f132) (by kernel_rfl) (by kernel_rfl) H_laws_toValue (by kernel_rfl) fun ⟨⟨a0, a1, a2, ⟨⟩⟩, ⟨⟩⟩ hin hp =>
    Eq.mpr ((by kernel_rfl : awp Θ Γ_laws_toValue H_laws_toValue (codeOf f132) (endsV Θ f132.results.toList rsh_laws_toValue fun r => r = (F_laws_toValue ((a0, a1, a2, ()), ())).2) (entry f132.ntmps (psVals sh_laws_toValue ((a0, a1, a2, ()), ()))) = VC_laws_toValue a0 a1 a2 fun r => r = (((a0, a1, a2, ()), ())))) (h a0 a1 a2 hin hp)

def H_laws_toAttr : Hints := Go.Fw.hints [] [] [] []
def VC_laws_toAttr (a0 : List UInt8) (a1 : Int) (a2 : Int) (a3 : List UInt8) (K : (List UInt8 × Int × Int × List UInt8 × Unit) × Unit → Prop) : Prop :=
  True ∧ K ((a0, a1, a2, a3, ()), ())
theorem wk_laws_toAttr (env : EnvB prog G Θ Γ_laws_toAttr) (h : ∀ (a0 : List UInt8) (a1 : Int) (a2 : Int) (a3 : List UInt8), ((a0.length.le maxLen ∧
    ((-9223372036854775808 : Int) ≤ a1 ∧ a1 ≤ (9223372036854775807 : Int)) ∧ ((-9223372036854775808 : Int) ≤ a2 ∧ a2 ≤ (9223372036854775807 : Int)) ∧ a3.length.le maxLen ∧ True) ∧
  True) → (True) → VC_laws_toAttr a0 a1 a2 a3 fun r => r = (((a0, a1, a2, a3, ()), ()))) : ConOK prog G n_laws_toAttr con_laws_toAttr :=
  conR_ok env mixed (fn := f115) (c := codeOf f115) (by kernel_rfl) (by kernel_rfl) H_laws_toAttr (by kernel_rfl) fun ⟨⟨a0, a1, a2, a3, ⟨⟩⟩, ⟨⟩⟩ hin hp =>
    Eq.mpr ((by kernel_rfl : awp Θ Γ_laws_toAttr H_laws_toAttr (codeOf f115) (endsV Θ f115.results.toList rsh_laws_toAttr fun r => r = (F_laws_toAttr ((a0, a1, a2, a3, ()), ())).2) (entry f115.ntmps (psVals sh_laws_toAttr ((a0, a1, a2, a3, ()), ()))) = VC_laws_toAttr a0 a1 a2 a3 fun r => r = (((a0, a1, a2, a3, ()), ())))) (h a0 a1 a2 a3 hin hp)

def H_laws_toNode : Hints := Go.Fw.hints [] [] [] []
def VC_laws_toNode (a0 : Int) (a1 : Int) (a2 : Int) (a3 : List UInt8) (a4 : Int) (a5 : Int) (a6 : List UInt8) (K : (Int × Int × Int × List UInt8 × Int × Int × List UInt8 × Unit) × Unit → Prop) : Prop :=
  True ∧ K ((a0, a1, a2, a3, a4, a5, a6, ()), ())
theorem wk_laws_toNode (env : EnvB prog G Θ Γ_laws_toNode) (h : ∀ (a0 : Int) (a1 : Int) (a2 : Int) (a3 : List UInt8) (a4 : Int) (a5 : Int) (a6 : List UInt8), ((((-9223372036854775808 : Int) ≤ a0 ∧ a0 ≤ (9223372036854775807 : Int)) ∧
    ((-9223372036854775808 : Int) ≤ a1 ∧ a1 ≤ (9223372036854775807 : Int)) ∧
      ((-9223372036854775808 : Int) ≤ a2 ∧ a2 ≤ (9223372036854775807 : Int)) ∧
        a3.length.le maxLen ∧
          ((-9223372036854775808 : Int) ≤ a4 ∧ a4 ≤ (9223372036854775807 : Int)) ∧
            ((-9223372036854775808 : Int) ≤ a5 ∧ a5 ≤ (9223372036854775807 : Int)) ∧ a6.length.le maxLen ∧ True) ∧
  True) → (True) → VC_laws_toNode a0 a1 a2 a3 a4 a5 a6 fun r => r = (((a0, a1, a2, a3, a4, a5, a6, ()), ()))) : ConOK prog G n_laws_toNode con_laws_toNode :=
  conR_ok env mixed (fn := f116) (c := codeOf f116) (by kernel_rfl) (by kernel_rfl) H_laws_toNode (by kernel_rfl) fun ⟨⟨a0, a1, a2, a3, a4, a5, a6, ⟨⟩⟩, ⟨⟩⟩ hin hp =>
    Eq.mpr ((by kernel_rfl : awp Θ Γ_laws_toNode H_laws_toNode (codeOf f116) (endsV Θ f116.results.toList rsh_laws_toNode fun r => r = (F_laws_toNode ((a0, a1, a2, a3, a4, a5, a6, ()), ())).2) (entry f116.ntmps (psVals sh_laws_toNode ((a0, a1, a2, a3, a4, a5, a6, ()), ()))) = VC_laws_toNode a0 a1 a2 a3 a4 a5 a6 fun r => r = (((a0, a1, a2, a3, a4, a5, a6, ()), ())))) (h a0 a1 a2 a3 a4 a5 a6 hin hp)

def H_laws_toAttrS : Hints := Go.Fw.hints [7, 20] [(3, ⟨[], ⟨[(0, .one (.sl 165 (.cons .str (.cons (.int .i64) (.cons (.int .i64) (.cons .str .nil)))) false)), (3, .one (.ref 449))], []⟩, ⟨[(4, .one (.int .i64))], [(449, .arr 136 (.cons .str (.cons (.int .i64) (.cons (.int .i64) (.cons .str .nil)))) true)]⟩⟩)] [] []
def VC_laws_toAttrS (a : List (List UInt8 × Int × Int × List UInt8 × Unit)) (K : List (List UInt8 × Int × Int × List UInt8 × Unit) × Unit → Prop) : Prop :=
  ((0 : Int) ≤ (↑a.length : Int) ∧ (↑a.length : Int) ≤ (↑a.length : Int) ∧ (↑a.length : Int) ≤ (↑big : Int)) ∧
    let s0 := ((a, (), ()), ());
    ∃ (I : (Int × Unit) × List (List UInt8 × Int × Int × List UInt8 × Unit) × Unit → Prop),
      ∃ (μ : (Int × Unit) × List (List UInt8 × Int × Int × List UInt8 × Unit) × Unit → Nat),
        I (((0 : Int), ()), List.replicate (↑a.length : Int).toNat ([], (0 : Int), (0 : Int), [], ()), ()) ∧
          ∀ (y1 : (Int × Unit) × List (List UInt8 × Int × Int × List UInt8 × Unit) × Unit),
            I y1 →
              bif decide (y1.fst.fst < (↑a.length : Int)) then
                ((0 : Int) ≤ y1.fst.fst ∧ y1.fst.fst < (↑a.length : Int)) ∧
                  True ∧
                    let r2 := (a.getD (Int.toNat y1.fst.fst) ([], (0 : Int), (0 : Int), [], ())).fst;
                    let r3 := (a.getD (Int.toNat y1.fst.fst) ([], (0 : Int), (0 : Int), [], ())).snd.fst;
                    let r4 := (a.getD (Int.toNat y1.fst.fst) ([], (0 : Int), (0 : Int), [], ())).snd.snd.fst;
                    let r5 := (a.getD (Int.toNat y1.fst.fst) ([], (0 : Int), (0 : Int), [], ())).snd.snd.snd.fst;
                    ((0 : Int) ≤ y1.fst.fst ∧ y1.fst.fst < (↑(List.length y1.snd.fst) : Int)) ∧
                      Int.toNat y1.fst.fst < List.length y1.snd.fst ∧
                        s0 = s0 ∧
                          I ((IntKind.i64.wrap (y1.fst.fst + (1 : Int)), ()), List.set y1.snd.fst (Int.toNat y1.fst.fst) (r2, r3, r4, r5, ()), ()) ∧
                            μ ((IntKind.i64.wrap (y1.fst.fst + (1 : Int)), ()), List.set y1.snd.fst (Int.toNat y1.fst.fst) (r2, r3, r4, r5, ()), ()) < μ y1
              else K (y1.snd.fst, ())
theorem wk_laws_toAttrS (env : EnvB prog G Θ Γ_laws_toAttrS) (h : ∀ (a : List (List UInt8 × Int × Int × List UInt8 × Unit)), ((a.length ≤ maxLen ∧
    ∀ (x : List UInt8 × Int × Int × List UInt8 × Unit),
      x ∈ a →
        (List.length x.fst).le maxLen ∧
          ((-9223372036854775808 : Int) ≤ x.snd.fst ∧ x.snd.fst ≤ (9223372036854775807 : Int)) ∧
            ((-9223372036854775808 : Int) ≤ x.snd.snd.fst ∧ x.snd.snd.fst ≤ (9223372036854775807 : Int)) ∧ (List.length x.snd.snd.snd.fst).le maxLen ∧ True) ∧
  True) → (Sp.wAttrS a ≤ big) → VC_laws_toAttrS a fun r => r = ((a, ()))) : ConOK prog G n_laws_toAttrS con_laws_toAttrS :=
  conR_ok env mixed (fn := f100) (c := codeOf f100) (by kernel_rfl) (by kernel_rfl) H_laws_toAttrS (by kernel_rfl) fun ⟨a, ⟨⟩⟩ hin hp =>
    Eq.mpr ((by kernel_rfl : awp Θ Γ_laws_toAttrS H_laws_toAttrS (codeOf f100) (endsV Θ f100.results.toList rsh_laws_toAttrS fun r => r = (F_laws_toAttrS (a, ())).2) (entry f100.ntmps (psVals sh_laws_toAttrS (a, ()))) = VC_laws_toAttrS a fun r => r = ((a, ())))) (h a hin hp)

def H_laws_toNodeS : Hints := Go.Fw.hints [7, 20] [(3, ⟨[], ⟨[(0, .one (.sl 168 (.cons (.int .i64) (.cons (.int .i64) (.cons (.int .i64) (.cons .str (.cons (.int .i64) (.cons (.int .i64) (.cons .str .nil))))))) false)), (3, .one (.ref 449))], []⟩, ⟨[(4, .one (.int .i64))], [(449, .arr 138 (.cons (.int .i64) (.cons (.int .i64) (.cons (.int .i64) (.cons .str (.cons (.int .i64) (.cons (.int .i64) (.cons .str .nil))))))) true)]⟩⟩)] [] []
def VC_laws_toNodeS (a : List (Int × Int × Int × List UInt8 × Int × Int × List UInt8 × Unit)) (K : List (Int × Int × Int × List UInt8 × Int × Int × List UInt8 × Unit) × Unit → Prop) : Prop :=
  ((0 : Int) ≤ (↑a.length : Int) ∧ (↑a.length : Int) ≤ (↑a.length : Int) ∧ (↑a.length : Int) ≤ (↑big : Int)) ∧
    let s0 := ((a, (), ()), ());
    ∃ (I : (Int × Unit) × List (Int × Int × Int × List UInt8 × Int × Int × List UInt8 × Unit) × Unit → Prop),
      ∃ (μ : (Int × Unit) × List (Int × Int × Int × List UInt8 × Int × Int × List UInt8 × Unit) × Unit → Nat),
        I (((0 : Int), ()), List.replicate (↑a.length : Int).toNat ((0 : Int), (0 : Int), (0 : Int), [], (0 : Int), (0 : Int), [], ()), ()) ∧
          ∀ (y1 : (Int × Unit) × List (Int × Int × Int × List UInt8 × Int × Int × List UInt8 × Unit) × Unit),
            I y1 →
              bif decide (y1.fst.fst < (↑a.length : Int)) then
                ((0 : Int) ≤ y1.fst.fst ∧ y1.fst.fst < (↑a.length : Int)) ∧
                  True ∧
                    let r2 := (a.getD (Int.toNat y1.fst.fst) ((0 : Int), (0 : Int), (0 : Int), [], (0 : Int), (0 : Int), [], ())).fst;
                    let r3 := (a.getD (Int.toNat y1.fst.fst) ((0 : Int), (0 : Int), (0 : Int), [], (0 : Int), (0 : Int), [], ())).snd.fst;
                    let r4 := (a.getD (Int.toNat y1.fst.fst) ((0 : Int), (0 : Int), (0 : Int), [], (0 : Int), (0 : Int), [], ())).snd.snd.fst;
                    let r5 := (a.getD (Int.toNat y1.fst.fst) ((0 : Int), (0 : Int), (0 : Int), [], (0 : Int), (0 : Int), [], ())).snd.snd.snd.fst;
                    let r6 := (a.getD (Int.toNat y1.fst.fst) ((0 : Int), (0 : Int), (0 : Int), [], (0 : Int), (0 : Int), [], ())).snd.snd.snd.snd.fst;
                    let r7 := (a.getD (Int.toNat y1.fst.fst) ((0 : Int), (0 : Int), (0 : Int), [], (0 : Int), (0 : Int), [], ())).snd.snd.snd.snd.snd.fst;
                    let r8 := (a.getD (Int.toNat y1.fst.fst) ((0 : Int), (0 : Int), (0 : Int), [], (0 : Int), (0 : Int), [], ())).snd.snd.snd.snd.snd.snd.fst;
                    ((0 : Int) ≤ y1.fst.fst ∧ y1.fst.fst < (↑(List.length y1.snd.fst) : Int)) ∧
                      Int.toNat y1.fst.fst < List.length y1.snd.fst ∧
                        s0 = s0 ∧
                          I ((IntKind.i64.wrap (y1.fst.fst + (1 : Int)), ()), List.set y1.snd.fst (Int.toNat y1.fst.fst) (r2, r3, r4, r5, r6, r7, r8, ()), ()) ∧
                            μ ((IntKind.i64.wrap (y1.fst.fst + (1 : Int)), ()), List.set y1.snd.fst (Int.toNat y1.fst.fst) (r2, r3, r4, r5, r6, r7, r8, ()), ()) < μ y1
              else K (y1.snd.fst, ())
theorem wk_laws_toNodeS (env : EnvB prog G Θ Γ_laws_toNodeS) (h : ∀ (a : List (Int × Int × Int × List UInt8 × Int × Int × List UInt8 × Unit)), ((a.length ≤ maxLen ∧
    ∀ (x : Int × Int × Int × List UInt8 × Int × Int × List UInt8 × Unit),
      x ∈ a →
        ((-9223372036854775808 : Int) ≤ x.fst ∧ x.fst ≤ (9223372036854775807 : Int)) ∧
          ((-9223372036854775808 : Int) ≤ x.snd.fst ∧ x.snd.fst ≤ (9223372036854775807 : Int)) ∧
            ((-9223372036854775808 : Int) ≤ x.snd.snd.fst ∧ x.snd.snd.fst ≤ (9223372036854775807 : Int)) ∧
              (List.length x.snd.snd.snd.fst).le maxLen ∧
                ((-9223372036854775808 : Int) ≤ x.snd.snd.snd.snd.fst ∧ x.snd.snd.snd.snd.fst ≤ (9223372036854775807 : Int)) ∧
                  ((-9223372036854775808 : Int) ≤ x.snd.snd.snd.snd.snd.fst ∧ x.snd.snd.snd.snd.snd.fst ≤ (9223372036854775807 : Int)) ∧
                    (List.length x.snd.snd.snd.snd.snd.snd.fst).le maxLen ∧ True) ∧
  True) → (Sp.wNodeS a ≤ big) → VC_laws_toNodeS a fun r => r = ((a, ()))) : ConOK prog G n_laws_toNodeS con_laws_toNodeS :=
  conR_ok env mixed (fn := f101) (c := codeOf f101) (by kernel_rfl) (by kernel_rfl) H_laws_toNodeS (by kernel_rfl) fun ⟨a, ⟨⟩⟩ hin hp =>
    Eq.mpr ((by kernel_rfl : awp Θ Γ_laws_toNodeS H_laws_toNodeS (codeOf f101) (endsV Θ f101.results.toList rsh_laws_toNodeS fun r => r = (F_laws_toNodeS (a, ())).2) (entry f101.ntmps (psVals sh_laws_toNodeS (a, ()))) = VC_laws_toNodeS a fun r => r = ((a, ())))) (h a hin hp)

def H_laws_toFile : Hints := Go.Fw.hints [] [] [] []
def VC_laws_toFile (a0 : Int) (a1 : Int) (a2 : Bool) (a3 : Int) (a4 : List (List UInt8 × Int × Int × List UInt8 × Unit)) (K : (Int × Int × Bool × Int × List (List UInt8 × Int × Int × List UInt8 × Unit) × Unit) × Unit → Prop) : Prop :=
  Sp.wAttrS a4 ≤ big ∧ K ((a0, a1, a2, a3, a4, ()), ())
theorem wk_laws_toFile (env : EnvB prog G Θ Γ_laws_toFile) (h : ∀ (a0 : Int) (a1 : Int) (a2 : Bool) (a3 : Int) (a4 : List (List UInt8 × Int × Int × List UInt8 × Unit)), ((((-9223372036854775808 : Int) ≤ a0 ∧ a0 ≤ (9223372036854775807 : Int)) ∧
    ((-9223372036854775808 : Int) ≤ a1 ∧ a1 ≤ (9223372036854775807 : Int)) ∧
      True ∧
        ((-9223372036854775808 : Int) ≤ a3 ∧ a3 ≤ (9223372036854775807 : Int)) ∧
          (a4.length ≤ maxLen ∧
              ∀ (x : List UInt8 × Int × Int × List UInt8 × Unit),
                x ∈ a4 →
                  (List.length x.fst).le maxLen ∧
                    ((-9223372036854775808 : Int) ≤ x.snd.fst ∧ x.snd.fst ≤ (9223372036854775807 : Int)) ∧
                      ((-9223372036854775808 : Int) ≤ x.snd.snd.fst ∧ x.snd.snd.fst ≤ (9223372036854775807 : Int)) ∧ (List.length x.snd.snd.snd.fst).le maxLen ∧ True) ∧
            True) ∧
  True) → (Sp.wAttrS a4 ≤ big) → VC_laws_toFile a0 a1 a2 a3 a4 fun r => r = (((a0, a1, a2, a3, a4, ()), ()))) : ConOK prog G n_laws_toFile con_laws_toFile :=
  conR_ok env mixed (fn := f87) (c := codeOf f87) (by kernel_rfl) (by kernel_rfl) H_laws_toFile (by kernel_rfl) fun ⟨⟨a0, a1, a2, a3, a4, ⟨⟩⟩, ⟨⟩⟩ hin hp =>
    Eq.mpr ((by kernel_rfl : awp Θ Γ_laws_toFile H_laws_toFile (codeOf f87) (endsV Θ f87.results.toList rsh_laws_toFile fun r => r = (F_laws_toFile ((a0, a1, a2, a3, a4, ()), ())).2) (entry f87.ntmps (psVals sh_laws_toFile ((a0, a1, a2, a3, a4, ()), ()))) = VC_laws_toFile a0 a1 a2 a3 a4 fun r => r = (((a0, a1, a2, a3, a4, ()), ())))) (h a0 a1 a2 a3 a4 hin hp)

def H_laws_toDir : Hints := Go.Fw.hints [] [] [] []
def VC_laws_toDir (a0 : List UInt8) (a1 : List (Int × Int × Int × List UInt8 × Int × Int × List UInt8 × Unit)) (K : (List UInt8 × List (Int × Int × Int × List UInt8 × Int × Int × List UInt8 × Unit) × Unit) × Unit → Prop) : Prop :=
  Sp.wNodeS a1 ≤ big ∧ K ((a0, a1, ()), ())
theorem wk_laws_toDir (env : EnvB prog G Θ Γ_laws_toDir) (h : ∀ (a0 : List UInt8) (a1 : List (Int × Int × Int × List UInt8 × Int × Int × List UInt8 × Unit)), ((a0.length.le maxLen ∧
    (a1.length ≤ maxLen ∧
        ∀ (x : Int × Int × Int × List UInt8 × Int × Int × List UInt8 × Unit),
          x ∈ a1 →
            ((-9223372036854775808 : Int) ≤ x.fst ∧ x.fst ≤ (9223372036854775807 : Int)) ∧
              ((-9223372036854775808 : Int) ≤ x.snd.fst ∧ x.snd.fst ≤ (9223372036854775807 : Int)) ∧
                ((-9223372036854775808 : Int) ≤ x.snd.snd.fst ∧ x.snd.snd.fst ≤ (9223372036854775807 : Int)) ∧
                  (List.length x.snd.snd.snd.fst).le maxLen ∧
                    ((-9223372036854775808 : Int) ≤ x.snd.snd.snd.snd.fst ∧ x.snd.snd.snd.snd.fst ≤ (9223372036854775807 : Int)) ∧
                      ((-9223372036854775808 : Int) ≤ x.snd.snd.snd.snd.snd.fst ∧ x.snd.snd.snd.snd.snd.fst ≤ (9223372036854775807 : Int)) ∧
                        (List.length x.snd.snd.snd.snd.snd.snd.fst).le maxLen ∧ True) ∧
      True) ∧
  True) → (Sp.wNodeS a1 ≤ big) → VC_laws_toDir a0 a1 fun r => r = (((a0, a1, ()), ()))) : ConOK prog G n_laws_toDir con_laws_toDir :=
  conR_ok env mixed (fn := f88) (c := codeOf f88) (by kernel_rfl) (by kernel_rfl) H_laws_toDir (by kernel_rfl) fun ⟨⟨a0, a1, ⟨⟩⟩, ⟨⟩⟩ hin hp =>
    Eq.mpr ((by kernel_rfl : awp Θ Γ_laws_toDir H_laws_toDir (codeOf f88) (endsV Θ f88.results.toList rsh_laws_toDir fun r => r = (F_laws_toDir ((a0, a1, ()), ())).2) (entry f88.ntmps (psVals sh_laws_toDir ((a0, a1, ()), ()))) = VC_laws_toDir a0 a1 fun r => r = (((a0, a1, ()), ())))) (h a0 a1 hin hp)

def H_laws_toChange : Hints := Go.Fw.hints [] [] [] []
def VC_laws_toChange (a0 : Int) (a1 : Int) (a2 : Int) (a3 : Bool) (a4 : Int) (a5 : List (List UInt8 × Int × Int × List UInt8 × Unit)) (a6 : Int) (a7 : List UInt8) (a8 : List (Int × Int × Int × List UInt8 × Int × Int × List UInt8 × Unit)) (K : (Int × Int × Int × Bool × Int × List (List UInt8 × Int × Int × List UInt8 × Unit) × Int × List UInt8 × List (Int × Int × Int × List UInt8 × Int × Int × List UInt8 × Unit) × Unit) ×
  Unit → Prop) : Prop :=
  Sp.wAttrS a5 ≤ big ∧ Sp.wNodeS a8 ≤ big ∧ K ((a0, a1, a2, a3, a4, a5, a6, a7, a8, ()), ())
theorem wk_laws_toChange (env : EnvB prog G Θ Γ_laws_toChange) (h : ∀ (a0 : Int) (a1 : Int) (a2 : Int) (a3 : Bool) (a4 : Int) (a5 : List (List UInt8 × Int × Int × List UInt8 × Unit)) (a6 : Int) (a7 : List UInt8) (a8 : List (Int × Int × Int × List UInt8 × Int × Int × List UInt8 × Unit)), ((((-9223372036854775808 : Int) ≤ a0 ∧ a0 ≤ (9223372036854775807 : Int)) ∧
    ((-9223372036854775808 : Int) ≤ a1 ∧ a1 ≤ (9223372036854775807 : Int)) ∧
      ((-9223372036854775808 : Int) ≤ a2 ∧ a2 ≤ (9223372036854775807 : Int)) ∧
        True ∧
          ((-9223372036854775808 : Int) ≤ a4 ∧ a4 ≤ (9223372036854775807 : Int)) ∧
            (a5.length ≤ maxLen ∧
                ∀ (x : List UInt8 × Int × Int × List UInt8 × Unit),
                  x ∈ a5 →
                    (List.length x.fst).le maxLen ∧
                      ((-9223372036854775808 : Int) ≤ x.snd.fst ∧ x.snd.fst ≤ (9223372036854775807 : Int)) ∧
                        ((-9223372036854775808 : Int) ≤ x.snd.snd.fst ∧ x.snd.snd.fst ≤ (9223372036854775807 : Int)) ∧ (List.length x.snd.snd.snd.fst).le maxLen ∧ True) ∧
              ((-9223372036854775808 : Int) ≤ a6 ∧ a6 ≤ (9223372036854775807 : Int)) ∧
                a7.length.le maxLen ∧
                  (a8.length ≤ maxLen ∧
                      ∀ (x : Int × Int × Int × List UInt8 × Int × Int × List UInt8 × Unit),
                        x ∈ a8 →
                          ((-9223372036854775808 : Int) ≤ x.fst ∧ x.fst ≤ (9223372036854775807 : Int)) ∧
                            ((-9223372036854775808 : Int) ≤ x.snd.fst ∧ x.snd.fst ≤ (9223372036854775807 : Int)) ∧
                              ((-9223372036854775808 : Int) ≤ x.snd.snd.fst ∧ x.snd.snd.fst ≤ (9223372036854775807 : Int)) ∧
                                (List.length x.snd.snd.snd.fst).le maxLen ∧
                                  ((-9223372036854775808 : Int) ≤ x.snd.snd.snd.snd.fst ∧ x.snd.snd.snd.snd.fst ≤ (9223372036854775807 : Int)) ∧
                                    ((-9223372036854775808 : Int) ≤ x.snd.snd.snd.snd.snd.fst ∧ x.snd.snd.snd.snd.snd.fst ≤ (9223372036854775807 : Int)) ∧
                                      (List.length x.snd.snd.snd.snd.snd.snd.fst).le maxLen ∧ True) ∧
                    True) ∧
  True) → (Sp.wChange (a0, a1, a2, a3, a4, a5, a6, a7, a8, ()) ≤ big) → VC_laws_toChange a0 a1 a2 a3 a4 a5 a6 a7 a8 fun r => r = (((a0, a1, a2, a3, a4, a5, a6, a7, a8, ()), ()))) : ConOK prog G n_laws_toChange con_laws_toChange :=
  conR_ok env mixed (fn := f68) (c := codeOf f68) (by kernel_rfl) (by kernel_rfl) H_laws_toChange (by kernel_rfl) fun ⟨⟨a0, a1, a2, a3, a4, a5, a6, a7, a8, ⟨⟩⟩, ⟨⟩⟩ hin hp =>
    Eq.mpr ((by kernel_rfl : awp Θ Γ_laws_toChange H_laws_toChange (codeOf f68) (endsV Θ f68.results.toList rsh_laws_toChange fun r => r = (F_laws_toChange ((a0, a1, a2, a3, a4, a5, a6, a7, a8, ()), ())).2) (entry f68.ntmps (psVals sh_laws_toChange ((a0, a1, a2, a3, a4, a5, a6, a7, a8, ()), ()))) = VC_laws_toChange a0 a1 a2 a3 a4 a5 a6 a7 a8 fun r => r = (((a0, a1, a2, a3, a4, a5, a6, a7, a8, ()), ())))) (h a0 a1 a2 a3 a4 a5 a6 a7 a8 hin hp)

def H_laws_toChangeS : Hints := Go.Fw.hints [7, 20] [(3, ⟨[], ⟨[(0, .one (.sl 95 (.cons (.int .i64) (.cons (.int .i64) (.cons (.int .i64) (.cons .bool (.cons (.int .i64) (.cons (.sl 165 (.cons .str (.cons (.int .i64) (.cons (.int .i64) (.cons .str .nil))))) (.cons (.int .i64) (.cons .str (.cons (.sl 168 (.cons (.int .i64) (.cons (.int .i64) (.cons (.int .i64) (.cons .str (.cons (.int .i64) (.cons (.int .i64) (.cons .str .nil)))))))) .nil))))))))) false)), (3, .one (.ref 449))], []⟩, ⟨[(4, .one (.int .i64))], [(449, .arr 104 (.cons (.int .i64) (.cons (.int .i64) (.cons (.int .i64) (.cons .bool (.cons (.int .i64) (.cons (.sl 136 (.cons .str (.cons (.int .i64) (.cons (.int .i64) (.cons .str .nil))))) (.cons (.int .i64) (.cons .str (.cons (.sl 138 (.cons (.int .i64) (.cons (.int .i64) (.cons (.int .i64) (.cons .str (.cons (.int .i64) (.cons (.int .i64) (.cons .str .nil)))))))) .nil))))))))) true)]⟩⟩)] [] []
def VC_laws_toChangeS (a : List
  (Int × Int × Int × Bool × Int × List (List UInt8 × Int × Int × List UInt8 × Unit) × Int × List UInt8 × List (Int × Int × Int × List UInt8 × Int × Int × List UInt8 × Unit) × Unit)) (K : List
    (Int ×
      Int × Int × Bool × Int × List (List UInt8 × Int × Int × List UInt8 × Unit) × Int × List UInt8 × List (Int × Int × Int × List UInt8 × Int × Int × List UInt8 × Unit) × Unit) ×
  Unit → Prop) : Prop :=
  ((0 : Int) ≤ (↑a.length : Int) ∧ (↑a.length : Int) ≤ (↑a.length : Int) ∧ (↑a.length : Int) ≤ (↑big : Int)) ∧
    let s0 := ((a, (), ()), ());
    ∃ (I :
      (Int × Unit) ×
          List
              (Int ×
                Int ×
                  Int ×
                    Bool × Int × List (List UInt8 × Int × Int × List UInt8 × Unit) × Int × List UInt8 × List (Int × Int × Int × List UInt8 × Int × Int × List UInt8 × Unit) × Unit) ×
            Unit →
        Prop),
      ∃ (μ :
        (Int × Unit) ×
            List
                (Int ×
                  Int ×
                    Int ×
                      Bool ×
                        Int × List (List UInt8 × Int × Int × List UInt8 × Unit) × Int × List UInt8 × List (Int × Int × Int × List UInt8 × Int × Int × List UInt8 × Unit) × Unit) ×
              Unit →
          Nat),
        I (((0 : Int), ()), List.replicate (↑a.length : Int).toNat ((0 : Int), (0 : Int), (0 : Int), false, (0 : Int), [], (0 : Int), [], [], ()), ()) ∧
          ∀
            (y1 :
              (Int × Unit) ×
                List
                    (Int ×
                      Int ×
                        Int ×
                          Bool ×
                            Int × List (List UInt8 × Int × Int × List UInt8 × Unit) × Int × List UInt8 × List (Int × Int × Int × List UInt8 × Int × Int × List UInt8 × Unit) × Unit) ×
                  Unit),
            I y1 →
              bif decide (y1.fst.fst < (↑a.length : Int)) then
                ((0 : Int) ≤ y1.fst.fst ∧ y1.fst.fst < (↑a.length : Int)) ∧
                  Sp.wChange
                        ((a.getD (Int.toNat y1.fst.fst) ((0 : Int), (0 : Int), (0 : Int), false, (0 : Int), [], (0 : Int), [], [], ())).fst,
                          (a.getD (Int.toNat y1.fst.fst) ((0 : Int), (0 : Int), (0 : Int), false, (0 : Int), [], (0 : Int), [], [], ())).snd.fst,
                          (a.getD (Int.toNat y1.fst.fst) ((0 : Int), (0 : Int), (0 : Int), false, (0 : Int), [], (0 : Int), [], [], ())).snd.snd.fst,
                          (a.getD (Int.toNat y1.fst.fst) ((0 : Int), (0 : Int), (0 : Int), false, (0 : Int), [], (0 : Int), [], [], ())).snd.snd.snd.fst,
                          (a.getD (Int.toNat y1.fst.fst) ((0 : Int), (0 : Int), (0 : Int), false, (0 : Int), [], (0 : Int), [], [], ())).snd.snd.snd.snd.fst,
                          (a.getD (Int.toNat y1.fst.fst) ((0 : Int), (0 : Int), (0 : Int), false, (0 : Int), [], (0 : Int), [], [], ())).snd.snd.snd.snd.snd.fst,
                          (a.getD (Int.toNat y1.fst.fst) ((0 : Int), (0 : Int), (0 : Int), false, (0 : Int), [], (0 : Int), [], [], ())).snd.snd.snd.snd.snd.snd.fst,
                          (a.getD (Int.toNat y1.fst.fst) ((0 : Int), (0 : Int), (0 : Int), false, (0 : Int), [], (0 : Int), [], [], ())).snd.snd.snd.snd.snd.snd.snd.fst,
                          (a.getD (Int.toNat y1.fst.fst) ((0 : Int), (0 : Int), (0 : Int), false, (0 : Int), [], (0 : Int), [], [], ())).snd.snd.snd.snd.snd.snd.snd.snd.fst, ()) ≤
                      big ∧
                    let r2 := (a.getD (Int.toNat y1.fst.fst) ((0 : Int), (0 : Int), (0 : Int), false, (0 : Int), [], (0 : Int), [], [], ())).fst;
                    let r3 := (a.getD (Int.toNat y1.fst.fst) ((0 : Int), (0 : Int), (0 : Int), false, (0 : Int), [], (0 : Int), [], [], ())).snd.fst;
                    let r4 := (a.getD (Int.toNat y1.fst.fst) ((0 : Int), (0 : Int), (0 : Int), false, (0 : Int), [], (0 : Int), [], [], ())).snd.snd.fst;
                    let r5 := (a.getD (Int.toNat y1.fst.fst) ((0 : Int), (0 : Int), (0 : Int), false, (0 : Int), [], (0 : Int), [], [], ())).snd.snd.snd.fst;
                    let r6 := (a.getD (Int.toNat y1.fst.fst) ((0 : Int), (0 : Int), (0 : Int), false, (0 : Int), [], (0 : Int), [], [], ())).snd.snd.snd.snd.fst;
                    let r7 := (a.getD (Int.toNat y1.fst.fst) ((0 : Int), (0 : Int), (0 : Int), false, (0 : Int), [], (0 : Int), [], [], ())).snd.snd.snd.snd.snd.fst;
                    let r8 := (a.getD (Int.toNat y1.fst.fst) ((0 : Int), (0 : Int), (0 : Int), false, (0 : Int), [], (0 : Int), [], [], ())).snd.snd.snd.snd.snd.snd.fst;
                    let r9 := (a.getD (Int.toNat y1.fst.fst) ((0 : Int), (0 : Int), (0 : Int), false, (0 : Int), [], (0 : Int), [], [], ())).snd.snd.snd.snd.snd.snd.snd.fst;
                    let r10 := (a.getD (Int.toNat y1.fst.fst) ((0 : Int), (0 : Int), (0 : Int), false, (0 : Int), [], (0 : Int), [], [], ())).snd.snd.snd.snd.snd.snd.snd.snd.fst;
                    ((0 : Int) ≤ y1.fst.fst ∧ y1.fst.fst < (↑(List.length y1.snd.fst) : Int)) ∧
                      Int.toNat y1.fst.fst < List.length y1.snd.fst ∧
                        s0 = s0 ∧
                          I ((IntKind.i64.wrap (y1.fst.fst + (1 : Int)), ()), List.set y1.snd.fst (Int.toNat y1.fst.fst) (r2, r3, r4, r5, r6, r7, r8, r9, r10, ()), ()) ∧
                            μ ((IntKind.i64.wrap (y1.fst.fst + (1 : Int)), ()), List.set y1.snd.fst (Int.toNat y1.fst.fst) (r2, r3, r4, r5, r6, r7, r8, r9, r10, ()), ()) < μ y1
              else K (y1.snd.fst, ())
theorem wk_laws_toChangeS (env : EnvB prog G Θ Γ_laws_toChangeS) (h : ∀ (a : List
  (Int × Int × Int × Bool × Int × List (List UInt8 × Int × Int × List UInt8 × Unit) × Int × List UInt8 × List (Int × Int × Int × List UInt8 × Int × Int × List UInt8 × Unit) × Unit)), ((a.length ≤ maxLen ∧
    ∀
      (x :
        Int ×
          Int ×
            Int × Bool × Int × List (List UInt8 × Int × Int × List UInt8 × Unit) × Int × List UInt8 × List (Int × Int × Int × List UInt8 × Int × Int × List UInt8 × Unit) × Unit),
      x ∈ a →
        ((-9223372036854775808 : Int) ≤ x.fst ∧ x.fst ≤ (9223372036854775807 : Int)) ∧
          ((-9223372036854775808 : Int) ≤ x.snd.fst ∧ x.snd.fst ≤ (9223372036854775807 : Int)) ∧
            ((-9223372036854775808 : Int) ≤ x.snd.snd.fst ∧ x.snd.snd.fst ≤ (9223372036854775807 : Int)) ∧
              True ∧
                ((-9223372036854775808 : Int) ≤ x.snd.snd.snd.snd.fst ∧ x.snd.snd.snd.snd.fst ≤ (9223372036854775807 : Int)) ∧
                  (List.length x.snd.snd.snd.snd.snd.fst ≤ maxLen ∧
                      ∀ (x_1 : List UInt8 × Int × Int × List UInt8 × Unit),
                        x_1 ∈ x.snd.snd.snd.snd.snd.fst →
                          (List.length x_1.fst).le maxLen ∧
                            ((-9223372036854775808 : Int) ≤ x_1.snd.fst ∧ x_1.snd.fst ≤ (9223372036854775807 : Int)) ∧
                              ((-9223372036854775808 : Int) ≤ x_1.snd.snd.fst ∧ x_1.snd.snd.fst ≤ (9223372036854775807 : Int)) ∧
                                (List.length x_1.snd.snd.snd.fst).le maxLen ∧ True) ∧
                    ((-9223372036854775808 : Int) ≤ x.snd.snd.snd.snd.snd.snd.fst ∧ x.snd.snd.snd.snd.snd.snd.fst ≤ (9223372036854775807 : Int)) ∧
                      (List.length x.snd.snd.snd.snd.snd.snd.snd.fst).le maxLen ∧
                        (List.length x.snd.snd.snd.snd.snd.snd.snd.snd.fst ≤ maxLen ∧
                            ∀ (x_1 : Int × Int × Int × List UInt8 × Int × Int × List UInt8 × Unit),
                              x_1 ∈ x.snd.snd.snd.snd.snd.snd.snd.snd.fst →
                                ((-9223372036854775808 : Int) ≤ x_1.fst ∧ x_1.fst ≤ (9223372036854775807 : Int)) ∧
                                  ((-9223372036854775808 : Int) ≤ x_1.snd.fst ∧ x_1.snd.fst ≤ (9223372036854775807 : Int)) ∧
                                    ((-9223372036854775808 : Int) ≤ x_1.snd.snd.fst ∧ x_1.snd.snd.fst ≤ (9223372036854775807 : Int)) ∧
                                      (List.length x_1.snd.snd.snd.fst).le maxLen ∧
                                        ((-9223372036854775808 : Int) ≤ x_1.snd.snd.snd.snd.fst ∧ x_1.snd.snd.snd.snd.fst ≤ (9223372036854775807 : Int)) ∧
                                          ((-9223372036854775808 : Int) ≤ x_1.snd.snd.snd.snd.snd.fst ∧ x_1.snd.snd.snd.snd.snd.fst ≤ (9223372036854775807 : Int)) ∧
                                            (List.length x_1.snd.snd.snd.snd.snd.snd.fst).le maxLen ∧ True) ∧
                          True) ∧
  True) → (Sp.wChangeS a ≤ big) → VC_laws_toChangeS a fun r => r = ((a, ()))) : ConOK prog G n_laws_toChangeS con_laws_toChangeS :=
  conR_ok env mixed (fn := f43) (c := codeOf f43) (by kernel_rfl) (by kernel_rfl) H_laws_toChangeS (by kernel_rfl) fun ⟨a, ⟨⟩⟩ hin hp =>
    Eq.mpr ((by kernel_rfl : awp Θ Γ_laws_toChangeS H_laws_toChangeS (codeOf f43) (endsV Θ f43.results.toList rsh_laws_toChangeS fun r => r = (F_laws_toChangeS (a, ())).2) (entry f43.ntmps (psVals sh_laws_toChangeS (a, ()))) = VC_laws_toChangeS a fun r => r = ((a, ())))) (h a hin hp)

def H_laws_toAction : Hints := Go.Fw.hints [] [] [] []
def VC_laws_toAction (a0 : Int) (a1 : Int) (a2 : List
  (Int × Int × Int × Bool × Int × List (List UInt8 × Int × Int × List UInt8 × Unit) × Int × List UInt8 × List (Int × Int × Int × List UInt8 × Int × Int × List UInt8 × Unit) × Unit)) (a3 : List UInt8) (a4 : Int) (K : (Int ×
    Int ×
      List
          (Int ×
            Int ×
              Int ×
                Bool × Int × List (List UInt8 × Int × Int × List UInt8 × Unit) × Int × List UInt8 × List (Int × Int × Int × List UInt8 × Int × Int × List UInt8 × Unit) × Unit) ×
        List UInt8 × Int × Unit) ×
  Unit → Prop) : Prop :=
  Sp.wChangeS a2 ≤ big ∧ K ((a0, a1, a2, a3, a4, ()), ())
theorem wk_laws_toAction (env : EnvB prog G Θ Γ_laws_toAction) (h : ∀ (a0 : Int) (a1 : Int) (a2 : List
  (Int × Int × Int × Bool × Int × List (List UInt8 × Int × Int × List UInt8 × Unit) × Int × List UInt8 × List (Int × Int × Int × List UInt8 × Int × Int × List UInt8 × Unit) × Unit)) (a3 : List UInt8) (a4 : Int), ((((-9223372036854775808 : Int) ≤ a0 ∧ a0 ≤ (9223372036854775807 : Int)) ∧
    ((-9223372036854775808 : Int) ≤ a1 ∧ a1 ≤ (9223372036854775807 : Int)) ∧
      (a2.length ≤ maxLen ∧
          ∀
            (x :
              Int ×
                Int ×
                  Int ×
                    Bool × Int × List (List UInt8 × Int × Int × List UInt8 × Unit) × Int × List UInt8 × List (Int × Int × Int × List UInt8 × Int × Int × List UInt8 × Unit) × Unit),
            x ∈ a2 →
              ((-9223372036854775808 : Int) ≤ x.fst ∧ x.fst ≤ (9223372036854775807 : Int)) ∧
                ((-9223372036854775808 : Int) ≤ x.snd.fst ∧ x.snd.fst ≤ (9223372036854775807 : Int)) ∧
                  ((-9223372036854775808 : Int) ≤ x.snd.snd.fst ∧ x.snd.snd.fst ≤ (9223372036854775807 : Int)) ∧
                    True ∧
                      ((-9223372036854775808 : Int) ≤ x.snd.snd.snd.snd.fst ∧ x.snd.snd.snd.snd.fst ≤ (9223372036854775807 : Int)) ∧
                        (List.length x.snd.snd.snd.snd.snd.fst ≤ maxLen ∧
                            ∀ (x_1 : List UInt8 × Int × Int × List UInt8 × Unit),
                              x_1 ∈ x.snd.snd.snd.snd.snd.fst →
                                (List.length x_1.fst).le maxLen ∧
                                  ((-9223372036854775808 : Int) ≤ x_1.snd.fst ∧ x_1.snd.fst ≤ (9223372036854775807 : Int)) ∧
                                    ((-9223372036854775808 : Int) ≤ x_1.snd.snd.fst ∧ x_1.snd.snd.fst ≤ (9223372036854775807 : Int)) ∧
                                      (List.length x_1.snd.snd.snd.fst).le maxLen ∧ True) ∧
                          ((-9223372036854775808 : Int) ≤ x.snd.snd.snd.snd.snd.snd.fst ∧ x.snd.snd.snd.snd.snd.snd.fst ≤ (9223372036854775807 : Int)) ∧
                            (List.length x.snd.snd.snd.snd.snd.snd.snd.fst).le maxLen ∧
                              (List.length x.snd.snd.snd.snd.snd.snd.snd.snd.fst ≤ maxLen ∧
                                  ∀ (x_1 : Int × Int × Int × List UInt8 × Int × Int × List UInt8 × Unit),
                                    x_1 ∈ x.snd.snd.snd.snd.snd.snd.snd.snd.fst →
                                      ((-9223372036854775808 : Int) ≤ x_1.fst ∧ x_1.fst ≤ (9223372036854775807 : Int)) ∧
                                        ((-9223372036854775808 : Int) ≤ x_1.snd.fst ∧ x_1.snd.fst ≤ (9223372036854775807 : Int)) ∧
                                          ((-9223372036854775808 : Int) ≤ x_1.snd.snd.fst ∧ x_1.snd.snd.fst ≤ (9223372036854775807 : Int)) ∧
                                            (List.length x_1.snd.snd.snd.fst).le maxLen ∧
                                              ((-9223372036854775808 : Int) ≤ x_1.snd.snd.snd.snd.fst ∧ x_1.snd.snd.snd.snd.fst ≤ (9223372036854775807 : Int)) ∧
                                                ((-9223372036854775808 : Int) ≤ x_1.snd.snd.snd.snd.snd.fst ∧ x_1.snd.snd.snd.snd.snd.fst ≤ (9223372036854775807 : Int)) ∧
                                                  (List.length x_1.snd.snd.snd.snd.snd.snd.fst).le maxLen ∧ True) ∧
                                True) ∧
        a3.length.le maxLen ∧ ((-9223372036854775808 : Int) ≤ a4 ∧ a4 ≤ (9223372036854775807 : Int)) ∧ True) ∧
  True) → (Sp.wAction (a0, a1, a2, a3, a4, ()) ≤ big) → VC_laws_toAction a0 a1 a2 a3 a4 fun r => r = (((a0, a1, a2, a3, a4, ()), ()))) : ConOK prog G n_laws_toAction con_laws_toAction :=
  conR_ok env mixed (fn := f17) (c := codeOf f17) (by kernel_rfl) (by kernel_rfl) H_laws_toAction (by kernel_rfl) fun ⟨⟨a0, a1, a2, a3, a4, ⟨⟩⟩, ⟨⟩⟩ hin hp =>
    Eq.mpr ((by kernel_rfl : awp Θ Γ_laws_toAction H_laws_toAction (codeOf f17) (endsV Θ f17.results.toList rsh_laws_toAction fun r => r = (F_laws_toAction ((a0, a1, a2, a3, a4, ()), ())).2) (entry f17.ntmps (psVals sh_laws_toAction ((a0, a1, a2, a3, a4, ()), ()))) = VC_laws_toAction a0 a1 a2 a3 a4 fun r => r = (((a0, a1, a2, a3, a4, ()), ())))) (h a0 a1 a2 a3 a4 hin hp)

def H_laws_eqValue : Hints := Go.Fw.hints [] [] [] []
def VC_laws_eqValue (a0 : Int) (a1 : Int) (a2 : List UInt8) (b0 : Int) (b1 : Int) (b2 : List UInt8) (K : Bool × Unit → Prop) : Prop :=
  bif a0 != b0 then K (false, ()) else bif a1 != b1 then K (false, ()) else bif !a2 == b2 then K (false, ()) else K (true, ())
theorem wk_laws_eqValue (env : EnvB prog G Θ Γ_laws_eqValue) (h : ∀ (a0 : Int) (a1 : Int) (a2 : List UInt8) (b0 : Int) (b1 : Int) (b2 : List UInt8), ((((-9223372036854775808 : Int) ≤ a0 ∧ a0 ≤ (9223372036854775807 : Int)) ∧ ((-9223372036854775808 : Int) ≤ a1 ∧ a1 ≤ (9223372036854775807 : Int)) ∧ a2.length.le maxLen ∧ True) ∧
  (((-9223372036854775808 : Int) ≤ b0 ∧ b0 ≤ (9223372036854775807 : Int)) ∧ ((-9223372036854775808 : Int) ≤ b1 ∧ b1 ≤ (9223372036854775807 : Int)) ∧ b2.length.le maxLen ∧ True) ∧
    True) → (True) → VC_laws_eqValue a0 a1 a2 b0 b1 b2 fun r => r = ((Sp.eqValue (a0, a1, a2, ()) (b0, b1, b2, ()), ()))) : ConOK prog G n_laws_eqValue con_laws_eqValue :=
  conR_ok env mixed (fn := f133) (c := codeOf f133) (by kernel_rfl) (by kernel_rfl) H_laws_eqValue (by kernel_rfl) fun ⟨⟨a0, a1, a2, ⟨⟩⟩, ⟨b0, b1, b2, ⟨⟩⟩, ⟨⟩⟩ hin hp =>
    Eq.mpr ((by kernel_rfl : awp Θ Γ_laws_eqValue H_laws_eqValue (codeOf f133) (endsV Θ f133.results.toList rsh_laws_eqValue fun r => r = (F_laws_eqValue ((a0, a1, a2, ()), (b0, b1, b2, ()), ())).2) (entry f133.ntmps (psVals sh_laws_eqValue ((a0, a1, a2, ()), (b0, b1, b2, ()), ()))) = VC_laws_eqValue a0 a1 a2 b0 b1 b2 fun r => r = ((Sp.eqValue (a0, a1, a2, ()) (b0, b1, b2, ()), ())))) (h a0 a1 a2 b0 b1 b2 hin hp)

def H_laws_eqAttr : Hints := Go.Fw.hints [] [] [] []
def VC_laws_eqAttr (a0 : List UInt8) (a1 : Int) (a2 : Int) (a3 : List UInt8) (b0 : List UInt8) (b1 : Int) (b2 : Int) (b3 : List UInt8) (K : Bool × Unit → Prop) : Prop :=
  bif !a0 == b0 then K (false, ())
  else
    True ∧
      let r0 := Sp.eqValue (a1, a2, a3, ()) (b1, b2, b3, ());
      bif !r0 then K (false, ()) else K (true, ())
theorem wk_laws_eqAttr (env : EnvB prog G Θ Γ_laws_eqAttr) (h : ∀ (a0 : List UInt8) (a1 : Int) (a2 : Int) (a3 : List UInt8) (b0 : List UInt8) (b1 : Int) (b2 : Int) (b3 : List UInt8), ((a0.length.le maxLen ∧
    ((-9223372036854775808 : Int) ≤ a1 ∧ a1 ≤ (9223372036854775807 : Int)) ∧ ((-9223372036854775808 : Int) ≤ a2 ∧ a2 ≤ (9223372036854775807 : Int)) ∧ a3.length.le maxLen ∧ True) ∧
  (b0.length.le maxLen ∧
      ((-9223372036854775808 : Int) ≤ b1 ∧ b1 ≤ (9223372036854775807 : Int)) ∧
        ((-9223372036854775808 : Int) ≤ b2 ∧ b2 ≤ (9223372036854775807 : Int)) ∧ b3.length.le maxLen ∧ True) ∧
    True) → (True) → VC_laws_eqAttr a0 a1 a2 a3 b0 b1 b2 b3 fun r => r = ((Sp.eqAttr (a0, a1, a2, a3, ()) (b0, b1, b2, b3, ()), ()))) : ConOK prog G n_laws_eqAttr con_laws_eqAttr :=
  conR_ok env mixed (fn := f117) (c := codeOf f117) (by kernel_rfl) (by kernel_rfl) H_laws_eqAttr (by kernel_rfl) fun ⟨⟨a0, a1, a2, a3, ⟨⟩⟩, ⟨b0, b1, b2, b3, ⟨⟩⟩, ⟨⟩⟩ hin hp =>
    Eq.mpr ((by kernel_rfl : awp Θ Γ_laws_eqAttr H_laws_eqAttr (codeOf f117) (endsV Θ f117.results.toList rsh_laws_eqAttr fun r => r = (F_laws_eqAttr ((a0, a1, a2, a3, ()), (b0, b1, b2, b3, ()), ())).2) (entry f117.ntmps (psVals sh_laws_eqAttr ((a0, a1, a2, a3, ()), (b0, b1, b2, b3, ()), ()))) = VC_laws_eqAttr a0 a1 a2 a3 b0 b1 b2 b3 fun r => r = ((Sp.eqAttr (a0, a1, a2, a3, ()) (b0, b1, b2, b3, ()), ())))) (h a0 a1 a2 a3 b0 b1 b2 b3 hin hp)

def H_laws_eqNode : Hints := Go.Fw.hints [] [] [] []
def VC_laws_eqNode (a0 : Int) (a1 : Int) (a2 : Int) (a3 : List UInt8) (a4 : Int) (a5 : Int) (a6 : List UInt8) (b0 : Int) (b1 : Int) (b2 : Int) (b3 : List UInt8) (b4 : Int) (b5 : Int) (b6 : List UInt8) (K : Bool × Unit → Prop) : Prop :=
  bif a0 != b0 then K (false, ())
  else
    bif a1 != b1 then K (false, ())
    else
      bif a2 != b2 then K (false, ())
      else
        bif !a3 == b3 then K (false, ())
        else
          True ∧
            let r0 := Sp.eqValue (a4, a5, a6, ()) (b4, b5, b6, ());
            bif !r0 then K (false, ()) else K (true, ())
theorem wk_laws_eqNode (env : EnvB prog G Θ Γ_laws_eqNode) (h : ∀ (a0 : Int) (a1 : Int) (a2 : Int) (a3 : List UInt8) (a4 : Int) (a5 : Int) (a6 : List UInt8) (b0 : Int) (b1 : Int) (b2 : Int) (b3 : List UInt8) (b4 : Int) (b5 : Int) (b6 : List UInt8), ((((-9223372036854775808 : Int) ≤ a0 ∧ a0 ≤ (9223372036854775807 : Int)) ∧
    ((-9223372036854775808 : Int) ≤ a1 ∧ a1 ≤ (9223372036854775807 : Int)) ∧
      ((-9223372036854775808 : Int) ≤ a2 ∧ a2 ≤ (9223372036854775807 : Int)) ∧
        a3.length.le maxLen ∧
          ((-9223372036854775808 : Int) ≤ a4 ∧ a4 ≤ (9223372036854775807 : Int)) ∧
            ((-9223372036854775808 : Int) ≤ a5 ∧ a5 ≤ (9223372036854775807 : Int)) ∧ a6.length.le maxLen ∧ True) ∧
  (((-9223372036854775808 : Int) ≤ b0 ∧ b0 ≤ (9223372036854775807 : Int)) ∧
      ((-9223372036854775808 : Int) ≤ b1 ∧ b1 ≤ (9223372036854775807 : Int)) ∧
        ((-9223372036854775808 : Int) ≤ b2 ∧ b2 ≤ (9223372036854775807 : Int)) ∧
          b3.length.le maxLen ∧
            ((-9223372036854775808 : Int) ≤ b4 ∧ b4 ≤ (9223372036854775807 : Int)) ∧
              ((-9223372036854775808 : Int) ≤ b5 ∧ b5 ≤ (9223372036854775807 : Int)) ∧ b6.length.le maxLen ∧ True) ∧
    True) → (True) → VC_laws_eqNode a0 a1 a2 a3 a4 a5 a6 b0 b1 b2 b3 b4 b5 b6 fun r => r = ((Sp.eqNode (a0, a1, a2, a3, a4, a5, a6, ()) (b0, b1, b2, b3, b4, b5, b6, ()), ()))) : ConOK prog G n_laws_eqNode con_laws_eqNode :=
  conR_ok env mixed (fn := f118) (c := codeOf f118) (by kernel_rfl) (by kernel_rfl) H_laws_eqNode (by kernel_rfl) fun ⟨⟨a0, a1, a2, a3, a4, a5, a6, ⟨⟩⟩, ⟨b0, b1, b2, b3, b4, b5, b6, ⟨⟩⟩, ⟨⟩⟩ hin hp =>
    Eq.mpr ((by kernel_rfl : awp Θ Γ_laws_eqNode H_laws_eqNode (codeOf f118) (endsV Θ f118.results.toList rsh_laws_eqNode fun r => r = (F_laws_eqNode ((a0, a1, a2, a3, a4, a5, a6, ()), (b0, b1, b2, b3, b4, b5, b6, ()), ())).2) (entry f118.ntmps (psVals sh_laws_eqNode ((a0, a1, a2, a3, a4, a5, a6, ()), (b0, b1, b2, b3, b4, b5, b6, ()), ()))) = VC_laws_eqNode a0 a1 a2 a3 a4 a5 a6 b0 b1 b2 b3 b4 b5 b6 fun r => r = ((Sp.eqNode (a0, a1, a2, a3, a4, a5, a6, ()) (b0, b1, b2, b3, b4, b5, b6, ()), ())))) (h a0 a1 a2 a3 a4 a5 a6 b0 b1 b2 b3 b4 b5 b6 hin hp)

def H_laws_eqAttrS : Hints := Go.Fw.hints [] [(4, ⟨[], ⟨[(0, .one (.sl 136 (.cons .str (.cons (.int .i64) (.cons (.int .i64) (.cons .str .nil)))) false)), (1, .one (.sl 136 (.cons .str (.cons (.int .i64) (.cons (.int .i64) (.cons .str .nil)))) false))], []⟩, ⟨[(5, .one (.int .i64))], []⟩⟩)] [] []
def VC_laws_eqAttrS (a : List (List UInt8 × Int × Int × List UInt8 × Unit)) (b : List (List UInt8 × Int × Int × List UInt8 × Unit)) (K : Bool × Unit → Prop) : Prop :=
  bif (↑a.length : Int) != (↑b.length : Int) then K (false, ())
  else
    let s0 := ((a, b, ()), ());
    ∃ (I : (Int × Unit) × Unit → Prop),
      ∃ (μ : (Int × Unit) × Unit → Nat),
        I (((0 : Int), ()), ()) ∧
          ∀ (y1 : (Int × Unit) × Unit),
            I y1 →
              bif decide (y1.fst.fst < (↑a.length : Int)) then
                ((0 : Int) ≤ y1.fst.fst ∧ y1.fst.fst < (↑a.length : Int)) ∧
                  ((0 : Int) ≤ y1.fst.fst ∧ y1.fst.fst < (↑b.length : Int)) ∧
                    True ∧
                      let r2 :=
                        Sp.eqAttr
                          ((a.getD (Int.toNat y1.fst.fst) ([], (0 : Int), (0 : Int), [], ())).fst, (a.getD (Int.toNat y1.fst.fst) ([], (0 : Int), (0 : Int), [], ())).snd.fst,
                            (a.getD (Int.toNat y1.fst.fst) ([], (0 : Int), (0 : Int), [], ())).snd.snd.fst,
                            (a.getD (Int.toNat y1.fst.fst) ([], (0 : Int), (0 : Int), [], ())).snd.snd.snd.fst, ())
                          ((b.getD (Int.toNat y1.fst.fst) ([], (0 : Int), (0 : Int), [], ())).fst, (b.getD (Int.toNat y1.fst.fst) ([], (0 : Int), (0 : Int), [], ())).snd.fst,
                            (b.getD (Int.toNat y1.fst.fst) ([], (0 : Int), (0 : Int), [], ())).snd.snd.fst,
                            (b.getD (Int.toNat y1.fst.fst) ([], (0 : Int), (0 : Int), [], ())).snd.snd.snd.fst, ());
                      bif !r2 then K (false, ())
                      else s0 = s0 ∧ I ((IntKind.i64.wrap (y1.fst.fst + (1 : Int)), ()), ()) ∧ μ ((IntKind.i64.wrap (y1.fst.fst + (1 : Int)), ()), ()) < μ y1
              else K (true, ())
theorem wk_laws_eqAttrS (env : EnvB prog G Θ Γ_laws_eqAttrS) (h : ∀ (a : List (List UInt8 × Int × Int × List UInt8 × Unit)) (b : List (List UInt8 × Int × Int × List UInt8 × Unit)), ((a.length ≤ maxLen ∧
    ∀ (x : List UInt8 × Int × Int × List UInt8 × Unit),
      x ∈ a →
        (List.length x.fst).le maxLen ∧
          ((-9223372036854775808 : Int) ≤ x.snd.fst ∧ x.snd.fst ≤ (9223372036854775807 : Int)) ∧
            ((-9223372036854775808 : Int) ≤ x.snd.snd.fst ∧ x.snd.snd.fst ≤ (9223372036854775807 : Int)) ∧ (List.length x.snd.snd.snd.fst).le maxLen ∧ True) ∧
  (b.length ≤ maxLen ∧
      ∀ (x : List UInt8 × Int × Int × List UInt8 × Unit),
        x ∈ b →
          (List.length x.fst).le maxLen ∧
            ((-9223372036854775808 : Int) ≤ x.snd.fst ∧ x.snd.fst ≤ (9223372036854775807 : Int)) ∧
              ((-9223372036854775808 : Int) ≤ x.snd.snd.fst ∧ x.snd.snd.fst ≤ (9223372036854775807 : Int)) ∧ (List.length x.snd.snd.snd.fst).le maxLen ∧ True) ∧
    True) → (True) → VC_laws_eqAttrS a b fun r => r = ((Sp.eqAttrS a b, ()))) : ConOK prog G n_laws_eqAttrS con_laws_eqAttrS :=
  conR_ok env mixed (fn := f104) (c := codeOf f104) (by kernel_rfl) (by kernel_rfl) H_laws_eqAttrS (by kernel_rfl) fun ⟨a, b, ⟨⟩⟩ hin hp =>
    Eq.mpr ((by kernel_rfl : awp Θ Γ_laws_eqAttrS H_laws_eqAttrS (codeOf f104) (endsV Θ f104.results.toList rsh_laws_eqAttrS fun r => r = (F_laws_eqAttrS (a, b, ())).2) (entry f104.ntmps (psVals sh_laws_eqAttrS (a, b, ()))) = VC_laws_eqAttrS a b fun r => r = ((Sp.eqAttrS a b, ())))) (h a b hin hp)

def H_laws_eqNodeS : Hints := Go.Fw.hints [] [(4, ⟨[], ⟨[(0, .one (.sl 138 (.cons (.int .i64) (.cons (.int .i64) (.cons (.int .i64) (.cons .str (.cons (.int .i64) (.cons (.int .i64) (.cons .str .nil))))))) false)), (1, .one (.sl 138 (.cons (.int .i64) (.cons (.int .i64) (.cons (.int .i64) (.cons .str (.cons (.int .i64) (.cons (.int .i64) (.cons .str .nil))))))) false))], []⟩, ⟨[(5, .one (.int .i64))], []⟩⟩)] [] []
def VC_laws_eqNodeS (a : List (Int × Int × Int × List UInt8 × Int × Int × List UInt8 × Unit)) (b : List (Int × Int × Int × List UInt8 × Int × Int × List UInt8 × Unit)) (K : Bool × Unit → Prop) : Prop :=
  bif (↑a.length : Int) != (↑b.length : Int) then K (false, ())
  else
    let s0 := ((a, b, ()), ());
    ∃ (I : (Int × Unit) × Unit → Prop),
      ∃ (μ : (Int × Unit) × Unit → Nat),
        I (((0 : Int), ()), ()) ∧
          ∀ (y1 : (Int × Unit) × Unit),
            I y1 →
              bif decide (y1.fst.fst < (↑a.length : Int)) then
                ((0 : Int) ≤ y1.fst.fst ∧ y1.fst.fst < (↑a.length : Int)) ∧
                  ((0 : Int) ≤ y1.fst.fst ∧ y1.fst.fst < (↑b.length : Int)) ∧
                    True ∧
                      let r2 :=
                        Sp.eqNode
                          ((a.getD (Int.toNat y1.fst.fst) ((0 : Int), (0 : Int), (0 : Int), [], (0 : Int), (0 : Int), [], ())).fst,
                            (a.getD (Int.toNat y1.fst.fst) ((0 : Int), (0 : Int), (0 : Int), [], (0 : Int), (0 : Int), [], ())).snd.fst,
                            (a.getD (Int.toNat y1.fst.fst) ((0 : Int), (0 : Int), (0 : Int), [], (0 : Int), (0 : Int), [], ())).snd.snd.fst,
                            (a.getD (Int.toNat y1.fst.fst) ((0 : Int), (0 : Int), (0 : Int), [], (0 : Int), (0 : Int), [], ())).snd.snd.snd.fst,
                            (a.getD (Int.toNat y1.fst.fst) ((0 : Int), (0 : Int), (0 : Int), [], (0 : Int), (0 : Int), [], ())).snd.snd.snd.snd.fst,
                            (a.getD (Int.toNat y1.fst.fst) ((0 : Int), (0 : Int), (0 : Int), [], (0 : Int), (0 : Int), [], ())).snd.snd.snd.snd.snd.fst,
                            (a.getD (Int.toNat y1.fst.fst) ((0 : Int), (0 : Int), (0 : Int), [], (0 : Int), (0 : Int), [], ())).snd.snd.snd.snd.snd.snd.fst, ())
                          ((b.getD (Int.toNat y1.fst.fst) ((0 : Int), (0 : Int), (0 : Int), [], (0 : Int), (0 : Int), [], ())).fst,
                            (b.getD (Int.toNat y1.fst.fst) ((0 : Int), (0 : Int), (0 : Int), [], (0 : Int), (0 : Int), [], ())).snd.fst,
                            (b.getD (Int.toNat y1.fst.fst) ((0 : Int), (0 : Int), (0 : Int), [], (0 : Int), (0 : Int), [], ())).snd.snd.fst,
                            (b.getD (Int.toNat y1.fst.fst) ((0 : Int), (0 : Int), (0 : Int), [], (0 : Int), (0 : Int), [], ())).snd.snd.snd.fst,
                            (b.getD (Int.toNat y1.fst.fst) ((0 : Int), (0 : Int), (0 : Int), [], (0 : Int), (0 : Int), [], ())).snd.snd.snd.snd.fst,
                            (b.getD (Int.toNat y1.fst.fst) ((0 : Int), (0 : Int), (0 : Int), [], (0 : Int), (0 : Int), [], ())).snd.snd.snd.snd.snd.fst,
                            (b.getD (Int.toNat y1.fst.fst) ((0 : Int), (0 : Int), (0 : Int), [], (0 : Int), (0 : Int), [], ())).snd.snd.snd.snd.snd.snd.fst, ());
                      bif !r2 then K (false, ())
                      else s0 = s0 ∧ I ((IntKind.i64.wrap (y1.fst.fst + (1 : Int)), ()), ()) ∧ μ ((IntKind.i64.wrap (y1.fst.fst + (1 : Int)), ()), ()) < μ y1
              else K (true, ())
theorem wk_laws_eqNodeS (env : EnvB prog G Θ Γ_laws_eqNodeS) (h : ∀ (a : List (Int × Int × Int × List UInt8 × Int × Int × List UInt8 × Unit)) (b : List (Int × Int × Int × List UInt8 × Int × Int × List UInt8 × Unit)), ((a.length ≤ maxLen ∧
    ∀ (x : Int × Int × Int × List UInt8 × Int × Int × List UInt8 × Unit),
      x ∈ a →
        ((-9223372036854775808 : Int) ≤ x.fst ∧ x.fst ≤ (9223372036854775807 : Int)) ∧
          ((-9223372036854775808 : Int) ≤ x.snd.fst ∧ x.snd.fst ≤ (9223372036854775807 : Int)) ∧
            ((-9223372036854775808 : Int) ≤ x.snd.snd.fst ∧ x.snd.snd.fst ≤ (9223372036854775807 : Int)) ∧
              (List.length x.snd.snd.snd.fst).le maxLen ∧
                ((-9223372036854775808 : Int) ≤ x.snd.snd.snd.snd.fst ∧ x.snd.snd.snd.snd.fst ≤ (9223372036854775807 : Int)) ∧
                  ((-9223372036854775808 : Int) ≤ x.snd.snd.snd.snd.snd.fst ∧ x.snd.snd.snd.snd.snd.fst ≤ (9223372036854775807 : Int)) ∧
                    (List.length x.snd.snd.snd.snd.snd.snd.fst).le maxLen ∧ True) ∧
  (b.length ≤ maxLen ∧
      ∀ (x : Int × Int × Int × List UInt8 × Int × Int × List UInt8 × Unit),
        x ∈ b →
          ((-9223372036854775808 : Int) ≤ x.fst ∧ x.fst ≤ (9223372036854775807 : Int)) ∧
            ((-9223372036854775808 : Int) ≤ x.snd.fst ∧ x.snd.fst ≤ (9223372036854775807 : Int)) ∧
              ((-9223372036854775808 : Int) ≤ x.snd.snd.fst ∧ x.snd.snd.fst ≤ (9223372036854775807 : Int)) ∧
                (List.length x.snd.snd.snd.fst).le maxLen ∧
                  ((-9223372036854775808 : Int) ≤ x.snd.snd.snd.snd.fst ∧ x.snd.snd.snd.snd.fst ≤ (9223372036854775807 : Int)) ∧
                    ((-9223372036854775808 : Int) ≤ x.snd.snd.snd.snd.snd.fst ∧ x.snd.snd.snd.snd.snd.fst ≤ (9223372036854775807 : Int)) ∧
                      (List.length x.snd.snd.snd.snd.snd.snd.fst).le maxLen ∧ True) ∧
    True) → (True) → VC_laws_eqNodeS a b fun r => r = ((Sp.eqNodeS a b, ()))) : ConOK prog G n_laws_eqNodeS con_laws_eqNodeS :=
  conR_ok env mixed (fn := f105) (c := codeOf f105) (by kernel_rfl) (by kernel_rfl) H_laws_eqNodeS (by kernel_rfl) fun ⟨a, b, ⟨⟩⟩ hin hp =>
    Eq.mpr ((by kernel_rfl : awp Θ Γ_laws_eqNodeS H_laws_eqNodeS (codeOf f105) (endsV Θ f105.results.toList rsh_laws_eqNodeS fun r => r = (F_laws_eqNodeS (a, b, ())).2) (entry f105.ntmps (psVals sh_laws_eqNodeS (a, b, ()))) = VC_laws_eqNodeS a b fun r => r = ((Sp.eqNodeS a b, ())))) (h a b hin hp)

def H_laws_eqFile : Hints := Go.Fw.hints [] [] [] []
def VC_laws_eqFile (a0 : Int) (a1 : Int) (a2 : Bool) (a3 : Int) (a4 : List (List UInt8 × Int × Int × List UInt8 × Unit)) (b0 : Int) (b1 : Int) (b2 : Bool) (b3 : Int) (b4 : List (List UInt8 × Int × Int × List UInt8 × Unit)) (K : Bool × Unit → Prop) : Prop :=
  bif a0 != b0 then K (false, ())
  else
    bif a1 != b1 then K (false, ()) else bif !a2 == b2 then K (false, ()) else bif a3 != b3 then K (false, ()) else True ∧ bif !Sp.eqAttrS a4 b4 then K (false, ()) else K (true, ())
theorem wk_laws_eqFile (env : EnvB prog G Θ Γ_laws_eqFile) (h : ∀ (a0 : Int) (a1 : Int) (a2 : Bool) (a3 : Int) (a4 : List (List UInt8 × Int × Int × List UInt8 × Unit)) (b0 : Int) (b1 : Int) (b2 : Bool) (b3 : Int) (b4 : List (List UInt8 × Int × Int × List UInt8 × Unit)), ((((-9223372036854775808 : Int) ≤ a0 ∧ a0 ≤ (9223372036854775807 : Int)) ∧
    ((-9223372036854775808 : Int) ≤ a1 ∧ a1 ≤ (9223372036854775807 : Int)) ∧
      True ∧
        ((-9223372036854775808 : Int) ≤ a3 ∧ a3 ≤ (9223372036854775807 : Int)) ∧
          (a4.length ≤ maxLen ∧
              ∀ (x : List UInt8 × Int × Int × List UInt8 × Unit),
                x ∈ a4 →
                  (List.length x.fst).le maxLen ∧
                    ((-9223372036854775808 : Int) ≤ x.snd.fst ∧ x.snd.fst ≤ (9223372036854775807 : Int)) ∧
                      ((-9223372036854775808 : Int) ≤ x.snd.snd.fst ∧ x.snd.snd.fst ≤ (9223372036854775807 : Int)) ∧ (List.length x.snd.snd.snd.fst).le maxLen ∧ True) ∧
            True) ∧
  (((-9223372036854775808 : Int) ≤ b0 ∧ b0 ≤ (9223372036854775807 : Int)) ∧
      ((-9223372036854775808 : Int) ≤ b1 ∧ b1 ≤ (9223372036854775807 : Int)) ∧
        True ∧
          ((-9223372036854775808 : Int) ≤ b3 ∧ b3 ≤ (9223372036854775807 : Int)) ∧
            (b4.length ≤ maxLen ∧
                ∀ (x : List UInt8 × Int × Int × List UInt8 × Unit),
                  x ∈ b4 →
                    (List.length x.fst).le maxLen ∧
                      ((-9223372036854775808 : Int) ≤ x.snd.fst ∧ x.snd.fst ≤ (9223372036854775807 : Int)) ∧
                        ((-9223372036854775808 : Int) ≤ x.snd.snd.fst ∧ x.snd.snd.fst ≤ (9223372036854775807 : Int)) ∧ (List.length x.snd.snd.snd.fst).le maxLen ∧ True) ∧
              True) ∧
    True) → (True) → VC_laws_eqFile a0 a1 a2 a3 a4 b0 b1 b2 b3 b4 fun r => r = ((Sp.eqFile (a0, a1, a2, a3, a4, ()) (b0, b1, b2, b3, b4, ()), ()))) : ConOK prog G n_laws_eqFile con_laws_eqFile :=
  conR_ok env mixed (fn := f92) (c := codeOf f92) (by kernel_rfl) (by kernel_rfl) H_laws_eqFile (by kernel_rfl) fun ⟨⟨a0, a1, a2, a3, a4, ⟨⟩⟩, ⟨b0, b1, b2, b3, b4, ⟨⟩⟩, ⟨⟩⟩ hin hp =>
    Eq.mpr ((by kernel_rfl : awp Θ Γ_laws_eqFile H_laws_eqFile (codeOf f92) (endsV Θ f92.results.toList rsh_laws_eqFile fun r => r = (F_laws_eqFile ((a0, a1, a2, a3, a4, ()), (b0, b1, b2, b3, b4, ()), ())).2) (entry f92.ntmps (psVals sh_laws_eqFile ((a0, a1, a2, a3, a4, ()), (b0, b1, b2, b3, b4, ()), ()))) = VC_laws_eqFile a0 a1 a2 a3 a4 b0 b1 b2 b3 b4 fun r => r = ((Sp.eqFile (a0, a1, a2, a3, a4, ()) (b0, b1, b2, b3, b4, ()), ())))) (h a0 a1 a2 a3 a4 b0 b1 b2 b3 b4 hin hp)

def H_laws_eqDir : Hints := Go.Fw.hints [] [] [] []
def VC_laws_eqDir (a0 : List UInt8) (a1 : List (Int × Int × Int × List UInt8 × Int × Int × List UInt8 × Unit)) (b0 : List UInt8) (b1 : List (Int × Int × Int × List UInt8 × Int × Int × List UInt8 × Unit)) (K : Bool × Unit → Prop) : Prop :=
  bif !a0 == b0 then K (false, ()) else True ∧ bif !Sp.eqNodeS a1 b1 then K (false, ()) else K (true, ())
theorem wk_laws_eqDir (env : EnvB prog G Θ Γ_laws_eqDir) (h : ∀ (a0 : List UInt8) (a1 : List (Int × Int × Int × List UInt8 × Int × Int × List UInt8 × Unit)) (b0 : List UInt8) (b1 : List (Int × Int × Int × List UInt8 × Int × Int × List UInt8 × Unit)), ((a0.length.le maxLen ∧
    (a1.length ≤ maxLen ∧
        ∀ (x : Int × Int × Int × List UInt8 × Int × Int × List UInt8 × Unit),
          x ∈ a1 →
            ((-9223372036854775808 : Int) ≤ x.fst ∧ x.fst ≤ (9223372036854775807 : Int)) ∧
              ((-9223372036854775808 : Int) ≤ x.snd.fst ∧ x.snd.fst ≤ (9223372036854775807 : Int)) ∧
                ((-9223372036854775808 : Int) ≤ x.snd.snd.fst ∧ x.snd.snd.fst ≤ (9223372036854775807 : Int)) ∧
                  (List.length x.snd.snd.snd.fst).le maxLen ∧
                    ((-9223372036854775808 : Int) ≤ x.snd.snd.snd.snd.fst ∧ x.snd.snd.snd.snd.fst ≤ (9223372036854775807 : Int)) ∧
                      ((-9223372036854775808 : Int) ≤ x.snd.snd.snd.snd.snd.fst ∧ x.snd.snd.snd.snd.snd.fst ≤ (9223372036854775807 : Int)) ∧
                        (List.length x.snd.snd.snd.snd.snd.snd.fst).le maxLen ∧ True) ∧
      True) ∧
  (b0.length.le maxLen ∧
      (b1.length ≤ maxLen ∧
          ∀ (x : Int × Int × Int × List UInt8 × Int × Int × List UInt8 × Unit),
            x ∈ b1 →
              ((-9223372036854775808 : Int) ≤ x.fst ∧ x.fst ≤ (9223372036854775807 : Int)) ∧
                ((-9223372036854775808 : Int) ≤ x.snd.fst ∧ x.snd.fst ≤ (9223372036854775807 : Int)) ∧
                  ((-9223372036854775808 : Int) ≤ x.snd.snd.fst ∧ x.snd.snd.fst ≤ (9223372036854775807 : Int)) ∧
                    (List.length x.snd.snd.snd.fst).le maxLen ∧
                      ((-9223372036854775808 : Int) ≤ x.snd.snd.snd.snd.fst ∧ x.snd.snd.snd.snd.fst ≤ (9223372036854775807 : Int)) ∧
                        ((-9223372036854775808 : Int) ≤ x.snd.snd.snd.snd.snd.fst ∧ x.snd.snd.snd.snd.snd.fst ≤ (9223372036854775807 : Int)) ∧
                          (List.length x.snd.snd.snd.snd.snd.snd.fst).le maxLen ∧ True) ∧
        True) ∧
    True) → (True) → VC_laws_eqDir a0 a1 b0 b1 fun r => r = ((Sp.eqDir (a0, a1, ()) (b0, b1, ()), ()))) : ConOK prog G n_laws_eqDir con_laws_eqDir :=
  conR_ok env mixed (fn := f93) (c := codeOf f93) (by kernel_rfl) (by kernel_rfl) H_laws_eqDir (by kernel_rfl) fun ⟨⟨a0, a1, ⟨⟩⟩, ⟨b0, b1, ⟨⟩⟩, ⟨⟩⟩ hin hp =>
    Eq.mpr ((by kernel_rfl : awp Θ Γ_laws_eqDir H_laws_eqDir (codeOf f93) (endsV Θ f93.results.toList rsh_laws_eqDir fun r => r = (F_laws_eqDir ((a0, a1, ()), (b0, b1, ()), ())).2) (entry f93.ntmps (psVals sh_laws_eqDir ((a0, a1, ()), (b0, b1, ()), ()))) = VC_laws_eqDir a0 a1 b0 b1 fun r => r = ((Sp.eqDir (a0, a1, ()) (b0, b1, ()), ())))) (h a0 a1 b0 b1 hin hp)

def H_laws_eqChange : Hints := Go.Fw.hints [] [] [] []
def VC_laws_eqChange (a0 : Int) (a1 : Int) (a2 : Int) (a3 : Bool) (a4 : Int) (a5 : List (List UInt8 × Int × Int × List UInt8 × Unit)) (a6 : Int) (a7 : List UInt8) (a8 : List (Int × Int × Int × List UInt8 × Int × Int × List UInt8 × Unit)) (b0 : Int) (b1 : Int) (b2 : Int) (b3 : Bool) (b4 : Int) (b5 : List (List UInt8 × Int × Int × List UInt8 × Unit)) (b6 : Int) (b7 : List UInt8) (b8 : List (Int × Int × Int × List UInt8 × Int × Int × List UInt8 × Unit)) (K : Bool × Unit → Prop) : Prop :=
  bif a0 != b0 then K (false, ())
  else
    True ∧
      let r0 := Sp.eqFile (a1, a2, a3, a4, a5, ()) (b1, b2, b3, b4, b5, ());
      bif !r0 then K (false, ())
      else
        bif a6 != b6 then K (false, ())
        else
          True ∧
            let r1 := Sp.eqDir (a7, a8, ()) (b7, b8, ());
            bif !r1 then K (false, ()) else K (true, ())
theorem wk_laws_eqChange (env : EnvB prog G Θ Γ_laws_eqChange) (h : ∀ (a0 : Int) (a1 : Int) (a2 : Int) (a3 : Bool) (a4 : Int) (a5 : List (List UInt8 × Int × Int × List UInt8 × Unit)) (a6 : Int) (a7 : List UInt8) (a8 : List (Int × Int × Int × List UInt8 × Int × Int × List UInt8 × Unit)) (b0 : Int) (b1 : Int) (b2 : Int) (b3 : Bool) (b4 : Int) (b5 : List (List UInt8 × Int × Int × List UInt8 × Unit)) (b6 : Int) (b7 : List UInt8) (b8 : List (Int × Int × Int × List UInt8 × Int × Int × List UInt8 × Unit)), ((((-9223372036854775808 : Int) ≤ a0 ∧ a0 ≤ (9223372036854775807 : Int)) ∧
    ((-9223372036854775808 : Int) ≤ a1 ∧ a1 ≤ (9223372036854775807 : Int)) ∧
      ((-9223372036854775808 : Int) ≤ a2 ∧ a2 ≤ (9223372036854775807 : Int)) ∧
        True ∧
          ((-9223372036854775808 : Int) ≤ a4 ∧ a4 ≤ (9223372036854775807 : Int)) ∧
            (a5.length ≤ maxLen ∧
                ∀ (x : List UInt8 × Int × Int × List UInt8 × Unit),
                  x ∈ a5 →
                    (List.length x.fst).le maxLen ∧
                      ((-9223372036854775808 : Int) ≤ x.snd.fst ∧ x.snd.fst ≤ (9223372036854775807 : Int)) ∧
                        ((-9223372036854775808 : Int) ≤ x.snd.snd.fst ∧ x.snd.snd.fst ≤ (9223372036854775807 : Int)) ∧ (List.length x.snd.snd.snd.fst).le maxLen ∧ True) ∧
              ((-9223372036854775808 : Int) ≤ a6 ∧ a6 ≤ (9223372036854775807 : Int)) ∧
                a7.length.le maxLen ∧
                  (a8.length ≤ maxLen ∧
                      ∀ (x : Int × Int × Int × List UInt8 × Int × Int × List UInt8 × Unit),
                        x ∈ a8 →
                          ((-9223372036854775808 : Int) ≤ x.fst ∧ x.fst ≤ (9223372036854775807 : Int)) ∧
                            ((-9223372036854775808 : Int) ≤ x.snd.fst ∧ x.snd.fst ≤ (9223372036854775807 : Int)) ∧
                              ((-9223372036854775808 : Int) ≤ x.snd.snd.fst ∧ x.snd.snd.fst ≤ (9223372036854775807 : Int)) ∧
                                (List.length x.snd.snd.snd.fst).le maxLen ∧
                                  ((-9223372036854775808 : Int) ≤ x.snd.snd.snd.snd.fst ∧ x.snd.snd.snd.snd.fst ≤ (9223372036854775807 : Int)) ∧
                                    ((-9223372036854775808 : Int) ≤ x.snd.snd.snd.snd.snd.fst ∧ x.snd.snd.snd.snd.snd.fst ≤ (9223372036854775807 : Int)) ∧
                                      (List.length x.snd.snd.snd.snd.snd.snd.fst).le maxLen ∧ True) ∧
                    True) ∧
  (((-9223372036854775808 : Int) ≤ b0 ∧ b0 ≤ (9223372036854775807 : Int)) ∧
      ((-9223372036854775808 : Int) ≤ b1 ∧ b1 ≤ (9223372036854775807 : Int)) ∧
        ((-9223372036854775808 : Int) ≤ b2 ∧ b2 ≤ (9223372036854775807 : Int)) ∧
          True ∧
            ((-9223372036854775808 : Int) ≤ b4 ∧ b4 ≤ (9223372036854775807 : Int)) ∧
              (b5.length ≤ maxLen ∧
                  ∀ (x : List UInt8 × Int × Int × List UInt8 × Unit),
                    x ∈ b5 →
                      (List.length x.fst).le maxLen ∧
                        ((-9223372036854775808 : Int) ≤ x.snd.fst ∧ x.snd.fst ≤ (9223372036854775807 : Int)) ∧
                          ((-9223372036854775808 : Int) ≤ x.snd.snd.fst ∧ x.snd.snd.fst ≤ (9223372036854775807 : Int)) ∧ (List.length x.snd.snd.snd.fst).le maxLen ∧ True) ∧
                ((-9223372036854775808 : Int) ≤ b6 ∧ b6 ≤ (9223372036854775807 : Int)) ∧
                  b7.length.le maxLen ∧
                    (b8.length ≤ maxLen ∧
                        ∀ (x : Int × Int × Int × List UInt8 × Int × Int × List UInt8 × Unit),
                          x ∈ b8 →
                            ((-9223372036854775808 : Int) ≤ x.fst ∧ x.fst ≤ (9223372036854775807 : Int)) ∧
                              ((-9223372036854775808 : Int) ≤ x.snd.fst ∧ x.snd.fst ≤ (9223372036854775807 : Int)) ∧
                                ((-9223372036854775808 : Int) ≤ x.snd.snd.fst ∧ x.snd.snd.fst ≤ (9223372036854775807 : Int)) ∧
                                  (List.length x.snd.snd.snd.fst).le maxLen ∧
                                    ((-9223372036854775808 : Int) ≤ x.snd.snd.snd.snd.fst ∧ x.snd.snd.snd.snd.fst ≤ (9223372036854775807 : Int)) ∧
                                      ((-9223372036854775808 : Int) ≤ x.snd.snd.snd.snd.snd.fst ∧ x.snd.snd.snd.snd.snd.fst ≤ (9223372036854775807 : Int)) ∧
                                        (List.length x.snd.snd.snd.snd.snd.snd.fst).le maxLen ∧ True) ∧
                      True) ∧
    True) → (True) → VC_laws_eqChange a0 a1 a2 a3 a4 a5 a6 a7 a8 b0 b1 b2 b3 b4 b5 b6 b7 b8 fun r => r = ((Sp.eqChange (a0, a1, a2, a3, a4, a5, a6, a7, a8, ()) (b0, b1, b2, b3, b4, b5, b6, b7, b8, ()), ()))) : ConOK prog G n_laws_eqChange con_laws_eqChange :=
  conR_ok env mixed (fn := f75) (c := codeOf f75) (by kernel_rfl) (by kernel_rfl) H_laws_eqChange (by kernel_rfl) fun ⟨⟨a0, a1, a2, a3, a4, a5, a6, a7, a8, ⟨⟩⟩, ⟨b0, b1, b2, b3, b4, b5, b6, b7, b8, ⟨⟩⟩, ⟨⟩⟩ hin hp =>
    Eq.mpr ((by kernel_rfl : awp Θ Γ_laws_eqChange H_laws_eqChange (codeOf f75) (endsV Θ f75.results.toList rsh_laws_eqChange fun r => r = (F_laws_eqChange ((a0, a1, a2, a3, a4, a5, a6, a7, a8, ()), (b0, b1, b2, b3, b4, b5, b6, b7, b8, ()), ())).2) (entry f75.ntmps (psVals sh_laws_eqChange ((a0, a1, a2, a3, a4, a5, a6, a7, a8, ()), (b0, b1, b2, b3, b4, b5, b6, b7, b8, ()), ()))) = VC_laws_eqChange a0 a1 a2 a3 a4 a5 a6 a7 a8 b0 b1 b2 b3 b4 b5 b6 b7 b8 fun r => r = ((Sp.eqChange (a0, a1, a2, a3, a4, a5, a6, a7, a8, ()) (b0, b1, b2, b3, b4, b5, b6, b7, b8, ()), ())))) (h a0 a1 a2 a3 a4 a5 a6 a7 a8 b0 b1 b2 b3 b4 b5 b6 b7 b8 hin hp)

def H_laws_eqChangeS : Hints := Go.Fw.hints [] [(4, ⟨[], ⟨[(0, .one (.sl 104 (.cons (.int .i64) (.cons (.int .i64) (.cons (.int .i64) (.cons .bool (.cons (.int .i64) (.cons (.sl 136 (.cons .str (.cons (.int .i64) (.cons (.int .i64) (.cons .str .nil))))) (.cons (.int .i64) (.cons .str (.cons (.sl 138 (.cons (.int .i64) (.cons (.int .i64) (.cons (.int .i64) (.cons .str (.cons (.int .i64) (.cons (.int .i64) (.cons .str .nil)))))))) .nil))))))))) false)), (1, .one (.sl 104 (.cons (.int .i64) (.cons (.int .i64) (.cons (.int .i64) (.cons .bool (.cons (.int .i64) (.cons (.sl 136 (.cons .str (.cons (.int .i64) (.cons (.int .i64) (.cons .str .nil))))) (.cons (.int .i64) (.cons .str (.cons (.sl 138 (.cons (.int .i64) (.cons (.int .i64) (.cons (.int .i64) (.cons .str (.cons (.int .i64) (.cons (.int .i64) (.cons .str .nil)))))))) .nil))))))))) false))], []⟩, ⟨[(5, .one (.int .i64))], []⟩⟩)] [] []
def VC_laws_eqChangeS (a : List
  (Int × Int × Int × Bool × Int × List (List UInt8 × Int × Int × List UInt8 × Unit) × Int × List UInt8 × List (Int × Int × Int × List UInt8 × Int × Int × List UInt8 × Unit) × Unit)) (b : List
  (Int × Int × Int × Bool × Int × List (List UInt8 × Int × Int × List UInt8 × Unit) × Int × List UInt8 × List (Int × Int × Int × List UInt8 × Int × Int × List UInt8 × Unit) × Unit)) (K : Bool × Unit → Prop) : Prop :=
  bif (↑a.length : Int) != (↑b.length : Int) then K (false, ())
  else
    let s0 := ((a, b, ()), ());
    ∃ (I : (Int × Unit) × Unit → Prop),
      ∃ (μ : (Int × Unit) × Unit → Nat),
        I (((0 : Int), ()), ()) ∧
          ∀ (y1 : (Int × Unit) × Unit),
            I y1 →
              bif decide (y1.fst.fst < (↑a.length : Int)) then
                ((0 : Int) ≤ y1.fst.fst ∧ y1.fst.fst < (↑a.length : Int)) ∧
                  ((0 : Int) ≤ y1.fst.fst ∧ y1.fst.fst < (↑b.length : Int)) ∧
                    True ∧
                      let r2 :=
                        Sp.eqChange
                          ((a.getD (Int.toNat y1.fst.fst) ((0 : Int), (0 : Int), (0 : Int), false, (0 : Int), [], (0 : Int), [], [], ())).fst,
                            (a.getD (Int.toNat y1.fst.fst) ((0 : Int), (0 : Int), (0 : Int), false, (0 : Int), [], (0 : Int), [], [], ())).snd.fst,
                            (a.getD (Int.toNat y1.fst.fst) ((0 : Int), (0 : Int), (0 : Int), false, (0 : Int), [], (0 : Int), [], [], ())).snd.snd.fst,
                            (a.getD (Int.toNat y1.fst.fst) ((0 : Int), (0 : Int), (0 : Int), false, (0 : Int), [], (0 : Int), [], [], ())).snd.snd.snd.fst,
                            (a.getD (Int.toNat y1.fst.fst) ((0 : Int), (0 : Int), (0 : Int), false, (0 : Int), [], (0 : Int), [], [], ())).snd.snd.snd.snd.fst,
                            (a.getD (Int.toNat y1.fst.fst) ((0 : Int), (0 : Int), (0 : Int), false, (0 : Int), [], (0 : Int), [], [], ())).snd.snd.snd.snd.snd.fst,
                            (a.getD (Int.toNat y1.fst.fst) ((0 : Int), (0 : Int), (0 : Int), false, (0 : Int), [], (0 : Int), [], [], ())).snd.snd.snd.snd.snd.snd.fst,
                            (a.getD (Int.toNat y1.fst.fst) ((0 : Int), (0 : Int), (0 : Int), false, (0 : Int), [], (0 : Int), [], [], ())).snd.snd.snd.snd.snd.snd.snd.fst,
                            (a.getD (Int.toNat y1.fst.fst) ((0 : Int), (0 : Int), (0 : Int), false, (0 : Int), [], (0 : Int), [], [], ())).snd.snd.snd.snd.snd.snd.snd.snd.fst, ())
                          ((b.getD (Int.toNat y1.fst.fst) ((0 : Int), (0 : Int), (0 : Int), false, (0 : Int), [], (0 : Int), [], [], ())).fst,
                            (b.getD (Int.toNat y1.fst.fst) ((0 : Int), (0 : Int), (0 : Int), false, (0 : Int), [], (0 : Int), [], [], ())).snd.fst,
                            (b.getD (Int.toNat y1.fst.fst) ((0 : Int), (0 : Int), (0 : Int), false, (0 : Int), [], (0 : Int), [], [], ())).snd.snd.fst,
                            (b.getD (Int.toNat y1.fst.fst) ((0 : Int), (0 : Int), (0 : Int), false, (0 : Int), [], (0 : Int), [], [], ())).snd.snd.snd.fst,
                            (b.getD (Int.toNat y1.fst.fst) ((0 : Int), (0 : Int), (0 : Int), false, (0 : Int), [], (0 : Int), [], [], ())).snd.snd.snd.snd.fst,
                            (b.getD (Int.toNat y1.fst.fst) ((0 : Int), (0 : Int), (0 : Int), false, (0 : Int), [], (0 : Int), [], [], ())).snd.snd.snd.snd.snd.fst,
                            (b.getD (Int.toNat y1.fst.fst) ((0 : Int), (0 : Int), (0 : Int), false, (0 : Int), [], (0 : Int), [], [], ())).snd.snd.snd.snd.snd.snd.fst,
                            (b.getD (Int.toNat y1.fst.fst) ((0 : Int), (0 : Int), (0 : Int), false, (0 : Int), [], (0 : Int), [], [], ())).snd.snd.snd.snd.snd.snd.snd.fst,
                            (b.getD (Int.toNat y1.fst.fst) ((0 : Int), (0 : Int), (0 : Int), false, (0 : Int), [], (0 : Int), [], [], ())).snd.snd.snd.snd.snd.snd.snd.snd.fst, ());
                      bif !r2 then K (false, ())
                      else s0 = s0 ∧ I ((IntKind.i64.wrap (y1.fst.fst + (1 : Int)), ()), ()) ∧ μ ((IntKind.i64.wrap (y1.fst.fst + (1 : Int)), ()), ()) < μ y1
              else K (true, ())
theorem wk_laws_eqChangeS (env : EnvB prog G Θ Γ_laws_eqChangeS) (h : ∀ (a : List
  (Int × Int × Int × Bool × Int × List (List UInt8 × Int × Int × List UInt8 × Unit) × Int × List UInt8 × List (Int × Int × Int × List UInt8 × Int × Int × List UInt8 × Unit) × Unit)) (b : List
  (Int × Int × Int × Bool × Int × List (List UInt8 × Int × Int × List UInt8 × Unit) × Int × List UInt8 × List (Int × Int × Int × List UInt8 × Int × Int × List UInt8 × Unit) × Unit)), ((a.length ≤ maxLen ∧
    ∀
      (x :
        Int ×
          Int ×
            Int × Bool × Int × List (List UInt8 × Int × Int × List UInt8 × Unit) × Int × List UInt8 × List (Int × Int × Int × List UInt8 × Int × Int × List UInt8 × Unit) × Unit),
      x ∈ a →
        ((-9223372036854775808 : Int) ≤ x.fst ∧ x.fst ≤ (9223372036854775807 : Int)) ∧
          ((-9223372036854775808 : Int) ≤ x.snd.fst ∧ x.snd.fst ≤ (9223372036854775807 : Int)) ∧
            ((-9223372036854775808 : Int) ≤ x.snd.snd.fst ∧ x.snd.snd.fst ≤ (9223372036854775807 : Int)) ∧
              True ∧
                ((-9223372036854775808 : Int) ≤ x.snd.snd.snd.snd.fst ∧ x.snd.snd.snd.snd.fst ≤ (9223372036854775807 : Int)) ∧
                  (List.length x.snd.snd.snd.snd.snd.fst ≤ maxLen ∧
                      ∀ (x_1 : List UInt8 × Int × Int × List UInt8 × Unit),
                        x_1 ∈ x.snd.snd.snd.snd.snd.fst →
                          (List.length x_1.fst).le maxLen ∧
                            ((-9223372036854775808 : Int) ≤ x_1.snd.fst ∧ x_1.snd.fst ≤ (9223372036854775807 : Int)) ∧
                              ((-9223372036854775808 : Int) ≤ x_1.snd.snd.fst ∧ x_1.snd.snd.fst ≤ (9223372036854775807 : Int)) ∧
                                (List.length x_1.snd.snd.snd.fst).le maxLen ∧ True) ∧
                    ((-9223372036854775808 : Int) ≤ x.snd.snd.snd.snd.snd.snd.fst ∧ x.snd.snd.snd.snd.snd.snd.fst ≤ (9223372036854775807 : Int)) ∧
                      (List.length x.snd.snd.snd.snd.snd.snd.snd.fst).le maxLen ∧
                        (List.length x.snd.snd.snd.snd.snd.snd.snd.snd.fst ≤ maxLen ∧
                            ∀ (x_1 : Int × Int × Int × List UInt8 × Int × Int × List UInt8 × Unit),
                              x_1 ∈ x.snd.snd.snd.snd.snd.snd.snd.snd.fst →
                                ((-9223372036854775808 : Int) ≤ x_1.fst ∧ x_1.fst ≤ (9223372036854775807 : Int)) ∧
                                  ((-9223372036854775808 : Int) ≤ x_1.snd.fst ∧ x_1.snd.fst ≤ (9223372036854775807 : Int)) ∧
                                    ((-9223372036854775808 : Int) ≤ x_1.snd.snd.fst ∧ x_1.snd.snd.fst ≤ (9223372036854775807 : Int)) ∧
                                      (List.length x_1.snd.snd.snd.fst).le maxLen ∧
                                        ((-9223372036854775808 : Int) ≤ x_1.snd.snd.snd.snd.fst ∧ x_1.snd.snd.snd.snd.fst ≤ (9223372036854775807 : Int)) ∧
                                          ((-9223372036854775808 : Int) ≤ x_1.snd.snd.snd.snd.snd.fst ∧ x_1.snd.snd.snd.snd.snd.fst ≤ (9223372036854775807 : Int)) ∧
                                            (List.length x_1.snd.snd.snd.snd.snd.snd.fst).le maxLen ∧ True) ∧
                          True) ∧
  (b.length ≤ maxLen ∧
      ∀
        (x :
          Int ×
            Int ×
              Int × Bool × Int × List (List UInt8 × Int × Int × List UInt8 × Unit) × Int × List UInt8 × List (Int × Int × Int × List UInt8 × Int × Int × List UInt8 × Unit) × Unit),
        x ∈ b →
          ((-9223372036854775808 : Int) ≤ x.fst ∧ x.fst ≤ (9223372036854775807 : Int)) ∧
            ((-9223372036854775808 : Int) ≤ x.snd.fst ∧ x.snd.fst ≤ (9223372036854775807 : Int)) ∧
              ((-9223372036854775808 : Int) ≤ x.snd.snd.fst ∧ x.snd.snd.fst ≤ (9223372036854775807 : Int)) ∧
                True ∧
                  ((-9223372036854775808 : Int) ≤ x.snd.snd.snd.snd.fst ∧ x.snd.snd.snd.snd.fst ≤ (9223372036854775807 : Int)) ∧
                    (List.length x.snd.snd.snd.snd.snd.fst ≤ maxLen ∧
                        ∀ (x_1 : List UInt8 × Int × Int × List UInt8 × Unit),
                          x_1 ∈ x.snd.snd.snd.snd.snd.fst →
                            (List.length x_1.fst).le maxLen ∧
                              ((-9223372036854775808 : Int) ≤ x_1.snd.fst ∧ x_1.snd.fst ≤ (9223372036854775807 : Int)) ∧
                                ((-9223372036854775808 : Int) ≤ x_1.snd.snd.fst ∧ x_1.snd.snd.fst ≤ (9223372036854775807 : Int)) ∧
                                  (List.length x_1.snd.snd.snd.fst).le maxLen ∧ True) ∧
                      ((-9223372036854775808 : Int) ≤ x.snd.snd.snd.snd.snd.snd.fst ∧ x.snd.snd.snd.snd.snd.snd.fst ≤ (9223372036854775807 : Int)) ∧
                        (List.length x.snd.snd.snd.snd.snd.snd.snd.fst).le maxLen ∧
                          (List.length x.snd.snd.snd.snd.snd.snd.snd.snd.fst ≤ maxLen ∧
                              ∀ (x_1 : Int × Int × Int × List UInt8 × Int × Int × List UInt8 × Unit),
                                x_1 ∈ x.snd.snd.snd.snd.snd.snd.snd.snd.fst →
                                  ((-9223372036854775808 : Int) ≤ x_1.fst ∧ x_1.fst ≤ (9223372036854775807 : Int)) ∧
                                    ((-9223372036854775808 : Int) ≤ x_1.snd.fst ∧ x_1.snd.fst ≤ (9223372036854775807 : Int)) ∧
                                      ((-9223372036854775808 : Int) ≤ x_1.snd.snd.fst ∧ x_1.snd.snd.fst ≤ (9223372036854775807 : Int)) ∧
                                        (List.length x_1.snd.snd.snd.fst).le maxLen ∧
                                          ((-9223372036854775808 : Int) ≤ x_1.snd.snd.snd.snd.fst ∧ x_1.snd.snd.snd.snd.fst ≤ (9223372036854775807 : Int)) ∧
                                            ((-9223372036854775808 : Int) ≤ x_1.snd.snd.snd.snd.snd.fst ∧ x_1.snd.snd.snd.snd.snd.fst ≤ (9223372036854775807 : Int)) ∧
                                              (List.length x_1.snd.snd.snd.snd.snd.snd.fst).le maxLen ∧ True) ∧
                            True) ∧
    True) → (True) → VC_laws_eqChangeS a b fun r => r = ((Sp.eqChangeS a b, ()))) : ConOK prog G n_laws_eqChangeS con_laws_eqChangeS :=
  conR_ok env mixed (fn := f48) (c := codeOf f48) (by kernel_rfl) (by kernel_rfl) H_laws_eqChangeS (by kernel_rfl) fun ⟨a, b, ⟨⟩⟩ hin hp =>
    Eq.mpr ((by kernel_rfl : awp Θ Γ_laws_eqChangeS H_laws_eqChangeS (codeOf f48) (endsV Θ f48.results.toList rsh_laws_eqChangeS fun r => r = (F_laws_eqChangeS (a, b, ())).2) (entry f48.ntmps (psVals sh_laws_eqChangeS (a, b, ()))) = VC_laws_eqChangeS a b fun r => r = ((Sp.eqChangeS a b, ())))) (h a b hin hp)

def H_laws_eqAction : Hints := Go.Fw.hints [] [] [] []
def VC_laws_eqAction (a0 : Int) (a1 : Int) (a2 : List
  (Int × Int × Int × Bool × Int × List (List UInt8 × Int × Int × List UInt8 × Unit) × Int × List UInt8 × List (Int × Int × Int × List UInt8 × Int × Int × List UInt8 × Unit) × Unit)) (a3 : List UInt8) (a4 : Int) (b0 : Int) (b1 : Int) (b2 : List
  (Int × Int × Int × Bool × Int × List (List UInt8 × Int × Int × List UInt8 × Unit) × Int × List UInt8 × List (Int × Int × Int × List UInt8 × Int × Int × List UInt8 × Unit) × Unit)) (b3 : List UInt8) (b4 : Int) (K : Bool × Unit → Prop) : Prop :=
  bif a0 != b0 then K (false, ())
  else
    bif a1 != b1 then K (false, ())
    else True ∧ bif !Sp.eqChangeS a2 b2 then K (false, ()) else bif !a3 == b3 then K (false, ()) else bif a4 != b4 then K (false, ()) else K (true, ())
theorem wk_laws_eqAction (env : EnvB prog G Θ Γ_laws_eqAction) (h : ∀ (a0 : Int) (a1 : Int) (a2 : List
  (Int × Int × Int × Bool × Int × List (List UInt8 × Int × Int × List UInt8 × Unit) × Int × List UInt8 × List (Int × Int × Int × List UInt8 × Int × Int × List UInt8 × Unit) × Unit)) (a3 : List UInt8) (a4 : Int) (b0 : Int) (b1 : Int) (b2 : List
  (Int × Int × Int × Bool × Int × List (List UInt8 × Int × Int × List UInt8 × Unit) × Int × List UInt8 × List (Int × Int × Int × List UInt8 × Int × Int × List UInt8 × Unit) × Unit)) (b3 : List UInt8) (b4 : Int), ((((-9223372036854775808 : Int) ≤ a0 ∧ a0 ≤ (9223372036854775807 : Int)) ∧
    ((-9223372036854775808 : Int) ≤ a1 ∧ a1 ≤ (9223372036854775807 : Int)) ∧
      (a2.length ≤ maxLen ∧
          ∀
            (x :
              Int ×
                Int ×
                  Int ×
                    Bool × Int × List (List UInt8 × Int × Int × List UInt8 × Unit) × Int × List UInt8 × List (Int × Int × Int × List UInt8 × Int × Int × List UInt8 × Unit) × Unit),
            x ∈ a2 →
              ((-9223372036854775808 : Int) ≤ x.fst ∧ x.fst ≤ (9223372036854775807 : Int)) ∧
                ((-9223372036854775808 : Int) ≤ x.snd.fst ∧ x.snd.fst ≤ (9223372036854775807 : Int)) ∧
                  ((-9223372036854775808 : Int) ≤ x.snd.snd.fst ∧ x.snd.snd.fst ≤ (9223372036854775807 : Int)) ∧
                    True ∧
                      ((-9223372036854775808 : Int) ≤ x.snd.snd.snd.snd.fst ∧ x.snd.snd.snd.snd.fst ≤ (9223372036854775807 : Int)) ∧
                        (List.length x.snd.snd.snd.snd.snd.fst ≤ maxLen ∧
                            ∀ (x_1 : List UInt8 × Int × Int × List UInt8 × Unit),
                              x_1 ∈ x.snd.snd.snd.snd.snd.fst →
                                (List.length x_1.fst).le maxLen ∧
                                  ((-9223372036854775808 : Int) ≤ x_1.snd.fst ∧ x_1.snd.fst ≤ (9223372036854775807 : Int)) ∧
                                    ((-9223372036854775808 : Int) ≤ x_1.snd.snd.fst ∧ x_1.snd.snd.fst ≤ (9223372036854775807 : Int)) ∧
                                      (List.length x_1.snd.snd.snd.fst).le maxLen ∧ True) ∧
                          ((-9223372036854775808 : Int) ≤ x.snd.snd.snd.snd.snd.snd.fst ∧ x.snd.snd.snd.snd.snd.snd.fst ≤ (9223372036854775807 : Int)) ∧
                            (List.length x.snd.snd.snd.snd.snd.snd.snd.fst).le maxLen ∧
                              (List.length x.snd.snd.snd.snd.snd.snd.snd.snd.fst ≤ maxLen ∧
                                  ∀ (x_1 : Int × Int × Int × List UInt8 × Int × Int × List UInt8 × Unit),
                                    x_1 ∈ x.snd.snd.snd.snd.snd.snd.snd.snd.fst →
                                      ((-9223372036854775808 : Int) ≤ x_1.fst ∧ x_1.fst ≤ (9223372036854775807 : Int)) ∧
                                        ((-9223372036854775808 : Int) ≤ x_1.snd.fst ∧ x_1.snd.fst ≤ (9223372036854775807 : Int)) ∧
                                          ((-9223372036854775808 : Int) ≤ x_1.snd.snd.fst ∧ x_1.snd.snd.fst ≤ (9223372036854775807 : Int)) ∧
                                            (List.length x_1.snd.snd.snd.fst).le maxLen ∧
                                              ((-9223372036854775808 : Int) ≤ x_1.snd.snd.snd.snd.fst ∧ x_1.snd.snd.snd.snd.fst ≤ (9223372036854775807 : Int)) ∧
                                                ((-9223372036854775808 : Int) ≤ x_1.snd.snd.snd.snd.snd.fst ∧ x_1.snd.snd.snd.snd.snd.fst ≤ (9223372036854775807 : Int)) ∧
                                                  (List.length x_1.snd.snd.snd.snd.snd.snd.fst).le maxLen ∧ True) ∧
                                True) ∧
        a3.length.le maxLen ∧ ((-9223372036854775808 : Int) ≤ a4 ∧ a4 ≤ (9223372036854775807 : Int)) ∧ True) ∧
  (((-9223372036854775808 : Int) ≤ b0 ∧ b0 ≤ (9223372036854775807 : Int)) ∧
      ((-9223372036854775808 : Int) ≤ b1 ∧ b1 ≤ (9223372036854775807 : Int)) ∧
        (b2.length ≤ maxLen ∧
            ∀
              (x :
                Int ×
                  Int ×
                    Int ×
                      Bool ×
                        Int × List (List UInt8 × Int × Int × List UInt8 × Unit) × Int × List UInt8 × List (Int × Int × Int × List UInt8 × Int × Int × List UInt8 × Unit) × Unit),
              x ∈ b2 →
                ((-9223372036854775808 : Int) ≤ x.fst ∧ x.fst ≤ (9223372036854775807 : Int)) ∧
                  ((-9223372036854775808 : Int) ≤ x.snd.fst ∧ x.snd.fst ≤ (9223372036854775807 : Int)) ∧
                    ((-9223372036854775808 : Int) ≤ x.snd.snd.fst ∧ x.snd.snd.fst ≤ (9223372036854775807 : Int)) ∧
                      True ∧
                        ((-9223372036854775808 : Int) ≤ x.snd.snd.snd.snd.fst ∧ x.snd.snd.snd.snd.fst ≤ (9223372036854775807 : Int)) ∧
                          (List.length x.snd.snd.snd.snd.snd.fst ≤ maxLen ∧
                              ∀ (x_1 : List UInt8 × Int × Int × List UInt8 × Unit),
                                x_1 ∈ x.snd.snd.snd.snd.snd.fst →
                                  (List.length x_1.fst).le maxLen ∧
                                    ((-9223372036854775808 : Int) ≤ x_1.snd.fst ∧ x_1.snd.fst ≤ (9223372036854775807 : Int)) ∧
                                      ((-9223372036854775808 : Int) ≤ x_1.snd.snd.fst ∧ x_1.snd.snd.fst ≤ (9223372036854775807 : Int)) ∧
                                        (List.length x_1.snd.snd.snd.fst).le maxLen ∧ True) ∧
                            ((-9223372036854775808 : Int) ≤ x.snd.snd.snd.snd.snd.snd.fst ∧ x.snd.snd.snd.snd.snd.snd.fst ≤ (9223372036854775807 : Int)) ∧
                              (List.length x.snd.snd.snd.snd.snd.snd.snd.fst).le maxLen ∧
                                (List.length x.snd.snd.snd.snd.snd.snd.snd.snd.fst ≤ maxLen ∧
                                    ∀ (x_1 : Int × Int × Int × List UInt8 × Int × Int × List UInt8 × Unit),
                                      x_1 ∈ x.snd.snd.snd.snd.snd.snd.snd.snd.fst →
                                        ((-9223372036854775808 : Int) ≤ x_1.fst ∧ x_1.fst ≤ (9223372036854775807 : Int)) ∧
                                          ((-9223372036854775808 : Int) ≤ x_1.snd.fst ∧ x_1.snd.fst ≤ (9223372036854775807 : Int)) ∧
                                            ((-9223372036854775808 : Int) ≤ x_1.snd.snd.fst ∧ x_1.snd.snd.fst ≤ (9223372036854775807 : Int)) ∧
                                              (List.length x_1.snd.snd.snd.fst).le maxLen ∧
                                                ((-9223372036854775808 : Int) ≤ x_1.snd.snd.snd.snd.fst ∧ x_1.snd.snd.snd.snd.fst ≤ (9223372036854775807 : Int)) ∧
                                                  ((-9223372036854775808 : Int) ≤ x_1.snd.snd.snd.snd.snd.fst ∧ x_1.snd.snd.snd.snd.snd.fst ≤ (9223372036854775807 : Int)) ∧
                                                    (List.length x_1.snd.snd.snd.snd.snd.snd.fst).le maxLen ∧ True) ∧
                                  True) ∧
          b3.length.le maxLen ∧ ((-9223372036854775808 : Int) ≤ b4 ∧ b4 ≤ (9223372036854775807 : Int)) ∧ True) ∧
    True) → (True) → VC_laws_eqAction a0 a1 a2 a3 a4 b0 b1 b2 b3 b4 fun r => r = ((Sp.eqAction (a0, a1, a2, a3, a4, ()) (b0, b1, b2, b3, b4, ()), ()))) : ConOK prog G n_laws_eqAction con_laws_eqAction :=
  conR_ok env mixed (fn := f19) (c := codeOf f19) (by kernel_rfl) (by kernel_rfl) H_laws_eqAction (by kernel_rfl) fun ⟨⟨a0, a1, a2, a3, a4, ⟨⟩⟩, ⟨b0, b1, b2, b3, b4, ⟨⟩⟩, ⟨⟩⟩ hin hp =>
    Eq.mpr ((by kernel_rfl : awp Θ Γ_laws_eqAction H_laws_eqAction (codeOf f19) (endsV Θ f19.results.toList rsh_laws_eqAction fun r => r = (F_laws_eqAction ((a0, a1, a2, a3, a4, ()), (b0, b1, b2, b3, b4, ()), ())).2) (entry f19.ntmps (psVals sh_laws_eqAction ((a0, a1, a2, a3, a4, ()), (b0, b1, b2, b3, b4, ()), ()))) = VC_laws_eqAction a0 a1 a2 a3 a4 b0 b1 b2 b3 b4 fun r => r = ((Sp.eqAction (a0, a1, a2, a3, a4, ()) (b0, b1, b2, b3, b4, ()), ())))) (h a0 a1 a2 a3 a4 b0 b1 b2 b3 b4 hin hp)

def H_spec_l01In : Hints := Go.Fw.hints [] [] [] []
def VC_spec_l01In (x : Int) (least : Int) (most : Int) (K : Bool × Unit → Prop) : Prop :=
  bif decide (x ≥ least) then K (decide (x ≤ most), ()) else K (false, ())
theorem wk_spec_l01In (env : EnvB prog G Θ Γ_spec_l01In) (h : ∀ (x : Int) (least : Int) (most : Int), (((-9223372036854775808 : Int) ≤ x ∧ x ≤ (9223372036854775807 : Int)) ∧
  ((-9223372036854775808 : Int) ≤ least ∧ least ≤ (9223372036854775807 : Int)) ∧ ((-9223372036854775808 : Int) ≤ most ∧ most ≤ (9223372036854775807 : Int)) ∧ True) → (True) → VC_spec_l01In x least most fun r => r = ((decide (least ≤ x) && decide (x ≤ most), ()))) : ConOK prog G n_spec_l01In con_spec_l01In :=
  conR_ok env mixed (fn := f40) (c := codeOf f40) (by kernel_rfl) (by kernel_rfl) H_spec_l01In (by kernel_rfl) fun ⟨x, least, most, ⟨⟩⟩ hin hp =>
    Eq.mpr ((by kernel_rfl : awp Θ Γ_spec_l01In H_spec_l01In (codeOf f40) (endsV Θ f40.results.toList rsh_spec_l01In fun r => r = (F_spec_l01In (x, least, most, ())).2) (entry f40.ntmps (psVals sh_spec_l01In (x, least, most, ()))) = VC_spec_l01In x least most fun r => r = ((decide (least ≤ x) && decide (x ≤ most), ())))) (h x least most hin hp)

def H_impl_within : Hints := Go.Fw.hints [] [] [] []
def VC_impl_within (n : Int) (low : Int) (high : Int) (K : Bool × Unit → Prop) : Prop :=
  bif decide (low ≤ n) then K (decide (n ≤ high), ()) else K (false, ())
theorem wk_impl_within (env : EnvB prog G Θ Γ_impl_within) (h : ∀ (n : Int) (low : Int) (high : Int), (((-9223372036854775808 : Int) ≤ n ∧ n ≤ (9223372036854775807 : Int)) ∧
  ((-9223372036854775808 : Int) ≤ low ∧ low ≤ (9223372036854775807 : Int)) ∧ ((-9223372036854775808 : Int) ≤ high ∧ high ≤ (9223372036854775807 : Int)) ∧ True) → (True) → VC_impl_within n low high fun r => r = ((decide (low ≤ n) && decide (n ≤ high), ()))) : ConOK prog G n_impl_within con_impl_within :=
  conR_ok env mixed (fn := f69) (c := codeOf f69) (by kernel_rfl) (by kernel_rfl) H_impl_within (by kernel_rfl) fun ⟨n, low, high, ⟨⟩⟩ hin hp =>
    Eq.mpr ((by kernel_rfl : awp Θ Γ_impl_within H_impl_within (codeOf f69) (endsV Θ f69.results.toList rsh_impl_within fun r => r = (F_impl_within (n, low, high, ())).2) (entry f69.ntmps (psVals sh_impl_within (n, low, high, ()))) = VC_impl_within n low high fun r => r = ((decide (low ≤ n) && decide (n ≤ high), ())))) (h n low high hin hp)

def H_spec_l02Text : Hints := Go.Fw.hints [] [(2, ⟨[], ⟨[(0, .one (.str)), (1, .one (.int .i64))], []⟩, ⟨[(5, .one (.int .i64))], []⟩⟩)] [] []
def VC_spec_l02Text (s : List UInt8) (most : Int) (K : Bool × Unit → Prop) : Prop :=
  let s0 := ((s, most, ()), ());
  ∃ (I : (Int × Unit) × Unit → Prop),
    ∃ (μ : (Int × Unit) × Unit → Nat),
      I (((0 : Int), ()), ()) ∧
        ∀ (y1 : (Int × Unit) × Unit),
          I y1 →
            bif decide (y1.fst.fst < (↑s.length : Int)) then
              ((0 : Int) ≤ y1.fst.fst ∧ y1.fst.fst < (↑s.length : Int)) ∧
                bif decide ((↑(s.getD (Int.toNat y1.fst.fst) (0 : UInt8)).toNat : Int) < (97 : Int)) then K (false, ())
                else
                  ((0 : Int) ≤ y1.fst.fst ∧ y1.fst.fst < (↑s.length : Int)) ∧
                    bif decide ((↑(s.getD (Int.toNat y1.fst.fst) (0 : UInt8)).toNat : Int) > (122 : Int)) then K (false, ())
                    else s0 = s0 ∧ I ((IntKind.i64.wrap (y1.fst.fst + (1 : Int)), ()), ()) ∧ μ ((IntKind.i64.wrap (y1.fst.fst + (1 : Int)), ()), ()) < μ y1
            else
              True ∧
                let r2 := decide ((1 : Int) ≤ (↑s.length : Int)) && decide ((↑s.length : Int) ≤ most);
                K (r2, ())
theorem wk_spec_l02Text (env : EnvB prog G Θ Γ_spec_l02Text) (h : ∀ (s : List UInt8) (most : Int), (s.length.le maxLen ∧ ((-9223372036854775808 : Int) ≤ most ∧ most ≤ (9223372036854775807 : Int)) ∧ True) → (True) → VC_spec_l02Text s most fun r => r = ((Sp.lower s && decide ((1 : Int) ≤ (↑s.length : Int)) && decide ((↑s.length : Int) ≤ most), ()))) : ConOK prog G n_spec_l02Text con_spec_l02Text :=
  conR_ok env mixed (fn := f67) (c := codeOf f67) (by kernel_rfl) (by kernel_rfl) H_spec_l02Text (by kernel_rfl) fun ⟨s, most, ⟨⟩⟩ hin hp =>
    Eq.mpr ((by kernel_rfl : awp Θ Γ_spec_l02Text H_spec_l02Text (codeOf f67) (endsV Θ f67.results.toList rsh_spec_l02Text fun r => r = (F_spec_l02Text (s, most, ())).2) (entry f67.ntmps (psVals sh_spec_l02Text (s, most, ()))) = VC_spec_l02Text s most fun r => r = ((Sp.lower s && decide ((1 : Int) ≤ (↑s.length : Int)) && decide ((↑s.length : Int) ≤ most), ())))) (h s most hin hp)

def H_spec_IsValidString : Hints := Go.Fw.hints [] [] [] []
def VC_spec_IsValidString (s : List UInt8) (K : Bool × Unit → Prop) : Prop :=
  True ∧
    let r0 := Sp.lower s && decide ((1 : Int) ≤ (↑s.length : Int)) && decide ((↑s.length : Int) ≤ (6 : Int));
    K (r0, ())
theorem wk_spec_IsValidString (env : EnvB prog G Θ Γ_spec_IsValidString) (h : ∀ (s : List UInt8), (s.length.le maxLen ∧ True) → (True) → VC_spec_IsValidString s fun r => r = ((Sp.validStr s, ()))) : ConOK prog G n_spec_IsValidString con_spec_IsValidString :=
  conR_ok env mixed (fn := f41) (c := codeOf f41) (by kernel_rfl) (by kernel_rfl) H_spec_IsValidString (by kernel_rfl) fun ⟨s, ⟨⟩⟩ hin hp =>
    Eq.mpr ((by kernel_rfl : awp Θ Γ_spec_IsValidString H_spec_IsValidString (codeOf f41) (endsV Θ f41.results.toList rsh_spec_IsValidString fun r => r = (F_spec_IsValidString (s, ())).2) (entry f41.ntmps (psVals sh_spec_IsValidString (s, ()))) = VC_spec_IsValidString s fun r => r = ((Sp.validStr s, ())))) (h s hin hp)

def H_impl_IsValidString : Hints := Go.Fw.hints [] [(2, ⟨[], ⟨[(0, .one (.str)), (5, .one (.int .i64))], []⟩, ⟨[(6, .one (.int .i64))], []⟩⟩)] [] []
def VC_impl_IsValidString (s : List UInt8) (K : Bool × Unit → Prop) : Prop :=
  let s0 := ((s, (↑s.length : Int), ()), ());
  ∃ (I : (Int × Unit) × Unit → Prop),
    ∃ (μ : (Int × Unit) × Unit → Nat),
      I (((0 : Int), ()), ()) ∧
        ∀ (y1 : (Int × Unit) × Unit),
          I y1 →
            bif decide (y1.fst.fst < (↑s.length : Int)) then
              ((0 : Int) ≤ y1.fst.fst ∧ y1.fst.fst < (↑s.length : Int)) ∧
                bif decide ((↑(s.getD (Int.toNat y1.fst.fst) (0 : UInt8)).toNat : Int) < (97 : Int)) then K (false, ())
                else
                  ((0 : Int) ≤ y1.fst.fst ∧ y1.fst.fst < (↑s.length : Int)) ∧
                    bif decide ((↑(s.getD (Int.toNat y1.fst.fst) (0 : UInt8)).toNat : Int) > (122 : Int)) then K (false, ())
                    else s0 = s0 ∧ I ((IntKind.i64.wrap (y1.fst.fst + (1 : Int)), ()), ()) ∧ μ ((IntKind.i64.wrap (y1.fst.fst + (1 : Int)), ()), ()) < μ y1
            else
              True ∧
                let r2 := decide ((1 : Int) ≤ (↑s.length : Int)) && decide ((↑s.length : Int) ≤ (6 : Int));
                K (r2, ())
theorem wk_impl_IsValidString (env : EnvB prog G Θ Γ_impl_IsValidString) (h : ∀ (s : List UInt8), (s.length.le maxLen ∧ True) → (True) → VC_impl_IsValidString s fun r => r = ((Sp.validStr s, ()))) : ConOK prog G n_impl_IsValidString con_impl_IsValidString :=
  conR_ok env mixed (fn := f46) (c := codeOf f46) (by kernel_rfl) (by kernel_rfl) H_impl_IsValidString (by kernel_rfl) fun ⟨s, ⟨⟩⟩ hin hp =>
    Eq.mpr ((by kernel_rfl : awp Θ Γ_impl_IsValidString H_impl_IsValidString (codeOf f46) (endsV Θ f46.results.toList rsh_impl_IsValidString fun r => r = (F_impl_IsValidString (s, ())).2) (entry f46.ntmps (psVals sh_impl_IsValidString (s, ()))) = VC_impl_IsValidString s fun r => r = ((Sp.validStr s, ())))) (h s hin hp)

def H_spec_IsValidAction : Hints := Go.Fw.hints [] [] [] []
def VC_spec_IsValidAction (a0 : Int) (a1 : Int) (a2 : List
  (Int × Int × Int × Bool × Int × List (List UInt8 × Int × Int × List UInt8 × Unit) × Int × List UInt8 × List (Int × Int × Int × List UInt8 × Int × Int × List UInt8 × Unit) × Unit)) (a3 : List UInt8) (a4 : Int) (K : Bool × Unit → Prop) : Prop :=
  True ∧
    let r0 := decide ((1 : Int) ≤ a0) && decide (a0 ≤ (8 : Int));
    bif r0 then K (decide ((↑a2.length : Int) ≤ (6 : Int)), ()) else K (false, ())
theorem wk_spec_IsValidAction (env : EnvB prog G Θ Γ_spec_IsValidAction) (h : ∀ (a0 : Int) (a1 : Int) (a2 : List
  (Int × Int × Int × Bool × Int × List (List UInt8 × Int × Int × List UInt8 × Unit) × Int × List UInt8 × List (Int × Int × Int × List UInt8 × Int × Int × List UInt8 × Unit) × Unit)) (a3 : List UInt8) (a4 : Int), ((((-9223372036854775808 : Int) ≤ a0 ∧ a0 ≤ (9223372036854775807 : Int)) ∧
    ((-9223372036854775808 : Int) ≤ a1 ∧ a1 ≤ (9223372036854775807 : Int)) ∧
      (a2.length ≤ maxLen ∧
          ∀
            (x :
              Int ×
                Int ×
                  Int ×
                    Bool × Int × List (List UInt8 × Int × Int × List UInt8 × Unit) × Int × List UInt8 × List (Int × Int × Int × List UInt8 × Int × Int × List UInt8 × Unit) × Unit),
            x ∈ a2 →
              ((-9223372036854775808 : Int) ≤ x.fst ∧ x.fst ≤ (9223372036854775807 : Int)) ∧
                ((-9223372036854775808 : Int) ≤ x.snd.fst ∧ x.snd.fst ≤ (9223372036854775807 : Int)) ∧
                  ((-9223372036854775808 : Int) ≤ x.snd.snd.fst ∧ x.snd.snd.fst ≤ (9223372036854775807 : Int)) ∧
                    True ∧
                      ((-9223372036854775808 : Int) ≤ x.snd.snd.snd.snd.fst ∧ x.snd.snd.snd.snd.fst ≤ (9223372036854775807 : Int)) ∧
                        (List.length x.snd.snd.snd.snd.snd.fst ≤ maxLen ∧
                            ∀ (x_1 : List UInt8 × Int × Int × List UInt8 × Unit),
                              x_1 ∈ x.snd.snd.snd.snd.snd.fst →
                                (List.length x_1.fst).le maxLen ∧
                                  ((-9223372036854775808 : Int) ≤ x_1.snd.fst ∧ x_1.snd.fst ≤ (9223372036854775807 : Int)) ∧
                                    ((-9223372036854775808 : Int) ≤ x_1.snd.snd.fst ∧ x_1.snd.snd.fst ≤ (9223372036854775807 : Int)) ∧
                                      (List.length x_1.snd.snd.snd.fst).le maxLen ∧ True) ∧
                          ((-9223372036854775808 : Int) ≤ x.snd.snd.snd.snd.snd.snd.fst ∧ x.snd.snd.snd.snd.snd.snd.fst ≤ (9223372036854775807 : Int)) ∧
                            (List.length x.snd.snd.snd.snd.snd.snd.snd.fst).le maxLen ∧
                              (List.length x.snd.snd.snd.snd.snd.snd.snd.snd.fst ≤ maxLen ∧
                                  ∀ (x_1 : Int × Int × Int × List UInt8 × Int × Int × List UInt8 × Unit),
                                    x_1 ∈ x.snd.snd.snd.snd.snd.snd.snd.snd.fst →
                                      ((-9223372036854775808 : Int) ≤ x_1.fst ∧ x_1.fst ≤ (9223372036854775807 : Int)) ∧
                                        ((-9223372036854775808 : Int) ≤ x_1.snd.fst ∧ x_1.snd.fst ≤ (9223372036854775807 : Int)) ∧
                                          ((-9223372036854775808 : Int) ≤ x_1.snd.snd.fst ∧ x_1.snd.snd.fst ≤ (9223372036854775807 : Int)) ∧
                                            (List.length x_1.snd.snd.snd.fst).le maxLen ∧
                                              ((-9223372036854775808 : Int) ≤ x_1.snd.snd.snd.snd.fst ∧ x_1.snd.snd.snd.snd.fst ≤ (9223372036854775807 : Int)) ∧
                                                ((-9223372036854775808 : Int) ≤ x_1.snd.snd.snd.snd.snd.fst ∧ x_1.snd.snd.snd.snd.snd.fst ≤ (9223372036854775807 : Int)) ∧
                                                  (List.length x_1.snd.snd.snd.snd.snd.snd.fst).le maxLen ∧ True) ∧
                                True) ∧
        a3.length.le maxLen ∧ ((-9223372036854775808 : Int) ≤ a4 ∧ a4 ≤ (9223372036854775807 : Int)) ∧ True) ∧
  True) → (True) → VC_spec_IsValidAction a0 a1 a2 a3 a4 fun r => r = ((Sp.validAct a0 a2.length, ()))) : ConOK prog G n_spec_IsValidAction con_spec_IsValidAction :=
  conR_ok env mixed (fn := f42) (c := codeOf f42) (by kernel_rfl) (by kernel_rfl) H_spec_IsValidAction (by kernel_rfl) fun ⟨⟨a0, a1, a2, a3, a4, ⟨⟩⟩, ⟨⟩⟩ hin hp =>
    Eq.mpr ((by kernel_rfl : awp Θ Γ_spec_IsValidAction H_spec_IsValidAction (codeOf f42) (endsV Θ f42.results.toList rsh_spec_IsValidAction fun r => r = (F_spec_IsValidAction ((a0, a1, a2, a3, a4, ()), ())).2) (entry f42.ntmps (psVals sh_spec_IsValidAction ((a0, a1, a2, a3, a4, ()), ()))) = VC_spec_IsValidAction a0 a1 a2 a3 a4 fun r => r = ((Sp.validAct a0 a2.length, ())))) (h a0 a1 a2 a3 a4 hin hp)

def H_impl_IsValidAction : Hints := Go.Fw.hints [] [] [] []
def VC_impl_IsValidAction (a0 : Int) (a1 : Int) (a2 : List
  (Int × Int × Int × Bool × Int × List (List UInt8 × Int × Int × List UInt8 × Unit) × Int × List UInt8 × List (Int × Int × Int × List UInt8 × Int × Int × List UInt8 × Unit) × Unit)) (a3 : List UInt8) (a4 : Int) (K : Bool × Unit → Prop) : Prop :=
  True ∧
    let r0 := decide ((1 : Int) ≤ a0) && decide (a0 ≤ (8 : Int));
    bif r0 then K (decide ((↑a2.length : Int) ≤ (6 : Int)), ()) else K (false, ())
theorem wk_impl_IsValidAction (env : EnvB prog G Θ Γ_impl_IsValidAction) (h : ∀ (a0 : Int) (a1 : Int) (a2 : List
  (Int × Int × Int × Bool × Int × List (List UInt8 × Int × Int × List UInt8 × Unit) × Int × List UInt8 × List (Int × Int × Int × List UInt8 × Int × Int × List UInt8 × Unit) × Unit)) (a3 : List UInt8) (a4 : Int), ((((-9223372036854775808 : Int) ≤ a0 ∧ a0 ≤ (9223372036854775807 : Int)) ∧
    ((-9223372036854775808 : Int) ≤ a1 ∧ a1 ≤ (9223372036854775807 : Int)) ∧
      (a2.length ≤ maxLen ∧
          ∀
            (x :
              Int ×
                Int ×
                  Int ×
                    Bool × Int × List (List UInt8 × Int × Int × List UInt8 × Unit) × Int × List UInt8 × List (Int × Int × Int × List UInt8 × Int × Int × List UInt8 × Unit) × Unit),
            x ∈ a2 →
              ((-9223372036854775808 : Int) ≤ x.fst ∧ x.fst ≤ (9223372036854775807 : Int)) ∧
                ((-9223372036854775808 : Int) ≤ x.snd.fst ∧ x.snd.fst ≤ (9223372036854775807 : Int)) ∧
                  ((-9223372036854775808 : Int) ≤ x.snd.snd.fst ∧ x.snd.snd.fst ≤ (9223372036854775807 : Int)) ∧
                    True ∧
                      ((-9223372036854775808 : Int) ≤ x.snd.snd.snd.snd.fst ∧ x.snd.snd.snd.snd.fst ≤ (9223372036854775807 : Int)) ∧
                        (List.length x.snd.snd.snd.snd.snd.fst ≤ maxLen ∧
                            ∀ (x_1 : List UInt8 × Int × Int × List UInt8 × Unit),
                              x_1 ∈ x.snd.snd.snd.snd.snd.fst →
                                (List.length x_1.fst).le maxLen ∧
                                  ((-9223372036854775808 : Int) ≤ x_1.snd.fst ∧ x_1.snd.fst ≤ (9223372036854775807 : Int)) ∧
                                    ((-9223372036854775808 : Int) ≤ x_1.snd.snd.fst ∧ x_1.snd.snd.fst ≤ (9223372036854775807 : Int)) ∧
                                      (List.length x_1.snd.snd.snd.fst).le maxLen ∧ True) ∧
                          ((-9223372036854775808 : Int) ≤ x.snd.snd.snd.snd.snd.snd.fst ∧ x.snd.snd.snd.snd.snd.snd.fst ≤ (9223372036854775807 : Int)) ∧
                            (List.length x.snd.snd.snd.snd.snd.snd.snd.fst).le maxLen ∧
                              (List.length x.snd.snd.snd.snd.snd.snd.snd.snd.fst ≤ maxLen ∧
                                  ∀ (x_1 : Int × Int × Int × List UInt8 × Int × Int × List UInt8 × Unit),
                                    x_1 ∈ x.snd.snd.snd.snd.snd.snd.snd.snd.fst →
                                      ((-9223372036854775808 : Int) ≤ x_1.fst ∧ x_1.fst ≤ (9223372036854775807 : Int)) ∧
                                        ((-9223372036854775808 : Int) ≤ x_1.snd.fst ∧ x_1.snd.fst ≤ (9223372036854775807 : Int)) ∧
                                          ((-9223372036854775808 : Int) ≤ x_1.snd.snd.fst ∧ x_1.snd.snd.fst ≤ (9223372036854775807 : Int)) ∧
                                            (List.length x_1.snd.snd.snd.fst).le maxLen ∧
                                              ((-9223372036854775808 : Int) ≤ x_1.snd.snd.snd.snd.fst ∧ x_1.snd.snd.snd.snd.fst ≤ (9223372036854775807 : Int)) ∧
                                                ((-9223372036854775808 : Int) ≤ x_1.snd.snd.snd.snd.snd.fst ∧ x_1.snd.snd.snd.snd.snd.fst ≤ (9223372036854775807 : Int)) ∧
                                                  (List.length x_1.snd.snd.snd.snd.snd.snd.fst).le maxLen ∧ True) ∧
                                True) ∧
        a3.length.le maxLen ∧ ((-9223372036854775808 : Int) ≤ a4 ∧ a4 ≤ (9223372036854775807 : Int)) ∧ True) ∧
  True) → (True) → VC_impl_IsValidAction a0 a1 a2 a3 a4 fun r => r = ((Sp.validAct a0 a2.length, ()))) : ConOK prog G n_impl_IsValidAction con_impl_IsValidAction :=
  conR_ok env mixed (fn := f44) (c := codeOf f44) (by kernel_rfl) (by kernel_rfl) H_impl_IsValidAction (by kernel_rfl) fun ⟨⟨a0, a1, a2, a3, a4, ⟨⟩⟩, ⟨⟩⟩ hin hp =>
    Eq.mpr ((by kernel_rfl : awp Θ Γ_impl_IsValidAction H_impl_IsValidAction (codeOf f44) (endsV Θ f44.results.toList rsh_impl_IsValidAction fun r => r = (F_impl_IsValidAction ((a0, a1, a2, a3, a4, ()), ())).2) (entry f44.ntmps (psVals sh_impl_IsValidAction ((a0, a1, a2, a3, a4, ()), ()))) = VC_impl_IsValidAction a0 a1 a2 a3 a4 fun r => r = ((Sp.validAct a0 a2.length, ())))) (h a0 a1 a2 a3 a4 hin hp)

def H_impl_areNumbers_1 : Hints := Go.Fw.hints [] [] [] []
def VC_impl_areNumbers_1 (n : Int) (K : Bool × Unit → Prop) : Prop :=
  True ∧
    let r0 := decide ((0 : Int) ≤ n) && decide (n ≤ (1000000000 : Int));
    K (!r0, ())
theorem wk_impl_areNumbers_1 (env : EnvB prog G Θ Γ_impl_areNumbers_1) (h : ∀ (n : Int), (((-9223372036854775808 : Int) ≤ n ∧ n ≤ (9223372036854775807 : Int)) ∧ True) → (True) → VC_impl_areNumbers_1 n fun r => r = ((!Sp.isUint n, ()))) : ConOK prog G n_impl_areNumbers_1 con_impl_areNumbers_1 :=
  conR_ok env mixed (fn := f71) (c := codeOf f71) (by kernel_rfl) (by kernel_rfl) H_impl_areNumbers_1 (by kernel_rfl) fun ⟨n, ⟨⟩⟩ hin hp =>
    Eq.mpr ((by kernel_rfl : awp Θ Γ_impl_areNumbers_1 H_impl_areNumbers_1 (codeOf f71) (endsV Θ f71.results.toList rsh_impl_areNumbers_1 fun r => r = (F_impl_areNumbers_1 (n, ())).2) (entry f71.ntmps (psVals sh_impl_areNumbers_1 (n, ()))) = VC_impl_areNumbers_1 n fun r => r = ((!Sp.isUint n, ())))) (h n hin hp)

def H_slices_IndexFunc_int__impl_areNumbers_1 : Hints := Go.Fw.hints [] [(2, ⟨[], ⟨[(0, .one (.sl 3 (.cons (.int .i64) .nil) false)), (1, .fn 71 []), (7, .one (.int .i64))], []⟩, ⟨[(8, .one (.int .i64))], []⟩⟩)] [] []
def VC_slices_IndexFunc_int__impl_areNumbers_1 (s : List (Int × Unit)) (K : Int × Unit → Prop) : Prop :=
  let s0 := ((s, (), (↑s.length : Int), ()), ());
  ∃ (I : (Int × Unit) × Unit → Prop),
    ∃ (μ : (Int × Unit) × Unit → Nat),
      I (((0 : Int), ()), ()) ∧
        ∀ (y1 : (Int × Unit) × Unit),
          I y1 →
            bif decide (y1.fst.fst < (↑s.length : Int)) then
              ((0 : Int) ≤ y1.fst.fst ∧ y1.fst.fst < (↑s.length : Int)) ∧
                True ∧
                  let r2 := !Sp.isUint (s.getD (Int.toNat y1.fst.fst) ((0 : Int), ())).fst;
                  bif r2 then K (y1.fst.fst, ())
                  else s0 = s0 ∧ I ((IntKind.i64.wrap (y1.fst.fst + (1 : Int)), ()), ()) ∧ μ ((IntKind.i64.wrap (y1.fst.fst + (1 : Int)), ()), ()) < μ y1
            else K ((-1 : Int), ())
theorem wk_slices_IndexFunc_int__impl_areNumbers_1 (env : EnvB prog G Θ Γ_slices_IndexFunc_int__impl_areNumbers_1) (h : ∀ (s : List (Int × Unit)), ((s.length ≤ maxLen ∧ ∀ (x : Int × Unit), x ∈ s → ((-9223372036854775808 : Int) ≤ x.fst ∧ x.fst ≤ (9223372036854775807 : Int)) ∧ True) ∧ True ∧ True) → (True) → VC_slices_IndexFunc_int__impl_areNumbers_1 s fun r => r = ((Sp.idxOf s, ()))) : ConOK prog G n_slices_IndexFunc_int__impl_areNumbers_1 con_slices_IndexFunc_int__impl_areNumbers_1 :=
  conR_ok env mixed (fn := f89) (c := codeOf f89) (by kernel_rfl) (by kernel_rfl) H_slices_IndexFunc_int__impl_areNumbers_1 (by kernel_rfl) fun ⟨s, ⟨⟩, ⟨⟩⟩ hin hp =>
    Eq.mpr ((by kernel_rfl : awp Θ Γ_slices_IndexFunc_int__impl_areNumbers_1 H_slices_IndexFunc_int__impl_areNumbers_1 (codeOf f89) (endsV Θ f89.results.toList rsh_slices_IndexFunc_int__impl_areNumbers_1 fun r => r = (F_slices_IndexFunc_int__impl_areNumbers_1 (s, (()), ())).2) (entry f89.ntmps (psVals sh_slices_IndexFunc_int__impl_areNumbers_1 (s, (()), ()))) = VC_slices_IndexFunc_int__impl_areNumbers_1 s fun r => r = ((Sp.idxOf s, ())))) (h s hin hp)

def H_slices_ContainsFunc_int__impl_areNumbers_1 : Hints := Go.Fw.hints [] [] [] []
def VC_slices_ContainsFunc_int__impl_areNumbers_1 (s : List (Int × Unit)) (K : Bool × Unit → Prop) : Prop :=
  True ∧ K (decide (Sp.idxOf s ≥ (0 : Int)), ())
theorem wk_slices_ContainsFunc_int__impl_areNumbers_1 (env : EnvB prog G Θ Γ_slices_ContainsFunc_int__impl_areNumbers_1) (h : ∀ (s : List (Int × Unit)), ((s.length ≤ maxLen ∧ ∀ (x : Int × Unit), x ∈ s → ((-9223372036854775808 : Int) ≤ x.fst ∧ x.fst ≤ (9223372036854775807 : Int)) ∧ True) ∧ True ∧ True) → (True) → VC_slices_ContainsFunc_int__impl_areNumbers_1 s fun r => r = ((!Sp.areUints s, ()))) : ConOK prog G n_slices_ContainsFunc_int__impl_areNumbers_1 con_slices_ContainsFunc_int__impl_areNumbers_1 :=
  conR_ok env mixed (fn := f70) (c := codeOf f70) (by kernel_rfl) (by kernel_rfl) H_slices_ContainsFunc_int__impl_areNumbers_1 (by kernel_rfl) fun ⟨s, ⟨⟩, ⟨⟩⟩ hin hp =>
    Eq.mpr ((by kernel_rfl : awp Θ Γ_slices_ContainsFunc_int__impl_areNumbers_1 H_slices_ContainsFunc_int__impl_areNumbers_1 (codeOf f70) (endsV Θ f70.results.toList rsh_slices_ContainsFunc_int__impl_areNumbers_1 fun r => r = (F_slices_ContainsFunc_int__impl_areNumbers_1 (s, (()), ())).2) (entry f70.ntmps (psVals sh_slices_ContainsFunc_int__impl_areNumbers_1 (s, (()), ()))) = VC_slices_ContainsFunc_int__impl_areNumbers_1 s fun r => r = ((!Sp.areUints s, ())))) (h s hin hp)

def H_impl_areNumbers : Hints := Go.Fw.hints [] [] [] []
def VC_impl_areNumbers (l : List (Int × Unit)) (K : Bool × Unit → Prop) : Prop :=
  True ∧ K (!!Sp.areUints l, ())
theorem wk_impl_areNumbers (env : EnvB prog G Θ Γ_impl_areNumbers) (h : ∀ (l : List (Int × Unit)), ((l.length ≤ maxLen ∧ ∀ (x : Int × Unit), x ∈ l → ((-9223372036854775808 : Int) ≤ x.fst ∧ x.fst ≤ (9223372036854775807 : Int)) ∧ True) ∧ True) → (True) → VC_impl_areNumbers l fun r => r = ((Sp.areUints l, ()))) : ConOK prog G n_impl_areNumbers con_impl_areNumbers :=
  conR_ok env mixed (fn := f45) (c := codeOf f45) (by kernel_rfl) (by kernel_rfl) H_impl_areNumbers (by kernel_rfl) fun ⟨l, ⟨⟩⟩ hin hp =>
    Eq.mpr ((by kernel_rfl : awp Θ Γ_impl_areNumbers H_impl_areNumbers (codeOf f45) (endsV Θ f45.results.toList rsh_impl_areNumbers fun r => r = (F_impl_areNumbers (l, ())).2) (entry f45.ntmps (psVals sh_impl_areNumbers (l, ()))) = VC_impl_areNumbers l fun r => r = ((Sp.areUints l, ())))) (h l hin hp)

def H_spec_FormatAction : Hints := Go.Fw.hints [] [] [(6, ⟨[], ⟨[(1, .kptr [.int .i64, .int .i64, .sl 104 (.cons (.int .i64) (.cons (.int .i64) (.cons (.int .i64) (.cons .bool (.cons (.int .i64) (.cons (.sl 136 (.cons .str (.cons (.int .i64) (.cons (.int .i64) (.cons .str .nil))))) (.cons (.int .i64) (.cons .str (.cons (.sl 138 (.cons (.int .i64) (.cons (.int .i64) (.cons (.int .i64) (.cons .str (.cons (.int .i64) (.cons (.int .i64) (.cons .str .nil)))))))) .nil))))))))) false, .str, .int .i64] 0), (3, .one (.bool)), (4, .one (.bool)), (5, .one (.bool))], []⟩, ⟨[], []⟩⟩), (7, ⟨[], ⟨[(1, .kptr [.int .i64, .int .i64, .sl 104 (.cons (.int .i64) (.cons (.int .i64) (.cons (.int .i64) (.cons .bool (.cons (.int .i64) (.cons (.sl 136 (.cons .str (.cons (.int .i64) (.cons (.int .i64) (.cons .str .nil))))) (.cons (.int .i64) (.cons .str (.cons (.sl 138 (.cons (.int .i64) (.cons (.int .i64) (.cons (.int .i64) (.cons .str (.cons (.int .i64) (.cons (.int .i64) (.cons .str .nil)))))))) .nil))))))))) false, .str, .int .i64] 0), (3, .one (.bool)), (4, .one (.bool)), (5, .one (.bool))], []⟩, ⟨[(29, .one (.bool))], []⟩⟩), (9, ⟨[], ⟨[(1, .kptr [.int .i64, .int .i64, .sl 104 (.cons (.int .i64) (.cons (.int .i64) (.cons (.int .i64) (.cons .bool (.cons (.int .i64) (.cons (.sl 136 (.cons .str (.cons (.int .i64) (.cons (.int .i64) (.cons .str .nil))))) (.cons (.int .i64) (.cons .str (.cons (.sl 138 (.cons (.int .i64) (.cons (.int .i64) (.cons (.int .i64) (.cons .str (.cons (.int .i64) (.cons (.int .i64) (.cons .str .nil)))))))) .nil))))))))) false, .str, .int .i64] 0), (3, .one (.bool)), (4, .one (.bool)), (5, .one (.bool))], []⟩, ⟨[(50, .one (.bool))], []⟩⟩), (11, ⟨[], ⟨[(1, .kptr [.int .i64, .int .i64, .sl 104 (.cons (.int .i64) (.cons (.int .i64) (.cons (.int .i64) (.cons .bool (.cons (.int .i64) (.cons (.sl 136 (.cons .str (.cons (.int .i64) (.cons (.int .i64) (.cons .str .nil))))) (.cons (.int .i64) (.cons .str (.cons (.sl 138 (.cons (.int .i64) (.cons (.int .i64) (.cons (.int .i64) (.cons .str (.cons (.int .i64) (.cons (.int .i64) (.cons .str .nil)))))))) .nil))))))))) false, .str, .int .i64] 0), (3, .one (.bool)), (4, .one (.bool)), (5, .one (.bool))], []⟩, ⟨[(74, .one (.bool))], []⟩⟩), (13, ⟨[], ⟨[(1, .kptr [.int .i64, .int .i64, .sl 104 (.cons (.int .i64) (.cons (.int .i64) (.cons (.int .i64) (.cons .bool (.cons (.int .i64) (.cons (.sl 136 (.cons .str (.cons (.int .i64) (.cons (.int .i64) (.cons .str .nil))))) (.cons (.int .i64) (.cons .str (.cons (.sl 138 (.cons (.int .i64) (.cons (.int .i64) (.cons (.int .i64) (.cons .str (.cons (.int .i64) (.cons (.int .i64) (.cons .str .nil)))))))) .nil))))))))) false, .str, .int .i64] 0), (3, .one (.bool)), (4, .one (.bool)), (5, .one (.bool))], []⟩, ⟨[(97, .one (.bool))], []⟩⟩), (15, ⟨[], ⟨[(1, .kptr [.int .i64, .int .i64, .sl 104 (.cons (.int .i64) (.cons (.int .i64) (.cons (.int .i64) (.cons .bool (.cons (.int .i64) (.cons (.sl 136 (.cons .str (.cons (.int .i64) (.cons (.int .i64) (.cons .str .nil))))) (.cons (.int .i64) (.cons .str (.cons (.sl 138 (.cons (.int .i64) (.cons (.int .i64) (.cons (.int .i64) (.cons .str (.cons (.int .i64) (.cons (.int .i64) (.cons .str .nil)))))))) .nil))))))))) false, .str, .int .i64] 0), (3, .one (.bool)), (4, .one (.bool)), (5, .one (.bool))], []⟩, ⟨[(118, .one (.bool))], []⟩⟩), (17, ⟨[], ⟨[(1, .kptr [.int .i64, .int .i64, .sl 104 (.cons (.int .i64) (.cons (.int .i64) (.cons (.int .i64) (.cons .bool (.cons (.int .i64) (.cons (.sl 136 (.cons .str (.cons (.int .i64) (.cons (.int .i64) (.cons .str .nil))))) (.cons (.int .i64) (.cons .str (.cons (.sl 138 (.cons (.int .i64) (.cons (.int .i64) (.cons (.int .i64) (.cons .str (.cons (.int .i64) (.cons (.int .i64) (.cons .str .nil)))))))) .nil))))))))) false, .str, .int .i64] 0), (3, .one (.bool)), (4, .one (.bool)), (5, .one (.bool))], []⟩, ⟨[(139, .one (.bool))], []⟩⟩), (19, ⟨[], ⟨[(1, .kptr [.int .i64, .int .i64, .sl 104 (.cons (.int .i64) (.cons (.int .i64) (.cons (.int .i64) (.cons .bool (.cons (.int .i64) (.cons (.sl 136 (.cons .str (.cons (.int .i64) (.cons (.int .i64) (.cons .str .nil))))) (.cons (.int .i64) (.cons .str (.cons (.sl 138 (.cons (.int .i64) (.cons (.int .i64) (.cons (.int .i64) (.cons .str (.cons (.int .i64) (.cons (.int .i64) (.cons .str .nil)))))))) .nil))))))))) false, .str, .int .i64] 0), (3, .one (.bool)), (4, .one (.bool)), (5, .one (.bool))], []⟩, ⟨[(158, .one (.bool))], []⟩⟩), (21, ⟨[], ⟨[(1, .kptr [.int .i64, .int .i64, .sl 104 (.cons (.int .i64) (.cons (.int .i64) (.cons (.int .i64) (.cons .bool (.cons (.int .i64) (.cons (.sl 136 (.cons .str (.cons (.int .i64) (.cons (.int .i64) (.cons .str .nil))))) (.cons (.int .i64) (.cons .str (.cons (.sl 138 (.cons (.int .i64) (.cons (.int .i64) (.cons (.int .i64) (.cons .str (.cons (.int .i64) (.cons (.int .i64) (.cons .str .nil)))))))) .nil))))))))) false, .str, .int .i64] 0)], []⟩, ⟨[(184, .one (.bool))], []⟩⟩)] []
def VC_spec_FormatAction (a0 : Int) (a1 : Int) (a2 : List
  (Int × Int × Int × Bool × Int × List (List UInt8 × Int × Int × List UInt8 × Unit) × Int × List UInt8 × List (Int × Int × Int × List UInt8 × Int × Int × List UInt8 × Unit) × Unit)) (a3 : List UInt8) (a4 : Int) (K : List UInt8 × Unit → Prop) : Prop :=
  True ∧
    let r0 := decide ((0 : Int) ≤ a1) && decide (a1 ≤ (1000000000 : Int));
    True ∧
      let r1 := decide ((0 : Int) ≤ a4) && decide (a4 ≤ (1000000000 : Int));
      True ∧
        let s2 := (((a0, a1, a2, a3, a4, ()), r0, r1, Sp.validStr a3, ()), ());
        ∃ (J : Unit × Unit → Prop),
          (True ∧
              let r3 := Sp.validAct a0 a2.length;
              bif !r3 then K ([], ())
              else bif decide ((↑a2.length : Int) > (0 : Int)) then bif decide (a0 > (2 : Int)) then K ([], ()) else s2 = s2 ∧ J ((), ()) else s2 = s2 ∧ J ((), ())) ∧
            ∀ (y4 : Unit × Unit),
              J y4 →
                let s5 := (((a0, a1, a2, a3, a4, ()), r0, r1, Sp.validStr a3, ()), ());
                ∃ (J : (Bool × Unit) × Unit → Prop),
                  (bif a0 == (1 : Int) then
                      bif r0 then bif a4 == (0 : Int) then s5 = s5 ∧ J ((a3 == [], ()), ()) else s5 = s5 ∧ J ((false, ()), ()) else s5 = s5 ∧ J ((false, ()), ())
                    else s5 = s5 ∧ J ((false, ()), ())) ∧
                    ∀ (y6 : (Bool × Unit) × Unit),
                      J y6 →
                        bif y6.fst.fst then
                          True ∧
                            [(99 : UInt8), (111 : UInt8), (109 : UInt8), (109 : UInt8), (105 : UInt8), (116 : UInt8), (32 : UInt8)].length + (Lib.itoa a1).length ≤ maxLen ∧
                              K ([(99 : UInt8), (111 : UInt8), (109 : UInt8), (109 : UInt8), (105 : UInt8), (116 : UInt8), (32 : UInt8)] ++ Lib.itoa a1, ())
                        else
                          let s7 := (((a0, a1, a2, a3, a4, ()), r0, r1, Sp.validStr a3, ()), ());
                          ∃ (J : (Bool × Unit) × Unit → Prop),
                            (bif a0 == (2 : Int) then bif r0 then bif r1 then s7 = s7 ∧ J ((a3 == [], ()), ()) else s7 = s7 ∧ J ((false, ()), ()) else s7 = s7 ∧ J ((false, ()), ())
                              else s7 = s7 ∧ J ((false, ()), ())) ∧
                              ∀ (y8 : (Bool × Unit) × Unit),
                                J y8 →
                                  bif y8.fst.fst then
                                    True ∧
                                      [(99 : UInt8), (114 : UInt8), (97 : UInt8), (115 : UInt8), (104 : UInt8), (32 : UInt8)].length + (Lib.itoa a1).length ≤ maxLen ∧
                                        ([(99 : UInt8), (114 : UInt8), (97 : UInt8), (115 : UInt8), (104 : UInt8), (32 : UInt8)] ++ Lib.itoa a1).length + [(32 : UInt8)].length ≤
                                            maxLen ∧
                                          True ∧
                                            ([(99 : UInt8), (114 : UInt8), (97 : UInt8), (115 : UInt8), (104 : UInt8), (32 : UInt8)] ++ Lib.itoa a1 ++ [(32 : UInt8)]).length +
                                                  (Lib.itoa a4).length ≤
                                                maxLen ∧
                                              K
                                                ([(99 : UInt8), (114 : UInt8), (97 : UInt8), (115 : UInt8), (104 : UInt8), (32 : UInt8)] ++ Lib.itoa a1 ++ [(32 : UInt8)] ++
                                                    Lib.itoa a4,
                                                  ())
                                  else
                                    let s9 := (((a0, a1, a2, a3, a4, ()), r0, r1, Sp.validStr a3, ()), ());
                                    ∃ (J : (Bool × Unit) × Unit → Prop),
                                      (bif a0 == (3 : Int) then
                                          bif r0 then bif Sp.validStr a3 then s9 = s9 ∧ J ((a4 == (0 : Int), ()), ()) else s9 = s9 ∧ J ((false, ()), ())
                                          else s9 = s9 ∧ J ((false, ()), ())
                                        else s9 = s9 ∧ J ((false, ()), ())) ∧
                                        ∀ (y10 : (Bool × Unit) × Unit),
                                          J y10 →
                                            bif y10.fst.fst then
                                              True ∧
                                                [(119 : UInt8), (97 : UInt8), (116 : UInt8), (99 : UInt8), (104 : UInt8), (32 : UInt8)].length + (Lib.itoa a1).length ≤ maxLen ∧
                                                  ([(119 : UInt8), (97 : UInt8), (116 : UInt8), (99 : UInt8), (104 : UInt8), (32 : UInt8)] ++ Lib.itoa a1).length +
                                                        [(32 : UInt8)].length ≤
                                                      maxLen ∧
                                                    ([(119 : UInt8), (97 : UInt8), (116 : UInt8), (99 : UInt8), (104 : UInt8), (32 : UInt8)] ++ Lib.itoa a1 ++
                                                              [(32 : UInt8)]).length +
                                                          a3.length ≤
                                                        maxLen ∧
                                                      K
                                                        ([(119 : UInt8), (97 : UInt8), (116 : UInt8), (99 : UInt8), (104 : UInt8), (32 : UInt8)] ++ Lib.itoa a1 ++ [(32 : UInt8)] ++
                                                            a3,
                                                          ())
                                            else
                                              let s11 := (((a0, a1, a2, a3, a4, ()), r0, r1, Sp.validStr a3, ()), ());
                                              ∃ (J : (Bool × Unit) × Unit → Prop),
                                                (bif a0 == (4 : Int) then
                                                    bif a1 == (0 : Int) then bif r1 then s11 = s11 ∧ J ((a3 == [], ()), ()) else s11 = s11 ∧ J ((false, ()), ())
                                                    else s11 = s11 ∧ J ((false, ()), ())
                                                  else s11 = s11 ∧ J ((false, ()), ())) ∧
                                                  ∀ (y12 : (Bool × Unit) × Unit),
                                                    J y12 →
                                                      bif y12.fst.fst then
                                                        True ∧
                                                          [(112 : UInt8), (105 : UInt8), (110 : UInt8), (32 : UInt8)].length + (Lib.itoa a4).length ≤ maxLen ∧
                                                            K ([(112 : UInt8), (105 : UInt8), (110 : UInt8), (32 : UInt8)] ++ Lib.itoa a4, ())
                                                      else
                                                        let s13 := (((a0, a1, a2, a3, a4, ()), r0, r1, Sp.validStr a3, ()), ());
                                                        ∃ (J : (Bool × Unit) × Unit → Prop),
                                                          (bif a0 == (5 : Int) then
                                                              bif a1 == (0 : Int) then bif r1 then s13 = s13 ∧ J ((a3 == [], ()), ()) else s13 = s13 ∧ J ((false, ()), ())
                                                              else s13 = s13 ∧ J ((false, ()), ())
                                                            else s13 = s13 ∧ J ((false, ()), ())) ∧
                                                            ∀ (y14 : (Bool × Unit) × Unit),
                                                              J y14 →
                                                                bif y14.fst.fst then
                                                                  True ∧
                                                                    [(117 : UInt8), (110 : UInt8), (112 : UInt8), (105 : UInt8), (110 : UInt8), (32 : UInt8)].length +
                                                                          (Lib.itoa a4).length ≤
                                                                        maxLen ∧
                                                                      K ([(117 : UInt8), (110 : UInt8), (112 : UInt8), (105 : UInt8), (110 : UInt8), (32 : UInt8)] ++ Lib.itoa a4, ())
                                                                else
                                                                  let s15 := (((a0, a1, a2, a3, a4, ()), r0, r1, Sp.validStr a3, ()), ());
                                                                  ∃ (J : (Bool × Unit) × Unit → Prop),
                                                                    (bif a0 == (6 : Int) then
                                                                        bif a1 == (0 : Int) then
                                                                          bif a4 == (0 : Int) then s15 = s15 ∧ J ((a3 == [], ()), ()) else s15 = s15 ∧ J ((false, ()), ())
                                                                        else s15 = s15 ∧ J ((false, ()), ())
                                                                      else s15 = s15 ∧ J ((false, ()), ())) ∧
                                                                      ∀ (y16 : (Bool × Unit) × Unit),
                                                                        J y16 →
                                                                          bif y16.fst.fst then
                                                                            K
                                                                              ([(99 : UInt8), (111 : UInt8), (108 : UInt8), (108 : UInt8), (101 : UInt8), (99 : UInt8),
                                                                                  (116 : UInt8)],
                                                                                ())
                                                                          else
                                                                            let s17 := (((a0, a1, a2, a3, a4, ()), r0, r1, Sp.validStr a3, ()), ());
                                                                            ∃ (J : (Bool × Unit) × Unit → Prop),
                                                                              (bif a0 == (7 : Int) then
                                                                                  bif r0 then
                                                                                    bif r1 then s17 = s17 ∧ J ((Sp.validStr a3, ()), ()) else s17 = s17 ∧ J ((false, ()), ())
                                                                                  else s17 = s17 ∧ J ((false, ()), ())
                                                                                else s17 = s17 ∧ J ((false, ()), ())) ∧
                                                                                ∀ (y18 : (Bool × Unit) × Unit),
                                                                                  J y18 →
                                                                                    bif y18.fst.fst then
                                                                                      True ∧
                                                                                        [(97 : UInt8), (100 : UInt8), (100 : UInt8), (32 : UInt8)].length + (Lib.itoa a1).length ≤
                                                                                            maxLen ∧
                                                                                          ([(97 : UInt8), (100 : UInt8), (100 : UInt8), (32 : UInt8)] ++ Lib.itoa a1).length +
                                                                                                [(32 : UInt8)].length ≤
                                                                                              maxLen ∧
                                                                                            ([(97 : UInt8), (100 : UInt8), (100 : UInt8), (32 : UInt8)] ++ Lib.itoa a1 ++
                                                                                                      [(32 : UInt8)]).length +
                                                                                                  a3.length ≤
                                                                                                maxLen ∧
                                                                                              ([(97 : UInt8), (100 : UInt8), (100 : UInt8), (32 : UInt8)] ++ Lib.itoa a1 ++
                                                                                                          [(32 : UInt8)] ++
                                                                                                        a3).length +
                                                                                                    [(32 : UInt8)].length ≤
                                                                                                  maxLen ∧
                                                                                                True ∧
                                                                                                  ([(97 : UInt8), (100 : UInt8), (100 : UInt8), (32 : UInt8)] ++ Lib.itoa a1 ++
                                                                                                                [(32 : UInt8)] ++
                                                                                                              a3 ++
                                                                                                            [(32 : UInt8)]).length +
                                                                                                        (Lib.itoa a4).length ≤
                                                                                                      maxLen ∧
                                                                                                    K
                                                                                                      ([(97 : UInt8), (100 : UInt8), (100 : UInt8), (32 : UInt8)] ++ Lib.itoa a1 ++
                                                                                                                [(32 : UInt8)] ++
                                                                                                              a3 ++
                                                                                                            [(32 : UInt8)] ++
                                                                                                          Lib.itoa a4,
                                                                                                        ())
                                                                                    else
                                                                                      let s19 := (((a0, a1, a2, a3, a4, ()), ()), ());
                                                                                      ∃ (J : (Bool × Unit) × Unit → Prop),
                                                                                        (bif a0 == (8 : Int) then
                                                                                            bif r0 then
                                                                                              bif r1 then s19 = s19 ∧ J ((Sp.validStr a3, ()), ())
                                                                                              else s19 = s19 ∧ J ((false, ()), ())
                                                                                            else s19 = s19 ∧ J ((false, ()), ())
                                                                                          else s19 = s19 ∧ J ((false, ()), ())) ∧
                                                                                          ∀ (y20 : (Bool × Unit) × Unit),
                                                                                            J y20 →
                                                                                              bif y20.fst.fst then
                                                                                                True ∧
                                                                                                  [(114 : UInt8), (101 : UInt8), (109 : UInt8), (111 : UInt8), (118 : UInt8),
                                                                                                            (101 : UInt8), (32 : UInt8)].length +
                                                                                                        (Lib.itoa a1).length ≤
                                                                                                      maxLen ∧
                                                                                                    ([(114 : UInt8), (101 : UInt8), (109 : UInt8), (111 : UInt8), (118 : UInt8),
                                                                                                                (101 : UInt8), (32 : UInt8)] ++
                                                                                                              Lib.itoa a1).length +
                                                                                                          [(32 : UInt8)].length ≤
                                                                                                        maxLen ∧
                                                                                                      ([(114 : UInt8), (101 : UInt8), (109 : UInt8), (111 : UInt8), (118 : UInt8),
                                                                                                                    (101 : UInt8), (32 : UInt8)] ++
                                                                                                                  Lib.itoa a1 ++
                                                                                                                [(32 : UInt8)]).length +
                                                                                                            a3.length ≤
                                                                                                          maxLen ∧
                                                                                                        ([(114 : UInt8), (101 : UInt8), (109 : UInt8), (111 : UInt8), (118 : UInt8),
                                                                                                                        (101 : UInt8), (32 : UInt8)] ++
                                                                                                                      Lib.itoa a1 ++
                                                                                                                    [(32 : UInt8)] ++
                                                                                                                  a3).length +
                                                                                                              [(32 : UInt8)].length ≤
                                                                                                            maxLen ∧
                                                                                                          True ∧
                                                                                                            ([(114 : UInt8), (101 : UInt8), (109 : UInt8), (111 : UInt8),
                                                                                                                              (118 : UInt8), (101 : UInt8), (32 : UInt8)] ++
                                                                                                                            Lib.itoa a1 ++
                                                                                                                          [(32 : UInt8)] ++
                                                                                                                        a3 ++
                                                                                                                      [(32 : UInt8)]).length +
                                                                                                                  (Lib.itoa a4).length ≤
                                                                                                                maxLen ∧
                                                                                                              K
                                                                                                                ([(114 : UInt8), (101 : UInt8), (109 : UInt8), (111 : UInt8),
                                                                                                                              (118 : UInt8), (101 : UInt8), (32 : UInt8)] ++
                                                                                                                            Lib.itoa a1 ++
                                                                                                                          [(32 : UInt8)] ++
                                                                                                                        a3 ++
                                                                                                                      [(32 : UInt8)] ++
                                                                                                                    Lib.itoa a4,
                                                                                                                  ())
                                                                                              else K ([], ())
theorem wk_spec_FormatAction (env : EnvB prog G Θ Γ_spec_FormatAction) (h : ∀ (a0 : Int) (a1 : Int) (a2 : List
  (Int × Int × Int × Bool × Int × List (List UInt8 × Int × Int × List UInt8 × Unit) × Int × List UInt8 × List (Int × Int × Int × List UInt8 × Int × Int × List UInt8 × Unit) × Unit)) (a3 : List UInt8) (a4 : Int), ((((-9223372036854775808 : Int) ≤ a0 ∧ a0 ≤ (9223372036854775807 : Int)) ∧
    ((-9223372036854775808 : Int) ≤ a1 ∧ a1 ≤ (9223372036854775807 : Int)) ∧
      (a2.length ≤ maxLen ∧
          ∀
            (x :
              Int ×
                Int ×
                  Int ×
                    Bool × Int × List (List UInt8 × Int × Int × List UInt8 × Unit) × Int × List UInt8 × List (Int × Int × Int × List UInt8 × Int × Int × List UInt8 × Unit) × Unit),
            x ∈ a2 →
              ((-9223372036854775808 : Int) ≤ x.fst ∧ x.fst ≤ (9223372036854775807 : Int)) ∧
                ((-9223372036854775808 : Int) ≤ x.snd.fst ∧ x.snd.fst ≤ (9223372036854775807 : Int)) ∧
                  ((-9223372036854775808 : Int) ≤ x.snd.snd.fst ∧ x.snd.snd.fst ≤ (9223372036854775807 : Int)) ∧
                    True ∧
                      ((-9223372036854775808 : Int) ≤ x.snd.snd.snd.snd.fst ∧ x.snd.snd.snd.snd.fst ≤ (9223372036854775807 : Int)) ∧
                        (List.length x.snd.snd.snd.snd.snd.fst ≤ maxLen ∧
                            ∀ (x_1 : List UInt8 × Int × Int × List UInt8 × Unit),
                              x_1 ∈ x.snd.snd.snd.snd.snd.fst →
                                (List.length x_1.fst).le maxLen ∧
                                  ((-9223372036854775808 : Int) ≤ x_1.snd.fst ∧ x_1.snd.fst ≤ (9223372036854775807 : Int)) ∧
                                    ((-9223372036854775808 : Int) ≤ x_1.snd.snd.fst ∧ x_1.snd.snd.fst ≤ (9223372036854775807 : Int)) ∧
                                      (List.length x_1.snd.snd.snd.fst).le maxLen ∧ True) ∧
                          ((-9223372036854775808 : Int) ≤ x.snd.snd.snd.snd.snd.snd.fst ∧ x.snd.snd.snd.snd.snd.snd.fst ≤ (9223372036854775807 : Int)) ∧
                            (List.length x.snd.snd.snd.snd.snd.snd.snd.fst).le maxLen ∧
                              (List.length x.snd.snd.snd.snd.snd.snd.snd.snd.fst ≤ maxLen ∧
                                  ∀ (x_1 : Int × Int × Int × List UInt8 × Int × Int × List UInt8 × Unit),
                                    x_1 ∈ x.snd.snd.snd.snd.snd.snd.snd.snd.fst →
                                      ((-9223372036854775808 : Int) ≤ x_1.fst ∧ x_1.fst ≤ (9223372036854775807 : Int)) ∧
                                        ((-9223372036854775808 : Int) ≤ x_1.snd.fst ∧ x_1.snd.fst ≤ (9223372036854775807 : Int)) ∧
                                          ((-9223372036854775808 : Int) ≤ x_1.snd.snd.fst ∧ x_1.snd.snd.fst ≤ (9223372036854775807 : Int)) ∧
                                            (List.length x_1.snd.snd.snd.fst).le maxLen ∧
                                              ((-9223372036854775808 : Int) ≤ x_1.snd.snd.snd.snd.fst ∧ x_1.snd.snd.snd.snd.fst ≤ (9223372036854775807 : Int)) ∧
                                                ((-9223372036854775808 : Int) ≤ x_1.snd.snd.snd.snd.snd.fst ∧ x_1.snd.snd.snd.snd.snd.fst ≤ (9223372036854775807 : Int)) ∧
                                                  (List.length x_1.snd.snd.snd.snd.snd.snd.fst).le maxLen ∧ True) ∧
                                True) ∧
        a3.length.le maxLen ∧ ((-9223372036854775808 : Int) ≤ a4 ∧ a4 ≤ (9223372036854775807 : Int)) ∧ True) ∧
  True) → (a3.length ≤ (1048576 : Nat)) → VC_spec_FormatAction a0 a1 a2 a3 a4 fun r => r = ((Sp.actionText a0 a1 a2.length a3 a4, ()))) : ConOK prog G n_spec_FormatAction con_spec_FormatAction :=
  conR_ok env mixed (fn := f16) (c := codeOf f16) (by kernel_rfl) (by kernel_rfl) H_spec_FormatAction (by kernel_rfl) fun ⟨⟨a0, a1, a2, a3, a4, ⟨⟩⟩, ⟨⟩⟩ hin hp =>
    Eq.mpr ((by kernel_rfl : awp Θ Γ_spec_FormatAction H_spec_FormatAction (codeOf f16) (endsV Θ f16.results.toList rsh_spec_FormatAction fun r => r = (F_spec_FormatAction ((a0, a1, a2, a3, a4, ()), ())).2) (entry f16.ntmps (psVals sh_spec_FormatAction ((a0, a1, a2, a3, a4, ()), ()))) = VC_spec_FormatAction a0 a1 a2 a3 a4 fun r => r = ((Sp.actionText a0 a1 a2.length a3 a4, ())))) (h a0 a1 a2 a3 a4 hin hp)

def H_impl_FormatAction : Hints := Go.Fw.hints [16, 24, 35, 44, 52, 62, 76, 87] [] [(26, ⟨[], ⟨[(1, .kptr [.int .i64, .int .i64, .sl 104 (.cons (.int .i64) (.cons (.int .i64) (.cons (.int .i64) (.cons .bool (.cons (.int .i64) (.cons (.sl 136 (.cons .str (.cons (.int .i64) (.cons (.int .i64) (.cons .str .nil))))) (.cons (.int .i64) (.cons .str (.cons (.sl 138 (.cons (.int .i64) (.cons (.int .i64) (.cons (.int .i64) (.cons .str (.cons (.int .i64) (.cons (.int .i64) (.cons .str .nil)))))))) .nil))))))))) false, .str, .int .i64] 0), (3, .vptr 192 0)], []⟩, ⟨[(4, .one (.sl 9 (.cons .str .nil) true))], [(192, .var [.int .i64, .int .i64, .nil, .str, .int .i64])]⟩⟩), (27, ⟨[], ⟨[(1, .kptr [.int .i64, .int .i64, .sl 104 (.cons (.int .i64) (.cons (.int .i64) (.cons (.int .i64) (.cons .bool (.cons (.int .i64) (.cons (.sl 136 (.cons .str (.cons (.int .i64) (.cons (.int .i64) (.cons .str .nil))))) (.cons (.int .i64) (.cons .str (.cons (.sl 138 (.cons (.int .i64) (.cons (.int .i64) (.cons (.int .i64) (.cons .str (.cons (.int .i64) (.cons (.int .i64) (.cons .str .nil)))))))) .nil))))))))) false, .str, .int .i64] 0), (3, .vptr 192 0), (4, .one (.sl 9 (.cons .str .nil) true))], [(192, .var [.int .i64, .int .i64, .nil, .str, .int .i64])]⟩, ⟨[(5, .one (.bool))], []⟩⟩), (28, ⟨[], ⟨[(1, .kptr [.int .i64, .int .i64, .sl 104 (.cons (.int .i64) (.cons (.int .i64) (.cons (.int .i64) (.cons .bool (.cons (.int .i64) (.cons (.sl 136 (.cons .str (.cons (.int .i64) (.cons (.int .i64) (.cons .str .nil))))) (.cons (.int .i64) (.cons .str (.cons (.sl 138 (.cons (.int .i64) (.cons (.int .i64) (.cons (.int .i64) (.cons .str (.cons (.int .i64) (.cons (.int .i64) (.cons .str .nil)))))))) .nil))))))))) false, .str, .int .i64] 0), (3, .vptr 192 0), (4, .one (.sl 9 (.cons .str .nil) true)), (5, .one (.bool))], [(192, .var [.int .i64, .int .i64, .nil, .str, .int .i64])]⟩, ⟨[(6, .one (.bool))], []⟩⟩)] []
def VC_impl_FormatAction (a0 : Int) (a1 : Int) (a2 : List
  (Int × Int × Int × Bool × Int × List (List UInt8 × Int × Int × List UInt8 × Unit) × Int × List UInt8 × List (Int × Int × Int × List UInt8 × Int × Int × List UInt8 × Unit) × Unit)) (a3 : List UInt8) (a4 : Int) (K : List UInt8 × Unit → Prop) : Prop :=
  let s0 := (((a0, a1, a2, a3, a4, ()), (), ()), ());
  ∃ (J : (List (List UInt8 × Unit) × Unit) × (Int × Int × Unit × List UInt8 × Int × Unit) × Unit → Prop),
    (bif a0 == (1 : Int) then
        True ∧
          s0 = s0 ∧
            J (([([(99 : UInt8), (111 : UInt8), (109 : UInt8), (109 : UInt8), (105 : UInt8), (116 : UInt8)], ()), (Lib.itoa a1, ())], ()), (a0, a1, (), [], (0 : Int), ()), ())
      else
        bif a0 == (2 : Int) then
          True ∧
            True ∧
              s0 = s0 ∧
                J (([([(99 : UInt8), (114 : UInt8), (97 : UInt8), (115 : UInt8), (104 : UInt8)], ()), (Lib.itoa a1, ()), (Lib.itoa a4, ())], ()), (a0, a1, (), [], a4, ()), ())
        else
          bif a0 == (3 : Int) then
            True ∧
              s0 = s0 ∧ J (([([(119 : UInt8), (97 : UInt8), (116 : UInt8), (99 : UInt8), (104 : UInt8)], ()), (Lib.itoa a1, ()), (a3, ())], ()), (a0, a1, (), a3, (0 : Int), ()), ())
          else
            bif a0 == (4 : Int) then
              bif a0 == (4 : Int) then
                True ∧
                  bif a0 == (5 : Int) then
                    ((0 : Int) ≤ (0 : Int) ∧ (0 : Int) < (↑[([(112 : UInt8), (105 : UInt8), (110 : UInt8)], ()), (Lib.itoa a4, ())].length : Int)) ∧
                      Int.toNat (0 : Int) < [([(112 : UInt8), (105 : UInt8), (110 : UInt8)], ()), (Lib.itoa a4, ())].length ∧
                        s0 = s0 ∧
                          J
                            (([([(112 : UInt8), (105 : UInt8), (110 : UInt8)], ()), (Lib.itoa a4, ())].set (Int.toNat (0 : Int))
                                  ([(117 : UInt8), (110 : UInt8), (112 : UInt8), (105 : UInt8), (110 : UInt8)], ()),
                                ()),
                              (a0, (0 : Int), (), [], a4, ()), ())
                  else s0 = s0 ∧ J (([([(112 : UInt8), (105 : UInt8), (110 : UInt8)], ()), (Lib.itoa a4, ())], ()), (a0, (0 : Int), (), [], a4, ()), ())
              else
                bif a0 == (6 : Int) then
                  s0 = s0 ∧
                    J
                      (([([(99 : UInt8), (111 : UInt8), (108 : UInt8), (108 : UInt8), (101 : UInt8), (99 : UInt8), (116 : UInt8)], ())], ()), (a0, (0 : Int), (), [], (0 : Int), ()),
                        ())
                else
                  bif a0 == (7 : Int) then
                    True ∧
                      True ∧ s0 = s0 ∧ J (([([(97 : UInt8), (100 : UInt8), (100 : UInt8)], ()), (Lib.itoa a1, ()), (a3, ()), (Lib.itoa a4, ())], ()), (a0, a1, (), a3, a4, ()), ())
                  else
                    bif a0 == (8 : Int) then
                      True ∧
                        True ∧
                          s0 = s0 ∧
                            J
                              (([([(114 : UInt8), (101 : UInt8), (109 : UInt8), (111 : UInt8), (118 : UInt8), (101 : UInt8)], ()), (Lib.itoa a1, ()), (a3, ()), (Lib.itoa a4, ())],
                                  ()),
                                (a0, a1, (), a3, a4, ()), ())
                    else s0 = s0 ∧ J (([], ()), (a0, a1, (), a3, a4, ()), ())
            else
              bif a0 == (5 : Int) then
                True ∧
                  bif a0 == (5 : Int) then
                    ((0 : Int) ≤ (0 : Int) ∧ (0 : Int) < (↑[([(112 : UInt8), (105 : UInt8), (110 : UInt8)], ()), (Lib.itoa a4, ())].length : Int)) ∧
                      Int.toNat (0 : Int) < [([(112 : UInt8), (105 : UInt8), (110 : UInt8)], ()), (Lib.itoa a4, ())].length ∧
                        s0 = s0 ∧
                          J
                            (([([(112 : UInt8), (105 : UInt8), (110 : UInt8)], ()), (Lib.itoa a4, ())].set (Int.toNat (0 : Int))
                                  ([(117 : UInt8), (110 : UInt8), (112 : UInt8), (105 : UInt8), (110 : UInt8)], ()),
                                ()),
                              (a0, (0 : Int), (), [], a4, ()), ())
                  else s0 = s0 ∧ J (([([(112 : UInt8), (105 : UInt8), (110 : UInt8)], ()), (Lib.itoa a4, ())], ()), (a0, (0 : Int), (), [], a4, ()), ())
              else
                bif a0 == (6 : Int) then
                  s0 = s0 ∧
                    J
                      (([([(99 : UInt8), (111 : UInt8), (108 : UInt8), (108 : UInt8), (101 : UInt8), (99 : UInt8), (116 : UInt8)], ())], ()), (a0, (0 : Int), (), [], (0 : Int), ()),
                        ())
                else
                  bif a0 == (7 : Int) then
                    True ∧
                      True ∧ s0 = s0 ∧ J (([([(97 : UInt8), (100 : UInt8), (100 : UInt8)], ()), (Lib.itoa a1, ()), (a3, ()), (Lib.itoa a4, ())], ()), (a0, a1, (), a3, a4, ()), ())
                  else
                    bif a0 == (8 : Int) then
                      True ∧
                        True ∧
                          s0 = s0 ∧
                            J
                              (([([(114 : UInt8), (101 : UInt8), (109 : UInt8), (111 : UInt8), (118 : UInt8), (101 : UInt8)], ()), (Lib.itoa a1, ()), (a3, ()), (Lib.itoa a4, ())],
                                  ()),
                                (a0, a1, (), a3, a4, ()), ())
                    else s0 = s0 ∧ J (([], ()), (a0, a1, (), a3, a4, ()), ())) ∧
      ∀ (y1 : (List (List UInt8 × Unit) × Unit) × (Int × Int × Unit × List UInt8 × Int × Unit) × Unit),
        J y1 →
          let s2 := (((a0, a1, a2, a3, a4, ()), (), y1.fst.fst, ()), (y1.snd.fst.fst, y1.snd.fst.snd.fst, (), y1.snd.fst.snd.snd.snd.fst, y1.snd.fst.snd.snd.snd.snd.fst, ()), ());
          ∃ (J : (Bool × Unit) × Unit → Prop),
            (bif a0 == (3 : Int) then s2 = s2 ∧ J ((true, ()), ()) else bif a0 == (7 : Int) then s2 = s2 ∧ J ((true, ()), ()) else s2 = s2 ∧ J ((a0 == (8 : Int), ()), ())) ∧
              ∀ (y3 : (Bool × Unit) × Unit),
                J y3 →
                  let s4 :=
                    (((a0, a1, a2, a3, a4, ()), (), y1.fst.fst, y3.fst.fst, ()),
                      (y1.snd.fst.fst, y1.snd.fst.snd.fst, (), y1.snd.fst.snd.snd.snd.fst, y1.snd.fst.snd.snd.snd.snd.fst, ()), ());
                  ∃ (J : (Bool × Unit) × Unit → Prop),
                    (bif a0 == (1 : Int) then s4 = s4 ∧ J ((true, ()), ()) else s4 = s4 ∧ J ((a0 == (2 : Int), ()), ())) ∧
                      ∀ (y5 : (Bool × Unit) × Unit),
                        J y5 →
                          True ∧
                            let r6 := Sp.validAct a0 a2.length;
                            bif !r6 then K ([], ())
                            else
                              bif y1.snd.fst.snd.fst != a1 then K ([], ())
                              else
                                bif !y1.snd.fst.snd.snd.snd.fst == a3 then K ([], ())
                                else
                                  bif y1.snd.fst.snd.snd.snd.snd.fst != a4 then K ([], ())
                                  else
                                    True ∧
                                      let r7 := Sp.areUints [(a1, ()), (a4, ())];
                                      bif !r7 then K ([], ())
                                      else
                                        bif y3.fst.fst then
                                          True ∧
                                            bif !Sp.validStr a3 then K ([], ())
                                            else
                                              bif !y5.fst.fst then
                                                bif decide ((↑a2.length : Int) > (0 : Int)) then K ([], ())
                                                else
                                                  (List.length y1.fst.fst ≤ (140737488355328 : Nat) ∧
                                                      (Lib.join (List.map (fun (x : List UInt8 × Unit) => x.fst) y1.fst.fst) [(32 : UInt8)]).length ≤ (140737488355328 : Nat)) ∧
                                                    let r8 := Lib.join (List.map (fun (x : List UInt8 × Unit) => x.fst) y1.fst.fst) [(32 : UInt8)];
                                                    K (r8, ())
                                              else
                                                (List.length y1.fst.fst ≤ (140737488355328 : Nat) ∧
                                                    (Lib.join (List.map (fun (x : List UInt8 × Unit) => x.fst) y1.fst.fst) [(32 : UInt8)]).length ≤ (140737488355328 : Nat)) ∧
                                                  let r9 := Lib.join (List.map (fun (x : List UInt8 × Unit) => x.fst) y1.fst.fst) [(32 : UInt8)];
                                                  K (r9, ())
                                        else
                                          bif !y5.fst.fst then
                                            bif decide ((↑a2.length : Int) > (0 : Int)) then K ([], ())
                                            else
                                              (List.length y1.fst.fst ≤ (140737488355328 : Nat) ∧
                                                  (Lib.join (List.map (fun (x : List UInt8 × Unit) => x.fst) y1.fst.fst) [(32 : UInt8)]).length ≤ (140737488355328 : Nat)) ∧
                                                let r10 := Lib.join (List.map (fun (x : List UInt8 × Unit) => x.fst) y1.fst.fst) [(32 : UInt8)];
                                                K (r10, ())
                                          else
                                            (List.length y1.fst.fst ≤ (140737488355328 : Nat) ∧
                                                (Lib.join (List.map (fun (x : List UInt8 × Unit) => x.fst) y1.fst.fst) [(32 : UInt8)]).length ≤ (140737488355328 : Nat)) ∧
                                              let r11 := Lib.join (List.map (fun (x : List UInt8 × Unit) => x.fst) y1.fst.fst) [(32 : UInt8)];
                                              K (r11, ())
theorem wk_impl_FormatAction (env : EnvB prog G Θ Γ_impl_FormatAction) (h : ∀ (a0 : Int) (a1 : Int) (a2 : List
  (Int × Int × Int × Bool × Int × List (List UInt8 × Int × Int × List UInt8 × Unit) × Int × List UInt8 × List (Int × Int × Int × List UInt8 × Int × Int × List UInt8 × Unit) × Unit)) (a3 : List UInt8) (a4 : Int), ((((-9223372036854775808 : Int) ≤ a0 ∧ a0 ≤ (9223372036854775807 : Int)) ∧
    ((-9223372036854775808 : Int) ≤ a1 ∧ a1 ≤ (9223372036854775807 : Int)) ∧
      (a2.length ≤ maxLen ∧
          ∀
            (x :
              Int ×
                Int ×
                  Int ×
                    Bool × Int × List (List UInt8 × Int × Int × List UInt8 × Unit) × Int × List UInt8 × List (Int × Int × Int × List UInt8 × Int × Int × List UInt8 × Unit) × Unit),
            x ∈ a2 →
              ((-9223372036854775808 : Int) ≤ x.fst ∧ x.fst ≤ (9223372036854775807 : Int)) ∧
                ((-9223372036854775808 : Int) ≤ x.snd.fst ∧ x.snd.fst ≤ (9223372036854775807 : Int)) ∧
                  ((-9223372036854775808 : Int) ≤ x.snd.snd.fst ∧ x.snd.snd.fst ≤ (9223372036854775807 : Int)) ∧
                    True ∧
                      ((-9223372036854775808 : Int) ≤ x.snd.snd.snd.snd.fst ∧ x.snd.snd.snd.snd.fst ≤ (9223372036854775807 : Int)) ∧
                        (List.length x.snd.snd.snd.snd.snd.fst ≤ maxLen ∧
                            ∀ (x_1 : List UInt8 × Int × Int × List UInt8 × Unit),
                              x_1 ∈ x.snd.snd.snd.snd.snd.fst →
                                (List.length x_1.fst).le maxLen ∧
                                  ((-9223372036854775808 : Int) ≤ x_1.snd.fst ∧ x_1.snd.fst ≤ (9223372036854775807 : Int)) ∧
                                    ((-9223372036854775808 : Int) ≤ x_1.snd.snd.fst ∧ x_1.snd.snd.fst ≤ (9223372036854775807 : Int)) ∧
                                      (List.length x_1.snd.snd.snd.fst).le maxLen ∧ True) ∧
                          ((-9223372036854775808 : Int) ≤ x.snd.snd.snd.snd.snd.snd.fst ∧ x.snd.snd.snd.snd.snd.snd.fst ≤ (9223372036854775807 : Int)) ∧
                            (List.length x.snd.snd.snd.snd.snd.snd.snd.fst).le maxLen ∧
                              (List.length x.snd.snd.snd.snd.snd.snd.snd.snd.fst ≤ maxLen ∧
                                  ∀ (x_1 : Int × Int × Int × List UInt8 × Int × Int × List UInt8 × Unit),
                                    x_1 ∈ x.snd.snd.snd.snd.snd.snd.snd.snd.fst →
                                      ((-9223372036854775808 : Int) ≤ x_1.fst ∧ x_1.fst ≤ (9223372036854775807 : Int)) ∧
                                        ((-9223372036854775808 : Int) ≤ x_1.snd.fst ∧ x_1.snd.fst ≤ (9223372036854775807 : Int)) ∧
                                          ((-9223372036854775808 : Int) ≤ x_1.snd.snd.fst ∧ x_1.snd.snd.fst ≤ (9223372036854775807 : Int)) ∧
                                            (List.length x_1.snd.snd.snd.fst).le maxLen ∧
                                              ((-9223372036854775808 : Int) ≤ x_1.snd.snd.snd.snd.fst ∧ x_1.snd.snd.snd.snd.fst ≤ (9223372036854775807 : Int)) ∧
                                                ((-9223372036854775808 : Int) ≤ x_1.snd.snd.snd.snd.snd.fst ∧ x_1.snd.snd.snd.snd.snd.fst ≤ (9223372036854775807 : Int)) ∧
                                                  (List.length x_1.snd.snd.snd.snd.snd.snd.fst).le maxLen ∧ True) ∧
                                True) ∧
        a3.length.le maxLen ∧ ((-9223372036854775808 : Int) ≤ a4 ∧ a4 ≤ (9223372036854775807 : Int)) ∧ True) ∧
  True) → (a3.length ≤ (1048576 : Nat)) → VC_impl_FormatAction a0 a1 a2 a3 a4 fun r => r = ((Sp.actionText a0 a1 a2.length a3 a4, ()))) : ConOK prog G n_impl_FormatAction con_impl_FormatAction :=
  conR_ok env mixed (fn := f18) (c := codeOf f18) (by kernel_rfl) (by kernel_rfl) H_impl_FormatAction (by kernel_rfl) fun ⟨⟨a0, a1, a2, a3, a4, ⟨⟩⟩, ⟨⟩⟩ hin hp =>
    Eq.mpr ((by kernel_rfl : awp Θ Γ_impl_FormatAction H_impl_FormatAction (codeOf f18) (endsV Θ f18.results.toList rsh_impl_FormatAction fun r => r = (F_impl_FormatAction ((a0, a1, a2, a3, a4, ()), ())).2) (entry f18.ntmps (psVals sh_impl_FormatAction ((a0, a1, a2, a3, a4, ()), ()))) = VC_impl_FormatAction a0 a1 a2 a3 a4 fun r => r = ((Sp.actionText a0 a1 a2.length a3 a4, ())))) (h a0 a1 a2 a3 a4 hin hp)

def H_laws_FnExactFormatAction : Hints := Go.Fw.hints [] [] [] []
def VC_laws_FnExactFormatAction (aA0 : Int) (aA1 : Int) (aA2 : List
  (Int × Int × Int × Bool × Int × List (List UInt8 × Int × Int × List UInt8 × Unit) × Int × List UInt8 × List (Int × Int × Int × List UInt8 × Int × Int × List UInt8 × Unit) × Unit)) (aA3 : List UInt8) (aA4 : Int) (K : Bool × Unit → Prop) : Prop :=
  ((0 : Int) ≤ (1048576 : Int) ∧ (1048576 : Int) ≤ (1048576 : Int)) ∧
    let r0 := Sp.szLen (Sp.wAction (aA0, aA1, aA2, aA3, aA4, ())) (1048576 : Int);
    bif decide (r0 < (0 : Int)) then K (true, ())
    else
      Sp.wAction (aA0, aA1, aA2, aA3, aA4, ()) ≤ big ∧
        aA3.length ≤ (1048576 : Nat) ∧
          let r1 := Sp.actionText aA0 aA1 aA2.length aA3 aA4;
          Sp.wAction (aA0, aA1, aA2, aA3, aA4, ()) ≤ big ∧
            aA3.length ≤ (1048576 : Nat) ∧
              let r2 := Sp.actionText aA0 aA1 aA2.length aA3 aA4;
              bif !r2 == r1 then K (false, ())
              else
                Sp.wAction (aA0, aA1, aA2, aA3, aA4, ()) ≤ big ∧
                  True ∧
                    let r3 := Sp.eqAction (aA0, aA1, aA2, aA3, aA4, ()) (aA0, aA1, aA2, aA3, aA4, ());
                    bif !r3 then K (false, ()) else K (true, ())
theorem wk_laws_FnExactFormatAction (env : EnvB prog G Θ Γ_laws_FnExactFormatAction) (h : ∀ (aA0 : Int) (aA1 : Int) (aA2 : List
  (Int × Int × Int × Bool × Int × List (List UInt8 × Int × Int × List UInt8 × Unit) × Int × List UInt8 × List (Int × Int × Int × List UInt8 × Int × Int × List UInt8 × Unit) × Unit)) (aA3 : List UInt8) (aA4 : Int), ((((-9223372036854775808 : Int) ≤ aA0 ∧ aA0 ≤ (9223372036854775807 : Int)) ∧
    ((-9223372036854775808 : Int) ≤ aA1 ∧ aA1 ≤ (9223372036854775807 : Int)) ∧
      (aA2.length ≤ maxLen ∧
          ∀
            (x :
              Int ×
                Int ×
                  Int ×
                    Bool × Int × List (List UInt8 × Int × Int × List UInt8 × Unit) × Int × List UInt8 × List (Int × Int × Int × List UInt8 × Int × Int × List UInt8 × Unit) × Unit),
            x ∈ aA2 →
              ((-9223372036854775808 : Int) ≤ x.fst ∧ x.fst ≤ (9223372036854775807 : Int)) ∧
                ((-9223372036854775808 : Int) ≤ x.snd.fst ∧ x.snd.fst ≤ (9223372036854775807 : Int)) ∧
                  ((-9223372036854775808 : Int) ≤ x.snd.snd.fst ∧ x.snd.snd.fst ≤ (9223372036854775807 : Int)) ∧
                    True ∧
                      ((-9223372036854775808 : Int) ≤ x.snd.snd.snd.snd.fst ∧ x.snd.snd.snd.snd.fst ≤ (9223372036854775807 : Int)) ∧
                        (List.length x.snd.snd.snd.snd.snd.fst ≤ maxLen ∧
                            ∀ (x_1 : List UInt8 × Int × Int × List UInt8 × Unit),
                              x_1 ∈ x.snd.snd.snd.snd.snd.fst →
                                (List.length x_1.fst).le maxLen ∧
                                  ((-9223372036854775808 : Int) ≤ x_1.snd.fst ∧ x_1.snd.fst ≤ (9223372036854775807 : Int)) ∧
                                    ((-9223372036854775808 : Int) ≤ x_1.snd.snd.fst ∧ x_1.snd.snd.fst ≤ (9223372036854775807 : Int)) ∧
                                      (List.length x_1.snd.snd.snd.fst).le maxLen ∧ True) ∧
                          ((-9223372036854775808 : Int) ≤ x.snd.snd.snd.snd.snd.snd.fst ∧ x.snd.snd.snd.snd.snd.snd.fst ≤ (9223372036854775807 : Int)) ∧
                            (List.length x.snd.snd.snd.snd.snd.snd.snd.fst).le maxLen ∧
                              (List.length x.snd.snd.snd.snd.snd.snd.snd.snd.fst ≤ maxLen ∧
                                  ∀ (x_1 : Int × Int × Int × List UInt8 × Int × Int × List UInt8 × Unit),
                                    x_1 ∈ x.snd.snd.snd.snd.snd.snd.snd.snd.fst →
                                      ((-9223372036854775808 : Int) ≤ x_1.fst ∧ x_1.fst ≤ (9223372036854775807 : Int)) ∧
                                        ((-9223372036854775808 : Int) ≤ x_1.snd.fst ∧ x_1.snd.fst ≤ (9223372036854775807 : Int)) ∧
                                          ((-9223372036854775808 : Int) ≤ x_1.snd.snd.fst ∧ x_1.snd.snd.fst ≤ (9223372036854775807 : Int)) ∧
                                            (List.length x_1.snd.snd.snd.fst).le maxLen ∧
                                              ((-9223372036854775808 : Int) ≤ x_1.snd.snd.snd.snd.fst ∧ x_1.snd.snd.snd.snd.fst ≤ (9223372036854775807 : Int)) ∧
                                                ((-9223372036854775808 : Int) ≤ x_1.snd.snd.snd.snd.snd.fst ∧ x_1.snd.snd.snd.snd.snd.fst ≤ (9223372036854775807 : Int)) ∧
                                                  (List.length x_1.snd.snd.snd.snd.snd.snd.fst).le maxLen ∧ True) ∧
                                True) ∧
        aA3.length.le maxLen ∧ ((-9223372036854775808 : Int) ≤ aA4 ∧ aA4 ≤ (9223372036854775807 : Int)) ∧ True) ∧
  True) → (True) → VC_laws_FnExactFormatAction aA0 aA1 aA2 aA3 aA4 fun r => r = ((true, ()))) : ConOK prog G n_laws_FnExactFormatAction con_laws_FnExactFormatAction :=
  conR_ok env mixed (fn := f4) (c := codeOf f4) (by kernel_rfl) (by kernel_rfl) H_laws_FnExactFormatAction (by kernel_rfl) fun ⟨⟨aA0, aA1, aA2, aA3, aA4, ⟨⟩⟩, ⟨⟩⟩ hin hp =>
    Eq.mpr ((by kernel_rfl : awp Θ Γ_laws_FnExactFormatAction H_laws_FnExactFormatAction (codeOf f4) (endsV Θ f4.results.toList rsh_laws_FnExactFormatAction fun r => r = (F_laws_FnExactFormatAction ((aA0, aA1, aA2, aA3, aA4, ()), ())).2) (entry f4.ntmps (psVals sh_laws_FnExactFormatAction ((aA0, aA1, aA2, aA3, aA4, ()), ()))) = VC_laws_FnExactFormatAction aA0 aA1 aA2 aA3 aA4 fun r => r = ((true, ())))) (h aA0 aA1 aA2 aA3 aA4 hin hp)

end Go.Proofs.Tryd
