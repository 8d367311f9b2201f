import Derived.Test.YtfkmcdocoofahaaDoorFwA
import Derived.Lib.ItoaNum
import Derived.Lib.ItoaLen
import Derived.Lib.Join
/- Plain functions: what the program's functions compute. -/
namespace Sp
open Go
abbrev Bytes := List UInt8
abbrev LI := List (Int × Unit)
abbrev LS := List (Bytes × Unit)
def szLen (n : Nat) (left : Int) : Int := if left - n < 0 then -1 else left - n
def szEvent (a1 a2 : LI) (left : Int) : Int := if szLen a1.length left < 0 then -1 else szLen a2.length (szLen a1.length left)
def szResult (a0 : Bytes) (a1 : LI) (left : Int) : Int := if szLen a0.length left < 0 then -1 else szLen a1.length (szLen a0.length left)
/-- Each number with a text ahead. -/
def marked (p : Bytes) : LI → Bytes
  | [] => []
  | x :: r => p ++ Lib.itoa x.1 ++ marked p r
def eventText (v : Int) (a r : LI) : Bytes := Lib.itoa v ++ marked [32, 43] a ++ marked [32, 45] r
def idsText : LI → Bytes
  | [] => []
  | x :: r => Lib.itoa x.1 ++ marked [32] r
def withIds (s : Bytes) (ids : LI) : Bytes := if ids.isEmpty then s else s ++ [32] ++ idsText ids

theorem take_succ' {α : Type} (a : List α) (n : Nat) (d : α) (h : n < a.length) : a.take (n + 1) = a.take n ++ [a.getD n d] := by
  rw [List.take_succ_eq_append_getElem h, List.getD_eq_getElem?_getD, List.getElem?_eq_getElem h]; rfl
theorem marked_append (p : Bytes) : ∀ (a b : LI), marked p (a ++ b) = marked p a ++ marked p b
  | [], b => rfl
  | x :: a, b => by simp only [List.cons_append, marked, marked_append p a b, List.append_assoc]
theorem marked_succ (p : Bytes) (a : LI) (n : Nat) (d : Int × Unit) (h : n < a.length) : marked p (a.take (n + 1)) = marked p (a.take n) ++ (p ++ Lib.itoa (a.getD n d).1) := by
  rw [take_succ' a n d h, marked_append]; simp [marked]
def i64Ok (l : LI) : Prop := ∀ x ∈ l, -9223372036854775808 ≤ x.1 ∧ x.1 ≤ 9223372036854775807
theorem marked_len (p : Bytes) : ∀ (a : LI), i64Ok a → (marked p a).length ≤ (p.length + 21) * a.length
  | [], _ => by simp [marked]
  | x :: a, h => by
    have h1 := Lib.itoa_length_le x.1 (h x List.mem_cons_self).1 (h x List.mem_cons_self).2
    have h2 := marked_len p a fun y hy => h y (List.mem_cons_of_mem _ hy)
    simp only [marked, List.length_append, List.length_cons, Nat.mul_add]
    omega
theorem i64Ok.take {a : LI} (h : i64Ok a) (n : Nat) : i64Ok (a.take n) := fun x hx => h x (List.mem_of_mem_take hx)
theorem i64Ok.get {a : LI} (h : i64Ok a) {n : Nat} (hn : n < a.length) (d : Int × Unit) : (Lib.itoa (a.getD n d).1).length ≤ 21 := by
  have : a.getD n d ∈ a := by rw [List.getD_eq_getElem?_getD, List.getElem?_eq_getElem hn, Option.getD_some]; exact List.getElem_mem hn
  exact Lib.itoa_length_le _ (h _ this).1 (h _ this).2
theorem marked_take_len (p : Bytes) (a : LI) (h : i64Ok a) (n m : Nat) (hn : n ≤ m) : (marked p (a.take n)).length ≤ (p.length + 21) * m := by
  refine Nat.le_trans (marked_len p _ (h.take n)) (Nat.mul_le_mul_left _ ?_)
  rw [List.length_take]; omega
theorem idsText_pos (a : LI) (n : Nat) (d : Int × Unit) (h : n < a.length) : idsText (a.take (n + 1)) = (if n = 0 then [] else idsText (a.take n) ++ [32]) ++ Lib.itoa (a.getD n d).1 := by
  cases a with
  | nil => simp at h
  | cons x r =>
    cases n with
    | zero => simp [idsText, marked]
    | succ n =>
      have h' : n < r.length := by simpa using h
      simp only [List.take_succ_cons, idsText, List.getD_cons_succ, marked_succ [32] r n d h', if_neg (Nat.succ_ne_zero n), List.append_assoc]
theorem idsText_len (a : LI) (h : i64Ok a) : (idsText a).length ≤ 22 * a.length := by
  cases a with
  | nil => simp [idsText]
  | cons x r =>
    have h1 := Lib.itoa_length_le x.1 (h x List.mem_cons_self).1 (h x List.mem_cons_self).2
    have h2 := marked_len [32] r fun y hy => h y (List.mem_cons_of_mem _ hy)
    simp only [idsText, List.length_append, List.length_cons, List.length_nil] at h2 ⊢
    omega
theorem join_ids (a : LI) : Lib.join (a.map fun x => Lib.itoa x.1) [32] = idsText a := by
  cases a with
  | nil => rfl
  | cons x r =>
    have : ∀ r : LI, Lib.joinTail [32] (r.map fun x => Lib.itoa x.1) = marked [32] r := by
      intro r
      induction r with
      | nil => rfl
      | cons y r ih => simp only [Lib.joinTail, List.map_cons, List.flatten_cons, marked] at ih ⊢; rw [ih]
    rw [List.map_cons, Lib.join_cons, this, idsText]
theorem decDigits_step (c : Nat) : Lib.decDigits c = (if c / 10 = 0 then [] else Lib.decDigits (c / 10)) ++ [UInt8.ofNat (48 + c % 10)] := by
  conv => lhs; rw [Lib.decDigits]
  by_cases h : c < 10
  · rw [dif_pos h, if_pos (by omega), Nat.mod_eq_of_lt h]; rfl
  · rw [dif_neg h, if_neg (by omega)]
end Sp
