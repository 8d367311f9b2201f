import Derived.Test.YtlhclabldgampaaGreatDoorFwA
import Derived.Lib.ItoaNum
import Derived.Lib.ItoaLen
import Derived.Lib.Join
import Derived.Test.YtlhclabldgampaaGreatDoorFwC
import Derived.Lib.Fields
import Derived.Lib.Atoi
import Derived.Lib.SplitLaws
/- Plain functions: what the program's functions compute. -/
namespace Sp
open Go
abbrev Bytes := List UInt8
abbrev LI := List (Int × Unit)
abbrev LS := List (Bytes × Unit)
def szLen (n : Nat) (left : Int) : Int := if left - n < 0 then -1 else left - n
def szEvent (a1 a2 : LI) (left : Int) : Int := if szLen a1.length left < 0 then -1 else szLen a2.length (szLen a1.length left)
def szResult (a0 : Bytes) (a1 : LI) (left : Int) : Int := if szLen a0.length left < 0 then -1 else szLen a1.length (szLen a0.length left)
/-- Each number with a text ahead. -/
def marked (p : Bytes) : LI → Bytes
  | [] => []
  | x :: r => p ++ Lib.itoa x.1 ++ marked p r
def eventText (v : Int) (a r : LI) : Bytes := Lib.itoa v ++ marked [32, 43] a ++ marked [32, 45] r
def idsText : LI → Bytes
  | [] => []
  | x :: r => Lib.itoa x.1 ++ marked [32] r
def withIds (s : Bytes) (ids : LI) : Bytes := if ids.isEmpty then s else s ++ [32] ++ idsText ids

theorem take_succ' {α : Type} (a : List α) (n : Nat) (d : α) (h : n < a.length) : a.take (n + 1) = a.take n ++ [a.getD n d] := by
  rw [List.take_succ_eq_append_getElem h, List.getD_eq_getElem?_getD, List.getElem?_eq_getElem h]; rfl
theorem marked_append (p : Bytes) : ∀ (a b : LI), marked p (a ++ b) = marked p a ++ marked p b
  | [], b => rfl
  | x :: a, b => by simp only [List.cons_append, marked, marked_append p a b, List.append_assoc]
theorem marked_succ (p : Bytes) (a : LI) (n : Nat) (d : Int × Unit) (h : n < a.length) : marked p (a.take (n + 1)) = marked p (a.take n) ++ (p ++ Lib.itoa (a.getD n d).1) := by
  rw [take_succ' a n d h, marked_append]; simp [marked]
def i64Ok (l : LI) : Prop := ∀ x ∈ l, -9223372036854775808 ≤ x.1 ∧ x.1 ≤ 9223372036854775807
theorem marked_len (p : Bytes) : ∀ (a : LI), i64Ok a → (marked p a).length ≤ (p.length + 21) * a.length
  | [], _ => by simp [marked]
  | x :: a, h => by
    have h1 := Lib.itoa_length_le x.1 (h x List.mem_cons_self).1 (h x List.mem_cons_self).2
    have h2 := marked_len p a fun y hy => h y (List.mem_cons_of_mem _ hy)
    simp only [marked, List.length_append, List.length_cons, Nat.mul_add]
    omega
theorem i64Ok.take {a : LI} (h : i64Ok a) (n : Nat) : i64Ok (a.take n) := fun x hx => h x (List.mem_of_mem_take hx)
theorem i64Ok.get {a : LI} (h : i64Ok a) {n : Nat} (hn : n < a.length) (d : Int × Unit) : (Lib.itoa (a.getD n d).1).length ≤ 21 := by
  have : a.getD n d ∈ a := by rw [List.getD_eq_getElem?_getD, List.getElem?_eq_getElem hn, Option.getD_some]; exact List.getElem_mem hn
  exact Lib.itoa_length_le _ (h _ this).1 (h _ this).2
theorem marked_take_len (p : Bytes) (a : LI) (h : i64Ok a) (n m : Nat) (hn : n ≤ m) : (marked p (a.take n)).length ≤ (p.length + 21) * m := by
  refine Nat.le_trans (marked_len p _ (h.take n)) (Nat.mul_le_mul_left _ ?_)
  rw [List.length_take]; omega
theorem idsText_pos (a : LI) (n : Nat) (d : Int × Unit) (h : n < a.length) : idsText (a.take (n + 1)) = (if n = 0 then [] else idsText (a.take n) ++ [32]) ++ Lib.itoa (a.getD n d).1 := by
  cases a with
  | nil => simp at h
  | cons x r =>
    cases n with
    | zero => simp [idsText, marked]
    | succ n =>
      have h' : n < r.length := by simpa using h
      simp only [List.take_succ_cons, idsText, List.getD_cons_succ, marked_succ [32] r n d h', if_neg (Nat.succ_ne_zero n), List.append_assoc]
theorem idsText_len (a : LI) (h : i64Ok a) : (idsText a).length ≤ 22 * a.length := by
  cases a with
  | nil => simp [idsText]
  | cons x r =>
    have h1 := Lib.itoa_length_le x.1 (h x List.mem_cons_self).1 (h x List.mem_cons_self).2
    have h2 := marked_len [32] r fun y hy => h y (List.mem_cons_of_mem _ hy)
    simp only [idsText, List.length_append, List.length_cons, List.length_nil] at h2 ⊢
    omega
theorem join_ids (a : LI) : Lib.join (a.map fun x => Lib.itoa x.1) [32] = idsText a := by
  cases a with
  | nil => rfl
  | cons x r =>
    have : ∀ r : LI, Lib.joinTail [32] (r.map fun x => Lib.itoa x.1) = marked [32] r := by
      intro r
      induction r with
      | nil => rfl
      | cons y r ih => simp only [Lib.joinTail, List.map_cons, List.flatten_cons, marked] at ih ⊢; rw [ih]
    rw [List.map_cons, Lib.join_cons, this, idsText]
theorem decDigits_step (c : Nat) : Lib.decDigits c = (if c / 10 = 0 then [] else Lib.decDigits (c / 10)) ++ [UInt8.ofNat (48 + c % 10)] := by
  conv => lhs; rw [Lib.decDigits]
  by_cases h : c < 10
  · rw [dif_pos h, if_pos (by omega), Nat.mod_eq_of_lt h]; rfl
  · rw [dif_neg h, if_neg (by omega)]
end Sp
/- Plain functions for actions. -/
namespace Sp
open Go
set_option synthInstance.maxSize 100000
set_option synthInstance.maxHeartbeats 1000000
abbrev DValue := Int × Int × Bytes × Unit
abbrev DAttr := Bytes × Int × Int × Bytes × Unit
abbrev DNode := Int × Int × Int × Bytes × Int × Int × Bytes × Unit
abbrev DFile := Int × Int × Bool × Int × List DAttr × Unit
abbrev DDir := Bytes × List DNode × Unit
abbrev DChange := Int × Int × Int × Bool × Int × List DAttr × Int × Bytes × List DNode × Unit
abbrev DAction := Int × Int × List DChange × Bytes × Int × Unit
def wAttr : DAttr → Nat | (n, _, _, s, _) => n.length + s.length
def wNode : DNode → Nat | (_, _, _, n, _, _, s, _) => n.length + s.length
/-- The length of a list and the weights of what it holds. -/
def wList {α : Type} (f : α → Nat) : List α → Nat
  | [] => 0
  | x :: r => 1 + f x + wList f r
def wAttrS (a : List DAttr) : Nat := wList wAttr a
def wNodeS (a : List DNode) : Nat := wList wNode a
def wFile : DFile → Nat | (_, _, _, _, a, _) => wAttrS a
def wDir : DDir → Nat | (n, q, _) => n.length + wNodeS q
def wChange : DChange → Nat | (_, _, _, _, _, a, _, n, q, _) => wAttrS a + (n.length + wNodeS q)
def wChangeS (a : List DChange) : Nat := wList wChange a
def wAction : DAction → Nat | (_, _, c, n, _, _) => wChangeS c + n.length

instance : DecidableEq DValue := inferInstance
instance : DecidableEq DAttr := inferInstance
instance : DecidableEq DNode := inferInstance
instance : DecidableEq DFile := inferInstance
instance : DecidableEq DDir := inferInstance
instance : DecidableEq (Int × DDir) := inferInstance
instance : DecidableEq (List DAttr × Int × DDir) := inferInstance
instance : DecidableEq (Bool × Int × List DAttr × Int × DDir) := inferInstance
instance iChange : DecidableEq DChange := (inferInstance : DecidableEq (Int × Int × Int × Bool × Int × List DAttr × Int × DDir))
instance : DecidableEq (List DChange) := inferInstance
instance : DecidableEq (List DChange × Bytes × Int × Unit) := inferInstance
def eqValue (a b : DValue) : Bool := decide (a = b)
def eqAttr (a b : DAttr) : Bool := decide (a = b)
def eqNode (a b : DNode) : Bool := decide (a = b)
def eqAttrS (a b : List DAttr) : Bool := decide (a = b)
def eqNodeS (a b : List DNode) : Bool := decide (a = b)
def eqFile (a b : DFile) : Bool := decide (a = b)
def eqDir (a b : DDir) : Bool := decide (a = b)
def eqChange (a b : DChange) : Bool := decide (a = b)
def eqChangeS (a b : List DChange) : Bool := decide (a = b)
def eqAction (a b : DAction) : Bool := decide (a = b)
/-- Lower case letters only. -/
def lower (s : Bytes) : Bool := s.all fun c => decide (97 ≤ c.toNat) && decide (c.toNat ≤ 122)
def validStr (s : Bytes) : Bool := lower s && decide (1 ≤ (s.length : Int)) && decide ((s.length : Int) ≤ 6)
def isUint (n : Int) : Bool := decide (0 ≤ n) && decide (n ≤ 1000000000)
def idxFrom : Int → LI → Int
  | _, [] => -1
  | k, x :: r => if isUint x.1 then idxFrom (k + 1) r else k
def idxOf (l : LI) : Int := idxFrom 0 l
def areUints (l : LI) : Bool := l.all fun x => isUint x.1
def validAct (k : Int) (nc : Nat) : Bool := decide (1 ≤ k) && decide (k ≤ 8) && decide ((nc : Int) ≤ 6)
def actionText (k u : Int) (nc : Nat) (n : Bytes) (a : Int) : Bytes :=
  bif !(validAct k nc) then [] else
  bif (decide ((nc : Int) > 0) && decide (k > 2)) then [] else
  bif (k == 1 && (isUint u && (a == 0 && n == []))) then [99, 111, 109, 109, 105, 116, 32] ++ Lib.itoa u else
  bif (k == 2 && (isUint u && (isUint a && n == []))) then [99, 114, 97, 115, 104, 32] ++ Lib.itoa u ++ [32] ++ Lib.itoa a else
  bif (k == 3 && (isUint u && (validStr n && a == 0))) then [119, 97, 116, 99, 104, 32] ++ Lib.itoa u ++ [32] ++ n else
  bif (k == 4 && (u == 0 && (isUint a && n == []))) then [112, 105, 110, 32] ++ Lib.itoa a else
  bif (k == 5 && (u == 0 && (isUint a && n == []))) then [117, 110, 112, 105, 110, 32] ++ Lib.itoa a else
  bif (k == 6 && (u == 0 && (a == 0 && n == []))) then [99, 111, 108, 108, 101, 99, 116] else
  bif (k == 7 && (isUint u && (isUint a && validStr n))) then [97, 100, 100, 32] ++ Lib.itoa u ++ [32] ++ n ++ [32] ++ Lib.itoa a else
  bif (k == 8 && (isUint u && (isUint a && validStr n))) then [114, 101, 109, 111, 118, 101, 32] ++ Lib.itoa u ++ [32] ++ n ++ [32] ++ Lib.itoa a else []
end Sp
/- The loops of size, copy and comparison, over any element. -/
namespace Go.Fw
open Go
theorem szLen_add {n m : Nat} {left : Int} (h : 0 ≤ Sp.szLen n left) : Sp.szLen m (Sp.szLen n left) = Sp.szLen (n + m) left := by
  unfold Sp.szLen at h ⊢
  split at h
  · omega
  · next h1 => rw [if_neg h1]; by_cases h2 : left - ↑n - ↑m < 0
               · rw [if_pos h2, if_pos (by omega)]
               · rw [if_neg h2, if_neg (by omega)]; omega
theorem szLen_more {n m : Nat} {left : Int} (h : Sp.szLen n left < 0) : Sp.szLen (n + m) left = -1 := by
  unfold Sp.szLen at h ⊢
  split at h
  · rw [if_pos (by omega)]
  · omega
theorem szLen_leq {n : Nat} {left : Int} (h : 0 ≤ left) : Sp.szLen n left ≤ left := by unfold Sp.szLen; split <;> omega
theorem szLen_sub {n : Nat} {left : Int} (h : ¬ left - (n : Int) < 0) : Sp.szLen n left = left - n := by unfold Sp.szLen; rw [if_neg h]
theorem wList_split {α : Type} (f : α → Nat) (d : α) (a : List α) (n : Nat) (h : n < a.length) : Sp.wList f (a.take (n + 1)) = Sp.wList f (a.take n) + (1 + f (a.getD n d)) := by
  induction a generalizing n with
  | nil => simp at h
  | cons x r ih =>
    cases n with
    | zero => simp [Sp.wList]
    | succ n =>
      have := ih n (by simpa using h)
      simp only [List.take_succ_cons, Sp.wList, List.getD_cons_succ] at this ⊢
      omega
/-- The weights alone. -/
def wSum {α : Type} (f : α → Nat) : List α → Nat
  | [] => 0
  | x :: r => f x + wSum f r
theorem wList_eq {α : Type} (f : α → Nat) : ∀ a : List α, Sp.wList f a = a.length + wSum f a
  | [] => rfl
  | x :: r => by simp only [Sp.wList, wSum, wList_eq f r, List.length_cons]; omega
theorem wSum_take {α : Type} (f : α → Nat) (d : α) : ∀ (a : List α) (n : Nat), n < a.length → wSum f (a.take (n + 1)) = wSum f (a.take n) + f (a.getD n d)
  | [], n, h => by simp at h
  | x :: r, 0, _ => by simp [wSum]
  | x :: r, n + 1, h => by
    have := wSum_take f d r n (by simpa using h)
    simp only [List.take_succ_cons, wSum, List.getD_cons_succ] at this ⊢
    omega
theorem wSum_le {α : Type} (f : α → Nat) : ∀ (a : List α) (n : Nat), wSum f (a.take n) ≤ wSum f a
  | [], n => by simp
  | x :: r, 0 => by simp [wSum]
  | x :: r, n + 1 => by simp only [List.take_succ_cons, wSum]; have := wSum_le f r n; omega
theorem wList_mem {α : Type} (f : α → Nat) : ∀ (a : List α) (x : α), x ∈ a → f x ≤ Sp.wList f a
  | y :: r, x, h => by
    rw [Sp.wList]
    rcases List.mem_cons.1 h with rfl | h
    · omega
    · have := wList_mem f r x h; omega
  | [], x, h => by cases h

theorem szS_vc {α β : Type} (f : α → Nat) (d : α) (a : List α) (left : Int) (t : β) (hlen : a.length ≤ 9223372036854775807) (h0 : 0 ≤ left) (h1 : left ≤ 1048576) {K : Int × Unit → Prop} (hK : K (Sp.szLen (Sp.wList f a) left, ())) :
    bif decide (IntKind.i64.wrap (left - (a.length : Int)) < (0 : Int)) then K ((-1 : Int), ())
    else ∃ (I : (Int × Int × Unit) × Unit → Prop), ∃ (μ : (Int × Int × Unit) × Unit → Nat), I ((IntKind.i64.wrap (left - (a.length : Int)), (0 : Int), ()), ()) ∧ ∀ (y : (Int × Int × Unit) × Unit), I y →
      bif decide (y.fst.snd.fst < (a.length : Int)) then
        ((0 : Int) ≤ y.fst.snd.fst ∧ y.fst.snd.fst < (a.length : Int)) ∧ ((0 : Int) ≤ y.fst.fst ∧ y.fst.fst ≤ (1048576 : Int)) ∧
          (bif decide (Sp.szLen (f (a.getD (Int.toNat y.fst.snd.fst) d)) y.fst.fst < (0 : Int)) then K ((-1 : Int), ())
          else t = t ∧ I ((Sp.szLen (f (a.getD (Int.toNat y.fst.snd.fst) d)) y.fst.fst, IntKind.i64.wrap (y.fst.snd.fst + (1 : Int)), ()), ()) ∧
            μ ((Sp.szLen (f (a.getD (Int.toNat y.fst.snd.fst) d)) y.fst.fst, IntKind.i64.wrap (y.fst.snd.fst + (1 : Int)), ()), ()) < μ y)
      else K (y.fst.fst, ()) := by
  rw [wrapIn _ (by omega)]
  refine cond_intro (fun h => ?_) fun h => ?_ <;> simp only [decide_eq_true_eq, decide_eq_false_iff_not] at h
  · rw [wList_eq, szLen_more (by unfold Sp.szLen; rw [if_pos h]; omega)] at hK
    exact hK
  · refine ⟨fun y => ∃ n : Nat, y.1.2.1 = n ∧ n ≤ a.length ∧ 0 ≤ y.1.1 ∧ y.1.1 = Sp.szLen (a.length + wSum f (a.take n)) left, fun y => ((a.length : Int) - y.1.2.1).toNat, ⟨0, rfl, by omega, by show 0 ≤ left - (a.length : Int); omega, ?_⟩, ?_⟩
    · rw [List.take_zero, wSum, Nat.add_zero, szLen_sub h]
    rintro ⟨⟨l, _, ⟨⟩⟩, ⟨⟩⟩ ⟨n, rfl, hn, hl, hJ⟩
    dsimp only at hl hJ ⊢
    have hle : l ≤ left := by rw [hJ]; exact szLen_leq h0
    refine cond_intro (fun h => ?_) fun h => ?_ <;> simp only [decide_eq_true_eq, decide_eq_false_iff_not] at h
    · have hlt : n < a.length := by omega
      have hstep : 0 ≤ Sp.szLen (a.length + wSum f (a.take n)) left := by rw [← hJ]; exact hl
      have key : Sp.szLen (f (a.getD n d)) l = Sp.szLen (a.length + wSum f (a.take (n + 1))) left := by
        rw [hJ, szLen_add hstep, wSum_take f d a n hlt, Nat.add_assoc]
      rw [Int.toNat_natCast, wrapIn _ (by omega)]
      refine ⟨⟨by omega, by omega⟩, ⟨hl, by omega⟩, cond_intro (fun h2 => ?_) fun h2 => ?_⟩ <;> simp only [decide_eq_true_eq, decide_eq_false_iff_not] at h2
      · rw [key] at h2
        have hw := wSum_le f a (n + 1)
        have : Sp.szLen (Sp.wList f a) left = -1 := by
          rw [wList_eq, show a.length + wSum f a = (a.length + wSum f (a.take (n + 1))) + (wSum f a - wSum f (a.take (n + 1))) by omega]
          exact szLen_more h2
        rw [this] at hK
        exact hK
      · exact ⟨rfl, ⟨n + 1, by simp, by omega, by omega, key⟩, by omega⟩
    · have hge : n = a.length := by omega
      subst hge
      rw [List.take_length, ← wList_eq] at hJ
      rw [hJ]; exact hK
theorem toS_vc {α β : Type} (pre : α → Prop) (d : α) (a : List α) (t : β) (hbig : a.length ≤ 4294967296) (hpre : ∀ x ∈ a, pre x) {K : List α × Unit → Prop} (hK : K (a, ())) :
    ((0 : Int) ≤ (a.length : Int) ∧ (a.length : Int) ≤ (a.length : Int) ∧ (a.length : Int) ≤ (big : Int)) ∧
    ∃ (I : (Int × Unit) × List α × Unit → Prop), ∃ (μ : (Int × Unit) × List α × Unit → Nat), I (((0 : Int), ()), List.replicate (a.length : Int).toNat d, ()) ∧ ∀ (y : (Int × Unit) × List α × Unit), I y →
      bif decide (y.fst.fst < (a.length : Int)) then
        ((0 : Int) ≤ y.fst.fst ∧ y.fst.fst < (a.length : Int)) ∧ pre (a.getD (Int.toNat y.fst.fst) d) ∧ ((0 : Int) ≤ y.fst.fst ∧ y.fst.fst < (List.length y.snd.fst : Int)) ∧ Int.toNat y.fst.fst < List.length y.snd.fst ∧
          t = t ∧ I ((IntKind.i64.wrap (y.fst.fst + (1 : Int)), ()), List.set y.snd.fst (Int.toNat y.fst.fst) (a.getD (Int.toNat y.fst.fst) d), ()) ∧
            μ ((IntKind.i64.wrap (y.fst.fst + (1 : Int)), ()), List.set y.snd.fst (Int.toNat y.fst.fst) (a.getD (Int.toNat y.fst.fst) d), ()) < μ y
      else K (y.snd.fst, ()) := by
  refine ⟨⟨by omega, by omega, by rw [big_eq]; omega⟩, fun y => ∃ n : Nat, y.1.1 = n ∧ n ≤ a.length ∧ y.2.1 = a.take n ++ List.replicate (a.length - n) d, fun y => ((a.length : Int) - y.1.1).toNat, ⟨0, rfl, by omega, by simp⟩, ?_⟩
  rintro ⟨⟨_, ⟨⟩⟩, l, ⟨⟩⟩ ⟨n, rfl, hn, rfl⟩
  dsimp only
  refine cond_intro (fun h => ?_) fun h => ?_ <;> simp only [decide_eq_true_eq, decide_eq_false_iff_not] at h
  · have hlt : n < a.length := by omega
    have hl : (a.take n ++ List.replicate (a.length - n) d).length = a.length := by simp only [List.length_append, List.length_take, List.length_replicate]; omega
    rw [wrapIn _ (by omega), Int.toNat_natCast, hl]
    refine ⟨⟨by omega, by omega⟩, hpre _ (getD_mem hlt), ⟨by omega, by omega⟩, hlt, rfl, ⟨n + 1, by simp, by omega, ?_⟩, by omega⟩
    rw [show a.length - n = a.length - (n + 1) + 1 by omega, List.replicate_succ, List.set_append_right _ _ (by rw [List.length_take]; omega), List.length_take, Nat.min_eq_left hn, Nat.sub_self, List.set_cons_zero,
        List.take_succ_eq_append_getElem hlt, List.append_assoc, List.getD_eq_getElem?_getD, List.getElem?_eq_getElem hlt]
    rfl
  · have hge : n = a.length := by omega
    subst hge
    simpa using hK
theorem eqS_vc {α β : Type} (e : α → α → Bool) (he : ∀ x y, e x y = true ↔ x = y) (d : α) (a b : List α) (t : β) (hlen : a.length ≤ 9223372036854775807) {K : Bool × Unit → Prop} (hK : ∀ z : Bool, (z = true ↔ a = b) → K (z, ())) :
    bif (a.length : Int) != (b.length : Int) then K (false, ())
    else ∃ (I : (Int × Unit) × Unit → Prop), ∃ (μ : (Int × Unit) × Unit → Nat), I (((0 : Int), ()), ()) ∧ ∀ (y : (Int × Unit) × Unit), I y →
      bif decide (y.fst.fst < (a.length : Int)) then
        ((0 : Int) ≤ y.fst.fst ∧ y.fst.fst < (a.length : Int)) ∧ ((0 : Int) ≤ y.fst.fst ∧ y.fst.fst < (b.length : Int)) ∧ True ∧
          (bif !e (a.getD (Int.toNat y.fst.fst) d) (b.getD (Int.toNat y.fst.fst) d) then K (false, ())
          else t = t ∧ I ((IntKind.i64.wrap (y.fst.fst + (1 : Int)), ()), ()) ∧ μ ((IntKind.i64.wrap (y.fst.fst + (1 : Int)), ()), ()) < μ y)
      else K (true, ()) := by
  refine cond_intro (fun h => ?_) fun h => ?_
  · refine hK false ⟨fun h => (by cases h), fun h2 => ?_⟩
    subst h2; simp at h
  · have hl : a.length = b.length := by simp at h; omega
    refine ⟨fun y => ∃ n : Nat, y.1.1 = n ∧ n ≤ a.length ∧ a.take n = b.take n, fun y => ((a.length : Int) - y.1.1).toNat, ⟨0, rfl, by omega, by simp⟩, ?_⟩
    rintro ⟨⟨_, ⟨⟩⟩, ⟨⟩⟩ ⟨n, rfl, hn, hJ⟩
    dsimp only
    refine cond_intro (fun h => ?_) fun h => ?_ <;> simp only [decide_eq_true_eq, decide_eq_false_iff_not] at h
    · have hlt : n < a.length := by omega
      have hlt2 : n < b.length := by omega
      rw [wrapIn _ (by omega), Int.toNat_natCast]
      refine ⟨⟨by omega, by omega⟩, ⟨by omega, by omega⟩, trivial, cond_intro (fun hc => ?_) fun hc => ?_⟩
      · refine hK false ⟨fun h => (by cases h), fun h2 => ?_⟩
        subst h2
        have := (he (a.getD n d) (a.getD n d)).2 rfl
        rw [this] at hc; cases hc
      · refine ⟨rfl, ⟨n + 1, by simp, by omega, ?_⟩, by omega⟩
        have hx := (he (a.getD n d) (b.getD n d)).1 (by simpa using hc)
        rw [List.getD_eq_getElem?_getD, List.getElem?_eq_getElem hlt, Option.getD_some, List.getD_eq_getElem?_getD, List.getElem?_eq_getElem hlt2, Option.getD_some] at hx
        rw [List.take_succ_eq_append_getElem hlt, List.take_succ_eq_append_getElem hlt2, hJ, hx]
    · refine hK true ⟨fun _ => ?_, fun _ => rfl⟩
      rw [show n = a.length by omega, List.take_length, hl, List.take_length] at hJ
      exact hJ
end Go.Fw
/- Plain functions for schemas, files and stores. -/
namespace Sp
open Go
abbrev DField := Bytes × Int × Unit
abbrev DStore := List DField × List DFile × Int × Unit
instance : DecidableEq DField := inferInstance
instance : DecidableEq (List DField) := inferInstance
instance : DecidableEq (List DFile) := inferInstance
instance : DecidableEq (List DFile × Int × Unit) := inferInstance
instance iStore : DecidableEq DStore := (inferInstance : DecidableEq (List DField × List DFile × Int × Unit))
/-- The usual schema: a and b are numbers, n and t are texts. -/
def usual : List DField := [([97], 1, ()), ([98], 1, ()), ([110], 2, ()), ([116], 2, ())]
/-- No list is long. -/
def smallF (f : DFile) : Prop := f.2.2.2.2.1.length ≤ 1000
def smallS (s : DStore) : Prop := s.1.length ≤ 1000 ∧ s.2.1.length ≤ 1000 ∧ ∀ f ∈ s.2.1, smallF f
/-- All i below n. -/
def allUpto (n : Nat) (f : Nat → Bool) : Bool := (List.range n).all f
def okName (s : Bytes) : Bool := lower s && decide (1 ≤ (s.length : Int)) && decide ((s.length : Int) ≤ 1)
def okValue (k n : Int) (s : Bytes) : Bool :=
  bif decide (k = 0) then decide (n = 0) && decide (s = [])
  else bif decide (k = 1) then decide (0 ≤ n) && decide (n ≤ 999) && decide (s = [])
  else bif decide (k = 2) then validStr s && decide (n = 0)
  else false
def okValueD (v : DValue) : Bool := okValue v.1 v.2.1 v.2.2.1
/-- The kind of the first field of that name. -/
def kindOf : List DField → Bytes → Int
  | [], _ => 0
  | f :: r, s => bif decide (f.1 = s) then f.2.1 else kindOf r s
def fieldAt (fs : List DField) (i : Nat) : DField := fs.getD i ([], 0, ())
def okFieldAt (fs : List DField) (i : Nat) : Bool :=
  okName (fieldAt fs i).1 && (decide (1 ≤ (fieldAt fs i).2.1) && decide ((fieldAt fs i).2.1 ≤ 2)) && !(decide (0 < i) && !Op.bytesLess (fieldAt fs (i - 1)).1 (fieldAt fs i).1)
def okSchema (fs : List DField) : Bool := allUpto fs.length (okFieldAt fs) && decide ((fs.length : Int) ≤ 5)
def matchesS (fs : List DField) (name : Bytes) (k n : Int) (s : Bytes) : Bool := okValue k n s && !decide (k = 0) && decide (k = kindOf fs name)
def attrAt (as : List DAttr) (i : Nat) : DAttr := as.getD i ([], 0, 0, [], ())
def okAttrAt (fs : List DField) (as : List DAttr) (i : Nat) : Bool :=
  matchesS fs (attrAt as i).1 (attrAt as i).2.1 (attrAt as i).2.2.1 (attrAt as i).2.2.2.1 && !(decide (0 < i) && !Op.bytesLess (attrAt as (i - 1)).1 (attrAt as i).1)
def okAttrs (fs : List DField) (as : List DAttr) : Bool := allUpto as.length (okAttrAt fs as)
def okFile (fs : List DField) (f : DFile) : Bool :=
  okAttrs fs f.2.2.2.2.1 && okSchema fs && (decide (1 ≤ f.1) && decide (f.1 ≤ 60)) && (decide (0 ≤ f.2.1) && decide (f.2.1 ≤ 2)) && (decide (0 ≤ f.2.2.2.1) && decide (f.2.2.2.1 ≤ 60))
def fileAt (fs : List DFile) (i : Nat) : DFile := fs.getD i (0, 0, false, 0, [], ())
def okFileAt (s : DStore) (i : Nat) : Bool :=
  okFile s.1 (fileAt s.2.1 i) && decide ((fileAt s.2.1 i).1 < s.2.2.1) && !(decide (0 < i) && !decide ((fileAt s.2.1 (i - 1)).1 < (fileAt s.2.1 i).1))
def okStore (s : DStore) : Bool :=
  allUpto s.2.1.length (okFileAt s) && okSchema s.1 && decide ((s.2.1.length : Int) ≤ 12) && (decide (1 ≤ s.2.2.1) && decide (s.2.2.1 ≤ 61))
/-- The place of the first file of that number, or -1. -/
def placeFrom : Int → List DFile → Int → Int
  | _, [], _ => -1
  | k, f :: r, id => bif decide (f.1 = id) then k else placeFrom (k + 1) r id
def place (fs : List DFile) (id : Int) : Int := placeFrom 0 fs id
def canRead (f : DFile) (u : Int) : Bool := (decide (0 ≤ u) && decide (u ≤ 2)) && (decide (f.2.1 = u) || f.2.2.1)
def canWrite (f : DFile) (u : Int) : Bool := (decide (0 ≤ u) && decide (u ≤ 2)) && decide (f.2.1 = u)
def unlink (fs : List DFile) (f : DFile) : DFile := (f.1, f.2.1, f.2.2.1, (bif decide (place fs f.2.2.2.1 < 0) then 0 else f.2.2.2.1), f.2.2.2.2.1, ())
def visible (s : DStore) (u : Int) : DStore :=
  let fs := s.2.1.filter (canRead · u)
  (s.1, fs.map (unlink fs), s.2.2.1, ())
def ownedBy (fs : List DFile) (u : Int) : List (Int × Unit) := (fs.filter fun f => decide (f.2.1 = u)).map fun f => (f.1, ())
def fileIDs (fs : List DFile) : List (Int × Unit) := fs.map fun f => (f.1, ())
def noFile : DFile := (0, 0, false, 0, [], ())
def findFile (s : DStore) (id : Int) : DFile × Bool :=
  bif decide (place s.2.1 id < 0) then (noFile, false) else (fileAt s.2.1 (place s.2.1 id).toNat, true)
/-- A file with the value of that name put in its place. -/
def notNamed (name : Bytes) (b : DAttr) : Bool := !(b.1 == name)
def notAbove (name : Bytes) (b : DAttr) : Bool := Op.bytesLess b.1 name || b.1 == name
def putAttr (as : List DAttr) (a : DAttr) : List DAttr := as.takeWhile (notAbove a.1) ++ a :: as.dropWhile (notAbove a.1)
def setAttr (as : List DAttr) (name : Bytes) (k n : Int) (s : Bytes) : List DAttr :=
  bif decide (k = 0) then as.filter (notNamed name) else putAttr (as.filter (notNamed name)) (name, k, n, s, ())
def createFile (s : DStore) (f : DFile) : DStore × Int × Bool :=
  let g : DFile := (s.2.2.1, f.2)
  bif okStore s && decide ((s.2.1.length : Int) < 12) && okFile s.1 g then ((s.1, s.2.1 ++ [g], s.2.2.1 + 1, ()), s.2.2.1, true) else (s, 0, false)
def replaceFile (s : DStore) (f : DFile) : DStore × Bool :=
  bif okStore s && !decide (place s.2.1 f.1 < 0) && okFile s.1 f then ((s.1, s.2.1.set (place s.2.1 f.1).toNat f, s.2.2.1, ()), true) else (s, false)
def deleteFile (s : DStore) (id : Int) : DStore × Bool :=
  bif okStore s && !decide (place s.2.1 id < 0) then ((s.1, s.2.1.eraseIdx (place s.2.1 id).toNat, s.2.2.1, ()), true) else (s, false)
/-- A store with one file of the usual schema. -/
def sample (n : Int) : DStore := (createFile (usual, [], 1, ()) (0, 0, false, 0, setAttr [] [97] 1 n [], ())).1
/-- The place of the first element of that kind, or -1. -/
def findFrom {α : Type} (p : α → Bool) : Int → List α → Int
  | _, [] => -1
  | k, f :: r => bif p f then k else findFrom p (k + 1) r
def findAt {α : Type} (p : α → Bool) (l : List α) : Int := findFrom p 0 l
def fieldPlace (l : List DField) (name : Bytes) : Int := findAt (fun f => f.1 == name) l
def fieldAbove (l : List DField) (name : Bytes) : Int := findAt (fun f => Op.bytesLess name f.1) l
def notField (name : Bytes) (f : DField) : Bool := !(f.1 == name)
def belowField (name : Bytes) (f : DField) : Bool := Op.bytesLess f.1 name
def putField (s : List DField) (f : DField) : List DField := s.takeWhile (belowField f.1) ++ f :: s.dropWhile (belowField f.1)
def addField (s : List DField) (f : DField) : List DField × Bool := bif okSchema s && okSchema (putField s f) then (putField s f, true) else (s, false)
def removeField (s : List DField) (name : Bytes) : List DField × Bool := bif okSchema s && !decide (kindOf s name = 0) then (s.filter (notField name), true) else (s, false)
end Sp
/- Loops that count up, and conditions. -/
namespace Go.Fw
open Go
theorem condT {p : Prop} [Decidable p] {A B : Prop} (h : p) (a : A) : cond (decide p) A B := by rw [decide_eq_true h]; exact a
theorem condF {p : Prop} [Decidable p] {A B : Prop} (h : ¬ p) (b : B) : cond (decide p) A B := by rw [decide_eq_false h]; exact b
/-- A loop whose number goes up to len. -/
theorem up_loop {B : ((Int × Unit) × Unit → Prop) → ((Int × Unit) × Unit → Nat) → (Int × Unit) × Unit → Prop} (len : Nat) (hlen : len ≤ 9223372036854775807) (J : Nat → Prop) (h0 : J 0)
    (hstep : ∀ I μ (n : Nat), n < len → J n → (J (n + 1) → I ((IntKind.i64.wrap ((n : Int) + 1), ()), ()) ∧ μ ((IntKind.i64.wrap ((n : Int) + 1), ()), ()) < μ (((n : Int), ()), ())) → B I μ (((n : Int), ()), ()))
    (hend : ∀ I μ, J len → B I μ (((len : Int), ()), ())) : ∃ I, ∃ μ, I (((0 : Int), ()), ()) ∧ ∀ y, I y → B I μ y := by
  refine ⟨fun y => ∃ n : Nat, y.1.1 = n ∧ n ≤ len ∧ J n, fun y => ((len : Int) - y.1.1).toNat, ⟨0, rfl, Nat.zero_le _, h0⟩, ?_⟩
  rintro ⟨⟨_, ⟨⟩⟩, ⟨⟩⟩ ⟨n, rfl, hn, hJ⟩
  rcases Nat.lt_or_ge n len with h | h
  · refine hstep _ _ n h hJ fun hJ' => ?_
    have e : IntKind.i64.wrap ((n : Int) + 1) = ((n + 1 : Nat) : Int) := wrapIn _ (by omega)
    rw [e]
    exact ⟨⟨n + 1, rfl, h, hJ'⟩, by show ((len : Int) - (n + 1 : Nat)).toNat < ((len : Int) - n).toNat; omega⟩
  · have : n = len := by omega
    subst this
    exact hend _ _ hJ
/-- The same, where something else changes, too. -/
theorem up_loop2 {S : Type} {B : ((Int × Unit) × S × Unit → Prop) → ((Int × Unit) × S × Unit → Nat) → (Int × Unit) × S × Unit → Prop} (len : Nat) (hlen : len ≤ 9223372036854775807) (J : Nat → S → Prop) {s0 : S} (h0 : J 0 s0)
    (hstep : ∀ I μ (n : Nat) (s : S), n < len → J n s → (∀ s', J (n + 1) s' → I ((IntKind.i64.wrap ((n : Int) + 1), ()), s', ()) ∧ μ ((IntKind.i64.wrap ((n : Int) + 1), ()), s', ()) < μ (((n : Int), ()), s, ())) → B I μ (((n : Int), ()), s, ()))
    (hend : ∀ I μ s, J len s → B I μ (((len : Int), ()), s, ())) : ∃ I, ∃ μ, I (((0 : Int), ()), s0, ()) ∧ ∀ y, I y → B I μ y := by
  refine ⟨fun y => ∃ n : Nat, y.1.1 = n ∧ n ≤ len ∧ J n y.2.1, fun y => ((len : Int) - y.1.1).toNat, ⟨0, rfl, Nat.zero_le _, h0⟩, ?_⟩
  rintro ⟨⟨_, ⟨⟩⟩, s, ⟨⟩⟩ ⟨n, rfl, hn, hJ⟩
  rcases Nat.lt_or_ge n len with h | h
  · refine hstep _ _ n s h hJ fun s' hJ' => ?_
    have e : IntKind.i64.wrap ((n : Int) + 1) = ((n + 1 : Nat) : Int) := wrapIn _ (by omega)
    rw [e]
    exact ⟨⟨n + 1, rfl, h, hJ'⟩, by show ((len : Int) - (n + 1 : Nat)).toNat < ((len : Int) - n).toNat; omega⟩
  · have : n = len := by omega
    subst this
    exact hend _ _ s hJ
/-- The same, where the state is of any form. -/
theorem up_loopG {Y S : Type} (mk : Int → S → Y) (idx : Y → Int) (hidx : ∀ i s, idx (mk i s) = i) {B : (Y → Prop) → (Y → Nat) → Y → Prop} (len : Nat) (hlen : len ≤ 9223372036854775807) (J : Nat → S → Prop) {s0 : S} (h0 : J 0 s0)
    (hstep : ∀ I μ (n : Nat) (s : S), n < len → J n s → (∀ s', J (n + 1) s' → I (mk (IntKind.i64.wrap ((n : Int) + 1)) s') ∧ μ (mk (IntKind.i64.wrap ((n : Int) + 1)) s') < μ (mk n s)) → B I μ (mk n s))
    (hend : ∀ I μ s, J len s → B I μ (mk len s)) : ∃ I, ∃ μ, I (mk 0 s0) ∧ ∀ y, I y → B I μ y := by
  refine ⟨fun y => ∃ (n : Nat) (s : S), y = mk n s ∧ n ≤ len ∧ J n s, fun y => ((len : Int) - idx y).toNat, ⟨0, s0, rfl, Nat.zero_le _, h0⟩, ?_⟩
  rintro _ ⟨n, s, rfl, hn, hJ⟩
  rcases Nat.lt_or_ge n len with h | h
  · refine hstep _ _ n s h hJ fun s' hJ' => ?_
    have e : IntKind.i64.wrap ((n : Int) + 1) = ((n + 1 : Nat) : Int) := wrapIn _ (by omega)
    rw [e]
    refine ⟨⟨n + 1, s', rfl, h, hJ'⟩, ?_⟩
    show ((len : Int) - idx (mk (n + 1 : Nat) s')).toNat < ((len : Int) - idx (mk n s)).toNat
    rw [hidx, hidx]
    omega
  · have : n = len := by omega
    subst this
    exact hend _ _ s hJ
theorem allUpto_false {len : Nat} {f : Nat → Bool} {n : Nat} (hn : n < len) (h : f n = false) : Sp.allUpto len f = false := by
  unfold Sp.allUpto
  rw [List.all_eq_false]
  exact ⟨n, List.mem_range.2 hn, by rw [h]; simp⟩
theorem allUpto_true {len : Nat} {f : Nat → Bool} (h : ∀ i, i < len → f i = true) : Sp.allUpto len f = true := by
  unfold Sp.allUpto
  rw [List.all_eq_true]
  exact fun i hi => h i (List.mem_range.1 hi)
theorem allUpto_iff {len : Nat} {f : Nat → Bool} : Sp.allUpto len f = true ↔ ∀ i, i < len → f i = true := by
  unfold Sp.allUpto
  rw [List.all_eq_true]
  exact ⟨fun h i hi => h i (List.mem_range.2 hi), fun h i hi => h i (List.mem_range.1 hi)⟩
theorem all_upto_next {n : Nat} {f : Nat → Bool} (h : ∀ i, i < n → f i = true) (hn : f n = true) : ∀ i, i < n + 1 → f i = true := fun i hi => by
  rcases Nat.lt_or_ge i n with h' | h'
  · exact h i h'
  · have : i = n := by omega
    rw [this]; exact hn
theorem notT {b : Bool} (h : (!b) = true) : b = false := by cases b <;> first | rfl | cases h
theorem notF {b : Bool} (h : (!b) = false) : b = true := by cases b <;> first | rfl | cases h
theorem decT {p : Prop} [Decidable p] (h : decide p = true) : p := of_decide_eq_true h
theorem decF {p : Prop} [Decidable p] (h : decide p = false) : ¬ p := of_decide_eq_false h
theorem pred_in {n : Nat} (h : 0 < n) (hn : n ≤ 9223372036854775807) : IntKind.i64.wrap ((n : Int) - 1) = ((n - 1 : Nat) : Int) := by rw [wrapIn _ (by omega)]; omega
theorem list_eq_getD {α : Type} {d : α} {a b : List α} (hl : a.length = b.length) (h : ∀ i, i < a.length → a.getD i d = b.getD i d) : a = b := by
  refine List.ext_getElem hl fun i h1 h2 => ?_
  have := h i h1
  rw [List.getD_eq_getElem?_getD, List.getD_eq_getElem?_getD, List.getElem?_eq_getElem h1, List.getElem?_eq_getElem h2] at this
  simpa using this
/-- Two lists are compared, place by place. -/
theorem eq_loop {α β : Type} (e : α → α → Bool) (he : ∀ x y, e x y = false ↔ x = y) (d : α) (a b : List α) (t : β) (hlen : a.length ≤ 9223372036854775807) (hl : a.length = b.length) {K : Bool × Unit → Prop} (hF : a ≠ b → K (false, ())) (hT : a = b → K (true, ())) :
    ∃ (I : (Int × Unit) × Unit → Prop), ∃ (μ : (Int × Unit) × Unit → Nat), I (((0 : Int), ()), ()) ∧ ∀ (y : (Int × Unit) × Unit), I y →
      bif decide (y.fst.fst < (a.length : Int)) then
        ((0 : Int) ≤ y.fst.fst ∧ y.fst.fst < (a.length : Int)) ∧ ((0 : Int) ≤ y.fst.fst ∧ y.fst.fst < (b.length : Int)) ∧
          (bif e (a.getD (Int.toNat y.fst.fst) d) (b.getD (Int.toNat y.fst.fst) d) then K (false, ())
          else t = t ∧ I ((IntKind.i64.wrap (y.fst.fst + (1 : Int)), ()), ()) ∧ μ ((IntKind.i64.wrap (y.fst.fst + (1 : Int)), ()), ()) < μ y)
      else K (true, ()) := by
  refine up_loop a.length hlen (fun n => ∀ i, i < n → a.getD i d = b.getD i d) (fun i hi => by omega) (fun I μ n hn hJ next => ?_) fun I μ hJ => (by dsimp only; exact condF (by omega) (hT (list_eq_getD hl hJ)))
  dsimp only
  refine condT (by omega) ⟨⟨by omega, by omega⟩, ⟨by omega, by omega⟩, cond_intro (fun h => hF fun h' => ?_) fun h => ⟨rfl, next fun i hi => ?_⟩⟩
  · subst h'
    have := (he (a.getD n d) (a.getD n d)).2 rfl
    have h : e (a.getD n d) (a.getD n d) = true := h
    rw [this] at h; cases h
  · rcases Nat.lt_or_ge i n with h' | h'
    · exact hJ i h'
    · have : i = n := by omega
      rw [this]; exact (he _ _).1 h
theorem eq_loopT {α β : Type} (e : α → α → Bool) (he : ∀ x y, e x y = false ↔ x = y) (d : α) (a b : List α) (t : β) (hlen : a.length ≤ 9223372036854775807) (hl : a.length = b.length) {K : Bool × Unit → Prop} (hF : a ≠ b → K (false, ())) (hT : a = b → K (true, ())) :
    ∃ (I : (Int × Unit) × Unit → Prop), ∃ (μ : (Int × Unit) × Unit → Nat), I (((0 : Int), ()), ()) ∧ ∀ (y : (Int × Unit) × Unit), I y →
      bif decide (y.fst.fst < (a.length : Int)) then
        ((0 : Int) ≤ y.fst.fst ∧ y.fst.fst < (a.length : Int)) ∧ ((0 : Int) ≤ y.fst.fst ∧ y.fst.fst < (b.length : Int)) ∧ True ∧
          (bif e (a.getD (Int.toNat y.fst.fst) d) (b.getD (Int.toNat y.fst.fst) d) then K (false, ())
          else t = t ∧ I ((IntKind.i64.wrap (y.fst.fst + (1 : Int)), ()), ()) ∧ μ ((IntKind.i64.wrap (y.fst.fst + (1 : Int)), ()), ()) < μ y)
      else K (true, ()) := by
  refine up_loop a.length hlen (fun n => ∀ i, i < n → a.getD i d = b.getD i d) (fun i hi => by omega) (fun I μ n hn hJ next => ?_) fun I μ hJ => (by dsimp only; exact condF (by omega) (hT (list_eq_getD hl hJ)))
  dsimp only
  refine condT (by omega) ⟨⟨by omega, by omega⟩, ⟨by omega, by omega⟩, trivial, cond_intro (fun h => hF fun h' => ?_) fun h => ⟨rfl, next fun i hi => ?_⟩⟩
  · subst h'
    have := (he (a.getD n d) (a.getD n d)).2 rfl
    have h : e (a.getD n d) (a.getD n d) = true := h
    rw [this] at h; cases h
  · rcases Nat.lt_or_ge i n with h' | h'
    · exact hJ i h'
    · have : i = n := by omega
      rw [this]; exact (he _ _).1 h
end Go.Fw
/- Plain laws of schemas, files and stores. -/
namespace Sp
open Go Go.Fw
theorem kindOf_at {name : Bytes} : ∀ (s : List DField) (n : Nat), n < s.length → (∀ i, i < n → (s.getD i ([], 0, ())).1 ≠ name) → (s.getD n ([], 0, ())).1 = name → kindOf s name = (s.getD n ([], 0, ())).2.1
  | [], n, h, _, _ => by simp at h
  | f :: r, 0, _, _, he => by
    have he : f.1 = name := he
    show (bif decide (f.1 = name) then f.2.1 else kindOf r name) = f.2.1
    rw [decide_eq_true he]; rfl
  | f :: r, n + 1, h, hne, he => by
    have h0 : f.1 ≠ name := hne 0 (by omega)
    show (bif decide (f.1 = name) then f.2.1 else kindOf r name) = _
    rw [decide_eq_false h0]
    exact kindOf_at r n (by simpa using h) (fun i hi => hne (i + 1) (by omega)) he
theorem kindOf_none {name : Bytes} : ∀ (s : List DField), (∀ i, i < s.length → (s.getD i ([], 0, ())).1 ≠ name) → kindOf s name = 0
  | [], _ => rfl
  | f :: r, hne => by
    have h0 : f.1 ≠ name := hne 0 (by simp)
    show (bif decide (f.1 = name) then f.2.1 else kindOf r name) = _
    rw [decide_eq_false h0]
    exact kindOf_none r fun i hi => hne (i + 1) (by simp; omega)
theorem placeFrom_at {id : Int} : ∀ (s : List DFile) (k : Int) (n : Nat), n < s.length → (∀ i, i < n → (fileAt s i).1 ≠ id) → (fileAt s n).1 = id → placeFrom k s id = k + n
  | [], _, n, h, _, _ => by simp at h
  | f :: r, k, 0, _, _, he => by
    have he : f.1 = id := he
    show (bif decide (f.1 = id) then k else placeFrom (k + 1) r id) = _
    rw [decide_eq_true he]; simp
  | f :: r, k, n + 1, h, hne, he => by
    have h0 : f.1 ≠ id := hne 0 (by omega)
    show (bif decide (f.1 = id) then k else placeFrom (k + 1) r id) = _
    rw [decide_eq_false h0]
    show placeFrom (k + 1) r id = _
    rw [placeFrom_at r (k + 1) n (by simpa using h) (fun i hi => hne (i + 1) (by omega)) he]
    omega
theorem placeFrom_none {id : Int} : ∀ (s : List DFile) (k : Int), (∀ i, i < s.length → (fileAt s i).1 ≠ id) → placeFrom k s id = -1
  | [], _, _ => rfl
  | f :: r, k, hne => by
    have h0 : f.1 ≠ id := hne 0 (by simp)
    show (bif decide (f.1 = id) then k else placeFrom (k + 1) r id) = _
    rw [decide_eq_false h0]
    exact placeFrom_none r (k + 1) fun i hi => hne (i + 1) (by simp; omega)
theorem place_at {id : Int} {s : List DFile} {n : Nat} (h : n < s.length) (hne : ∀ i, i < n → (fileAt s i).1 ≠ id) (he : (fileAt s n).1 = id) : place s id = n := by
  unfold place
  rw [placeFrom_at s 0 n h hne he]; omega
theorem place_none {id : Int} {s : List DFile} (hne : ∀ i, i < s.length → (fileAt s i).1 ≠ id) : place s id = -1 := placeFrom_none s 0 hne
/-- Either no file bears the number, or the first that does is found. -/
theorem place_cases (s : List DFile) (id : Int) : (place s id = -1 ∧ ∀ i, i < s.length → (fileAt s i).1 ≠ id) ∨ ∃ n, n < s.length ∧ place s id = n ∧ (fileAt s n).1 = id ∧ ∀ i, i < n → (fileAt s i).1 ≠ id := by
  by_cases h : ∃ n, n < s.length ∧ (fileAt s n).1 = id
  · obtain ⟨n, h1, h2, h3⟩ := (least s.length (p := fun n => (fileAt s n).1 = id) h)
    exact .inr ⟨n, h1, place_at h1 (fun i hi => h3 i hi) h2, h2, fun i hi => h3 i hi⟩
  · have hne : ∀ i, i < s.length → (fileAt s i).1 ≠ id := fun i hi e => h ⟨i, hi, e⟩
    exact .inl ⟨place_none hne, hne⟩
theorem placeFrom_ids : ∀ (a b : List DFile) (k : Int) (id : Int), a.map (·.1) = b.map (·.1) → placeFrom k a id = placeFrom k b id
  | [], [], _, _, _ => rfl
  | [], _ :: _, _, _, h => by simp at h
  | _ :: _, [], _, _, h => by simp at h
  | f :: a, g :: b, k, id, h => by
    simp only [List.map_cons, List.cons.injEq] at h
    show (bif decide (f.1 = id) then k else placeFrom (k + 1) a id) = bif decide (g.1 = id) then k else placeFrom (k + 1) b id
    rw [h.1, placeFrom_ids a b (k + 1) id h.2]
theorem place_ids {a b : List DFile} (id : Int) (h : a.map (·.1) = b.map (·.1)) : place a id = place b id := placeFrom_ids a b 0 id h
theorem okSchema_no {s : List DField} {n : Nat} (h : n < s.length) (hn : okFieldAt s n = false) : okSchema s = false := by
  unfold okSchema; rw [allUpto_false h hn]; rfl
theorem okAttrs_no {fs : List DField} {s : List DAttr} {n : Nat} (h : n < s.length) (hn : okAttrAt fs s n = false) : okAttrs fs s = false := allUpto_false h hn
theorem okFile_no {fs : List DField} {f : DFile} {n : Nat} (h : n < f.2.2.2.2.1.length) (hn : okAttrAt fs f.2.2.2.2.1 n = false) : okFile fs f = false := by
  unfold okFile; rw [okAttrs_no h hn]; rfl
theorem okStore_no {s : DStore} {n : Nat} (h : n < s.2.1.length) (hn : okFileAt s n = false) : okStore s = false := by
  unfold okStore; rw [allUpto_false h hn]; rfl
theorem okFileAt_iff {s : DStore} {i : Nat} : okFileAt s i = true ↔ okFile s.1 (fileAt s.2.1 i) = true ∧ (fileAt s.2.1 i).1 < s.2.2.1 ∧ (0 < i → (fileAt s.2.1 (i - 1)).1 < (fileAt s.2.1 i).1) := by
  unfold okFileAt
  rw [Bool.and_eq_true, Bool.and_eq_true, decide_eq_true_eq, and_assoc]
  refine and_congr_right fun _ => and_congr_right fun _ => ?_
  by_cases h : 0 < i
  · simp [h]
  · simp [h]
theorem okStore_iff {s : DStore} : okStore s = true ↔ (∀ i, i < s.2.1.length → okFileAt s i = true) ∧ okSchema s.1 = true ∧ s.2.1.length ≤ 12 ∧ 1 ≤ s.2.2.1 ∧ s.2.2.1 ≤ 61 := by
  unfold okStore
  rw [Bool.and_eq_true, Bool.and_eq_true, Bool.and_eq_true, Bool.and_eq_true, decide_eq_true_eq, decide_eq_true_eq, decide_eq_true_eq, allUpto_iff]
  constructor
  · rintro ⟨⟨⟨h1, h2⟩, h3⟩, h4, h5⟩; exact ⟨h1, h2, by omega, h4, h5⟩
  · rintro ⟨h1, h2, h3, h4, h5⟩; exact ⟨⟨⟨h1, h2⟩, by omega⟩, h4, h5⟩
theorem okFile_id {fs : List DField} {f : DFile} (h : okFile fs f = true) : 1 ≤ f.1 ∧ f.1 ≤ 60 := by
  unfold okFile at h
  simp only [Bool.and_eq_true, decide_eq_true_eq] at h
  exact h.1.1.2
theorem fileAt_left {fs : List DFile} {g : DFile} {i : Nat} (h : i < fs.length) : fileAt (fs ++ [g]) i = fileAt fs i := by
  unfold fileAt
  rw [List.getD_eq_getElem?_getD, List.getElem?_append_left h, ← List.getD_eq_getElem?_getD]
theorem fileAt_last {fs : List DFile} {g : DFile} : fileAt (fs ++ [g]) fs.length = g := by
  unfold fileAt
  rw [List.getD_eq_getElem?_getD, List.getElem?_append_right (Nat.le_refl _)]; simp
theorem okStore_more {s : DStore} {g : DFile} (h : okStore s = true) (hl : s.2.1.length < 12) (hg : okFile s.1 g = true) (hid : g.1 = s.2.2.1) : okStore (s.1, s.2.1 ++ [g], s.2.2.1 + 1, ()) = true := by
  obtain ⟨h1, h2, h3, h4, h5⟩ := okStore_iff.1 h
  have hg1 := okFile_id hg
  refine okStore_iff.2 ⟨fun i hi => ?_, h2, by show (s.2.1 ++ [g]).length ≤ 12; simp; omega, by show 1 ≤ s.2.2.1 + 1; omega, by show s.2.2.1 + 1 ≤ 61; omega⟩
  have hi : i < (s.2.1 ++ [g]).length := hi
  rw [List.length_append, List.length_cons, List.length_nil] at hi
  refine okFileAt_iff.2 ?_
  show okFile s.1 (fileAt (s.2.1 ++ [g]) i) = true ∧ (fileAt (s.2.1 ++ [g]) i).1 < s.2.2.1 + 1 ∧ (0 < i → (fileAt (s.2.1 ++ [g]) (i - 1)).1 < (fileAt (s.2.1 ++ [g]) i).1)
  rcases Nat.lt_or_ge i s.2.1.length with hlt | hge
  · obtain ⟨k1, k2, k3⟩ := okFileAt_iff.1 (h1 i hlt)
    rw [fileAt_left hlt]
    refine ⟨k1, by omega, fun h0 => ?_⟩
    rw [fileAt_left (by omega)]
    exact k3 h0
  · have e : i = s.2.1.length := by omega
    subst e
    rw [fileAt_last]
    refine ⟨hg, by omega, fun h0 => ?_⟩
    rw [fileAt_left (by omega)]
    have := (okFileAt_iff.1 (h1 (s.2.1.length - 1) (by omega))).2.1
    omega
theorem createFile_cases (s : DStore) (f : DFile) : (createFile s f = (s, 0, false) ∧ ¬ (okStore s = true ∧ s.2.1.length < 12 ∧ okFile s.1 (s.2.2.1, f.2) = true)) ∨
    (okStore s = true ∧ s.2.1.length < 12 ∧ okFile s.1 (s.2.2.1, f.2) = true ∧ createFile s f = ((s.1, s.2.1 ++ [(s.2.2.1, f.2)], s.2.2.1 + 1, ()), s.2.2.1, true)) := by
  by_cases h : okStore s = true ∧ s.2.1.length < 12 ∧ okFile s.1 (s.2.2.1, f.2) = true
  · right
    refine ⟨h.1, h.2.1, h.2.2, ?_⟩
    unfold createFile
    dsimp only
    rw [h.1, h.2.2, decide_eq_true (by omega)]; rfl
  · left
    refine ⟨?_, h⟩
    have : (okStore s && decide ((s.2.1.length : Int) < 12) && okFile s.1 (s.2.2.1, f.2)) = false := by
      cases hb : (okStore s && decide ((s.2.1.length : Int) < 12) && okFile s.1 (s.2.2.1, f.2)) with
      | false => rfl
      | true =>
        simp only [Bool.and_eq_true, decide_eq_true_eq] at hb
        exact (h ⟨hb.1.1, by omega, hb.2⟩).elim
    unfold createFile
    dsimp only
    rw [this]; rfl
theorem okStore_create {s : DStore} (f : DFile) (h : okStore s = true) : okStore (createFile s f).1 = true := by
  rcases createFile_cases s f with ⟨e, _⟩ | ⟨h1, h2, h3, e⟩
  · rw [e]; exact h
  · rw [e]; exact okStore_more h1 h2 h3 rfl
theorem smallS_create {s : DStore} {f : DFile} (h : smallS s) (hf : smallF f) : smallS (createFile s f).1 := by
  rcases createFile_cases s f with ⟨e, _⟩ | ⟨h1, h2, h3, e⟩
  · rw [e]; exact h
  · rw [e]
    refine ⟨h.1, by show (s.2.1 ++ [(s.2.2.1, f.2)]).length ≤ 1000; simp; omega, fun g hg => ?_⟩
    have hg : g ∈ s.2.1 ++ [(s.2.2.1, f.2)] := hg
    rcases List.mem_append.1 hg with hg | hg
    · exact h.2.2 g hg
    · have : g = (s.2.2.1, f.2) := by simpa using hg
      subst this; exact hf
theorem deleteFile_cases (s : DStore) (id : Int) : (deleteFile s id = (s, false) ∧ ¬ (okStore s = true ∧ 0 ≤ place s.2.1 id)) ∨
    ∃ n, n < s.2.1.length ∧ place s.2.1 id = n ∧ okStore s = true ∧ deleteFile s id = ((s.1, s.2.1.eraseIdx n, s.2.2.1, ()), true) := by
  rcases place_cases s.2.1 id with ⟨h, _⟩ | ⟨n, hn, h, _, _⟩
  · left
    refine ⟨?_, fun h' => by omega⟩
    unfold deleteFile
    rw [h]; simp
  · cases ho : okStore s with
    | false =>
      left
      refine ⟨?_, fun h' => by cases h'.1⟩
      unfold deleteFile
      rw [ho]; rfl
    | true =>
      right
      refine ⟨n, hn, h, rfl, ?_⟩
      unfold deleteFile
      rw [ho, h, decide_eq_false (by omega), Int.toNat_natCast]; rfl
theorem fileAt_erase {fs : List DFile} {n i : Nat} : fileAt (fs.eraseIdx n) i = if i < n then fileAt fs i else fileAt fs (i + 1) := by
  unfold fileAt
  rw [List.getD_eq_getElem?_getD, List.getElem?_eraseIdx]
  split <;> rw [List.getD_eq_getElem?_getD]
theorem okStore_erase {s : DStore} {n : Nat} (h : okStore s = true) (hn : n < s.2.1.length) : okStore (s.1, s.2.1.eraseIdx n, s.2.2.1, ()) = true := by
  obtain ⟨h1, h2, h3, h4, h5⟩ := okStore_iff.1 h
  have hlen : (s.2.1.eraseIdx n).length = s.2.1.length - 1 := List.length_eraseIdx_of_lt hn
  refine okStore_iff.2 ⟨fun i hi => ?_, h2, by show (s.2.1.eraseIdx n).length ≤ 12; omega, h4, h5⟩
  have hi : i < (s.2.1.eraseIdx n).length := hi
  refine okFileAt_iff.2 ?_
  show okFile s.1 (fileAt (s.2.1.eraseIdx n) i) = true ∧ (fileAt (s.2.1.eraseIdx n) i).1 < s.2.2.1 ∧ (0 < i → (fileAt (s.2.1.eraseIdx n) (i - 1)).1 < (fileAt (s.2.1.eraseIdx n) i).1)
  rw [fileAt_erase, fileAt_erase]
  rcases Nat.lt_or_ge i n with hlt | hge
  · rw [if_pos hlt]
    obtain ⟨k1, k2, k3⟩ := okFileAt_iff.1 (h1 i (by omega))
    refine ⟨k1, k2, fun h0 => ?_⟩
    rw [if_pos (by omega)]
    exact k3 h0
  · rw [if_neg (by omega)]
    obtain ⟨k1, k2, k3⟩ := okFileAt_iff.1 (h1 (i + 1) (by omega))
    refine ⟨k1, k2, fun h0 => ?_⟩
    have k3 := k3 (by omega)
    rw [Nat.add_sub_cancel] at k3
    split
    · have := (okFileAt_iff.1 (h1 i (by omega))).2.2 h0
      omega
    · rw [show i - 1 + 1 = i by omega]
      exact k3
theorem okStore_delete {s : DStore} (id : Int) (h : okStore s = true) : okStore (deleteFile s id).1 = true := by
  rcases deleteFile_cases s id with ⟨e, _⟩ | ⟨n, hn, _, ho, e⟩
  · rw [e]; exact h
  · rw [e]; exact okStore_erase ho hn
theorem smallS_delete {s : DStore} (id : Int) (h : smallS s) : smallS (deleteFile s id).1 := by
  rcases deleteFile_cases s id with ⟨e, _⟩ | ⟨n, hn, _, ho, e⟩
  · rw [e]; exact h
  · rw [e]
    refine ⟨h.1, ?_, fun g hg => h.2.2 g (List.mem_of_mem_eraseIdx hg)⟩
    show (s.2.1.eraseIdx n).length ≤ 1000
    have := h.2.1
    rw [List.length_eraseIdx_of_lt hn]; omega
theorem replaceFile_cases (s : DStore) (f : DFile) : (replaceFile s f = (s, false) ∧ ¬ (okStore s = true ∧ 0 ≤ place s.2.1 f.1 ∧ okFile s.1 f = true)) ∨
    ∃ n, n < s.2.1.length ∧ place s.2.1 f.1 = n ∧ okStore s = true ∧ okFile s.1 f = true ∧ replaceFile s f = ((s.1, s.2.1.set n f, s.2.2.1, ()), true) := by
  rcases place_cases s.2.1 f.1 with ⟨h, _⟩ | ⟨n, hn, h, _, _⟩
  · left
    refine ⟨?_, fun h' => by omega⟩
    unfold replaceFile
    rw [h]; simp
  · cases ho : okStore s with
    | false =>
      left
      refine ⟨?_, fun h' => by cases h'.1⟩
      unfold replaceFile
      rw [ho]; rfl
    | true =>
      cases hf : okFile s.1 f with
      | false =>
        left
        refine ⟨?_, fun h' => by cases h'.2.2⟩
        unfold replaceFile
        rw [hf, Bool.and_false]; rfl
      | true =>
        right
        refine ⟨n, hn, h, rfl, rfl, ?_⟩
        unfold replaceFile
        rw [ho, hf, h, decide_eq_false (by omega), Int.toNat_natCast]; rfl
theorem smallS_replace {s : DStore} {f : DFile} (h : smallS s) (hf : smallF f) : smallS (replaceFile s f).1 := by
  rcases replaceFile_cases s f with ⟨e, _⟩ | ⟨n, hn, _, ho, _, e⟩
  · rw [e]; exact h
  · rw [e]
    refine ⟨h.1, by show (s.2.1.set n f).length ≤ 1000; rw [List.length_set]; exact h.2.1, fun g hg => ?_⟩
    rcases List.mem_or_eq_of_mem_set hg with hg | rfl
    · exact h.2.2 g hg
    · exact hf
theorem mem_fileAt {s : List DFile} {f : DFile} (h : f ∈ s) : ∃ i, i < s.length ∧ fileAt s i = f := by
  obtain ⟨i, hi, rfl⟩ := List.getElem_of_mem h
  refine ⟨i, hi, ?_⟩
  unfold fileAt
  rw [List.getD_eq_getElem?_getD, List.getElem?_eq_getElem hi]; rfl
theorem fileAt_mem {s : List DFile} {i : Nat} (h : i < s.length) : fileAt s i ∈ s := getD_mem h
theorem place_neg (s : List DFile) (id : Int) : place s id < 0 ↔ ∀ f ∈ s, f.1 ≠ id := by
  rcases place_cases s id with ⟨h, h2⟩ | ⟨n, hn, h, h2, _⟩
  · refine ⟨fun _ f hf => ?_, fun _ => by omega⟩
    obtain ⟨i, hi, rfl⟩ := mem_fileAt hf
    exact h2 i hi
  · refine ⟨fun h' => by omega, fun h' => (h' _ (fileAt_mem hn) h2).elim⟩
theorem findFile_snd (s : DStore) (id : Int) : (findFile s id).2 = !decide (place s.2.1 id < 0) := by
  unfold findFile
  cases decide (place s.2.1 id < 0) <;> rfl
theorem findFile_found (s : DStore) (id : Int) : (findFile s id).2 = true ↔ ∃ f ∈ s.2.1, f.1 = id := by
  rw [findFile_snd, Bool.not_eq_true', decide_eq_false_iff_not, place_neg]
  constructor
  · intro h
    refine Classical.byContradiction fun hno => h fun f hf e => hno ⟨f, hf, e⟩
  · rintro ⟨f, hf, e⟩ h
    exact h f hf e
theorem ids_lt {s : DStore} (h : okStore s = true) : ∀ (j i : Nat), i < j → j < s.2.1.length → (fileAt s.2.1 i).1 < (fileAt s.2.1 j).1
  | 0, i, hi, _ => by omega
  | j + 1, i, hi, hj => by
    have h1 := (okFileAt_iff.1 ((okStore_iff.1 h).1 (j + 1) hj)).2.2 (by omega)
    rw [Nat.add_sub_cancel] at h1
    rcases Nat.lt_or_ge i j with h2 | h2
    · have := ids_lt h j i h2 (by omega)
      omega
    · have : i = j := by omega
      rw [this]; exact h1
theorem ids_inj {s : DStore} (h : okStore s = true) {f g : DFile} (hf : f ∈ s.2.1) (hg : g ∈ s.2.1) (e : f.1 = g.1) : f = g := by
  obtain ⟨i, hi, rfl⟩ := mem_fileAt hf
  obtain ⟨j, hj, rfl⟩ := mem_fileAt hg
  rcases Nat.lt_trichotomy i j with h1 | h1 | h1
  · have := ids_lt h j i h1 hj; omega
  · rw [h1]
  · have := ids_lt h i j h1 hi; omega
theorem unlink_ids (fs gs : List DFile) : (fs.map (unlink gs)).map (·.1) = fs.map (·.1) := by rw [List.map_map]; rfl
theorem visible_small {s : DStore} (u : Int) (h : smallS s) : smallS (visible s u) := by
  obtain ⟨h0, h1, h2⟩ := h
  refine ⟨h0, ?_, fun f hf => ?_⟩
  · show ((s.2.1.filter (canRead · u)).map _).length ≤ 1000
    rw [List.length_map]
    have := List.length_filter_le (canRead · u) s.2.1
    omega
  · have hf : f ∈ (s.2.1.filter (canRead · u)).map (unlink (s.2.1.filter (canRead · u))) := hf
    obtain ⟨g, hg, rfl⟩ := List.mem_map.1 hf
    exact h2 g (List.mem_filter.1 hg).1
/-- Of a valid store just the readable files are seen. -/
theorem visible_read {s : DStore} (u : Int) (h : okStore s = true) {f : DFile} (hf : f ∈ s.2.1) : (findFile (visible s u) f.1).2 = canRead f u := by
  rw [Bool.eq_iff_iff, findFile_found]
  constructor
  · rintro ⟨g, hg, e⟩
    have hg : g ∈ (s.2.1.filter (canRead · u)).map (unlink (s.2.1.filter (canRead · u))) := hg
    obtain ⟨k, hk, rfl⟩ := List.mem_map.1 hg
    obtain ⟨k1, k2⟩ := List.mem_filter.1 hk
    have e : k.1 = f.1 := e
    rw [← ids_inj h k1 hf e]; exact k2
  · intro hr
    exact ⟨unlink (s.2.1.filter (canRead · u)) f, List.mem_map.2 ⟨f, List.mem_filter.2 ⟨hf, hr⟩, rfl⟩, rfl⟩
/-- No link leads to a hidden file. -/
theorem visible_link {s : DStore} (u : Int) {g : DFile} (hg : g ∈ (visible s u).2.1) (hne : g.2.2.2.1 ≠ 0) : (findFile (visible s u) g.2.2.2.1).2 = true := by
  have hg' : g ∈ (s.2.1.filter (canRead · u)).map (unlink (s.2.1.filter (canRead · u))) := hg
  obtain ⟨k, hk, rfl⟩ := List.mem_map.1 hg'
  rw [findFile_snd, Bool.not_eq_true', decide_eq_false_iff_not]
  show ¬ place ((s.2.1.filter (canRead · u)).map (unlink (s.2.1.filter (canRead · u)))) (unlink (s.2.1.filter (canRead · u)) k).2.2.2.1 < 0
  rw [place_ids _ (unlink_ids _ _)]
  intro h
  apply hne
  show (bif decide (place (s.2.1.filter (canRead · u)) k.2.2.2.1 < 0) then 0 else k.2.2.2.1) = (0 : Int)
  have h : place (s.2.1.filter (canRead · u)) (bif decide (place (s.2.1.filter (canRead · u)) k.2.2.2.1 < 0) then 0 else k.2.2.2.1) < 0 := h
  cases hd : decide (place (s.2.1.filter (canRead · u)) k.2.2.2.1 < 0) with
  | true => rfl
  | false => rw [hd] at h; exact (of_decide_eq_false hd h).elim
theorem unlink_again (fs : List DFile) (f : DFile) : unlink (fs.map (unlink fs)) (unlink fs f) = unlink fs f := by
  have e : place (fs.map (unlink fs)) (unlink fs f).2.2.2.1 = place fs (unlink fs f).2.2.2.1 := place_ids _ (unlink_ids fs fs)
  show ((unlink fs f).1, (unlink fs f).2.1, (unlink fs f).2.2.1, (bif decide (place (fs.map (unlink fs)) (unlink fs f).2.2.2.1 < 0) then 0 else (unlink fs f).2.2.2.1), (unlink fs f).2.2.2.2.1, ()) = unlink fs f
  rw [e]
  have hl : (unlink fs f).2.2.2.1 = bif decide (place fs f.2.2.2.1 < 0) then 0 else f.2.2.2.1 := rfl
  cases hd : decide (place fs f.2.2.2.1 < 0) with
  | true =>
    have hl0 : (unlink fs f).2.2.2.1 = 0 := by rw [hl, hd]; rfl
    have : (bif decide (place fs (unlink fs f).2.2.2.1 < 0) then 0 else (unlink fs f).2.2.2.1) = (unlink fs f).2.2.2.1 := by
      rw [hl0]; cases decide (place fs 0 < 0) <;> rfl
    rw [this]
  | false =>
    have hl1 : (unlink fs f).2.2.2.1 = f.2.2.2.1 := by rw [hl, hd]; rfl
    have : (bif decide (place fs (unlink fs f).2.2.2.1 < 0) then 0 else (unlink fs f).2.2.2.1) = (unlink fs f).2.2.2.1 := by
      rw [hl1, hd]; rfl
    rw [this]
theorem visible_again (s : DStore) (u : Int) : visible (visible s u) u = visible s u := by
  have hf : ((visible s u).2.1).filter (canRead · u) = (visible s u).2.1 := by
    refine List.filter_eq_self.2 fun g hg => ?_
    have hg : g ∈ (s.2.1.filter (canRead · u)).map (unlink (s.2.1.filter (canRead · u))) := hg
    obtain ⟨k, hk, rfl⟩ := List.mem_map.1 hg
    exact (List.mem_filter.1 hk).2
  show ((visible s u).1, (((visible s u).2.1).filter (canRead · u)).map (unlink (((visible s u).2.1).filter (canRead · u))), (visible s u).2.2.1, ()) = visible s u
  rw [hf]
  show (s.1, ((s.2.1.filter (canRead · u)).map (unlink (s.2.1.filter (canRead · u)))).map (unlink ((s.2.1.filter (canRead · u)).map (unlink (s.2.1.filter (canRead · u))))), s.2.2.1, ()) = (s.1, (s.2.1.filter (canRead · u)).map (unlink (s.2.1.filter (canRead · u))), s.2.2.1, ())
  rw [List.map_map]
  congr 2
  refine List.map_congr_left fun f _ => unlink_again _ f
theorem write_read (f : DFile) (u : Int) (h : canWrite f u = true) : canRead f u = true := by
  unfold canWrite at h
  unfold canRead
  rw [Bool.and_eq_true] at h
  rw [h.1, h.2]; rfl
theorem takeWhile_at {α : Type} {p : α → Bool} {d : α} : ∀ (l : List α) (n : Nat), n ≤ l.length → (∀ i, i < n → p (l.getD i d) = true) → (n < l.length → p (l.getD n d) = false) → l.takeWhile p = l.take n ∧ l.dropWhile p = l.drop n
  | [], n, h, _, _ => by simp
  | x :: r, 0, _, _, h => by
    have h : p x = false := h (by simp)
    constructor <;> simp [h]
  | x :: r, n + 1, hn, h1, h2 => by
    have h0 : p x = true := h1 0 (by omega)
    have := takeWhile_at r n (by simpa using hn) (fun i hi => h1 (i + 1) (by omega)) fun hlt => h2 (by simpa using hlt)
    constructor <;> simp [h0, this.1, this.2]
theorem fileAt_set {fs : List DFile} {n i : Nat} {f : DFile} (hn : n < fs.length) : fileAt (fs.set n f) i = if n = i then f else fileAt fs i := by
  unfold fileAt
  rw [List.getD_eq_getElem?_getD, List.getElem?_set, List.getD_eq_getElem?_getD]
  split
  · rfl
  · rfl
theorem okStore_set {s : DStore} {n : Nat} {f : DFile} (h : okStore s = true) (hn : n < s.2.1.length) (hf : okFile s.1 f = true) (he : (fileAt s.2.1 n).1 = f.1) : okStore (s.1, s.2.1.set n f, s.2.2.1, ()) = true := by
  obtain ⟨h1, h2, h3, h4, h5⟩ := okStore_iff.1 h
  have hid : ∀ i, (fileAt (s.2.1.set n f) i).1 = (fileAt s.2.1 i).1 := fun i => by
    rw [fileAt_set hn]
    split
    · rename_i e; rw [← e, he]
    · rfl
  refine okStore_iff.2 ⟨fun i hi => ?_, h2, by show (s.2.1.set n f).length ≤ 12; rw [List.length_set]; exact h3, h4, h5⟩
  have hi : i < (s.2.1.set n f).length := hi
  rw [List.length_set] at hi
  obtain ⟨k1, k2, k3⟩ := okFileAt_iff.1 (h1 i hi)
  refine okFileAt_iff.2 ?_
  show okFile s.1 (fileAt (s.2.1.set n f) i) = true ∧ (fileAt (s.2.1.set n f) i).1 < s.2.2.1 ∧ (0 < i → (fileAt (s.2.1.set n f) (i - 1)).1 < (fileAt (s.2.1.set n f) i).1)
  rw [hid, hid]
  refine ⟨?_, k2, k3⟩
  rw [fileAt_set hn]
  split
  · exact hf
  · exact k1
theorem okStore_replace {s : DStore} (f : DFile) (h : okStore s = true) : okStore (replaceFile s f).1 = true := by
  rcases replaceFile_cases s f with ⟨e, _⟩ | ⟨n, hn, hp, ho, hf, e⟩
  · rw [e]; exact h
  · rw [e]
    refine okStore_set ho hn hf ?_
    rcases place_cases s.2.1 f.1 with ⟨h', _⟩ | ⟨m, hm, h', h2, _⟩
    · omega
    · rw [← h2, show n = m by omega]
theorem findFile_is {s : DStore} {id : Int} (h : (findFile s id).2 = true) : (findFile s id).1 ∈ s.2.1 ∧ (findFile s id).1.1 = id := by
  rw [findFile_snd, Bool.not_eq_true', decide_eq_false_iff_not] at h
  rcases place_cases s.2.1 id with ⟨h', _⟩ | ⟨n, hn, h', h2, _⟩
  · omega
  · have e : (findFile s id).1 = fileAt s.2.1 n := by
      unfold findFile
      rw [decide_eq_false h, h', Int.toNat_natCast]; rfl
    rw [e]
    exact ⟨fileAt_mem hn, h2⟩
theorem findFile_mem {s : DStore} {f : DFile} (h : okStore s = true) (hf : f ∈ s.2.1) : findFile s f.1 = (f, true) := by
  have h2 : (findFile s f.1).2 = true := (findFile_found s f.1).2 ⟨f, hf, rfl⟩
  obtain ⟨h3, h4⟩ := findFile_is h2
  exact Prod.ext (ids_inj h h3 hf h4) h2
/-- What is created is found, and the list is longer by one. -/
theorem create_found {s : DStore} {f : DFile} (h : (createFile s f).2.2 = true) : (findFile (createFile s f).1 (createFile s f).2.1).2 = true ∧ (findFile (createFile s f).1 (createFile s f).2.1).1.1 = (createFile s f).2.1 ∧ (createFile s f).1.2.1.length = s.2.1.length + 1 ∧ s.2.1.length < 12 ∧ okStore (createFile s f).1 = true := by
  rcases createFile_cases s f with ⟨e, _⟩ | ⟨h1, h2, h3, e⟩
  · rw [e] at h; cases h
  · have h4 := okStore_create f h1
    rw [e] at h4 ⊢
    have hm : (s.2.2.1, f.2) ∈ s.2.1 ++ [(s.2.2.1, f.2)] := by simp
    have hf := findFile_mem h4 hm
    have hf : findFile (s.1, s.2.1 ++ [(s.2.2.1, f.2)], s.2.2.1 + 1, ()) s.2.2.1 = ((s.2.2.1, f.2), true) := hf
    dsimp only
    rw [hf]
    exact ⟨rfl, rfl, by simp, h2, h4⟩
theorem create_same {s : DStore} {f : DFile} (h : (createFile s f).2.2 = false) : (createFile s f).1 = s := by
  rcases createFile_cases s f with ⟨e, _⟩ | ⟨h1, h2, h3, e⟩
  · rw [e]
  · rw [e] at h; cases h
theorem replace_found {s : DStore} {f : DFile} (h : (replaceFile s f).2 = true) : findFile (replaceFile s f).1 f.1 = (f, true) ∧ okStore (replaceFile s f).1 = true := by
  rcases replaceFile_cases s f with ⟨e, _⟩ | ⟨n, hn, hp, ho, hf, e⟩
  · rw [e] at h; cases h
  · have h4 := okStore_replace f ho
    rw [e] at h4 ⊢
    exact ⟨findFile_mem h4 (List.mem_iff_getElem.2 ⟨n, by simpa using hn, by simp⟩), h4⟩
theorem delete_gone {s : DStore} {id : Int} (h : (deleteFile s id).2 = true) : (findFile (deleteFile s id).1 id).2 = false ∧ (deleteFile s id).1.2.1.length = s.2.1.length - 1 ∧ 1 ≤ s.2.1.length ∧ s.2.1.length ≤ 12 := by
  rcases deleteFile_cases s id with ⟨e, _⟩ | ⟨n, hn, hp, ho, e⟩
  · rw [e] at h; cases h
  · rw [e]
    have hlen : (s.2.1.eraseIdx n).length = s.2.1.length - 1 := List.length_eraseIdx_of_lt hn
    have hid : (fileAt s.2.1 n).1 = id := by
      rcases place_cases s.2.1 id with ⟨h', _⟩ | ⟨m, hm, h', h2, _⟩
      · omega
      · rw [← h2, show n = m by omega]
    refine ⟨?_, hlen, by omega, (okStore_iff.1 ho).2.2.1⟩
    rw [← Bool.not_eq_true, findFile_found]
    rintro ⟨g, hg, eg⟩
    obtain ⟨i, hi, rfl⟩ := mem_fileAt hg
    have hi : i < (s.2.1.eraseIdx n).length := hi
    have eg : (fileAt (s.2.1.eraseIdx n) i).1 = id := eg
    rw [fileAt_erase] at eg
    split at eg
    · have := ids_lt ho n i (by omega) hn; omega
    · have := ids_lt ho (i + 1) n (by omega) (by omega); omega
end Sp
/- Plain functions for the parsing of actions. -/
namespace Sp
open Go
def okByte (b : UInt8) : Bool := decide (32 ≤ b.toNat) && decide (b.toNat ≤ 126)
def asciiS (s : Bytes) : Bool := s.all fun b => decide (b.toNat < 128)
def wordsOf (s : Bytes) : LS := (Lib.fields s).map (·, ())
def splitOk (s : Bytes) : Bool := decide ((s.length : Int) ≤ 600) && s.all okByte && decide (((Lib.fields s).length : Int) ≤ 24)
def splitF (s : Bytes) : LS := bif splitOk s then wordsOf s else []
/-- The number that figures stand for. -/
def decVal (s : Bytes) : Int := s.foldl (fun n b => 10 * n + ((b.toNat : Int) - 48)) 0
def parseOk (s : Bytes) : Bool := isUint (decVal s) && (Lib.itoa (decVal s) == s)
def parseNum (s : Bytes) : Int := bif parseOk s then decVal s else 0
def wordAt (w : LS) (i : Int) : Bytes := bif decide (i ≥ (w.length : Int)) then [] else (w.getD i.toNat ([], ())).1
def joinW (w : LS) : Bytes := Lib.join (w.map (·.1)) [32]
def numAt (w : LS) (i : Int) : Int := parseNum (wordAt w i)
/-- Kind, user, name and number of an action, as its words say. -/
def actOf (w : LS) : Int × Int × Bytes × Int :=
  bif wordAt w 0 == [99, 111, 109, 109, 105, 116] then (1, numAt w 1, [], 0) else
  bif wordAt w 0 == [99, 114, 97, 115, 104] then (2, numAt w 1, [], numAt w 2) else
  bif wordAt w 0 == [119, 97, 116, 99, 104] then (3, numAt w 1, wordAt w 2, 0) else
  bif wordAt w 0 == [112, 105, 110] then (4, 0, [], numAt w 1) else
  bif wordAt w 0 == [117, 110, 112, 105, 110] then (5, 0, [], numAt w 1) else
  bif wordAt w 0 == [99, 111, 108, 108, 101, 99, 116] then (6, 0, [], 0) else
  bif wordAt w 0 == [97, 100, 100] then (7, numAt w 1, wordAt w 2, numAt w 3) else
  bif wordAt w 0 == [114, 101, 109, 111, 118, 101] then (8, numAt w 1, wordAt w 2, numAt w 3) else (0, 0, [], 0)
def actText (x : Int × Int × Bytes × Int) : Bytes := actionText x.1 x.2.1 0 x.2.2.1 x.2.2.2
def parseActOk (s : Bytes) : Bool := splitOk s && !(wordsOf s == []) && (!(actText (actOf (wordsOf s)) == []) && (actText (actOf (wordsOf s)) == joinW (wordsOf s)))
def parseAct (s : Bytes) : DAction :=
  bif parseActOk s then ((actOf (wordsOf s)).1, (actOf (wordsOf s)).2.1, [], (actOf (wordsOf s)).2.2.1, (actOf (wordsOf s)).2.2.2, ()) else (0, 0, [], [], 0, ())
end Sp
/- Numbers and their texts, in plain Lean. -/
namespace Sp
open Go

theorem itoa_nat (u : Nat) : Lib.itoa (u : Int) = Lib.decDigits u := by unfold Lib.itoa; rw [if_neg (by omega)]; simp
theorem digits_append (s : Bytes) (d : UInt8) : decVal (s ++ [d]) = 10 * decVal s + ((d.toNat : Int) - 48) := by simp [decVal, List.foldl_append]
theorem byte_of (d : Nat) (h : d < 10) : (UInt8.ofNat (48 + d)).toNat = 48 + d := by
  rw [UInt8.toNat_ofNat']; omega
theorem decFrom_append (s : List UInt8) : ∀ (acc : Nat) (n : Nat), Lib.decFrom acc s = some n → ∀ d, d < 10 → Lib.decFrom acc (s ++ [UInt8.ofNat (48 + d)]) = some (n * 10 + d) := by
  intro acc n h d hd
  induction s generalizing acc with
  | nil =>
    simp only [Lib.decFrom, Option.some.injEq] at h
    subst h
    have : ∀ d : Fin 10, Lib.digitVal (UInt8.ofNat (48 + d.val)) = some d.val := by decide
    have h2 := this ⟨d, hd⟩
    simp only [List.nil_append, Lib.decFrom]
    rw [h2]
  | cons a r ih =>
    simp only [List.cons_append, Lib.decFrom] at h ⊢
    cases hv : Lib.digitVal a with
    | none => rw [hv] at h; simp at h
    | some x => rw [hv] at h; simp only at h ⊢; exact ih _ h
/-- What the figures of u stand for; they are figures. -/
theorem decDigits_val : ∀ (k u : Nat), u < 10 ^ (k + 1) → decVal (Lib.decDigits u) = u ∧ Lib.decFrom 0 (Lib.decDigits u) = some u ∧ (∀ b ∈ Lib.decDigits u, 48 ≤ b.toNat ∧ b.toNat ≤ 57) ∧ Lib.decDigits u ≠ [] ∧ (Lib.decDigits u).length ≤ k + 1
  | 0, u, h => by
    have h : u < 10 := by simpa using h
    rw [Lib.decDigits_one h]
    have hb := byte_of u h
    have := decFrom_append [] 0 0 rfl u h
    refine ⟨?_, ?_, fun b hm => ?_, List.cons_ne_nil _ _, Nat.le_refl _⟩
    · have := digits_append [] (UInt8.ofNat (48 + u))
      rw [List.nil_append] at this
      rw [this, hb]
      show 10 * 0 + _ = _
      omega
    · rw [List.nil_append, Nat.zero_mul, Nat.zero_add] at this; exact this
    · rw [List.mem_singleton] at hm; subst hm; omega
  | k + 1, u, h => by
    by_cases h1 : u < 10
    · have := decDigits_val 0 u (by simpa using h1)
      exact ⟨this.1, this.2.1, this.2.2.1, this.2.2.2.1, by omega⟩
    · have hd : u / 10 < 10 ^ (k + 1) := by rw [Nat.pow_succ] at h; omega
      obtain ⟨i1, i2, i3, i4, i5⟩ := decDigits_val k (u / 10) hd
      have e : Lib.decDigits u = Lib.decDigits (u / 10) ++ [UInt8.ofNat (48 + u % 10)] := by
        conv => lhs; rw [Lib.decDigits, dif_neg h1]
      have hm : u % 10 < 10 := Nat.mod_lt _ (by decide)
      have hb := byte_of (u % 10) hm
      rw [e]
      refine ⟨by rw [digits_append, i1, hb]; omega, ?_, fun b hb2 => ?_, by simp, by simp; omega⟩
      · rw [decFrom_append _ _ _ i2 _ hm]; congr 1; omega
      · rcases List.mem_append.1 hb2 with h2 | h2
        · exact i3 b h2
        · rw [List.mem_singleton] at h2; subst h2; omega
theorem isUint_iff {n : Int} : isUint n = true ↔ 0 ≤ n ∧ n ≤ 1000000000 := by
  unfold isUint; rw [Bool.and_eq_true, decide_eq_true_eq, decide_eq_true_eq]
/-- The text of a number up to a thousand million. -/
theorem itoa_uint {n : Int} (h : isUint n = true) : decVal (Lib.itoa n) = n ∧ Lib.atoi (Lib.itoa n) = some n ∧ (∀ b ∈ Lib.itoa n, 48 ≤ b.toNat ∧ b.toNat ≤ 57) ∧ Lib.itoa n ≠ [] ∧ (Lib.itoa n).length ≤ 10 := by
  obtain ⟨h0, h1⟩ := isUint_iff.1 h
  obtain ⟨u, rfl⟩ := Int.eq_ofNat_of_zero_le h0
  have hu : u < 10 ^ (9 + 1) := by omega
  rw [itoa_nat]
  obtain ⟨i1, i2, i3, i4, i5⟩ := decDigits_val 9 u hu
  refine ⟨i1, ?_, i3, i4, i5⟩
  cases hd : Lib.decDigits u with
  | nil => exact absurd hd i4
  | cons b r =>
    have hb := i3 b (by rw [hd]; simp)
    rw [hd] at i2
    have n45 : (b == 45) = false := by rw [beq_eq_false_iff_ne]; intro e; subst e; revert hb; decide
    have n43 : (b == 43) = false := by rw [beq_eq_false_iff_ne]; intro e; subst e; revert hb; decide
    simp only [Lib.atoi, n45, n43, Lib.decNat, Bool.false_eq_true, if_false, List.isEmpty_cons, i2, Option.map_some]
theorem parseOk_iff {s : Bytes} : parseOk s = true ↔ isUint (decVal s) = true ∧ Lib.itoa (decVal s) = s := by
  unfold parseOk; rw [Bool.and_eq_true, beq_iff_eq]
theorem parseOk_of {s : Bytes} {n : Int} (h : isUint n = true) (e : Lib.itoa n = s) : parseOk s = true ∧ parseNum s = n := by
  have hv : decVal s = n := by rw [← e]; exact (itoa_uint h).1
  have : parseOk s = true := parseOk_iff.2 ⟨by rw [hv]; exact h, by rw [hv]; exact e⟩
  exact ⟨this, by unfold parseNum; rw [this]; exact hv⟩
theorem parse_itoa {n : Int} (h : isUint n = true) : parseOk (Lib.itoa n) = true ∧ parseNum (Lib.itoa n) = n := parseOk_of h rfl
theorem parseNum_text {s : Bytes} (h : parseOk s = true) : Lib.itoa (parseNum s) = s ∧ isUint (parseNum s) = true := by
  have e : parseNum s = decVal s := by unfold parseNum; rw [h]; rfl
  rw [e]
  exact ⟨(parseOk_iff.1 h).2, (parseOk_iff.1 h).1⟩
theorem parseNum_uint (s : Bytes) : isUint (parseNum s) = true := by
  cases h : parseOk s with
  | true => exact (parseNum_text h).2
  | false => unfold parseNum; rw [h]; rfl
theorem parseNum_no {s : Bytes} (h : parseOk s = false) : parseNum s = 0 := by unfold parseNum; rw [h]; rfl
theorem parseOk_short {s : Bytes} (h : parseOk s = true) : s.length ≤ 10 := by
  have := (itoa_uint (parseNum_text h).2).2.2.2.2
  rwa [(parseNum_text h).1] at this
theorem parseOk_long {s : Bytes} (h : 10 < s.length) : parseOk s = false := by
  cases hp : parseOk s with
  | false => rfl
  | true => have := parseOk_short hp; omega
theorem parseOk_digits {s : Bytes} (h : parseOk s = true) : ∀ b ∈ s, 48 ≤ b.toNat ∧ b.toNat ≤ 57 := by
  have := (itoa_uint (parseNum_text h).2).2.2.1
  rwa [(parseNum_text h).1] at this
end Sp
/- Fields, joins and the texts of actions, in plain Lean. -/
namespace Sp
open Go

/-- A word: not empty, no white space. -/
def solid (x : Bytes) : Prop := x ≠ [] ∧ ∀ b ∈ x, Lib.isSp b = false

theorem fieldsGo_word : ∀ (x cur l : Bytes), (∀ b ∈ x, Lib.isSp b = false) → Lib.fieldsGo cur (x ++ l) = Lib.fieldsGo (cur ++ x) l
  | [], cur, l, _ => by rw [List.append_nil, List.nil_append]
  | b :: x, cur, l, h => by
    rw [List.cons_append, Lib.fieldsGo_more _ _ _ (h b List.mem_cons_self), fieldsGo_word x _ l (fun c hc => h c (List.mem_cons_of_mem _ hc)), List.append_assoc]
    rfl
theorem fieldsGo_tail : ∀ (r : List Bytes) (x : Bytes), x ≠ [] → (∀ y ∈ r, solid y) → Lib.fieldsGo x (Lib.joinTail [32] r) = x :: r
  | [], x, hx, _ => by
    cases x with
    | nil => exact absurd rfl hx
    | cons _ _ => simp [Lib.joinTail, Lib.fieldsGo]
  | y :: r, x, hx, h => by
    have hy := h y List.mem_cons_self
    have e : Lib.joinTail [32] (y :: r) = 32 :: (y ++ Lib.joinTail [32] r) := by simp [Lib.joinTail]
    rw [e, Lib.fieldsGo_end x 32 _ (by decide) hx, fieldsGo_word y [] _ hy.2, List.nil_append, fieldsGo_tail r y hy.1 fun z hz => h z (List.mem_cons_of_mem _ hz)]
theorem fields_join : ∀ ws : List Bytes, (∀ x ∈ ws, solid x) → Lib.fields (Lib.join ws [32]) = ws
  | [], _ => rfl
  | x :: r, h => by
    have hx := h x List.mem_cons_self
    unfold Lib.fields
    rw [Lib.join_cons, fieldsGo_word x [] _ hx.2, List.nil_append, fieldsGo_tail r x hx.1 fun z hz => h z (List.mem_cons_of_mem _ hz)]
theorem fieldsGo_solid : ∀ (l cur : Bytes), (∀ b ∈ cur, Lib.isSp b = false) → ∀ x ∈ Lib.fieldsGo cur l, solid x
  | [], cur, hc, x, hx => by
    rw [Lib.fieldsGo] at hx
    split at hx
    · cases hx
    · next h => simp at hx; subst hx; exact ⟨fun e => h (by rw [e]; rfl), hc⟩
  | b :: l, cur, hc, x, hx => by
    rw [Lib.fieldsGo] at hx
    split at hx
    · split at hx
      · exact fieldsGo_solid l [] (by simp) x hx
      · next h =>
        rcases List.mem_cons.1 hx with rfl | hx
        · exact ⟨fun e => h (by rw [e]; rfl), hc⟩
        · exact fieldsGo_solid l [] (by simp) x hx
    · next hb =>
      refine fieldsGo_solid l (cur ++ [b]) (fun c h => ?_) x hx
      rcases List.mem_append.1 h with h | h
      · exact hc c h
      · rw [List.mem_singleton] at h; subst h; simpa using hb
theorem fields_solid (s : Bytes) : ∀ x ∈ Lib.fields s, solid x := fieldsGo_solid s [] (by simp)
theorem wordsOf_solid (s : Bytes) : ∀ x ∈ wordsOf s, solid x.1 := by
  intro x hx
  obtain ⟨y, hy, rfl⟩ := List.mem_map.1 hx
  exact fields_solid s y hy
theorem map_unit : ∀ w : LS, (w.map (·.1)).map (·, ()) = w
  | [] => rfl
  | (_, ()) :: r => by rw [List.map_cons, List.map_cons, map_unit r]
theorem wordsOf_join (ws : List Bytes) (h : ∀ x ∈ ws, solid x) : wordsOf (Lib.join ws [32]) = ws.map (·, ()) := by unfold wordsOf; rw [fields_join ws h]

/-- A text that its words, joined, give again. -/
def tidy (t : Bytes) : Prop := ∃ ws : List Bytes, (∀ x ∈ ws, solid x) ∧ t = Lib.join ws [32]
theorem tidy_words {t : Bytes} (h : tidy t) {w : LS} (hw : ∀ x ∈ w, solid x.1) : wordsOf t = w ↔ t = joinW w := by
  obtain ⟨ws, h1, rfl⟩ := h
  rw [wordsOf_join ws h1]
  constructor
  · rintro rfl
    unfold joinW
    rw [List.map_map]
    congr 1
    exact (List.map_id ws).symm
  · intro e
    have := congrArg Lib.fields e
    rw [fields_join ws h1] at this
    unfold joinW at this
    rw [fields_join _ (fun x hx => by obtain ⟨y, hy, rfl⟩ := List.mem_map.1 hx; exact hw y hy)] at this
    rw [this, map_unit]

theorem solid_itoa {n : Int} (h : isUint n = true) : solid (Lib.itoa n) := by
  obtain ⟨_, _, h3, h4, _⟩ := itoa_uint h
  refine ⟨h4, fun b hb => ?_⟩
  have := h3 b hb
  unfold Lib.isSp
  have ne : ∀ c : UInt8, c.toNat < 48 → (b == c) = false := fun c hc => by rw [beq_eq_false_iff_ne]; intro e; subst e; omega
  rw [ne 9 (by decide), ne 10 (by decide), ne 11 (by decide), ne 12 (by decide), ne 13 (by decide), ne 32 (by decide)]
  rfl
theorem solid_valid {s : Bytes} (h : validStr s = true) : solid s := by
  unfold validStr lower at h
  rw [Bool.and_eq_true, Bool.and_eq_true, List.all_eq_true, decide_eq_true_eq, decide_eq_true_eq] at h
  refine ⟨fun e => by subst e; simp at h, fun b hb => ?_⟩
  have := h.1.1 b hb
  rw [Bool.and_eq_true, decide_eq_true_eq, decide_eq_true_eq] at this
  unfold Lib.isSp
  have ne : ∀ c : UInt8, c.toNat < 97 → (b == c) = false := fun c hc => by rw [beq_eq_false_iff_ne]; intro e; subst e; omega
  rw [ne 9 (by decide), ne 10 (by decide), ne 11 (by decide), ne 12 (by decide), ne 13 (by decide), ne 32 (by decide)]
  rfl
theorem itoa_ascii (n : Int) (h : isUint n = true) : asciiS (Lib.itoa n) = true := by
  unfold asciiS
  rw [List.all_eq_true]
  intro b hb
  have := (itoa_uint h).2.2.1 b hb
  rw [decide_eq_true_eq]; omega

def kwCommit : Bytes := [99, 111, 109, 109, 105, 116]
def kwCrash : Bytes := [99, 114, 97, 115, 104]
def kwWatch : Bytes := [119, 97, 116, 99, 104]
def kwPin : Bytes := [112, 105, 110]
def kwUnpin : Bytes := [117, 110, 112, 105, 110]
def kwCollect : Bytes := [99, 111, 108, 108, 101, 99, 116]
def kwAdd : Bytes := [97, 100, 100]
def kwRemove : Bytes := [114, 101, 109, 111, 118, 101]
/-- The words of an action's text. -/
def actWords (k u : Int) (n : Bytes) (a : Int) : List Bytes :=
  bif k == 1 then [kwCommit, Lib.itoa u] else bif k == 2 then [kwCrash, Lib.itoa u, Lib.itoa a] else bif k == 3 then [kwWatch, Lib.itoa u, n] else
  bif k == 4 then [kwPin, Lib.itoa a] else bif k == 5 then [kwUnpin, Lib.itoa a] else bif k == 6 then [kwCollect] else bif k == 7 then [kwAdd, Lib.itoa u, n, Lib.itoa a] else [kwRemove, Lib.itoa u, n, Lib.itoa a]
theorem solid_kw (x : Bytes) (h : x = kwCommit ∨ x = kwCrash ∨ x = kwWatch ∨ x = kwPin ∨ x = kwUnpin ∨ x = kwCollect ∨ x = kwAdd ∨ x = kwRemove) : solid x := by
  rcases h with rfl | rfl | rfl | rfl | rfl | rfl | rfl | rfl <;> exact ⟨by decide, by decide⟩
/-- A word of ASCII signs. -/
def good (x : Bytes) : Prop := solid x ∧ asciiS x = true
theorem good_kw (x : Bytes) (h : x = kwCommit ∨ x = kwCrash ∨ x = kwWatch ∨ x = kwPin ∨ x = kwUnpin ∨ x = kwCollect ∨ x = kwAdd ∨ x = kwRemove) : good x := by
  refine ⟨solid_kw x h, ?_⟩
  rcases h with rfl | rfl | rfl | rfl | rfl | rfl | rfl | rfl <;> decide
theorem good_itoa {n : Int} (h : isUint n = true) : good (Lib.itoa n) := ⟨solid_itoa h, itoa_ascii n h⟩
theorem good_valid {s : Bytes} (h : validStr s = true) : good s := by
  refine ⟨solid_valid h, ?_⟩
  unfold validStr lower at h
  rw [Bool.and_eq_true, Bool.and_eq_true, List.all_eq_true] at h
  unfold asciiS
  rw [List.all_eq_true]
  intro b hb
  have := h.1.1 b hb
  rw [Bool.and_eq_true, decide_eq_true_eq, decide_eq_true_eq] at this
  rw [decide_eq_true_eq]; omega
theorem ascii_append {a b : Bytes} (ha : asciiS a = true) (hb : asciiS b = true) : asciiS (a ++ b) = true := by unfold asciiS at *; rw [List.all_append, ha, hb]; rfl
theorem ascii_tail : ∀ r : List Bytes, (∀ x ∈ r, asciiS x = true) → asciiS (Lib.joinTail [32] r) = true
  | [], _ => rfl
  | x :: r, h => by
    have e : Lib.joinTail [32] (x :: r) = [32] ++ (x ++ Lib.joinTail [32] r) := by simp [Lib.joinTail]
    rw [e]
    exact ascii_append (by decide) (ascii_append (h x List.mem_cons_self) (ascii_tail r fun y hy => h y (List.mem_cons_of_mem _ hy)))
theorem ascii_join : ∀ ws : List Bytes, (∀ x ∈ ws, asciiS x = true) → asciiS (Lib.join ws [32]) = true
  | [], _ => rfl
  | x :: r, h => by
    rw [Lib.join_cons]
    exact ascii_append (h x List.mem_cons_self) (ascii_tail r fun y hy => h y (List.mem_cons_of_mem _ hy))
theorem join2 (x y : Bytes) : Lib.join [x, y] [32] = x ++ 32 :: y := by rw [Lib.join_cons]; simp [Lib.joinTail]
theorem join3 (x y z : Bytes) : Lib.join [x, y, z] [32] = x ++ 32 :: (y ++ 32 :: z) := by rw [Lib.join_cons]; simp [Lib.joinTail]
theorem join4 (x y z u : Bytes) : Lib.join [x, y, z, u] [32] = x ++ 32 :: (y ++ 32 :: (z ++ 32 :: u)) := by rw [Lib.join_cons]; simp [Lib.joinTail]
theorem actText_words (k u : Int) (nc : Nat) (n : Bytes) (a : Int) (h : actionText k u nc n a ≠ []) :
    actionText k u nc n a = Lib.join (actWords k u n a) [32] ∧ (∀ x ∈ actWords k u n a, good x) := by
  revert h
  unfold actionText
  cases h0 : validAct k nc with
  | false => simp
  | true =>
  cases h1 : (decide ((nc : Int) > 0) && decide (k > 2)) with
  | true => simp
  | false =>
  simp only [Bool.not_true, cond_false]
  by_cases k1 : k = 1
  · subst k1
    cases c : (isUint u && (a == 0 && n == [])) with
    | false => simp
    | true =>
      rw [Bool.and_eq_true] at c
      intro _
      refine ⟨by simp [actWords, join2, kwCommit], fun x hx => ?_⟩
      simp [actWords] at hx
      rcases hx with rfl | rfl
      · exact good_kw _ (by simp)
      · exact good_itoa c.1
  by_cases k2 : k = 2
  · subst k2
    cases c : (isUint u && (isUint a && n == [])) with
    | false => simp
    | true =>
      rw [Bool.and_eq_true, Bool.and_eq_true] at c
      intro _
      refine ⟨by simp [actWords, join3, kwCrash], fun x hx => ?_⟩
      simp [actWords] at hx
      rcases hx with rfl | rfl | rfl
      · exact good_kw _ (by simp)
      · exact good_itoa c.1
      · exact good_itoa c.2.1
  by_cases k3 : k = 3
  · subst k3
    cases c : (isUint u && (validStr n && a == 0)) with
    | false => simp
    | true =>
      rw [Bool.and_eq_true, Bool.and_eq_true] at c
      intro _
      refine ⟨by simp [actWords, join3, kwWatch], fun x hx => ?_⟩
      simp [actWords] at hx
      rcases hx with rfl | rfl | rfl
      · exact good_kw _ (by simp)
      · exact good_itoa c.1
      · exact good_valid c.2.1
  by_cases k4 : k = 4
  · subst k4
    cases c : (u == 0 && (isUint a && n == [])) with
    | false => simp
    | true =>
      rw [Bool.and_eq_true, Bool.and_eq_true] at c
      intro _
      refine ⟨by simp [actWords, join2, kwPin], fun x hx => ?_⟩
      simp [actWords] at hx
      rcases hx with rfl | rfl
      · exact good_kw _ (by simp)
      · exact good_itoa c.2.1
  by_cases k5 : k = 5
  · subst k5
    cases c : (u == 0 && (isUint a && n == [])) with
    | false => simp
    | true =>
      rw [Bool.and_eq_true, Bool.and_eq_true] at c
      intro _
      refine ⟨by simp [actWords, join2, kwUnpin], fun x hx => ?_⟩
      simp [actWords] at hx
      rcases hx with rfl | rfl
      · exact good_kw _ (by simp)
      · exact good_itoa c.2.1
  by_cases k6 : k = 6
  · subst k6
    cases c : (u == 0 && (a == 0 && n == [])) with
    | false => simp
    | true =>
      intro _
      refine ⟨by simp [actWords, Lib.join_one, kwCollect], fun x hx => ?_⟩
      simp [actWords] at hx
      subst hx
      exact good_kw _ (by simp)
  by_cases k7 : k = 7
  · subst k7
    cases c : (isUint u && (isUint a && validStr n)) with
    | false => simp
    | true =>
      rw [Bool.and_eq_true, Bool.and_eq_true] at c
      intro _
      refine ⟨by simp [actWords, join4, kwAdd], fun x hx => ?_⟩
      simp [actWords] at hx
      rcases hx with rfl | rfl | rfl | rfl
      · exact good_kw _ (by simp)
      · exact good_itoa c.1
      · exact good_valid c.2.2
      · exact good_itoa c.2.1
  by_cases k8 : k = 8
  · subst k8
    cases c : (isUint u && (isUint a && validStr n)) with
    | false => simp
    | true =>
      rw [Bool.and_eq_true, Bool.and_eq_true] at c
      intro _
      refine ⟨by simp [actWords, join4, kwRemove], fun x hx => ?_⟩
      simp [actWords] at hx
      rcases hx with rfl | rfl | rfl | rfl
      · exact good_kw _ (by simp)
      · exact good_itoa c.1
      · exact good_valid c.2.2
      · exact good_itoa c.2.1
  · simp only [beq_eq_false_iff_ne.2 k1, beq_eq_false_iff_ne.2 k2, beq_eq_false_iff_ne.2 k3, beq_eq_false_iff_ne.2 k4, beq_eq_false_iff_ne.2 k5, beq_eq_false_iff_ne.2 k6, beq_eq_false_iff_ne.2 k7, beq_eq_false_iff_ne.2 k8, Bool.false_and, cond_false]
    exact fun h => absurd rfl h
end Sp
/- The two readings of an action's line agree, in plain Lean. -/
namespace Sp
open Go

/-- Could the number be read that is read last? -/
def okOf (w : LS) : Bool :=
  bif wordAt w 0 == kwCommit then parseOk (wordAt w 1) else bif wordAt w 0 == kwCrash then parseOk (wordAt w 2) else bif wordAt w 0 == kwWatch then parseOk (wordAt w 1) else
  bif wordAt w 0 == kwPin then parseOk (wordAt w 1) else bif wordAt w 0 == kwUnpin then parseOk (wordAt w 1) else bif wordAt w 0 == kwCollect then true else
  bif wordAt w 0 == kwAdd then parseOk (wordAt w 3) else bif wordAt w 0 == kwRemove then parseOk (wordAt w 3) else true

theorem actOf_kw (w : LS) : actOf w =
    (bif wordAt w 0 == kwCommit then (1, numAt w 1, [], 0) else bif wordAt w 0 == kwCrash then (2, numAt w 1, [], numAt w 2) else bif wordAt w 0 == kwWatch then (3, numAt w 1, wordAt w 2, 0) else
      bif wordAt w 0 == kwPin then (4, 0, [], numAt w 1) else bif wordAt w 0 == kwUnpin then (5, 0, [], numAt w 1) else bif wordAt w 0 == kwCollect then (6, 0, [], 0) else
      bif wordAt w 0 == kwAdd then (7, numAt w 1, wordAt w 2, numAt w 3) else bif wordAt w 0 == kwRemove then (8, numAt w 1, wordAt w 2, numAt w 3) else (0, 0, [], 0)) := rfl

theorem num_ok (w : LS) (i : Int) (h : wordAt w i = Lib.itoa (numAt w i)) : parseOk (wordAt w i) = true := by
  rw [h]; exact (parse_itoa (parseNum_uint _)).1

theorem okOf_of {w : LS} (hne : actText (actOf w) ≠ []) (hw : wordsOf (actText (actOf w)) = w) : okOf w = true := by
  have key : ∀ k u n a, actOf w = (k, u, n, a) → w = (actWords k u n a).map (·, ()) := by
    intro k u n a e
    rw [e] at hne hw
    obtain ⟨h1, h2⟩ := actText_words k u 0 n a hne
    have hw : wordsOf (actionText k u 0 n a) = w := hw
    rw [h1, wordsOf_join _ fun x hx => (h2 x hx).1] at hw
    exact hw.symm
  rw [actOf_kw] at key
  unfold okOf
  cases h1 : wordAt w 0 == kwCommit with
  | true =>
    have := key 1 (numAt w 1) [] 0 (by rw [h1]; rfl)
    exact num_ok w 1 ((congrArg (wordAt · 1) this).trans (by simp [wordAt, actWords]))
  | false =>
  cases h2 : wordAt w 0 == kwCrash with
  | true =>
    have := key 2 (numAt w 1) [] (numAt w 2) (by rw [h1, h2]; rfl)
    exact num_ok w 2 ((congrArg (wordAt · 2) this).trans (by simp [wordAt, actWords]))
  | false =>
  cases h3 : wordAt w 0 == kwWatch with
  | true =>
    have := key 3 (numAt w 1) (wordAt w 2) 0 (by rw [h1, h2, h3]; rfl)
    exact num_ok w 1 ((congrArg (wordAt · 1) this).trans (by simp [wordAt, actWords]))
  | false =>
  cases h4 : wordAt w 0 == kwPin with
  | true =>
    have := key 4 0 [] (numAt w 1) (by rw [h1, h2, h3, h4]; rfl)
    exact num_ok w 1 ((congrArg (wordAt · 1) this).trans (by simp [wordAt, actWords]))
  | false =>
  cases h5 : wordAt w 0 == kwUnpin with
  | true =>
    have := key 5 0 [] (numAt w 1) (by rw [h1, h2, h3, h4, h5]; rfl)
    exact num_ok w 1 ((congrArg (wordAt · 1) this).trans (by simp [wordAt, actWords]))
  | false =>
  cases h6 : wordAt w 0 == kwCollect with
  | true => rfl
  | false =>
  cases h7 : wordAt w 0 == kwAdd with
  | true =>
    have := key 7 (numAt w 1) (wordAt w 2) (numAt w 3) (by rw [h1, h2, h3, h4, h5, h6, h7]; rfl)
    exact num_ok w 3 ((congrArg (wordAt · 3) this).trans (by simp [wordAt, actWords]))
  | false =>
  cases h8 : wordAt w 0 == kwRemove with
  | true =>
    have := key 8 (numAt w 1) (wordAt w 2) (numAt w 3) (by rw [h1, h2, h3, h4, h5, h6, h7, h8]; rfl)
    exact num_ok w 3 ((congrArg (wordAt · 3) this).trans (by simp [wordAt, actWords]))
  | false => rfl

theorem act_ok_eq {w : LS} (hs : ∀ x ∈ w, solid x.1) :
    (okOf w && (!(actText (actOf w) == []) && decide (wordsOf (actText (actOf w)) = w))) = (!(actText (actOf w) == []) && (actText (actOf w) == joinW w)) := by
  cases he : actText (actOf w) == [] with
  | true => rw [Bool.not_true, Bool.false_and, Bool.and_false, Bool.false_and]
  | false =>
    have hne : actText (actOf w) ≠ [] := ne_of_beq_false he
    have ht : tidy (actText (actOf w)) := by
      rcases e : actOf w with ⟨k, u, n, a⟩
      rw [e] at hne
      obtain ⟨h1, h2⟩ := actText_words k u 0 n a hne
      exact ⟨_, fun x hx => (h2 x hx).1, h1⟩
    have hiff := tidy_words ht hs
    rw [Bool.not_false, Bool.true_and, Bool.true_and]
    by_cases hw : wordsOf (actText (actOf w)) = w
    · rw [okOf_of hne hw, decide_eq_true hw, beq_iff_eq.2 (hiff.1 hw)]; rfl
    · rw [decide_eq_false hw, Bool.and_false, beq_eq_false_iff_ne.2 (fun e => hw (hiff.2 e))]
theorem parseActOk_eq (s : Bytes) : parseActOk s = (splitOk s && !(wordsOf s == []) && (okOf (wordsOf s) && (!(actText (actOf (wordsOf s)) == []) && decide (wordsOf (actText (actOf (wordsOf s))) = wordsOf s)))) := by
  unfold parseActOk; rw [act_ok_eq (wordsOf_solid s)]
theorem actText_ascii (w : LS) : asciiS (actText (actOf w)) = true := by
  by_cases hne : actText (actOf w) = []
  · rw [hne]; rfl
  · rcases e : actOf w with ⟨k, u, n, a⟩
    rw [e] at hne
    obtain ⟨h1, h2⟩ := actText_words k u 0 n a hne
    have h1 : actText (k, u, n, a) = _ := h1
    rw [h1]
    exact ascii_join _ fun x hx => (h2 x hx).2
end Sp
/- What the loops of the readers want, in plain Lean. -/
namespace Sp
open Go

theorem okByte_int (b : UInt8) : (decide ((32 : Int) ≤ IntKind.i64.wrap (b.toNat : Int)) && decide (IntKind.i64.wrap (b.toNat : Int) ≤ 126)) = okByte b := by
  have e : IntKind.i64.wrap (b.toNat : Int) = b.toNat := by rw [IntKind.wrap_i64]; have := b.toNat_lt; omega
  rw [e]
  unfold okByte
  congr 1
  · exact decide_eq_decide.2 (by omega)
  · exact decide_eq_decide.2 (by omega)
theorem okByte_iff {b : UInt8} : okByte b = true ↔ 32 ≤ b.toNat ∧ b.toNat ≤ 126 := by unfold okByte; rw [Bool.and_eq_true, decide_eq_true_eq, decide_eq_true_eq]
theorem all_getD {p : UInt8 → Bool} {s : Bytes} (h : ∀ i, i < s.length → p (s.getD i 0) = true) : s.all p = true := by
  rw [List.all_eq_true]
  intro x hx
  obtain ⟨i, hi, rfl⟩ := List.mem_iff_getElem.1 hx
  have := h i hi
  rwa [List.getD_eq_getElem?_getD, List.getElem?_eq_getElem hi] at this
theorem getD_all {p : UInt8 → Bool} {s : Bytes} (h : s.all p = true) {i : Nat} (hi : i < s.length) : p (s.getD i 0) = true := by
  rw [List.getD_eq_getElem?_getD, List.getElem?_eq_getElem hi]
  exact List.all_eq_true.1 h _ (List.getElem_mem hi)
theorem isSp_ok {b : UInt8} (h : okByte b = true) : Lib.isSp b = (b == 32) := by
  have h := okByte_iff.1 h
  unfold Lib.isSp
  have ne : ∀ c : UInt8, c.toNat < 32 → (b == c) = false := fun c hc => by rw [beq_eq_false_iff_ne]; intro e; subst e; omega
  rw [ne 9 (by decide), ne 10 (by decide), ne 11 (by decide), ne 12 (by decide), ne 13 (by decide)]
  rfl
theorem ascii_ok {s : Bytes} (h : s.all okByte = true) : asciiS s = true := by
  unfold asciiS
  rw [List.all_eq_true] at h ⊢
  intro b hb
  have := okByte_iff.1 (h b hb)
  rw [decide_eq_true_eq]; omega
theorem splitOk_iff {s : Bytes} : splitOk s = true ↔ s.length ≤ 600 ∧ s.all okByte = true ∧ (Lib.fields s).length ≤ 24 := by
  unfold splitOk
  rw [Bool.and_eq_true, Bool.and_eq_true, decide_eq_true_eq, decide_eq_true_eq]
  constructor
  · rintro ⟨⟨h1, h2⟩, h3⟩; exact ⟨by omega, h2, by omega⟩
  · rintro ⟨h1, h2, h3⟩; exact ⟨⟨by omega, h2⟩, by omega⟩
theorem split_yes {s : Bytes} (h : splitOk s = true) : (splitF s, splitOk s, ()) = (wordsOf s, true, ()) := by unfold splitF; rw [h]; rfl
theorem split_no {s : Bytes} (h : ¬ (s.length ≤ 600 ∧ s.all okByte = true ∧ (Lib.fields s).length ≤ 24)) : (splitF s, splitOk s, ()) = (([] : LS), false, ()) := by
  have : splitOk s = false := by
    cases hs : splitOk s with
    | false => rfl
    | true => exact (h (splitOk_iff.1 hs)).elim
  unfold splitF; rw [this]; rfl
theorem words_length (s : Bytes) : (wordsOf s).length = (Lib.fields s).length := by unfold wordsOf; rw [List.length_map]

/-- The state of the loop that splits a line: begin b, place n, what was found. -/
def splitAt (s : Bytes) (n b : Nat) (out : LS) : Prop :=
  b ≤ n ∧ n ≤ s.length + 1 ∧ out.length ≤ n ∧ (∀ i, i < n → i < s.length → okByte (s.getD i 0) = true) ∧
  (n ≤ s.length → out.map (·.1) ++ Lib.fieldsGo ((s.take n).drop b) (s.drop n) = Lib.fields s) ∧ (n = s.length + 1 → out.map (·.1) = Lib.fields s)
theorem splitAt_zero (s : Bytes) : splitAt s 0 0 [] := ⟨Nat.le_refl _, Nat.zero_le _, Nat.le_refl _, fun i hi => absurd hi (Nat.not_lt_zero _), fun _ => by simp [Lib.fields], fun h => by omega⟩
theorem splitAt_more {s : Bytes} {n b : Nat} {out : LS} (h : splitAt s n b out) (hn : n < s.length) (ho : okByte (s.getD n 0) = true) (hc : s.getD n 0 ≠ 32) : splitAt s (n + 1) b out := by
  obtain ⟨h1, h2, h3, h4, h5, h6⟩ := h
  refine ⟨by omega, by omega, by omega, fun i hi hi2 => ?_, fun _ => ?_, fun h => by omega⟩
  · rcases Nat.lt_or_ge i n with h | h
    · exact h4 i h hi2
    · rwa [show i = n by omega]
  · rw [← h5 (by omega), Fw.drop_cons s n 0 hn, Lib.fieldsGo_more _ _ _ (by rw [isSp_ok ho]; exact beq_eq_false_iff_ne.2 hc)]
    congr 2
    rw [List.take_add_one, List.getElem?_eq_getElem hn, List.getD_eq_getElem?_getD, List.getElem?_eq_getElem hn, Option.getD_some]
    show List.drop b (List.take n s ++ [s[n]]) = _
    rw [List.drop_append_of_le_length (by rw [List.length_take]; omega)]
theorem splitAt_word {s : Bytes} {n b : Nat} {out : LS} (h : splitAt s n b out) (hn : n ≤ s.length) (hb : b < n) (ho : n < s.length → okByte (s.getD n 0) = true ∧ s.getD n 0 = 32) :
    splitAt s (n + 1) (n + 1) (out ++ [((s.take n).drop b, ())]) := by
  obtain ⟨h1, h2, h3, h4, h5, h6⟩ := h
  have hne : (s.take n).drop b ≠ [] := fun e => by
    have := congrArg List.length e
    simp at this
    omega
  refine ⟨Nat.le_refl _, by omega, by simp; omega, fun i hi hi2 => ?_, fun hl => ?_, fun hl => ?_⟩
  · rcases Nat.lt_or_ge i n with h | h
    · exact h4 i h hi2
    · rw [show i = n by omega]; exact (ho (by omega)).1
  · have hn2 : n < s.length := by omega
    obtain ⟨o1, o2⟩ := ho hn2
    rw [← h5 hn, Fw.drop_cons s n 0 hn2, Lib.fieldsGo_end _ _ _ (by rw [isSp_ok o1, o2]; rfl) hne, (List.drop_of_length_le (by rw [List.length_take]; omega) : (s.take (n + 1)).drop (n + 1) = []), List.map_append, List.append_assoc]
    rfl
  · have hn2 : n = s.length := by omega
    rw [← h5 hn, List.drop_of_length_le (by omega : s.length ≤ n), List.map_append]
    cases hcur : (s.take n).drop b with
    | nil => exact absurd hcur hne
    | cons _ _ => simp [Lib.fieldsGo]
theorem splitAt_skip {s : Bytes} {n b : Nat} {out : LS} (h : splitAt s n b out) (hn : n ≤ s.length) (hb : ¬ b < n) (ho : n < s.length → okByte (s.getD n 0) = true ∧ s.getD n 0 = 32) : splitAt s (n + 1) (n + 1) out := by
  obtain ⟨h1, h2, h3, h4, h5, h6⟩ := h
  have he : (s.take n).drop b = [] := List.drop_of_length_le (by rw [List.length_take]; omega)
  refine ⟨Nat.le_refl _, by omega, by omega, fun i hi hi2 => ?_, fun hl => ?_, fun hl => ?_⟩
  · rcases Nat.lt_or_ge i n with h | h
    · exact h4 i h hi2
    · rw [show i = n by omega]; exact (ho (by omega)).1
  · have hn2 : n < s.length := by omega
    obtain ⟨o1, o2⟩ := ho hn2
    rw [← h5 hn, he, Fw.drop_cons s n 0 hn2, Lib.fieldsGo_sp _ _ (by rw [isSp_ok o1, o2]; rfl), List.drop_of_length_le (by rw [List.length_take]; omega)]
  · rw [← h5 hn, he, List.drop_of_length_le (by omega : s.length ≤ n)]
    simp [Lib.fieldsGo]
theorem splitAt_end {s : Bytes} {b : Nat} {out : LS} (h : splitAt s (s.length + 1) b out) : s.all okByte = true ∧ out = wordsOf s := by
  obtain ⟨h1, h2, h3, h4, h5, h6⟩ := h
  refine ⟨all_getD fun i hi => h4 i (by omega) hi, ?_⟩
  unfold wordsOf
  rw [← h6 rfl, map_unit]

/-- The number that the first figures stand for. -/
def digitsS (s : Bytes) : Prop := ∀ b ∈ s, 48 ≤ b.toNat ∧ b.toNat ≤ 57
theorem decVal_bound : ∀ (k : Nat) (s : Bytes), s.length = k → digitsS s → 0 ≤ decVal s ∧ decVal s < (10 : Int) ^ k
  | 0, s, h, _ => by rw [List.length_eq_zero_iff.1 h]; exact ⟨Int.le_refl _, by decide⟩
  | k + 1, s, h, hd => by
    have hne : s ≠ [] := fun e => by rw [e] at h; cases h
    have e : s = s.take k ++ [s[k]'(by omega)] := by
      conv => lhs; rw [← List.take_append_drop k s, List.drop_eq_getElem_cons (by omega : k < s.length), List.drop_of_length_le (by omega : s.length ≤ k + 1)]
    have hd1 : digitsS (s.take k) := fun b hb => hd b (List.mem_of_mem_take hb)
    obtain ⟨i1, i2⟩ := decVal_bound k (s.take k) (by rw [List.length_take]; omega) hd1
    have hb := hd _ (List.getElem_mem (by omega : k < s.length))
    rw [e, digits_append, Int.pow_succ]
    omega
theorem decVal_take {s : Bytes} {n : Nat} (hn : n < s.length) : decVal (s.take (n + 1)) = 10 * decVal (s.take n) + (((s.getD n 0).toNat : Int) - 48) := by
  rw [List.take_add_one, List.getElem?_eq_getElem hn, List.getD_eq_getElem?_getD, List.getElem?_eq_getElem hn]
  exact digits_append _ _
theorem decVal_small {s : Bytes} {n : Nat} (hn : n < s.length) (hl : s.length ≤ 10) (hd : ∀ i, i < n → 48 ≤ (s.getD i 0).toNat ∧ (s.getD i 0).toNat ≤ 57) : 0 ≤ decVal (s.take n) ∧ decVal (s.take n) < 1000000000 := by
  have hd : digitsS (s.take n) := by
    intro b hb
    obtain ⟨i, hi, rfl⟩ := List.mem_iff_getElem.1 hb
    have hi2 : i < n := by rw [List.length_take] at hi; omega
    have := hd i hi2
    rw [List.getD_eq_getElem?_getD, List.getElem?_eq_getElem (by omega)] at this
    simpa using this
  obtain ⟨h1, h2⟩ := decVal_bound n (s.take n) (by rw [List.length_take]; omega) hd
  refine ⟨h1, Int.lt_of_lt_of_le h2 ?_⟩
  have : n ≤ 9 := by omega
  match n, this with
  | 0, _ | 1, _ | 2, _ | 3, _ | 4, _ | 5, _ | 6, _ | 7, _ | 8, _ | 9, _ => decide
theorem parseOk_nodigit {s : Bytes} {i : Nat} (hi : i < s.length) (h : ¬ (48 ≤ (s.getD i 0).toNat ∧ (s.getD i 0).toNat ≤ 57)) : parseOk s = false := by
  cases hp : parseOk s with
  | false => rfl
  | true =>
    refine (h (parseOk_digits hp _ ?_)).elim
    rw [List.getD_eq_getElem?_getD, List.getElem?_eq_getElem hi]
    exact List.getElem_mem hi
theorem parse_no {s : Bytes} (h : parseOk s = false) : ((0 : Int), false, ()) = (parseNum s, parseOk s, ()) := by rw [parseNum_no h, h]

theorem joinW_take {p : LS} {n : Nat} (hn : n < p.length) : joinW (p.take (n + 1)) = (if n = 0 then [] else joinW (p.take n) ++ [32]) ++ (p.getD n ([], ())).1 := by
  cases p with
  | nil => cases hn
  | cons x r =>
    unfold joinW
    cases n with
    | zero => simp [Lib.join_one]
    | succ n =>
      have hr : n < r.length := by simpa using hn
      have e : (r.map (·.1))[n]? = some r[n].1 := by rw [List.getElem?_map, List.getElem?_eq_getElem hr]; rfl
      rw [if_neg (by omega), List.take_succ_cons, List.take_succ_cons, List.map_cons, List.map_cons, Lib.join_cons, Lib.join_cons, List.map_take, List.map_take, Lib.joinTail_take_succ _ _ _ _ e]
      rw [List.getD_eq_getElem?_getD, List.getElem?_cons_succ, List.getElem?_eq_getElem hr]
      simp [List.append_assoc]
theorem joinW_take_le : ∀ (p : LS) (n : Nat), (joinW (p.take n)).length ≤ (joinW p).length
  | [], n => by simp
  | x :: r, 0 => by simp [joinW, Lib.join_nil]
  | x :: r, n + 1 => by
    unfold joinW
    rw [List.take_succ_cons, List.map_cons, List.map_cons, Lib.join_cons, Lib.join_cons, List.map_take, List.length_append, List.length_append]
    have := Lib.joinTail_take_le [32] (r.map (·.1)) n
    omega
theorem wordAt_lt {w : LS} {i : Int} (h : i < (w.length : Int)) : wordAt w i = (w.getD i.toNat ([], ())).1 := by unfold wordAt; rw [decide_eq_false (by omega)]; rfl
theorem wordAt_ge {w : LS} {i : Int} (h : i ≥ (w.length : Int)) : wordAt w i = [] := by unfold wordAt; rw [decide_eq_true h]; rfl

theorem act_no {s : Bytes} (h : parseActOk s = false) : (((0 : Int), (0 : Int), ([] : List DChange), ([] : Bytes), (0 : Int), ()), false, ()) = (parseAct s, parseActOk s, ()) := by unfold parseAct; rw [h]; rfl
theorem act_yes {s : Bytes} (h : parseActOk s = true) : (((actOf (wordsOf s)).1, (actOf (wordsOf s)).2.1, ([] : List DChange), (actOf (wordsOf s)).2.2.1, (actOf (wordsOf s)).2.2.2, ()), true, ()) = (parseAct s, parseActOk s, ()) := by unfold parseAct; rw [h]; rfl
theorem act_no1 {s : Bytes} (h : splitOk s = false) : parseActOk s = false := by unfold parseActOk; rw [h]; rfl
theorem act_no2 {s : Bytes} (h : wordsOf s = []) : parseActOk s = false := by unfold parseActOk; rw [h]; cases splitOk s <;> rfl
theorem cond_le {b : Bool} {x y : Bytes} (h1 : b = true → x.length ≤ 60) (h2 : y.length ≤ 60) : (bif b then x else y).length ≤ 60 := by
  cases b with
  | true => exact h1 rfl
  | false => exact h2
theorem valid_le {n : Bytes} (h : validStr n = true) : n.length ≤ 6 := by
  unfold validStr at h
  rw [Bool.and_eq_true, decide_eq_true_eq] at h
  omega
theorem actText_short (k u : Int) (nc : Nat) (n : Bytes) (a : Int) : (actionText k u nc n a).length ≤ 60 := by
  have z : ([] : Bytes).length ≤ 60 := by decide
  have hi : ∀ m : Int, isUint m = true → (Lib.itoa m).length ≤ 10 := fun m h => (itoa_uint h).2.2.2.2
  unfold actionText
  refine cond_le (fun _ => z) (cond_le (fun _ => z) (cond_le (fun h => ?_) (cond_le (fun h => ?_) (cond_le (fun h => ?_) (cond_le (fun h => ?_) (cond_le (fun h => ?_) (cond_le (fun h => ?_) (cond_le (fun h => ?_) (cond_le (fun h => ?_) z)))))))))
  all_goals simp only [Bool.and_eq_true] at h
  all_goals simp only [List.length_append, List.length_cons, List.length_nil]
  · have := hi u h.2.1; omega
  · have := hi u h.2.1; have := hi a h.2.2.1; omega
  · have := hi u h.2.1; have := valid_le h.2.2.1; omega
  · have := hi a h.2.2.1; omega
  · have := hi a h.2.2.1; omega
  · omega
  · have := hi u h.2.1; have := hi a h.2.2.1; have := valid_le h.2.2.2; omega
  · have := hi u h.2.1; have := hi a h.2.2.1; have := valid_le h.2.2.2; omega
theorem fieldsGo_le : ∀ (l cur : Bytes) (x : Bytes), x ∈ Lib.fieldsGo cur l → x.length ≤ cur.length + l.length
  | [], cur, x, h => by
    rw [Lib.fieldsGo] at h
    split at h
    · cases h
    · simp at h; subst h; simp
  | b :: l, cur, x, h => by
    rw [Lib.fieldsGo] at h
    split at h
    · split at h
      · have := fieldsGo_le l [] x h; simp at this ⊢; omega
      · rcases List.mem_cons.1 h with rfl | h
        · simp
        · have := fieldsGo_le l [] x h; simp at this ⊢; omega
    · have := fieldsGo_le l (cur ++ [b]) x h
      simp at this ⊢; omega
theorem words_le {s : Bytes} : ∀ x ∈ wordsOf s, x.1.length ≤ s.length := by
  intro x hx
  obtain ⟨y, hy, rfl⟩ := List.mem_map.1 hx
  have := fieldsGo_le s [] y hy
  simpa using this
theorem wordAt_le {w : LS} {m : Nat} (h : ∀ x ∈ w, x.1.length ≤ m) (i : Int) : (wordAt w i).length ≤ m := by
  unfold wordAt
  cases decide (i ≥ (w.length : Int)) with
  | true => exact Nat.zero_le _
  | false =>
    show (w.getD i.toNat ([], ())).1.length ≤ m
    rw [List.getD_eq_getElem?_getD]
    cases hg : w[i.toNat]? with
    | none => exact Nat.zero_le _
    | some x => exact h x (List.mem_of_getElem? hg)
theorem actOf_name_le {w : LS} {m : Nat} (h : ∀ x ∈ w, x.1.length ≤ m) : (actOf w).2.2.1.length ≤ m := by
  rw [actOf_kw]
  cases wordAt w 0 == kwCommit with
  | true => exact Nat.zero_le _
  | false =>
  cases wordAt w 0 == kwCrash with
  | true => exact Nat.zero_le _
  | false =>
  cases wordAt w 0 == kwWatch with
  | true => exact wordAt_le h 2
  | false =>
  cases wordAt w 0 == kwPin with
  | true => exact Nat.zero_le _
  | false =>
  cases wordAt w 0 == kwUnpin with
  | true => exact Nat.zero_le _
  | false =>
  cases wordAt w 0 == kwCollect with
  | true => exact Nat.zero_le _
  | false =>
  cases wordAt w 0 == kwAdd with
  | true => exact wordAt_le h 2
  | false =>
  cases wordAt w 0 == kwRemove with
  | true => exact wordAt_le h 2
  | false => exact Nat.zero_le _
theorem joinTail_le {m : Nat} : ∀ r : List Bytes, (∀ x ∈ r, x.length ≤ m) → (Lib.joinTail [32] r).length ≤ r.length * (m + 1)
  | [], _ => Nat.zero_le _
  | x :: r, h => by
    have e : Lib.joinTail [32] (x :: r) = [32] ++ (x ++ Lib.joinTail [32] r) := by simp [Lib.joinTail]
    have h1 := h x List.mem_cons_self
    have h2 := joinTail_le r fun y hy => h y (List.mem_cons_of_mem _ hy)
    have h3 : (x :: r).length * (m + 1) = r.length * (m + 1) + (m + 1) := by rw [List.length_cons, Nat.add_mul, Nat.one_mul]
    rw [e, List.length_append, List.length_append, h3]
    show 1 + _ ≤ _
    omega
theorem joinW_le {m : Nat} {w : LS} (h : ∀ x ∈ w, x.1.length ≤ m) : (joinW w).length ≤ w.length * (m + 1) := by
  cases w with
  | nil => exact Nat.zero_le _
  | cons x r =>
    unfold joinW
    rw [List.map_cons, Lib.join_cons, List.length_append]
    have h1 := h x List.mem_cons_self
    have h2 := joinTail_le (m := m) (r.map (·.1)) fun y hy => by obtain ⟨z, hz, rfl⟩ := List.mem_map.1 hy; exact h z (List.mem_cons_of_mem _ hz)
    rw [List.length_map] at h2
    rw [List.length_cons, Nat.add_mul, Nat.one_mul]
    omega
/-- What is known of the words of a line that was split. -/
theorem split_facts {s : Bytes} (h : splitOk s = true) : splitF s = wordsOf s ∧ (wordsOf s).length ≤ 1000 ∧ (joinW (wordsOf s)).length ≤ 2097152 ∧ (actOf (wordsOf s)).2.2.1.length ≤ 1048576 ∧ (actText (actOf (wordsOf s))).length ≤ 1048576 := by
  obtain ⟨h1, _, h3⟩ := splitOk_iff.1 h
  have hw : ∀ x ∈ wordsOf s, x.1.length ≤ 600 := fun x hx => Nat.le_trans (words_le x hx) h1
  have hl : (wordsOf s).length ≤ 24 := by rw [words_length]; exact h3
  refine ⟨by unfold splitF; rw [h]; rfl, by omega, ?_, Nat.le_trans (actOf_name_le hw) (by omega), Nat.le_trans (actText_short _ _ _ _ _) (by omega)⟩
  have := joinW_le hw
  have h24 : (wordsOf s).length * (600 + 1) ≤ 24 * (600 + 1) := Nat.mul_le_mul_right _ hl
  omega
end Sp
/- Plain functions for the changes that the laws on commands reach: deletions, and lines that are no changes. -/
namespace Sp
open Go
def kwCreate : Bytes := [99, 114, 101, 97, 116, 101]
def kwUpdate : Bytes := [117, 112, 100, 97, 116, 101]
def kwDelete : Bytes := [100, 101, 108, 101, 116, 101]
def kwDefine : Bytes := [100, 101, 102, 105, 110, 101]
def kwUndefine : Bytes := [117, 110, 100, 101, 102, 105, 110, 101]
/-- Does a line begin with another word than those of the changes, deletions apart? -/
def simpleW (w : LS) : Bool := !(wordAt w 0 == kwCreate) && (!(wordAt w 0 == kwUpdate) && (!(wordAt w 0 == kwDefine) && !(wordAt w 0 == kwUndefine)))
def chgText (k id : Int) : Bytes := bif k == 3 && isUint id then kwDelete ++ [32] ++ Lib.itoa id else []
/-- Kind and ID of a change, as its words say. -/
def chgOf (w : LS) : Int × Int := bif wordAt w 0 == kwDelete then (3, numAt w 1) else (0, 0)
def okChg (w : LS) : Bool := bif wordAt w 0 == kwDelete then parseOk (wordAt w 1) else true
def parseChgOk (s : Bytes) : Bool := splitOk s && !(wordsOf s == []) && (okChg (wordsOf s) && (!(chgText (chgOf (wordsOf s)).1 (chgOf (wordsOf s)).2 == []) && decide (wordsOf (chgText (chgOf (wordsOf s)).1 (chgOf (wordsOf s)).2) = wordsOf s)))
def parseChg (s : Bytes) : DChange :=
  bif parseChgOk s then ((chgOf (wordsOf s)).1, 0, 0, false, 0, [], (chgOf (wordsOf s)).2, [], [], ()) else (0, 0, 0, false, 0, [], 0, [], [], ())
/-- The lines of a text. -/
def linesGo : Bytes → Bytes → LS
  | cur, [] => [(cur, ())]
  | cur, b :: l => bif b == 10 then (cur, ()) :: linesGo [] l else linesGo (cur ++ [b]) l
def linesOf (s : Bytes) : LS := linesGo [] s
end Sp
/- The texts that the laws on commands read, in plain Lean. -/
namespace Sp
open Go

/-- A word of signs that a line may hold. -/
def fine (x : Bytes) : Prop := solid x ∧ x.all okByte = true
theorem fine_itoa {n : Int} (h : isUint n = true) : fine (Lib.itoa n) := by
  refine ⟨solid_itoa h, ?_⟩
  rw [List.all_eq_true]
  intro b hb
  have := (itoa_uint h).2.2.1 b hb
  exact okByte_iff.2 (by omega)
theorem ok_tail : ∀ r : List Bytes, (∀ x ∈ r, x.all okByte = true) → (Lib.joinTail [32] r).all okByte = true
  | [], _ => rfl
  | x :: r, h => by
    have e : Lib.joinTail [32] (x :: r) = [32] ++ (x ++ Lib.joinTail [32] r) := by simp [Lib.joinTail]
    rw [e, List.all_append, List.all_append, h x List.mem_cons_self, ok_tail r fun y hy => h y (List.mem_cons_of_mem _ hy)]
    decide
theorem ok_join : ∀ ws : List Bytes, (∀ x ∈ ws, x.all okByte = true) → (Lib.join ws [32]).all okByte = true
  | [], _ => rfl
  | x :: r, h => by
    rw [Lib.join_cons, List.all_append, h x List.mem_cons_self, ok_tail r fun y hy => h y (List.mem_cons_of_mem _ hy)]
    rfl
/-- A line of some words. -/
theorem line_facts {ws : List Bytes} (h : ∀ x ∈ ws, fine x) (hl : (Lib.join ws [32]).length ≤ 600) (hc : ws.length ≤ 24) : splitOk (Lib.join ws [32]) = true ∧ wordsOf (Lib.join ws [32]) = ws.map (·, ()) := by
  have hs : ∀ x ∈ ws, solid x := fun x hx => (h x hx).1
  refine ⟨splitOk_iff.2 ⟨hl, ok_join ws fun x hx => (h x hx).2, by rw [fields_join ws hs]; exact hc⟩, wordsOf_join ws hs⟩
theorem fine_list {ws : List Bytes} (h : ws.all (fun x => !x.isEmpty && x.all fun b => !Lib.isSp b && okByte b) = true) : ∀ x ∈ ws, fine x := by
  intro x hx
  have := List.all_eq_true.1 h x hx
  rw [Bool.and_eq_true, List.all_eq_true] at this
  refine ⟨⟨fun e => by rw [e] at this; simp at this, fun b hb => ?_⟩, ?_⟩
  · have := this.2 b hb
    rw [Bool.and_eq_true] at this
    simpa using this.1
  · rw [List.all_eq_true]
    intro b hb
    have := this.2 b hb
    rw [Bool.and_eq_true] at this
    exact this.2
theorem itoa_1 : Lib.itoa 1 = [49] := by
  have := itoa_nat 1
  have e : Lib.decDigits 1 = [UInt8.ofNat (48 + 1)] := Lib.decDigits_one (by decide)
  rw [e] at this
  exact this
theorem itoa_0 : Lib.itoa 0 = [48] := by
  have := itoa_nat 0
  have e : Lib.decDigits 0 = [UInt8.ofNat (48 + 0)] := Lib.decDigits_one (by decide)
  rw [e] at this
  exact this
theorem itoa_len {n : Int} (h : isUint n = true) : (Lib.itoa n).length ≤ 10 := (itoa_uint h).2.2.2.2

theorem delete_line {n : Int} (h : isUint n = true) : let s := kwDelete ++ 32 :: Lib.itoa n
    simpleW (wordsOf s) = true ∧ parseChgOk s = true ∧ parseChg s = (3, 0, 0, false, 0, [], n, [], [], ()) ∧ splitOk s = true ∧ wordsOf s = [(kwDelete, ()), (Lib.itoa n, ())] := by
  intro s
  have hs : s = Lib.join [kwDelete, Lib.itoa n] [32] := (join2 _ _).symm
  have hl := itoa_len h
  have hf : ∀ x ∈ [kwDelete, Lib.itoa n], fine x := by
    intro x hx
    rcases List.mem_cons.1 hx with rfl | hx
    · exact fine_list (ws := [kwDelete]) (by decide) _ (by simp)
    · rw [List.mem_singleton] at hx; subst hx; exact fine_itoa h
  obtain ⟨h1, h2⟩ := line_facts hf (by rw [join2]; simp [kwDelete]; omega) (by simp)
  rw [← hs] at h1 h2
  have hw : wordsOf s = [(kwDelete, ()), (Lib.itoa n, ())] := h2
  obtain ⟨p1, p2⟩ := parse_itoa h
  have hc : chgOf (wordsOf s) = (3, n) := by
    rw [hw]
    show (3, parseNum (Lib.itoa n)) = _
    rw [p2]
  have ht : chgText 3 n = s := by unfold chgText; rw [h]; simp [s]
  have hok : parseChgOk s = true := by
    unfold parseChgOk
    rw [hc, ht, h1]
    have e1 : (wordsOf s == []) = false := by rw [hw]; rfl
    have e2 : (s == []) = false := by simp [s, kwDelete]
    have e3 : okChg (wordsOf s) = true := by rw [hw]; exact p1
    rw [e1, e2, e3, decide_eq_true rfl]; rfl
  refine ⟨by rw [hw]; rfl, hok, ?_, h1, hw⟩
  unfold parseChg
  rw [hok, hc]; rfl
theorem pin_line {n : Int} (h : isUint n = true) : let s := kwPin ++ 32 :: Lib.itoa n
    parseActOk s = true ∧ parseAct s = (4, 0, [], [], n, ()) := by
  intro s
  have hs : s = Lib.join [kwPin, Lib.itoa n] [32] := (join2 _ _).symm
  have hl := itoa_len h
  have hf : ∀ x ∈ [kwPin, Lib.itoa n], fine x := by
    intro x hx
    rcases List.mem_cons.1 hx with rfl | hx
    · exact fine_list (ws := [kwPin]) (by decide) _ (by simp)
    · rw [List.mem_singleton] at hx; subst hx; exact fine_itoa h
  obtain ⟨h1, h2⟩ := line_facts hf (by rw [join2]; simp [kwPin]; omega) (by simp)
  rw [← hs] at h1 h2
  have hw : wordsOf s = [(kwPin, ()), (Lib.itoa n, ())] := h2
  obtain ⟨p1, p2⟩ := parse_itoa h
  have hc : actOf (wordsOf s) = (4, 0, [], n) := by
    rw [hw]
    show (4, 0, [], parseNum (Lib.itoa n)) = _
    rw [p2]
  have ht : actText (4, 0, [], n) = s := by
    show (bif (true && ((0 : Int) == 0 && (isUint n && ([] : Bytes) == []))) then [112, 105, 110, 32] ++ Lib.itoa n else _) = s
    rw [h]; rfl
  have hok : parseActOk s = true := by
    unfold parseActOk
    rw [hc, ht, h1]
    have e1 : (wordsOf s == []) = false := by rw [hw]; rfl
    have e2 : (s == []) = false := by simp [s, kwPin]
    have e3 : (s == joinW (wordsOf s)) = true := by rw [hw, beq_iff_eq]; exact hs
    rw [e1, e2, e3]; rfl
  refine ⟨hok, ?_⟩
  unfold parseAct
  rw [hok, hc]; rfl
theorem remove_line {n : Int} (h : isUint n = true) : let s := kwRemove ++ 32 :: ([49] ++ 32 :: ([100, 97] ++ 32 :: Lib.itoa n))
    parseActOk s = true ∧ parseAct s = (8, 1, [], [100, 97], n, ()) := by
  intro s
  have hs : s = Lib.join [kwRemove, [49], [100, 97], Lib.itoa n] [32] := (join4 _ _ _ _).symm
  have hl := itoa_len h
  have hf : ∀ x ∈ [kwRemove, [49], [100, 97], Lib.itoa n], fine x := by
    intro x hx
    rcases List.mem_cons.1 hx with rfl | hx
    · exact fine_list (ws := [kwRemove]) (by decide) _ (by simp)
    rcases List.mem_cons.1 hx with rfl | hx
    · exact fine_list (ws := [[49]]) (by decide) _ (by simp)
    rcases List.mem_cons.1 hx with rfl | hx
    · exact fine_list (ws := [[100, 97]]) (by decide) _ (by simp)
    · rw [List.mem_singleton] at hx; subst hx; exact fine_itoa h
  obtain ⟨h1, h2⟩ := line_facts hf (by rw [join4]; simp [kwRemove]; omega) (by simp)
  rw [← hs] at h1 h2
  have hw : wordsOf s = [(kwRemove, ()), ([49], ()), ([100, 97], ()), (Lib.itoa n, ())] := h2
  obtain ⟨p1, p2⟩ := parse_itoa h
  have q2 : parseNum [49] = 1 := by have := (parse_itoa (n := 1) (by decide)).2; rwa [itoa_1] at this
  have hc : actOf (wordsOf s) = (8, 1, [100, 97], n) := by
    rw [hw]
    show (8, parseNum [49], [100, 97], parseNum (Lib.itoa n)) = _
    rw [p2, q2]
  have ht : actText (8, 1, [100, 97], n) = s := by
    show (bif (true && (isUint 1 && (isUint n && validStr [100, 97]))) then [114, 101, 109, 111, 118, 101, 32] ++ Lib.itoa 1 ++ [32] ++ [100, 97] ++ [32] ++ Lib.itoa n else _) = s
    have e1 : isUint 1 = true := by decide
    have e2 : validStr [100, 97] = true := by decide
    rw [h, e1, e2, itoa_1]; rfl
  have hok : parseActOk s = true := by
    unfold parseActOk
    rw [hc, ht, h1]
    have e1 : (wordsOf s == []) = false := by rw [hw]; rfl
    have e2 : (s == []) = false := by simp [s, kwRemove]
    have e3 : (s == joinW (wordsOf s)) = true := by rw [hw, beq_iff_eq]; exact hs
    rw [e1, e2, e3]; rfl
  refine ⟨hok, ?_⟩
  unfold parseAct
  rw [hok, hc]; rfl
theorem words_delete1 : wordsOf (kwDelete ++ 32 :: [49]) = [(kwDelete, ()), ([49], ())] := by
  have := (delete_line (n := 1) (by decide)).2.2.2.2
  rwa [itoa_1] at this
theorem act_delete1 : parseActOk (kwDelete ++ 32 :: [49]) = false := by
  have hc : actText (actOf (wordsOf (kwDelete ++ 32 :: [49]))) = [] := by rw [words_delete1]; rfl
  unfold parseActOk
  rw [hc, Bool.and_eq_false_iff]; exact .inr rfl
theorem words_pin1 : wordsOf (kwPin ++ 32 :: [49]) = [(kwPin, ()), ([49], ())] := by
  have hs : kwPin ++ 32 :: [49] = Lib.join [kwPin, [49]] [32] := (join2 _ _).symm
  have := (line_facts (ws := [kwPin, [49]]) (fine_list (by decide)) (by decide) (by decide)).2
  rw [← hs] at this
  exact this
theorem chg_pin1 : simpleW (wordsOf (kwPin ++ 32 :: [49])) = true ∧ parseChgOk (kwPin ++ 32 :: [49]) = false := by
  refine ⟨by rw [words_pin1]; decide, ?_⟩
  have hc : chgText (chgOf (wordsOf (kwPin ++ 32 :: [49]))).1 (chgOf (wordsOf (kwPin ++ 32 :: [49]))).2 = [] := by rw [words_pin1]; rfl
  unfold parseChgOk
  rw [hc, Bool.and_eq_false_iff]
  refine .inr ?_
  rw [Bool.and_eq_false_iff]; exact .inr rfl
theorem chgText_ascii (k id : Int) : asciiS (chgText k id) = true ∧ (chgText k id).length ≤ 1048576 := by
  unfold chgText
  cases h : (k == 3 && isUint id) with
  | false => exact ⟨rfl, Nat.zero_le _⟩
  | true =>
    rw [Bool.and_eq_true] at h
    refine ⟨ascii_append (ascii_append (by decide) (by decide)) (itoa_ascii _ h.2), ?_⟩
    have := itoa_len h.2
    show (kwDelete ++ [32] ++ Lib.itoa id).length ≤ _
    simp only [List.length_append, kwDelete, List.length_cons, List.length_nil]
    omega
theorem chg_no {s : Bytes} (h : parseChgOk s = false) : (((0 : Int), (0 : Int), (0 : Int), false, (0 : Int), ([] : List DAttr), (0 : Int), ([] : Bytes), ([] : List DNode), ()), false, ()) = (parseChg s, parseChgOk s, ()) := by unfold parseChg; rw [h]; rfl
theorem chg_yes {s : Bytes} (h : parseChgOk s = true) : (((chgOf (wordsOf s)).1, (0 : Int), (0 : Int), false, (0 : Int), ([] : List DAttr), (chgOf (wordsOf s)).2, ([] : Bytes), ([] : List DNode), ()), true, ()) = (parseChg s, parseChgOk s, ()) := by unfold parseChg; rw [h]; rfl
end Sp
/- The lines of a text are what strings.Split finds. -/
namespace Sp
open Go

theorem splitK_cons : ∀ (sep : List UInt8) (k : Nat) (s : List UInt8), ∃ h t, Lib.splitK sep 0 k s = h :: t
  | _, 0, s => ⟨s, [], rfl⟩
  | sep, k + 1, s => by
    unfold Lib.splitK
    split
    · exact ⟨_, _, rfl⟩
    · exact ⟨_, _, rfl⟩
theorem split_ne (b c : UInt8) (l h : List UInt8) (t : List (List UInt8)) (hb : b ≠ c) (e : Lib.splitK [c] 0 (Lib.count l [c]) l = h :: t) : Lib.splitK [c] 0 (Lib.count (b :: l) [c]) (b :: l) = (b :: h) :: t := by
  rw [Lib.count_cons_ne b c l hb]
  have hp : ([c] : List UInt8).isPrefixOf (b :: l) = false := by simp [List.isPrefixOf, Ne.symm hb]
  have hix : Lib.index (b :: l) [c] = if Lib.index l [c] == -1 then -1 else Lib.index l [c] + 1 := by rw [Lib.index, hp]; simp
  cases hk : Lib.count l [c] with
  | zero => rw [hk] at e; simp only [Lib.splitK, List.cons.injEq] at e ⊢; exact ⟨⟨trivial, e.1⟩, e.2⟩
  | succ k =>
    rw [hk] at e
    by_cases hm : Lib.index l [c] = -1
    · rw [Lib.count_miss hm] at hk; cases hk
    · have hge := Lib.index_ge l [c]
      obtain ⟨j, hj⟩ : ∃ j : Nat, Lib.index l [c] = j := ⟨(Lib.index l [c]).toNat, by omega⟩
      have hix' : Lib.index (b :: l) [c] = ((j + 1 : Nat) : Int) := by rw [hix, if_neg (fun e => hm (beq_iff_eq.1 e)), hj]; omega
      simp only [Lib.splitK] at e ⊢
      rw [hj, if_neg (fun h => by have := beq_iff_eq.1 h; omega)] at e
      rw [hix', if_neg (fun h => by have := beq_iff_eq.1 h; omega)]
      simp only [List.cons.injEq, Int.toNat_natCast] at e ⊢
      refine ⟨?_, ?_⟩
      · rw [← e.1]; rfl
      · rw [← e.2]; rfl
theorem split_eq (c : UInt8) (l : List UInt8) : Lib.splitK [c] 0 (Lib.count (c :: l) [c]) (c :: l) = [] :: Lib.splitK [c] 0 (Lib.count l [c]) l := by
  rw [Lib.count_cons_eq, Nat.add_comm]
  have hix : Lib.index (c :: l) [c] = ((0 : Nat) : Int) := by rw [Lib.index]; simp [List.isPrefixOf]
  simp only [Lib.splitK]
  rw [hix, if_neg (by simp)]
  rfl
theorem linesGo_split : ∀ (l cur h : Bytes) (t : List Bytes), Lib.splitK [10] 0 (Lib.count l [10]) l = h :: t → (linesGo cur l).map (·.1) = (cur ++ h) :: t
  | [], cur, h, t, e => by
    have h0 : Lib.count [] [(10 : UInt8)] = 0 := Lib.count_one 10 []
    rw [h0] at e
    simp only [Lib.splitK, List.cons.injEq] at e
    rw [← e.1, ← e.2, List.append_nil]; rfl
  | b :: l, cur, h, t, e => by
    obtain ⟨h', t', e'⟩ := splitK_cons [10] (Lib.count l [10]) l
    by_cases hb : b = 10
    · subst hb
      rw [split_eq, List.cons.injEq] at e
      have hl : linesGo cur ((10 : UInt8) :: l) = (cur, ()) :: linesGo [] l := rfl
      rw [hl, List.map_cons, linesGo_split l [] h' t' e', ← e.1, ← e.2, e', List.append_nil, List.nil_append]
    · rw [split_ne b 10 l h' t' hb e', List.cons.injEq] at e
      have hl : linesGo cur (b :: l) = linesGo (cur ++ [b]) l := by rw [linesGo, beq_eq_false_iff_ne.2 hb]; rfl
      rw [hl, linesGo_split l (cur ++ [b]) h' t' e', ← e.1, ← e.2, List.append_assoc]
      rfl
theorem linesOf_split (s : Bytes) : (linesOf s).map (·.1) = Lib.split s [10] := by
  obtain ⟨h, t, e⟩ := splitK_cons [10] (Lib.count s [10]) s
  unfold linesOf Lib.split
  rw [linesGo_split s [] h t e, e, List.nil_append]
theorem linesGo_le : ∀ (l cur : Bytes) (x : Bytes × Unit), x ∈ linesGo cur l → x.1.length ≤ cur.length + l.length
  | [], cur, x, h => by
    simp only [linesGo, List.mem_singleton] at h; subst h; simp
  | b :: l, cur, x, h => by
    rw [linesGo] at h
    cases hb : b == 10 with
    | true =>
      rw [hb] at h
      rcases List.mem_cons.1 h with rfl | h
      · simp
      · have := linesGo_le l [] x h; simp at this ⊢; omega
    | false =>
      rw [hb] at h
      have := linesGo_le l (cur ++ [b]) x h
      simp at this ⊢; omega
theorem lines_le {s : Bytes} : ∀ x ∈ linesOf s, x.1.length ≤ s.length := fun x hx => by have := linesGo_le s [] x hx; simpa using this
theorem linesGo_len : ∀ (l cur : Bytes), (linesGo cur l).length ≤ l.length + 1
  | [], cur => Nat.le_refl _
  | b :: l, cur => by
    rw [linesGo]
    cases b == 10 with
    | true => have := linesGo_len l []; show _ + 1 ≤ _; simp; omega
    | false => have := linesGo_len l (cur ++ [b]); show (linesGo (cur ++ [b]) l).length ≤ _; simp; omega
theorem lines_len (s : Bytes) : (linesOf s).length ≤ s.length + 1 := linesGo_len s []
end Sp
/- Scripts of actions and deletions, in plain Lean. -/
namespace Sp
open Go

def simpleT (t : Bytes) : Bool := (linesOf t).all fun x => simpleW (wordsOf x.1)
/-- Is a line empty, or a remark? -/
def skipped (x : Bytes) : Bool := splitOk x && ((splitF x == []) || ((splitF x).getD 0 ([], ())).1.getD 0 0 == 35)
def withChanges (a : DAction) (c : List DChange) : DAction := (a.1, a.2.1, c, a.2.2.2.1, a.2.2.2.2.1, ())
/-- What a script comes to, from line i on. -/
def scriptGo : Nat → LS → List DAction → List DChange → List DAction × Int
  | i, [], acts, chs => bif decide ((chs.length : Int) > 0) then ([], (i : Int) + 1) else (acts, 0)
  | i, x :: r, acts, chs =>
    bif skipped x.1 then scriptGo (i + 1) r acts chs else
    bif parseChgOk x.1 then bif decide ((chs.length : Int) ≥ 6) then ([], (i : Int) + 1) else scriptGo (i + 1) r acts (chs ++ [parseChg x.1]) else
    bif !parseActOk x.1 || decide ((acts.length : Int) ≥ 40) then ([], (i : Int) + 1) else
    bif (parseAct x.1).1 == 1 || (parseAct x.1).1 == 2 then scriptGo (i + 1) r (acts ++ [withChanges (parseAct x.1) chs]) [] else scriptGo (i + 1) r (acts ++ [parseAct x.1]) chs
def script (t : Bytes) : List DAction × Int := bif decide ((t.length : Int) > 8000) then ([], -1) else scriptGo 0 (linesOf t) [] []
end Sp
/- The scripts of the law on limits, in plain Lean. -/
namespace Sp
open Go

theorem linesGo_word : ∀ (w cur l : Bytes), (∀ b ∈ w, b ≠ 10) → linesGo cur (w ++ 10 :: l) = (cur ++ w, ()) :: linesGo [] l
  | [], cur, l, _ => by rw [List.append_nil]; rfl
  | b :: w, cur, l, h => by
    have hb : (b == 10) = false := beq_eq_false_iff_ne.2 (h b List.mem_cons_self)
    rw [List.cons_append, linesGo, hb, cond_false, linesGo_word w _ l (fun c hc => h c (List.mem_cons_of_mem _ hc)), List.append_assoc]
    rfl
/-- A line again and again. -/
def rep (p : Bytes) (n : Nat) : Bytes := (List.replicate n p).flatten
theorem rep_succ (p : Bytes) (n : Nat) : rep p (n + 1) = rep p n ++ p := by unfold rep; rw [List.replicate_succ', List.flatten_append]; simp
theorem rep_len (p : Bytes) (n : Nat) : (rep p n).length = n * p.length := by unfold rep; simp
theorem lines_rep (w : Bytes) (h : ∀ b ∈ w, b ≠ 10) : ∀ (n : Nat) (t : Bytes), linesOf (rep (w ++ [10]) n ++ t) = List.replicate n (w, ()) ++ linesOf t
  | 0, t => rfl
  | n + 1, t => by
    have e : rep (w ++ [10]) (n + 1) ++ t = w ++ 10 :: (rep (w ++ [10]) n ++ t) := by unfold rep; rw [List.replicate_succ, List.flatten_cons]; simp
    unfold linesOf at *
    rw [e, linesGo_word w [] _ h, List.replicate_succ]
    have := lines_rep w h n t
    unfold linesOf at this
    rw [this]; rfl

def oneD : Bytes := kwDelete ++ 32 :: [49]
def comm0 : Bytes := kwCommit ++ 32 :: [48]
def delD : DChange := (3, 0, 0, false, 0, [], 1, [], [], ())
theorem oneD_facts : simpleW (wordsOf oneD) = true ∧ parseChgOk oneD = true ∧ parseChg oneD = delD ∧ splitOk oneD = true ∧ wordsOf oneD = [(kwDelete, ()), ([49], ())] := by
  have := delete_line (n := 1) (by decide)
  rw [itoa_1] at this
  exact this
theorem comm0_words : splitOk comm0 = true ∧ wordsOf comm0 = [(kwCommit, ()), ([48], ())] := by
  have hs : comm0 = Lib.join [kwCommit, [48]] [32] := (join2 _ _).symm
  have := line_facts (ws := [kwCommit, [48]]) (fine_list (by decide)) (by decide) (by decide)
  rw [← hs] at this
  exact this
theorem comm0_facts : simpleW (wordsOf comm0) = true ∧ parseChgOk comm0 = false ∧ parseActOk comm0 = true ∧ parseAct comm0 = (1, 0, [], [], 0, ()) := by
  obtain ⟨h1, hw⟩ := comm0_words
  have hz : parseNum [48] = 0 := by have := (parse_itoa (n := 0) (by decide)).2; rwa [itoa_0] at this
  have hc : actOf (wordsOf comm0) = (1, 0, [], 0) := by
    rw [hw]
    show (1, parseNum [48], [], 0) = _
    rw [hz]
  have ht : actText (1, 0, [], 0) = comm0 := by
    have e : actText (1, 0, [], 0) = [99, 111, 109, 109, 105, 116, 32] ++ Lib.itoa 0 := rfl
    rw [e, itoa_0]; rfl
  have hok : parseActOk comm0 = true := by
    unfold parseActOk
    rw [hc, ht, h1]
    have e1 : (wordsOf comm0 == []) = false := by rw [hw]; rfl
    have e2 : (comm0 == []) = false := rfl
    have e3 : (comm0 == joinW (wordsOf comm0)) = true := by rw [hw]; decide
    rw [e1, e2, e3]; rfl
  refine ⟨by rw [hw]; decide, ?_, hok, ?_⟩
  · have hc : chgText (chgOf (wordsOf comm0)).1 (chgOf (wordsOf comm0)).2 = [] := by rw [hw]; rfl
    unfold parseChgOk
    rw [hc, Bool.and_eq_false_iff]
    refine .inr ?_
    rw [Bool.and_eq_false_iff]; exact .inr rfl
  · unfold parseAct
    rw [hok, hc]; rfl
theorem coll_words : splitOk kwCollect = true ∧ wordsOf kwCollect = [(kwCollect, ())] := by
  have := line_facts (ws := [kwCollect]) (fine_list (by decide)) (by decide) (by decide)
  rw [Lib.join_one] at this
  exact this
theorem coll_facts : simpleW (wordsOf kwCollect) = true ∧ parseChgOk kwCollect = false ∧ parseActOk kwCollect = true ∧ parseAct kwCollect = (6, 0, [], [], 0, ()) := by
  obtain ⟨h1, hw⟩ := coll_words
  have hc : actOf (wordsOf kwCollect) = (6, 0, [], 0) := by rw [hw]; rfl
  have ht : actText (6, 0, [], 0) = kwCollect := rfl
  have hok : parseActOk kwCollect = true := by
    unfold parseActOk
    rw [hc, ht, h1]
    have e1 : (wordsOf kwCollect == []) = false := by rw [hw]; rfl
    have e2 : (kwCollect == []) = false := rfl
    have e3 : (kwCollect == joinW (wordsOf kwCollect)) = true := by rw [hw]; decide
    rw [e1, e2, e3]; rfl
  refine ⟨by rw [hw]; decide, ?_, hok, ?_⟩
  · have hc : chgText (chgOf (wordsOf kwCollect)).1 (chgOf (wordsOf kwCollect)).2 = [] := by rw [hw]; rfl
    unfold parseChgOk
    rw [hc, Bool.and_eq_false_iff]
    refine .inr ?_
    rw [Bool.and_eq_false_iff]; exact .inr rfl
  · unfold parseAct
    rw [hok, hc]; rfl
theorem nil_facts : simpleW (wordsOf []) = true ∧ skipped [] = true := by
  have h : splitOk [] = true := by decide
  refine ⟨by decide, ?_⟩
  unfold skipped
  rw [h, (split_facts h).1]
  rfl
theorem skip_no {x : Bytes} {w : Bytes} {r : LS} (h : splitOk x = true) (hw : wordsOf x = (w, ()) :: r) (hb : (w.getD 0 0 == 35) = false) : skipped x = false := by
  unfold skipped
  rw [h, (split_facts h).1, hw]
  show (true && (false || (w.getD 0 0 == 35))) = false
  rw [hb]; rfl
theorem skip_coll : skipped kwCollect = false := skip_no coll_words.1 coll_words.2 (by decide)
theorem skip_oneD : skipped oneD = false := skip_no oneD_facts.2.2.2.1 oneD_facts.2.2.2.2 (by decide)
theorem skip_comm0 : skipped comm0 = false := skip_no comm0_words.1 comm0_words.2 (by decide)

def collA : DAction := (6, 0, [], [], 0, ())
theorem go_coll : ∀ (n i : Nat) (rest : LS) (acts : List DAction) (chs : List DChange), acts.length ≤ 40 →
    scriptGo i (List.replicate n (kwCollect, ()) ++ rest) acts chs = if acts.length + n ≤ 40 then scriptGo (i + n) rest (acts ++ List.replicate n collA) chs else ([], ((i + (40 - acts.length) : Nat) : Int) + 1)
  | 0, i, rest, acts, chs, h => by rw [if_pos (by omega)]; simp
  | n + 1, i, rest, acts, chs, h => by
    rw [List.replicate_succ, List.cons_append, scriptGo, skip_coll, coll_facts.2.1, coll_facts.2.2.1, coll_facts.2.2.2]
    simp only [cond_false, Bool.not_true, Bool.false_or]
    by_cases h1 : acts.length = 40
    · rw [if_neg (by omega), decide_eq_true (by omega), cond_true]
      congr 2
      omega
    · rw [decide_eq_false (by omega), cond_false]
      show scriptGo (i + 1) (List.replicate n (kwCollect, ()) ++ rest) (acts ++ [collA]) chs = _
      rw [go_coll n (i + 1) rest (acts ++ [collA]) chs (by rw [List.length_append]; show _ + 1 ≤ _; omega)]
      have hl : (acts ++ [collA]).length = acts.length + 1 := by simp
      rw [hl]
      by_cases h2 : acts.length + (n + 1) ≤ 40
      · rw [if_pos h2, if_pos (by omega), List.append_assoc, show i + 1 + n = i + (n + 1) by omega]; rfl
      · rw [if_neg h2, if_neg (by omega)]
        congr 2
        omega
theorem go_oneD : ∀ (m i : Nat) (rest : LS) (acts : List DAction) (chs : List DChange), chs.length ≤ 6 →
    scriptGo i (List.replicate m (oneD, ()) ++ rest) acts chs = if chs.length + m ≤ 6 then scriptGo (i + m) rest acts (chs ++ List.replicate m delD) else ([], ((i + (6 - chs.length) : Nat) : Int) + 1)
  | 0, i, rest, acts, chs, h => by rw [if_pos (by omega)]; simp
  | m + 1, i, rest, acts, chs, h => by
    rw [List.replicate_succ, List.cons_append, scriptGo, skip_oneD, oneD_facts.2.1, oneD_facts.2.2.1]
    simp only [cond_false, cond_true]
    by_cases h1 : chs.length = 6
    · rw [if_neg (by omega), decide_eq_true (by omega), cond_true]
      congr 2
      omega
    · rw [decide_eq_false (by omega), cond_false]
      rw [go_oneD m (i + 1) rest acts (chs ++ [delD]) (by rw [List.length_append]; show _ + 1 ≤ _; omega)]
      have hl : (chs ++ [delD]).length = chs.length + 1 := by simp
      rw [hl]
      by_cases h2 : chs.length + (m + 1) ≤ 6
      · rw [if_pos h2, if_pos (by omega), List.append_assoc, show i + 1 + m = i + (m + 1) by omega]; rfl
      · rw [if_neg h2, if_neg (by omega)]
        congr 2
        omega
theorem script_coll (n : Nat) (h : n ≤ 44) : (script (rep (kwCollect ++ [10]) n)).2 = (if n ≤ 40 then 0 else 41) ∧ (n ≤ 40 → (script (rep (kwCollect ++ [10]) n)).1.length = n) ∧ simpleT (rep (kwCollect ++ [10]) n) = true ∧ (rep (kwCollect ++ [10]) n).length ≤ 352 := by
  have hl := rep_len (kwCollect ++ [10]) n
  have h8 : (kwCollect ++ [10]).length = 8 := rfl
  rw [h8] at hl
  have hlines : linesOf (rep (kwCollect ++ [10]) n) = List.replicate n (kwCollect, ()) ++ [([], ())] := by
    have := lines_rep kwCollect (by decide) n []
    rw [List.append_nil] at this
    exact this
  have hs : script (rep (kwCollect ++ [10]) n) = if n ≤ 40 then (List.replicate n collA, 0) else ([], 41) := by
    unfold script
    rw [decide_eq_false (by omega), cond_false, hlines, go_coll n 0 _ [] [] (by decide)]
    simp only [List.length_nil, Nat.zero_add, List.nil_append]
    by_cases h2 : n ≤ 40
    · rw [if_pos h2, if_pos h2, scriptGo, nil_facts.2, cond_true]; rfl
    · rw [if_neg h2, if_neg h2]; rfl
  refine ⟨?_, fun h2 => ?_, ?_, by omega⟩
  · rw [hs]; by_cases h2 : n ≤ 40
    · rw [if_pos h2, if_pos h2]
    · rw [if_neg h2, if_neg h2]
  · rw [hs, if_pos h2]; simp
  · unfold simpleT
    rw [hlines, List.all_append, List.all_eq_true.2 (fun x hx => by rw [(List.mem_replicate.1 hx).2]; exact coll_facts.1)]
    simp only [List.all_cons, List.all_nil, nil_facts.1, Bool.and_self]
theorem script_dels (m : Nat) (h : m ≤ 8) : (script (rep (oneD ++ [10]) m ++ (comm0 ++ [10]))).2 = (if m ≤ 6 then 0 else 7) ∧ simpleT (rep (oneD ++ [10]) m ++ (comm0 ++ [10])) = true ∧ (rep (oneD ++ [10]) m ++ (comm0 ++ [10])).length ≤ 100 := by
  have hl := rep_len (oneD ++ [10]) m
  have h9 : (oneD ++ [10]).length = 9 := rfl
  have hc9 : (comm0 ++ [10]).length = 9 := rfl
  rw [h9] at hl
  have hlen : (rep (oneD ++ [10]) m ++ (comm0 ++ [10])).length = m * 9 + 9 := by rw [List.length_append, hl, hc9]
  have hlines : linesOf (rep (oneD ++ [10]) m ++ (comm0 ++ [10])) = List.replicate m (oneD, ()) ++ [(comm0, ()), ([], ())] := by
    rw [lines_rep oneD (by decide) m]
    have := lines_rep comm0 (by decide) 1 []
    rw [List.append_nil] at this
    have e : rep (comm0 ++ [10]) 1 = comm0 ++ [10] := by simp [rep]
    rw [e] at this
    rw [this]; rfl
  refine ⟨?_, ?_, by omega⟩
  · unfold script
    rw [decide_eq_false (by omega), cond_false, hlines, go_oneD m 0 _ [] [] (by decide)]
    simp only [List.length_nil, Nat.zero_add, List.nil_append]
    by_cases h2 : m ≤ 6
    · rw [if_pos h2, if_pos h2, scriptGo, skip_comm0, comm0_facts.2.1, comm0_facts.2.2.1, comm0_facts.2.2.2]
      simp only [cond_false, Bool.not_true, Bool.false_or]
      rw [decide_eq_false (by simp), cond_false]
      show (scriptGo (m + 1) [([], ())] ([] ++ [withChanges (1, 0, [], [], 0, ()) (List.replicate m delD)]) []).2 = 0
      rw [scriptGo, nil_facts.2, cond_true]; rfl
    · rw [if_neg h2, if_neg h2]; rfl
  · unfold simpleT
    rw [hlines, List.all_append, List.all_eq_true.2 (fun x hx => by rw [(List.mem_replicate.1 hx).2]; exact oneD_facts.1)]
    simp only [List.all_cons, List.all_nil, nil_facts.1, comm0_facts.1, Bool.and_self]
theorem script_open : (script (oneD ++ [10])).2 = 3 ∧ simpleT (oneD ++ [10]) = true := by
  have hlines : linesOf (oneD ++ [10]) = [(oneD, ()), ([], ())] := by
    have := lines_rep oneD (by decide) 1 []
    rw [List.append_nil] at this
    have e : rep (oneD ++ [10]) 1 = oneD ++ [10] := by simp [rep]
    rw [e] at this
    exact this
  constructor
  · have e : script (oneD ++ [10]) = scriptGo 0 (linesOf (oneD ++ [10])) [] [] := rfl
    have := go_oneD 1 0 [([], ())] [] [] (by decide)
    have hr : List.replicate 1 (oneD, ()) ++ [([], ())] = [(oneD, ()), (([] : Bytes), ())] := rfl
    rw [hr] at this
    rw [e, hlines, this, if_pos (by decide), scriptGo, nil_facts.2, cond_true]; rfl
  · unfold simpleT
    rw [hlines]
    simp only [List.all_cons, List.all_nil, nil_facts.1, oneD_facts.1, Bool.and_self]
end Sp
