import Derived.Test.YtnaiafihkjbmnaaDoorFwA
import Derived.Lib.ItoaNum
import Derived.Lib.ItoaLen
import Derived.Lib.Join
import Derived.Test.YtnaiafihkjbmnaaDoorFwC
/- Plain functions: what the program's functions compute. -/
namespace Sp
open Go
abbrev Bytes := List UInt8
abbrev LI := List (Int × Unit)
abbrev LS := List (Bytes × Unit)
def szLen (n : Nat) (left : Int) : Int := if left - n < 0 then -1 else left - n
def szEvent (a1 a2 : LI) (left : Int) : Int := if szLen a1.length left < 0 then -1 else szLen a2.length (szLen a1.length left)
def szResult (a0 : Bytes) (a1 : LI) (left : Int) : Int := if szLen a0.length left < 0 then -1 else szLen a1.length (szLen a0.length left)
/-- Each number with a text ahead. -/
def marked (p : Bytes) : LI → Bytes
  | [] => []
  | x :: r => p ++ Lib.itoa x.1 ++ marked p r
def eventText (v : Int) (a r : LI) : Bytes := Lib.itoa v ++ marked [32, 43] a ++ marked [32, 45] r
def idsText : LI → Bytes
  | [] => []
  | x :: r => Lib.itoa x.1 ++ marked [32] r
def withIds (s : Bytes) (ids : LI) : Bytes := if ids.isEmpty then s else s ++ [32] ++ idsText ids

theorem take_succ' {α : Type} (a : List α) (n : Nat) (d : α) (h : n < a.length) : a.take (n + 1) = a.take n ++ [a.getD n d] := by
  rw [List.take_succ_eq_append_getElem h, List.getD_eq_getElem?_getD, List.getElem?_eq_getElem h]; rfl
theorem marked_append (p : Bytes) : ∀ (a b : LI), marked p (a ++ b) = marked p a ++ marked p b
  | [], b => rfl
  | x :: a, b => by simp only [List.cons_append, marked, marked_append p a b, List.append_assoc]
theorem marked_succ (p : Bytes) (a : LI) (n : Nat) (d : Int × Unit) (h : n < a.length) : marked p (a.take (n + 1)) = marked p (a.take n) ++ (p ++ Lib.itoa (a.getD n d).1) := by
  rw [take_succ' a n d h, marked_append]; simp [marked]
def i64Ok (l : LI) : Prop := ∀ x ∈ l, -9223372036854775808 ≤ x.1 ∧ x.1 ≤ 9223372036854775807
theorem marked_len (p : Bytes) : ∀ (a : LI), i64Ok a → (marked p a).length ≤ (p.length + 21) * a.length
  | [], _ => by simp [marked]
  | x :: a, h => by
    have h1 := Lib.itoa_length_le x.1 (h x List.mem_cons_self).1 (h x List.mem_cons_self).2
    have h2 := marked_len p a fun y hy => h y (List.mem_cons_of_mem _ hy)
    simp only [marked, List.length_append, List.length_cons, Nat.mul_add]
    omega
theorem i64Ok.take {a : LI} (h : i64Ok a) (n : Nat) : i64Ok (a.take n) := fun x hx => h x (List.mem_of_mem_take hx)
theorem i64Ok.get {a : LI} (h : i64Ok a) {n : Nat} (hn : n < a.length) (d : Int × Unit) : (Lib.itoa (a.getD n d).1).length ≤ 21 := by
  have : a.getD n d ∈ a := by rw [List.getD_eq_getElem?_getD, List.getElem?_eq_getElem hn, Option.getD_some]; exact List.getElem_mem hn
  exact Lib.itoa_length_le _ (h _ this).1 (h _ this).2
theorem marked_take_len (p : Bytes) (a : LI) (h : i64Ok a) (n m : Nat) (hn : n ≤ m) : (marked p (a.take n)).length ≤ (p.length + 21) * m := by
  refine Nat.le_trans (marked_len p _ (h.take n)) (Nat.mul_le_mul_left _ ?_)
  rw [List.length_take]; omega
theorem idsText_pos (a : LI) (n : Nat) (d : Int × Unit) (h : n < a.length) : idsText (a.take (n + 1)) = (if n = 0 then [] else idsText (a.take n) ++ [32]) ++ Lib.itoa (a.getD n d).1 := by
  cases a with
  | nil => simp at h
  | cons x r =>
    cases n with
    | zero => simp [idsText, marked]
    | succ n =>
      have h' : n < r.length := by simpa using h
      simp only [List.take_succ_cons, idsText, List.getD_cons_succ, marked_succ [32] r n d h', if_neg (Nat.succ_ne_zero n), List.append_assoc]
theorem idsText_len (a : LI) (h : i64Ok a) : (idsText a).length ≤ 22 * a.length := by
  cases a with
  | nil => simp [idsText]
  | cons x r =>
    have h1 := Lib.itoa_length_le x.1 (h x List.mem_cons_self).1 (h x List.mem_cons_self).2
    have h2 := marked_len [32] r fun y hy => h y (List.mem_cons_of_mem _ hy)
    simp only [idsText, List.length_append, List.length_cons, List.length_nil] at h2 ⊢
    omega
theorem join_ids (a : LI) : Lib.join (a.map fun x => Lib.itoa x.1) [32] = idsText a := by
  cases a with
  | nil => rfl
  | cons x r =>
    have : ∀ r : LI, Lib.joinTail [32] (r.map fun x => Lib.itoa x.1) = marked [32] r := by
      intro r
      induction r with
      | nil => rfl
      | cons y r ih => simp only [Lib.joinTail, List.map_cons, List.flatten_cons, marked] at ih ⊢; rw [ih]
    rw [List.map_cons, Lib.join_cons, this, idsText]
theorem decDigits_step (c : Nat) : Lib.decDigits c = (if c / 10 = 0 then [] else Lib.decDigits (c / 10)) ++ [UInt8.ofNat (48 + c % 10)] := by
  conv => lhs; rw [Lib.decDigits]
  by_cases h : c < 10
  · rw [dif_pos h, if_pos (by omega), Nat.mod_eq_of_lt h]; rfl
  · rw [dif_neg h, if_neg (by omega)]
end Sp
/- Plain functions for actions. -/
namespace Sp
open Go
set_option synthInstance.maxSize 100000
set_option synthInstance.maxHeartbeats 1000000
abbrev DValue := Int × Int × Bytes × Unit
abbrev DAttr := Bytes × Int × Int × Bytes × Unit
abbrev DNode := Int × Int × Int × Bytes × Int × Int × Bytes × Unit
abbrev DFile := Int × Int × Bool × Int × List DAttr × Unit
abbrev DDir := Bytes × List DNode × Unit
abbrev DChange := Int × Int × Int × Bool × Int × List DAttr × Int × Bytes × List DNode × Unit
abbrev DAction := Int × Int × List DChange × Bytes × Int × Unit
def wAttr : DAttr → Nat | (n, _, _, s, _) => n.length + s.length
def wNode : DNode → Nat | (_, _, _, n, _, _, s, _) => n.length + s.length
/-- The length of a list and the weights of what it holds. -/
def wList {α : Type} (f : α → Nat) : List α → Nat
  | [] => 0
  | x :: r => 1 + f x + wList f r
def wAttrS (a : List DAttr) : Nat := wList wAttr a
def wNodeS (a : List DNode) : Nat := wList wNode a
def wFile : DFile → Nat | (_, _, _, _, a, _) => wAttrS a
def wDir : DDir → Nat | (n, q, _) => n.length + wNodeS q
def wChange : DChange → Nat | (_, _, _, _, _, a, _, n, q, _) => wAttrS a + (n.length + wNodeS q)
def wChangeS (a : List DChange) : Nat := wList wChange a
def wAction : DAction → Nat | (_, _, c, n, _, _) => wChangeS c + n.length

instance : DecidableEq DValue := inferInstance
instance : DecidableEq DAttr := inferInstance
instance : DecidableEq DNode := inferInstance
instance : DecidableEq DFile := inferInstance
instance : DecidableEq DDir := inferInstance
instance : DecidableEq (Int × DDir) := inferInstance
instance : DecidableEq (List DAttr × Int × DDir) := inferInstance
instance : DecidableEq (Bool × Int × List DAttr × Int × DDir) := inferInstance
instance iChange : DecidableEq DChange := (inferInstance : DecidableEq (Int × Int × Int × Bool × Int × List DAttr × Int × DDir))
instance : DecidableEq (List DChange) := inferInstance
instance : DecidableEq (List DChange × Bytes × Int × Unit) := inferInstance
def eqValue (a b : DValue) : Bool := decide (a = b)
def eqAttr (a b : DAttr) : Bool := decide (a = b)
def eqNode (a b : DNode) : Bool := decide (a = b)
def eqAttrS (a b : List DAttr) : Bool := decide (a = b)
def eqNodeS (a b : List DNode) : Bool := decide (a = b)
def eqFile (a b : DFile) : Bool := decide (a = b)
def eqDir (a b : DDir) : Bool := decide (a = b)
def eqChange (a b : DChange) : Bool := decide (a = b)
def eqChangeS (a b : List DChange) : Bool := decide (a = b)
def eqAction (a b : DAction) : Bool := decide (a = b)
/-- Lower case letters only. -/
def lower (s : Bytes) : Bool := s.all fun c => decide (97 ≤ c.toNat) && decide (c.toNat ≤ 122)
def validStr (s : Bytes) : Bool := lower s && decide (1 ≤ (s.length : Int)) && decide ((s.length : Int) ≤ 6)
def isUint (n : Int) : Bool := decide (0 ≤ n) && decide (n ≤ 1000000000)
def idxFrom : Int → LI → Int
  | _, [] => -1
  | k, x :: r => if isUint x.1 then idxFrom (k + 1) r else k
def idxOf (l : LI) : Int := idxFrom 0 l
def areUints (l : LI) : Bool := l.all fun x => isUint x.1
def validAct (k : Int) (nc : Nat) : Bool := decide (1 ≤ k) && decide (k ≤ 8) && decide ((nc : Int) ≤ 6)
def actionText (k u : Int) (nc : Nat) (n : Bytes) (a : Int) : Bytes :=
  bif !(validAct k nc) then [] else
  bif (decide ((nc : Int) > 0) && decide (k > 2)) then [] else
  bif (k == 1 && (isUint u && (a == 0 && n == []))) then [99, 111, 109, 109, 105, 116, 32] ++ Lib.itoa u else
  bif (k == 2 && (isUint u && (isUint a && n == []))) then [99, 114, 97, 115, 104, 32] ++ Lib.itoa u ++ [32] ++ Lib.itoa a else
  bif (k == 3 && (isUint u && (validStr n && a == 0))) then [119, 97, 116, 99, 104, 32] ++ Lib.itoa u ++ [32] ++ n else
  bif (k == 4 && (u == 0 && (isUint a && n == []))) then [112, 105, 110, 32] ++ Lib.itoa a else
  bif (k == 5 && (u == 0 && (isUint a && n == []))) then [117, 110, 112, 105, 110, 32] ++ Lib.itoa a else
  bif (k == 6 && (u == 0 && (a == 0 && n == []))) then [99, 111, 108, 108, 101, 99, 116] else
  bif (k == 7 && (isUint u && (isUint a && validStr n))) then [97, 100, 100, 32] ++ Lib.itoa u ++ [32] ++ n ++ [32] ++ Lib.itoa a else
  bif (k == 8 && (isUint u && (isUint a && validStr n))) then [114, 101, 109, 111, 118, 101, 32] ++ Lib.itoa u ++ [32] ++ n ++ [32] ++ Lib.itoa a else []
end Sp
/- The loops of size, copy and comparison, over any element. -/
namespace Go.Fw
open Go
theorem szLen_add {n m : Nat} {left : Int} (h : 0 ≤ Sp.szLen n left) : Sp.szLen m (Sp.szLen n left) = Sp.szLen (n + m) left := by
  unfold Sp.szLen at h ⊢
  split at h
  · omega
  · next h1 => rw [if_neg h1]; by_cases h2 : left - ↑n - ↑m < 0
               · rw [if_pos h2, if_pos (by omega)]
               · rw [if_neg h2, if_neg (by omega)]; omega
theorem szLen_more {n m : Nat} {left : Int} (h : Sp.szLen n left < 0) : Sp.szLen (n + m) left = -1 := by
  unfold Sp.szLen at h ⊢
  split at h
  · rw [if_pos (by omega)]
  · omega
theorem szLen_leq {n : Nat} {left : Int} (h : 0 ≤ left) : Sp.szLen n left ≤ left := by unfold Sp.szLen; split <;> omega
theorem szLen_sub {n : Nat} {left : Int} (h : ¬ left - (n : Int) < 0) : Sp.szLen n left = left - n := by unfold Sp.szLen; rw [if_neg h]
theorem wList_split {α : Type} (f : α → Nat) (d : α) (a : List α) (n : Nat) (h : n < a.length) : Sp.wList f (a.take (n + 1)) = Sp.wList f (a.take n) + (1 + f (a.getD n d)) := by
  induction a generalizing n with
  | nil => simp at h
  | cons x r ih =>
    cases n with
    | zero => simp [Sp.wList]
    | succ n =>
      have := ih n (by simpa using h)
      simp only [List.take_succ_cons, Sp.wList, List.getD_cons_succ] at this ⊢
      omega
/-- The weights alone. -/
def wSum {α : Type} (f : α → Nat) : List α → Nat
  | [] => 0
  | x :: r => f x + wSum f r
theorem wList_eq {α : Type} (f : α → Nat) : ∀ a : List α, Sp.wList f a = a.length + wSum f a
  | [] => rfl
  | x :: r => by simp only [Sp.wList, wSum, wList_eq f r, List.length_cons]; omega
theorem wSum_take {α : Type} (f : α → Nat) (d : α) : ∀ (a : List α) (n : Nat), n < a.length → wSum f (a.take (n + 1)) = wSum f (a.take n) + f (a.getD n d)
  | [], n, h => by simp at h
  | x :: r, 0, _ => by simp [wSum]
  | x :: r, n + 1, h => by
    have := wSum_take f d r n (by simpa using h)
    simp only [List.take_succ_cons, wSum, List.getD_cons_succ] at this ⊢
    omega
theorem wSum_le {α : Type} (f : α → Nat) : ∀ (a : List α) (n : Nat), wSum f (a.take n) ≤ wSum f a
  | [], n => by simp
  | x :: r, 0 => by simp [wSum]
  | x :: r, n + 1 => by simp only [List.take_succ_cons, wSum]; have := wSum_le f r n; omega
theorem wList_mem {α : Type} (f : α → Nat) : ∀ (a : List α) (x : α), x ∈ a → f x ≤ Sp.wList f a
  | y :: r, x, h => by
    rw [Sp.wList]
    rcases List.mem_cons.1 h with rfl | h
    · omega
    · have := wList_mem f r x h; omega
  | [], x, h => by cases h

theorem szS_vc {α β : Type} (f : α → Nat) (d : α) (a : List α) (left : Int) (t : β) (hlen : a.length ≤ 9223372036854775807) (h0 : 0 ≤ left) (h1 : left ≤ 1048576) {K : Int × Unit → Prop} (hK : K (Sp.szLen (Sp.wList f a) left, ())) :
    bif decide (IntKind.i64.wrap (left - (a.length : Int)) < (0 : Int)) then K ((-1 : Int), ())
    else ∃ (I : (Int × Int × Unit) × Unit → Prop), ∃ (μ : (Int × Int × Unit) × Unit → Nat), I ((IntKind.i64.wrap (left - (a.length : Int)), (0 : Int), ()), ()) ∧ ∀ (y : (Int × Int × Unit) × Unit), I y →
      bif decide (y.fst.snd.fst < (a.length : Int)) then
        ((0 : Int) ≤ y.fst.snd.fst ∧ y.fst.snd.fst < (a.length : Int)) ∧ ((0 : Int) ≤ y.fst.fst ∧ y.fst.fst ≤ (1048576 : Int)) ∧
          (bif decide (Sp.szLen (f (a.getD (Int.toNat y.fst.snd.fst) d)) y.fst.fst < (0 : Int)) then K ((-1 : Int), ())
          else t = t ∧ I ((Sp.szLen (f (a.getD (Int.toNat y.fst.snd.fst) d)) y.fst.fst, IntKind.i64.wrap (y.fst.snd.fst + (1 : Int)), ()), ()) ∧
            μ ((Sp.szLen (f (a.getD (Int.toNat y.fst.snd.fst) d)) y.fst.fst, IntKind.i64.wrap (y.fst.snd.fst + (1 : Int)), ()), ()) < μ y)
      else K (y.fst.fst, ()) := by
  rw [wrapIn _ (by omega)]
  refine cond_intro (fun h => ?_) fun h => ?_ <;> simp only [decide_eq_true_eq, decide_eq_false_iff_not] at h
  · rw [wList_eq, szLen_more (by unfold Sp.szLen; rw [if_pos h]; omega)] at hK
    exact hK
  · refine ⟨fun y => ∃ n : Nat, y.1.2.1 = n ∧ n ≤ a.length ∧ 0 ≤ y.1.1 ∧ y.1.1 = Sp.szLen (a.length + wSum f (a.take n)) left, fun y => ((a.length : Int) - y.1.2.1).toNat, ⟨0, rfl, by omega, by show 0 ≤ left - (a.length : Int); omega, ?_⟩, ?_⟩
    · rw [List.take_zero, wSum, Nat.add_zero, szLen_sub h]
    rintro ⟨⟨l, _, ⟨⟩⟩, ⟨⟩⟩ ⟨n, rfl, hn, hl, hJ⟩
    dsimp only at hl hJ ⊢
    have hle : l ≤ left := by rw [hJ]; exact szLen_leq h0
    refine cond_intro (fun h => ?_) fun h => ?_ <;> simp only [decide_eq_true_eq, decide_eq_false_iff_not] at h
    · have hlt : n < a.length := by omega
      have hstep : 0 ≤ Sp.szLen (a.length + wSum f (a.take n)) left := by rw [← hJ]; exact hl
      have key : Sp.szLen (f (a.getD n d)) l = Sp.szLen (a.length + wSum f (a.take (n + 1))) left := by
        rw [hJ, szLen_add hstep, wSum_take f d a n hlt, Nat.add_assoc]
      rw [Int.toNat_natCast, wrapIn _ (by omega)]
      refine ⟨⟨by omega, by omega⟩, ⟨hl, by omega⟩, cond_intro (fun h2 => ?_) fun h2 => ?_⟩ <;> simp only [decide_eq_true_eq, decide_eq_false_iff_not] at h2
      · rw [key] at h2
        have hw := wSum_le f a (n + 1)
        have : Sp.szLen (Sp.wList f a) left = -1 := by
          rw [wList_eq, show a.length + wSum f a = (a.length + wSum f (a.take (n + 1))) + (wSum f a - wSum f (a.take (n + 1))) by omega]
          exact szLen_more h2
        rw [this] at hK
        exact hK
      · exact ⟨rfl, ⟨n + 1, by simp, by omega, by omega, key⟩, by omega⟩
    · have hge : n = a.length := by omega
      subst hge
      rw [List.take_length, ← wList_eq] at hJ
      rw [hJ]; exact hK
theorem toS_vc {α β : Type} (pre : α → Prop) (d : α) (a : List α) (t : β) (hbig : a.length ≤ 4294967296) (hpre : ∀ x ∈ a, pre x) {K : List α × Unit → Prop} (hK : K (a, ())) :
    ((0 : Int) ≤ (a.length : Int) ∧ (a.length : Int) ≤ (a.length : Int) ∧ (a.length : Int) ≤ (big : Int)) ∧
    ∃ (I : (Int × Unit) × List α × Unit → Prop), ∃ (μ : (Int × Unit) × List α × Unit → Nat), I (((0 : Int), ()), List.replicate (a.length : Int).toNat d, ()) ∧ ∀ (y : (Int × Unit) × List α × Unit), I y →
      bif decide (y.fst.fst < (a.length : Int)) then
        ((0 : Int) ≤ y.fst.fst ∧ y.fst.fst < (a.length : Int)) ∧ pre (a.getD (Int.toNat y.fst.fst) d) ∧ ((0 : Int) ≤ y.fst.fst ∧ y.fst.fst < (List.length y.snd.fst : Int)) ∧ Int.toNat y.fst.fst < List.length y.snd.fst ∧
          t = t ∧ I ((IntKind.i64.wrap (y.fst.fst + (1 : Int)), ()), List.set y.snd.fst (Int.toNat y.fst.fst) (a.getD (Int.toNat y.fst.fst) d), ()) ∧
            μ ((IntKind.i64.wrap (y.fst.fst + (1 : Int)), ()), List.set y.snd.fst (Int.toNat y.fst.fst) (a.getD (Int.toNat y.fst.fst) d), ()) < μ y
      else K (y.snd.fst, ()) := by
  refine ⟨⟨by omega, by omega, by rw [big_eq]; omega⟩, fun y => ∃ n : Nat, y.1.1 = n ∧ n ≤ a.length ∧ y.2.1 = a.take n ++ List.replicate (a.length - n) d, fun y => ((a.length : Int) - y.1.1).toNat, ⟨0, rfl, by omega, by simp⟩, ?_⟩
  rintro ⟨⟨_, ⟨⟩⟩, l, ⟨⟩⟩ ⟨n, rfl, hn, rfl⟩
  dsimp only
  refine cond_intro (fun h => ?_) fun h => ?_ <;> simp only [decide_eq_true_eq, decide_eq_false_iff_not] at h
  · have hlt : n < a.length := by omega
    have hl : (a.take n ++ List.replicate (a.length - n) d).length = a.length := by simp only [List.length_append, List.length_take, List.length_replicate]; omega
    rw [wrapIn _ (by omega), Int.toNat_natCast, hl]
    refine ⟨⟨by omega, by omega⟩, hpre _ (getD_mem hlt), ⟨by omega, by omega⟩, hlt, rfl, ⟨n + 1, by simp, by omega, ?_⟩, by omega⟩
    rw [show a.length - n = a.length - (n + 1) + 1 by omega, List.replicate_succ, List.set_append_right _ _ (by rw [List.length_take]; omega), List.length_take, Nat.min_eq_left hn, Nat.sub_self, List.set_cons_zero,
        List.take_succ_eq_append_getElem hlt, List.append_assoc, List.getD_eq_getElem?_getD, List.getElem?_eq_getElem hlt]
    rfl
  · have hge : n = a.length := by omega
    subst hge
    simpa using hK
theorem eqS_vc {α β : Type} (e : α → α → Bool) (he : ∀ x y, e x y = true ↔ x = y) (d : α) (a b : List α) (t : β) (hlen : a.length ≤ 9223372036854775807) {K : Bool × Unit → Prop} (hK : ∀ z : Bool, (z = true ↔ a = b) → K (z, ())) :
    bif (a.length : Int) != (b.length : Int) then K (false, ())
    else ∃ (I : (Int × Unit) × Unit → Prop), ∃ (μ : (Int × Unit) × Unit → Nat), I (((0 : Int), ()), ()) ∧ ∀ (y : (Int × Unit) × Unit), I y →
      bif decide (y.fst.fst < (a.length : Int)) then
        ((0 : Int) ≤ y.fst.fst ∧ y.fst.fst < (a.length : Int)) ∧ ((0 : Int) ≤ y.fst.fst ∧ y.fst.fst < (b.length : Int)) ∧ True ∧
          (bif !e (a.getD (Int.toNat y.fst.fst) d) (b.getD (Int.toNat y.fst.fst) d) then K (false, ())
          else t = t ∧ I ((IntKind.i64.wrap (y.fst.fst + (1 : Int)), ()), ()) ∧ μ ((IntKind.i64.wrap (y.fst.fst + (1 : Int)), ()), ()) < μ y)
      else K (true, ()) := by
  refine cond_intro (fun h => ?_) fun h => ?_
  · refine hK false ⟨fun h => (by cases h), fun h2 => ?_⟩
    subst h2; simp at h
  · have hl : a.length = b.length := by simp at h; omega
    refine ⟨fun y => ∃ n : Nat, y.1.1 = n ∧ n ≤ a.length ∧ a.take n = b.take n, fun y => ((a.length : Int) - y.1.1).toNat, ⟨0, rfl, by omega, by simp⟩, ?_⟩
    rintro ⟨⟨_, ⟨⟩⟩, ⟨⟩⟩ ⟨n, rfl, hn, hJ⟩
    dsimp only
    refine cond_intro (fun h => ?_) fun h => ?_ <;> simp only [decide_eq_true_eq, decide_eq_false_iff_not] at h
    · have hlt : n < a.length := by omega
      have hlt2 : n < b.length := by omega
      rw [wrapIn _ (by omega), Int.toNat_natCast]
      refine ⟨⟨by omega, by omega⟩, ⟨by omega, by omega⟩, trivial, cond_intro (fun hc => ?_) fun hc => ?_⟩
      · refine hK false ⟨fun h => (by cases h), fun h2 => ?_⟩
        subst h2
        have := (he (a.getD n d) (a.getD n d)).2 rfl
        rw [this] at hc; cases hc
      · refine ⟨rfl, ⟨n + 1, by simp, by omega, ?_⟩, by omega⟩
        have hx := (he (a.getD n d) (b.getD n d)).1 (by simpa using hc)
        rw [List.getD_eq_getElem?_getD, List.getElem?_eq_getElem hlt, Option.getD_some, List.getD_eq_getElem?_getD, List.getElem?_eq_getElem hlt2, Option.getD_some] at hx
        rw [List.take_succ_eq_append_getElem hlt, List.take_succ_eq_append_getElem hlt2, hJ, hx]
    · refine hK true ⟨fun _ => ?_, fun _ => rfl⟩
      rw [show n = a.length by omega, List.take_length, hl, List.take_length] at hJ
      exact hJ
end Go.Fw
