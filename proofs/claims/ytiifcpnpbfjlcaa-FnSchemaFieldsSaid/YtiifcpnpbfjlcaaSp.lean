import Derived.Test.YtiifcpnpbfjlcaaFwA
import Derived.Lib.ItoaNum
import Derived.Lib.ItoaLen
import Derived.Lib.Join
import Derived.Test.YtiifcpnpbfjlcaaFwC
/- Plain functions: what the program's functions compute. -/
namespace Sp
open Go
abbrev Bytes := List UInt8
abbrev LI := List (Int × Unit)
abbrev LS := List (Bytes × Unit)
def szLen (n : Nat) (left : Int) : Int := if left - n < 0 then -1 else left - n
def szEvent (a1 a2 : LI) (left : Int) : Int := if szLen a1.length left < 0 then -1 else szLen a2.length (szLen a1.length left)
def szResult (a0 : Bytes) (a1 : LI) (left : Int) : Int := if szLen a0.length left < 0 then -1 else szLen a1.length (szLen a0.length left)
/-- Each number with a text ahead. -/
def marked (p : Bytes) : LI → Bytes
  | [] => []
  | x :: r => p ++ Lib.itoa x.1 ++ marked p r
def eventText (v : Int) (a r : LI) : Bytes := Lib.itoa v ++ marked [32, 43] a ++ marked [32, 45] r
def idsText : LI → Bytes
  | [] => []
  | x :: r => Lib.itoa x.1 ++ marked [32] r
def withIds (s : Bytes) (ids : LI) : Bytes := if ids.isEmpty then s else s ++ [32] ++ idsText ids

theorem take_succ' {α : Type} (a : List α) (n : Nat) (d : α) (h : n < a.length) : a.take (n + 1) = a.take n ++ [a.getD n d] := by
  rw [List.take_succ_eq_append_getElem h, List.getD_eq_getElem?_getD, List.getElem?_eq_getElem h]; rfl
theorem marked_append (p : Bytes) : ∀ (a b : LI), marked p (a ++ b) = marked p a ++ marked p b
  | [], b => rfl
  | x :: a, b => by simp only [List.cons_append, marked, marked_append p a b, List.append_assoc]
theorem marked_succ (p : Bytes) (a : LI) (n : Nat) (d : Int × Unit) (h : n < a.length) : marked p (a.take (n + 1)) = marked p (a.take n) ++ (p ++ Lib.itoa (a.getD n d).1) := by
  rw [take_succ' a n d h, marked_append]; simp [marked]
def i64Ok (l : LI) : Prop := ∀ x ∈ l, -9223372036854775808 ≤ x.1 ∧ x.1 ≤ 9223372036854775807
theorem marked_len (p : Bytes) : ∀ (a : LI), i64Ok a → (marked p a).length ≤ (p.length + 21) * a.length
  | [], _ => by simp [marked]
  | x :: a, h => by
    have h1 := Lib.itoa_length_le x.1 (h x List.mem_cons_self).1 (h x List.mem_cons_self).2
    have h2 := marked_len p a fun y hy => h y (List.mem_cons_of_mem _ hy)
    simp only [marked, List.length_append, List.length_cons, Nat.mul_add]
    omega
theorem i64Ok.take {a : LI} (h : i64Ok a) (n : Nat) : i64Ok (a.take n) := fun x hx => h x (List.mem_of_mem_take hx)
theorem i64Ok.get {a : LI} (h : i64Ok a) {n : Nat} (hn : n < a.length) (d : Int × Unit) : (Lib.itoa (a.getD n d).1).length ≤ 21 := by
  have : a.getD n d ∈ a := by rw [List.getD_eq_getElem?_getD, List.getElem?_eq_getElem hn, Option.getD_some]; exact List.getElem_mem hn
  exact Lib.itoa_length_le _ (h _ this).1 (h _ this).2
theorem marked_take_len (p : Bytes) (a : LI) (h : i64Ok a) (n m : Nat) (hn : n ≤ m) : (marked p (a.take n)).length ≤ (p.length + 21) * m := by
  refine Nat.le_trans (marked_len p _ (h.take n)) (Nat.mul_le_mul_left _ ?_)
  rw [List.length_take]; omega
theorem idsText_pos (a : LI) (n : Nat) (d : Int × Unit) (h : n < a.length) : idsText (a.take (n + 1)) = (if n = 0 then [] else idsText (a.take n) ++ [32]) ++ Lib.itoa (a.getD n d).1 := by
  cases a with
  | nil => simp at h
  | cons x r =>
    cases n with
    | zero => simp [idsText, marked]
    | succ n =>
      have h' : n < r.length := by simpa using h
      simp only [List.take_succ_cons, idsText, List.getD_cons_succ, marked_succ [32] r n d h', if_neg (Nat.succ_ne_zero n), List.append_assoc]
theorem idsText_len (a : LI) (h : i64Ok a) : (idsText a).length ≤ 22 * a.length := by
  cases a with
  | nil => simp [idsText]
  | cons x r =>
    have h1 := Lib.itoa_length_le x.1 (h x List.mem_cons_self).1 (h x List.mem_cons_self).2
    have h2 := marked_len [32] r fun y hy => h y (List.mem_cons_of_mem _ hy)
    simp only [idsText, List.length_append, List.length_cons, List.length_nil] at h2 ⊢
    omega
theorem join_ids (a : LI) : Lib.join (a.map fun x => Lib.itoa x.1) [32] = idsText a := by
  cases a with
  | nil => rfl
  | cons x r =>
    have : ∀ r : LI, Lib.joinTail [32] (r.map fun x => Lib.itoa x.1) = marked [32] r := by
      intro r
      induction r with
      | nil => rfl
      | cons y r ih => simp only [Lib.joinTail, List.map_cons, List.flatten_cons, marked] at ih ⊢; rw [ih]
    rw [List.map_cons, Lib.join_cons, this, idsText]
theorem decDigits_step (c : Nat) : Lib.decDigits c = (if c / 10 = 0 then [] else Lib.decDigits (c / 10)) ++ [UInt8.ofNat (48 + c % 10)] := by
  conv => lhs; rw [Lib.decDigits]
  by_cases h : c < 10
  · rw [dif_pos h, if_pos (by omega), Nat.mod_eq_of_lt h]; rfl
  · rw [dif_neg h, if_neg (by omega)]
end Sp
/- Plain functions for actions. -/
namespace Sp
open Go
set_option synthInstance.maxSize 100000
set_option synthInstance.maxHeartbeats 1000000
abbrev DValue := Int × Int × Bytes × Unit
abbrev DAttr := Bytes × Int × Int × Bytes × Unit
abbrev DNode := Int × Int × Int × Bytes × Int × Int × Bytes × Unit
abbrev DFile := Int × Int × Bool × Int × List DAttr × Unit
abbrev DDir := Bytes × List DNode × Unit
abbrev DChange := Int × Int × Int × Bool × Int × List DAttr × Int × Bytes × List DNode × Unit
abbrev DAction := Int × Int × List DChange × Bytes × Int × Unit
def wAttr : DAttr → Nat | (n, _, _, s, _) => n.length + s.length
def wNode : DNode → Nat | (_, _, _, n, _, _, s, _) => n.length + s.length
/-- The length of a list and the weights of what it holds. -/
def wList {α : Type} (f : α → Nat) : List α → Nat
  | [] => 0
  | x :: r => 1 + f x + wList f r
def wAttrS (a : List DAttr) : Nat := wList wAttr a
def wNodeS (a : List DNode) : Nat := wList wNode a
def wFile : DFile → Nat | (_, _, _, _, a, _) => wAttrS a
def wDir : DDir → Nat | (n, q, _) => n.length + wNodeS q
def wChange : DChange → Nat | (_, _, _, _, _, a, _, n, q, _) => wAttrS a + (n.length + wNodeS q)
def wChangeS (a : List DChange) : Nat := wList wChange a
def wAction : DAction → Nat | (_, _, c, n, _, _) => wChangeS c + n.length

instance : DecidableEq DValue := inferInstance
instance : DecidableEq DAttr := inferInstance
instance : DecidableEq DNode := inferInstance
instance : DecidableEq DFile := inferInstance
instance : DecidableEq DDir := inferInstance
instance : DecidableEq (Int × DDir) := inferInstance
instance : DecidableEq (List DAttr × Int × DDir) := inferInstance
instance : DecidableEq (Bool × Int × List DAttr × Int × DDir) := inferInstance
instance iChange : DecidableEq DChange := (inferInstance : DecidableEq (Int × Int × Int × Bool × Int × List DAttr × Int × DDir))
instance : DecidableEq (List DChange) := inferInstance
instance : DecidableEq (List DChange × Bytes × Int × Unit) := inferInstance
def eqValue (a b : DValue) : Bool := decide (a = b)
def eqAttr (a b : DAttr) : Bool := decide (a = b)
def eqNode (a b : DNode) : Bool := decide (a = b)
def eqAttrS (a b : List DAttr) : Bool := decide (a = b)
def eqNodeS (a b : List DNode) : Bool := decide (a = b)
def eqFile (a b : DFile) : Bool := decide (a = b)
def eqDir (a b : DDir) : Bool := decide (a = b)
def eqChange (a b : DChange) : Bool := decide (a = b)
def eqChangeS (a b : List DChange) : Bool := decide (a = b)
def eqAction (a b : DAction) : Bool := decide (a = b)
/-- Lower case letters only. -/
def lower (s : Bytes) : Bool := s.all fun c => decide (97 ≤ c.toNat) && decide (c.toNat ≤ 122)
def validStr (s : Bytes) : Bool := lower s && decide (1 ≤ (s.length : Int)) && decide ((s.length : Int) ≤ 6)
def isUint (n : Int) : Bool := decide (0 ≤ n) && decide (n ≤ 1000000000)
def idxFrom : Int → LI → Int
  | _, [] => -1
  | k, x :: r => if isUint x.1 then idxFrom (k + 1) r else k
def idxOf (l : LI) : Int := idxFrom 0 l
def areUints (l : LI) : Bool := l.all fun x => isUint x.1
def validAct (k : Int) (nc : Nat) : Bool := decide (1 ≤ k) && decide (k ≤ 8) && decide ((nc : Int) ≤ 6)
def actionText (k u : Int) (nc : Nat) (n : Bytes) (a : Int) : Bytes :=
  bif !(validAct k nc) then [] else
  bif (decide ((nc : Int) > 0) && decide (k > 2)) then [] else
  bif (k == 1 && (isUint u && (a == 0 && n == []))) then [99, 111, 109, 109, 105, 116, 32] ++ Lib.itoa u else
  bif (k == 2 && (isUint u && (isUint a && n == []))) then [99, 114, 97, 115, 104, 32] ++ Lib.itoa u ++ [32] ++ Lib.itoa a else
  bif (k == 3 && (isUint u && (validStr n && a == 0))) then [119, 97, 116, 99, 104, 32] ++ Lib.itoa u ++ [32] ++ n else
  bif (k == 4 && (u == 0 && (isUint a && n == []))) then [112, 105, 110, 32] ++ Lib.itoa a else
  bif (k == 5 && (u == 0 && (isUint a && n == []))) then [117, 110, 112, 105, 110, 32] ++ Lib.itoa a else
  bif (k == 6 && (u == 0 && (a == 0 && n == []))) then [99, 111, 108, 108, 101, 99, 116] else
  bif (k == 7 && (isUint u && (isUint a && validStr n))) then [97, 100, 100, 32] ++ Lib.itoa u ++ [32] ++ n ++ [32] ++ Lib.itoa a else
  bif (k == 8 && (isUint u && (isUint a && validStr n))) then [114, 101, 109, 111, 118, 101, 32] ++ Lib.itoa u ++ [32] ++ n ++ [32] ++ Lib.itoa a else []
end Sp
/- The loops of size, copy and comparison, over any element. -/
namespace Go.Fw
open Go
theorem szLen_add {n m : Nat} {left : Int} (h : 0 ≤ Sp.szLen n left) : Sp.szLen m (Sp.szLen n left) = Sp.szLen (n + m) left := by
  unfold Sp.szLen at h ⊢
  split at h
  · omega
  · next h1 => rw [if_neg h1]; by_cases h2 : left - ↑n - ↑m < 0
               · rw [if_pos h2, if_pos (by omega)]
               · rw [if_neg h2, if_neg (by omega)]; omega
theorem szLen_more {n m : Nat} {left : Int} (h : Sp.szLen n left < 0) : Sp.szLen (n + m) left = -1 := by
  unfold Sp.szLen at h ⊢
  split at h
  · rw [if_pos (by omega)]
  · omega
theorem szLen_leq {n : Nat} {left : Int} (h : 0 ≤ left) : Sp.szLen n left ≤ left := by unfold Sp.szLen; split <;> omega
theorem szLen_sub {n : Nat} {left : Int} (h : ¬ left - (n : Int) < 0) : Sp.szLen n left = left - n := by unfold Sp.szLen; rw [if_neg h]
theorem wList_split {α : Type} (f : α → Nat) (d : α) (a : List α) (n : Nat) (h : n < a.length) : Sp.wList f (a.take (n + 1)) = Sp.wList f (a.take n) + (1 + f (a.getD n d)) := by
  induction a generalizing n with
  | nil => simp at h
  | cons x r ih =>
    cases n with
    | zero => simp [Sp.wList]
    | succ n =>
      have := ih n (by simpa using h)
      simp only [List.take_succ_cons, Sp.wList, List.getD_cons_succ] at this ⊢
      omega
/-- The weights alone. -/
def wSum {α : Type} (f : α → Nat) : List α → Nat
  | [] => 0
  | x :: r => f x + wSum f r
theorem wList_eq {α : Type} (f : α → Nat) : ∀ a : List α, Sp.wList f a = a.length + wSum f a
  | [] => rfl
  | x :: r => by simp only [Sp.wList, wSum, wList_eq f r, List.length_cons]; omega
theorem wSum_take {α : Type} (f : α → Nat) (d : α) : ∀ (a : List α) (n : Nat), n < a.length → wSum f (a.take (n + 1)) = wSum f (a.take n) + f (a.getD n d)
  | [], n, h => by simp at h
  | x :: r, 0, _ => by simp [wSum]
  | x :: r, n + 1, h => by
    have := wSum_take f d r n (by simpa using h)
    simp only [List.take_succ_cons, wSum, List.getD_cons_succ] at this ⊢
    omega
theorem wSum_le {α : Type} (f : α → Nat) : ∀ (a : List α) (n : Nat), wSum f (a.take n) ≤ wSum f a
  | [], n => by simp
  | x :: r, 0 => by simp [wSum]
  | x :: r, n + 1 => by simp only [List.take_succ_cons, wSum]; have := wSum_le f r n; omega
theorem wList_mem {α : Type} (f : α → Nat) : ∀ (a : List α) (x : α), x ∈ a → f x ≤ Sp.wList f a
  | y :: r, x, h => by
    rw [Sp.wList]
    rcases List.mem_cons.1 h with rfl | h
    · omega
    · have := wList_mem f r x h; omega
  | [], x, h => by cases h

theorem szS_vc {α β : Type} (f : α → Nat) (d : α) (a : List α) (left : Int) (t : β) (hlen : a.length ≤ 9223372036854775807) (h0 : 0 ≤ left) (h1 : left ≤ 1048576) {K : Int × Unit → Prop} (hK : K (Sp.szLen (Sp.wList f a) left, ())) :
    bif decide (IntKind.i64.wrap (left - (a.length : Int)) < (0 : Int)) then K ((-1 : Int), ())
    else ∃ (I : (Int × Int × Unit) × Unit → Prop), ∃ (μ : (Int × Int × Unit) × Unit → Nat), I ((IntKind.i64.wrap (left - (a.length : Int)), (0 : Int), ()), ()) ∧ ∀ (y : (Int × Int × Unit) × Unit), I y →
      bif decide (y.fst.snd.fst < (a.length : Int)) then
        ((0 : Int) ≤ y.fst.snd.fst ∧ y.fst.snd.fst < (a.length : Int)) ∧ ((0 : Int) ≤ y.fst.fst ∧ y.fst.fst ≤ (1048576 : Int)) ∧
          (bif decide (Sp.szLen (f (a.getD (Int.toNat y.fst.snd.fst) d)) y.fst.fst < (0 : Int)) then K ((-1 : Int), ())
          else t = t ∧ I ((Sp.szLen (f (a.getD (Int.toNat y.fst.snd.fst) d)) y.fst.fst, IntKind.i64.wrap (y.fst.snd.fst + (1 : Int)), ()), ()) ∧
            μ ((Sp.szLen (f (a.getD (Int.toNat y.fst.snd.fst) d)) y.fst.fst, IntKind.i64.wrap (y.fst.snd.fst + (1 : Int)), ()), ()) < μ y)
      else K (y.fst.fst, ()) := by
  rw [wrapIn _ (by omega)]
  refine cond_intro (fun h => ?_) fun h => ?_ <;> simp only [decide_eq_true_eq, decide_eq_false_iff_not] at h
  · rw [wList_eq, szLen_more (by unfold Sp.szLen; rw [if_pos h]; omega)] at hK
    exact hK
  · refine ⟨fun y => ∃ n : Nat, y.1.2.1 = n ∧ n ≤ a.length ∧ 0 ≤ y.1.1 ∧ y.1.1 = Sp.szLen (a.length + wSum f (a.take n)) left, fun y => ((a.length : Int) - y.1.2.1).toNat, ⟨0, rfl, by omega, by show 0 ≤ left - (a.length : Int); omega, ?_⟩, ?_⟩
    · rw [List.take_zero, wSum, Nat.add_zero, szLen_sub h]
    rintro ⟨⟨l, _, ⟨⟩⟩, ⟨⟩⟩ ⟨n, rfl, hn, hl, hJ⟩
    dsimp only at hl hJ ⊢
    have hle : l ≤ left := by rw [hJ]; exact szLen_leq h0
    refine cond_intro (fun h => ?_) fun h => ?_ <;> simp only [decide_eq_true_eq, decide_eq_false_iff_not] at h
    · have hlt : n < a.length := by omega
      have hstep : 0 ≤ Sp.szLen (a.length + wSum f (a.take n)) left := by rw [← hJ]; exact hl
      have key : Sp.szLen (f (a.getD n d)) l = Sp.szLen (a.length + wSum f (a.take (n + 1))) left := by
        rw [hJ, szLen_add hstep, wSum_take f d a n hlt, Nat.add_assoc]
      rw [Int.toNat_natCast, wrapIn _ (by omega)]
      refine ⟨⟨by omega, by omega⟩, ⟨hl, by omega⟩, cond_intro (fun h2 => ?_) fun h2 => ?_⟩ <;> simp only [decide_eq_true_eq, decide_eq_false_iff_not] at h2
      · rw [key] at h2
        have hw := wSum_le f a (n + 1)
        have : Sp.szLen (Sp.wList f a) left = -1 := by
          rw [wList_eq, show a.length + wSum f a = (a.length + wSum f (a.take (n + 1))) + (wSum f a - wSum f (a.take (n + 1))) by omega]
          exact szLen_more h2
        rw [this] at hK
        exact hK
      · exact ⟨rfl, ⟨n + 1, by simp, by omega, by omega, key⟩, by omega⟩
    · have hge : n = a.length := by omega
      subst hge
      rw [List.take_length, ← wList_eq] at hJ
      rw [hJ]; exact hK
theorem toS_vc {α β : Type} (pre : α → Prop) (d : α) (a : List α) (t : β) (hbig : a.length ≤ 4294967296) (hpre : ∀ x ∈ a, pre x) {K : List α × Unit → Prop} (hK : K (a, ())) :
    ((0 : Int) ≤ (a.length : Int) ∧ (a.length : Int) ≤ (a.length : Int) ∧ (a.length : Int) ≤ (big : Int)) ∧
    ∃ (I : (Int × Unit) × List α × Unit → Prop), ∃ (μ : (Int × Unit) × List α × Unit → Nat), I (((0 : Int), ()), List.replicate (a.length : Int).toNat d, ()) ∧ ∀ (y : (Int × Unit) × List α × Unit), I y →
      bif decide (y.fst.fst < (a.length : Int)) then
        ((0 : Int) ≤ y.fst.fst ∧ y.fst.fst < (a.length : Int)) ∧ pre (a.getD (Int.toNat y.fst.fst) d) ∧ ((0 : Int) ≤ y.fst.fst ∧ y.fst.fst < (List.length y.snd.fst : Int)) ∧ Int.toNat y.fst.fst < List.length y.snd.fst ∧
          t = t ∧ I ((IntKind.i64.wrap (y.fst.fst + (1 : Int)), ()), List.set y.snd.fst (Int.toNat y.fst.fst) (a.getD (Int.toNat y.fst.fst) d), ()) ∧
            μ ((IntKind.i64.wrap (y.fst.fst + (1 : Int)), ()), List.set y.snd.fst (Int.toNat y.fst.fst) (a.getD (Int.toNat y.fst.fst) d), ()) < μ y
      else K (y.snd.fst, ()) := by
  refine ⟨⟨by omega, by omega, by rw [big_eq]; omega⟩, fun y => ∃ n : Nat, y.1.1 = n ∧ n ≤ a.length ∧ y.2.1 = a.take n ++ List.replicate (a.length - n) d, fun y => ((a.length : Int) - y.1.1).toNat, ⟨0, rfl, by omega, by simp⟩, ?_⟩
  rintro ⟨⟨_, ⟨⟩⟩, l, ⟨⟩⟩ ⟨n, rfl, hn, rfl⟩
  dsimp only
  refine cond_intro (fun h => ?_) fun h => ?_ <;> simp only [decide_eq_true_eq, decide_eq_false_iff_not] at h
  · have hlt : n < a.length := by omega
    have hl : (a.take n ++ List.replicate (a.length - n) d).length = a.length := by simp only [List.length_append, List.length_take, List.length_replicate]; omega
    rw [wrapIn _ (by omega), Int.toNat_natCast, hl]
    refine ⟨⟨by omega, by omega⟩, hpre _ (getD_mem hlt), ⟨by omega, by omega⟩, hlt, rfl, ⟨n + 1, by simp, by omega, ?_⟩, by omega⟩
    rw [show a.length - n = a.length - (n + 1) + 1 by omega, List.replicate_succ, List.set_append_right _ _ (by rw [List.length_take]; omega), List.length_take, Nat.min_eq_left hn, Nat.sub_self, List.set_cons_zero,
        List.take_succ_eq_append_getElem hlt, List.append_assoc, List.getD_eq_getElem?_getD, List.getElem?_eq_getElem hlt]
    rfl
  · have hge : n = a.length := by omega
    subst hge
    simpa using hK
theorem eqS_vc {α β : Type} (e : α → α → Bool) (he : ∀ x y, e x y = true ↔ x = y) (d : α) (a b : List α) (t : β) (hlen : a.length ≤ 9223372036854775807) {K : Bool × Unit → Prop} (hK : ∀ z : Bool, (z = true ↔ a = b) → K (z, ())) :
    bif (a.length : Int) != (b.length : Int) then K (false, ())
    else ∃ (I : (Int × Unit) × Unit → Prop), ∃ (μ : (Int × Unit) × Unit → Nat), I (((0 : Int), ()), ()) ∧ ∀ (y : (Int × Unit) × Unit), I y →
      bif decide (y.fst.fst < (a.length : Int)) then
        ((0 : Int) ≤ y.fst.fst ∧ y.fst.fst < (a.length : Int)) ∧ ((0 : Int) ≤ y.fst.fst ∧ y.fst.fst < (b.length : Int)) ∧ True ∧
          (bif !e (a.getD (Int.toNat y.fst.fst) d) (b.getD (Int.toNat y.fst.fst) d) then K (false, ())
          else t = t ∧ I ((IntKind.i64.wrap (y.fst.fst + (1 : Int)), ()), ()) ∧ μ ((IntKind.i64.wrap (y.fst.fst + (1 : Int)), ()), ()) < μ y)
      else K (true, ()) := by
  refine cond_intro (fun h => ?_) fun h => ?_
  · refine hK false ⟨fun h => (by cases h), fun h2 => ?_⟩
    subst h2; simp at h
  · have hl : a.length = b.length := by simp at h; omega
    refine ⟨fun y => ∃ n : Nat, y.1.1 = n ∧ n ≤ a.length ∧ a.take n = b.take n, fun y => ((a.length : Int) - y.1.1).toNat, ⟨0, rfl, by omega, by simp⟩, ?_⟩
    rintro ⟨⟨_, ⟨⟩⟩, ⟨⟩⟩ ⟨n, rfl, hn, hJ⟩
    dsimp only
    refine cond_intro (fun h => ?_) fun h => ?_ <;> simp only [decide_eq_true_eq, decide_eq_false_iff_not] at h
    · have hlt : n < a.length := by omega
      have hlt2 : n < b.length := by omega
      rw [wrapIn _ (by omega), Int.toNat_natCast]
      refine ⟨⟨by omega, by omega⟩, ⟨by omega, by omega⟩, trivial, cond_intro (fun hc => ?_) fun hc => ?_⟩
      · refine hK false ⟨fun h => (by cases h), fun h2 => ?_⟩
        subst h2
        have := (he (a.getD n d) (a.getD n d)).2 rfl
        rw [this] at hc; cases hc
      · refine ⟨rfl, ⟨n + 1, by simp, by omega, ?_⟩, by omega⟩
        have hx := (he (a.getD n d) (b.getD n d)).1 (by simpa using hc)
        rw [List.getD_eq_getElem?_getD, List.getElem?_eq_getElem hlt, Option.getD_some, List.getD_eq_getElem?_getD, List.getElem?_eq_getElem hlt2, Option.getD_some] at hx
        rw [List.take_succ_eq_append_getElem hlt, List.take_succ_eq_append_getElem hlt2, hJ, hx]
    · refine hK true ⟨fun _ => ?_, fun _ => rfl⟩
      rw [show n = a.length by omega, List.take_length, hl, List.take_length] at hJ
      exact hJ
end Go.Fw
/- Plain functions for schemas, files and stores. -/
namespace Sp
open Go
abbrev DField := Bytes × Int × Unit
abbrev DStore := List DField × List DFile × Int × Unit
instance : DecidableEq DField := inferInstance
instance : DecidableEq (List DField) := inferInstance
instance : DecidableEq (List DFile) := inferInstance
instance : DecidableEq (List DFile × Int × Unit) := inferInstance
instance iStore : DecidableEq DStore := (inferInstance : DecidableEq (List DField × List DFile × Int × Unit))
/-- The usual schema: a and b are numbers, n and t are texts. -/
def usual : List DField := [([97], 1, ()), ([98], 1, ()), ([110], 2, ()), ([116], 2, ())]
/-- No list is long. -/
def smallF (f : DFile) : Prop := f.2.2.2.2.1.length ≤ 1000
def smallS (s : DStore) : Prop := s.1.length ≤ 1000 ∧ s.2.1.length ≤ 1000 ∧ ∀ f ∈ s.2.1, smallF f
/-- All i below n. -/
def allUpto (n : Nat) (f : Nat → Bool) : Bool := (List.range n).all f
def okName (s : Bytes) : Bool := lower s && decide (1 ≤ (s.length : Int)) && decide ((s.length : Int) ≤ 1)
def okValue (k n : Int) (s : Bytes) : Bool :=
  bif decide (k = 0) then decide (n = 0) && decide (s = [])
  else bif decide (k = 1) then decide (0 ≤ n) && decide (n ≤ 999) && decide (s = [])
  else bif decide (k = 2) then validStr s && decide (n = 0)
  else false
def okValueD (v : DValue) : Bool := okValue v.1 v.2.1 v.2.2.1
/-- The kind of the first field of that name. -/
def kindOf : List DField → Bytes → Int
  | [], _ => 0
  | f :: r, s => bif decide (f.1 = s) then f.2.1 else kindOf r s
def fieldAt (fs : List DField) (i : Nat) : DField := fs.getD i ([], 0, ())
def okFieldAt (fs : List DField) (i : Nat) : Bool :=
  okName (fieldAt fs i).1 && (decide (1 ≤ (fieldAt fs i).2.1) && decide ((fieldAt fs i).2.1 ≤ 2)) && !(decide (0 < i) && !Op.bytesLess (fieldAt fs (i - 1)).1 (fieldAt fs i).1)
def okSchema (fs : List DField) : Bool := allUpto fs.length (okFieldAt fs) && decide ((fs.length : Int) ≤ 5)
def matchesS (fs : List DField) (name : Bytes) (k n : Int) (s : Bytes) : Bool := okValue k n s && !decide (k = 0) && decide (k = kindOf fs name)
def attrAt (as : List DAttr) (i : Nat) : DAttr := as.getD i ([], 0, 0, [], ())
def okAttrAt (fs : List DField) (as : List DAttr) (i : Nat) : Bool :=
  matchesS fs (attrAt as i).1 (attrAt as i).2.1 (attrAt as i).2.2.1 (attrAt as i).2.2.2.1 && !(decide (0 < i) && !Op.bytesLess (attrAt as (i - 1)).1 (attrAt as i).1)
def okAttrs (fs : List DField) (as : List DAttr) : Bool := allUpto as.length (okAttrAt fs as)
def okFile (fs : List DField) (f : DFile) : Bool :=
  okAttrs fs f.2.2.2.2.1 && okSchema fs && (decide (1 ≤ f.1) && decide (f.1 ≤ 60)) && (decide (0 ≤ f.2.1) && decide (f.2.1 ≤ 2)) && (decide (0 ≤ f.2.2.2.1) && decide (f.2.2.2.1 ≤ 60))
def fileAt (fs : List DFile) (i : Nat) : DFile := fs.getD i (0, 0, false, 0, [], ())
def okFileAt (s : DStore) (i : Nat) : Bool :=
  okFile s.1 (fileAt s.2.1 i) && decide ((fileAt s.2.1 i).1 < s.2.2.1) && !(decide (0 < i) && !decide ((fileAt s.2.1 (i - 1)).1 < (fileAt s.2.1 i).1))
def okStore (s : DStore) : Bool :=
  allUpto s.2.1.length (okFileAt s) && okSchema s.1 && decide ((s.2.1.length : Int) ≤ 12) && (decide (1 ≤ s.2.2.1) && decide (s.2.2.1 ≤ 61))
/-- The place of the first file of that number, or -1. -/
def placeFrom : Int → List DFile → Int → Int
  | _, [], _ => -1
  | k, f :: r, id => bif decide (f.1 = id) then k else placeFrom (k + 1) r id
def place (fs : List DFile) (id : Int) : Int := placeFrom 0 fs id
def canRead (f : DFile) (u : Int) : Bool := (decide (0 ≤ u) && decide (u ≤ 2)) && (decide (f.2.1 = u) || f.2.2.1)
def canWrite (f : DFile) (u : Int) : Bool := (decide (0 ≤ u) && decide (u ≤ 2)) && decide (f.2.1 = u)
def unlink (fs : List DFile) (f : DFile) : DFile := (f.1, f.2.1, f.2.2.1, (bif decide (place fs f.2.2.2.1 < 0) then 0 else f.2.2.2.1), f.2.2.2.2.1, ())
def visible (s : DStore) (u : Int) : DStore :=
  let fs := s.2.1.filter (canRead · u)
  (s.1, fs.map (unlink fs), s.2.2.1, ())
def ownedBy (fs : List DFile) (u : Int) : List (Int × Unit) := (fs.filter fun f => decide (f.2.1 = u)).map fun f => (f.1, ())
def fileIDs (fs : List DFile) : List (Int × Unit) := fs.map fun f => (f.1, ())
def noFile : DFile := (0, 0, false, 0, [], ())
def findFile (s : DStore) (id : Int) : DFile × Bool :=
  bif decide (place s.2.1 id < 0) then (noFile, false) else (fileAt s.2.1 (place s.2.1 id).toNat, true)
/-- A file with the value of that name put in its place. -/
def notNamed (name : Bytes) (b : DAttr) : Bool := !(b.1 == name)
def notAbove (name : Bytes) (b : DAttr) : Bool := Op.bytesLess b.1 name || b.1 == name
def putAttr (as : List DAttr) (a : DAttr) : List DAttr := as.takeWhile (notAbove a.1) ++ a :: as.dropWhile (notAbove a.1)
def setAttr (as : List DAttr) (name : Bytes) (k n : Int) (s : Bytes) : List DAttr :=
  bif decide (k = 0) then as.filter (notNamed name) else putAttr (as.filter (notNamed name)) (name, k, n, s, ())
def createFile (s : DStore) (f : DFile) : DStore × Int × Bool :=
  let g : DFile := (s.2.2.1, f.2)
  bif okStore s && decide ((s.2.1.length : Int) < 12) && okFile s.1 g then ((s.1, s.2.1 ++ [g], s.2.2.1 + 1, ()), s.2.2.1, true) else (s, 0, false)
def replaceFile (s : DStore) (f : DFile) : DStore × Bool :=
  bif okStore s && !decide (place s.2.1 f.1 < 0) && okFile s.1 f then ((s.1, s.2.1.set (place s.2.1 f.1).toNat f, s.2.2.1, ()), true) else (s, false)
def deleteFile (s : DStore) (id : Int) : DStore × Bool :=
  bif okStore s && !decide (place s.2.1 id < 0) then ((s.1, s.2.1.eraseIdx (place s.2.1 id).toNat, s.2.2.1, ()), true) else (s, false)
/-- A store with one file of the usual schema. -/
def sample (n : Int) : DStore := (createFile (usual, [], 1, ()) (0, 0, false, 0, setAttr [] [97] 1 n [], ())).1
/-- The place of the first element of that kind, or -1. -/
def findFrom {α : Type} (p : α → Bool) : Int → List α → Int
  | _, [] => -1
  | k, f :: r => bif p f then k else findFrom p (k + 1) r
def findAt {α : Type} (p : α → Bool) (l : List α) : Int := findFrom p 0 l
def fieldPlace (l : List DField) (name : Bytes) : Int := findAt (fun f => f.1 == name) l
def fieldAbove (l : List DField) (name : Bytes) : Int := findAt (fun f => Op.bytesLess name f.1) l
def notField (name : Bytes) (f : DField) : Bool := !(f.1 == name)
def belowField (name : Bytes) (f : DField) : Bool := Op.bytesLess f.1 name
def putField (s : List DField) (f : DField) : List DField := s.takeWhile (belowField f.1) ++ f :: s.dropWhile (belowField f.1)
def addField (s : List DField) (f : DField) : List DField × Bool := bif okSchema s && okSchema (putField s f) then (putField s f, true) else (s, false)
def removeField (s : List DField) (name : Bytes) : List DField × Bool := bif okSchema s && !decide (kindOf s name = 0) then (s.filter (notField name), true) else (s, false)
end Sp
/- Loops that count up, and conditions. -/
namespace Go.Fw
open Go
theorem condT {p : Prop} [Decidable p] {A B : Prop} (h : p) (a : A) : cond (decide p) A B := by rw [decide_eq_true h]; exact a
theorem condF {p : Prop} [Decidable p] {A B : Prop} (h : ¬ p) (b : B) : cond (decide p) A B := by rw [decide_eq_false h]; exact b
/-- A loop whose number goes up to len. -/
theorem up_loop {B : ((Int × Unit) × Unit → Prop) → ((Int × Unit) × Unit → Nat) → (Int × Unit) × Unit → Prop} (len : Nat) (hlen : len ≤ 9223372036854775807) (J : Nat → Prop) (h0 : J 0)
    (hstep : ∀ I μ (n : Nat), n < len → J n → (J (n + 1) → I ((IntKind.i64.wrap ((n : Int) + 1), ()), ()) ∧ μ ((IntKind.i64.wrap ((n : Int) + 1), ()), ()) < μ (((n : Int), ()), ())) → B I μ (((n : Int), ()), ()))
    (hend : ∀ I μ, J len → B I μ (((len : Int), ()), ())) : ∃ I, ∃ μ, I (((0 : Int), ()), ()) ∧ ∀ y, I y → B I μ y := by
  refine ⟨fun y => ∃ n : Nat, y.1.1 = n ∧ n ≤ len ∧ J n, fun y => ((len : Int) - y.1.1).toNat, ⟨0, rfl, Nat.zero_le _, h0⟩, ?_⟩
  rintro ⟨⟨_, ⟨⟩⟩, ⟨⟩⟩ ⟨n, rfl, hn, hJ⟩
  rcases Nat.lt_or_ge n len with h | h
  · refine hstep _ _ n h hJ fun hJ' => ?_
    have e : IntKind.i64.wrap ((n : Int) + 1) = ((n + 1 : Nat) : Int) := wrapIn _ (by omega)
    rw [e]
    exact ⟨⟨n + 1, rfl, h, hJ'⟩, by show ((len : Int) - (n + 1 : Nat)).toNat < ((len : Int) - n).toNat; omega⟩
  · have : n = len := by omega
    subst this
    exact hend _ _ hJ
/-- The same, where something else changes, too. -/
theorem up_loop2 {S : Type} {B : ((Int × Unit) × S × Unit → Prop) → ((Int × Unit) × S × Unit → Nat) → (Int × Unit) × S × Unit → Prop} (len : Nat) (hlen : len ≤ 9223372036854775807) (J : Nat → S → Prop) {s0 : S} (h0 : J 0 s0)
    (hstep : ∀ I μ (n : Nat) (s : S), n < len → J n s → (∀ s', J (n + 1) s' → I ((IntKind.i64.wrap ((n : Int) + 1), ()), s', ()) ∧ μ ((IntKind.i64.wrap ((n : Int) + 1), ()), s', ()) < μ (((n : Int), ()), s, ())) → B I μ (((n : Int), ()), s, ()))
    (hend : ∀ I μ s, J len s → B I μ (((len : Int), ()), s, ())) : ∃ I, ∃ μ, I (((0 : Int), ()), s0, ()) ∧ ∀ y, I y → B I μ y := by
  refine ⟨fun y => ∃ n : Nat, y.1.1 = n ∧ n ≤ len ∧ J n y.2.1, fun y => ((len : Int) - y.1.1).toNat, ⟨0, rfl, Nat.zero_le _, h0⟩, ?_⟩
  rintro ⟨⟨_, ⟨⟩⟩, s, ⟨⟩⟩ ⟨n, rfl, hn, hJ⟩
  rcases Nat.lt_or_ge n len with h | h
  · refine hstep _ _ n s h hJ fun s' hJ' => ?_
    have e : IntKind.i64.wrap ((n : Int) + 1) = ((n + 1 : Nat) : Int) := wrapIn _ (by omega)
    rw [e]
    exact ⟨⟨n + 1, rfl, h, hJ'⟩, by show ((len : Int) - (n + 1 : Nat)).toNat < ((len : Int) - n).toNat; omega⟩
  · have : n = len := by omega
    subst this
    exact hend _ _ s hJ
/-- The same, where the state is of any form. -/
theorem up_loopG {Y S : Type} (mk : Int → S → Y) (idx : Y → Int) (hidx : ∀ i s, idx (mk i s) = i) {B : (Y → Prop) → (Y → Nat) → Y → Prop} (len : Nat) (hlen : len ≤ 9223372036854775807) (J : Nat → S → Prop) {s0 : S} (h0 : J 0 s0)
    (hstep : ∀ I μ (n : Nat) (s : S), n < len → J n s → (∀ s', J (n + 1) s' → I (mk (IntKind.i64.wrap ((n : Int) + 1)) s') ∧ μ (mk (IntKind.i64.wrap ((n : Int) + 1)) s') < μ (mk n s)) → B I μ (mk n s))
    (hend : ∀ I μ s, J len s → B I μ (mk len s)) : ∃ I, ∃ μ, I (mk 0 s0) ∧ ∀ y, I y → B I μ y := by
  refine ⟨fun y => ∃ (n : Nat) (s : S), y = mk n s ∧ n ≤ len ∧ J n s, fun y => ((len : Int) - idx y).toNat, ⟨0, s0, rfl, Nat.zero_le _, h0⟩, ?_⟩
  rintro _ ⟨n, s, rfl, hn, hJ⟩
  rcases Nat.lt_or_ge n len with h | h
  · refine hstep _ _ n s h hJ fun s' hJ' => ?_
    have e : IntKind.i64.wrap ((n : Int) + 1) = ((n + 1 : Nat) : Int) := wrapIn _ (by omega)
    rw [e]
    refine ⟨⟨n + 1, s', rfl, h, hJ'⟩, ?_⟩
    show ((len : Int) - idx (mk (n + 1 : Nat) s')).toNat < ((len : Int) - idx (mk n s)).toNat
    rw [hidx, hidx]
    omega
  · have : n = len := by omega
    subst this
    exact hend _ _ s hJ
theorem allUpto_false {len : Nat} {f : Nat → Bool} {n : Nat} (hn : n < len) (h : f n = false) : Sp.allUpto len f = false := by
  unfold Sp.allUpto
  rw [List.all_eq_false]
  exact ⟨n, List.mem_range.2 hn, by rw [h]; simp⟩
theorem allUpto_true {len : Nat} {f : Nat → Bool} (h : ∀ i, i < len → f i = true) : Sp.allUpto len f = true := by
  unfold Sp.allUpto
  rw [List.all_eq_true]
  exact fun i hi => h i (List.mem_range.1 hi)
theorem allUpto_iff {len : Nat} {f : Nat → Bool} : Sp.allUpto len f = true ↔ ∀ i, i < len → f i = true := by
  unfold Sp.allUpto
  rw [List.all_eq_true]
  exact ⟨fun h i hi => h i (List.mem_range.2 hi), fun h i hi => h i (List.mem_range.1 hi)⟩
theorem all_upto_next {n : Nat} {f : Nat → Bool} (h : ∀ i, i < n → f i = true) (hn : f n = true) : ∀ i, i < n + 1 → f i = true := fun i hi => by
  rcases Nat.lt_or_ge i n with h' | h'
  · exact h i h'
  · have : i = n := by omega
    rw [this]; exact hn
theorem notT {b : Bool} (h : (!b) = true) : b = false := by cases b <;> first | rfl | cases h
theorem notF {b : Bool} (h : (!b) = false) : b = true := by cases b <;> first | rfl | cases h
theorem decT {p : Prop} [Decidable p] (h : decide p = true) : p := of_decide_eq_true h
theorem decF {p : Prop} [Decidable p] (h : decide p = false) : ¬ p := of_decide_eq_false h
theorem pred_in {n : Nat} (h : 0 < n) (hn : n ≤ 9223372036854775807) : IntKind.i64.wrap ((n : Int) - 1) = ((n - 1 : Nat) : Int) := by rw [wrapIn _ (by omega)]; omega
theorem list_eq_getD {α : Type} {d : α} {a b : List α} (hl : a.length = b.length) (h : ∀ i, i < a.length → a.getD i d = b.getD i d) : a = b := by
  refine List.ext_getElem hl fun i h1 h2 => ?_
  have := h i h1
  rw [List.getD_eq_getElem?_getD, List.getD_eq_getElem?_getD, List.getElem?_eq_getElem h1, List.getElem?_eq_getElem h2] at this
  simpa using this
/-- Two lists are compared, place by place. -/
theorem eq_loop {α β : Type} (e : α → α → Bool) (he : ∀ x y, e x y = false ↔ x = y) (d : α) (a b : List α) (t : β) (hlen : a.length ≤ 9223372036854775807) (hl : a.length = b.length) {K : Bool × Unit → Prop} (hF : a ≠ b → K (false, ())) (hT : a = b → K (true, ())) :
    ∃ (I : (Int × Unit) × Unit → Prop), ∃ (μ : (Int × Unit) × Unit → Nat), I (((0 : Int), ()), ()) ∧ ∀ (y : (Int × Unit) × Unit), I y →
      bif decide (y.fst.fst < (a.length : Int)) then
        ((0 : Int) ≤ y.fst.fst ∧ y.fst.fst < (a.length : Int)) ∧ ((0 : Int) ≤ y.fst.fst ∧ y.fst.fst < (b.length : Int)) ∧
          (bif e (a.getD (Int.toNat y.fst.fst) d) (b.getD (Int.toNat y.fst.fst) d) then K (false, ())
          else t = t ∧ I ((IntKind.i64.wrap (y.fst.fst + (1 : Int)), ()), ()) ∧ μ ((IntKind.i64.wrap (y.fst.fst + (1 : Int)), ()), ()) < μ y)
      else K (true, ()) := by
  refine up_loop a.length hlen (fun n => ∀ i, i < n → a.getD i d = b.getD i d) (fun i hi => by omega) (fun I μ n hn hJ next => ?_) fun I μ hJ => (by dsimp only; exact condF (by omega) (hT (list_eq_getD hl hJ)))
  dsimp only
  refine condT (by omega) ⟨⟨by omega, by omega⟩, ⟨by omega, by omega⟩, cond_intro (fun h => hF fun h' => ?_) fun h => ⟨rfl, next fun i hi => ?_⟩⟩
  · subst h'
    have := (he (a.getD n d) (a.getD n d)).2 rfl
    have h : e (a.getD n d) (a.getD n d) = true := h
    rw [this] at h; cases h
  · rcases Nat.lt_or_ge i n with h' | h'
    · exact hJ i h'
    · have : i = n := by omega
      rw [this]; exact (he _ _).1 h
theorem eq_loopT {α β : Type} (e : α → α → Bool) (he : ∀ x y, e x y = false ↔ x = y) (d : α) (a b : List α) (t : β) (hlen : a.length ≤ 9223372036854775807) (hl : a.length = b.length) {K : Bool × Unit → Prop} (hF : a ≠ b → K (false, ())) (hT : a = b → K (true, ())) :
    ∃ (I : (Int × Unit) × Unit → Prop), ∃ (μ : (Int × Unit) × Unit → Nat), I (((0 : Int), ()), ()) ∧ ∀ (y : (Int × Unit) × Unit), I y →
      bif decide (y.fst.fst < (a.length : Int)) then
        ((0 : Int) ≤ y.fst.fst ∧ y.fst.fst < (a.length : Int)) ∧ ((0 : Int) ≤ y.fst.fst ∧ y.fst.fst < (b.length : Int)) ∧ True ∧
          (bif e (a.getD (Int.toNat y.fst.fst) d) (b.getD (Int.toNat y.fst.fst) d) then K (false, ())
          else t = t ∧ I ((IntKind.i64.wrap (y.fst.fst + (1 : Int)), ()), ()) ∧ μ ((IntKind.i64.wrap (y.fst.fst + (1 : Int)), ()), ()) < μ y)
      else K (true, ()) := by
  refine up_loop a.length hlen (fun n => ∀ i, i < n → a.getD i d = b.getD i d) (fun i hi => by omega) (fun I μ n hn hJ next => ?_) fun I μ hJ => (by dsimp only; exact condF (by omega) (hT (list_eq_getD hl hJ)))
  dsimp only
  refine condT (by omega) ⟨⟨by omega, by omega⟩, ⟨by omega, by omega⟩, trivial, cond_intro (fun h => hF fun h' => ?_) fun h => ⟨rfl, next fun i hi => ?_⟩⟩
  · subst h'
    have := (he (a.getD n d) (a.getD n d)).2 rfl
    have h : e (a.getD n d) (a.getD n d) = true := h
    rw [this] at h; cases h
  · rcases Nat.lt_or_ge i n with h' | h'
    · exact hJ i h'
    · have : i = n := by omega
      rw [this]; exact (he _ _).1 h
end Go.Fw
/- Plain laws of schemas, files and stores. -/
namespace Sp
open Go Go.Fw
theorem kindOf_at {name : Bytes} : ∀ (s : List DField) (n : Nat), n < s.length → (∀ i, i < n → (s.getD i ([], 0, ())).1 ≠ name) → (s.getD n ([], 0, ())).1 = name → kindOf s name = (s.getD n ([], 0, ())).2.1
  | [], n, h, _, _ => by simp at h
  | f :: r, 0, _, _, he => by
    have he : f.1 = name := he
    show (bif decide (f.1 = name) then f.2.1 else kindOf r name) = f.2.1
    rw [decide_eq_true he]; rfl
  | f :: r, n + 1, h, hne, he => by
    have h0 : f.1 ≠ name := hne 0 (by omega)
    show (bif decide (f.1 = name) then f.2.1 else kindOf r name) = _
    rw [decide_eq_false h0]
    exact kindOf_at r n (by simpa using h) (fun i hi => hne (i + 1) (by omega)) he
theorem kindOf_none {name : Bytes} : ∀ (s : List DField), (∀ i, i < s.length → (s.getD i ([], 0, ())).1 ≠ name) → kindOf s name = 0
  | [], _ => rfl
  | f :: r, hne => by
    have h0 : f.1 ≠ name := hne 0 (by simp)
    show (bif decide (f.1 = name) then f.2.1 else kindOf r name) = _
    rw [decide_eq_false h0]
    exact kindOf_none r fun i hi => hne (i + 1) (by simp; omega)
theorem placeFrom_at {id : Int} : ∀ (s : List DFile) (k : Int) (n : Nat), n < s.length → (∀ i, i < n → (fileAt s i).1 ≠ id) → (fileAt s n).1 = id → placeFrom k s id = k + n
  | [], _, n, h, _, _ => by simp at h
  | f :: r, k, 0, _, _, he => by
    have he : f.1 = id := he
    show (bif decide (f.1 = id) then k else placeFrom (k + 1) r id) = _
    rw [decide_eq_true he]; simp
  | f :: r, k, n + 1, h, hne, he => by
    have h0 : f.1 ≠ id := hne 0 (by omega)
    show (bif decide (f.1 = id) then k else placeFrom (k + 1) r id) = _
    rw [decide_eq_false h0]
    show placeFrom (k + 1) r id = _
    rw [placeFrom_at r (k + 1) n (by simpa using h) (fun i hi => hne (i + 1) (by omega)) he]
    omega
theorem placeFrom_none {id : Int} : ∀ (s : List DFile) (k : Int), (∀ i, i < s.length → (fileAt s i).1 ≠ id) → placeFrom k s id = -1
  | [], _, _ => rfl
  | f :: r, k, hne => by
    have h0 : f.1 ≠ id := hne 0 (by simp)
    show (bif decide (f.1 = id) then k else placeFrom (k + 1) r id) = _
    rw [decide_eq_false h0]
    exact placeFrom_none r (k + 1) fun i hi => hne (i + 1) (by simp; omega)
theorem place_at {id : Int} {s : List DFile} {n : Nat} (h : n < s.length) (hne : ∀ i, i < n → (fileAt s i).1 ≠ id) (he : (fileAt s n).1 = id) : place s id = n := by
  unfold place
  rw [placeFrom_at s 0 n h hne he]; omega
theorem place_none {id : Int} {s : List DFile} (hne : ∀ i, i < s.length → (fileAt s i).1 ≠ id) : place s id = -1 := placeFrom_none s 0 hne
/-- Either no file bears the number, or the first that does is found. -/
theorem place_cases (s : List DFile) (id : Int) : (place s id = -1 ∧ ∀ i, i < s.length → (fileAt s i).1 ≠ id) ∨ ∃ n, n < s.length ∧ place s id = n ∧ (fileAt s n).1 = id ∧ ∀ i, i < n → (fileAt s i).1 ≠ id := by
  by_cases h : ∃ n, n < s.length ∧ (fileAt s n).1 = id
  · obtain ⟨n, h1, h2, h3⟩ := (least s.length (p := fun n => (fileAt s n).1 = id) h)
    exact .inr ⟨n, h1, place_at h1 (fun i hi => h3 i hi) h2, h2, fun i hi => h3 i hi⟩
  · have hne : ∀ i, i < s.length → (fileAt s i).1 ≠ id := fun i hi e => h ⟨i, hi, e⟩
    exact .inl ⟨place_none hne, hne⟩
theorem placeFrom_ids : ∀ (a b : List DFile) (k : Int) (id : Int), a.map (·.1) = b.map (·.1) → placeFrom k a id = placeFrom k b id
  | [], [], _, _, _ => rfl
  | [], _ :: _, _, _, h => by simp at h
  | _ :: _, [], _, _, h => by simp at h
  | f :: a, g :: b, k, id, h => by
    simp only [List.map_cons, List.cons.injEq] at h
    show (bif decide (f.1 = id) then k else placeFrom (k + 1) a id) = bif decide (g.1 = id) then k else placeFrom (k + 1) b id
    rw [h.1, placeFrom_ids a b (k + 1) id h.2]
theorem place_ids {a b : List DFile} (id : Int) (h : a.map (·.1) = b.map (·.1)) : place a id = place b id := placeFrom_ids a b 0 id h
theorem okSchema_no {s : List DField} {n : Nat} (h : n < s.length) (hn : okFieldAt s n = false) : okSchema s = false := by
  unfold okSchema; rw [allUpto_false h hn]; rfl
theorem okAttrs_no {fs : List DField} {s : List DAttr} {n : Nat} (h : n < s.length) (hn : okAttrAt fs s n = false) : okAttrs fs s = false := allUpto_false h hn
theorem okFile_no {fs : List DField} {f : DFile} {n : Nat} (h : n < f.2.2.2.2.1.length) (hn : okAttrAt fs f.2.2.2.2.1 n = false) : okFile fs f = false := by
  unfold okFile; rw [okAttrs_no h hn]; rfl
theorem okStore_no {s : DStore} {n : Nat} (h : n < s.2.1.length) (hn : okFileAt s n = false) : okStore s = false := by
  unfold okStore; rw [allUpto_false h hn]; rfl
theorem okFileAt_iff {s : DStore} {i : Nat} : okFileAt s i = true ↔ okFile s.1 (fileAt s.2.1 i) = true ∧ (fileAt s.2.1 i).1 < s.2.2.1 ∧ (0 < i → (fileAt s.2.1 (i - 1)).1 < (fileAt s.2.1 i).1) := by
  unfold okFileAt
  rw [Bool.and_eq_true, Bool.and_eq_true, decide_eq_true_eq, and_assoc]
  refine and_congr_right fun _ => and_congr_right fun _ => ?_
  by_cases h : 0 < i
  · simp [h]
  · simp [h]
theorem okStore_iff {s : DStore} : okStore s = true ↔ (∀ i, i < s.2.1.length → okFileAt s i = true) ∧ okSchema s.1 = true ∧ s.2.1.length ≤ 12 ∧ 1 ≤ s.2.2.1 ∧ s.2.2.1 ≤ 61 := by
  unfold okStore
  rw [Bool.and_eq_true, Bool.and_eq_true, Bool.and_eq_true, Bool.and_eq_true, decide_eq_true_eq, decide_eq_true_eq, decide_eq_true_eq, allUpto_iff]
  constructor
  · rintro ⟨⟨⟨h1, h2⟩, h3⟩, h4, h5⟩; exact ⟨h1, h2, by omega, h4, h5⟩
  · rintro ⟨h1, h2, h3, h4, h5⟩; exact ⟨⟨⟨h1, h2⟩, by omega⟩, h4, h5⟩
theorem okFile_id {fs : List DField} {f : DFile} (h : okFile fs f = true) : 1 ≤ f.1 ∧ f.1 ≤ 60 := by
  unfold okFile at h
  simp only [Bool.and_eq_true, decide_eq_true_eq] at h
  exact h.1.1.2
theorem fileAt_left {fs : List DFile} {g : DFile} {i : Nat} (h : i < fs.length) : fileAt (fs ++ [g]) i = fileAt fs i := by
  unfold fileAt
  rw [List.getD_eq_getElem?_getD, List.getElem?_append_left h, ← List.getD_eq_getElem?_getD]
theorem fileAt_last {fs : List DFile} {g : DFile} : fileAt (fs ++ [g]) fs.length = g := by
  unfold fileAt
  rw [List.getD_eq_getElem?_getD, List.getElem?_append_right (Nat.le_refl _)]; simp
theorem okStore_more {s : DStore} {g : DFile} (h : okStore s = true) (hl : s.2.1.length < 12) (hg : okFile s.1 g = true) (hid : g.1 = s.2.2.1) : okStore (s.1, s.2.1 ++ [g], s.2.2.1 + 1, ()) = true := by
  obtain ⟨h1, h2, h3, h4, h5⟩ := okStore_iff.1 h
  have hg1 := okFile_id hg
  refine okStore_iff.2 ⟨fun i hi => ?_, h2, by show (s.2.1 ++ [g]).length ≤ 12; simp; omega, by show 1 ≤ s.2.2.1 + 1; omega, by show s.2.2.1 + 1 ≤ 61; omega⟩
  have hi : i < (s.2.1 ++ [g]).length := hi
  rw [List.length_append, List.length_cons, List.length_nil] at hi
  refine okFileAt_iff.2 ?_
  show okFile s.1 (fileAt (s.2.1 ++ [g]) i) = true ∧ (fileAt (s.2.1 ++ [g]) i).1 < s.2.2.1 + 1 ∧ (0 < i → (fileAt (s.2.1 ++ [g]) (i - 1)).1 < (fileAt (s.2.1 ++ [g]) i).1)
  rcases Nat.lt_or_ge i s.2.1.length with hlt | hge
  · obtain ⟨k1, k2, k3⟩ := okFileAt_iff.1 (h1 i hlt)
    rw [fileAt_left hlt]
    refine ⟨k1, by omega, fun h0 => ?_⟩
    rw [fileAt_left (by omega)]
    exact k3 h0
  · have e : i = s.2.1.length := by omega
    subst e
    rw [fileAt_last]
    refine ⟨hg, by omega, fun h0 => ?_⟩
    rw [fileAt_left (by omega)]
    have := (okFileAt_iff.1 (h1 (s.2.1.length - 1) (by omega))).2.1
    omega
theorem createFile_cases (s : DStore) (f : DFile) : (createFile s f = (s, 0, false) ∧ ¬ (okStore s = true ∧ s.2.1.length < 12 ∧ okFile s.1 (s.2.2.1, f.2) = true)) ∨
    (okStore s = true ∧ s.2.1.length < 12 ∧ okFile s.1 (s.2.2.1, f.2) = true ∧ createFile s f = ((s.1, s.2.1 ++ [(s.2.2.1, f.2)], s.2.2.1 + 1, ()), s.2.2.1, true)) := by
  by_cases h : okStore s = true ∧ s.2.1.length < 12 ∧ okFile s.1 (s.2.2.1, f.2) = true
  · right
    refine ⟨h.1, h.2.1, h.2.2, ?_⟩
    unfold createFile
    dsimp only
    rw [h.1, h.2.2, decide_eq_true (by omega)]; rfl
  · left
    refine ⟨?_, h⟩
    have : (okStore s && decide ((s.2.1.length : Int) < 12) && okFile s.1 (s.2.2.1, f.2)) = false := by
      cases hb : (okStore s && decide ((s.2.1.length : Int) < 12) && okFile s.1 (s.2.2.1, f.2)) with
      | false => rfl
      | true =>
        simp only [Bool.and_eq_true, decide_eq_true_eq] at hb
        exact (h ⟨hb.1.1, by omega, hb.2⟩).elim
    unfold createFile
    dsimp only
    rw [this]; rfl
theorem okStore_create {s : DStore} (f : DFile) (h : okStore s = true) : okStore (createFile s f).1 = true := by
  rcases createFile_cases s f with ⟨e, _⟩ | ⟨h1, h2, h3, e⟩
  · rw [e]; exact h
  · rw [e]; exact okStore_more h1 h2 h3 rfl
theorem smallS_create {s : DStore} {f : DFile} (h : smallS s) (hf : smallF f) : smallS (createFile s f).1 := by
  rcases createFile_cases s f with ⟨e, _⟩ | ⟨h1, h2, h3, e⟩
  · rw [e]; exact h
  · rw [e]
    refine ⟨h.1, by show (s.2.1 ++ [(s.2.2.1, f.2)]).length ≤ 1000; simp; omega, fun g hg => ?_⟩
    have hg : g ∈ s.2.1 ++ [(s.2.2.1, f.2)] := hg
    rcases List.mem_append.1 hg with hg | hg
    · exact h.2.2 g hg
    · have : g = (s.2.2.1, f.2) := by simpa using hg
      subst this; exact hf
theorem deleteFile_cases (s : DStore) (id : Int) : (deleteFile s id = (s, false) ∧ ¬ (okStore s = true ∧ 0 ≤ place s.2.1 id)) ∨
    ∃ n, n < s.2.1.length ∧ place s.2.1 id = n ∧ okStore s = true ∧ deleteFile s id = ((s.1, s.2.1.eraseIdx n, s.2.2.1, ()), true) := by
  rcases place_cases s.2.1 id with ⟨h, _⟩ | ⟨n, hn, h, _, _⟩
  · left
    refine ⟨?_, fun h' => by omega⟩
    unfold deleteFile
    rw [h]; simp
  · cases ho : okStore s with
    | false =>
      left
      refine ⟨?_, fun h' => by cases h'.1⟩
      unfold deleteFile
      rw [ho]; rfl
    | true =>
      right
      refine ⟨n, hn, h, rfl, ?_⟩
      unfold deleteFile
      rw [ho, h, decide_eq_false (by omega), Int.toNat_natCast]; rfl
theorem fileAt_erase {fs : List DFile} {n i : Nat} : fileAt (fs.eraseIdx n) i = if i < n then fileAt fs i else fileAt fs (i + 1) := by
  unfold fileAt
  rw [List.getD_eq_getElem?_getD, List.getElem?_eraseIdx]
  split <;> rw [List.getD_eq_getElem?_getD]
theorem okStore_erase {s : DStore} {n : Nat} (h : okStore s = true) (hn : n < s.2.1.length) : okStore (s.1, s.2.1.eraseIdx n, s.2.2.1, ()) = true := by
  obtain ⟨h1, h2, h3, h4, h5⟩ := okStore_iff.1 h
  have hlen : (s.2.1.eraseIdx n).length = s.2.1.length - 1 := List.length_eraseIdx_of_lt hn
  refine okStore_iff.2 ⟨fun i hi => ?_, h2, by show (s.2.1.eraseIdx n).length ≤ 12; omega, h4, h5⟩
  have hi : i < (s.2.1.eraseIdx n).length := hi
  refine okFileAt_iff.2 ?_
  show okFile s.1 (fileAt (s.2.1.eraseIdx n) i) = true ∧ (fileAt (s.2.1.eraseIdx n) i).1 < s.2.2.1 ∧ (0 < i → (fileAt (s.2.1.eraseIdx n) (i - 1)).1 < (fileAt (s.2.1.eraseIdx n) i).1)
  rw [fileAt_erase, fileAt_erase]
  rcases Nat.lt_or_ge i n with hlt | hge
  · rw [if_pos hlt]
    obtain ⟨k1, k2, k3⟩ := okFileAt_iff.1 (h1 i (by omega))
    refine ⟨k1, k2, fun h0 => ?_⟩
    rw [if_pos (by omega)]
    exact k3 h0
  · rw [if_neg (by omega)]
    obtain ⟨k1, k2, k3⟩ := okFileAt_iff.1 (h1 (i + 1) (by omega))
    refine ⟨k1, k2, fun h0 => ?_⟩
    have k3 := k3 (by omega)
    rw [Nat.add_sub_cancel] at k3
    split
    · have := (okFileAt_iff.1 (h1 i (by omega))).2.2 h0
      omega
    · rw [show i - 1 + 1 = i by omega]
      exact k3
theorem okStore_delete {s : DStore} (id : Int) (h : okStore s = true) : okStore (deleteFile s id).1 = true := by
  rcases deleteFile_cases s id with ⟨e, _⟩ | ⟨n, hn, _, ho, e⟩
  · rw [e]; exact h
  · rw [e]; exact okStore_erase ho hn
theorem smallS_delete {s : DStore} (id : Int) (h : smallS s) : smallS (deleteFile s id).1 := by
  rcases deleteFile_cases s id with ⟨e, _⟩ | ⟨n, hn, _, ho, e⟩
  · rw [e]; exact h
  · rw [e]
    refine ⟨h.1, ?_, fun g hg => h.2.2 g (List.mem_of_mem_eraseIdx hg)⟩
    show (s.2.1.eraseIdx n).length ≤ 1000
    have := h.2.1
    rw [List.length_eraseIdx_of_lt hn]; omega
theorem replaceFile_cases (s : DStore) (f : DFile) : (replaceFile s f = (s, false) ∧ ¬ (okStore s = true ∧ 0 ≤ place s.2.1 f.1 ∧ okFile s.1 f = true)) ∨
    ∃ n, n < s.2.1.length ∧ place s.2.1 f.1 = n ∧ okStore s = true ∧ okFile s.1 f = true ∧ replaceFile s f = ((s.1, s.2.1.set n f, s.2.2.1, ()), true) := by
  rcases place_cases s.2.1 f.1 with ⟨h, _⟩ | ⟨n, hn, h, _, _⟩
  · left
    refine ⟨?_, fun h' => by omega⟩
    unfold replaceFile
    rw [h]; simp
  · cases ho : okStore s with
    | false =>
      left
      refine ⟨?_, fun h' => by cases h'.1⟩
      unfold replaceFile
      rw [ho]; rfl
    | true =>
      cases hf : okFile s.1 f with
      | false =>
        left
        refine ⟨?_, fun h' => by cases h'.2.2⟩
        unfold replaceFile
        rw [hf, Bool.and_false]; rfl
      | true =>
        right
        refine ⟨n, hn, h, rfl, rfl, ?_⟩
        unfold replaceFile
        rw [ho, hf, h, decide_eq_false (by omega), Int.toNat_natCast]; rfl
theorem smallS_replace {s : DStore} {f : DFile} (h : smallS s) (hf : smallF f) : smallS (replaceFile s f).1 := by
  rcases replaceFile_cases s f with ⟨e, _⟩ | ⟨n, hn, _, ho, _, e⟩
  · rw [e]; exact h
  · rw [e]
    refine ⟨h.1, by show (s.2.1.set n f).length ≤ 1000; rw [List.length_set]; exact h.2.1, fun g hg => ?_⟩
    rcases List.mem_or_eq_of_mem_set hg with hg | rfl
    · exact h.2.2 g hg
    · exact hf
theorem mem_fileAt {s : List DFile} {f : DFile} (h : f ∈ s) : ∃ i, i < s.length ∧ fileAt s i = f := by
  obtain ⟨i, hi, rfl⟩ := List.getElem_of_mem h
  refine ⟨i, hi, ?_⟩
  unfold fileAt
  rw [List.getD_eq_getElem?_getD, List.getElem?_eq_getElem hi]; rfl
theorem fileAt_mem {s : List DFile} {i : Nat} (h : i < s.length) : fileAt s i ∈ s := getD_mem h
theorem place_neg (s : List DFile) (id : Int) : place s id < 0 ↔ ∀ f ∈ s, f.1 ≠ id := by
  rcases place_cases s id with ⟨h, h2⟩ | ⟨n, hn, h, h2, _⟩
  · refine ⟨fun _ f hf => ?_, fun _ => by omega⟩
    obtain ⟨i, hi, rfl⟩ := mem_fileAt hf
    exact h2 i hi
  · refine ⟨fun h' => by omega, fun h' => (h' _ (fileAt_mem hn) h2).elim⟩
theorem findFile_snd (s : DStore) (id : Int) : (findFile s id).2 = !decide (place s.2.1 id < 0) := by
  unfold findFile
  cases decide (place s.2.1 id < 0) <;> rfl
theorem findFile_found (s : DStore) (id : Int) : (findFile s id).2 = true ↔ ∃ f ∈ s.2.1, f.1 = id := by
  rw [findFile_snd, Bool.not_eq_true', decide_eq_false_iff_not, place_neg]
  constructor
  · intro h
    refine Classical.byContradiction fun hno => h fun f hf e => hno ⟨f, hf, e⟩
  · rintro ⟨f, hf, e⟩ h
    exact h f hf e
theorem ids_lt {s : DStore} (h : okStore s = true) : ∀ (j i : Nat), i < j → j < s.2.1.length → (fileAt s.2.1 i).1 < (fileAt s.2.1 j).1
  | 0, i, hi, _ => by omega
  | j + 1, i, hi, hj => by
    have h1 := (okFileAt_iff.1 ((okStore_iff.1 h).1 (j + 1) hj)).2.2 (by omega)
    rw [Nat.add_sub_cancel] at h1
    rcases Nat.lt_or_ge i j with h2 | h2
    · have := ids_lt h j i h2 (by omega)
      omega
    · have : i = j := by omega
      rw [this]; exact h1
theorem ids_inj {s : DStore} (h : okStore s = true) {f g : DFile} (hf : f ∈ s.2.1) (hg : g ∈ s.2.1) (e : f.1 = g.1) : f = g := by
  obtain ⟨i, hi, rfl⟩ := mem_fileAt hf
  obtain ⟨j, hj, rfl⟩ := mem_fileAt hg
  rcases Nat.lt_trichotomy i j with h1 | h1 | h1
  · have := ids_lt h j i h1 hj; omega
  · rw [h1]
  · have := ids_lt h i j h1 hi; omega
theorem unlink_ids (fs gs : List DFile) : (fs.map (unlink gs)).map (·.1) = fs.map (·.1) := by rw [List.map_map]; rfl
theorem visible_small {s : DStore} (u : Int) (h : smallS s) : smallS (visible s u) := by
  obtain ⟨h0, h1, h2⟩ := h
  refine ⟨h0, ?_, fun f hf => ?_⟩
  · show ((s.2.1.filter (canRead · u)).map _).length ≤ 1000
    rw [List.length_map]
    have := List.length_filter_le (canRead · u) s.2.1
    omega
  · have hf : f ∈ (s.2.1.filter (canRead · u)).map (unlink (s.2.1.filter (canRead · u))) := hf
    obtain ⟨g, hg, rfl⟩ := List.mem_map.1 hf
    exact h2 g (List.mem_filter.1 hg).1
/-- Of a valid store just the readable files are seen. -/
theorem visible_read {s : DStore} (u : Int) (h : okStore s = true) {f : DFile} (hf : f ∈ s.2.1) : (findFile (visible s u) f.1).2 = canRead f u := by
  rw [Bool.eq_iff_iff, findFile_found]
  constructor
  · rintro ⟨g, hg, e⟩
    have hg : g ∈ (s.2.1.filter (canRead · u)).map (unlink (s.2.1.filter (canRead · u))) := hg
    obtain ⟨k, hk, rfl⟩ := List.mem_map.1 hg
    obtain ⟨k1, k2⟩ := List.mem_filter.1 hk
    have e : k.1 = f.1 := e
    rw [← ids_inj h k1 hf e]; exact k2
  · intro hr
    exact ⟨unlink (s.2.1.filter (canRead · u)) f, List.mem_map.2 ⟨f, List.mem_filter.2 ⟨hf, hr⟩, rfl⟩, rfl⟩
/-- No link leads to a hidden file. -/
theorem visible_link {s : DStore} (u : Int) {g : DFile} (hg : g ∈ (visible s u).2.1) (hne : g.2.2.2.1 ≠ 0) : (findFile (visible s u) g.2.2.2.1).2 = true := by
  have hg' : g ∈ (s.2.1.filter (canRead · u)).map (unlink (s.2.1.filter (canRead · u))) := hg
  obtain ⟨k, hk, rfl⟩ := List.mem_map.1 hg'
  rw [findFile_snd, Bool.not_eq_true', decide_eq_false_iff_not]
  show ¬ place ((s.2.1.filter (canRead · u)).map (unlink (s.2.1.filter (canRead · u)))) (unlink (s.2.1.filter (canRead · u)) k).2.2.2.1 < 0
  rw [place_ids _ (unlink_ids _ _)]
  intro h
  apply hne
  show (bif decide (place (s.2.1.filter (canRead · u)) k.2.2.2.1 < 0) then 0 else k.2.2.2.1) = (0 : Int)
  have h : place (s.2.1.filter (canRead · u)) (bif decide (place (s.2.1.filter (canRead · u)) k.2.2.2.1 < 0) then 0 else k.2.2.2.1) < 0 := h
  cases hd : decide (place (s.2.1.filter (canRead · u)) k.2.2.2.1 < 0) with
  | true => rfl
  | false => rw [hd] at h; exact (of_decide_eq_false hd h).elim
theorem unlink_again (fs : List DFile) (f : DFile) : unlink (fs.map (unlink fs)) (unlink fs f) = unlink fs f := by
  have e : place (fs.map (unlink fs)) (unlink fs f).2.2.2.1 = place fs (unlink fs f).2.2.2.1 := place_ids _ (unlink_ids fs fs)
  show ((unlink fs f).1, (unlink fs f).2.1, (unlink fs f).2.2.1, (bif decide (place (fs.map (unlink fs)) (unlink fs f).2.2.2.1 < 0) then 0 else (unlink fs f).2.2.2.1), (unlink fs f).2.2.2.2.1, ()) = unlink fs f
  rw [e]
  have hl : (unlink fs f).2.2.2.1 = bif decide (place fs f.2.2.2.1 < 0) then 0 else f.2.2.2.1 := rfl
  cases hd : decide (place fs f.2.2.2.1 < 0) with
  | true =>
    have hl0 : (unlink fs f).2.2.2.1 = 0 := by rw [hl, hd]; rfl
    have : (bif decide (place fs (unlink fs f).2.2.2.1 < 0) then 0 else (unlink fs f).2.2.2.1) = (unlink fs f).2.2.2.1 := by
      rw [hl0]; cases decide (place fs 0 < 0) <;> rfl
    rw [this]
  | false =>
    have hl1 : (unlink fs f).2.2.2.1 = f.2.2.2.1 := by rw [hl, hd]; rfl
    have : (bif decide (place fs (unlink fs f).2.2.2.1 < 0) then 0 else (unlink fs f).2.2.2.1) = (unlink fs f).2.2.2.1 := by
      rw [hl1, hd]; rfl
    rw [this]
theorem visible_again (s : DStore) (u : Int) : visible (visible s u) u = visible s u := by
  have hf : ((visible s u).2.1).filter (canRead · u) = (visible s u).2.1 := by
    refine List.filter_eq_self.2 fun g hg => ?_
    have hg : g ∈ (s.2.1.filter (canRead · u)).map (unlink (s.2.1.filter (canRead · u))) := hg
    obtain ⟨k, hk, rfl⟩ := List.mem_map.1 hg
    exact (List.mem_filter.1 hk).2
  show ((visible s u).1, (((visible s u).2.1).filter (canRead · u)).map (unlink (((visible s u).2.1).filter (canRead · u))), (visible s u).2.2.1, ()) = visible s u
  rw [hf]
  show (s.1, ((s.2.1.filter (canRead · u)).map (unlink (s.2.1.filter (canRead · u)))).map (unlink ((s.2.1.filter (canRead · u)).map (unlink (s.2.1.filter (canRead · u))))), s.2.2.1, ()) = (s.1, (s.2.1.filter (canRead · u)).map (unlink (s.2.1.filter (canRead · u))), s.2.2.1, ())
  rw [List.map_map]
  congr 2
  refine List.map_congr_left fun f _ => unlink_again _ f
theorem write_read (f : DFile) (u : Int) (h : canWrite f u = true) : canRead f u = true := by
  unfold canWrite at h
  unfold canRead
  rw [Bool.and_eq_true] at h
  rw [h.1, h.2]; rfl
theorem takeWhile_at {α : Type} {p : α → Bool} {d : α} : ∀ (l : List α) (n : Nat), n ≤ l.length → (∀ i, i < n → p (l.getD i d) = true) → (n < l.length → p (l.getD n d) = false) → l.takeWhile p = l.take n ∧ l.dropWhile p = l.drop n
  | [], n, h, _, _ => by simp
  | x :: r, 0, _, _, h => by
    have h : p x = false := h (by simp)
    constructor <;> simp [h]
  | x :: r, n + 1, hn, h1, h2 => by
    have h0 : p x = true := h1 0 (by omega)
    have := takeWhile_at r n (by simpa using hn) (fun i hi => h1 (i + 1) (by omega)) fun hlt => h2 (by simpa using hlt)
    constructor <;> simp [h0, this.1, this.2]
theorem fileAt_set {fs : List DFile} {n i : Nat} {f : DFile} (hn : n < fs.length) : fileAt (fs.set n f) i = if n = i then f else fileAt fs i := by
  unfold fileAt
  rw [List.getD_eq_getElem?_getD, List.getElem?_set, List.getD_eq_getElem?_getD]
  split
  · rfl
  · rfl
theorem okStore_set {s : DStore} {n : Nat} {f : DFile} (h : okStore s = true) (hn : n < s.2.1.length) (hf : okFile s.1 f = true) (he : (fileAt s.2.1 n).1 = f.1) : okStore (s.1, s.2.1.set n f, s.2.2.1, ()) = true := by
  obtain ⟨h1, h2, h3, h4, h5⟩ := okStore_iff.1 h
  have hid : ∀ i, (fileAt (s.2.1.set n f) i).1 = (fileAt s.2.1 i).1 := fun i => by
    rw [fileAt_set hn]
    split
    · rename_i e; rw [← e, he]
    · rfl
  refine okStore_iff.2 ⟨fun i hi => ?_, h2, by show (s.2.1.set n f).length ≤ 12; rw [List.length_set]; exact h3, h4, h5⟩
  have hi : i < (s.2.1.set n f).length := hi
  rw [List.length_set] at hi
  obtain ⟨k1, k2, k3⟩ := okFileAt_iff.1 (h1 i hi)
  refine okFileAt_iff.2 ?_
  show okFile s.1 (fileAt (s.2.1.set n f) i) = true ∧ (fileAt (s.2.1.set n f) i).1 < s.2.2.1 ∧ (0 < i → (fileAt (s.2.1.set n f) (i - 1)).1 < (fileAt (s.2.1.set n f) i).1)
  rw [hid, hid]
  refine ⟨?_, k2, k3⟩
  rw [fileAt_set hn]
  split
  · exact hf
  · exact k1
theorem okStore_replace {s : DStore} (f : DFile) (h : okStore s = true) : okStore (replaceFile s f).1 = true := by
  rcases replaceFile_cases s f with ⟨e, _⟩ | ⟨n, hn, hp, ho, hf, e⟩
  · rw [e]; exact h
  · rw [e]
    refine okStore_set ho hn hf ?_
    rcases place_cases s.2.1 f.1 with ⟨h', _⟩ | ⟨m, hm, h', h2, _⟩
    · omega
    · rw [← h2, show n = m by omega]
theorem findFile_is {s : DStore} {id : Int} (h : (findFile s id).2 = true) : (findFile s id).1 ∈ s.2.1 ∧ (findFile s id).1.1 = id := by
  rw [findFile_snd, Bool.not_eq_true', decide_eq_false_iff_not] at h
  rcases place_cases s.2.1 id with ⟨h', _⟩ | ⟨n, hn, h', h2, _⟩
  · omega
  · have e : (findFile s id).1 = fileAt s.2.1 n := by
      unfold findFile
      rw [decide_eq_false h, h', Int.toNat_natCast]; rfl
    rw [e]
    exact ⟨fileAt_mem hn, h2⟩
theorem findFile_mem {s : DStore} {f : DFile} (h : okStore s = true) (hf : f ∈ s.2.1) : findFile s f.1 = (f, true) := by
  have h2 : (findFile s f.1).2 = true := (findFile_found s f.1).2 ⟨f, hf, rfl⟩
  obtain ⟨h3, h4⟩ := findFile_is h2
  exact Prod.ext (ids_inj h h3 hf h4) h2
/-- What is created is found, and the list is longer by one. -/
theorem create_found {s : DStore} {f : DFile} (h : (createFile s f).2.2 = true) : (findFile (createFile s f).1 (createFile s f).2.1).2 = true ∧ (findFile (createFile s f).1 (createFile s f).2.1).1.1 = (createFile s f).2.1 ∧ (createFile s f).1.2.1.length = s.2.1.length + 1 ∧ s.2.1.length < 12 ∧ okStore (createFile s f).1 = true := by
  rcases createFile_cases s f with ⟨e, _⟩ | ⟨h1, h2, h3, e⟩
  · rw [e] at h; cases h
  · have h4 := okStore_create f h1
    rw [e] at h4 ⊢
    have hm : (s.2.2.1, f.2) ∈ s.2.1 ++ [(s.2.2.1, f.2)] := by simp
    have hf := findFile_mem h4 hm
    have hf : findFile (s.1, s.2.1 ++ [(s.2.2.1, f.2)], s.2.2.1 + 1, ()) s.2.2.1 = ((s.2.2.1, f.2), true) := hf
    dsimp only
    rw [hf]
    exact ⟨rfl, rfl, by simp, h2, h4⟩
theorem create_same {s : DStore} {f : DFile} (h : (createFile s f).2.2 = false) : (createFile s f).1 = s := by
  rcases createFile_cases s f with ⟨e, _⟩ | ⟨h1, h2, h3, e⟩
  · rw [e]
  · rw [e] at h; cases h
theorem replace_found {s : DStore} {f : DFile} (h : (replaceFile s f).2 = true) : findFile (replaceFile s f).1 f.1 = (f, true) ∧ okStore (replaceFile s f).1 = true := by
  rcases replaceFile_cases s f with ⟨e, _⟩ | ⟨n, hn, hp, ho, hf, e⟩
  · rw [e] at h; cases h
  · have h4 := okStore_replace f ho
    rw [e] at h4 ⊢
    exact ⟨findFile_mem h4 (List.mem_iff_getElem.2 ⟨n, by simpa using hn, by simp⟩), h4⟩
theorem delete_gone {s : DStore} {id : Int} (h : (deleteFile s id).2 = true) : (findFile (deleteFile s id).1 id).2 = false ∧ (deleteFile s id).1.2.1.length = s.2.1.length - 1 ∧ 1 ≤ s.2.1.length ∧ s.2.1.length ≤ 12 := by
  rcases deleteFile_cases s id with ⟨e, _⟩ | ⟨n, hn, hp, ho, e⟩
  · rw [e] at h; cases h
  · rw [e]
    have hlen : (s.2.1.eraseIdx n).length = s.2.1.length - 1 := List.length_eraseIdx_of_lt hn
    have hid : (fileAt s.2.1 n).1 = id := by
      rcases place_cases s.2.1 id with ⟨h', _⟩ | ⟨m, hm, h', h2, _⟩
      · omega
      · rw [← h2, show n = m by omega]
    refine ⟨?_, hlen, by omega, (okStore_iff.1 ho).2.2.1⟩
    rw [← Bool.not_eq_true, findFile_found]
    rintro ⟨g, hg, eg⟩
    obtain ⟨i, hi, rfl⟩ := mem_fileAt hg
    have hi : i < (s.2.1.eraseIdx n).length := hi
    have eg : (fileAt (s.2.1.eraseIdx n) i).1 = id := eg
    rw [fileAt_erase] at eg
    split at eg
    · have := ids_lt ho n i (by omega) hn; omega
    · have := ids_lt ho (i + 1) n (by omega) (by omega); omega
end Sp
/- Plain laws of schemas: fields added and removed. -/
namespace Sp
open Go Go.Fw
theorem findFrom_at {α : Type} {p : α → Bool} {d : α} : ∀ (s : List α) (k : Int) (n : Nat), n < s.length → (∀ i, i < n → p (s.getD i d) = false) → p (s.getD n d) = true → findFrom p k s = k + n
  | [], _, n, h, _, _ => by simp at h
  | f :: r, k, 0, _, _, he => by
    have he : p f = true := he
    show (bif p f then k else findFrom p (k + 1) r) = _
    rw [he]; simp
  | f :: r, k, n + 1, h, hne, he => by
    have h0 : p f = false := hne 0 (by omega)
    show (bif p f then k else findFrom p (k + 1) r) = _
    rw [h0]
    show findFrom p (k + 1) r = _
    rw [findFrom_at r (k + 1) n (by simpa using h) (fun i hi => hne (i + 1) (by omega)) he]
    omega
theorem findFrom_none {α : Type} {p : α → Bool} {d : α} : ∀ (s : List α) (k : Int), (∀ i, i < s.length → p (s.getD i d) = false) → findFrom p k s = -1
  | [], _, _ => rfl
  | f :: r, k, hne => by
    have h0 : p f = false := hne 0 (by simp)
    show (bif p f then k else findFrom p (k + 1) r) = _
    rw [h0]
    exact findFrom_none r (k + 1) fun i hi => hne (i + 1) (by simp; omega)
theorem findAt_at {α : Type} {p : α → Bool} {d : α} {s : List α} {n : Nat} (h : n < s.length) (hne : ∀ i, i < n → p (s.getD i d) = false) (he : p (s.getD n d) = true) : findAt p s = n := by
  unfold findAt; rw [findFrom_at s 0 n h hne he]; omega
theorem findAt_none {α : Type} {p : α → Bool} {d : α} {s : List α} (hne : ∀ i, i < s.length → p (s.getD i d) = false) : findAt p s = -1 := findFrom_none s 0 hne
theorem findAt_cases {α : Type} (p : α → Bool) (d : α) (s : List α) : (findAt p s = -1 ∧ ∀ i, i < s.length → p (s.getD i d) = false) ∨ ∃ n, n < s.length ∧ findAt p s = n ∧ p (s.getD n d) = true ∧ ∀ i, i < n → p (s.getD i d) = false := by
  by_cases h : ∃ n, n < s.length ∧ p (s.getD n d) = true
  · obtain ⟨n, h1, h2, h3⟩ := least s.length (p := fun n => p (s.getD n d) = true) h
    have h3 : ∀ i, i < n → p (s.getD i d) = false := fun i hi => by simpa using h3 i hi
    exact .inr ⟨n, h1, findAt_at h1 h3 h2, h2, h3⟩
  · have hne : ∀ i, i < s.length → p (s.getD i d) = false := fun i hi => by
      cases hp : p (s.getD i d) with
      | false => rfl
      | true => exact (h ⟨i, hi, hp⟩).elim
    exact .inl ⟨findAt_none hne, hne⟩
theorem less_irrefl : ∀ a : Bytes, Op.bytesLess a a = false
  | [] => rfl
  | x :: a => by
    show (decide (x < x) || (x == x && Op.bytesLess a a)) = false
    rw [less_irrefl a, decide_eq_false (UInt8.lt_irrefl x), Bool.and_false]; rfl
theorem less_total : ∀ a b : Bytes, Op.bytesLess a b = false → a ≠ b → Op.bytesLess b a = true
  | [], [], _, h => (h rfl).elim
  | x :: a, [], _, _ => rfl
  | [], y :: b, h, _ => by cases h
  | x :: a, y :: b, h, hne => by
    have h : (decide (x < y) || (x == y && Op.bytesLess a b)) = false := h
    show (decide (y < x) || (y == x && Op.bytesLess b a)) = true
    rw [Bool.or_eq_false_iff, decide_eq_false_iff_not] at h
    by_cases e : x = y
    · subst e
      have h2 : Op.bytesLess a b = false := by simpa using h.2
      rw [less_total a b h2 (fun e => hne (by rw [e]))]
      simp
    · have : y < x := by
        have h1 : ¬ x.toNat < y.toNat := fun hh => h.1 (UInt8.lt_iff_toNat_lt.2 hh)
        have h2 : x.toNat ≠ y.toNat := fun hh => e (UInt8.toNat_inj.1 hh)
        exact UInt8.lt_iff_toNat_lt.2 (by omega)
      rw [decide_eq_true this]; rfl
theorem less_cons {x y : UInt8} {a b : Bytes} : Op.bytesLess (x :: a) (y :: b) = true ↔ x.toNat < y.toNat ∨ (x = y ∧ Op.bytesLess a b = true) := by
  show (decide (x < y) || (x == y && Op.bytesLess a b)) = true ↔ _
  rw [Bool.or_eq_true, decide_eq_true_eq, Bool.and_eq_true, beq_iff_eq, UInt8.lt_iff_toNat_lt]
theorem less_trans : ∀ a b c : Bytes, Op.bytesLess a b = true → Op.bytesLess b c = true → Op.bytesLess a c = true
  | _, [], _, h, _ => by cases h' : (‹Bytes› : Bytes) <;> simp_all [Op.bytesLess]
  | _, _ :: _, [], _, h => by cases h
  | [], _ :: _, _ :: _, _, _ => rfl
  | x :: a, y :: b, z :: c, h1, h2 => by
    rw [less_cons] at h1 h2 ⊢
    rcases h1 with h1 | ⟨rfl, h1⟩
    · rcases h2 with h2 | ⟨rfl, h2⟩
      · exact .inl (by omega)
      · exact .inl h1
    · rcases h2 with h2 | ⟨rfl, h2⟩
      · exact .inl h2
      · exact .inr ⟨rfl, less_trans a b c h1 h2⟩
theorem less_ne {a b : Bytes} (h : Op.bytesLess a b = true) : a ≠ b := fun e => by rw [e, less_irrefl] at h; cases h
theorem less_asymm {a b : Bytes} (h : Op.bytesLess a b = true) : Op.bytesLess b a = false := by
  cases hb : Op.bytesLess b a with
  | false => rfl
  | true => have := less_trans a b a h hb; rw [less_irrefl] at this; cases this
theorem above_eq (a b : Bytes) : (!(Op.bytesLess a b || a == b)) = Op.bytesLess b a := by
  cases h : Op.bytesLess a b with
  | true => rw [less_asymm h]; rfl
  | false =>
    by_cases e : a = b
    · subst e; rw [less_irrefl]; simp
    · rw [less_total a b h e]
      simp [e]
theorem okSchema_iff {s : List DField} : okSchema s = true ↔ (∀ i, i < s.length → okFieldAt s i = true) ∧ s.length ≤ 5 := by
  unfold okSchema
  rw [Bool.and_eq_true, allUpto_iff, decide_eq_true_eq]
  exact and_congr_right fun _ => by omega
theorem okFieldAt_iff {s : List DField} {i : Nat} : okFieldAt s i = true ↔ okName (fieldAt s i).1 = true ∧ (1 ≤ (fieldAt s i).2.1 ∧ (fieldAt s i).2.1 ≤ 2) ∧ (0 < i → Op.bytesLess (fieldAt s (i - 1)).1 (fieldAt s i).1 = true) := by
  unfold okFieldAt
  rw [Bool.and_eq_true, Bool.and_eq_true, Bool.and_eq_true, decide_eq_true_eq, decide_eq_true_eq, and_assoc]
  refine and_congr_right fun _ => and_congr_right fun _ => ?_
  by_cases h : 0 < i
  · simp [h]
  · simp [h]
theorem names_lt {s : List DField} (h : okSchema s = true) : ∀ (j i : Nat), i < j → j < s.length → Op.bytesLess (fieldAt s i).1 (fieldAt s j).1 = true
  | 0, i, hi, _ => by omega
  | j + 1, i, hi, hj => by
    have h1 := (okFieldAt_iff.1 ((okSchema_iff.1 h).1 (j + 1) hj)).2.2 (by omega)
    rw [Nat.add_sub_cancel] at h1
    rcases Nat.lt_or_ge i j with h2 | h2
    · exact less_trans _ _ _ (names_lt h j i h2 (by omega)) h1
    · have : i = j := by omega
      rw [this]; exact h1
theorem putField_form (s : List DField) (f : DField) : ∃ m, m ≤ s.length ∧ (∀ i, i < m → Op.bytesLess (fieldAt s i).1 f.1 = true) ∧ (m < s.length → Op.bytesLess (fieldAt s m).1 f.1 = false) ∧ putField s f = s.take m ++ f :: s.drop m := by
  have key : ∀ m, m ≤ s.length → (∀ i, i < m → Op.bytesLess (fieldAt s i).1 f.1 = true) → (m < s.length → Op.bytesLess (fieldAt s m).1 f.1 = false) → putField s f = s.take m ++ f :: s.drop m := fun m hm h1 h2 => by
    unfold putField
    have := takeWhile_at (p := belowField f.1) (d := ([], 0, ())) s m hm h1 h2
    rw [this.1, this.2]
  by_cases h : ∃ n, n < s.length ∧ Op.bytesLess (fieldAt s n).1 f.1 = false
  · obtain ⟨n, h1, h2, h3⟩ := least s.length (p := fun n => Op.bytesLess (fieldAt s n).1 f.1 = false) h
    have h3 : ∀ i, i < n → Op.bytesLess (fieldAt s i).1 f.1 = true := fun i hi => by simpa using h3 i hi
    exact ⟨n, by omega, h3, fun _ => h2, key n (by omega) h3 fun _ => h2⟩
  · have h3 : ∀ i, i < s.length → Op.bytesLess (fieldAt s i).1 f.1 = true := fun i hi => by
      cases hp : Op.bytesLess (fieldAt s i).1 f.1 with
      | true => rfl
      | false => exact (h ⟨i, hi, hp⟩).elim
    exact ⟨s.length, Nat.le_refl _, h3, fun hh => by omega, key _ (Nat.le_refl _) h3 fun hh => by omega⟩
theorem fieldAt_put {s : List DField} {f : DField} {m : Nat} (hm : m ≤ s.length) (i : Nat) : fieldAt (s.take m ++ f :: s.drop m) i = if i < m then fieldAt s i else if i = m then f else fieldAt s (i - 1) := by
  unfold fieldAt
  rw [List.getD_eq_getElem?_getD, List.getElem?_append, List.length_take, Nat.min_eq_left hm]
  split
  · next h => rw [List.getElem?_take_of_lt h, List.getD_eq_getElem?_getD]
  · next h =>
    split
    · next e => subst e; rw [Nat.sub_self]; rfl
    · next e =>
      rw [show i - m = (i - m - 1) + 1 by omega, List.getElem?_cons_succ, List.getElem?_drop, show m + (i - m - 1) = i - 1 by omega, List.getD_eq_getElem?_getD]
theorem putField_new {s : List DField} {f : DField} (hs : okSchema s = true) (hp : okSchema (putField s f) = true) : ∀ i, i < s.length → (fieldAt s i).1 ≠ f.1 := by
  intro n hn e
  obtain ⟨m, hm, h1, h2, h3⟩ := putField_form s f
  rw [h3] at hp
  have hlen : (s.take m ++ f :: s.drop m).length = s.length + 1 := by rw [List.length_append, List.length_cons, List.length_take, List.length_drop]; omega
  rcases Nat.lt_or_ge n m with hlt | hge
  · exact less_ne (h1 n hlt) e
  · have hmlt : m < s.length := by omega
    have h4 := names_lt hp (m + 1) m (by omega) (by omega)
    rw [fieldAt_put hm, fieldAt_put hm, if_neg (by omega), if_pos rfl, if_neg (by omega), if_neg (by omega), Nat.add_sub_cancel] at h4
    rcases Nat.lt_or_ge m n with h5 | h5
    · have h6 := names_lt hs n m h5 hn
      rw [e, h2 hmlt] at h6
      cases h6
    · have : m = n := by omega
      subst this
      exact less_ne h4 e.symm
/-- What was added is there with its kind, and can be taken out again. -/
theorem added {s : List DField} {f : DField} (h : (addField s f).2 = true) : kindOf (addField s f).1 f.1 = f.2.1 ∧ okSchema (addField s f).1 = true ∧ removeField (addField s f).1 f.1 = (s, true) ∧ (addField s f).1.length = s.length + 1 ∧ s.length ≤ 5 := by
  cases hs : (okSchema s && okSchema (putField s f)) with
  | false => unfold addField at h; rw [hs] at h; cases h
  | true =>
    have e : addField s f = (putField s f, true) := by unfold addField; rw [hs]; rfl
    rw [e]
    rw [Bool.and_eq_true] at hs
    have hne := putField_new hs.1 hs.2
    obtain ⟨m, hm, h1, h2, h3⟩ := putField_form s f
    have hp := hs.2
    have hlen : (s.take m ++ f :: s.drop m).length = s.length + 1 := by rw [List.length_append, List.length_cons, List.length_take, List.length_drop]; omega
    have hk : kindOf (putField s f) f.1 = f.2.1 := by
      rw [h3]
      have hat : (s.take m ++ f :: s.drop m).getD m ([], 0, ()) = f := by
        have := fieldAt_put (f := f) hm m
        rw [if_neg (by omega), if_pos rfl] at this
        exact this
      rw [kindOf_at (name := f.1) _ m (by omega) (fun i hi => ?_) (by rw [hat]), hat]
      have := fieldAt_put (f := f) hm i
      rw [if_pos hi] at this
      have this : (s.take m ++ f :: s.drop m).getD i ([], 0, ()) = fieldAt s i := this
      rw [this]
      exact hne i (by omega)
    have hkind : kindOf (putField s f) f.1 ≠ 0 := by
      rw [hk]
      rw [h3] at hp
      have := (okFieldAt_iff.1 ((okSchema_iff.1 hp).1 m (by omega))).2.1
      rw [fieldAt_put hm, if_neg (by omega), if_pos rfl] at this
      omega
    refine ⟨hk, hp, ?_, by rw [h3]; exact hlen, (okSchema_iff.1 hs.1).2⟩
    show removeField (putField s f) f.1 = (s, true)
    unfold removeField
    rw [hp, decide_eq_false hkind]
    show ((putField s f).filter (notField f.1), true) = _
    have hmem : ∀ y ∈ s, notField f.1 y = true := fun y hy => by
      obtain ⟨i, hi, rfl⟩ := List.getElem_of_mem hy
      have := hne i hi
      unfold fieldAt at this
      rw [List.getD_eq_getElem?_getD, List.getElem?_eq_getElem hi] at this
      simpa [notField] using this
    rw [h3, List.filter_append, List.filter_cons, List.filter_eq_self.2 fun y hy => hmem y (List.mem_of_mem_take hy), List.filter_eq_self.2 fun y hy => hmem y (List.mem_of_mem_drop hy)]
    have : notField f.1 f = false := by simp [notField]
    rw [this]
    simp
theorem added_not {s : List DField} {f : DField} (h : (addField s f).2 = false) : (addField s f).1 = s := by
  unfold addField at h ⊢
  cases hs : (okSchema s && okSchema (putField s f)) with
  | false => rfl
  | true => rw [hs] at h; cases h
theorem has_kind {s : List DField} {name : Bytes} (h : okSchema s = true) : (decide (kindOf s name = 0)) = decide (fieldPlace s name < 0) := by
  rcases findAt_cases (fun f : DField => f.1 == name) ([], 0, ()) s with ⟨e, hn⟩ | ⟨n, hn, e, he, hne⟩
  · have e : fieldPlace s name = -1 := e
    rw [e, kindOf_none s fun i hi => by simpa using hn i hi]; rfl
  · have e : fieldPlace s name = n := e
    have k := (okFieldAt_iff.1 ((okSchema_iff.1 h).1 n hn)).2.1
    unfold fieldAt at k
    rw [e, kindOf_at s n hn (fun i hi => by simpa using hne i hi) (by simpa using he), decide_eq_false (by omega), decide_eq_false (by omega)]
/-- Where the new field goes. -/
theorem put_place {s : List DField} {f : DField} (hne : fieldPlace s f.1 < 0) (n : Nat) (hn : (fieldAbove s f.1 < 0 → n = s.length) ∧ (0 ≤ fieldAbove s f.1 → (n : Int) = fieldAbove s f.1)) : putField s f = s.take n ++ (f :: s.drop n) ∧ n ≤ s.length := by
  have hno : ∀ i, i < s.length → (fieldAt s i).1 ≠ f.1 := by
    rcases findAt_cases (fun g : DField => g.1 == f.1) ([], 0, ()) s with ⟨_, h⟩ | ⟨k, _, e, _⟩
    · intro i hi; exact ne_of_beq_false (h i hi)
    · have e : fieldPlace s f.1 = k := e
      omega
  unfold putField
  rcases findAt_cases (fun g : DField => Op.bytesLess f.1 g.1) ([], 0, ()) s with ⟨e, h⟩ | ⟨k, hk, e, h1, h2⟩
  · have e : fieldAbove s f.1 = -1 := e
    have : n = s.length := hn.1 (by omega)
    subst this
    have := takeWhile_at (p := belowField f.1) (d := ([], 0, ())) s s.length (Nat.le_refl _) (fun i hi => less_total _ _ (h i hi) (Ne.symm (hno i hi))) fun hh => by omega
    rw [this.1, this.2]
    exact ⟨rfl, Nat.le_refl _⟩
  · have e : fieldAbove s f.1 = k := e
    have : n = k := by have := hn.2 (by omega); omega
    subst this
    have := takeWhile_at (p := belowField f.1) (d := ([], 0, ())) s n (by omega) (fun i hi => less_total _ _ (h2 i hi) (Ne.symm (hno i (by omega)))) fun _ => less_asymm h1
    rw [this.1, this.2]
    exact ⟨rfl, by omega⟩
theorem had_field {s : List DField} {f : DField} (hs : okSchema s = true) (h : 0 ≤ fieldPlace s f.1) : okSchema (putField s f) = false := by
  cases hp : okSchema (putField s f) with
  | false => rfl
  | true =>
    rcases findAt_cases (fun g : DField => g.1 == f.1) ([], 0, ()) s with ⟨e, _⟩ | ⟨k, hk, e, h1, _⟩
    · have e : fieldPlace s f.1 = -1 := e
      omega
    · exact (putField_new hs hp k hk (eq_of_beq h1)).elim
end Sp
