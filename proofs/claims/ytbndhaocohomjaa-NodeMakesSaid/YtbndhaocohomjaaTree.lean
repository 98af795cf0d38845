/- Treaps in an arena: what is told by a node that is the treap of some pairs. Plain Lean. -/
import Derived.Test.YtbndhaocohomjaaAbs
namespace Go.Proofs.Ytbndhaocohomjaa
set_option maxRecDepth 100000
open Go.RowKit (wrap64)

/-- As it was, and more records behind. -/
def Ext (a a' : Ar) : Prop := a'.room = a.room ∧ a'.steps = a.steps ∧ ∃ r, a'.slots = a.slots ++ r
theorem Ext.refl (a : Ar) : Ext a a := ⟨rfl, rfl, [], by simp⟩
theorem Ext.trans {a b c : Ar} (h : Ext a b) (k : Ext b c) : Ext a c := by
  obtain ⟨h1, h2, r, h3⟩ := h
  obtain ⟨k1, k2, s, k3⟩ := k
  exact ⟨k1.trans h1, k2.trans h2, r ++ s, by rw [k3, h3, List.append_assoc]⟩
theorem Ext.len {a b : Ar} (h : Ext a b) : a.slots.length ≤ b.slots.length := by
  obtain ⟨_, _, r, h3⟩ := h
  rw [h3, List.length_append]; omega
theorem Ext.slot {a b : Ar} (h : Ext a b) {id : Int} (h1 : 1 ≤ id) (h2 : id ≤ a.slots.length) : slotAt b id = slotAt a id := by
  obtain ⟨_, _, r, h3⟩ := h
  unfold slotAt
  rw [h3, List.getD_eq_getElem?_getD, List.getD_eq_getElem?_getD, List.getElem?_append_left (by omega)]
theorem kind_some (a : Ar) (id : Int) : kindO (some a) id = if 1 ≤ id ∧ id ≤ a.slots.length then (slotAt a id).kind else 0 := rfl
theorem val_some (a : Ar) (id i : Int) : valO (some a) id i = if 1 ≤ id ∧ id ≤ a.slots.length ∧ (slotAt a id).kind ≠ 0 ∧ 0 ≤ i ∧ i < (slotAt a id).vals.length then (slotAt a id).vals.getD i.toNat 0 else 0 := rfl
theorem isN_in {a : Ar} {t : Int} (h : isN (some a) t = true) : 1 ≤ t ∧ t ≤ a.slots.length ∧ (slotAt a t).kind = 1 := by
  unfold isN at h
  have h' := of_decide_eq_true h
  rw [kind_some] at h'
  by_cases hc : 1 ≤ t ∧ t ≤ a.slots.length
  · rw [if_pos hc] at h'; exact ⟨hc.1, hc.2, h'⟩
  · rw [if_neg hc] at h'; omega
theorem isN_of {a : Ar} {t : Int} (h1 : 1 ≤ t) (h2 : t ≤ a.slots.length) (h3 : (slotAt a t).kind = 1) : isN (some a) t = true := by
  unfold isN; rw [kind_some, if_pos ⟨h1, h2⟩, h3]; rfl
theorem getN_of {a : Ar} {t k v x y s g : Int} (h1 : 1 ≤ t) (h2 : t ≤ a.slots.length) (h3 : slotAt a t = ⟨1, [k, v, x, y, s, g]⟩) : getN (some a) t = ⟨k, v, x, y, s, g⟩ := by
  unfold getN
  have hk : kindO (some a) t = 1 := by rw [kind_some, if_pos ⟨h1, h2⟩, h3]
  rw [if_pos hk]
  simp [val_some, h3, h1, h2]
theorem getN_no {a : Ar} {t : Int} (h : isN (some a) t = false) : getN (some a) t = ⟨0, 0, 0, 0, 0, 0⟩ := by
  unfold getN
  unfold isN at h
  rw [if_neg (of_decide_eq_false h)]
theorem isN_zero (a : Ar) : isN (some a) 0 = false := by
  unfold isN; rw [kind_some, if_neg (by omega)]; rfl
theorem Ext.node {a b : Ar} (h : Ext a b) {t : Int} (hn : isN (some a) t = true) : isN (some b) t = true := by
  obtain ⟨h1, h2, h3⟩ := isN_in hn
  have := h.len
  exact isN_of h1 (by omega) (by rw [h.slot h1 h2, h3])
theorem Ext.says {a b : Ar} (h : Ext a b) {t : Int} (hn : isN (some a) t = true) : getN (some b) t = getN (some a) t := by
  obtain ⟨h1, h2, h3⟩ := isN_in hn
  have := h.len
  have hs := h.slot h1 h2
  unfold getN
  simp only [kind_some, val_some, hs, h1, h2, true_and, and_self, if_true, show t ≤ (b.slots.length : Int) by omega]

/-- The treap of some pairs, at a number. -/
inductive Tr (a : Ar) : Int → List Pr → Prop
  | nil : Tr a 0 []
  | node (t k v x y : Int) (l1 l2 : List Pr) (hn : isN (some a) t = true) (hg : getN (some a) t = ⟨k, v, x, y, ((l1 ++ (k, v) :: l2).length : Int), (hgt (l1 ++ (k, v) :: l2) : Int)⟩)
      (ht : top (l1 ++ (k, v) :: l2) = (l1.length : Int)) (hx : x < t) (hy : y < t) (h1 : Tr a x l1) (h2 : Tr a y l2) : Tr a t (l1 ++ (k, v) :: l2)
theorem Tr.ext {a b : Ar} {t : Int} {l : List Pr} (h : Ext a b) (ht : Tr a t l) : Tr b t l := by
  induction ht with
  | nil => exact .nil
  | node t k v x y l1 l2 hn hg ht hx hy h1 h2 i1 i2 => exact .node t k v x y l1 l2 (h.node hn) ((h.says hn).trans hg) ht hx hy i1 i2
theorem Tr.some_ {a : Ar} {t : Int} {l : List Pr} (ht : Tr a t l) (hl : l ≠ []) : isN (some a) t = true := by
  cases ht with
  | nil => exact absurd rfl hl
  | node t k v x y l1 l2 hn => exact hn
theorem Tr.none_ {a : Ar} {t : Int} (ht : Tr a t []) : t = 0 := by
  generalize hl : ([] : List Pr) = l at ht
  cases ht with
  | nil => rfl
  | node t k v x y l1 l2 hn => simp at hl
theorem hgt_nil : hgt [] = 0 := rfl
theorem Tr.size {a : Ar} {t : Int} {l : List Pr} (ht : Tr a t l) : (getN (some a) t).size = l.length ∧ (getN (some a) t).high = hgt l := by
  cases ht with
  | nil => rw [getN_no (isN_zero a)]; exact ⟨rfl, rfl⟩
  | node t k v x y l1 l2 hn hg => rw [hg]; exact ⟨rfl, rfl⟩
theorem Tr.arg {a : Ar} {t : Int} {l : List Pr} (ht : Tr a t l) : t = 0 ∨ isN (some a) t = true := by
  cases ht with
  | nil => exact .inl rfl
  | node t k v x y l1 l2 hn hg => exact .inr hn
theorem Tr.le {a : Ar} {t : Int} {l : List Pr} (ht : Tr a t l) : 0 ≤ t ∧ t ≤ a.slots.length := by
  rcases ht.arg with rfl | h
  · omega
  · obtain ⟨h1, h2, _⟩ := isN_in h; omega

def pushN (a : Ar) (k v x y s h : Int) : Ar := ⟨a.room, a.slots ++ [⟨1, [k, v, x, y, s, h]⟩], a.steps⟩
theorem pushN_ext (a : Ar) (k v x y s h : Int) : Ext a (pushN a k v x y s h) := ⟨rfl, rfl, _, rfl⟩
theorem pushN_slot (a : Ar) (k v x y s h : Int) : slotAt (pushN a k v x y s h) (a.slots.length + 1) = ⟨1, [k, v, x, y, s, h]⟩ := by
  unfold slotAt pushN
  rw [show ((a.slots.length : Int) + 1 - 1).toNat = a.slots.length by omega, List.getD_eq_getElem?_getD]
  simp
theorem pushN_len (a : Ar) (k v x y s h : Int) : (pushN a k v x y s h).slots.length = a.slots.length + 1 := by simp [pushN]
theorem hgt_at {l : List Pr} {m : Nat} (h : top l = m) : hgt l = 1 + max (hgt (l.take m)) (hgt (l.drop (m + 1))) := by
  rw [hgt_eq, h, if_neg (by omega), Int.toNat_natCast]
theorem wrap_id {x : Int} (h1 : 0 ≤ x) (h2 : x ≤ 9000000) : wrap64 x = x := by unfold wrap64; omega

theorem add_ok {a : Ar} {s : Slot} (h : (a.slots.length : Int) < a.room) : addA a s = ((a.slots.length : Int) + 1, 0, ⟨a.room, a.slots ++ [s], a.steps⟩) := by
  unfold addA; rw [if_neg (by omega)]
theorem add_full {a : Ar} {s : Slot} (h : a.room - (a.slots.length : Int) = 0) : addA a s = (0, 2, a) := by
  unfold addA; rw [if_pos h]
theorem makeO_some (a : Ar) (k : Int) (l : List Int) (h : ¬ (k < 1 ∨ 12 < (l.length : Int))) : makeO (some a) k l = ((addA a ⟨k, l⟩).1, (addA a ⟨k, l⟩).2.1, some (addA a ⟨k, l⟩).2.2) := by
  show (if k < 1 ∨ 12 < (l.length : Int) then _ else _) = _
  rw [if_neg h]

/-- A node made of a pair and two treaps is the treap of all. -/
theorem make_tr {a : Ar} {x y k v : Int} {l1 l2 : List Pr} (h1 : Tr a x l1) (h2 : Tr a y l2) (ht : top (l1 ++ (k, v) :: l2) = (l1.length : Int)) (hlen : (l1 ++ (k, v) :: l2).length ≤ 1000000)
    (hr : (a.slots.length : Int) < a.room) : ∃ a', makeN (some a) k v x y = ((a.slots.length : Int) + 1, 0, some a') ∧ Ext a a' ∧ a'.slots.length = a.slots.length + 1 ∧ Tr a' ((a.slots.length : Int) + 1) (l1 ++ (k, v) :: l2) := by
  have s1 := h1.size
  have s2 := h2.size
  have b1 := hgt_le l1
  have b2 := hgt_le l2
  have e1 := h1.le
  have e2 := h2.le
  have hl : (l1 ++ (k, v) :: l2).length = l1.length + l2.length + 1 := by simp; omega
  have hh : hgt (l1 ++ (k, v) :: l2) = 1 + max (hgt l1) (hgt l2) := by
    rw [hgt_at ht]
    simp
  have hv : nodeVals (some a) k v x y = [k, v, x, y, ((l1 ++ (k, v) :: l2).length : Int), (hgt (l1 ++ (k, v) :: l2) : Int)] := by
    unfold nodeVals
    rw [s1.1, s1.2, s2.1, s2.2]
    rw [wrap_id (x := (l1.length : Int) + l2.length) (by omega) (by omega), wrap_id (x := (l1.length : Int) + l2.length + 1) (by omega) (by omega), hl, hh]
    split
    · rw [wrap_id (by omega) (by omega)]
      have : (hgt l2 : Int) + 1 = ((1 + max (hgt l1) (hgt l2) : Nat) : Int) := by omega
      rw [this]; rfl
    · rw [wrap_id (by omega) (by omega)]
      have : (hgt l1 : Int) + 1 = ((1 + max (hgt l1) (hgt l2) : Nat) : Int) := by omega
      rw [this]; rfl
  have hb : badArg (some a) x y = false := by
    unfold badArg
    rcases h1.arg with r1 | r1 <;> rcases h2.arg with r2 | r2 <;> simp [r1, r2]
  have hm : makeN (some a) k v x y = ((a.slots.length : Int) + 1, 0, some (pushN a k v x y ((l1 ++ (k, v) :: l2).length : Int) (hgt (l1 ++ (k, v) :: l2) : Int))) := by
    unfold makeN
    rw [hb, hv]
    rw [if_neg (by decide), makeO_some _ _ _ (by simp), add_ok hr]
    rfl
  refine ⟨_, hm, pushN_ext _ _ _ _ _ _ _, pushN_len _ _ _ _ _ _ _, ?_⟩
  refine .node _ k v x y l1 l2 (isN_of (by omega) (by rw [pushN_len]; omega) (by rw [pushN_slot])) (getN_of (by omega) (by rw [pushN_len]; omega) (pushN_slot _ _ _ _ _ _ _)) ht (by omega) (by omega)
    (h1.ext (pushN_ext _ _ _ _ _ _ _)) (h2.ext (pushN_ext _ _ _ _ _ _ _))
theorem make_full {a : Ar} {x y k v : Int} {l1 l2 : List Pr} (h1 : Tr a x l1) (h2 : Tr a y l2) (hr : a.room - (a.slots.length : Int) = 0) : makeN (some a) k v x y = (0, 2, some a) := by
  have hb : badArg (some a) x y = false := by
    unfold badArg
    rcases h1.arg with r1 | r1 <;> rcases h2.arg with r2 | r2 <;> simp [r1, r2]
  unfold makeN
  rw [hb]
  unfold nodeVals
  rw [if_neg (by decide), makeO_some _ _ _ (by simp), add_full hr]

/-- All numbers from one on are treaps of some pairs. -/
def AllTr (a : Ar) (n : Nat) : Prop := ∀ id : Int, (n : Int) < id → id ≤ a.slots.length → ∃ l, Tr a id l ∧ l ≠ [] ∧ l.length ≤ 1000000
theorem AllTr.ext {a b : Ar} {n : Nat} (h : AllTr a n) (e : Ext a b) (k : AllTr b a.slots.length) : AllTr b n := fun id h1 h2 => by
  by_cases hi : id ≤ a.slots.length
  · obtain ⟨l, h3, h4⟩ := h id h1 hi
    exact ⟨l, h3.ext e, h4⟩
  · exact k id (by omega) h2
theorem AllTr.one {a b : Ar} (hl : b.slots.length = a.slots.length + 1) {l : List Pr} (h : Tr b ((a.slots.length : Int) + 1) l) (hn : l ≠ []) (hm : l.length ≤ 1000000) : AllTr b a.slots.length := fun id h1 h2 => by
  obtain rfl : id = (a.slots.length : Int) + 1 := by omega
  exact ⟨l, h, hn, hm⟩
theorem AllTr.refl (a : Ar) : AllTr a a.slots.length := fun id h1 h2 => by omega

end Go.Proofs.Ytbndhaocohomjaa
