/- What package look tells of a treap of pairs whose keys rise. Plain Lean. -/
/- What the packages put, cut, part and join answer over any arena, as plain functions. No program in sight. -/
/- What put, cut, part and join tell of treaps of pairs whose keys rise. Plain Lean. -/
/- What Put, Add, Of, Cut, At, Middle, Half, Two tell of treaps of pairs whose keys rise. Plain Lean. -/
import Derived.Test.YtghjnkfocjjlnaaGreatT06
set_option linter.unusedSimpArgs false
set_option linter.unusedVariables false
namespace Go.Proofs.YtghjnkfocjjlnaaGreat
set_option maxRecDepth 100000
open Go.RowKit (wrap64)
theorem hang_tr {a : Ar} {t x : Int} {l : List Pr} (h : Tr a x l) (hx : x < t) : hangO (some a) t x = x := by
  unfold hangO
  rcases h.arg with rfl | hn
  · split <;> rfl
  · rw [if_pos ⟨hn, hx⟩]
theorem getH_tr {a : Ar} {t k v x y : Int} {l1 l2 : List Pr} {s g : Int} (hg : getN (some a) t = ⟨k, v, x, y, s, g⟩) (hx : x < t) (hy : y < t) (h1 : Tr a x l1) (h2 : Tr a y l2) : getH (some a) t = ⟨k, v, x, y, s, g⟩ := by
  unfold getH
  rw [hg]
  simp only []
  rw [hang_tr h1 hx, hang_tr h2 hy]
theorem Tr.sizeO {a : Ar} {t : Int} {l : List Pr} (h : Tr a t l) : sizeO (some a) t = l.length := h.size.1
def gotP (l : List Pr) (key : Int) : Int × Bool := match l.find? (fun p => p.1 == key) with | some p => (p.2, true) | none => (0, false)
theorem find_none {l : List Pr} {key : Int} (h : ∀ p ∈ l, p.1 ≠ key) : l.find? (fun p => p.1 == key) = none := List.find?_eq_none.2 fun p hp => by simpa using h p hp
theorem lgF_tr {a : Ar} {t : Int} {l : List Pr} (h : Tr a t l) (hs : Sorted l) (key : Int) : ∀ n : Nat, t < n → lgF n (some a) t key = gotP l key := by
  induction h with
  | nil => intro n _; rw [lgF_no (isN_zero a)]; rfl
  | node t k v x y l1 l2 hn hg ht hx hy h1 h2 i1 i2 =>
    intro n hlt
    obtain ⟨s1, s2, s3, s4, s5⟩ := sorted_mid.1 hs
    have hp := isN_pos hn
    obtain ⟨m, rfl⟩ : ∃ m, n = m + 1 := ⟨n - 1, by omega⟩
    rw [lgF_yes hn, getH_tr hg hx hy h1 h2]
    simp only []
    unfold gotP
    rw [List.find?_append, List.find?_cons]
    by_cases hk : k = key
    · subst hk
      rw [if_pos rfl, find_none (fun p hp => by have := s3 p hp; simp only [] at this; omega)]
      simp
    · rw [if_neg hk]
      have hkb : (k == key) = false := beq_eq_false_iff_ne.2 hk
      by_cases hlk : key < k
      · rw [if_pos hlk, i1 s1 m (by omega), find_none (l := l2) (fun p hp => by have := s4 p hp; simp only [] at this; omega)]
        unfold gotP
        simp [hkb]
      · rw [if_neg hlk, i2 s2 m (by omega), find_none (l := l1) (fun p hp => by have := s3 p hp; simp only [] at this; omega)]
        unfold gotP
        simp [hkb]
def belowP (l : List Pr) (key : Int) : Nat := (l.filter (fun p => p.1 < key)).length
theorem filter_all {l : List Pr} {key : Int} (h : ∀ p ∈ l, p.1 < key) : l.filter (fun p => p.1 < key) = l := List.filter_eq_self.2 fun p hp => by simpa using h p hp
theorem filter_nil {l : List Pr} {key : Int} (h : ∀ p ∈ l, key ≤ p.1) : l.filter (fun p => p.1 < key) = [] := List.filter_eq_nil_iff.2 fun p hp => by simpa using h p hp
theorem belowP_mid {l1 l2 : List Pr} {x : Pr} (key : Int) (hs : Sorted (l1 ++ x :: l2)) : belowP (l1 ++ x :: l2) key = if x.1 = key then l1.length else if key < x.1 then belowP l1 key else l1.length + 1 + belowP l2 key := by
  obtain ⟨s1, s2, s3, s4, s5⟩ := sorted_mid.1 hs
  unfold belowP
  rw [List.filter_append, List.filter_cons]
  by_cases hk : x.1 = key
  · rw [if_pos hk, filter_all (fun p hp => by have := s3 p hp; omega), if_neg (by simp; omega), filter_nil (fun p hp => by have := s4 p hp; omega)]
    simp
  · rw [if_neg hk]
    by_cases hlk : key < x.1
    · rw [if_pos hlk, if_neg (by simp; omega), filter_nil (l := l2) (fun p hp => by have := s4 p hp; omega)]
      simp
    · rw [if_neg hlk, if_pos (by simp; omega), filter_all (l := l1) (fun p hp => by have := s3 p hp; omega)]
      simp; omega
theorem lbF_tr {a : Ar} {t : Int} {l : List Pr} (h : Tr a t l) (hs : Sorted l) (key : Int) : ∀ (n : Nat) (out : Nat), t < n → out + l.length ≤ 1000000 → lbF n (some a) t key out = ((out + belowP l key : Nat) : Int) := by
  induction h with
  | nil => intro n out _ _; rw [lbF_no (isN_zero a)]; rfl
  | node t k v x y l1 l2 hn hg ht hx hy h1 h2 i1 i2 =>
    intro n out hlt hout
    obtain ⟨s1, s2, s3, s4, s5⟩ := sorted_mid.1 hs
    have hp := isN_pos hn
    have hl : (l1 ++ (k, v) :: l2).length = l1.length + l2.length + 1 := by simp; omega
    obtain ⟨m, rfl⟩ : ∃ m, n = m + 1 := ⟨n - 1, by omega⟩
    rw [lbF_yes hn, getH_tr hg hx hy h1 h2, belowP_mid key hs]
    simp only []
    rw [h1.sizeO]
    by_cases hk : k = key
    · rw [if_pos hk, if_pos hk, wrap_id (by omega) (by omega)]; omega
    · rw [if_neg hk, if_neg hk]
      by_cases hlk : key < k
      · rw [if_pos hlk, if_pos hlk, i1 s1 m out (by omega) (by omega)]
      · rw [if_neg hlk, if_neg hlk, wrap_id (x := (l1.length : Int) + 1) (by omega) (by omega), wrap_id (by omega) (by omega)]
        have := i2 s2 m (out + (l1.length + 1)) (by omega) (by omega)
        rw [show ((out : Int) + ((l1.length : Int) + 1)) = ((out + (l1.length + 1) : Nat) : Int) by omega, this]
        omega
theorem lnF_tr {a : Ar} {t : Int} {l : List Pr} (h : Tr a t l) : ∀ (n : Nat) (i : Nat) (hi : i < l.length), t < n → l.length ≤ 1000000 → lnF n (some a) t i = ((l[i]).1, (l[i]).2, true) := by
  induction h with
  | nil => intro n i hi; simp at hi
  | node t k v x y l1 l2 hn hg ht hx hy h1 h2 i1 i2 =>
    intro n i hi hlt hlen
    have hp := isN_pos hn
    have hl : (l1 ++ (k, v) :: l2).length = l1.length + l2.length + 1 := by simp; omega
    obtain ⟨m, rfl⟩ : ∃ m, n = m + 1 := ⟨n - 1, by omega⟩
    rw [lnF_yes hn, getH_tr hg hx hy h1 h2]
    simp only []
    rw [h1.sizeO]
    by_cases hk : i = l1.length
    · subst hk
      rw [if_pos rfl]
      simp
    · rw [if_neg (by omega)]
      by_cases hlk : i < l1.length
      · rw [if_pos (by omega), i1 m i hlk (by omega) (by omega), List.getElem_append_left hlk]
      · rw [if_neg (by omega), wrap_id (x := (i : Int) - l1.length) (by omega) (by omega), wrap_id (by omega) (by omega)]
        obtain ⟨j, rfl⟩ : ∃ j, i = l1.length + (j + 1) := ⟨i - l1.length - 1, by omega⟩
        rw [show (((l1.length + (j + 1) : Nat) : Int) - l1.length - 1) = (j : Int) by omega, i2 m j (by omega) (by omega) (by omega)]
        simp [List.getElem_append_right]
theorem nthO_tr {a : Ar} {t : Int} {l : List Pr} (h : Tr a t l) (n : Nat) (i : Int) (ht : t < n) (hlen : l.length ≤ 1000000) : nthO n (some a) t i = if hi : 0 ≤ i ∧ i < l.length then ((l[i.toNat]'(by omega)).1, (l[i.toNat]'(by omega)).2, true) else (0, 0, false) := by
  unfold nthO
  rw [h.size.1]
  by_cases hi : 0 ≤ i ∧ i < l.length
  · rw [dif_pos hi, if_neg (by omega)]
    have := lnF_tr h n i.toNat (by omega) ht hlen
    rw [show ((i.toNat : Nat) : Int) = i by omega] at this
    exact this
  · rw [dif_neg hi, if_pos (by omega)]
end Go.Proofs.YtghjnkfocjjlnaaGreat
namespace Go.Proofs.YtghjnkfocjjlnaaGreat
set_option maxRecDepth 100000
open Go.RowKit (wrap64)
open Go.Proofs.YtghjnkfocjjlnaaGreat.Mix
/-- The pairs below a key, and the others: two numbers, why not, the arena behind it. -/
def splitF : Nat → OA → Int → Int → Int × Int × Int × OA
  | 0, A, _, _ => (0, 0, 0, A)
  | n + 1, A, t, key =>
    if isN A t = false then (0, 0, 0, A)
    else if (getH A t).key < key then
      (if (splitF n A (getH A t).right key).2.2.1 = 0 then
        ((makeN (splitF n A (getH A t).right key).2.2.2 (getH A t).key (getH A t).val (getH A t).left (splitF n A (getH A t).right key).1).1,
         (splitF n A (getH A t).right key).2.1,
         (makeN (splitF n A (getH A t).right key).2.2.2 (getH A t).key (getH A t).val (getH A t).left (splitF n A (getH A t).right key).1).2.1,
         (makeN (splitF n A (getH A t).right key).2.2.2 (getH A t).key (getH A t).val (getH A t).left (splitF n A (getH A t).right key).1).2.2)
       else splitF n A (getH A t).right key)
    else
      (if (splitF n A (getH A t).left key).2.2.1 = 0 then
        ((splitF n A (getH A t).left key).1,
         (makeN (splitF n A (getH A t).left key).2.2.2 (getH A t).key (getH A t).val (splitF n A (getH A t).left key).2.1 (getH A t).right).1,
         (makeN (splitF n A (getH A t).left key).2.2.2 (getH A t).key (getH A t).val (splitF n A (getH A t).left key).2.1 (getH A t).right).2.1,
         (makeN (splitF n A (getH A t).left key).2.2.2 (getH A t).key (getH A t).val (splitF n A (getH A t).left key).2.1 (getH A t).right).2.2)
       else splitF n A (getH A t).left key)
/-- The same, but that nothing is told where it is refused further down. -/
def partsF : Nat → OA → Int → Int → Int × Int × Int × OA
  | 0, A, _, _ => (0, 0, 0, A)
  | n + 1, A, t, key =>
    if isN A t = false then (0, 0, 0, A)
    else if (getH A t).key < key then
      (if (partsF n A (getH A t).right key).2.2.1 = 0 then
        ((makeN (partsF n A (getH A t).right key).2.2.2 (getH A t).key (getH A t).val (getH A t).left (partsF n A (getH A t).right key).1).1,
         (partsF n A (getH A t).right key).2.1,
         (makeN (partsF n A (getH A t).right key).2.2.2 (getH A t).key (getH A t).val (getH A t).left (partsF n A (getH A t).right key).1).2.1,
         (makeN (partsF n A (getH A t).right key).2.2.2 (getH A t).key (getH A t).val (getH A t).left (partsF n A (getH A t).right key).1).2.2)
       else (0, 0, (partsF n A (getH A t).right key).2.2))
    else
      (if (partsF n A (getH A t).left key).2.2.1 = 0 then
        ((partsF n A (getH A t).left key).1,
         (makeN (partsF n A (getH A t).left key).2.2.2 (getH A t).key (getH A t).val (partsF n A (getH A t).left key).2.1 (getH A t).right).1,
         (makeN (partsF n A (getH A t).left key).2.2.2 (getH A t).key (getH A t).val (partsF n A (getH A t).left key).2.1 (getH A t).right).2.1,
         (makeN (partsF n A (getH A t).left key).2.2.2 (getH A t).key (getH A t).val (partsF n A (getH A t).left key).2.1 (getH A t).right).2.2)
       else (0, 0, (partsF n A (getH A t).left key).2.2))
/-- A pair more, on the way down. -/
noncomputable def putF : Nat → OA → Int → Int → Int → Int × Int × OA
  | 0, A, _, _, _ => (0, 0, A)
  | n + 1, A, t, k, v =>
    if isN A t = false then makeN A k v 0 0
    else if (getH A t).key = k then makeN A k v (getH A t).left (getH A t).right
    else if above k (getH A t).key = true then
      (if (splitF (n + 1) A t k).2.2.1 = 0 then makeN (splitF (n + 1) A t k).2.2.2 k v (splitF (n + 1) A t k).1 (splitF (n + 1) A t k).2.1
       else (0, (splitF (n + 1) A t k).2.2))
    else if k < (getH A t).key then
      (if (putF n A (getH A t).left k v).2.1 = 0 then makeN (putF n A (getH A t).left k v).2.2 (getH A t).key (getH A t).val (putF n A (getH A t).left k v).1 (getH A t).right
       else (0, (putF n A (getH A t).left k v).2))
    else
      (if (putF n A (getH A t).right k v).2.1 = 0 then makeN (putF n A (getH A t).right k v).2.2 (getH A t).key (getH A t).val (getH A t).left (putF n A (getH A t).right k v).1
       else (0, (putF n A (getH A t).right k v).2))
/-- Two treaps in one. -/
noncomputable def mergeF : Nat → OA → Int → Int → Int × Int × OA
  | 0, A, _, _ => (0, 0, A)
  | n + 1, A, l, r =>
    if isN A l = false then (r, 0, A)
    else if isN A r = false then (l, 0, A)
    else if above (getN A l).key (getN A r).key = true then
      (if (mergeF n A (hangO A l (getN A l).right) r).2.1 = 0 then
        makeN (mergeF n A (hangO A l (getN A l).right) r).2.2 (getN A l).key (getN A l).val (hangO (mergeF n A (hangO A l (getN A l).right) r).2.2 l (getN A l).left) (mergeF n A (hangO A l (getN A l).right) r).1
       else (0, (mergeF n A (hangO A l (getN A l).right) r).2))
    else
      (if (mergeF n A l (hangO A r (getN A r).left)).2.1 = 0 then
        makeN (mergeF n A l (hangO A r (getN A r).left)).2.2 (getN A r).key (getN A r).val (mergeF n A l (hangO A r (getN A r).left)).1 (hangO (mergeF n A l (hangO A r (getN A r).left)).2.2 r (getN A r).right)
       else (0, (mergeF n A l (hangO A r (getN A r).left)).2))
/-- A key less, on the way down. -/
noncomputable def cutF : Nat → OA → Int → Int → Int × Int × OA
  | 0, A, _, _ => (0, 0, A)
  | n + 1, A, t, key =>
    if isN A t = false then (0, 0, A)
    else if (getH A t).key = key then mergeF ((getH A t).left.toNat + (getH A t).right.toNat + 1) A (getH A t).left (getH A t).right
    else if key < (getH A t).key then
      (if (cutF n A (getH A t).left key).2.1 = 0 then makeN (cutF n A (getH A t).left key).2.2 (getH A t).key (getH A t).val (cutF n A (getH A t).left key).1 (getH A t).right
       else (0, (cutF n A (getH A t).left key).2))
    else
      (if (cutF n A (getH A t).right key).2.1 = 0 then makeN (cutF n A (getH A t).right key).2.2 (getH A t).key (getH A t).val (getH A t).left (cutF n A (getH A t).right key).1
       else (0, (cutF n A (getH A t).right key).2))
/-- Is there such a treap? -/
def isT (A : OA) (t : Int) : Bool := A.isSome && (decide (t = 0) || isN A t)
def fuel (t : Int) : Nat := t.toNat + 1
theorem lt_fuel (t : Int) : t < fuel t := by unfold fuel; omega
/-- Put: the treap, what was there, was there one, why not, the arena behind it. -/
noncomputable def putO (A : OA) (t k v : Int) : Int × Int × Bool × Int × OA :=
  if isT A t = false then (0, 0, false, 1, A)
  else if (putF (fuel t) A t k v).2.1 = 0 then ((putF (fuel t) A t k v).1, (lgF (fuel t) A t k).1, (lgF (fuel t) A t k).2, 0, (putF (fuel t) A t k v).2.2)
  else (0, 0, false, (putF (fuel t) A t k v).2)
noncomputable def addO (A : OA) (t k v : Int) : Int × Int × Bool × Int × OA :=
  if isT A t = false then (0, 0, false, 1, A)
  else if (lgF (fuel t) A t k).2 = true then (t, (lgF (fuel t) A t k).1, true, 0, A) else putO A t k v
noncomputable def cutO (A : OA) (t key : Int) : Int × Int × Bool × Int × OA :=
  if isT A t = false then (0, 0, false, 1, A)
  else if (lgF (fuel t) A t key).2 = false then (t, 0, false, 0, A)
  else if (cutF (fuel t) A t key).2.1 = 0 then ((cutF (fuel t) A t key).1, (lgF (fuel t) A t key).1, true, 0, (cutF (fuel t) A t key).2.2)
  else (0, 0, false, (cutF (fuel t) A t key).2)
def partO (A : OA) (t key : Int) : Int × Int × Int × OA :=
  if isT A t = false then (0, 0, 1, A)
  else if (partsF (fuel t) A t key).2.2.1 = 0 then partsF (fuel t) A t key else (0, 0, (partsF (fuel t) A t key).2.2)
/-- The key at which a treap is parted in halves. -/
def midO (A : OA) (t : Int) : Int × Bool := if sizeO A t < 2 then (0, false) else ((nthO (fuel t) A t (wrap64 ((sizeO A t).tdiv 2))).1, (nthO (fuel t) A t (wrap64 ((sizeO A t).tdiv 2))).2.2)
def halfO (A : OA) (t : Int) : Int × Int × Int × Int × OA :=
  if isT A t = false then (0, 0, 0, 1, A)
  else if (midO A t).2 = false then (0, 0, 0, 3, A)
  else if (partO A t (midO A t).1).2.2.1 = 0 then ((midO A t).1, partO A t (midO A t).1) else (0, 0, 0, (partO A t (midO A t).1).2.2)
end Go.Proofs.YtghjnkfocjjlnaaGreat
namespace Go.Proofs.YtghjnkfocjjlnaaGreat
set_option maxRecDepth 100000
open Go.Proofs.YtghjnkfocjjlnaaGreat.Mix
def fits (a : Ar) : Prop := (a.slots.length : Int) ≤ a.room
/-- A treap of l, made with no more than n records; or refused, for there is no room. -/
def Got1 (a : Ar) (n : Nat) (l : List Pr) (R : Int × Int × OA) : Prop :=
  ∃ a', R.2.2 = some a' ∧ Ext a a' ∧ fits a' ∧ a'.slots.length ≤ a.slots.length + n ∧
    ((R.2.1 = 0 ∧ Tr a' R.1 l) ∨ (R.1 = 0 ∧ R.2.1 = 2 ∧ (a'.slots.length : Int) = a'.room ∧ a'.slots.length < a.slots.length + n))
def Got2 (a : Ar) (n : Nat) (l m : List Pr) (R : Int × Int × Int × OA) : Prop :=
  ∃ a', R.2.2.2 = some a' ∧ Ext a a' ∧ fits a' ∧ a'.slots.length ≤ a.slots.length + n ∧
    ((R.2.2.1 = 0 ∧ Tr a' R.1 l ∧ Tr a' R.2.1 m) ∨ (R.2.2.1 = 2 ∧ (a'.slots.length : Int) = a'.room ∧ a'.slots.length < a.slots.length + n))
theorem Got1.weak {a : Ar} {n m : Nat} {l : List Pr} {R : Int × Int × OA} (h : Got1 a n l R) (hm : n ≤ m) : Got1 a m l R := by
  obtain ⟨a', h1, h2, h3, h4, h5⟩ := h
  exact ⟨a', h1, h2, h3, by omega, h5.imp id (fun ⟨p, q, r, s⟩ => ⟨p, q, r, by omega⟩)⟩
theorem Got1.room {a : Ar} {n : Nat} {l : List Pr} {R : Int × Int × OA} (h : Got1 a n l R) (hr : (a.slots.length : Int) + n ≤ a.room) :
    ∃ a', R.2.2 = some a' ∧ Ext a a' ∧ fits a' ∧ a'.slots.length ≤ a.slots.length + n ∧ R.2.1 = 0 ∧ Tr a' R.1 l := by
  obtain ⟨a', h1, h2, h3, h4, h5⟩ := h
  refine ⟨a', h1, h2, h3, h4, ?_⟩
  rcases h5 with h5 | ⟨_, _, h6, h7⟩
  · exact h5
  · have := h2.1; omega
theorem Got2.room {a : Ar} {n : Nat} {l m : List Pr} {R : Int × Int × Int × OA} (h : Got2 a n l m R) (hr : (a.slots.length : Int) + n ≤ a.room) :
    ∃ a', R.2.2.2 = some a' ∧ Ext a a' ∧ fits a' ∧ a'.slots.length ≤ a.slots.length + n ∧ R.2.2.1 = 0 ∧ Tr a' R.1 l ∧ Tr a' R.2.1 m := by
  obtain ⟨a', h1, h2, h3, h4, h5⟩ := h
  refine ⟨a', h1, h2, h3, h4, ?_⟩
  rcases h5 with h5 | ⟨_, h6, h7⟩
  · exact h5
  · have := h2.1; omega
theorem make_got {a : Ar} {x y k v : Int} {l1 l2 : List Pr} (h1 : Tr a x l1) (h2 : Tr a y l2) (ht : top (l1 ++ (k, v) :: l2) = (l1.length : Int)) (hlen : (l1 ++ (k, v) :: l2).length ≤ 1000000) (hf : fits a) :
    Got1 a 1 (l1 ++ (k, v) :: l2) (makeN (some a) k v x y) := by
  unfold fits at hf
  by_cases hr : a.room - (a.slots.length : Int) = 0
  · rw [make_full h1 h2 hr]
    exact ⟨a, rfl, Ext.refl a, hf, by omega, .inr ⟨rfl, rfl, by omega, by omega⟩⟩
  · obtain ⟨a', e, x', l', t'⟩ := make_tr h1 h2 ht hlen (by omega)
    rw [e]
    exact ⟨a', rfl, x', by unfold fits; have := x'.1; omega, by omega, .inl ⟨rfl, t'⟩⟩
/-- One treap, then a node above it. -/
theorem Got1.then_ {a : Ar} {n : Nat} {l l' : List Pr} {R : Int × Int × OA} (h : Got1 a n l R) (g : OA → Int → Int × Int × OA)
    (hg : ∀ a', Ext a a' → fits a' → Tr a' R.1 l → Got1 a' 1 l' (g (some a') R.1)) : Got1 a (n + 1) l' (if R.2.1 = 0 then g R.2.2 R.1 else (0, R.2)) := by
  obtain ⟨a1, h1, h2, h3, h4, h5⟩ := h
  rcases h5 with ⟨e0, t0⟩ | ⟨_, e2, f2, c2⟩
  · rw [if_pos e0, h1]
    obtain ⟨a2, g1, g2, g3, g4, g5⟩ := hg a1 h2 h3 t0
    exact ⟨a2, g1, h2.trans g2, g3, by omega, g5.imp id (fun ⟨p, q, r, s⟩ => ⟨p, q, r, by omega⟩)⟩
  · rw [if_neg (by omega)]
    exact ⟨a1, h1, h2, h3, by omega, .inr ⟨rfl, e2, f2, by omega⟩⟩
def lo (key : Int) (l : List Pr) : List Pr := l.filter (fun p => decide (p.1 < key))
def hi (key : Int) (l : List Pr) : List Pr := l.filter (fun p => decide (key ≤ p.1))
theorem lo_sub (key : Int) (l : List Pr) : (lo key l).Sublist l := List.filter_sublist
theorem hi_sub (key : Int) (l : List Pr) : (hi key l).Sublist l := List.filter_sublist
theorem lo_mem {key : Int} {l : List Pr} {p : Pr} (h : p ∈ lo key l) : p ∈ l ∧ p.1 < key := by simpa [lo] using h
theorem hi_mem {key : Int} {l : List Pr} {p : Pr} (h : p ∈ hi key l) : p ∈ l ∧ key ≤ p.1 := by simpa [hi] using h
theorem lo_all {key : Int} {l : List Pr} (h : ∀ p ∈ l, p.1 < key) : lo key l = l := List.filter_eq_self.2 fun p hp => by simpa using h p hp
theorem lo_none {key : Int} {l : List Pr} (h : ∀ p ∈ l, key ≤ p.1) : lo key l = [] := List.filter_eq_nil_iff.2 fun p hp => by simpa using h p hp
theorem hi_all {key : Int} {l : List Pr} (h : ∀ p ∈ l, key ≤ p.1) : hi key l = l := List.filter_eq_self.2 fun p hp => by simpa using h p hp
theorem hi_none {key : Int} {l : List Pr} (h : ∀ p ∈ l, p.1 < key) : hi key l = [] := List.filter_eq_nil_iff.2 fun p hp => by simpa using h p hp
theorem mid_lt {key : Int} {l1 l2 : List Pr} {x : Pr} (hs : Sorted (l1 ++ x :: l2)) (hk : x.1 < key) : lo key (l1 ++ x :: l2) = l1 ++ x :: lo key l2 ∧ hi key (l1 ++ x :: l2) = hi key l2 := by
  obtain ⟨s1, s2, s3, s4, s5⟩ := sorted_mid.1 hs
  constructor
  · unfold lo
    rw [List.filter_append, List.filter_cons, if_pos (by simpa using hk)]
    congr 1
    exact lo_all (key := key) (fun p hp => by have := s3 p hp; omega)
  · unfold hi
    rw [List.filter_append, List.filter_cons, if_neg (by simpa using hk)]
    have : l1.filter (fun p => decide (key ≤ p.1)) = [] := hi_none (key := key) (fun p hp => by have := s3 p hp; omega)
    rw [this, List.nil_append]
theorem mid_ge {key : Int} {l1 l2 : List Pr} {x : Pr} (hs : Sorted (l1 ++ x :: l2)) (hk : key ≤ x.1) : lo key (l1 ++ x :: l2) = lo key l1 ∧ hi key (l1 ++ x :: l2) = hi key l1 ++ x :: l2 := by
  obtain ⟨s1, s2, s3, s4, s5⟩ := sorted_mid.1 hs
  constructor
  · unfold lo
    rw [List.filter_append, List.filter_cons, if_neg (by simp; omega)]
    have : l2.filter (fun p => decide (p.1 < key)) = [] := lo_none (key := key) (fun p hp => by have := s4 p hp; omega)
    rw [this, List.append_nil]
  · unfold hi
    rw [List.filter_append, List.filter_cons, if_pos (by simpa using hk)]
    congr 2
    exact hi_all (key := key) (fun p hp => by have := s4 p hp; omega)
theorem lo_hi {l : List Pr} (hs : Sorted l) (key : Int) : lo key l ++ hi key l = l := by
  induction l with
  | nil => rfl
  | cons x r ih =>
    have h := List.pairwise_cons.1 hs
    by_cases hk : x.1 < key
    · have := mid_lt (l1 := []) (x := x) (l2 := r) hs hk
      rw [List.nil_append] at this
      rw [this.1, this.2, List.nil_append, List.cons_append, ih h.2]
    · have := mid_ge (l1 := []) (x := x) (l2 := r) hs (show key ≤ x.1 by omega)
      rw [List.nil_append] at this
      rw [this.1, this.2]
      rfl
theorem Sorted.sub {l m : List Pr} (h : Sorted l) (hm : m.Sublist l) : Sorted m := List.Pairwise.sublist hm h
theorem hgt_mid {l1 l2 : List Pr} {x : Pr} (ht : top (l1 ++ x :: l2) = (l1.length : Int)) : hgt (l1 ++ x :: l2) = 1 + max (hgt l1) (hgt l2) := by
  rw [hgt_at ht]; simp
/-- With fewer pairs on the sides the one in the middle stays above all others. -/
theorem top_sub {l1 l2 m1 m2 : List Pr} {x : Pr} (hs : Sorted (l1 ++ x :: l2)) (ht : top (l1 ++ x :: l2) = (l1.length : Int)) (h1 : m1.Sublist l1) (h2 : m2.Sublist l2) : top (m1 ++ x :: m2) = (m1.length : Int) := by
  obtain ⟨t1, t2⟩ := top_above hs ht
  exact top_of (hs.sub (h1.append (h2.cons_cons x))) (fun y hy => t1 y (h1.subset hy)) (fun y hy => t2 y (h2.subset hy))
theorem sub_len {l m : List Pr} (h : m.Sublist l) : m.length ≤ l.length := h.length_le
theorem splitF_no {n : Nat} {A : OA} {t key : Int} (h : isN A t = false) : splitF n A t key = (0, 0, 0, A) := by
  cases n with
  | zero => rfl
  | succ n => simp only [splitF]; rw [if_pos h]
theorem partsF_no {n : Nat} {A : OA} {t key : Int} (h : isN A t = false) : partsF n A t key = (0, 0, 0, A) := by
  cases n with
  | zero => rfl
  | succ n => simp only [partsF]; rw [if_pos h]
theorem split_tr {a : Ar} {t : Int} {l : List Pr} (h : Tr a t l) (hs : Sorted l) (hlen : l.length ≤ 1000000) (hf : fits a) (key : Int) : ∀ n : Nat, t < n → Got2 a (hgt l) (lo key l) (hi key l) (splitF n (some a) t key) := by
  induction h with
  | nil => intro n _; rw [splitF_no (isN_zero a)]; exact ⟨a, rfl, Ext.refl a, hf, by omega, .inl ⟨rfl, .nil, .nil⟩⟩
  | node t k v x y l1 l2 hn hg ht hx hy h1 h2 i1 i2 =>
    intro n hlt
    obtain ⟨s1, s2, s3, s4, s5⟩ := sorted_mid.1 hs
    have hp := isN_pos hn
    have hl : (l1 ++ (k, v) :: l2).length = l1.length + l2.length + 1 := by simp; omega
    obtain ⟨m, rfl⟩ : ∃ m, n = m + 1 := ⟨n - 1, by omega⟩
    have hh := hgt_mid ht
    simp only [splitF]
    rw [if_neg (by rw [hn]; decide), getH_tr hg hx hy h1 h2]
    simp only []
    by_cases hk : k < key
    · obtain ⟨e1, e2⟩ := mid_lt hs hk
      rw [if_pos hk, e1, e2]
      obtain ⟨a1, g1, g2, g3, g4, g5⟩ := i2 s2 (by omega) m (by omega)
      generalize splitF m (some a) y key = R at g1 g5 ⊢
      obtain ⟨rl, rr, re, RA⟩ := R
      simp only [] at g1 g5 ⊢
      subst g1
      rcases g5 with ⟨rfl, ta, tb⟩ | ⟨rfl, f2, c2⟩
      · rw [if_pos rfl]
        obtain ⟨a2, k1, k2, k3, k4, k5⟩ := make_got (k := k) (v := v) (h1.ext g2) ta (top_sub hs ht (List.Sublist.refl _) (lo_sub key l2)) (by have := sub_len (lo_sub key l2); simp at *; omega) g3
        exact ⟨a2, k1, g2.trans k2, k3, by omega, k5.elim (fun ⟨p, q⟩ => .inl ⟨p, q, tb.ext k2⟩) (fun ⟨_, p, q, r⟩ => .inr ⟨p, q, by omega⟩)⟩
      · rw [if_neg (by decide)]
        exact ⟨a1, rfl, g2, g3, by omega, .inr ⟨rfl, f2, by omega⟩⟩
    · obtain ⟨e1, e2⟩ := mid_ge hs (show key ≤ k by omega)
      rw [if_neg hk, e1, e2]
      obtain ⟨a1, g1, g2, g3, g4, g5⟩ := i1 s1 (by omega) m (by omega)
      generalize splitF m (some a) x key = R at g1 g5 ⊢
      obtain ⟨rl, rr, re, RA⟩ := R
      simp only [] at g1 g5 ⊢
      subst g1
      rcases g5 with ⟨rfl, ta, tb⟩ | ⟨rfl, f2, c2⟩
      · rw [if_pos rfl]
        obtain ⟨a2, k1, k2, k3, k4, k5⟩ := make_got (k := k) (v := v) tb (h2.ext g2) (top_sub hs ht (hi_sub key l1) (List.Sublist.refl _)) (by have := sub_len (hi_sub key l1); simp at *; omega) g3
        exact ⟨a2, k1, g2.trans k2, k3, by omega, k5.elim (fun ⟨p, q⟩ => .inl ⟨p, ta.ext k2, q⟩) (fun ⟨_, p, q, r⟩ => .inr ⟨p, q, by omega⟩)⟩
      · rw [if_neg (by decide)]
        exact ⟨a1, rfl, g2, g3, by omega, .inr ⟨rfl, f2, by omega⟩⟩
theorem ins_left {l1 l2 : List Pr} {x p : Pr} (h : p.1 < x.1) : ins (l1 ++ x :: l2) p = ins l1 p ++ x :: l2 := by
  induction l1 with
  | nil => simp only [List.nil_append, ins]; rw [if_pos h]; rfl
  | cons y r ih =>
    simp only [List.cons_append, ins]
    split
    · rfl
    · split
      · rfl
      · rw [ih]; rfl
theorem ins_right {l1 l2 : List Pr} {x p : Pr} (h : x.1 < p.1) (h1 : ∀ y ∈ l1, y.1 < p.1) : ins (l1 ++ x :: l2) p = l1 ++ x :: ins l2 p := by
  induction l1 with
  | nil => simp only [List.nil_append, ins]; rw [if_neg (by omega), if_neg (by omega)]
  | cons y r ih =>
    have hy := h1 y (List.mem_cons_self ..)
    simp only [List.cons_append, ins]
    rw [if_neg (by omega), if_neg (by omega), ih (fun z hz => h1 z (List.mem_cons_of_mem _ hz))]
theorem ins_same {l1 l2 : List Pr} {x p : Pr} (h : x.1 = p.1) (h1 : ∀ y ∈ l1, y.1 < p.1) : ins (l1 ++ x :: l2) p = l1 ++ p :: l2 := by
  induction l1 with
  | nil => simp only [List.nil_append, ins]; rw [if_neg (by omega), if_pos h.symm]
  | cons y r ih =>
    have hy := h1 y (List.mem_cons_self ..)
    simp only [List.cons_append, ins]
    rw [if_neg (by omega), if_neg (by omega), ih (fun z hz => h1 z (List.mem_cons_of_mem _ hz))]
theorem ins_lohi {l : List Pr} {p : Pr} (hs : Sorted l) (hn : ∀ y ∈ l, y.1 ≠ p.1) : ins l p = lo p.1 l ++ p :: hi p.1 l := by
  induction l with
  | nil => rfl
  | cons x r ih =>
    have h := List.pairwise_cons.1 hs
    have hx := hn x (List.mem_cons_self ..)
    by_cases hk : x.1 < p.1
    · have := mid_lt (l1 := []) (x := x) (l2 := r) hs hk
      rw [List.nil_append] at this
      rw [this.1, this.2]
      simp only [ins]
      rw [if_neg (by omega), if_neg (by omega), ih h.2 (fun y hy => hn y (List.mem_cons_of_mem _ hy))]
      rfl
    · have := mid_ge (l1 := []) (x := x) (l2 := r) hs (show p.1 ≤ x.1 by omega)
      rw [List.nil_append] at this
      rw [this.1, this.2]
      simp only [ins]
      rw [if_pos (by omega)]
      rfl
theorem ins_len (l : List Pr) (p : Pr) : (ins l p).length ≤ l.length + 1 := by
  induction l with
  | nil => simp [ins]
  | cons x r ih =>
    simp only [ins]
    split
    · simp
    · split
      · simp
      · simp; omega
theorem putF_no {n : Nat} {A : OA} {t k v : Int} (h : isN A t = false) : putF (n + 1) A t k v = makeN A k v 0 0 := by
  simp only [putF]; rw [if_pos h]
theorem put_tr {a : Ar} {t : Int} {l : List Pr} (h : Tr a t l) (hs : Sorted l) (hlen : l.length < 1000000) (hf : fits a) (k v : Int) : ∀ n : Nat, t < n → 0 < n → Got1 a (hgt l + 1) (ins l (k, v)) (putF n (some a) t k v) := by
  induction h with
  | nil =>
    intro n _ h0
    obtain ⟨m, rfl⟩ : ∃ m, n = m + 1 := ⟨n - 1, by omega⟩
    rw [putF_no (isN_zero a)]
    exact (make_got (k := k) (v := v) (l1 := []) (l2 := []) .nil .nil (by simp [top, topB]) (by simp) hf).weak (by omega)
  | node t nk nv x y l1 l2 hn hg ht hx hy h1 h2 i1 i2 =>
    intro n hlt _
    obtain ⟨s1, s2, s3, s4, s5⟩ := sorted_mid.1 hs
    obtain ⟨u1, u2⟩ := top_above hs ht
    have hp := isN_pos hn
    have hl : (l1 ++ (nk, nv) :: l2).length = l1.length + l2.length + 1 := by simp; omega
    obtain ⟨m, rfl⟩ : ∃ m, n = m + 1 := ⟨n - 1, by omega⟩
    have hh := hgt_mid ht
    have hm : 0 < m := by omega
    simp only [putF]
    rw [if_neg (by rw [hn]; decide), getH_tr hg hx hy h1 h2]
    simp only [] at s3 s4 u1 u2 ⊢
    by_cases hk : nk = k
    · subst hk
      rw [if_pos rfl, ins_same (x := (nk, nv)) (p := (nk, v)) rfl (fun z hz => s3 z hz)]
      have hsv : Sorted (l1 ++ (nk, v) :: l2) := sorted_mid.2 ⟨s1, s2, s3, s4, s5⟩
      exact (make_got h1 h2 (top_of hsv u1 u2) (by simp at *; omega) hf).weak (by omega)
    · rw [if_neg hk]
      by_cases ha : above k nk = true
      · rw [if_pos ha]
        have hne : ∀ z ∈ l1 ++ (nk, nv) :: l2, above k z.1 = true := by
          intro z hz
          rcases List.mem_append.1 hz with hz | hz
          · exact above_trans ha (u1 z hz)
          · rcases List.mem_cons.1 hz with rfl | hz
            · exact ha
            · exact above_trans ha (u2 z hz)
        have hnk : ∀ z ∈ l1 ++ (nk, nv) :: l2, z.1 ≠ k := fun z hz e => by have := hne z hz; rw [e, above_irrefl] at this; exact absurd this (by decide)
        have hins := ins_lohi (p := (k, v)) hs hnk
        have hsi := ins_sorted (p := (k, v)) hs
        rw [hins] at hsi ⊢
        simp only [] at hsi ⊢
        obtain ⟨a1, g1, g2, g3, g4, g5⟩ := split_tr (.node t nk nv x y l1 l2 hn hg ht hx hy h1 h2) hs (by omega) hf k (m + 1) hlt
        have hlen2 : (lo k (l1 ++ (nk, nv) :: l2) ++ (k, v) :: hi k (l1 ++ (nk, nv) :: l2)).length ≤ 1000000 := by
          have := congrArg List.length (lo_hi hs k)
          simp only [List.length_append, List.length_cons] at this hlen ⊢
          omega
        generalize splitF (m + 1) (some a) t k = R at g1 g5 ⊢
        obtain ⟨rl, rr, re, RA⟩ := R
        simp only [] at g1 g5 ⊢
        subst g1
        rcases g5 with ⟨rfl, ta, tb⟩ | ⟨rfl, f2, c2⟩
        · rw [if_pos rfl]
          obtain ⟨a2, k1, k2, k3, k4, k5⟩ := make_got (k := k) (v := v) ta tb (top_of hsi (fun z hz => hne z (lo_mem hz).1) (fun z hz => hne z (hi_mem hz).1)) hlen2 g3
          exact ⟨a2, k1, g2.trans k2, k3, by omega, k5.imp id (fun ⟨p, q, r, s⟩ => ⟨p, q, r, by omega⟩)⟩
        · rw [if_neg (by decide)]
          exact ⟨a1, rfl, g2, g3, by omega, .inr ⟨rfl, rfl, f2, by omega⟩⟩
      · have ha2 : above nk k = true := (above_total hk).resolve_right ha
        rw [if_neg ha]
        by_cases hlk : k < nk
        · rw [if_pos hlk, ins_left (x := (nk, nv)) (p := (k, v)) hlk]
          have hsi := ins_sorted (p := (k, v)) hs
          rw [ins_left (x := (nk, nv)) (p := (k, v)) hlk] at hsi
          have := (i1 s1 (by omega) m (by omega) hm).then_ (fun A r => makeN A nk nv r y) (l' := ins l1 (k, v) ++ (nk, nv) :: l2) (fun a' e' f' t' => make_got t' (h2.ext e') (top_of hsi (fun z hz => (ins_mem hz).elim (fun e => by rw [e]; exact ha2) (u1 z)) u2) (by have := ins_len l1 (k, v); simp at *; omega) f')
          exact this.weak (by omega)
        · rw [if_neg hlk, ins_right (x := (nk, nv)) (p := (k, v)) (show nk < k by omega) (fun z hz => by have := s3 z hz; simp only []; omega)]
          have hsi := ins_sorted (p := (k, v)) hs
          rw [ins_right (x := (nk, nv)) (p := (k, v)) (show nk < k by omega) (fun z hz => by have := s3 z hz; simp only []; omega)] at hsi
          have := (i2 s2 (by omega) m (by omega) hm).then_ (fun A r => makeN A nk nv x r) (l' := l1 ++ (nk, nv) :: ins l2 (k, v)) (fun a' e' f' t' => make_got (h1.ext e') t' (top_of hsi u1 (fun z hz => (ins_mem hz).elim (fun e => by rw [e]; exact ha2) (u2 z))) (by have := ins_len l2 (k, v); simp at *; omega) f')
          exact this.weak (by omega)
theorem mergeF_l {n : Nat} {A : OA} {l r : Int} (h : isN A l = false) : mergeF (n + 1) A l r = (r, 0, A) := by
  simp only [mergeF]; rw [if_pos h]
theorem merge_tr {a : Ar} : ∀ (n : Nat) {l r : Int} {L R : List Pr}, Tr a l L → Tr a r R → Sorted (L ++ R) → (L ++ R).length ≤ 1000000 → fits a → l.toNat + r.toNat < n → Got1 a (hgt L + hgt R) (L ++ R) (mergeF n (some a) l r)
  | 0, l, r, _, _, _, _, _, _, _, h => absurd h (by omega)
  | n + 1, l, r, L, R, hL, hR, hs, hlen, hf, hn => by
    cases hL with
    | nil =>
      rw [mergeF_l (isN_zero a)]
      exact ⟨a, rfl, Ext.refl a, hf, by omega, .inl ⟨rfl, hR⟩⟩
    | node l k v x y l1 l2 hnl hgl htl hxl hyl hl1 hl2 =>
      cases hR with
      | nil =>
        simp only [mergeF]
        rw [if_neg (by rw [hnl]; decide), if_pos (isN_zero a), List.append_nil]
        exact ⟨a, rfl, Ext.refl a, hf, by omega, .inl ⟨rfl, .node l k v x y l1 l2 hnl hgl htl hxl hyl hl1 hl2⟩⟩
      | node r k' v' x' y' r1 r2 hnr hgr htr hxr hyr hr1 hr2 =>
        have pl := isN_pos hnl
        have pr := isN_pos hnr
        have sl : Sorted (l1 ++ (k, v) :: l2) := hs.sub (List.sublist_append_left _ _)
        have sr : Sorted (r1 ++ (k', v') :: r2) := hs.sub (List.sublist_append_right _ _)
        obtain ⟨ul1, ul2⟩ := top_above sl htl
        obtain ⟨ur1, ur2⟩ := top_above sr htr
        have hhl := hgt_mid htl
        have hhr := hgt_mid htr
        have hkk : k < k' := (List.pairwise_append.1 hs).2.2 (k, v) (by simp) (k', v') (by simp)
        have wl := hl1.le
        have wl2 := hl2.le
        have wr := hr1.le
        simp only [mergeF]
        rw [if_neg (by rw [hnl]; decide), if_neg (by rw [hnr]; decide), hgl, hgr]
        simp only []
        by_cases ha : above k k' = true
        · rw [if_pos ha, hang_tr hl2 hyl]
          have hsub : Sorted (l2 ++ (r1 ++ (k', v') :: r2)) := hs.sub ((((List.sublist_cons_self _ _).trans (List.sublist_append_right _ _))).append (List.Sublist.refl _))
          have hrec := merge_tr n hl2 (.node r k' v' x' y' r1 r2 hnr hgr htr hxr hyr hr1 hr2) hsub (by simp at *; omega) hf (by omega)
          have hs' : Sorted (l1 ++ (k, v) :: (l2 ++ (r1 ++ (k', v') :: r2))) := by simpa using hs
          have := hrec.then_ (fun A q => makeN A k v (hangO A l x) q) (l' := l1 ++ (k, v) :: (l2 ++ (r1 ++ (k', v') :: r2))) (fun a' e' f' t' => by
            have q := make_got (hl1.ext e') t' (top_of hs' ul1 (fun z hz => by
              rcases List.mem_append.1 hz with hz | hz
              · exact ul2 z hz
              · rcases List.mem_append.1 hz with hz | hz
                · exact above_trans ha (ur1 z hz)
                · rcases List.mem_cons.1 hz with rfl | hz
                  · exact ha
                  · exact above_trans ha (ur2 z hz))) (by simp at *; omega) f'
            rw [hang_tr (hl1.ext e') hxl]
            exact q)
          simp only [List.append_assoc, List.cons_append] at this ⊢
          exact this.weak (by omega)
        · have ha2 : above k' k = true := (above_total (show k ≠ k' by omega)).resolve_left ha
          rw [if_neg ha, hang_tr hr1 hxr]
          have hsub : Sorted ((l1 ++ (k, v) :: l2) ++ r1) := hs.sub ((List.Sublist.refl _).append (List.sublist_append_left _ _))
          have hrec := merge_tr n (.node l k v x y l1 l2 hnl hgl htl hxl hyl hl1 hl2) hr1 hsub (by simp at *; omega) hf (by omega)
          have hs' : Sorted (((l1 ++ (k, v) :: l2) ++ r1) ++ (k', v') :: r2) := by simpa using hs
          have := hrec.then_ (fun A q => makeN A k' v' q (hangO A r y')) (l' := ((l1 ++ (k, v) :: l2) ++ r1) ++ (k', v') :: r2) (fun a' e' f' t' => by
            have q := make_got t' (hr2.ext e') (top_of hs' (fun z hz => by
              rcases List.mem_append.1 hz with hz | hz
              · rcases List.mem_append.1 hz with hz | hz
                · exact above_trans ha2 (ul1 z hz)
                · rcases List.mem_cons.1 hz with rfl | hz
                  · exact ha2
                  · exact above_trans ha2 (ul2 z hz)
              · exact ur1 z hz) ur2) (by simp at *; omega) f'
            rw [hang_tr (hr2.ext e') hyr]
            exact q)
          simp only [List.append_assoc, List.cons_append] at this ⊢
          exact this.weak (by omega)
def less (key : Int) (l : List Pr) : List Pr := l.filter (fun p => decide (p.1 ≠ key))
theorem less_sub (key : Int) (l : List Pr) : (less key l).Sublist l := List.filter_sublist
theorem less_all {key : Int} {l : List Pr} (h : ∀ p ∈ l, p.1 ≠ key) : less key l = l := List.filter_eq_self.2 fun p hp => by simpa using h p hp
theorem less_mid {key : Int} (l1 l2 : List Pr) (x : Pr) : less key (l1 ++ x :: l2) = if x.1 = key then less key l1 ++ less key l2 else less key l1 ++ x :: less key l2 := by
  unfold less
  rw [List.filter_append, List.filter_cons]
  by_cases h : x.1 = key
  · rw [if_pos h, if_neg (by simpa using h)]
  · rw [if_neg h, if_pos (by simpa using h)]
theorem cutF_no {n : Nat} {A : OA} {t key : Int} (h : isN A t = false) : cutF n A t key = (0, 0, A) := by
  cases n with
  | zero => rfl
  | succ n => simp only [cutF]; rw [if_pos h]
theorem cut_tr {a : Ar} {t : Int} {l : List Pr} (h : Tr a t l) (hs : Sorted l) (hlen : l.length ≤ 1000000) (hf : fits a) (key : Int) : ∀ n : Nat, t < n → Got1 a (2 * hgt l) (less key l) (cutF n (some a) t key) := by
  induction h with
  | nil =>
    intro n _
    rw [cutF_no (isN_zero a)]
    exact ⟨a, rfl, Ext.refl a, hf, by omega, .inl ⟨rfl, .nil⟩⟩
  | node t k v x y l1 l2 hn hg ht hx hy h1 h2 i1 i2 =>
    intro n hlt
    obtain ⟨s1, s2, s3, s4, s5⟩ := sorted_mid.1 hs
    have hp := isN_pos hn
    have hl : (l1 ++ (k, v) :: l2).length = l1.length + l2.length + 1 := by simp; omega
    obtain ⟨m, rfl⟩ : ∃ m, n = m + 1 := ⟨n - 1, by omega⟩
    have hh := hgt_mid ht
    simp only [cutF]
    rw [if_neg (by rw [hn]; decide), getH_tr hg hx hy h1 h2, less_mid]
    simp only [] at s3 s4 ⊢
    by_cases hk : k = key
    · subst hk
      rw [if_pos rfl, if_pos rfl, less_all (fun p hp => by have := s3 p hp; omega), less_all (fun p hp => by have := s4 p hp; omega)]
      have hsub : Sorted (l1 ++ l2) := hs.sub ((List.Sublist.refl _).append (List.sublist_cons_self _ _))
      exact (merge_tr _ h1 h2 hsub (by simp at *; omega) hf (by omega)).weak (by omega)
    · rw [if_neg hk, if_neg hk]
      by_cases hlk : key < k
      · rw [if_pos hlk, less_all (l := l2) (fun p hp => by have := s4 p hp; omega)]
        have := (i1 s1 (by omega) m (by omega)).then_ (fun A r => makeN A k v r y) (l' := less key l1 ++ (k, v) :: l2) (fun a' e' f' t' => make_got t' (h2.ext e') (top_sub hs ht (less_sub _ _) (List.Sublist.refl _)) (by have := sub_len (less_sub key l1); simp at *; omega) f')
        exact this.weak (by omega)
      · rw [if_neg hlk, less_all (l := l1) (fun p hp => by have := s3 p hp; omega)]
        have := (i2 s2 (by omega) m (by omega)).then_ (fun A r => makeN A k v x r) (l' := l1 ++ (k, v) :: less key l2) (fun a' e' f' t' => make_got (h1.ext e') t' (top_sub hs ht (List.Sublist.refl _) (less_sub _ _)) (by have := sub_len (less_sub key l2); simp at *; omega) f')
        exact this.weak (by omega)
end Go.Proofs.YtghjnkfocjjlnaaGreat
namespace Go.Proofs.YtghjnkfocjjlnaaGreat
set_option maxRecDepth 100000
open Go.Proofs.YtghjnkfocjjlnaaGreat.Mix
theorem isT_tr {a : Ar} {t : Int} {l : List Pr} (h : Tr a t l) : isT (some a) t = true := by
  unfold isT
  rcases h.arg with rfl | hn
  · simp
  · simp [hn]
/-- Full: so it is refused. -/
def Full (a a' : Ar) (n : Nat) : Prop := (a'.slots.length : Int) = a'.room ∧ a'.slots.length < a.slots.length + n
theorem putO_tr {a : Ar} {t : Int} {l : List Pr} (h : Tr a t l) (hs : Sorted l) (hlen : l.length < 1000000) (hf : fits a) (k v : Int) :
    ∃ a', Ext a a' ∧ fits a' ∧ a'.slots.length ≤ a.slots.length + (hgt l + 1) ∧
      ((∃ u, putO (some a) t k v = (u, (gotP l k).1, (gotP l k).2, 0, some a') ∧ Tr a' u (ins l (k, v))) ∨
       (putO (some a) t k v = (0, 0, false, 2, some a') ∧ Full a a' (hgt l + 1))) := by
  obtain ⟨a', g1, g2, g3, g4, g5⟩ := put_tr h hs hlen hf k v (fuel t) (lt_fuel t) (by unfold fuel; omega)
  refine ⟨a', g2, g3, g4, ?_⟩
  unfold putO
  rw [if_neg (by rw [isT_tr h]; decide), lgF_tr h hs k _ (lt_fuel t)]
  generalize putF (fuel t) (some a) t k v = R at g1 g5 ⊢
  obtain ⟨u, e, A⟩ := R
  simp only [] at g1 g5 ⊢
  subst g1
  rcases g5 with ⟨rfl, tu⟩ | ⟨rfl, rfl, f, c⟩
  · rw [if_pos rfl]; exact .inl ⟨u, rfl, tu⟩
  · rw [if_neg (by decide)]; exact .inr ⟨rfl, f, c⟩
theorem cutO_tr {a : Ar} {t : Int} {l : List Pr} (h : Tr a t l) (hs : Sorted l) (hlen : l.length ≤ 1000000) (hf : fits a) (key : Int) :
    ((gotP l key).2 = false ∧ cutO (some a) t key = (t, 0, false, 0, some a)) ∨
    ((gotP l key).2 = true ∧ ∃ a', Ext a a' ∧ fits a' ∧ a'.slots.length ≤ a.slots.length + 2 * hgt l ∧
      ((∃ u, cutO (some a) t key = (u, (gotP l key).1, true, 0, some a') ∧ Tr a' u (less key l)) ∨
       (cutO (some a) t key = (0, 0, false, 2, some a') ∧ Full a a' (2 * hgt l)))) := by
  unfold cutO
  rw [if_neg (by rw [isT_tr h]; decide), lgF_tr h hs key _ (lt_fuel t)]
  cases hg : (gotP l key).2 with
  | false => rw [if_pos rfl]; exact .inl ⟨rfl, rfl⟩
  | true =>
    rw [if_neg (by decide)]
    obtain ⟨a', g1, g2, g3, g4, g5⟩ := cut_tr h hs hlen hf key (fuel t) (lt_fuel t)
    refine .inr ⟨rfl, a', g2, g3, g4, ?_⟩
    generalize cutF (fuel t) (some a) t key = R at g1 g5 ⊢
    obtain ⟨u, e, A⟩ := R
    simp only [] at g1 g5 ⊢
    subst g1
    rcases g5 with ⟨rfl, tu⟩ | ⟨rfl, rfl, f, c⟩
    · rw [if_pos rfl]; exact .inl ⟨u, rfl, tu⟩
    · rw [if_neg (by decide)]; exact .inr ⟨rfl, f, c⟩
theorem midO_tr {a : Ar} {t : Int} {l : List Pr} (h : Tr a t l) (hlen : l.length ≤ 1000000) : midO (some a) t = if hl : l.length < 2 then (0, false) else ((l[l.length / 2]'(by omega)).1, true) := by
  unfold midO
  rw [h.sizeO]
  by_cases hl : l.length < 2
  · rw [dif_pos hl, if_pos (by omega)]
  · rw [dif_neg hl, if_neg (by omega)]
    have e : ((l.length : Int).tdiv 2) = ((l.length / 2 : Nat) : Int) := by
      rw [Int.tdiv_eq_ediv_of_nonneg (by omega)]; omega
    rw [e, show Go.RowKit.wrap64 ((l.length / 2 : Nat) : Int) = ((l.length / 2 : Nat) : Int) from wrap_id (by omega) (by omega), nthO_tr h _ _ (lt_fuel t) hlen, dif_pos (by omega)]
    simp only [Int.toNat_natCast]
theorem halfO_few {a : Ar} {t : Int} {l : List Pr} (h : Tr a t l) (hlen : l.length ≤ 1000000) (hl : l.length < 2) : halfO (some a) t = (0, 0, 0, 3, some a) := by
  unfold halfO
  rw [if_neg (by rw [isT_tr h]; decide), midO_tr h hlen, dif_pos hl, if_pos rfl]
end Go.Proofs.YtghjnkfocjjlnaaGreat
