/- What package look tells of a treap of pairs whose keys rise. Plain Lean. -/
import Derived.Test.YtakgknoldkfekaaLookW4
namespace Go.Proofs.Ytakgknoldkfekaa
set_option maxRecDepth 100000
open Go.RowKit (wrap64)

theorem hang_tr {a : Ar} {t x : Int} {l : List Pr} (h : Tr a x l) (hx : x < t) : hangO (some a) t x = x := by
  unfold hangO
  rcases h.arg with rfl | hn
  · split <;> rfl
  · rw [if_pos ⟨hn, hx⟩]
theorem getH_tr {a : Ar} {t k v x y : Int} {l1 l2 : List Pr} {s g : Int} (hg : getN (some a) t = ⟨k, v, x, y, s, g⟩) (hx : x < t) (hy : y < t) (h1 : Tr a x l1) (h2 : Tr a y l2) : getH (some a) t = ⟨k, v, x, y, s, g⟩ := by
  unfold getH
  rw [hg]
  simp only []
  rw [hang_tr h1 hx, hang_tr h2 hy]
theorem Tr.sizeO {a : Ar} {t : Int} {l : List Pr} (h : Tr a t l) : sizeO (some a) t = l.length := h.size.1

def gotP (l : List Pr) (key : Int) : Int × Bool := match l.find? (fun p => p.1 == key) with | some p => (p.2, true) | none => (0, false)
theorem find_none {l : List Pr} {key : Int} (h : ∀ p ∈ l, p.1 ≠ key) : l.find? (fun p => p.1 == key) = none := List.find?_eq_none.2 fun p hp => by simpa using h p hp
theorem lgF_tr {a : Ar} {t : Int} {l : List Pr} (h : Tr a t l) (hs : Sorted l) (key : Int) : ∀ n : Nat, t < n → lgF n (some a) t key = gotP l key := by
  induction h with
  | nil => intro n _; rw [lgF_no (isN_zero a)]; rfl
  | node t k v x y l1 l2 hn hg ht hx hy h1 h2 i1 i2 =>
    intro n hlt
    obtain ⟨s1, s2, s3, s4, s5⟩ := sorted_mid.1 hs
    have hp := isN_pos hn
    obtain ⟨m, rfl⟩ : ∃ m, n = m + 1 := ⟨n - 1, by omega⟩
    rw [lgF_yes hn, getH_tr hg hx hy h1 h2]
    simp only []
    unfold gotP
    rw [List.find?_append, List.find?_cons]
    by_cases hk : k = key
    · subst hk
      rw [if_pos rfl, find_none (fun p hp => by have := s3 p hp; simp only [] at this; omega)]
      simp
    · rw [if_neg hk]
      have hkb : (k == key) = false := beq_eq_false_iff_ne.2 hk
      by_cases hlk : key < k
      · rw [if_pos hlk, i1 s1 m (by omega), find_none (l := l2) (fun p hp => by have := s4 p hp; simp only [] at this; omega)]
        unfold gotP
        simp [hkb]
      · rw [if_neg hlk, i2 s2 m (by omega), find_none (l := l1) (fun p hp => by have := s3 p hp; simp only [] at this; omega)]
        unfold gotP
        simp [hkb]

def belowP (l : List Pr) (key : Int) : Nat := (l.filter (fun p => p.1 < key)).length
theorem filter_all {l : List Pr} {key : Int} (h : ∀ p ∈ l, p.1 < key) : l.filter (fun p => p.1 < key) = l := List.filter_eq_self.2 fun p hp => by simpa using h p hp
theorem filter_nil {l : List Pr} {key : Int} (h : ∀ p ∈ l, key ≤ p.1) : l.filter (fun p => p.1 < key) = [] := List.filter_eq_nil_iff.2 fun p hp => by simpa using h p hp
theorem belowP_le (l : List Pr) (key : Int) : belowP l key ≤ l.length := List.length_filter_le _ _
theorem belowP_mid {l1 l2 : List Pr} {x : Pr} (key : Int) (hs : Sorted (l1 ++ x :: l2)) : belowP (l1 ++ x :: l2) key = if x.1 = key then l1.length else if key < x.1 then belowP l1 key else l1.length + 1 + belowP l2 key := by
  obtain ⟨s1, s2, s3, s4, s5⟩ := sorted_mid.1 hs
  unfold belowP
  rw [List.filter_append, List.filter_cons]
  by_cases hk : x.1 = key
  · rw [if_pos hk, filter_all (fun p hp => by have := s3 p hp; omega), if_neg (by simp; omega), filter_nil (fun p hp => by have := s4 p hp; omega)]
    simp
  · rw [if_neg hk]
    by_cases hlk : key < x.1
    · rw [if_pos hlk, if_neg (by simp; omega), filter_nil (l := l2) (fun p hp => by have := s4 p hp; omega)]
      simp
    · rw [if_neg hlk, if_pos (by simp; omega), filter_all (l := l1) (fun p hp => by have := s3 p hp; omega)]
      simp; omega
theorem lbF_tr {a : Ar} {t : Int} {l : List Pr} (h : Tr a t l) (hs : Sorted l) (key : Int) : ∀ (n : Nat) (out : Nat), t < n → out + l.length ≤ 1000000 → lbF n (some a) t key out = ((out + belowP l key : Nat) : Int) := by
  induction h with
  | nil => intro n out _ _; rw [lbF_no (isN_zero a)]; rfl
  | node t k v x y l1 l2 hn hg ht hx hy h1 h2 i1 i2 =>
    intro n out hlt hout
    obtain ⟨s1, s2, s3, s4, s5⟩ := sorted_mid.1 hs
    have hp := isN_pos hn
    have hl : (l1 ++ (k, v) :: l2).length = l1.length + l2.length + 1 := by simp; omega
    obtain ⟨m, rfl⟩ : ∃ m, n = m + 1 := ⟨n - 1, by omega⟩
    rw [lbF_yes hn, getH_tr hg hx hy h1 h2, belowP_mid key hs]
    simp only []
    rw [h1.sizeO]
    by_cases hk : k = key
    · rw [if_pos hk, if_pos hk, wrap_id (by omega) (by omega)]; omega
    · rw [if_neg hk, if_neg hk]
      by_cases hlk : key < k
      · rw [if_pos hlk, if_pos hlk, i1 s1 m out (by omega) (by omega)]
      · rw [if_neg hlk, if_neg hlk, wrap_id (x := (l1.length : Int) + 1) (by omega) (by omega), wrap_id (by omega) (by omega)]
        have := i2 s2 m (out + (l1.length + 1)) (by omega) (by omega)
        rw [show ((out : Int) + ((l1.length : Int) + 1)) = ((out + (l1.length + 1) : Nat) : Int) by omega, this]
        omega

theorem lnF_tr {a : Ar} {t : Int} {l : List Pr} (h : Tr a t l) : ∀ (n : Nat) (i : Nat) (hi : i < l.length), t < n → l.length ≤ 1000000 → lnF n (some a) t i = ((l[i]).1, (l[i]).2, true) := by
  induction h with
  | nil => intro n i hi; simp at hi
  | node t k v x y l1 l2 hn hg ht hx hy h1 h2 i1 i2 =>
    intro n i hi hlt hlen
    have hp := isN_pos hn
    have hl : (l1 ++ (k, v) :: l2).length = l1.length + l2.length + 1 := by simp; omega
    obtain ⟨m, rfl⟩ : ∃ m, n = m + 1 := ⟨n - 1, by omega⟩
    rw [lnF_yes hn, getH_tr hg hx hy h1 h2]
    simp only []
    rw [h1.sizeO]
    by_cases hk : i = l1.length
    · subst hk
      rw [if_pos rfl]
      simp
    · rw [if_neg (by omega)]
      by_cases hlk : i < l1.length
      · rw [if_pos (by omega), i1 m i hlk (by omega) (by omega), List.getElem_append_left hlk]
      · rw [if_neg (by omega), wrap_id (x := (i : Int) - l1.length) (by omega) (by omega), wrap_id (by omega) (by omega)]
        obtain ⟨j, rfl⟩ : ∃ j, i = l1.length + (j + 1) := ⟨i - l1.length - 1, by omega⟩
        rw [show (((l1.length + (j + 1) : Nat) : Int) - l1.length - 1) = (j : Int) by omega, i2 m j (by omega) (by omega) (by omega)]
        simp [List.getElem_append_right]
theorem nthO_tr {a : Ar} {t : Int} {l : List Pr} (h : Tr a t l) (n : Nat) (i : Int) (ht : t < n) (hlen : l.length ≤ 1000000) : nthO n (some a) t i = if hi : 0 ≤ i ∧ i < l.length then ((l[i.toNat]'(by omega)).1, (l[i.toNat]'(by omega)).2, true) else (0, 0, false) := by
  unfold nthO
  rw [h.size.1]
  by_cases hi : 0 ≤ i ∧ i < l.length
  · rw [dif_pos hi, if_neg (by omega)]
    have := lnF_tr h n i.toNat (by omega) ht hlen
    rw [show ((i.toNat : Nat) : Int) = i by omega] at this
    exact this
  · rw [dif_neg hi, if_pos (by omega)]

theorem minF_tr {a : Ar} {t : Int} {l : List Pr} (h : Tr a t l) : ∀ n : Nat, t < n → minF n (some a) t = match l with | [] => (0, 0, false) | p :: _ => (p.1, p.2, true) := by
  induction h with
  | nil =>
    intro n _
    rw [minF_stop (by rw [isN_zero]; simp)]
    unfold getH
    rw [getN_no (isN_zero a), isN_zero]
  | node t k v x y l1 l2 hn hg ht hx hy h1 h2 i1 i2 =>
    intro n hlt
    have hp := isN_pos hn
    have hH := getH_tr hg hx hy h1 h2
    obtain ⟨m, rfl⟩ : ∃ m, n = m + 1 := ⟨n - 1, by omega⟩
    by_cases h0 : l1 = []
    · subst h0
      have := h1.none_
      rw [minF_stop (by rw [hH]; simp [this]), hH, hn]
      rfl
    · have hx0 : x ≠ 0 := by have := isN_pos (h1.some_ h0); omega
      rw [minF_go hn (by rw [hH]; exact hx0), hH]
      simp only []
      rw [i1 m (by omega)]
      cases l1 with
      | nil => exact absurd rfl h0
      | cons p r => rfl
theorem maxF_tr {a : Ar} {t : Int} {l : List Pr} (h : Tr a t l) : ∀ n : Nat, t < n → maxF n (some a) t = match l.getLast? with | none => (0, 0, false) | some p => (p.1, p.2, true) := by
  induction h with
  | nil =>
    intro n _
    rw [maxF_stop (by rw [isN_zero]; simp)]
    unfold getH
    rw [getN_no (isN_zero a), isN_zero]
    rfl
  | node t k v x y l1 l2 hn hg ht hx hy h1 h2 i1 i2 =>
    intro n hlt
    have hp := isN_pos hn
    have hH := getH_tr hg hx hy h1 h2
    obtain ⟨m, rfl⟩ : ∃ m, n = m + 1 := ⟨n - 1, by omega⟩
    by_cases h0 : l2 = []
    · subst h0
      have := h2.none_
      rw [maxF_stop (by rw [hH]; simp [this]), hH, hn]
      simp
    · have hx0 : y ≠ 0 := by have := isN_pos (h2.some_ h0); omega
      rw [maxF_go hn (by rw [hH]; exact hx0), hH]
      simp only []
      rw [i2 m (by omega)]
      have : (l1 ++ (k, v) :: l2).getLast? = l2.getLast? := by
        rw [List.getLast?_append, List.getLast?_cons]
        cases hh : l2.getLast? with
        | none => exact absurd (List.getLast?_eq_none_iff.1 hh) h0
        | some p => rfl
      rw [this]

end Go.Proofs.Ytakgknoldkfekaa
