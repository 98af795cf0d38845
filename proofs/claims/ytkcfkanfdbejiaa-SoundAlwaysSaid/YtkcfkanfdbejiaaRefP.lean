/- More of what lists of pairs whose keys rise tell. Plain Lean. -/
/- What the reference's looks in lists of pairs tell, as plain functions. -/
import Derived.Test.YtkcfkanfdbejiaaExactQ
namespace Go.Proofs.Ytkcfkanfdbejiaa
set_option maxRecDepth 100000
open Go.RowKit (wrap64)

theorem split_at {l : List Pr} {k : Nat} (hk : k < l.length) : l = l.take k ++ l[k] :: l.drop (k + 1) := by
  rw [List.getElem_cons_drop, List.take_append_drop]
theorem gotP_at {l : List Pr} (hs : Sorted l) {k : Nat} (hk : k < l.length) : gotP l (l[k]).1 = ((l[k]).2, true) := by
  have e := split_at hk
  obtain ⟨x, hx⟩ : ∃ x, l[k] = x := ⟨_, rfl⟩
  rw [hx] at e ⊢
  generalize l.take k = l1 at e
  generalize l.drop (k + 1) = l2 at e
  clear hx
  subst e
  obtain ⟨s1, s2, s3, s4, s5⟩ := sorted_mid.1 hs
  unfold gotP
  rw [List.find?_append, List.find?_cons, find_none (fun p hp => by have := s3 p hp; omega)]
  simp
theorem gotP_no {l : List Pr} {key : Int} (h : ∀ p ∈ l, p.1 ≠ key) : gotP l key = (0, false) := by unfold gotP; rw [find_none h]
theorem gotP_iff {l : List Pr} {key : Int} : (gotP l key).2 = true ↔ ∃ p ∈ l, p.1 = key := by
  unfold gotP
  cases h : l.find? (fun p => p.1 == key) with
  | none =>
    have := List.find?_eq_none.1 h
    constructor
    · intro hh; exact absurd hh (by simp)
    · rintro ⟨p, hp, e⟩; exact absurd (by simpa using e) (this p hp)
  | some p =>
    have h1 := List.find?_some h
    exact ⟨fun _ => ⟨p, List.mem_of_find?_eq_some h, by simpa using h1⟩, fun _ => rfl⟩
theorem belowP_at {l : List Pr} (hs : Sorted l) {k : Nat} (hk : k < l.length) : belowP l (l[k]).1 = k := by
  have e := split_at hk
  have hlen : (l.take k).length = k := by rw [List.length_take]; omega
  obtain ⟨x, hx⟩ : ∃ x, l[k] = x := ⟨_, rfl⟩
  rw [hx] at e ⊢
  generalize l.take k = l1 at e hlen
  generalize l.drop (k + 1) = l2 at e
  clear hx
  subst e
  rw [belowP_mid _ hs, if_pos rfl, hlen]
theorem belowP_mono {l : List Pr} {a b : Int} (h : a ≤ b) : belowP l a ≤ belowP l b := by
  unfold belowP
  induction l with
  | nil => simp
  | cons x r ih =>
    rw [List.filter_cons, List.filter_cons]
    split
    · rename_i h1
      rw [if_pos (by have : x.1 < a := by simpa using h1
                     simp; omega)]
      simp; omega
    · split
      · simp; omega
      · exact ih
theorem minF_head {a : Ar} {t : Int} {l : List Pr} (h : Tr a t l) (n : Nat) (hn : t < n) {p : Pr} (hp : l.head? = some p) : minF n (some a) t = (p.1, p.2, true) := by
  rw [minF_tr h n hn]
  cases l with
  | nil => exact absurd hp (by simp)
  | cons z r => obtain rfl : z = p := by simpa using hp
                rfl
theorem minF_nil {a : Ar} {t : Int} (h : Tr a t []) (n : Nat) (hn : t < n) : minF n (some a) t = (0, 0, false) := minF_tr h n hn
theorem maxF_at {a : Ar} {t : Int} {l : List Pr} (h : Tr a t l) (n : Nat) (hn : t < n) {p : Pr} (hp : l.getLast? = some p) : maxF n (some a) t = (p.1, p.2, true) := by
  rw [maxF_tr h n hn, hp]
theorem maxF_nil {a : Ar} {t : Int} (h : Tr a t []) (n : Nat) (hn : t < n) : maxF n (some a) t = (0, 0, false) := maxF_tr h n hn
theorem last_take {l : List Pr} {m : Nat} (h0 : 0 < m) (hm : m ≤ l.length) : (l.take m).getLast? = some (l[m - 1]'(by omega)) := by
  rw [List.getLast?_eq_getElem?, List.length_take, Nat.min_eq_left hm, List.getElem?_take_of_lt (by omega), List.getElem?_eq_getElem]
theorem last_all {l : List Pr} (h0 : 0 < l.length) : l.getLast? = some (l[l.length - 1]'(by omega)) := by
  rw [List.getLast?_eq_getElem?, List.getElem?_eq_getElem]
theorem head_drop {l : List Pr} {m : Nat} (hm : m < l.length) : (l.drop m).head? = some l[m] := by
  rw [← List.getElem_cons_drop (h := hm)]; rfl
theorem head_all {l : List Pr} (h0 : 0 < l.length) : l.head? = some l[0] := by
  cases l with
  | nil => exact absurd h0 (by simp)
  | cons z r => rfl
theorem rem_len (x : Int) (n : Nat) (h : 0 < n) (hn : n ≤ 1000000) : ∃ r : Nat, wrap64 ((IntKind.u64.wrap x).tmod (n : Int)) = (r : Int) ∧ r < n := by
  have h0 : 0 ≤ IntKind.u64.wrap x := by simp [IntKind.wrap, IntKind.bits, IntKind.signed]; omega
  rw [Int.tmod_eq_emod_of_nonneg h0]
  have h1 : 0 ≤ IntKind.u64.wrap x % (n : Int) := Int.emod_nonneg _ (by omega)
  have h2 : IntKind.u64.wrap x % (n : Int) < n := Int.emod_lt_of_pos _ (by omega)
  refine ⟨(IntKind.u64.wrap x % (n : Int)).toNat, ?_, by omega⟩
  unfold wrap64
  omega

end Go.Proofs.Ytkcfkanfdbejiaa

namespace Go.Proofs.Ytkcfkanfdbejiaa
set_option maxRecDepth 100000

/-- A key's place; -1: none. -/
def findI : List Pr → Int → Int
  | [], _ => -1
  | x :: r, key => if x.1 = key then 0 else if findI r key < 0 then -1 else findI r key + 1
theorem findI_no {l : List Pr} {key : Int} (h : ∀ p ∈ l, p.1 ≠ key) : findI l key = -1 := by
  induction l with
  | nil => rfl
  | cons x r ih =>
    simp only [findI]
    rw [if_neg (h x (List.mem_cons_self ..)), ih (fun p hp => h p (List.mem_cons_of_mem _ hp))]
    rfl
theorem findI_at : ∀ {l : List Pr} {key : Int} (k : Nat) (hk : k < l.length), (l[k]).1 = key → (∀ j (hj : j < k), (l[j]'(by omega)).1 ≠ key) → findI l key = k
  | x :: r, key, 0, _, h, _ => by
    simp only [findI]; rw [if_pos (by simpa using h)]; rfl
  | x :: r, key, k + 1, hk, h, hb => by
    have h0 := hb 0 (by omega)
    have hr := findI_at (l := r) (key := key) k (by simpa using hk) (by simpa using h) (fun j hj => by have := hb (j + 1) (by omega); simpa using this)
    simp only [findI]
    rw [if_neg (by simpa using h0), hr, if_neg (by omega)]
    omega
theorem find_cases {l : List Pr} (hs : Sorted l) (key : Int) :
    (∃ (k : Nat) (hk : k < l.length), (l[k]).1 = key ∧ findI l key = k ∧ gotP l key = ((l[k]).2, true)) ∨ (findI l key = -1 ∧ gotP l key = (0, false) ∧ ∀ p ∈ l, p.1 ≠ key) := by
  by_cases h : ∃ p ∈ l, p.1 = key
  · obtain ⟨p, hp, rfl⟩ := h
    obtain ⟨k, hk, rfl⟩ := List.getElem_of_mem hp
    refine .inl ⟨k, hk, rfl, findI_at k hk rfl (fun j hj e => ?_), gotP_at hs hk⟩
    have := hs.lt hj hk
    rw [keyAt_eq (by omega), keyAt_eq hk] at this
    omega
  · have hn : ∀ p ∈ l, p.1 ≠ key := fun p hp e => h ⟨p, hp, e⟩
    exact .inr ⟨findI_no hn, gotP_no hn, hn⟩
def betw (lo hi : Int) (l : List Pr) : List Pr := l.filter (fun p => decide (lo ≤ p.1) && decide (p.1 ≤ hi))

end Go.Proofs.Ytkcfkanfdbejiaa

