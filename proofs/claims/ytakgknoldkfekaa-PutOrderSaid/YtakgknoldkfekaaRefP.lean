/- What the reference's looks in lists of pairs tell, as plain functions. -/
import Derived.Test.YtakgknoldkfekaaLookQ
import Derived.Test.YtakgknoldkfekaaExactQ
namespace Go.Proofs.Ytakgknoldkfekaa
set_option maxRecDepth 100000

/-- A key's place; -1: none. -/
def findI : List Pr → Int → Int
  | [], _ => -1
  | x :: r, key => if x.1 = key then 0 else if findI r key < 0 then -1 else findI r key + 1
theorem findI_no {l : List Pr} {key : Int} (h : ∀ p ∈ l, p.1 ≠ key) : findI l key = -1 := by
  induction l with
  | nil => rfl
  | cons x r ih =>
    simp only [findI]
    rw [if_neg (h x (List.mem_cons_self ..)), ih (fun p hp => h p (List.mem_cons_of_mem _ hp))]
    rfl
theorem findI_at : ∀ {l : List Pr} {key : Int} (k : Nat) (hk : k < l.length), (l[k]).1 = key → (∀ j (hj : j < k), (l[j]'(by omega)).1 ≠ key) → findI l key = k
  | x :: r, key, 0, _, h, _ => by
    simp only [findI]; rw [if_pos (by simpa using h)]; rfl
  | x :: r, key, k + 1, hk, h, hb => by
    have h0 := hb 0 (by omega)
    have hr := findI_at (l := r) (key := key) k (by simpa using hk) (by simpa using h) (fun j hj => by have := hb (j + 1) (by omega); simpa using this)
    simp only [findI]
    rw [if_neg (by simpa using h0), hr, if_neg (by omega)]
    omega
theorem find_cases {l : List Pr} (hs : Sorted l) (key : Int) :
    (∃ (k : Nat) (hk : k < l.length), (l[k]).1 = key ∧ findI l key = k ∧ gotP l key = ((l[k]).2, true)) ∨ (findI l key = -1 ∧ gotP l key = (0, false) ∧ ∀ p ∈ l, p.1 ≠ key) := by
  by_cases h : ∃ p ∈ l, p.1 = key
  · obtain ⟨p, hp, rfl⟩ := h
    obtain ⟨k, hk, rfl⟩ := List.getElem_of_mem hp
    refine .inl ⟨k, hk, rfl, findI_at k hk rfl (fun j hj e => ?_), gotP_at hs hk⟩
    have := hs.lt hj hk
    rw [keyAt_eq (by omega), keyAt_eq hk] at this
    omega
  · have hn : ∀ p ∈ l, p.1 ≠ key := fun p hp e => h ⟨p, hp, e⟩
    exact .inr ⟨findI_no hn, gotP_no hn, hn⟩
def betw (lo hi : Int) (l : List Pr) : List Pr := l.filter (fun p => decide (lo ≤ p.1) && decide (p.1 ≤ hi))

end Go.Proofs.Ytakgknoldkfekaa
