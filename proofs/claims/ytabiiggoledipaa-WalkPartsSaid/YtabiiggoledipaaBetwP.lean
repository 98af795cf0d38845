/- Pairs between two keys. Plain Lean. -/
import Derived.Test.YtabiiggoledipaaGoesW
namespace Go.Proofs.Ytabiiggoledipaa
set_option maxRecDepth 100000
open Go.RowKit
set_option linter.unusedSimpArgs false
set_option linter.unusedVariables false

theorem betw_one_no {q : List Pr} {key : Int} (h : ∀ p ∈ q, p.1 ≠ key) : betw key key q = [] := List.filter_eq_nil_iff.2 fun p hp => by have := h p hp; simp; omega
theorem betw_one_mid {l1 l2 : List Pr} {x : Pr} (hs : Sorted (l1 ++ x :: l2)) : betw x.1 x.1 (l1 ++ x :: l2) = [x] := by
  obtain ⟨s1, s2, m1, m2, _⟩ := sorted_mid.1 hs
  rw [betw_mid, betw_nil_lo (fun p hp => m1 p hp), betw_nil_hi (fun p hp => m2 p hp), if_pos ⟨Int.le_refl _, Int.le_refl _⟩]
  rfl
theorem betw_one {q : List Pr} (hs : Sorted q) {m : Nat} (hm : m < q.length) : betw (q[m]).1 (q[m]).1 q = [q[m]] := by
  have e : q.take m ++ q[m] :: q.drop (m + 1) = q := by simp
  have := betw_one_mid (l1 := q.take m) (x := q[m]) (l2 := q.drop (m + 1)) (by rw [e]; exact hs)
  rw [e] at this
  exact this
theorem find_or (q : List Pr) (key : Int) : (∀ p ∈ q, p.1 ≠ key) ∨ ∃ (m : Nat) (hm : m < q.length), (q[m]).1 = key ∧ ∀ j (hj : j < m), (q[j]'(by omega)).1 ≠ key := by
  induction q with
  | nil => exact .inl fun p hp => by simp at hp
  | cons x q ih =>
    by_cases hx : x.1 = key
    · exact .inr ⟨0, by simp, hx, fun j hj => absurd hj (by omega)⟩
    · rcases ih with h | ⟨m, hm, h1, h2⟩
      · exact .inl fun p hp => by rcases List.mem_cons.1 hp with rfl | hp; exact hx; exact h p hp
      · refine .inr ⟨m + 1, by simp; omega, by simpa using h1, fun j hj => ?_⟩
        cases j with
        | zero => exact hx
        | succ j => simpa using h2 j (by omega)


end Go.Proofs.Ytabiiggoledipaa
