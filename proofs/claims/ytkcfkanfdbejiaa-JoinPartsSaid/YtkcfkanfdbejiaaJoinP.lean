/- What Two and All tell of nothing, and of treaps the wrong way round. Plain Lean. -/
import Derived.Test.YtkcfkanfdbejiaaExactQ
namespace Go.Proofs.Ytkcfkanfdbejiaa
set_option maxRecDepth 100000
open Go.Proofs.Ytkcfkanfdbejiaa.Mix

theorem twoO_nil {a : Ar} {t : Int} {l : List Pr} (h : Tr a t l) : twoO (some a) t 0 = (t, 0, some a) := by
  unfold twoO
  rw [if_neg]
  · simp only [mergeF]
    by_cases hn : isN (some a) t = true
    · rw [if_neg (by rw [hn]; decide), if_pos (isN_zero a)]
    · have hn2 : isN (some a) t = false := by simpa using hn
      rw [if_pos hn2]
      rcases h.arg with rfl | h2
      · rfl
      · exact absurd h2 hn
  · rintro (h1 | ⟨h1, h2⟩ | ⟨h1, h2⟩ | ⟨h1, h2, h3⟩)
    · exact absurd h1 (by simp)
    · rcases h.arg with rfl | hn
      · exact h1 rfl
      · rw [hn] at h2; exact absurd h2 (by decide)
    · exact h1 rfl
    · rw [minF_tr .nil _ (lt_fuel 0)] at h2
      exact absurd h2 (by simp)
theorem two_nil_l {a : Ar} {t : Int} {l : List Pr} (h : Tr a t l) : twoO (some a) 0 t = (t, 0, some a) := by
  unfold twoO
  rw [if_neg]
  · exact mergeF_l (isN_zero a)
  · rintro (h1 | ⟨h1, h2⟩ | ⟨h1, h2⟩ | ⟨h1, h2, h3⟩)
    · exact absurd h1 (by simp)
    · exact h1 rfl
    · rcases h.arg with rfl | hn
      · exact h1 rfl
      · rw [hn] at h2; exact absurd h2 (by decide)
    · rw [maxF_tr .nil _ (lt_fuel 0)] at h1
      exact absurd h1 (by simp)
theorem twoO_out {a : Ar} {t x : Int} (h : isN (some a) x = false) (hx : x ≠ 0) : twoO (some a) t x = (0, 1, some a) := by
  unfold twoO
  rw [if_pos (.inr (.inr (.inl ⟨hx, h⟩)))]
theorem allO_one {a : Ar} {t : Int} {l : List Pr} (h : Tr a t l) : allO (some a) [t] = (t, 0, some a) := by
  unfold allO
  rw [if_pos (show (some a).isSome = true from rfl)]
  simp only [allL]
  rw [two_nil_l h]
  simp
theorem allO_zeros {a : Ar} {t : Int} {l : List Pr} (h : Tr a t l) : allO (some a) [0, 0, t, 0] = (t, 0, some a) := by
  unfold allO
  rw [if_pos (show (some a).isSome = true from rfl)]
  simp only [allL]
  rw [two_nil_l .nil]
  simp only [if_true]
  rw [two_nil_l .nil]
  simp only [if_true]
  rw [two_nil_l h]
  simp only [if_true]
  rw [twoO_nil h]
  simp
theorem allO_two {a a' : Ar} {t x u : Int} {l : List Pr} (h : Tr a t l) (h2 : twoO (some a) t x = (u, 0, some a')) : allO (some a) [0, t, 0, x] = (u, 0, some a') := by
  unfold allO
  rw [if_pos (show (some a).isSome = true from rfl)]
  simp only [allL]
  rw [two_nil_l .nil]
  simp only [if_true]
  rw [two_nil_l h]
  simp only [if_true]
  rw [twoO_nil h]
  simp only [if_true]
  rw [h2]
  simp
theorem allO_out {a : Ar} {x : Int} (h : isN (some a) x = false) (hx : x ≠ 0) : allO (some a) [x] = (0, 1, some a) := by
  unfold allO
  rw [if_pos (show (some a).isSome = true from rfl)]
  simp only [allL]
  rw [twoO_out h hx]
  simp
theorem allO_nil (a : Ar) : allO (some a) [] = (0, 0, some a) := rfl

end Go.Proofs.Ytkcfkanfdbejiaa
