/- What package sound answers over any arena (May), and of treaps of pairs whose keys rise. Plain Lean. -/
import Derived.Test.YtkcfkanfdbejiaaExactQ
namespace Go.Proofs.Ytkcfkanfdbejiaa
set_option maxRecDepth 100000
open Go.RowKit (wrap64)
open Go.Proofs.Ytkcfkanfdbejiaa.Mix

/-- What a checker has met: how many nodes, the last key, was there one. -/
structure CS where
  count : Int
  last : Int
  any : Bool
def hit (c : CS) : CS := ⟨wrap64 (c.count + 1), c.last, c.any⟩
def comes (c : CS) (k : Int) : Bool := !c.any || decide (c.last < k)
def came (c : CS) (k : Int) : CS := ⟨c.count, k, true⟩
noncomputable def aboveO (A : OA) (k t : Int) : Bool := !(isN A t) || above k (getN A t).key
def mx (a b : Int) : Int := if a < b then b else a
noncomputable def fine (A : OA) (t : Int) (L R : Int × Int × Bool × CS) : Bool :=
  R.2.2.1 && ((getN A t).size == wrap64 (wrap64 (L.1 + R.1) + 1)) && ((getN A t).high == wrap64 (mx L.2.1 R.2.1 + 1)) && aboveO A (getN A t).key (getN A t).left && aboveO A (getN A t).key (getN A t).right
/-- May: size, height, yes or no, what has been met behind it. -/
noncomputable def mayF : Nat → OA → Int → Int → CS → Int × Int × Bool × CS
  | 0, _, t, _, c => if t = 0 then (0, 0, true, c) else (0, 0, false, hit c)
  | n + 1, A, t, bound, c =>
    if t = 0 then (0, 0, true, c)
    else if isN A t = false ∨ bound ≤ t ∨ 1200 < (hit c).count then (0, 0, false, hit c)
    else if (mayF n A (getN A t).left t (hit c)).2.2.1 = false then (0, 0, false, (mayF n A (getN A t).left t (hit c)).2.2.2)
    else if comes (mayF n A (getN A t).left t (hit c)).2.2.2 (getN A t).key = false then (0, 0, false, came (mayF n A (getN A t).left t (hit c)).2.2.2 (getN A t).key)
    else (wrap64 (wrap64 ((mayF n A (getN A t).left t (hit c)).1 + (mayF n A (getN A t).right t (came (mayF n A (getN A t).left t (hit c)).2.2.2 (getN A t).key)).1) + 1),
      wrap64 (mx (mayF n A (getN A t).left t (hit c)).2.1 (mayF n A (getN A t).right t (came (mayF n A (getN A t).left t (hit c)).2.2.2 (getN A t).key)).2.1 + 1),
      fine A t (mayF n A (getN A t).left t (hit c)) (mayF n A (getN A t).right t (came (mayF n A (getN A t).left t (hit c)).2.2.2 (getN A t).key)),
      (mayF n A (getN A t).right t (came (mayF n A (getN A t).left t (hit c)).2.2.2 (getN A t).key)).2.2.2)
theorem mayF_zero (n : Nat) (A : OA) (b : Int) (c : CS) : mayF n A 0 b c = (0, 0, true, c) := by
  cases n <;> simp [mayF]
theorem mayF_bad (n : Nat) {A : OA} {t b : Int} {c : CS} (h0 : t ≠ 0) (h : isN A t = false ∨ b ≤ t ∨ 1200 < (hit c).count) : mayF n A t b c = (0, 0, false, hit c) := by
  cases n with
  | zero => simp [mayF, h0]
  | succ n => simp only [mayF]; rw [if_neg h0, if_pos h]
theorem mayF_l {n : Nat} {A : OA} {t b k v l r s g : Int} {c lc : CS} {ls lh : Int} (h0 : t ≠ 0) (hn : isN A t = true) (hb : t < b) (hc : (hit c).count ≤ 1200) (hg : getN A t = ⟨k, v, l, r, s, g⟩)
    (hL : mayF n A l t (hit c) = (ls, lh, false, lc)) : mayF (n + 1) A t b c = (0, 0, false, lc) := by
  simp only [mayF]
  rw [if_neg h0, if_neg (by rw [hn]; simp; omega), hg]
  simp only [hL, if_true]
theorem mayF_c {n : Nat} {A : OA} {t b k v l r s g : Int} {c lc : CS} {ls lh : Int} (h0 : t ≠ 0) (hn : isN A t = true) (hb : t < b) (hc : (hit c).count ≤ 1200) (hg : getN A t = ⟨k, v, l, r, s, g⟩)
    (hL : mayF n A l t (hit c) = (ls, lh, true, lc)) (hk : comes lc k = false) : mayF (n + 1) A t b c = (0, 0, false, came lc k) := by
  simp only [mayF]
  rw [if_neg h0, if_neg (by rw [hn]; simp; omega), hg]
  simp only [hL, hk]
  rfl
theorem mayF_r {n : Nat} {A : OA} {t b k v l r s g : Int} {c lc rc : CS} {ls lh rs rh : Int} {rok : Bool} (h0 : t ≠ 0) (hn : isN A t = true) (hb : t < b) (hc : (hit c).count ≤ 1200) (hg : getN A t = ⟨k, v, l, r, s, g⟩)
    (hL : mayF n A l t (hit c) = (ls, lh, true, lc)) (hk : comes lc k = true) (hR : mayF n A r t (came lc k) = (rs, rh, rok, rc)) :
    mayF (n + 1) A t b c = (wrap64 (wrap64 (ls + rs) + 1), wrap64 (mx lh rh + 1), rok && (s == wrap64 (wrap64 (ls + rs) + 1)) && (g == wrap64 (mx lh rh + 1)) && aboveO A k l && aboveO A k r, rc) := by
  simp only [mayF]
  rw [if_neg h0, if_neg (by rw [hn]; simp; omega), hg]
  simp only [hL, hk, hR, fine, hg]
  rfl

end Go.Proofs.Ytkcfkanfdbejiaa
