/- What package sound answers over any arena (May), and of treaps of pairs whose keys rise. Plain Lean. -/
/- May of treaps of pairs whose keys rise, and of what is none. Plain Lean. -/
import Derived.Test.YtkcfkanfdbejiaaExactQ
namespace Go.Proofs.Ytkcfkanfdbejiaa
set_option maxRecDepth 100000
open Go.RowKit (wrap64)
open Go.Proofs.Ytkcfkanfdbejiaa.Mix

/-- What a checker has met: how many nodes, the last key, was there one. -/
structure CS where
  count : Int
  last : Int
  any : Bool
def hit (c : CS) : CS := ⟨wrap64 (c.count + 1), c.last, c.any⟩
def comes (c : CS) (k : Int) : Bool := !c.any || decide (c.last < k)
def came (c : CS) (k : Int) : CS := ⟨c.count, k, true⟩
noncomputable def aboveO (A : OA) (k t : Int) : Bool := !(isN A t) || above k (getN A t).key
def mx (a b : Int) : Int := if a < b then b else a
noncomputable def fine (A : OA) (t : Int) (L R : Int × Int × Bool × CS) : Bool :=
  R.2.2.1 && ((getN A t).size == wrap64 (wrap64 (L.1 + R.1) + 1)) && ((getN A t).high == wrap64 (mx L.2.1 R.2.1 + 1)) && aboveO A (getN A t).key (getN A t).left && aboveO A (getN A t).key (getN A t).right
/-- May: size, height, yes or no, what has been met behind it. -/
noncomputable def mayF : Nat → OA → Int → Int → CS → Int × Int × Bool × CS
  | 0, _, t, _, c => if t = 0 then (0, 0, true, c) else (0, 0, false, hit c)
  | n + 1, A, t, bound, c =>
    if t = 0 then (0, 0, true, c)
    else if isN A t = false ∨ bound ≤ t ∨ 1200 < (hit c).count then (0, 0, false, hit c)
    else if (mayF n A (getN A t).left t (hit c)).2.2.1 = false then (0, 0, false, (mayF n A (getN A t).left t (hit c)).2.2.2)
    else if comes (mayF n A (getN A t).left t (hit c)).2.2.2 (getN A t).key = false then (0, 0, false, came (mayF n A (getN A t).left t (hit c)).2.2.2 (getN A t).key)
    else (wrap64 (wrap64 ((mayF n A (getN A t).left t (hit c)).1 + (mayF n A (getN A t).right t (came (mayF n A (getN A t).left t (hit c)).2.2.2 (getN A t).key)).1) + 1),
      wrap64 (mx (mayF n A (getN A t).left t (hit c)).2.1 (mayF n A (getN A t).right t (came (mayF n A (getN A t).left t (hit c)).2.2.2 (getN A t).key)).2.1 + 1),
      fine A t (mayF n A (getN A t).left t (hit c)) (mayF n A (getN A t).right t (came (mayF n A (getN A t).left t (hit c)).2.2.2 (getN A t).key)),
      (mayF n A (getN A t).right t (came (mayF n A (getN A t).left t (hit c)).2.2.2 (getN A t).key)).2.2.2)
theorem mayF_zero (n : Nat) (A : OA) (b : Int) (c : CS) : mayF n A 0 b c = (0, 0, true, c) := by
  cases n <;> simp [mayF]
theorem mayF_bad (n : Nat) {A : OA} {t b : Int} {c : CS} (h0 : t ≠ 0) (h : isN A t = false ∨ b ≤ t ∨ 1200 < (hit c).count) : mayF n A t b c = (0, 0, false, hit c) := by
  cases n with
  | zero => simp [mayF, h0]
  | succ n => simp only [mayF]; rw [if_neg h0, if_pos h]
theorem mayF_l {n : Nat} {A : OA} {t b k v l r s g : Int} {c lc : CS} {ls lh : Int} (h0 : t ≠ 0) (hn : isN A t = true) (hb : t < b) (hc : (hit c).count ≤ 1200) (hg : getN A t = ⟨k, v, l, r, s, g⟩)
    (hL : mayF n A l t (hit c) = (ls, lh, false, lc)) : mayF (n + 1) A t b c = (0, 0, false, lc) := by
  simp only [mayF]
  rw [if_neg h0, if_neg (by rw [hn]; simp; omega), hg]
  simp only [hL, if_true]
theorem mayF_c {n : Nat} {A : OA} {t b k v l r s g : Int} {c lc : CS} {ls lh : Int} (h0 : t ≠ 0) (hn : isN A t = true) (hb : t < b) (hc : (hit c).count ≤ 1200) (hg : getN A t = ⟨k, v, l, r, s, g⟩)
    (hL : mayF n A l t (hit c) = (ls, lh, true, lc)) (hk : comes lc k = false) : mayF (n + 1) A t b c = (0, 0, false, came lc k) := by
  simp only [mayF]
  rw [if_neg h0, if_neg (by rw [hn]; simp; omega), hg]
  simp only [hL, hk]
  rfl
theorem mayF_r {n : Nat} {A : OA} {t b k v l r s g : Int} {c lc rc : CS} {ls lh rs rh : Int} {rok : Bool} (h0 : t ≠ 0) (hn : isN A t = true) (hb : t < b) (hc : (hit c).count ≤ 1200) (hg : getN A t = ⟨k, v, l, r, s, g⟩)
    (hL : mayF n A l t (hit c) = (ls, lh, true, lc)) (hk : comes lc k = true) (hR : mayF n A r t (came lc k) = (rs, rh, rok, rc)) :
    mayF (n + 1) A t b c = (wrap64 (wrap64 (ls + rs) + 1), wrap64 (mx lh rh + 1), rok && (s == wrap64 (wrap64 (ls + rs) + 1)) && (g == wrap64 (mx lh rh + 1)) && aboveO A k l && aboveO A k r, rc) := by
  simp only [mayF]
  rw [if_neg h0, if_neg (by rw [hn]; simp; omega), hg]
  simp only [hL, hk, hR, fine, hg]
  rfl

end Go.Proofs.Ytkcfkanfdbejiaa

namespace Go.Proofs.Ytkcfkanfdbejiaa
set_option maxRecDepth 100000
open Go.RowKit (wrap64)
open Go.Proofs.Ytkcfkanfdbejiaa.Mix

def lastK (l : List Pr) (d : Int) : Int := match l.getLast? with | some p => p.1 | none => d
def met (c : CS) (l : List Pr) : CS := ⟨c.count + l.length, lastK l c.last, c.any || !l.isEmpty⟩
theorem met_nil (c : CS) : met c [] = c := by simp [met, lastK]
theorem Tr.root {a : Ar} {t : Int} {l : List Pr} (h : Tr a t l) (hn : isN (some a) t = true) : ∃ p ∈ l, (getN (some a) t).key = p.1 := by
  cases h with
  | nil => rw [isN_zero] at hn; cases hn
  | node t k v x y l1 l2 _ hg => exact ⟨(k, v), by simp, by rw [hg]⟩
theorem aboveO_tr {a : Ar} {t : Int} {l : List Pr} (h : Tr a t l) {k : Int} (ha : ∀ y ∈ l, above k y.1 = true) : aboveO (some a) k t = true := by
  unfold aboveO
  cases hn : isN (some a) t with
  | false => rfl
  | true =>
    obtain ⟨p, hp, e⟩ := h.root hn
    rw [e, ha p hp]
    rfl
theorem lastK_app (l1 l2 : List Pr) (k v d : Int) : lastK (l1 ++ (k, v) :: l2) d = lastK l2 k := by
  unfold lastK
  rw [List.getLast?_append]
  cases l2 with
  | nil => rfl
  | cons x r => rw [List.getLast?_cons_cons]; cases h : (x :: r).getLast? with
    | none => simp at h
    | some p => rfl
theorem comes_met {c : CS} {l1 : List Pr} {k : Int} (h1 : ∀ y ∈ l1, y.1 < k) (h2 : c.any = true → c.last < k) : comes (met c l1) k = true := by
  unfold comes met lastK
  cases h : l1.getLast? with
  | none =>
    have : l1 = [] := by simpa using h
    subst this
    simp only []
    cases hc : c.any with
    | false => rfl
    | true => simp [h2 hc]
  | some p =>
    have hm := List.mem_of_getLast? h
    simp [h1 p hm]
theorem hit_ok {c : CS} (h0 : 0 ≤ c.count) (h1 : c.count ≤ 1200) : hit c = ⟨c.count + 1, c.last, c.any⟩ := by
  unfold hit; rw [wrap_id (by omega) (by omega)]
theorem mx_hgt {a b h : Nat} (ha : a ≤ 1000000) (hb : b ≤ 1000000) (e : h = 1 + max a b) : wrap64 (mx a b + 1) = (h : Int) := by
  unfold mx
  by_cases hm : (a : Int) < b
  · rw [if_pos hm, wrap_id (x := (b : Int) + 1) (by omega) (by omega)]; omega
  · rw [if_neg hm, wrap_id (x := (a : Int) + 1) (by omega) (by omega)]; omega
theorem mid_hgt {l1 l2 : List Pr} {x : Pr} (ht : top (l1 ++ x :: l2) = (l1.length : Int)) (h1 : l1.length ≤ 1200) (h2 : l2.length ≤ 1200) : wrap64 (mx (hgt l1) (hgt l2) + 1) = (hgt (l1 ++ x :: l2) : Int) :=
  mx_hgt (Nat.le_trans (hgt_le l1) (Nat.le_trans h1 (by decide))) (Nat.le_trans (hgt_le l2) (Nat.le_trans h2 (by decide))) (hgt_mid ht)
theorem may_tr {a : Ar} {t : Int} {l : List Pr} (h : Tr a t l) : ∀ (n : Nat) (b : Int) (c : CS), Sorted l → t ≤ n → (t = 0 ∨ t < b) → 0 ≤ c.count → c.count + l.length ≤ 1200 → (c.any = true → ∀ p ∈ l, c.last < p.1) →
    mayF n (some a) t b c = ((l.length : Int), (hgt l : Int), true, met c l) := by
  induction h with
  | nil => intro n b c _ _ _ _ _ _; rw [mayF_zero, met_nil]; rfl
  | node t k v x y l1 l2 hn hg ht hx hy h1 h2 i1 i2 =>
    intro n b c hs hnt hb h0 hc ha
    have hp := isN_pos hn
    have s1 := h1.le
    have s2 := h2.le
    obtain ⟨m, rfl⟩ : ∃ m, n = m + 1 := ⟨n - 1, by omega⟩
    obtain ⟨o1, o2, o3, o4, o5⟩ := sorted_mid.1 hs
    have hl : (l1 ++ (k, v) :: l2).length = l1.length + l2.length + 1 := by simp; omega
    have hh := hit_ok (c := c) h0 (by omega)
    obtain ⟨a1, a2⟩ := top_above hs ht
    have hl1 : l1.length ≤ 1200 := by omega
    have hl2 : l2.length ≤ 1200 := by omega
    have L := i1 m t (hit c) o1 (by omega) (by omega) (by rw [hh]; show 0 ≤ c.count + 1; omega) (by rw [hh]; show c.count + 1 + _ ≤ 1200; omega) (by rw [hh]; exact fun e p hp => ha e p (by simp [hp]))
    have hk : comes (met (hit c) l1) k = true := comes_met o3 (by rw [hh]; exact fun e => ha e (k, v) (by simp))
    have R := i2 m t (came (met (hit c) l1) k) o2 (by omega) (by omega) (by rw [hh]; show 0 ≤ c.count + 1 + (l1.length : Int); omega) (by rw [hh]; show c.count + 1 + (l1.length : Int) + _ ≤ 1200; omega) (fun _ p hp => o4 p hp)
    have e3 : met (came (met (hit c) l1) k) l2 = met c (l1 ++ (k, v) :: l2) := by
      rw [hh]
      unfold met came
      simp only [lastK_app, hl]
      congr 1
      · omega
      · simp
    rw [mayF_r (by omega) hn (by omega) (by rw [hh]; show c.count + 1 ≤ 1200; omega) hg L hk R]
    have e1 : wrap64 (wrap64 ((l1.length : Int) + l2.length) + 1) = ((l1 ++ (k, v) :: l2).length : Int) := by
      rw [wrap_id (x := (l1.length : Int) + l2.length) (by omega) (by omega), wrap_id (by omega) (by omega), hl]; omega
    have e2 : wrap64 (mx (hgt l1) (hgt l2) + 1) = (hgt (l1 ++ (k, v) :: l2) : Int) := mid_hgt ht hl1 hl2
    rw [e1, e2, aboveO_tr h1 a1, aboveO_tr h2 a2]
    rw [e3]
    simp
/-- The first key does not come next. -/
theorem may_late {a : Ar} {t : Int} {l : List Pr} (h : Tr a t l) : ∀ (n : Nat) (b : Int) (c : CS), Sorted l → t ≤ n → (t = 0 ∨ t < b) → 0 ≤ c.count → c.count + l.length ≤ 1200 → c.any = true → (∃ p, l.head? = some p ∧ p.1 ≤ c.last) →
    (mayF n (some a) t b c).2.2.1 = false := by
  induction h with
  | nil => intro n b c _ _ _ _ _ _ ⟨p, hp, _⟩; simp at hp
  | node t k v x y l1 l2 hn hg ht hx hy h1 h2 i1 i2 =>
    intro n b c hs hnt hb h0 hc hany ⟨p, hp, hpl⟩
    have hp0 := isN_pos hn
    have s1 := h1.le
    obtain ⟨m, rfl⟩ : ∃ m, n = m + 1 := ⟨n - 1, by omega⟩
    obtain ⟨o1, o2, o3, o4, o5⟩ := sorted_mid.1 hs
    have hl : (l1 ++ (k, v) :: l2).length = l1.length + l2.length + 1 := by simp; omega
    have hh := hit_ok (c := c) h0 (by omega)
    cases l1 with
    | nil =>
      obtain rfl := h1.none_
      have hp2 : (k, v) = p := by simpa using hp
      subst hp2
      rw [mayF_c (by omega) hn (by omega) (by rw [hh]; show c.count + 1 ≤ 1200; omega) hg (mayF_zero _ _ _ _) (by rw [hh]; unfold comes; rw [hany]; simp; exact hpl)]
    | cons z r =>
      have L := i1 m t (hit c) o1 (by omega) (by omega) (by rw [hh]; show 0 ≤ c.count + 1; omega) (by rw [hh]; show c.count + 1 + _ ≤ 1200; omega) (by rw [hh]; exact hany) ⟨p, by simpa using hp, by rw [hh]; exact hpl⟩
      generalize hM : mayF m (some a) x t (hit c) = M at L
      obtain ⟨ls, lh, lok, lc⟩ := M
      simp only [] at L
      subst L
      rw [mayF_l (by omega) hn (by omega) (by rw [hh]; show c.count + 1 ≤ 1200; omega) hg hM]

end Go.Proofs.Ytkcfkanfdbejiaa

