/- The reference's functions on lists of pairs, as plain functions. No program in sight. -/
import Derived.Test.YtakgknoldkfekaaAbs
namespace Go.Proofs.Ytakgknoldkfekaa
set_option maxRecDepth 100000
open Go.Proofs.Ytakgknoldkfekaa.Mix

abbrev Pr := Int × Int
def okP (l : List Pr) : Prop := ∀ x ∈ l, (-9223372036854775808 ≤ x.1 ∧ x.1 ≤ 9223372036854775807) ∧ -9223372036854775808 ≤ x.2 ∧ x.2 ≤ 9223372036854775807
def keyAt (l : List Pr) (i : Nat) : Int := (l.getD i (0, 0)).1

/-- The place of the pair above all others among the first k (-1: none). -/
noncomputable def topB (l : List Pr) : Nat → Int
  | 0 => -1
  | k + 1 => if topB l k < 0 then (k : Int) else if above (keyAt l k) (keyAt l (topB l k).toNat) = true then (k : Int) else topB l k
noncomputable def top (l : List Pr) : Int := topB l l.length
theorem topB_bd (l : List Pr) : ∀ k, -1 ≤ topB l k ∧ topB l k < k ∧ (0 < k → 0 ≤ topB l k)
  | 0 => by simp [topB]
  | k + 1 => by
    have h := topB_bd l k
    simp only [topB]
    split
    · omega
    · split
      · omega
      · omega
theorem top_bd (l : List Pr) : -1 ≤ top l ∧ top l < l.length ∧ (0 < l.length → 0 ≤ top l) := topB_bd l l.length

/-- How high the treap of some pairs is; n: no fewer than there are. -/
noncomputable def hgtF : Nat → List Pr → Nat
  | 0, _ => 0
  | n + 1, l => if top l < 0 then 0 else 1 + max (hgtF n (l.take (top l).toNat)) (hgtF n (l.drop ((top l).toNat + 1)))
noncomputable def hgt (l : List Pr) : Nat := hgtF l.length l
theorem hgtF_more : ∀ (n m : Nat) (l : List Pr), l.length ≤ n → l.length ≤ m → hgtF n l = hgtF m l
  | 0, 0, _, _, _ => rfl
  | 0, m + 1, l, hn, _ => by
    have h : l = [] := List.eq_nil_of_length_eq_zero (by omega)
    subst h
    simp [hgtF, top, topB]
  | n + 1, 0, l, _, hm => by
    have h : l = [] := List.eq_nil_of_length_eq_zero (by omega)
    subst h
    simp [hgtF, top, topB]
  | n + 1, m + 1, l, hn, hm => by
    have hb := top_bd l
    simp only [hgtF]
    by_cases h : top l < 0
    · rw [if_pos h, if_pos h]
    · rw [if_neg h, if_neg h, hgtF_more n m _ (by rw [List.length_take]; omega) (by rw [List.length_take]; omega), hgtF_more n m _ (by rw [List.length_drop]; omega) (by rw [List.length_drop]; omega)]
theorem hgt_eq (l : List Pr) : hgt l = if top l < 0 then 0 else 1 + max (hgt (l.take (top l).toNat)) (hgt (l.drop ((top l).toNat + 1))) := by
  have hb := top_bd l
  rw [show hgt l = hgtF (l.length + 1) l from hgtF_more _ _ l (Nat.le_refl _) (by omega)]
  simp only [hgtF]
  by_cases h : top l < 0
  · rw [if_pos h, if_pos h]
  · rw [if_neg h, if_neg h]
    unfold hgt
    rw [hgtF_more l.length (l.take (top l).toNat).length _ (by rw [List.length_take]; omega) (Nat.le_refl _), hgtF_more l.length (l.drop ((top l).toNat + 1)).length _ (by rw [List.length_drop]; omega) (Nat.le_refl _)]
theorem hgtF_le : ∀ (n : Nat) (l : List Pr), hgtF n l ≤ l.length
  | 0, l => Nat.zero_le _
  | n + 1, l => by
    have hb := top_bd l
    simp only [hgtF]
    by_cases h : top l < 0
    · rw [if_pos h]; omega
    · rw [if_neg h]
      have h1 := hgtF_le n (l.take (top l).toNat)
      have h2 := hgtF_le n (l.drop ((top l).toNat + 1))
      rw [List.length_take] at h1
      rw [List.length_drop] at h2
      omega
theorem hgt_le (l : List Pr) : hgt l ≤ l.length := hgtF_le _ l

/-- A pair more, or another value: what is gathered, and is it done. -/
def stepW (p : Pr) (s : List Pr × Bool) (x : Pr) : List Pr × Bool :=
  if s.2 = false ∧ p.1 ≤ x.1 then (if x.1 = p.1 then (s.1 ++ [p], true) else (s.1 ++ [p] ++ [x], true))
  else if x.1 = p.1 then s else (s.1 ++ [x], s.2)
def withS (p : Pr) (l : List Pr) : List Pr × Bool := l.foldl (stepW p) ([], false)
def withP (l : List Pr) (p : Pr) : List Pr := if (withS p l).2 = true then (withS p l).1 else (withS p l).1 ++ [p]
theorem withS_snoc (p : Pr) (l : List Pr) (x : Pr) : withS p (l ++ [x]) = stepW p (withS p l) x := by simp [withS]
def owes : Bool → Nat | true => 0 | false => 1
theorem stepW_len (p : Pr) (s : List Pr × Bool) (x : Pr) : (stepW p s x).1.length + owes (stepW p s x).2 ≤ s.1.length + owes s.2 + 1 := by
  obtain ⟨o, d⟩ := s
  unfold stepW
  cases d <;> (repeat' split) <;> simp_all [owes]
theorem foldW_len (p : Pr) (l : List Pr) : ∀ s, (l.foldl (stepW p) s).1.length + owes (l.foldl (stepW p) s).2 ≤ s.1.length + owes s.2 + l.length := by
  induction l with
  | nil => intro s; exact Nat.le_refl _
  | cons x r ih =>
    intro s
    have h1 := ih (stepW p s x)
    have h2 := stepW_len p s x
    rw [List.foldl_cons, List.length_cons]
    omega
theorem withS_len (p : Pr) (l : List Pr) : (withS p l).1.length + owes (withS p l).2 ≤ l.length + 1 := by
  have h := foldW_len p l ([], false)
  have e : (([], false) : List Pr × Bool).1.length + owes (([], false) : List Pr × Bool).2 = 1 := rfl
  unfold withS
  rw [e] at h
  omega
theorem withP_len (l : List Pr) (p : Pr) : (withP l p).length ≤ l.length + 1 := by
  have h := withS_len p l
  unfold withP
  split
  · omega
  · rename_i hd
    have hd' : (withS p l).2 = false := by simpa using hd
    rw [hd'] at h
    have e : owes false = 1 := rfl
    rw [List.length_append, List.length_singleton]
    omega

/-- Some that may be, of raw ones, at most so many. -/
def pairsB (raw : List Pr) (most : Int) : Nat → List Pr
  | 0 => []
  | k + 1 => if (k : Int) < most then withP (pairsB raw most k) (raw.getD k (0, 0)) else pairsB raw most k
def pairs (raw : List Pr) (most : Int) : List Pr := pairsB raw most raw.length
theorem pairsB_len (raw : List Pr) (most : Int) (hm : 0 ≤ most) : ∀ k, ((pairsB raw most k).length : Int) ≤ most ∧ (pairsB raw most k).length ≤ k
  | 0 => by simp [pairsB, hm]
  | k + 1 => by
    have h := pairsB_len raw most hm k
    simp only [pairsB]
    split
    · have := withP_len (pairsB raw most k) (raw.getD k (0, 0))
      omega
    · omega

end Go.Proofs.Ytakgknoldkfekaa
