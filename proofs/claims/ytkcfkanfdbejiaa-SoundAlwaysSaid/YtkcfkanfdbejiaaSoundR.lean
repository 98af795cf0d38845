/- May of nodes over two treaps. Plain Lean. -/
import Derived.Test.YtkcfkanfdbejiaaSoundQ
import Derived.Test.YtkcfkanfdbejiaaSoundW
namespace Go.Proofs.Ytkcfkanfdbejiaa
set_option maxRecDepth 100000
open Go.RowKit (wrap64)
open Go.Proofs.Ytkcfkanfdbejiaa.Mix

theorem mayO_tr {a : Ar} {t : Int} {l : List Pr} (h : Tr a t l) (hs : Sorted l) (hl : l.length ≤ 1200) : mayO (some a) t = true := by
  have hle := h.le
  have e := may_tr h (usedO (some a) + 1).toNat (usedO (some a) + 1) ⟨0, 0, false⟩ hs (by show t ≤ ((a.slots.length : Int) + 1).toNat; omega) (.inr (by show t < (a.slots.length : Int) + 1; omega)) (Int.le_refl _) (by show 0 + (l.length : Int) ≤ 1200; omega) (fun e => by cases e)
  unfold mayO
  rw [e]
  rfl
theorem mayO_bad {a : Ar} {t : Int} (h0 : t ≠ 0) (hn : isN (some a) t = false) : mayO (some a) t = false := by
  unfold mayO
  rw [mayF_bad _ h0 (.inl hn)]
  rfl
/-- A node over two treaps. -/
structure Over (a : Ar) (n k v x y s g : Int) (l1 l2 : List Pr) : Prop where
  node : isN (some a) n = true
  says : getN (some a) n = ⟨k, v, x, y, s, g⟩
  left : Tr a x l1
  right : Tr a y l2
  lx : x < n
  ly : y < n
  s1 : Sorted l1
  s2 : Sorted l2
  b1 : l1.length ≤ 500
  b2 : l2.length ≤ 500
theorem hit0 : hit ⟨0, 0, false⟩ = ⟨1, 0, false⟩ := by rw [hit_ok (by decide) (by decide)]; rfl
section
variable {a : Ar} {n k v x y s g : Int} {l1 l2 : List Pr}
theorem Over.L (h : Over a n k v x y s g l1 l2) (m : Nat) (hm : n ≤ m + 1) : mayF m (some a) x n (hit ⟨0, 0, false⟩) = ((l1.length : Int), (hgt l1 : Int), true, met ⟨1, 0, false⟩ l1) := by
  rw [hit0]
  have hb := h.b1
  have hl := h.lx
  exact may_tr h.left m n _ h.s1 (by omega) (.inr h.lx) (by decide) (by show (1 : Int) + _ ≤ 1200; omega) (fun e => by cases e)
/-- Keys in order: it hangs on size, height, and who is above. -/
theorem Over.fine (h : Over a n k v x y s g l1 l2) (h1 : ∀ p ∈ l1, p.1 < k) (h2 : ∀ p ∈ l2, k < p.1) :
    mayO (some a) n = ((s == ((l1.length + l2.length + 1 : Nat) : Int)) && (g == ((1 + max (hgt l1) (hgt l2) : Nat) : Int)) && aboveO (some a) k x && aboveO (some a) k y) := by
  have hp := isN_pos h.node
  obtain ⟨_, hn2, _⟩ := isN_in h.node
  have b1 := h.b1; have b2 := h.b2; have hly := h.ly
  have hu : usedO (some a) + 1 = (a.slots.length : Int) + 1 := rfl
  have hf : ((a.slots.length : Int) + 1).toNat = a.slots.length + 1 := by omega
  have hk : comes (met ⟨1, 0, false⟩ l1) k = true := comes_met h1 (fun e => by cases e)
  have R := may_tr h.right a.slots.length n (came (met ⟨1, 0, false⟩ l1) k) h.s2 (by omega) (.inr h.ly) (by show (0 : Int) ≤ 1 + (l1.length : Int); omega) (by show 1 + (l1.length : Int) + (l2.length : Int) ≤ 1200; omega) (fun _ p hp => h2 p hp)
  have e := mayF_r (by omega) h.node (show n < usedO (some a) + 1 by rw [hu]; omega) (by rw [hit0]; decide) h.says (h.L a.slots.length (by omega)) hk R
  have e1 : wrap64 (wrap64 ((l1.length : Int) + l2.length) + 1) = ((l1.length + l2.length + 1 : Nat) : Int) := by
    rw [wrap_id (x := (l1.length : Int) + l2.length) (by omega) (by omega), wrap_id (by omega) (by omega)]; omega
  have e2 : wrap64 (mx (hgt l1) (hgt l2) + 1) = ((1 + max (hgt l1) (hgt l2) : Nat) : Int) :=
    mx_hgt (Nat.le_trans (hgt_le l1) (Nat.le_trans h.b1 (by decide))) (Nat.le_trans (hgt_le l2) (Nat.le_trans h.b2 (by decide))) rfl
  unfold mayO
  rw [hu, hf]
  rw [hu] at e
  rw [e, e1, e2]
  simp
/-- The last key on the left is not lower. -/
theorem Over.badL (h : Over a n k v x y s g l1 l2) {p : Pr} (hp : l1.getLast? = some p) (hk : k ≤ p.1) : mayO (some a) n = false := by
  have hp0 := isN_pos h.node
  obtain ⟨_, hn2, _⟩ := isN_in h.node
  have hu : usedO (some a) + 1 = (a.slots.length : Int) + 1 := rfl
  have hf : ((a.slots.length : Int) + 1).toNat = a.slots.length + 1 := by omega
  have hne : l1 ≠ [] := fun e => by rw [e] at hp; simp at hp
  have hc : comes (met ⟨1, 0, false⟩ l1) k = false := by
    unfold comes met lastK
    rw [hp]
    simp [hne, hk]
  have e := mayF_c (by omega) h.node (show n < usedO (some a) + 1 by rw [hu]; omega) (by rw [hit0]; decide) h.says (h.L a.slots.length (by omega)) hc
  unfold mayO
  rw [hu, hf]
  rw [hu] at e
  rw [e]
  rfl
/-- The first key on the right is not greater. -/
theorem Over.badR (h : Over a n k v x y s g l1 l2) (h1 : ∀ p ∈ l1, p.1 < k) {p : Pr} (hp : l2.head? = some p) (hk : p.1 ≤ k) : mayO (some a) n = false := by
  have hp0 := isN_pos h.node
  obtain ⟨_, hn2, _⟩ := isN_in h.node
  have b1 := h.b1; have b2 := h.b2; have hly := h.ly
  have hu : usedO (some a) + 1 = (a.slots.length : Int) + 1 := rfl
  have hf : ((a.slots.length : Int) + 1).toNat = a.slots.length + 1 := by omega
  have hc : comes (met ⟨1, 0, false⟩ l1) k = true := comes_met h1 (fun e => by cases e)
  have R := may_late h.right a.slots.length n (came (met ⟨1, 0, false⟩ l1) k) h.s2 (by omega) (.inr h.ly) (by show (0 : Int) ≤ 1 + (l1.length : Int); omega) (by show 1 + (l1.length : Int) + (l2.length : Int) ≤ 1200; omega) rfl ⟨p, hp, hk⟩
  generalize hM : mayF a.slots.length (some a) y n (came (met ⟨1, 0, false⟩ l1) k) = M at R
  obtain ⟨rs, rh, rok, rc⟩ := M
  simp only [] at R
  subst R
  have e := mayF_r (by omega) h.node (show n < usedO (some a) + 1 by rw [hu]; omega) (by rw [hit0]; decide) h.says (h.L a.slots.length (by omega)) hc hM
  unfold mayO
  rw [hu, hf]
  rw [hu] at e
  rw [e]
  simp
end
/-- What is made by hand over two treaps. -/
theorem raw_over {a : Ar} {x y : Int} {l1 l2 : List Pr} (h1 : Tr a x l1) (h2 : Tr a y l2) (s1 : Sorted l1) (s2 : Sorted l2) (b1 : l1.length ≤ 500) (b2 : l2.length ≤ 500) (hr : (a.slots.length : Int) < a.room) (k v s g : Int) :
    ∃ a', makeO (some a) 1 [k, v, x, y, s, g] = ((a.slots.length : Int) + 1, 0, some a') ∧ Ext a a' ∧ a'.slots.length = a.slots.length + 1 ∧ Over a' ((a.slots.length : Int) + 1) k v x y s g l1 l2 := by
  have e1 := h1.le; have e2 := h2.le
  refine ⟨pushN a k v x y s g, ?_, pushN_ext _ _ _ _ _ _ _, pushN_len _ _ _ _ _ _ _, ?_⟩
  · rw [makeO_some _ _ _ (by simp), add_ok hr]; rfl
  · exact ⟨isN_of (by omega) (by rw [pushN_len]; omega) (by rw [pushN_slot]), getN_of (by omega) (by rw [pushN_len]; omega) (pushN_slot _ _ _ _ _ _ _), h1.ext (pushN_ext _ _ _ _ _ _ _), h2.ext (pushN_ext _ _ _ _ _ _ _), by omega, by omega, s1, s2, b1, b2⟩
/-- What Make makes over two treaps. -/
theorem make_over {a : Ar} {x y : Int} {l1 l2 : List Pr} (h1 : Tr a x l1) (h2 : Tr a y l2) (s1 : Sorted l1) (s2 : Sorted l2) (b1 : l1.length ≤ 500) (b2 : l2.length ≤ 500) (hr : (a.slots.length : Int) < a.room) (k v : Int) :
    ∃ a', makeN (some a) k v x y = ((a.slots.length : Int) + 1, 0, some a') ∧ Ext a a' ∧ a'.slots.length = a.slots.length + 1 ∧ Over a' ((a.slots.length : Int) + 1) k v x y ((l1.length + l2.length + 1 : Nat) : Int) ((1 + max (hgt l1) (hgt l2) : Nat) : Int) l1 l2 := by
  have z1 := h1.size; have z2 := h2.size
  have hv : nodeVals (some a) k v x y = [k, v, x, y, ((l1.length + l2.length + 1 : Nat) : Int), ((1 + max (hgt l1) (hgt l2) : Nat) : Int)] := by
    unfold nodeVals
    rw [z1.1, z1.2, z2.1, z2.2]
    have e2 := mx_hgt (Nat.le_trans (hgt_le l1) (Nat.le_trans b1 (by decide))) (Nat.le_trans (hgt_le l2) (Nat.le_trans b2 (by decide))) (rfl : 1 + max (hgt l1) (hgt l2) = 1 + max (hgt l1) (hgt l2))
    unfold mx at e2
    rw [e2]
    clear e2 z1 z2
    have e1 : wrap64 (wrap64 ((l1.length : Int) + l2.length) + 1) = ((l1.length + l2.length + 1 : Nat) : Int) := by
      rw [wrap_id (x := (l1.length : Int) + l2.length) (by omega) (by omega), wrap_id (by omega) (by omega)]; omega
    rw [e1]
  have hb : badArg (some a) x y = false := by
    unfold badArg
    rcases h1.arg with r1 | r1 <;> rcases h2.arg with r2 | r2 <;> simp [r1, r2]
  obtain ⟨a', g1, g2, g3, g4⟩ := raw_over h1 h2 s1 s2 b1 b2 hr k v ((l1.length + l2.length + 1 : Nat) : Int) ((1 + max (hgt l1) (hgt l2) : Nat) : Int)
  refine ⟨a', ?_, g2, g3, g4⟩
  unfold makeN
  rw [hb, hv]
  exact g1
theorem Tr.rootKey {a : Ar} {t : Int} {l : List Pr} (h : Tr a t l) (hl : l ≠ []) : isN (some a) t = true ∧ (getN (some a) t).key = keyAt l (top l).toNat := by
  cases h with
  | nil => exact absurd rfl hl
  | node t k v x y l1 l2 hn hg ht =>
    refine ⟨hn, ?_⟩
    rw [hg, ht, Int.toNat_natCast]
    rw [keyAt_eq (by simp)]
    simp
theorem Over.ext {a b : Ar} {n k v x y s g : Int} {l1 l2 : List Pr} (e : Ext a b) (h : Over a n k v x y s g l1 l2) : Over b n k v x y s g l1 l2 :=
  ⟨e.node h.node, (e.says h.node).trans h.says, h.left.ext e, h.right.ext e, h.lx, h.ly, h.s1, h.s2, h.b1, h.b2⟩
theorem Tr.parts {a : Ar} {t : Int} {l : List Pr} (h : Tr a t l) (hl : l ≠ []) : ∃ k v x y l1 l2, l = l1 ++ (k, v) :: l2 ∧ isN (some a) t = true ∧ getN (some a) t = ⟨k, v, x, y, (l.length : Int), (hgt l : Int)⟩ ∧ top l = (l1.length : Int) ∧ Tr a x l1 ∧ Tr a y l2 := by
  cases h with
  | nil => exact absurd rfl hl
  | node t k v x y l1 l2 hn hg ht hx hy h1 h2 => exact ⟨k, v, x, y, l1, l2, rfl, hn, hg, ht, h1, h2⟩
theorem Tr.zero {a : Ar} {t : Int} {l : List Pr} (h : Tr a t l) : t = 0 ↔ l = [] := by
  constructor
  · rintro rfl
    cases h with
    | nil => rfl
    | node t k v x y l1 l2 hn => rw [isN_zero] at hn; cases hn
  · rintro rfl; exact h.none_
theorem wrap_i64 (n : Int) : IntKind.i64.wrap n = (n + 9223372036854775808) % 18446744073709551616 - 9223372036854775808 := by
  simp only [IntKind.wrap, IntKind.bits, IntKind.signed]
  simp
  split <;> omega
theorem xor_same {s b : Int} (h0 : 0 ≤ s) (h1 : s ≤ 1000000) (hb : -9223372036854775808 ≤ b ∧ b ≤ 9223372036854775807) (h : bits .xor .i64 s b = s) : b = 0 := by
  have hz : IntKind.i64.wrap ((BitVec.ofInt 64 s ^^^ BitVec.ofInt 64 b).toNat : Int) = s := h
  have hlt := (BitVec.ofInt 64 s ^^^ BitVec.ofInt 64 b).isLt
  rw [wrap_i64] at hz
  generalize hZ : BitVec.ofInt 64 s ^^^ BitVec.ofInt 64 b = Z at hz hlt
  have e1 : (Z.toNat : Int) = s := by omega
  have e2 : Z = BitVec.ofInt 64 s := by
    apply BitVec.eq_of_toNat_eq
    rw [BitVec.toNat_ofInt]
    omega
  rw [e2] at hZ
  have e3 : BitVec.ofInt 64 b = 0#64 := by
    have := congrArg (BitVec.ofInt 64 s ^^^ ·) hZ
    simpa [← BitVec.xor_assoc] using this
  have e4 := congrArg BitVec.toNat e3
  rw [BitVec.toNat_ofInt] at e4
  simp at e4
  omega
theorem xor_zero {s : Int} (h0 : 0 ≤ s) (h1 : s ≤ 1000000) : bits .xor .i64 s 0 = s := by
  show IntKind.i64.wrap ((BitVec.ofInt 64 s ^^^ BitVec.ofInt 64 0).toNat : Int) = s
  have e : (BitVec.ofInt 64 s ^^^ BitVec.ofInt 64 0) = BitVec.ofInt 64 s := by simp
  rw [e, BitVec.toNat_ofInt, wrap_i64]
  omega

end Go.Proofs.Ytkcfkanfdbejiaa
