/- Lists of pairs whose keys rise: With puts in, Pairs gives them; the pair above all others. Plain Lean. -/
import Derived.Test.YtkcfkanfdbejiaaTree
namespace Go.Proofs.Ytkcfkanfdbejiaa
set_option maxRecDepth 100000
open Go.Proofs.Ytkcfkanfdbejiaa.Mix

def Sorted (l : List Pr) : Prop := l.Pairwise (fun x y => x.1 < y.1)
def ins : List Pr → Pr → List Pr
  | [], p => [p]
  | x :: r, p => if p.1 < x.1 then p :: x :: r else if p.1 = x.1 then p :: r else x :: ins r p
theorem ins_mem {l : List Pr} {p x : Pr} : x ∈ ins l p → x = p ∨ x ∈ l := by
  induction l with
  | nil => intro h; simpa [ins] using h
  | cons y r ih =>
    intro h
    simp only [ins] at h
    split at h
    · simpa using h
    · split at h
      · rcases List.mem_cons.1 h with rfl | h
        · exact .inl rfl
        · exact .inr (List.mem_cons_of_mem _ h)
      · rcases List.mem_cons.1 h with rfl | h
        · exact .inr (List.mem_cons_self ..)
        · rcases ih h with h | h
          · exact .inl h
          · exact .inr (List.mem_cons_of_mem _ h)
theorem ins_sorted {l : List Pr} {p : Pr} (h : Sorted l) : Sorted (ins l p) := by
  induction l with
  | nil => simp [ins, Sorted]
  | cons y r ih =>
    have h1 := List.pairwise_cons.1 h
    simp only [ins]
    split
    · rename_i hlt
      refine List.pairwise_cons.2 ⟨fun z hz => ?_, h⟩
      rcases List.mem_cons.1 hz with rfl | hz
      · exact hlt
      · have := h1.1 z hz; omega
    · split
      · rename_i he
        exact List.pairwise_cons.2 ⟨fun z hz => by have := h1.1 z hz; omega, h1.2⟩
      · refine List.pairwise_cons.2 ⟨fun z hz => ?_, ih h1.2⟩
        rcases ins_mem hz with rfl | hz
        · omega
        · exact h1.1 z hz
theorem fold_true (p : Pr) (r : List Pr) (h : ∀ x ∈ r, x.1 ≠ p.1) : ∀ out, r.foldl (stepW p) (out, true) = (out ++ r, true) := by
  induction r with
  | nil => intro out; simp
  | cons x r ih =>
    intro out
    rw [List.foldl_cons]
    have hx : stepW p (out, true) x = (out ++ [x], true) := by
      unfold stepW
      rw [if_neg (by simp), if_neg (h x (List.mem_cons_self ..))]
    rw [hx, ih (fun y hy => h y (List.mem_cons_of_mem _ hy))]
    simp
theorem fold_false (p : Pr) (l : List Pr) (h : Sorted l) : ∀ out, (if (l.foldl (stepW p) (out, false)).2 = true then (l.foldl (stepW p) (out, false)).1 else (l.foldl (stepW p) (out, false)).1 ++ [p]) = out ++ ins l p := by
  induction l with
  | nil => intro out; simp [ins]
  | cons x r ih =>
    intro out
    have h1 := List.pairwise_cons.1 h
    rw [List.foldl_cons]
    by_cases hle : p.1 ≤ x.1
    · by_cases he : x.1 = p.1
      · have hx : stepW p (out, false) x = (out ++ [p], true) := by
          unfold stepW; rw [if_pos ⟨rfl, hle⟩, if_pos he]
        rw [hx, fold_true p r (fun y hy => by have := h1.1 y hy; omega), if_pos rfl]
        simp only [ins]
        rw [if_neg (by omega), if_pos he.symm]
        simp
      · have hx : stepW p (out, false) x = (out ++ [p] ++ [x], true) := by
          unfold stepW; rw [if_pos ⟨rfl, hle⟩, if_neg he]
        rw [hx, fold_true p r (fun y hy => by have := h1.1 y hy; omega), if_pos rfl]
        simp only [ins]
        rw [if_pos (by omega)]
        simp
    · have hx : stepW p (out, false) x = (out ++ [x], false) := by
        unfold stepW; rw [if_neg (fun hh => hle hh.2), if_neg (by omega)]
      rw [hx, ih h1.2]
      simp only [ins]
      rw [if_neg (by omega), if_neg (by omega)]
      simp
theorem withP_ins (l : List Pr) (p : Pr) (h : Sorted l) : withP l p = ins l p := by
  have := fold_false p l h []
  rw [List.nil_append] at this
  exact this
theorem pairsB_sorted (raw : List Pr) (most : Int) : ∀ k, Sorted (pairsB raw most k)
  | 0 => List.Pairwise.nil
  | k + 1 => by
    have ih := pairsB_sorted raw most k
    simp only [pairsB]
    split
    · rw [withP_ins _ _ ih]; exact ins_sorted ih
    · exact ih
theorem pairs_sorted (raw : List Pr) (most : Int) : Sorted (pairs raw most) := pairsB_sorted raw most _
theorem pairsB_mem (raw : List Pr) (most : Int) : ∀ k, k ≤ raw.length → ∀ x ∈ pairsB raw most k, x ∈ raw
  | 0, _ => by simp [pairsB]
  | k + 1, hk => by
    have ih := pairsB_mem raw most k (by omega)
    simp only [pairsB]
    split
    · rw [withP_ins _ _ (pairsB_sorted raw most k)]
      intro x hx
      rcases ins_mem hx with rfl | hx
      · rw [List.getD_eq_getElem?_getD, List.getElem?_eq_getElem (by omega)]; exact List.getElem_mem _
      · exact ih x hx
    · exact ih
theorem pairs_ok {raw : List Pr} (most : Int) (h : okP raw) : okP (pairs raw most) := fun x hx => h x (pairsB_mem raw most _ (Nat.le_refl _) x hx)

theorem Sorted.take {l : List Pr} (h : Sorted l) (m : Nat) : Sorted (l.take m) := List.Pairwise.sublist (List.take_sublist m l) h
theorem Sorted.drop {l : List Pr} (h : Sorted l) (m : Nat) : Sorted (l.drop m) := List.Pairwise.sublist (List.drop_sublist m l) h
theorem sorted_mid {l1 l2 : List Pr} {x : Pr} : Sorted (l1 ++ x :: l2) ↔ Sorted l1 ∧ Sorted l2 ∧ (∀ y ∈ l1, y.1 < x.1) ∧ (∀ y ∈ l2, x.1 < y.1) ∧ ∀ y ∈ l1, ∀ z ∈ l2, y.1 < z.1 := by
  unfold Sorted
  rw [List.pairwise_append, List.pairwise_cons]
  constructor
  · rintro ⟨h1, ⟨h2, h3⟩, h4⟩
    exact ⟨h1, h3, fun y hy => h4 y hy x (List.mem_cons_self ..), h2, fun y hy z hz => h4 y hy z (List.mem_cons_of_mem _ hz)⟩
  · rintro ⟨h1, h2, h3, h4, h5⟩
    refine ⟨h1, ⟨h4, h2⟩, fun y hy z hz => ?_⟩
    rcases List.mem_cons.1 hz with rfl | hz
    · exact h3 y hy
    · exact h5 y hy z hz

/-- What is told of the place of the pair above all others. -/
theorem topB_max (l : List Pr) (hd : ∀ i j, i < l.length → j < l.length → i ≠ j → keyAt l i ≠ keyAt l j) : ∀ k, 0 < k → k ≤ l.length → ∃ m : Nat, topB l k = m ∧ m < k ∧ ∀ j, j < k → j ≠ m → above (keyAt l m) (keyAt l j) = true
  | 0, h, _ => absurd h (by omega)
  | k + 1, _, hk => by
    by_cases h0 : k = 0
    · subst h0
      exact ⟨0, rfl, by omega, fun j h1 h2 => absurd h1 (by omega)⟩
    · obtain ⟨m, h1, h2, h3⟩ := topB_max l hd k (by omega) (by omega)
      have e : topB l (k + 1) = if above (keyAt l k) (keyAt l m) = true then (k : Int) else (m : Int) := by
        simp only [topB]
        rw [h1, if_neg (by omega), Int.toNat_natCast]
      by_cases ha : above (keyAt l k) (keyAt l m) = true
      · rw [if_pos ha] at e
        refine ⟨k, e, by omega, fun j hj hjk => ?_⟩
        by_cases hm : j = m
        · subst hm; exact ha
        · exact above_trans ha (h3 j (by omega) hm)
      · rw [if_neg ha] at e
        refine ⟨m, e, by omega, fun j hj hjm => ?_⟩
        by_cases hm : j = k
        · subst hm
          rcases above_total (hd m j (by omega) (by omega) (fun e => hjm e.symm)) with h | h
          · exact h
          · exact absurd h ha
        · exact h3 j (by omega) hjm
theorem keyAt_eq {l : List Pr} {i : Nat} (h : i < l.length) : keyAt l i = (l[i]).1 := by
  unfold keyAt; rw [List.getD_eq_getElem?_getD, List.getElem?_eq_getElem h]; rfl
theorem Sorted.lt {l : List Pr} (h : Sorted l) {i j : Nat} (hij : i < j) (hj : j < l.length) : keyAt l i < keyAt l j := by
  rw [keyAt_eq (by omega), keyAt_eq hj]
  exact List.pairwise_iff_getElem.1 h i j (by omega) hj hij
theorem Sorted.ne {l : List Pr} (h : Sorted l) : ∀ i j, i < l.length → j < l.length → i ≠ j → keyAt l i ≠ keyAt l j := by
  intro i j hi hj hij
  rcases Nat.lt_or_ge i j with h1 | h1
  · have := h.lt h1 hj; omega
  · have := h.lt (show j < i by omega) hi; omega

/-- Of pairs whose keys rise: the pair between is above all others, and no other place has one that is. -/
theorem top_above {l1 l2 : List Pr} {x : Pr} (hs : Sorted (l1 ++ x :: l2)) (ht : top (l1 ++ x :: l2) = (l1.length : Int)) : (∀ y ∈ l1, above x.1 y.1 = true) ∧ ∀ y ∈ l2, above x.1 y.1 = true := by
  obtain ⟨m, h1, h2, h3⟩ := topB_max _ hs.ne (l1 ++ x :: l2).length (by simp <;> omega) (Nat.le_refl _)
  have hm : m = l1.length := by unfold top at ht; omega
  subst hm
  have hx : keyAt (l1 ++ x :: l2) l1.length = x.1 := by rw [keyAt_eq h2]; simp
  rw [hx] at h3
  constructor
  · intro y hy
    obtain ⟨i, hi, rfl⟩ := List.getElem_of_mem hy
    have := h3 i (by simp; omega) (by omega)
    rw [keyAt_eq (by simp; omega), List.getElem_append_left hi] at this
    exact this
  · intro y hy
    obtain ⟨i, hi, rfl⟩ := List.getElem_of_mem hy
    have := h3 (l1.length + 1 + i) (by simp; omega) (by omega)
    rw [keyAt_eq (by simp; omega)] at this
    simpa [List.getElem_append_right, Nat.add_assoc, Nat.add_comm 1 i] using this
theorem top_of {l1 l2 : List Pr} {x : Pr} (hs : Sorted (l1 ++ x :: l2)) (ha : ∀ y ∈ l1, above x.1 y.1 = true) (hb : ∀ y ∈ l2, above x.1 y.1 = true) : top (l1 ++ x :: l2) = (l1.length : Int) := by
  obtain ⟨m, h1, h2, h3⟩ := topB_max _ hs.ne (l1 ++ x :: l2).length (by simp <;> omega) (Nat.le_refl _)
  have hx : keyAt (l1 ++ x :: l2) l1.length = x.1 := by rw [keyAt_eq (by simp)]; simp
  by_cases hm : m = l1.length
  · subst hm; exact h1
  · have h4 := h3 l1.length (by simp) (fun e => hm e.symm)
    rw [hx] at h4
    have h5 : above x.1 (keyAt (l1 ++ x :: l2) m) = true := by
      rw [keyAt_eq h2]
      rcases Nat.lt_or_ge m l1.length with h | h
      · rw [List.getElem_append_left h]; exact ha _ (List.getElem_mem _)
      · rw [List.getElem_append_right (by omega)]
        obtain ⟨d, hd⟩ : ∃ d, m - l1.length = d + 1 := ⟨m - l1.length - 1, by omega⟩
        have hdl : d < l2.length := by simp at h2; omega
        have : (x :: l2)[m - l1.length]'(by simp; omega) = l2[d] := by
          simp only [hd, List.getElem_cons_succ]
        rw [this]
        exact hb _ (List.getElem_mem _)
    exact absurd (above_trans h4 h5) (by rw [above_irrefl]; decide)

end Go.Proofs.Ytkcfkanfdbejiaa
