/- MixTop: of any list of keys the one found going along is above all the others; no condition. -/
import Derived.Test.YtjfmhablfcpkmaaPMixTopx1
import Derived.Test.YtjfmhablfcpkmaaMix
namespace Go.Proofs.Ytjfmhablfcpkmaa.Pure
open Go.RowKit Go.Proofs.Ytjfmhablfcpkmaa.PMixTop Go.Proofs.YtjfmhablfcpkmaaW.PrintWords Go.Proofs.YtjfmhablfcpkmaaW.PrintLast
open Go.Proofs.Ytjfmhablfcpkmaa.Mix

theorem MixTop_prio (a : Int) : mix_Prio.f a = some (prioN a : Int) := by
  unfold mix_Prio.f
  rw [prio_eq]
theorem MixTop_above (a b : Int) : mix_Above.f a b = some (above a b) := above_of mix_Prio.f prioN MixTop_prio a b
theorem MixTop_awake : osierlaw1_awake.f = some true := by
  unfold osierlaw1_awake.f
  simp only [MixTop_prio, MixTop_above, Option.bind_some]
  unfold above
  rw [prioN_eq]
  decide +kernel

theorem MixTop_wrap {i : Int} {n : Nat} (h0 : 0 ≤ i) (h : i < (n : Int)) (hn : n ≤ 60) : wrap64 (i + 1) = i + 1 := by
  unfold wrap64; omega

theorem MixTop_second (l : List Int) (top : Int) (hn : l.length ≤ 60) (hall : ∀ x ∈ l, x = top ∨ above top x = true) (d : Nat) : ∀ (k i : Nat), i ≤ l.length → l.length - i = d → d < k →
    osierlaw1_MixTop.l1 k top l l.length i = some true := by
  induction d with
  | zero =>
    intro k i h1 hd hk
    obtain ⟨k, rfl⟩ : ∃ m, k = m + 1 := ⟨k - 1, by omega⟩
    simp only [osierlaw1_MixTop.l1]
    rw [if_neg (by omega), MixTop_awake]; rfl
  | succ d ih =>
    intro k i h1 hd hk
    obtain ⟨k, rfl⟩ : ∃ m, k = m + 1 := ⟨k - 1, by omega⟩
    have hlt : (i : Int) < (l.length : Int) := by omega
    have next := ih k (i + 1) (by omega) (by omega) (by omega)
    simp only [osierlaw1_MixTop.l1]
    rw [if_pos hlt, if_pos (by omega), if_pos hlt, MixTop_above]
    simp only [Option.bind_some]
    rw [MixTop_wrap (by omega) hlt hn]
    rw [show ((i : Int) + 1) = ((i + 1 : Nat) : Int) by omega, next]
    have hm : rd l (i : Int) ∈ l := by
      unfold rd
      rw [Int.toNat_natCast, List.getD_eq_getElem?_getD, List.getElem?_eq_getElem (by omega), Option.getD_some]
      exact List.getElem_mem _
    rcases hall _ hm with h | h
    · rw [if_pos h]
    · by_cases e : rd l (i : Int) = top
      · rw [if_pos e]
      · rw [if_neg e, if_pos h]

theorem MixTop_first (l : List Int) (hn : l.length ≤ 60) (d : Nat) : ∀ (k i : Nat) (top : Int), i ≤ l.length → l.length - i = d → d + l.length + 1 < k →
    (∀ x ∈ l.take i, x = top ∨ above top x = true) → osierlaw1_MixTop.l0 k l top l l.length i = some true := by
  induction d with
  | zero =>
    intro k i top h1 hd hk hall
    obtain ⟨k, rfl⟩ : ∃ m, k = m + 1 := ⟨k - 1, by omega⟩
    simp only [osierlaw1_MixTop.l0]
    rw [if_neg (by omega)]
    rw [List.take_of_length_le (by omega)] at hall
    exact MixTop_second l top hn hall l.length k 0 (by omega) (by omega) (by omega)
  | succ d ih =>
    intro k i top h1 hd hk hall
    obtain ⟨k, rfl⟩ : ∃ m, k = m + 1 := ⟨k - 1, by omega⟩
    have hlt : (i : Int) < (l.length : Int) := by omega
    have hr : rd l (i : Int) = l[i]'(by omega) := by
      unfold rd
      rw [Int.toNat_natCast, List.getD_eq_getElem?_getD, List.getElem?_eq_getElem (by omega), Option.getD_some]
    have ht : ∀ x ∈ l.take (i + 1), x ∈ l.take i ∨ x = rd l (i : Int) := by
      intro x hx
      rw [List.take_succ_eq_append_getElem (by omega), List.mem_append, List.mem_singleton, ← hr] at hx
      exact hx
    simp only [osierlaw1_MixTop.l0]
    rw [if_pos hlt, if_pos (by omega), if_pos hlt, MixTop_above]
    simp only [Option.bind_some]
    rw [MixTop_wrap (by omega) hlt hn]
    rw [show ((i : Int) + 1) = ((i + 1 : Nat) : Int) by omega]
    cases ha : above (rd l (i : Int)) top with
    | true =>
      rw [if_pos rfl]
      refine ih k (i + 1) _ (by omega) (by omega) (by omega) (fun x hx => ?_)
      rcases ht x hx with h | h
      · rcases hall x h with h | h
        · subst h; exact .inr ha
        · exact .inr (above_trans ha h)
      · exact .inl h
    | false =>
      rw [if_neg (by decide)]
      refine ih k (i + 1) _ (by omega) (by omega) (by omega) (fun x hx => ?_)
      rcases ht x hx with h | h
      · exact hall x h
      · subst h; exact above_false ha

theorem MixTop_all (l : List Int) : ∃ k, osierlaw1_MixTop.f k l = some true := by
  refine ⟨200, ?_⟩
  unfold osierlaw1_MixTop.f
  by_cases h1 : (l.length : Int) < 1
  · rw [if_pos h1]
    simp only [osierlaw1_MixTop.j0, if_true]
    rw [MixTop_awake]; rfl
  · rw [if_neg h1]
    by_cases h2 : (l.length : Int) > 60
    · rw [decide_eq_true h2]
      simp only [osierlaw1_MixTop.j0, if_true]
      rw [MixTop_awake]; rfl
    · rw [decide_eq_false h2]
      simp only [osierlaw1_MixTop.j0]
      rw [if_neg (by decide), if_pos (by omega)]
      exact MixTop_first l (by omega) l.length 199 0 _ (by omega) (by omega) (by omega) (by simp)
theorem MixTop : osierlaw1_MixTop.Pure := fun l _ _ _ => MixTop_all l

end Go.Proofs.Ytjfmhablfcpkmaa.Pure
