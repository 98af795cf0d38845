/- MixOne: of any three keys, above is a strict total order; no condition. -/
import Derived.Test.YtjfmhablfcpkmaaPMixOnex1
import Derived.Test.YtjfmhablfcpkmaaMix
namespace Go.Proofs.Ytjfmhablfcpkmaa.Pure
open Go.RowKit Go.Proofs.Ytjfmhablfcpkmaa.PMixOne Go.Proofs.YtjfmhablfcpkmaaW.PrintWords Go.Proofs.YtjfmhablfcpkmaaW.PrintLast
open Go.Proofs.Ytjfmhablfcpkmaa.Mix

theorem MixOne_prio (a : Int) : mix_Prio.f a = some (prioN a : Int) := by
  unfold mix_Prio.f
  rw [prio_eq]
theorem MixOne_above (a b : Int) : mix_Above.f a b = some (above a b) := above_of mix_Prio.f prioN MixOne_prio a b
theorem MixOne_awake : osierlaw1_awake.f = some true := by
  unfold osierlaw1_awake.f
  simp only [MixOne_prio, MixOne_above, Option.bind_some]
  unfold above
  rw [prioN_eq]
  decide +kernel

theorem MixOne : osierlaw1_MixOne.Pure := by
  intro a b c _ _ _
  refine ⟨2, ?_⟩
  have ii := above_irrefl a
  unfold osierlaw1_MixOne.f
  simp only [MixOne_above, Option.bind_some, ii, if_false, Bool.false_eq_true]
  have tail : osierlaw1_MixOne.j0 2 a b c false = some true := by
    have tr := @above_trans a b c
    cases h1 : above a b <;> cases h2 : above b c <;> cases h3 : above a c <;> simp [osierlaw1_MixOne.j0, MixOne_above, MixOne_awake, h1, h2, h3] <;> simp_all
  by_cases e : a = b
  · rw [if_pos e]; exact tail
  · rw [if_neg e]
    have : (above a b == above b a) = false := by
      rcases above_total e with h | h
      · rw [h, above_asymm h]; rfl
      · rw [h, above_asymm h]; rfl
    rw [this]; exact tail

end Go.Proofs.Ytjfmhablfcpkmaa.Pure
