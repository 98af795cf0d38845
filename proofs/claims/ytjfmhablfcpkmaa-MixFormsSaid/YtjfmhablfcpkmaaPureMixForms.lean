/- MixForms: for every two keys the program mixes and compares as the reference does, and the known priorities are as told; no condition. -/
import Derived.Test.YtjfmhablfcpkmaaPMixFormsx1
import Derived.Test.YtjfmhablfcpkmaaMix
namespace Go.Proofs.Ytjfmhablfcpkmaa.Pure
open Go.RowKit Go.Proofs.Ytjfmhablfcpkmaa.PMixForms Go.Proofs.YtjfmhablfcpkmaaW.PrintWords Go.Proofs.YtjfmhablfcpkmaaW.PrintLast
open Go.Proofs.Ytjfmhablfcpkmaa.Mix

theorem MixForms_prio (a : Int) : mix_Prio.f a = some (prioN a : Int) := by
  unfold mix_Prio.f
  rw [prio_eq]
theorem MixForms_above (a b : Int) : mix_Above.f a b = some (above a b) := above_of mix_Prio.f prioN MixForms_prio a b
theorem MixForms_awake : osierlaw1_awake.f = some true := by
  unfold osierlaw1_awake.f
  simp only [MixForms_prio, MixForms_above, Option.bind_some]
  unfold above
  rw [prioN_eq]
  decide +kernel

theorem MixForms_prio1 (a : Int) : osierref1_Prio.f a = some (prioN a : Int) := by
  unfold osierref1_Prio.f
  rw [prio_eq]
theorem MixForms_above1 (a b : Int) : osierref1_Above.f a b = some (above a b) := above_of1 osierref1_Prio.f prioN MixForms_prio1 a b
theorem MixForms : osierlaw1_MixForms.Pure := by
  intro a b _ _
  unfold osierlaw1_MixForms.f
  simp only [MixForms_prio, MixForms_prio1, MixForms_above, MixForms_above1, MixForms_awake, Option.bind_some, beq_self_eq_true, if_true]

end Go.Proofs.Ytjfmhablfcpkmaa.Pure
