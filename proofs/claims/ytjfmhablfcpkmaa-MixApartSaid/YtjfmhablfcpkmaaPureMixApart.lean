/- MixApart: unlike keys have unlike priorities; no condition. -/
import Derived.Test.YtjfmhablfcpkmaaPMixApartx1
import Derived.Test.YtjfmhablfcpkmaaMix
namespace Go.Proofs.Ytjfmhablfcpkmaa.Pure
open Go.RowKit Go.Proofs.Ytjfmhablfcpkmaa.PMixApart Go.Proofs.YtjfmhablfcpkmaaW.PrintWords Go.Proofs.YtjfmhablfcpkmaaW.PrintLast
open Go.Proofs.Ytjfmhablfcpkmaa.Mix

theorem MixApart_prio (a : Int) : mix_Prio.f a = some (prioN a : Int) := by
  unfold mix_Prio.f
  rw [prio_eq]
theorem MixApart_above (a b : Int) : mix_Above.f a b = some (above a b) := above_of mix_Prio.f prioN MixApart_prio a b
theorem MixApart_awake : osierlaw1_awake.f = some true := by
  unfold osierlaw1_awake.f
  simp only [MixApart_prio, MixApart_above, Option.bind_some]
  unfold above
  rw [prioN_eq]
  decide +kernel

theorem MixApart_bd {a : Int} (h : (Lit.int .i64 a).wf = true) : -9223372036854775808 ≤ a ∧ a ≤ 9223372036854775807 := by
  simp [Lit.wf, IntKind.min, IntKind.max, IntKind.bits, IntKind.signed] at h; exact h

theorem MixApart : osierlaw1_MixApart.Pure := by
  intro a b ha hb
  unfold osierlaw1_MixApart.f
  simp only [MixApart_prio, MixApart_awake, Option.bind_some]
  rw [if_pos]
  by_cases e : a = b
  · subst e; simp
  · have h1 : (a == b) = false := beq_eq_false_iff_ne.2 e
    have h2 : ((prioN a : Int) == (prioN b : Int)) = false := beq_eq_false_iff_ne.2 (fun h => e (prioN_inj (MixApart_bd ha) (MixApart_bd hb) (Int.natCast_inj.1 h)))
    rw [h1, h2]; rfl

end Go.Proofs.Ytjfmhablfcpkmaa.Pure
