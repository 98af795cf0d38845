/- The walk of the law LookForms. -/
import Derived.Test.YtabiiggoledipaaLookFormsA
import Derived.Test.YtabiiggoledipaaLookFormsB
namespace Go.Proofs.Ytabiiggoledipaa
set_option maxRecDepth 100000
open Go.RowKit
set_option linter.unusedSimpArgs false
set_option linter.unusedVariables false

theorem lookForms_walk (W : World) {ad : Option Addr} {c : Nat} {l : List Pr} (hl : PIn W ad c l) (hokl : okP l) (key : Int) (hkey : -9223372036854775808 ≤ key ∧ key ≤ 9223372036854775807) (i : Int) (hi : -9223372036854775808 ≤ i ∧ i ≤ 9223372036854775807) :
    Calls Try.prog 10 #[.slice ad l.length c, .int .i64 key, .int .i64 i] W fun e w' => e = .returned (.bool true) ∧ Below W.heap.size W w' := by
  by_cases h0 : pairs l 60 = []
  · exact lookForms_5 W hl key i [] h0 rfl rfl rfl (by simp <;> omega)
  · have hpos : 0 < (pairs l 60).length := List.length_pos_iff.2 h0
    rcases find_cases (pairs_sorted l 60) key with ⟨k, hk, _, h1, h2⟩ | ⟨h1, h2, _⟩
    · by_cases hin : 0 ≤ i ∧ i < (pairs l 60).length
      · exact lookForms_1 W hl key i _ rfl hpos k hk h1 h2 hin
      · exact lookForms_2 W hl key i _ rfl hpos k hk h1 h2 hin
    · by_cases hin : 0 ≤ i ∧ i < (pairs l 60).length
      · exact lookForms_3 W hl key i _ rfl hpos h1 h2 hin
      · exact lookForms_4 W hl key i _ rfl hpos h1 h2 hin

end Go.Proofs.Ytabiiggoledipaa
