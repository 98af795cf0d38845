/- Calls without an arena; numbers that there are not. -/
import Derived.Test.YtabiiggoledipaaMade
import Derived.Test.YtabiiggoledipaaExactQ
namespace Go.Proofs.Ytabiiggoledipaa
set_option maxRecDepth 100000
open Go.RowKit
set_option linter.unusedSimpArgs false
set_option linter.unusedVariables false

theorem OAt.none_ (w : World) : OAt w none none (fun _ => False) := .inl ⟨rfl, rfl, fun _ h => h.elim⟩
theorem Made.nil {w w' : World} {po : Option Addr} {A : OA} (h : Made (fun _ => False) w po A w') : Below w.heap.size w w' := by
  obtain ⟨F', h1, h2, h3⟩ := h
  exact h2.below (fun _ h => h.elim) (Nat.le_refl _)
theorem isN_out {a : Ar} {t : Int} (h : (a.slots.length : Int) < t ∨ t < 1) : isN (some a) t = false := by
  cases hn : isN (some a) t with
  | false => rfl
  | true => have := isN_in hn; omega
theorem isT_out {a : Ar} {t : Int} (h : (a.slots.length : Int) < t ∨ t < 0) : isT (some a) t = false := by
  unfold isT
  rw [isN_out (by omega), decide_eq_false (by omega)]
  rfl
theorem halfO_out {a : Ar} {t : Int} (h : isT (some a) t = false) : halfO (some a) t = (0, 0, 0, 1, some a) := by unfold halfO; rw [if_pos h]

end Go.Proofs.Ytabiiggoledipaa
