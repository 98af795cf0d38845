/- What sound.same answers and leaves. -/
import Derived.Test.YtkcfkanfdbejiaaSameP
import Derived.Test.YtkcfkanfdbejiaaExactQ
import Derived.Test.YtkcfkanfdbejiaaWMore
namespace Go.Proofs.Ytkcfkanfdbejiaa
set_option maxRecDepth 100000
open Go.RowKit Go.Proofs.Ytkcfkanfdbejiaa.Mix Go.Proofs.YtkcfkanfdbejiaaW.PrintWords Go.Proofs.YtkcfkanfdbejiaaW.PrintLast
set_option linter.unusedSimpArgs false
set_option linter.unusedVariables false

/-- What same answers of two treaps, and what it leaves. -/
def SamePost (a : Ar) (w : World) (mb N : Nat) (l m : List Pr) : Ending → World → Prop := fun e w' =>
  e = .returned (.bool (decide (l = m))) ∧ (∃ n' D', MapOf w' mb n' D' ∧ MInv a D' ∧ n' ≤ N) ∧ Frame (Only mb) w w'
theorem SamePost.more {a : Ar} {w : World} {mb N N' : Nat} {l m : List Pr} (h : N ≤ N') (e : Ending) (w' : World) (k : SamePost a w mb N l m e w') : SamePost a w mb N' l m e w' := by
  obtain ⟨h1, ⟨n', D', h2, h3, h4⟩, h5⟩ := k
  exact ⟨h1, ⟨n', D', h2, h3, Nat.le_trans h4 h⟩, h5⟩


end Go.Proofs.Ytkcfkanfdbejiaa
