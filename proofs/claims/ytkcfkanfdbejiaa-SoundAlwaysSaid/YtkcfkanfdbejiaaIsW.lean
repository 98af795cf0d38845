/- The walks of is: is there such a treap. -/
import Derived.Test.YtkcfkanfdbejiaaExactQ
namespace Go.Proofs.Ytkcfkanfdbejiaa
set_option maxRecDepth 100000
open Go.RowKit
set_option linter.unusedSimpArgs false
set_option linter.unusedVariables false

set_option maxHeartbeats 1000000 in
theorem is_put {w : World} {po : Option Addr} {A : OA} {F : Nat → Prop} (h : OAt w po A F) (t : Int) :
    Calls Try.prog 56 #[.pointer po, .int .i64 t] w fun e w' => e = .returned (.bool (isT A t)) ∧ Below w.heap.size w w' := by
  have HG := Lib.hid (get_any h t)
  rcases h with ⟨rfl, rfl, _⟩ | ⟨a, p, sv, row, rfl, rfl, _⟩
  · rw [show isT none t = false from rfl]
    go_enter Try.func56, Try.ntmps56
    go_wp2_with fail
    refine HG.out.mono ?_
    rintro e w1 ⟨rfl, b1⟩
    have B1 := Lib.hid b1; clear b1
    go_wp2_with fail
    go_ret
    exact ⟨rfl, B1.out.alloc B1.out.size _⟩
  · by_cases h0 : t = 0
    · subst h0
      rw [show isT (some a) 0 = true from rfl]
      go_enter Try.func56, Try.ntmps56
      go_wp2_with fail
      refine HG.out.mono ?_
      rintro e w1 ⟨rfl, b1⟩
      have B1 := Lib.hid b1; clear b1
      go_wp2_with fail
      go_ret
      exact ⟨rfl, B1.out.alloc B1.out.size _⟩
    · have q0 : (t == 0) = false := beq_eq_false_iff_ne.2 h0
      rw [show isT (some a) t = isN (some a) t by unfold isT; simp [h0]]
      clear h0
      go_enter Try.func56, Try.ntmps56
      go_wp2_with fail
      refine HG.out.mono ?_
      rintro e w1 ⟨rfl, b1⟩
      have B1 := Lib.hid b1; clear b1
      go_wp2_with fail
      go_ret
      exact ⟨rfl, B1.out.alloc B1.out.size _⟩

set_option maxHeartbeats 1000000 in
theorem is_part {w : World} {po : Option Addr} {A : OA} {F : Nat → Prop} (h : OAt w po A F) (t : Int) :
    Calls Try.prog 54 #[.pointer po, .int .i64 t] w fun e w' => e = .returned (.bool (isT A t)) ∧ Below w.heap.size w w' := by
  have HG := Lib.hid (get_any h t)
  rcases h with ⟨rfl, rfl, _⟩ | ⟨a, p, sv, row, rfl, rfl, _⟩
  · rw [show isT none t = false from rfl]
    go_enter Try.func54, Try.ntmps54
    go_wp2_with fail
    refine HG.out.mono ?_
    rintro e w1 ⟨rfl, b1⟩
    have B1 := Lib.hid b1; clear b1
    go_wp2_with fail
    go_ret
    exact ⟨rfl, B1.out.alloc B1.out.size _⟩
  · by_cases h0 : t = 0
    · subst h0
      rw [show isT (some a) 0 = true from rfl]
      go_enter Try.func54, Try.ntmps54
      go_wp2_with fail
      refine HG.out.mono ?_
      rintro e w1 ⟨rfl, b1⟩
      have B1 := Lib.hid b1; clear b1
      go_wp2_with fail
      go_ret
      exact ⟨rfl, B1.out.alloc B1.out.size _⟩
    · have q0 : (t == 0) = false := beq_eq_false_iff_ne.2 h0
      rw [show isT (some a) t = isN (some a) t by unfold isT; simp [h0]]
      clear h0
      go_enter Try.func54, Try.ntmps54
      go_wp2_with fail
      refine HG.out.mono ?_
      rintro e w1 ⟨rfl, b1⟩
      have B1 := Lib.hid b1; clear b1
      go_wp2_with fail
      go_ret
      exact ⟨rfl, B1.out.alloc B1.out.size _⟩


end Go.Proofs.Ytkcfkanfdbejiaa
