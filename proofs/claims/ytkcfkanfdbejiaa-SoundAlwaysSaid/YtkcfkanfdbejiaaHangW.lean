/- The walks of the packages' own hangs, and look's get. -/
import Derived.Test.YtkcfkanfdbejiaaListW3
import Derived.Test.YtkcfkanfdbejiaaWMore
namespace Go.Proofs.Ytkcfkanfdbejiaa
set_option maxRecDepth 100000
open Go.RowKit Go.Proofs.YtkcfkanfdbejiaaW.PrintWords Go.Proofs.YtkcfkanfdbejiaaW.PrintLast
set_option linter.unusedSimpArgs false
set_option linter.unusedVariables false

/-- A child's number, if it hangs below. -/
def hangO (A : OA) (x t : Int) : Int := if isN A t = true ∧ t < x then t else 0

set_option maxHeartbeats 1000000 in
theorem hang_look {w : World} {po : Option Addr} {A : OA} {F : Nat → Prop} (h : OAt w po A F) (x t : Int) :
    Calls Try.prog 77 #[.pointer po, .int .i64 x, .int .i64 t] w fun e w' => e = .returned (.int .i64 (hangO A x t)) ∧ Below w.heap.size w w' := by
  have hg := get_any h t
  by_cases hn : isN A t = true
  · rw [hn] at hg
    have HG := Lib.hid hg; clear hg
    by_cases hx : t < x
    · rw [show hangO A x t = t by unfold hangO; rw [if_pos ⟨hn, hx⟩]]
      have hx2 : ¬ (x ≤ t) := by omega
      clear hn h
      go_enter Try.func77, Try.ntmps77
      go_wp2_with fail
      refine HG.out.mono ?_
      rintro e w1 ⟨rfl, b1⟩
      have B1 := Lib.hid b1; clear b1
      go_wp2_with fail
      go_ret
      exact ⟨rfl, B1.out.alloc B1.out.size _⟩
    · rw [show hangO A x t = 0 by unfold hangO; rw [if_neg (fun hh => hx hh.2)]]
      have hx2 : x ≤ t := by omega
      clear hn h hx
      go_enter Try.func77, Try.ntmps77
      go_wp2_with fail
      refine HG.out.mono ?_
      rintro e w1 ⟨rfl, b1⟩
      have B1 := Lib.hid b1; clear b1
      go_wp2_with fail
      go_ret
      exact ⟨rfl, B1.out.alloc B1.out.size _⟩
  · have hn2 : isN A t = false := by simpa using hn
    rw [hn2] at hg
    have HG := Lib.hid hg; clear hg
    rw [show hangO A x t = 0 by unfold hangO; rw [if_neg (fun hh => hn hh.1)]]
    clear hn hn2 h
    go_enter Try.func77, Try.ntmps77
    go_wp2_with fail
    refine HG.out.mono ?_
    rintro e w1 ⟨rfl, b1⟩
    have B1 := Lib.hid b1; clear b1
    go_wp2_with fail
    go_ret
    exact ⟨rfl, B1.out.alloc B1.out.size _⟩

set_option maxHeartbeats 1000000 in
theorem hang_put {w : World} {po : Option Addr} {A : OA} {F : Nat → Prop} (h : OAt w po A F) (x t : Int) :
    Calls Try.prog 71 #[.pointer po, .int .i64 x, .int .i64 t] w fun e w' => e = .returned (.int .i64 (hangO A x t)) ∧ Below w.heap.size w w' := by
  have hg := get_any h t
  by_cases hn : isN A t = true
  · rw [hn] at hg
    have HG := Lib.hid hg; clear hg
    by_cases hx : t < x
    · rw [show hangO A x t = t by unfold hangO; rw [if_pos ⟨hn, hx⟩]]
      have hx2 : ¬ (x ≤ t) := by omega
      clear hn h
      go_enter Try.func71, Try.ntmps71
      go_wp2_with fail
      refine HG.out.mono ?_
      rintro e w1 ⟨rfl, b1⟩
      have B1 := Lib.hid b1; clear b1
      go_wp2_with fail
      go_ret
      exact ⟨rfl, B1.out.alloc B1.out.size _⟩
    · rw [show hangO A x t = 0 by unfold hangO; rw [if_neg (fun hh => hx hh.2)]]
      have hx2 : x ≤ t := by omega
      clear hn h hx
      go_enter Try.func71, Try.ntmps71
      go_wp2_with fail
      refine HG.out.mono ?_
      rintro e w1 ⟨rfl, b1⟩
      have B1 := Lib.hid b1; clear b1
      go_wp2_with fail
      go_ret
      exact ⟨rfl, B1.out.alloc B1.out.size _⟩
  · have hn2 : isN A t = false := by simpa using hn
    rw [hn2] at hg
    have HG := Lib.hid hg; clear hg
    rw [show hangO A x t = 0 by unfold hangO; rw [if_neg (fun hh => hn hh.1)]]
    clear hn hn2 h
    go_enter Try.func71, Try.ntmps71
    go_wp2_with fail
    refine HG.out.mono ?_
    rintro e w1 ⟨rfl, b1⟩
    have B1 := Lib.hid b1; clear b1
    go_wp2_with fail
    go_ret
    exact ⟨rfl, B1.out.alloc B1.out.size _⟩

set_option maxHeartbeats 1000000 in
theorem hang_cut {w : World} {po : Option Addr} {A : OA} {F : Nat → Prop} (h : OAt w po A F) (x t : Int) :
    Calls Try.prog 73 #[.pointer po, .int .i64 x, .int .i64 t] w fun e w' => e = .returned (.int .i64 (hangO A x t)) ∧ Below w.heap.size w w' := by
  have hg := get_any h t
  by_cases hn : isN A t = true
  · rw [hn] at hg
    have HG := Lib.hid hg; clear hg
    by_cases hx : t < x
    · rw [show hangO A x t = t by unfold hangO; rw [if_pos ⟨hn, hx⟩]]
      have hx2 : ¬ (x ≤ t) := by omega
      clear hn h
      go_enter Try.func73, Try.ntmps73
      go_wp2_with fail
      refine HG.out.mono ?_
      rintro e w1 ⟨rfl, b1⟩
      have B1 := Lib.hid b1; clear b1
      go_wp2_with fail
      go_ret
      exact ⟨rfl, B1.out.alloc B1.out.size _⟩
    · rw [show hangO A x t = 0 by unfold hangO; rw [if_neg (fun hh => hx hh.2)]]
      have hx2 : x ≤ t := by omega
      clear hn h hx
      go_enter Try.func73, Try.ntmps73
      go_wp2_with fail
      refine HG.out.mono ?_
      rintro e w1 ⟨rfl, b1⟩
      have B1 := Lib.hid b1; clear b1
      go_wp2_with fail
      go_ret
      exact ⟨rfl, B1.out.alloc B1.out.size _⟩
  · have hn2 : isN A t = false := by simpa using hn
    rw [hn2] at hg
    have HG := Lib.hid hg; clear hg
    rw [show hangO A x t = 0 by unfold hangO; rw [if_neg (fun hh => hn hh.1)]]
    clear hn hn2 h
    go_enter Try.func73, Try.ntmps73
    go_wp2_with fail
    refine HG.out.mono ?_
    rintro e w1 ⟨rfl, b1⟩
    have B1 := Lib.hid b1; clear b1
    go_wp2_with fail
    go_ret
    exact ⟨rfl, B1.out.alloc B1.out.size _⟩

set_option maxHeartbeats 1000000 in
theorem hang_part {w : World} {po : Option Addr} {A : OA} {F : Nat → Prop} (h : OAt w po A F) (x t : Int) :
    Calls Try.prog 69 #[.pointer po, .int .i64 x, .int .i64 t] w fun e w' => e = .returned (.int .i64 (hangO A x t)) ∧ Below w.heap.size w w' := by
  have hg := get_any h t
  by_cases hn : isN A t = true
  · rw [hn] at hg
    have HG := Lib.hid hg; clear hg
    by_cases hx : t < x
    · rw [show hangO A x t = t by unfold hangO; rw [if_pos ⟨hn, hx⟩]]
      have hx2 : ¬ (x ≤ t) := by omega
      clear hn h
      go_enter Try.func69, Try.ntmps69
      go_wp2_with fail
      refine HG.out.mono ?_
      rintro e w1 ⟨rfl, b1⟩
      have B1 := Lib.hid b1; clear b1
      go_wp2_with fail
      go_ret
      exact ⟨rfl, B1.out.alloc B1.out.size _⟩
    · rw [show hangO A x t = 0 by unfold hangO; rw [if_neg (fun hh => hx hh.2)]]
      have hx2 : x ≤ t := by omega
      clear hn h hx
      go_enter Try.func69, Try.ntmps69
      go_wp2_with fail
      refine HG.out.mono ?_
      rintro e w1 ⟨rfl, b1⟩
      have B1 := Lib.hid b1; clear b1
      go_wp2_with fail
      go_ret
      exact ⟨rfl, B1.out.alloc B1.out.size _⟩
  · have hn2 : isN A t = false := by simpa using hn
    rw [hn2] at hg
    have HG := Lib.hid hg; clear hg
    rw [show hangO A x t = 0 by unfold hangO; rw [if_neg (fun hh => hn hh.1)]]
    clear hn hn2 h
    go_enter Try.func69, Try.ntmps69
    go_wp2_with fail
    refine HG.out.mono ?_
    rintro e w1 ⟨rfl, b1⟩
    have B1 := Lib.hid b1; clear b1
    go_wp2_with fail
    go_ret
    exact ⟨rfl, B1.out.alloc B1.out.size _⟩

set_option maxHeartbeats 1000000 in
theorem hang_join {w : World} {po : Option Addr} {A : OA} {F : Nat → Prop} (h : OAt w po A F) (x t : Int) :
    Calls Try.prog 68 #[.pointer po, .int .i64 x, .int .i64 t] w fun e w' => e = .returned (.int .i64 (hangO A x t)) ∧ Below w.heap.size w w' := by
  have hg := get_any h t
  by_cases hn : isN A t = true
  · rw [hn] at hg
    have HG := Lib.hid hg; clear hg
    by_cases hx : t < x
    · rw [show hangO A x t = t by unfold hangO; rw [if_pos ⟨hn, hx⟩]]
      have hx2 : ¬ (x ≤ t) := by omega
      clear hn h
      go_enter Try.func68, Try.ntmps68
      go_wp2_with fail
      refine HG.out.mono ?_
      rintro e w1 ⟨rfl, b1⟩
      have B1 := Lib.hid b1; clear b1
      go_wp2_with fail
      go_ret
      exact ⟨rfl, B1.out.alloc B1.out.size _⟩
    · rw [show hangO A x t = 0 by unfold hangO; rw [if_neg (fun hh => hx hh.2)]]
      have hx2 : x ≤ t := by omega
      clear hn h hx
      go_enter Try.func68, Try.ntmps68
      go_wp2_with fail
      refine HG.out.mono ?_
      rintro e w1 ⟨rfl, b1⟩
      have B1 := Lib.hid b1; clear b1
      go_wp2_with fail
      go_ret
      exact ⟨rfl, B1.out.alloc B1.out.size _⟩
  · have hn2 : isN A t = false := by simpa using hn
    rw [hn2] at hg
    have HG := Lib.hid hg; clear hg
    rw [show hangO A x t = 0 by unfold hangO; rw [if_neg (fun hh => hn hh.1)]]
    clear hn hn2 h
    go_enter Try.func68, Try.ntmps68
    go_wp2_with fail
    refine HG.out.mono ?_
    rintro e w1 ⟨rfl, b1⟩
    have B1 := Lib.hid b1; clear b1
    go_wp2_with fail
    go_ret
    exact ⟨rfl, B1.out.alloc B1.out.size _⟩

set_option maxHeartbeats 1000000 in
theorem hang_sound {w : World} {po : Option Addr} {A : OA} {F : Nat → Prop} (h : OAt w po A F) (x t : Int) :
    Calls Try.prog 63 #[.pointer po, .int .i64 x, .int .i64 t] w fun e w' => e = .returned (.int .i64 (hangO A x t)) ∧ Below w.heap.size w w' := by
  have hg := get_any h t
  by_cases hn : isN A t = true
  · rw [hn] at hg
    have HG := Lib.hid hg; clear hg
    by_cases hx : t < x
    · rw [show hangO A x t = t by unfold hangO; rw [if_pos ⟨hn, hx⟩]]
      have hx2 : ¬ (x ≤ t) := by omega
      clear hn h
      go_enter Try.func63, Try.ntmps63
      go_wp2_with fail
      refine HG.out.mono ?_
      rintro e w1 ⟨rfl, b1⟩
      have B1 := Lib.hid b1; clear b1
      go_wp2_with fail
      go_ret
      exact ⟨rfl, B1.out.alloc B1.out.size _⟩
    · rw [show hangO A x t = 0 by unfold hangO; rw [if_neg (fun hh => hx hh.2)]]
      have hx2 : x ≤ t := by omega
      clear hn h hx
      go_enter Try.func63, Try.ntmps63
      go_wp2_with fail
      refine HG.out.mono ?_
      rintro e w1 ⟨rfl, b1⟩
      have B1 := Lib.hid b1; clear b1
      go_wp2_with fail
      go_ret
      exact ⟨rfl, B1.out.alloc B1.out.size _⟩
  · have hn2 : isN A t = false := by simpa using hn
    rw [hn2] at hg
    have HG := Lib.hid hg; clear hg
    rw [show hangO A x t = 0 by unfold hangO; rw [if_neg (fun hh => hn hh.1)]]
    clear hn hn2 h
    go_enter Try.func63, Try.ntmps63
    go_wp2_with fail
    refine HG.out.mono ?_
    rintro e w1 ⟨rfl, b1⟩
    have B1 := Lib.hid b1; clear b1
    go_wp2_with fail
    go_ret
    exact ⟨rfl, B1.out.alloc B1.out.size _⟩

end Go.Proofs.Ytkcfkanfdbejiaa
