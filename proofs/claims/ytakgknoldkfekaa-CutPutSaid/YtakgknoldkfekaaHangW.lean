/- The walks of the packages' own hangs, and look's get. -/
import Derived.Test.YtakgknoldkfekaaListW3
import Derived.Test.YtakgknoldkfekaaWMore
namespace Go.Proofs.Ytakgknoldkfekaa
set_option maxRecDepth 100000
open Go.RowKit Go.Proofs.YtakgknoldkfekaaW.PrintWords Go.Proofs.YtakgknoldkfekaaW.PrintLast
set_option linter.unusedSimpArgs false
set_option linter.unusedVariables false

/-- A child's number, if it hangs below. -/
def hangO (A : OA) (x t : Int) : Int := if isN A t = true ∧ t < x then t else 0

set_option maxHeartbeats 1000000 in
theorem hang_look {w : World} {po : Option Addr} {A : OA} {F : Nat → Prop} (h : OAt w po A F) (x t : Int) :
    Calls Try.prog 64 #[.pointer po, .int .i64 x, .int .i64 t] w fun e w' => e = .returned (.int .i64 (hangO A x t)) ∧ Below w.heap.size w w' := by
  have hg := get_any h t
  by_cases hn : isN A t = true
  · rw [hn] at hg
    have HG := Lib.hid hg; clear hg
    by_cases hx : t < x
    · rw [show hangO A x t = t by unfold hangO; rw [if_pos ⟨hn, hx⟩]]
      have hx2 : ¬ (x ≤ t) := by omega
      clear hn h
      go_enter Try.func64, Try.ntmps64
      go_wp2_with fail
      refine HG.out.mono ?_
      rintro e w1 ⟨rfl, b1⟩
      have B1 := Lib.hid b1; clear b1
      go_wp2_with fail
      go_ret
      exact ⟨rfl, B1.out.alloc B1.out.size _⟩
    · rw [show hangO A x t = 0 by unfold hangO; rw [if_neg (fun hh => hx hh.2)]]
      have hx2 : x ≤ t := by omega
      clear hn h hx
      go_enter Try.func64, Try.ntmps64
      go_wp2_with fail
      refine HG.out.mono ?_
      rintro e w1 ⟨rfl, b1⟩
      have B1 := Lib.hid b1; clear b1
      go_wp2_with fail
      go_ret
      exact ⟨rfl, B1.out.alloc B1.out.size _⟩
  · have hn2 : isN A t = false := by simpa using hn
    rw [hn2] at hg
    have HG := Lib.hid hg; clear hg
    rw [show hangO A x t = 0 by unfold hangO; rw [if_neg (fun hh => hn hh.1)]]
    clear hn hn2 h
    go_enter Try.func64, Try.ntmps64
    go_wp2_with fail
    refine HG.out.mono ?_
    rintro e w1 ⟨rfl, b1⟩
    have B1 := Lib.hid b1; clear b1
    go_wp2_with fail
    go_ret
    exact ⟨rfl, B1.out.alloc B1.out.size _⟩

set_option maxHeartbeats 1000000 in
theorem hang_put {w : World} {po : Option Addr} {A : OA} {F : Nat → Prop} (h : OAt w po A F) (x t : Int) :
    Calls Try.prog 65 #[.pointer po, .int .i64 x, .int .i64 t] w fun e w' => e = .returned (.int .i64 (hangO A x t)) ∧ Below w.heap.size w w' := by
  have hg := get_any h t
  by_cases hn : isN A t = true
  · rw [hn] at hg
    have HG := Lib.hid hg; clear hg
    by_cases hx : t < x
    · rw [show hangO A x t = t by unfold hangO; rw [if_pos ⟨hn, hx⟩]]
      have hx2 : ¬ (x ≤ t) := by omega
      clear hn h
      go_enter Try.func65, Try.ntmps65
      go_wp2_with fail
      refine HG.out.mono ?_
      rintro e w1 ⟨rfl, b1⟩
      have B1 := Lib.hid b1; clear b1
      go_wp2_with fail
      go_ret
      exact ⟨rfl, B1.out.alloc B1.out.size _⟩
    · rw [show hangO A x t = 0 by unfold hangO; rw [if_neg (fun hh => hx hh.2)]]
      have hx2 : x ≤ t := by omega
      clear hn h hx
      go_enter Try.func65, Try.ntmps65
      go_wp2_with fail
      refine HG.out.mono ?_
      rintro e w1 ⟨rfl, b1⟩
      have B1 := Lib.hid b1; clear b1
      go_wp2_with fail
      go_ret
      exact ⟨rfl, B1.out.alloc B1.out.size _⟩
  · have hn2 : isN A t = false := by simpa using hn
    rw [hn2] at hg
    have HG := Lib.hid hg; clear hg
    rw [show hangO A x t = 0 by unfold hangO; rw [if_neg (fun hh => hn hh.1)]]
    clear hn hn2 h
    go_enter Try.func65, Try.ntmps65
    go_wp2_with fail
    refine HG.out.mono ?_
    rintro e w1 ⟨rfl, b1⟩
    have B1 := Lib.hid b1; clear b1
    go_wp2_with fail
    go_ret
    exact ⟨rfl, B1.out.alloc B1.out.size _⟩

set_option maxHeartbeats 1000000 in
theorem hang_cut {w : World} {po : Option Addr} {A : OA} {F : Nat → Prop} (h : OAt w po A F) (x t : Int) :
    Calls Try.prog 60 #[.pointer po, .int .i64 x, .int .i64 t] w fun e w' => e = .returned (.int .i64 (hangO A x t)) ∧ Below w.heap.size w w' := by
  have hg := get_any h t
  by_cases hn : isN A t = true
  · rw [hn] at hg
    have HG := Lib.hid hg; clear hg
    by_cases hx : t < x
    · rw [show hangO A x t = t by unfold hangO; rw [if_pos ⟨hn, hx⟩]]
      have hx2 : ¬ (x ≤ t) := by omega
      clear hn h
      go_enter Try.func60, Try.ntmps60
      go_wp2_with fail
      refine HG.out.mono ?_
      rintro e w1 ⟨rfl, b1⟩
      have B1 := Lib.hid b1; clear b1
      go_wp2_with fail
      go_ret
      exact ⟨rfl, B1.out.alloc B1.out.size _⟩
    · rw [show hangO A x t = 0 by unfold hangO; rw [if_neg (fun hh => hx hh.2)]]
      have hx2 : x ≤ t := by omega
      clear hn h hx
      go_enter Try.func60, Try.ntmps60
      go_wp2_with fail
      refine HG.out.mono ?_
      rintro e w1 ⟨rfl, b1⟩
      have B1 := Lib.hid b1; clear b1
      go_wp2_with fail
      go_ret
      exact ⟨rfl, B1.out.alloc B1.out.size _⟩
  · have hn2 : isN A t = false := by simpa using hn
    rw [hn2] at hg
    have HG := Lib.hid hg; clear hg
    rw [show hangO A x t = 0 by unfold hangO; rw [if_neg (fun hh => hn hh.1)]]
    clear hn hn2 h
    go_enter Try.func60, Try.ntmps60
    go_wp2_with fail
    refine HG.out.mono ?_
    rintro e w1 ⟨rfl, b1⟩
    have B1 := Lib.hid b1; clear b1
    go_wp2_with fail
    go_ret
    exact ⟨rfl, B1.out.alloc B1.out.size _⟩

set_option maxHeartbeats 1000000 in
theorem hang_part {w : World} {po : Option Addr} {A : OA} {F : Nat → Prop} (h : OAt w po A F) (x t : Int) :
    Calls Try.prog 59 #[.pointer po, .int .i64 x, .int .i64 t] w fun e w' => e = .returned (.int .i64 (hangO A x t)) ∧ Below w.heap.size w w' := by
  have hg := get_any h t
  by_cases hn : isN A t = true
  · rw [hn] at hg
    have HG := Lib.hid hg; clear hg
    by_cases hx : t < x
    · rw [show hangO A x t = t by unfold hangO; rw [if_pos ⟨hn, hx⟩]]
      have hx2 : ¬ (x ≤ t) := by omega
      clear hn h
      go_enter Try.func59, Try.ntmps59
      go_wp2_with fail
      refine HG.out.mono ?_
      rintro e w1 ⟨rfl, b1⟩
      have B1 := Lib.hid b1; clear b1
      go_wp2_with fail
      go_ret
      exact ⟨rfl, B1.out.alloc B1.out.size _⟩
    · rw [show hangO A x t = 0 by unfold hangO; rw [if_neg (fun hh => hx hh.2)]]
      have hx2 : x ≤ t := by omega
      clear hn h hx
      go_enter Try.func59, Try.ntmps59
      go_wp2_with fail
      refine HG.out.mono ?_
      rintro e w1 ⟨rfl, b1⟩
      have B1 := Lib.hid b1; clear b1
      go_wp2_with fail
      go_ret
      exact ⟨rfl, B1.out.alloc B1.out.size _⟩
  · have hn2 : isN A t = false := by simpa using hn
    rw [hn2] at hg
    have HG := Lib.hid hg; clear hg
    rw [show hangO A x t = 0 by unfold hangO; rw [if_neg (fun hh => hn hh.1)]]
    clear hn hn2 h
    go_enter Try.func59, Try.ntmps59
    go_wp2_with fail
    refine HG.out.mono ?_
    rintro e w1 ⟨rfl, b1⟩
    have B1 := Lib.hid b1; clear b1
    go_wp2_with fail
    go_ret
    exact ⟨rfl, B1.out.alloc B1.out.size _⟩

end Go.Proofs.Ytakgknoldkfekaa
