/- What every program must know of walks. -/
import Derived.Test.YtabiiggoledipaaMade
import Derived.Test.YtabiiggoledipaaRangeW
import Derived.Test.YtabiiggoledipaaNextW
namespace Go.Proofs.Ytabiiggoledipaa
set_option maxRecDepth 100000
open Go.RowKit
set_option linter.unusedSimpArgs false
set_option linter.unusedVariables false

set_option maxRecDepth 100000 in
set_option maxHeartbeats 4000000 in
theorem awake9_any (W w : World) (hB : Below W.heap.size W w) :
    Calls Try.prog 15 #[] w fun e w' => e = .returned (.bool true) ∧ Below W.heap.size W w' := by
  have HM := Lib.hid (made9_any W w hB); clear hB
  go_enter Try.func15, Try.ntmps15
  go_wp2_with fail
  refine HM.out.mono ?_
  rintro e w1 ⟨p, t, a, F, rfl, h1⟩
  have S1 := Lib.hid h1.st
  have tr1 := h1.tr
  have htl : t < 1000000 := by have := h1.tr.le; have := h1.used; rw [show l123.length = 3 from rfl] at this; omega
  clear h1
  have cw := range_any S1.out.arena tr1 l123_sorted htl (by decide) 2 9
  rw [show betw 2 9 l123 = [(2, 6), (3, 7)] from rfl] at cw
  have CW := Lib.hid cw; clear cw
  go_wp2_with fail
  refine CW.out.mono ?_
  rintro e w2 ⟨adR, cR, rfl, pp, np, b2⟩
  clear CW
  have S2 := Lib.hid (S1.out.later b2)
  have R2 := Lib.hid (PK.mk pp (fun _ x hx hf => by have := np x hx; have := S1.out.arena.lt _ hf; omega))
  clear b2 pp np
  obtain ⟨b, off, hbo, hcell⟩ := R2.out.cells (k := 0) (by decide)
  subst hbo
  have HC := Lib.hid hcell; clear hcell
  have cc := next_any S2.out.arena tr1 l123_sorted htl 2
  rw [show nextP l123 2 = ((3, 7), true) from rfl] at cc
  have CC := Lib.hid cc; clear cc
  go_wp2_with fail
  refine (CC.out).mono ?_
  rintro e w3 ⟨rfl, b3⟩
  have S3 := Lib.hid (S2.out.later b3)
  have R3 := Lib.hid (R2.out.later b3)
  clear b3
  obtain ⟨d0, d1⟩ := HC.out _ _ R3.out
  simp only [Nat.zero_mul, Nat.add_zero, List.getElem_cons_zero] at d0 d1
  have hbl := World.block_lt_of_cell? _ _ d0
  have S4 := Lib.hid (S3.out.alloc (.cells #[.int .i64 3, .int .i64 7] 25))
  have R4 := Lib.hid (R3.out.alloc (.cells #[.int .i64 3, .int .i64 7] 25))
  have B4 := Lib.hid (S3.out.new (.cells #[.int .i64 3, .int .i64 7] 25))
  have cc := count_any S4.out.arena tr1 l123_sorted htl (by decide) 1 2
  rw [show (((betw 1 2 l123).length : Nat) : Int) = 2 from rfl] at cc
  have CC := Lib.hid cc; clear cc
  go_wp2_with fail
  refine (CC.out).mono ?_
  rintro e w5 ⟨rfl, b5⟩
  have S5 := Lib.hid (S4.out.later b5)
  have R5 := Lib.hid (R4.out.later b5)
  have B5 := Lib.hid (B4.out.below b5)
  clear b5
  have cw := all_any S5.out.arena tr1 l123_sorted htl (by decide)
  rw [show betw (-9223372036854775808) 9223372036854775807 l123 = l123 from rfl, show l123.length = 3 from rfl] at cw
  have CW := Lib.hid cw; clear cw
  go_wp2_with fail
  refine CW.out.mono ?_
  rintro e w6 ⟨adA, cA, rfl, pp, np, b6⟩
  clear CW
  have S6 := Lib.hid (S5.out.later b6)
  have R6 := Lib.hid (R5.out.later b6)
  have B6 := Lib.hid (B5.out.below b6)
  have A6 := Lib.hid (PK.mk pp (fun _ x hx hf => by have := np x hx; have := S5.out.arena.lt _ hf; omega))
  clear b6 pp np
  go_wp2_with fail
  go_ret
  exact ⟨rfl, S6.out.below⟩

end Go.Proofs.Ytabiiggoledipaa
