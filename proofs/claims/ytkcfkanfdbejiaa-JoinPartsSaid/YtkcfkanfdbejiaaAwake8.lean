/- What every program must know of joins. -/
import Derived.Test.YtkcfkanfdbejiaaMade
import Derived.Test.YtkcfkanfdbejiaaAllW
import Derived.Test.YtkcfkanfdbejiaaJoinP
import Derived.Test.YtkcfkanfdbejiaaSaysW
namespace Go.Proofs.Ytkcfkanfdbejiaa
set_option maxRecDepth 100000
open Go.RowKit
set_option linter.unusedSimpArgs false
set_option linter.unusedVariables false

set_option maxRecDepth 100000 in
set_option maxHeartbeats 4000000 in
theorem awake8_any (W w : World) (hB : Below W.heap.size W w) :
    Calls Try.prog 29 #[] w fun e w' => e = .returned (.bool true) ∧ Below W.heap.size W w' := by
  have HM := Lib.hid (made8_any W w hB); clear hB
  go_enter Try.func29, Try.ntmps29
  go_wp2_with fail
  refine HM.out.mono ?_
  rintro e w1 ⟨p, t, a, F, rfl, h1⟩
  have S1 := Lib.hid h1.st
  have tr1 := h1.tr
  have hr1 := h1.room
  have hu1 := h1.used
  have hh := hgt_le l123
  rw [show l123.length = 3 from rfl] at hu1 hh
  clear h1
  have S2 := Lib.hid (S1.out.alloc (.cells #[.int .i64 7, .int .i64 0, .int .i64 9, .int .i64 0] 24))
  have B2 := Lib.hid (S1.out.new (.cells #[.int .i64 7, .int .i64 0, .int .i64 9, .int .i64 0] 24))
  have pk := PK.new (l := [((7, 0) : Pr), (9, 0)]) B2.out rfl (by decide)
  have cl := laid_any 2 _ p a F _ 2 [((7, 0) : Pr), (9, 0)] (by decide) (by decide) S2.out.arena pk (by rw [hr1, hu1]; decide)
  have CL := Lib.hid cl; clear cl
  go_wp2_with fail
  refine CL.out.mono ?_
  rintro e w3 ⟨u, a4, rfl, ⟨F3, o3, g3⟩, xa4, la4, tu, al3⟩
  clear CL
  have S3 := Lib.hid (S2.out.grow g3 o3)
  have B3 := Lib.hid (B2.out.grow g3)
  clear o3 g3 al3
  clear pk
  have tr4 := tr1.ext xa4
  have hg4 := hgt_le [((7, 0) : Pr), (9, 0)]
  rw [show [((7, 0) : Pr), (9, 0)].length = 2 from rfl] at hg4 la4
  have hr4 := xa4.1
  have hs : Sorted (l123 ++ [((7, 0) : Pr), (9, 0)]) := by unfold Sorted l123; simp
  obtain ⟨a5, x, e5, tx, x5, f5, l5⟩ := twoO_room tr4 tu hs (by decide) S3.out.fits (by omega)
  rw [show l123 ++ [((7, 0) : Pr), (9, 0)] = [(1, 5), (2, 6), (3, 7), (7, 0), (9, 0)] from rfl] at tx
  have tr5 := tr4.ext x5
  have tu5 := tu.ext x5
  have hr5 := x5.1
  have e6 : twoO (some a5) u t = (0, 1, some a5) := twoO_bad (p := (9, 0)) (q := (1, 5)) tu5 tr5 rfl rfl (by decide)
  obtain ⟨a7, y, e7, ty, x7, f7, l7⟩ := twoO_room tr5 tu5 hs (by decide) f5 (by omega)
  rw [show l123 ++ [((7, 0) : Pr), (9, 0)] = [(1, 5), (2, 6), (3, 7), (7, 0), (9, 0)] from rfl] at ty
  have e8 := allO_two tr5 e7
  have tx7 := tx.ext x7
  obtain ⟨q1, q2⟩ := tx.ne0 (by simp)
  have E6 := Lib.hid e6
  have E8 := Lib.hid e8
  clear e6 e7 e8
  have cc := twoO_any S3.out.arena t u
  rw [e5] at cc
  have CC := Lib.hid cc; clear cc
  go_wp2_with fail
  refine CC.out.mono ?_
  rintro e w4 ⟨rfl, m4⟩
  clear CC
  obtain ⟨F4, o4, g4⟩ := Made.out m4
  have S4 := Lib.hid (S3.out.grow g4 o4)
  have B4 := Lib.hid (B3.out.grow g4)
  clear m4 o4 g4
  have cc := twoO_any S4.out.arena u t
  rw [E6.out] at cc
  have CC := Lib.hid cc; clear cc
  go_wp2_with fail
  refine CC.out.mono ?_
  rintro e w5 ⟨rfl, m5⟩
  clear CC
  obtain ⟨F5, o5, g5⟩ := Made.out m5
  have S5 := Lib.hid (S4.out.grow g5 o5)
  have B5 := Lib.hid (B4.out.grow g5)
  clear m5 o5 g5
  have S6 := Lib.hid (S5.out.alloc (.cells #[.int .i64 0, .int .i64 t, .int .i64 0, .int .i64 u] 3))
  have B6 := Lib.hid (B5.out.alloc (.cells #[.int .i64 0, .int .i64 t, .int .i64 0, .int .i64 u] 3))
  have D6 := Lib.hid (S5.out.new (.cells #[.int .i64 0, .int .i64 t, .int .i64 0, .int .i64 u] 3))
  have ik := IK.new (l := [0, t, 0, u]) D6.out rfl (show 4 ≤ maxLen by decide)
  have cc := all_any S6.out.arena ik
  rw [E8.out] at cc
  have CC := Lib.hid cc; clear cc
  go_wp2_with fail
  refine CC.out.mono ?_
  rintro e w7 ⟨rfl, m7⟩
  clear CC
  obtain ⟨F7, o7, g7⟩ := Made.out m7
  have S7 := Lib.hid (S6.out.grow g7 o7)
  have B7 := Lib.hid (B6.out.grow g7)
  have D7 := Lib.hid (D6.out.grow g7)
  clear m7 o7 g7
  clear ik
  have S8 := Lib.hid (S7.out.alloc (.cells #[.int .i64 1, .int .i64 5, .int .i64 2, .int .i64 6, .int .i64 3, .int .i64 7, .int .i64 7, .int .i64 0, .int .i64 9, .int .i64 0] 24))
  have B8 := Lib.hid (B7.out.alloc (.cells #[.int .i64 1, .int .i64 5, .int .i64 2, .int .i64 6, .int .i64 3, .int .i64 7, .int .i64 7, .int .i64 0, .int .i64 9, .int .i64 0] 24))
  have D8 := Lib.hid (D7.out.alloc (.cells #[.int .i64 1, .int .i64 5, .int .i64 2, .int .i64 6, .int .i64 3, .int .i64 7, .int .i64 7, .int .i64 0, .int .i64 9, .int .i64 0] 24))
  have G8 := Lib.hid (S7.out.new (.cells #[.int .i64 1, .int .i64 5, .int .i64 2, .int .i64 6, .int .i64 3, .int .i64 7, .int .i64 7, .int .i64 0, .int .i64 9, .int .i64 0] 24))
  have V0 := Lib.hid (PK.new (l := [((1, 5) : Pr), (2, 6), (3, 7), (7, 0), (9, 0)]) G8.out rfl (by decide))
  have HS := Lib.hid (says_any 5 _ _ _ _ x _ 5 [((1, 5) : Pr), (2, 6), (3, 7), (7, 0), (9, 0)] (by decide) (by decide) S8.out.arena V0.out tx7)
  go_wp2_with fail
  refine (HS.out).mono ?_
  rintro e w9 ⟨rfl, b9⟩
  have S9 := Lib.hid (S8.out.later b9)
  have V9 := Lib.hid (V0.out.later b9)
  have B9 := Lib.hid (B8.out.below b9)
  have D9 := Lib.hid (D8.out.below b9)
  have G9 := Lib.hid (G8.out.below b9)
  clear b9
  clear HS
  have HS := Lib.hid (says_any 5 _ _ _ _ y _ 5 [((1, 5) : Pr), (2, 6), (3, 7), (7, 0), (9, 0)] (by decide) (by decide) S9.out.arena V9.out ty)
  go_wp2_with fail
  refine (HS.out).mono ?_
  rintro e w10 ⟨rfl, b10⟩
  have S10 := Lib.hid (S9.out.later b10)
  have V10 := Lib.hid (V9.out.later b10)
  have B10 := Lib.hid (B9.out.below b10)
  have D10 := Lib.hid (D9.out.below b10)
  have G10 := Lib.hid (G9.out.below b10)
  clear b10
  clear HS
  go_wp2_with fail
  go_ret
  exact ⟨rfl, S10.out.below⟩

end Go.Proofs.Ytkcfkanfdbejiaa
