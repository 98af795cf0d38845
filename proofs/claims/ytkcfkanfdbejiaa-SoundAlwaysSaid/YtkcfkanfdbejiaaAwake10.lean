/- What every program must know to be sound. -/
import Derived.Test.YtkcfkanfdbejiaaMade
import Derived.Test.YtkcfkanfdbejiaaSoundR
import Derived.Test.YtkcfkanfdbejiaaSameW
namespace Go.Proofs.Ytkcfkanfdbejiaa
set_option maxRecDepth 100000
open Go.RowKit
set_option linter.unusedSimpArgs false
set_option linter.unusedVariables false

set_option maxRecDepth 100000 in
set_option maxHeartbeats 4000000 in
theorem awake10_any (W w : World) (hB : Below W.heap.size W w) :
    Calls Try.prog 18 #[] w fun e w' => e = .returned (.bool true) ∧ Below W.heap.size W w' := by
  have HM := Lib.hid (made10_any W w hB); clear hB
  go_enter Try.func18, Try.ntmps18
  go_wp2_with fail
  refine HM.out.mono ?_
  rintro e w1 ⟨p, t, a, F, rfl, h1⟩
  have S1 := Lib.hid h1.st
  have tr1 := h1.tr
  have hr1 := h1.room
  have hu1 := h1.used
  rw [show l123.length = 3 from rfl] at hu1
  clear h1
  obtain ⟨a2, e2, x2, l2, ov⟩ := make_over (y := 0) (l2 := []) tr1 .nil l123_sorted List.Pairwise.nil (by decide) (by decide) (by omega) 0 0
  have tr2 := tr1.ext x2
  have hm := mayO_tr tr2 l123_sorted (by decide)
  have hb := ov.badL (p := (3, 7)) rfl (by decide)
  have hz := mayO_tr (a := a2) .nil List.Pairwise.nil (by decide)
  have E2 := Lib.hid e2; have EM := Lib.hid hm; have EB := Lib.hid hb; have EZ := Lib.hid hz
  clear e2 hm hb hz ov x2 l2 hu1 hr1
  have cc := nmake_any S1.out.arena 0 0 t 0
  rw [E2.out] at cc
  have CC := Lib.hid cc; clear cc
  go_wp2_with fail
  refine CC.out.mono ?_
  rintro e w2 ⟨rfl, m2⟩
  clear CC
  obtain ⟨F2, o2, g2⟩ := Made.out m2
  have S2 := Lib.hid (S1.out.grow g2 o2)
  clear m2 o2 g2
  have c := mayO_any S2.out.arena t
  rw [EM.out] at c
  have C := Lib.hid c; clear c
  go_wp2_with fail
  refine (C.out).mono ?_
  rintro e w3 ⟨rfl, b3⟩
  have S3 := Lib.hid (S2.out.later b3)
  clear b3
  clear C
  have c := mayO_any S3.out.arena ((a.slots.length : Int) + 1)
  rw [EB.out] at c
  have C := Lib.hid c; clear c
  go_wp2_with fail
  refine (C.out).mono ?_
  rintro e w4 ⟨rfl, b4⟩
  have S4 := Lib.hid (S3.out.later b4)
  clear b4
  clear C
  have c := sameO_any S4.out.arena tr2 tr2 (by decide)
  rw [show decide (l123 = l123) = true from decide_eq_true rfl] at c
  have C := Lib.hid c; clear c
  go_wp2_with fail
  refine (C.out).mono ?_
  rintro e w5 ⟨rfl, b5⟩
  have S5 := Lib.hid (S4.out.later b5)
  clear b5
  clear C
  have c := sameO_any S5.out.arena tr2 .nil (by decide)
  rw [show decide (l123 = []) = false from decide_eq_false (by decide)] at c
  have C := Lib.hid c; clear c
  go_wp2_with fail
  refine (C.out).mono ?_
  rintro e w6 ⟨rfl, b6⟩
  have S6 := Lib.hid (S5.out.later b6)
  clear b6
  clear C
  have c := mayO_any S6.out.arena 0
  rw [EZ.out] at c
  have C := Lib.hid c; clear c
  go_wp2_with fail
  refine (C.out).mono ?_
  rintro e w7 ⟨rfl, b7⟩
  have S7 := Lib.hid (S6.out.later b7)
  clear b7
  clear C
  go_wp2_with fail
  go_ret
  exact ⟨rfl, S7.out.below⟩

end Go.Proofs.Ytkcfkanfdbejiaa
