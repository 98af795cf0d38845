/- What every program must know of parts. -/
import Derived.Test.YtakgknoldkfekaaMade
import Derived.Test.YtakgknoldkfekaaPartW
import Derived.Test.YtakgknoldkfekaaSaysW
namespace Go.Proofs.Ytakgknoldkfekaa
set_option maxRecDepth 100000
open Go.RowKit
set_option linter.unusedSimpArgs false
set_option linter.unusedVariables false

set_option maxRecDepth 100000 in
set_option maxHeartbeats 4000000 in
theorem awake7_any (W w : World) (hB : Below W.heap.size W w) :
    Calls Try.prog 21 #[] w fun e w' => e = .returned (.bool true) ∧ Below W.heap.size W w' := by
  have HM := Lib.hid (made7_any W w hB); clear hB
  go_enter Try.func21, Try.ntmps21
  go_wp2_with fail
  refine HM.out.mono ?_
  rintro e w1 ⟨p, t, a, F, rfl, h1⟩
  have S1 := Lib.hid h1.st
  have tr1 := h1.tr
  have hr1 := h1.room
  have hu1 := h1.used
  have hh := hgt_le l123
  rw [show l123.length = 3 from rfl] at hu1 hh
  obtain ⟨a4, x, y, e4, tx, ty, x4, f4, l4⟩ := halfO_room tr1 l123_sorted (by decide) S1.out.fits (by decide) (by omega)
  rw [show (l123[l123.length / 2]'(by decide)).1 = 2 from rfl] at e4
  rw [show l123.drop (l123.length / 2) = [(2, 6), (3, 7)] from rfl] at ty
  rw [show l123.take (l123.length / 2) = [(1, 5)] from rfl] at tx
  have e5 := midO_tr (tr1.ext x4) (show l123.length ≤ 1000000 by decide)
  rw [dif_neg (by decide), show (l123[l123.length / 2]'(by decide)).1 = 2 from rfl] at e5
  obtain ⟨q1, q2⟩ := tx.ne0 (by simp)
  obtain ⟨q3, q4⟩ := ty.ne0 (by simp)
  clear h1
  have cc := halfO_any S1.out.arena t
  rw [e4] at cc
  have CC := Lib.hid cc; clear cc
  go_wp2_with fail
  refine CC.out.mono ?_
  rintro e w2 ⟨rfl, m2⟩
  clear CC
  obtain ⟨F2, o2, g2⟩ := Made.out m2
  have S2 := Lib.hid (S1.out.grow g2 o2)
  clear m2 o2 g2
  have c5 := middle_any S2.out.arena t
  rw [e5] at c5
  have C5 := Lib.hid c5; clear c5
  go_wp2_with fail
  refine (C5.out).mono ?_
  rintro e w3 ⟨rfl, b3⟩
  have S3 := Lib.hid (S2.out.later b3)
  clear b3
  have S4 := Lib.hid (S3.out.alloc (.cells #[.int .i64 2, .int .i64 6, .int .i64 3, .int .i64 7] 37))
  have B4 := Lib.hid (S3.out.new (.cells #[.int .i64 2, .int .i64 6, .int .i64 3, .int .i64 7] 37))
  have pk := PK.new (l := [(2, 6), (3, 7)]) B4.out rfl (by decide)
  have HS := Lib.hid (says_any 2 _ _ _ _ y _ 2 [(2, 6), (3, 7)] (by decide) (by decide) S4.out.arena pk ty)
  clear pk
  go_wp2_with fail
  refine (HS.out).mono ?_
  rintro e w5 ⟨rfl, b5⟩
  have S5 := Lib.hid (S4.out.later b5)
  have B5 := Lib.hid (B4.out.below b5)
  clear b5
  go_wp2_with fail
  go_ret
  exact ⟨rfl, S5.out.below⟩

end Go.Proofs.Ytakgknoldkfekaa
