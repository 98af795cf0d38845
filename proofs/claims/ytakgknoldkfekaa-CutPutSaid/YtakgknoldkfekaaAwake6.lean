/- What every program must know of layer 6. -/
import Derived.Test.YtakgknoldkfekaaMade
import Derived.Test.YtakgknoldkfekaaCutW
namespace Go.Proofs.Ytakgknoldkfekaa
set_option maxRecDepth 100000
open Go.RowKit
set_option linter.unusedSimpArgs false
set_option linter.unusedVariables false

set_option maxRecDepth 100000 in
set_option maxHeartbeats 4000000 in
theorem awake6_any (W w : World) (hB : Below W.heap.size W w) :
    Calls Try.prog 26 #[] w fun e w' => e = .returned (.bool true) ∧ Below W.heap.size W w' := by
  have HM := Lib.hid (made6_any W w hB); clear hB
  go_enter Try.func26, Try.ntmps26
  go_wp2_with fail
  refine HM.out.mono ?_
  rintro e w1 ⟨p, t, a, F, rfl, h1⟩
  have S1 := Lib.hid h1.st
  have tr1 := h1.tr
  have hr1 := h1.room
  have hu1 := h1.used
  have hh := hgt_le l123
  rw [show l123.length = 3 from rfl] at hu1 hh
  clear h1
  obtain ⟨a4, u, e4, tu, x4, f4, l4⟩ := cutO_room tr1 l123_sorted (by decide) S1.out.fits 2 (by rfl) (by omega)
  rw [show gotP l123 2 = (6, true) from rfl] at e4
  simp only [] at e4
  rw [show less 2 l123 = [(1, 5), (3, 7)] from rfl] at tu
  have hs4 : Sorted [((1, 5) : Pr), (3, 7)] := by unfold Sorted; simp
  have eg := lgF_tr tu hs4 2 (fuel u) (lt_fuel u)
  rw [show gotP [((1, 5) : Pr), (3, 7)] 2 = (0, false) from rfl] at eg
  have es := tu.size.1
  rw [show (([((1, 5) : Pr), (3, 7)]).length : Int) = 2 from rfl] at es
  have et := (tr1.ext x4).size.1
  rw [show ((l123).length : Int) = 3 from rfl] at et
  have cc := cutO_any S1.out.arena t 2
  rw [e4] at cc
  have CC := Lib.hid cc; clear cc
  go_wp2_with fail
  refine CC.out.mono ?_
  rintro e w2 ⟨rfl, m2⟩
  clear CC
  obtain ⟨F2, o2, g2⟩ := Made.out m2
  have S2 := Lib.hid (S1.out.grow g2 o2)
  clear m2 o2 g2
  have c := lookGet_any S2.out.arena (fuel u) u 2 (lt_fuel u)
  rw [eg] at c
  have C := Lib.hid c; clear c eg
  go_wp2_with fail
  refine (C.out).mono ?_
  rintro e w3 ⟨rfl, b3⟩
  have S3 := Lib.hid (S2.out.later b3)
  clear b3
  clear C
  have c := lsize_any S3.out.arena u
  rw [es] at c
  have C := Lib.hid c; clear c es
  go_wp2_with fail
  refine (C.out).mono ?_
  rintro e w4 ⟨rfl, b4⟩
  have S4 := Lib.hid (S3.out.later b4)
  clear b4
  clear C
  have c := lsize_any S4.out.arena t
  rw [et] at c
  have C := Lib.hid c; clear c et
  go_wp2_with fail
  refine (C.out).mono ?_
  rintro e w5 ⟨rfl, b5⟩
  have S5 := Lib.hid (S4.out.later b5)
  clear b5
  clear C
  go_wp2_with fail
  go_ret
  exact ⟨rfl, S5.out.below⟩

end Go.Proofs.Ytakgknoldkfekaa
