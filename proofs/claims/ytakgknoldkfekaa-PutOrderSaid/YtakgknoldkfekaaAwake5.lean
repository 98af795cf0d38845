/- What every program must know of layer 5. -/
import Derived.Test.YtakgknoldkfekaaMade
import Derived.Test.YtakgknoldkfekaaPutW3
namespace Go.Proofs.Ytakgknoldkfekaa
set_option maxRecDepth 100000
open Go.RowKit
set_option linter.unusedSimpArgs false
set_option linter.unusedVariables false

set_option maxRecDepth 100000 in
set_option maxHeartbeats 4000000 in
theorem awake5_any (W w : World) (hB : Below W.heap.size W w) :
    Calls Try.prog 33 #[] w fun e w' => e = .returned (.bool true) ∧ Below W.heap.size W w' := by
  have HM := Lib.hid (made5_any W w hB); clear hB
  go_enter Try.func33, Try.ntmps33
  go_wp2_with fail
  refine HM.out.mono ?_
  rintro e w1 ⟨p, t, a, F, rfl, h1⟩
  have S1 := Lib.hid h1.st
  have tr1 := h1.tr
  have hr1 := h1.room
  have hu1 := h1.used
  have hh := hgt_le l123
  rw [show l123.length = 3 from rfl] at hu1 hh
  clear h1
  obtain ⟨a4, u, e4, tu, x4, f4, l4⟩ := putO_room tr1 l123_sorted (by decide) S1.out.fits 2 9 (by omega)
  rw [show gotP l123 2 = (6, true) from rfl] at e4
  simp only [] at e4
  rw [show ins l123 (2, 9) = [(1, 5), (2, 9), (3, 7)] from rfl] at tu
  have r4 := x4.1
  have hs4 : Sorted [((1, 5) : Pr), (2, 9), (3, 7)] := by unfold Sorted; simp
  obtain ⟨a5, v, e5, tv, x5, f5, l5⟩ := ofO_room (ps := [((4, 0) : Pr), (3, 0)]) 2 (by decide) (by decide) f4 (by simp only [List.length_cons, List.length_nil]; omega)
  rw [show insL [] [((4, 0) : Pr), (3, 0)] = [(3, 0), (4, 0)] from rfl] at tv
  have eg := lgF_tr (tu.ext x5) hs4 2 (fuel u) (lt_fuel u)
  rw [show gotP [((1, 5) : Pr), (2, 9), (3, 7)] 2 = (9, true) from rfl] at eg
  have es := tv.size.1
  rw [show (([((3, 0) : Pr), (4, 0)]).length : Int) = 2 from rfl] at es
  have E5 := Lib.hid e5
  have EG := Lib.hid eg
  have ES := Lib.hid es
  clear e5 eg es
  have cc := putO_any S1.out.arena t 2 9
  rw [e4] at cc
  have CC := Lib.hid cc; clear cc
  go_wp2_with fail
  refine CC.out.mono ?_
  rintro e w2 ⟨rfl, m2⟩
  clear CC
  obtain ⟨F2, o2, g2⟩ := Made.out m2
  have S2 := Lib.hid (S1.out.grow g2 o2)
  clear m2 o2 g2
  have S3 := Lib.hid (S2.out.alloc (.cells #[.int .i64 4, .int .i64 0, .int .i64 3, .int .i64 0] 37))
  have B3 := Lib.hid (S2.out.new (.cells #[.int .i64 4, .int .i64 0, .int .i64 3, .int .i64 0] 37))
  have pk := PK.new (l := [((4, 0) : Pr), (3, 0)]) B3.out rfl (by decide)
  have cc := of_any S3.out.arena pk
  rw [E5.out] at cc
  have CC := Lib.hid cc; clear cc
  go_wp2_with fail
  refine CC.out.mono ?_
  rintro e w4 ⟨rfl, m4⟩
  clear CC
  obtain ⟨F4, o4, g4⟩ := Made.out m4
  have S4 := Lib.hid (S3.out.grow g4 o4)
  have B4 := Lib.hid (B3.out.grow g4)
  clear m4 o4 g4
  have c := lookGet_any S4.out.arena (fuel u) u 2 (lt_fuel u)
  rw [EG.out] at c
  have C := Lib.hid c; clear c pk
  go_wp2_with fail
  refine (C.out).mono ?_
  rintro e w5 ⟨rfl, b5⟩
  have S5 := Lib.hid (S4.out.later b5)
  have B5 := Lib.hid (B4.out.below b5)
  clear b5
  clear C
  have c := lsize_any S5.out.arena v
  rw [ES.out] at c
  have C := Lib.hid c; clear c
  go_wp2_with fail
  refine (C.out).mono ?_
  rintro e w6 ⟨rfl, b6⟩
  have S6 := Lib.hid (S5.out.later b6)
  have B6 := Lib.hid (B5.out.below b6)
  clear b6
  clear C
  go_wp2_with fail
  go_ret
  exact ⟨rfl, S6.out.below⟩

end Go.Proofs.Ytakgknoldkfekaa
