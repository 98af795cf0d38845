/- What every program must know of looks. -/
import Derived.Test.YtabiiggoledipaaMade
namespace Go.Proofs.Ytabiiggoledipaa
set_option maxRecDepth 100000
open Go.RowKit
set_option linter.unusedSimpArgs false
set_option linter.unusedVariables false

set_option maxRecDepth 100000 in
set_option maxHeartbeats 2000000 in
theorem awake4_any (W w : World) (hB : Below W.heap.size W w) :
    Calls Try.prog 26 #[] w fun e w' => e = .returned (.bool true) ∧ Below W.heap.size W w' := by
  have HM := Lib.hid (made4_any W w hB); clear hB
  go_enter Try.func26, Try.ntmps26
  go_wp2_with fail
  refine HM.out.mono ?_
  rintro e w1 ⟨p, t, a, F, rfl, h1⟩
  have H1 := Lib.hid h1
  have c1 := lookGet_any h1.st.arena (t.toNat + 1) t 2 (by omega)
  rw [lgF_tr h1.tr l123_sorted 2 _ (by omega), show gotP l123 2 = (6, true) from rfl] at c1
  have c2 := fun w' (hb : Below w1.heap.size w1 w') => lookNth_any (h1.later hb).st.arena (t.toNat + 1) t 2 (by omega)
  rw [nthO_tr h1.tr _ 2 (by omega) (by decide), show (if hi : (0 : Int) ≤ 2 ∧ (2 : Int) < l123.length then ((l123[(2 : Int).toNat]'(by decide)).1, (l123[(2 : Int).toNat]'(by decide)).2, true) else (0, 0, false)) = (3, 7, true) from rfl] at c2
  have c3 := fun w' (hb : Below w1.heap.size w1 w') => lsize_any (h1.later hb).st.arena t
  rw [h1.tr.size.1, show ((l123.length : Nat) : Int) = 3 from rfl] at c3
  have c4 := fun w' (hb : Below w1.heap.size w1 w') => lookBelow_any (h1.later hb).st.arena (t.toNat + 1) t 3 (by omega)
  have hb0 := lbF_tr h1.tr l123_sorted 3 (t.toNat + 1) 0 (by omega) (by decide)
  rw [show ((0 : Nat) : Int) = 0 from rfl, show ((0 + belowP l123 3 : Nat) : Int) = 2 from rfl] at hb0
  rw [hb0] at c4
  have C1 := Lib.hid c1
  have C2 := Lib.hid c2
  have C3 := Lib.hid c3
  have C4 := Lib.hid c4
  clear c1 c2 c3 c4 hb0 h1
  go_wp2_with fail
  refine C1.out.mono ?_
  rintro e w2 ⟨rfl, b2⟩
  have B2 := Lib.hid b2; clear b2
  go_wp2_with fail
  refine (C2.out _ B2.out).mono ?_
  rintro e w3 ⟨rfl, b3⟩
  have B3 := Lib.hid ((B2.out.trans (b3.mono B2.out.size)).alloc (by have := B2.out.size; have := b3.size; omega) (.cells #[.int .i64 3, .int .i64 7] 25)); clear b3
  go_wp2_with fail
  refine (C3.out _ B3.out).mono ?_
  rintro e w4 ⟨rfl, b4⟩
  have B4 := Lib.hid (B3.out.trans (b4.mono B3.out.size)); clear b4
  go_wp2_with fail
  refine (C4.out _ B4.out).mono ?_
  rintro e w5 ⟨rfl, b5⟩
  have B5 := Lib.hid (B4.out.trans (b5.mono B4.out.size)); clear b5
  go_wp2_with fail
  go_ret
  exact ⟨rfl, (H1.out.later B5.out).st.below⟩

end Go.Proofs.Ytabiiggoledipaa
