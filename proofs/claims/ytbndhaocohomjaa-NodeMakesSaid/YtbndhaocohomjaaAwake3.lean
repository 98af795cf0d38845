/- The node that every program must know. -/
import Derived.Test.YtbndhaocohomjaaGrow
namespace Go.Proofs.Ytbndhaocohomjaa
set_option maxRecDepth 100000
open Go.RowKit

def aw3a : Ar := newA 9
def aw3b : Ar := ⟨9, [⟨1, [1, 2, 0, 0, 1, 1]⟩], 0⟩
def aw3c : Ar := ⟨9, [⟨1, [1, 2, 0, 0, 1, 1]⟩, ⟨1, [5, 6, 1, 0, 2, 2]⟩], 0⟩

set_option maxHeartbeats 1000000 in
theorem awake3_any (W w : World) (hB : Below W.heap.size W w) :
    Calls Try.prog 7 #[] w fun e w' => e = .returned (.bool true) ∧ Below W.heap.size W w' := by
  have m1 : makeN (some aw3a) 1 2 0 0 = (1, 0, some aw3b) := by kernel_rfl
  have m2 : makeN (some aw3b) 5 6 1 0 = (2, 0, some aw3c) := by kernel_rfl
  have g1 : getN (some aw3c) 2 = ⟨5, 6, 1, 0, 2, 2⟩ := by kernel_rfl
  have g2 : isN (some aw3c) 2 = true := by kernel_rfl
  have M1 := Lib.hid m1; clear m1
  have M2 := Lib.hid m2; clear m2
  have G1 := Lib.hid g1; clear g1
  have G2 := Lib.hid g2; clear g2
  have HB := Lib.hid hB; clear hB
  go_enter Try.func7, Try.ntmps7
  go_wp2_with fail
  refine (new_any 9 w).mono ?_
  rintro e w1 ⟨rfl, o1, b1⟩
  have S1 := Lib.hid (St.begin HB.out o1 b1); clear o1 b1
  go_wp2_with fail
  have c2 := nmake_any S1.out.arena 1 2 0 0
  rw [show newA 9 = aw3a from rfl, M1.out] at c2
  refine c2.mono ?_
  rintro e w2 ⟨rfl, d2⟩
  obtain ⟨F2, s2, k2, z2⟩ := S1.out.made d2
  have S2 := Lib.hid s2; clear s2 c2 d2 k2 z2
  go_wp2_with fail
  have c3 := nmake_any S2.out.arena 5 6 1 0
  rw [M2.out] at c3
  refine c3.mono ?_
  rintro e w3 ⟨rfl, d3⟩
  obtain ⟨F3, s3, k3, z3⟩ := S2.out.made d3
  have S3 := Lib.hid s3; clear s3 c3 d3 k3 z3
  go_wp2_with fail
  have c4 := get_any S3.out.arena 2
  rw [G1.out, G2.out] at c4
  refine c4.mono ?_
  rintro e w4 ⟨rfl, b4⟩
  have S4 := Lib.hid (S3.out.later b4); clear c4 b4
  go_wp2_with (first | (go_at_call 12; refine (holds_any 5 6 1 0 2 2 5 _).mono ?_; rintro e w5 ⟨rfl, b5⟩; have S5 := Lib.hid ((S4.out.alloc _).later b5); have K5 := Lib.hid ((S4.out.new (.cells #[.int .i64 5, .int .i64 6, .int .i64 1, .int .i64 0, .int .i64 2, .int .i64 2] 36)).below b5); clear b5; have q0 := K5.out.cell (i := 0) rfl; have q1 := K5.out.cell (i := 1) rfl; have q2 := K5.out.cell (i := 2) rfl; have q3 := K5.out.cell (i := 3) rfl; have q4 := K5.out.cell (i := 4) rfl; have q5 := K5.out.cell (i := 5) rfl) | (go_at_call 11; refine (leaf_any 5 6 1 0 2 2 _).mono ?_; rintro e w6 ⟨rfl, b6⟩; have S6 := Lib.hid (S5.out.later b6); clear b6))
  go_ret
  exact ⟨rfl, S6.out.below⟩

end Go.Proofs.Ytbndhaocohomjaa
