/- The arena that every program must know. -/
import Derived.Test.YtbndhaocohomjaaGrow
import Derived.Test.YtbndhaocohomjaaOpen
namespace Go.Proofs.Ytbndhaocohomjaa
set_option maxRecDepth 100000
open Go.RowKit

def aw2b : Ar := ⟨5, [⟨3, [7, 8]⟩], 0⟩
def aw2c : Ar := ⟨5, [⟨3, [7, 8]⟩, ⟨0, [1]⟩], 0⟩
def aw2d : Ar := ⟨5, [⟨3, [7, 8]⟩, ⟨0, [9]⟩], 1⟩
def aw2e : Ar := ⟨5, [⟨3, [7, 8]⟩, ⟨0, [9]⟩], 2⟩

set_option maxHeartbeats 2000000 in
theorem awake2_any (W w : World) (hB : Below W.heap.size W w) :
    Calls Try.prog 16 #[] w fun e w' => e = .returned (.bool true) ∧ Below W.heap.size W w' := by
  have M1 := Lib.hid (show makeO (some (newA 5)) 3 [7, 8] = (1, 0, some aw2b) by kernel_rfl)
  have M2 := Lib.hid (show cellO (some aw2b) 1 = (2, 0, some aw2c) by kernel_rfl)
  have M3 := Lib.hid (show swapO (some aw2c) 2 1 9 = (true, some aw2d) by kernel_rfl)
  have M4 := Lib.hid (show loadO (some aw2d) 2 = (9, some aw2e) by kernel_rfl)
  have V1 := Lib.hid (show valO (some aw2d) 1 1 = 8 by kernel_rfl)
  have V2 := Lib.hid (show kindO (some aw2d) 1 = 3 by kernel_rfl)
  have V3 := Lib.hid (show usedO (some aw2e) = 2 by kernel_rfl)
  have V4 := Lib.hid (show stepsO (some aw2e) = 2 by kernel_rfl)
  have HB := Lib.hid hB; clear hB
  go_enter Try.func16, Try.ntmps16
  go_wp2_with fail
  refine (new_any 5 w).mono ?_
  rintro e w1 ⟨rfl, o1, b1⟩
  have S1 := Lib.hid (St.begin HB.out o1 b1); clear o1 b1
  go_wp2_with fail
  have c2 := make_any (S1.out.alloc (.cells #[.int .i64 7, .int .i64 8] 3)).arena 3 (ints_new (l := [7, 8]) w1 w1.heap.size _ rfl rfl)
  rw [M1.out] at c2
  refine c2.mono ?_
  rintro e w2 ⟨rfl, d2⟩
  obtain ⟨F2, s2, k2, z2⟩ := (S1.out.alloc (.cells #[.int .i64 7, .int .i64 8] 3)).made d2
  have S2 := Lib.hid s2; clear s2 c2 d2 k2 z2
  go_wp2_with fail
  have c3 := cellnew_any S2.out.arena 1
  rw [M2.out] at c3
  refine c3.mono ?_
  rintro e w3 ⟨rfl, d3⟩
  obtain ⟨F3, s3, k3, z3⟩ := S2.out.made d3
  have S3 := Lib.hid s3; clear s3 c3 d3 k3 z3
  go_wp2_with fail
  have c4 := swap_any S3.out.arena 2 1 9
  rw [M3.out] at c4
  refine c4.mono ?_
  rintro e w4 ⟨rfl, d4⟩
  obtain ⟨F4, s4, k4, z4⟩ := S3.out.made d4
  have S4 := Lib.hid s4; clear s4 c4 d4 k4 z4
  go_wp2_with fail
  have c5 := val_any S4.out.arena 1 1
  rw [V1.out] at c5
  refine c5.mono ?_
  rintro e w5 ⟨rfl, rfl⟩
  clear c5
  go_wp2_with fail
  have c6 := kind_any S4.out.arena 1
  rw [V2.out] at c6
  refine c6.mono ?_
  rintro e w5 ⟨rfl, rfl⟩
  clear c6
  go_wp2_with fail
  have c7 := load_any S4.out.arena 2
  rw [M4.out] at c7
  refine c7.mono ?_
  rintro e w6 ⟨rfl, d6⟩
  obtain ⟨F6, s6, k6, z6⟩ := S4.out.made d6
  have S6 := Lib.hid s6; clear s6 c7 d6 k6 z6
  go_wp2_with fail
  have c8 := used_any S6.out.arena
  rw [V3.out] at c8
  refine c8.mono ?_
  rintro e w7 ⟨rfl, rfl⟩
  clear c8
  go_wp2_with fail
  have c9 := steps_any S6.out.arena
  rw [V4.out] at c9
  refine c9.mono ?_
  rintro e w7 ⟨rfl, rfl⟩
  clear c9
  go_wp2_with fail
  go_ret
  exact ⟨rfl, S6.out.below⟩

/-- A number of a slice that came in, read later. -/
theorem IntsArg.cell {W w : World} {ad : Option Addr} {c : Nat} {l : List Int} (h : IntsArg W ad c l) (hB : Below W.heap.size W w) {k : Nat} (hk : k < l.length) :
    ∃ b off, ad = some ⟨b, off, none⟩ ∧ w.cell? ⟨b, off + k, none⟩ = some (.int .i64 l[k]) := by
  rcases h.reads with ⟨_, _, rfl⟩ | ⟨x, rfl, hc⟩
  · simp at hk
  · have h0 := hc k hk
    obtain ⟨b, off, spot⟩ := x
    have hs : spot = none := by simpa [Addr.add] using World.cell?_spot (hc 0 (by omega))
    subst hs
    refine ⟨b, off, rfl, ?_⟩
    have e : (⟨b, off, none⟩ : Addr).add k = ⟨b, off + k, none⟩ := by unfold Addr.add; split <;> simp_all
    rw [e] at h0
    exact (hB.cell (World.block_lt_of_cell? W _ h0)).trans h0

end Go.Proofs.Ytbndhaocohomjaa
