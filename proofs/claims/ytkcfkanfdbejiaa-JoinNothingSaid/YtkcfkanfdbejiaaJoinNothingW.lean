/- The walk of the law JoinNothing. -/
import Derived.Test.YtkcfkanfdbejiaaAwake8
import Derived.Test.YtkcfkanfdbejiaaRefW
namespace Go.Proofs.Ytkcfkanfdbejiaa
set_option maxRecDepth 100000
open Go.RowKit
set_option linter.unusedSimpArgs false
set_option linter.unusedVariables false

set_option maxRecDepth 100000 in
set_option maxHeartbeats 4000000 in
theorem joinNothing_walk (W : World) {ad : Option Addr} {c : Nat} {l : List Pr} (hl : PIn W ad c l) (hokl : okP l) :
    Calls Try.prog 9 #[.slice ad l.length c] W fun e w' => e = .returned (.bool true) ∧ Below W.heap.size W w' := by
  have hp := pairs_any W hl 40 (by decide) (by decide)
  have hpl := (pairsB_len l 40 (by decide) l.length).1
  have hs := pairs_sorted l 40
  have hok := pairs_ok 40 hokl
  rw [show pairsB l 40 l.length = pairs l 40 from rfl] at hpl
  generalize pairs l 40 = q at hp hpl hs hok
  have HP := Lib.hid hp; clear hp hl
  have HQ := Lib.hid hs; clear hs
  have HOK := Lib.hid hok; clear hok hokl
  go_enter Try.func9, Try.ntmps9
  go_wp2_with fail
  refine HP.out.mono ?_
  rintro e w1 ⟨ad1, c1, rfl, p1, n1, b1⟩
  have P1 := Lib.hid p1; clear p1 n1
  have B1 := Lib.hid b1; clear b1
  go_wp2_with fail
  refine (new_any 300 w1).mono ?_
  rintro e w2 ⟨rfl, o2, b2⟩
  have S2 := Lib.hid (St.begin B1.out o2 b2)
  have K2 := Lib.hid (PK.begin P1.out b2)
  clear o2 b2
  have la := laid_any q.length w2 w1.heap.size _ _ ad1 c1 q (Nat.le_refl _) (by omega) S2.out.arena K2.out (by rw [newA_room (by omega) (by omega), newA_slots]; simp; omega)
  have LA := Lib.hid la; clear la
  go_wp2_with fail
  refine LA.out.mono ?_
  rintro e w3 ⟨t, a3, rfl, ⟨F3, o3, g3⟩, x3, l3, t3, al3⟩
  have H3 := Lib.hid (Has.mk (S2.out.grow g3 o3) t3 (x3.1.trans (newA_room (by omega) (by omega))) (by rw [l3, newA_slots]; simp) x3.2.1 : Has W w3 w1.heap.size a3 F3 t q (300))
  have K3 := Lib.hid (K2.out.grow g3)
  clear o3 g3 x3 l3 t3 al3
  have hlen64 : q.length ≤ 1000 := by omega
  have tr3 := H3.out.tr
  have us3 := H3.out.used
  have S3 := Lib.hid H3.out.st
  have e1 := twoO_nil tr3
  have e2 := two_nil_l tr3
  have e3 := twoO_nil (a := a3) .nil
  have e4 := allO_one tr3
  have e5 := allO_zeros tr3
  have e6 : allO (some a3) [(q.length : Int) + 3] = (0, 1, some a3) := allO_out (by cases hn : isN (some a3) ((q.length : Int) + 3) with | false => rfl | true => (have := isN_in hn; omega)) (by omega)
  have us3i : (a3.slots.length : Int) = (q.length : Int) := by omega
  have E1 := Lib.hid e1; clear e1
  have E2 := Lib.hid e2; clear e2
  have E3 := Lib.hid e3; clear e3
  have E4 := Lib.hid e4; clear e4
  have E5 := Lib.hid e5; clear e5
  have E6 := Lib.hid e6; clear e6
  have HUS := Lib.hid us3i; clear us3i us3
  have cc := twoO_any S3.out.arena t 0
  rw [E1.out] at cc
  have CC := Lib.hid cc; clear cc
  go_wp2_with fail
  refine CC.out.mono ?_
  rintro e w4 ⟨rfl, m4⟩
  clear CC
  obtain ⟨F4, o4, g4⟩ := Made.out m4
  have S4 := Lib.hid (S3.out.grow g4 o4)
  have K4 := Lib.hid (K3.out.grow g4)
  clear m4 o4 g4
  have cc := twoO_any S4.out.arena 0 t
  rw [E2.out] at cc
  have CC := Lib.hid cc; clear cc
  go_wp2_with fail
  refine CC.out.mono ?_
  rintro e w5 ⟨rfl, m5⟩
  clear CC
  obtain ⟨F5, o5, g5⟩ := Made.out m5
  have S5 := Lib.hid (S4.out.grow g5 o5)
  have K5 := Lib.hid (K4.out.grow g5)
  clear m5 o5 g5
  have cc := twoO_any S5.out.arena 0 0
  rw [E3.out] at cc
  have CC := Lib.hid cc; clear cc
  go_wp2_with fail
  refine CC.out.mono ?_
  rintro e w6 ⟨rfl, m6⟩
  clear CC
  obtain ⟨F6, o6, g6⟩ := Made.out m6
  have S6 := Lib.hid (S5.out.grow g6 o6)
  have K6 := Lib.hid (K5.out.grow g6)
  clear m6 o6 g6
  have S7 := Lib.hid (S6.out.alloc (.cells #[.int .i64 t] 3))
  have K7 := Lib.hid (K6.out.alloc (.cells #[.int .i64 t] 3))
  have A7 := Lib.hid (S6.out.new (.cells #[.int .i64 t] 3))
  have ik := IK.new (l := [t]) A7.out rfl (show 1 ≤ maxLen by decide)
  have cc := all_any S7.out.arena ik
  rw [E4.out] at cc
  have CC := Lib.hid cc; clear cc
  go_wp2_with fail
  refine CC.out.mono ?_
  rintro e w8 ⟨rfl, m8⟩
  clear CC
  obtain ⟨F8, o8, g8⟩ := Made.out m8
  have S8 := Lib.hid (S7.out.grow g8 o8)
  have K8 := Lib.hid (K7.out.grow g8)
  have A8 := Lib.hid (A7.out.grow g8)
  clear m8 o8 g8
  clear ik
  have S9 := Lib.hid (S8.out.alloc (.cells #[.int .i64 0, .int .i64 0, .int .i64 t, .int .i64 0] 3))
  have K9 := Lib.hid (K8.out.alloc (.cells #[.int .i64 0, .int .i64 0, .int .i64 t, .int .i64 0] 3))
  have A9 := Lib.hid (A8.out.alloc (.cells #[.int .i64 0, .int .i64 0, .int .i64 t, .int .i64 0] 3))
  have B9 := Lib.hid (S8.out.new (.cells #[.int .i64 0, .int .i64 0, .int .i64 t, .int .i64 0] 3))
  have ik := IK.new (l := [0, 0, t, 0]) B9.out rfl (show 4 ≤ maxLen by decide)
  have cc := all_any S9.out.arena ik
  rw [E5.out] at cc
  have CC := Lib.hid cc; clear cc
  go_wp2_with fail
  refine CC.out.mono ?_
  rintro e w10 ⟨rfl, m10⟩
  clear CC
  obtain ⟨F10, o10, g10⟩ := Made.out m10
  have S10 := Lib.hid (S9.out.grow g10 o10)
  have K10 := Lib.hid (K9.out.grow g10)
  have A10 := Lib.hid (A9.out.grow g10)
  have B10 := Lib.hid (B9.out.grow g10)
  clear m10 o10 g10
  clear ik
  have c := used_any S10.out.arena
  rw [show usedO (some a3) = (a3.slots.length : Int) from rfl, HUS.out] at c
  have C := Lib.hid c; clear c
  go_wp2_with fail
  refine (C.out).mono ?_
  rintro e w' ⟨rfl, rfl⟩
  clear C
  have S12 := Lib.hid (S10.out.alloc (.cells #[.int .i64 ((q.length : Int) + 3)] 3))
  have K12 := Lib.hid (K10.out.alloc (.cells #[.int .i64 ((q.length : Int) + 3)] 3))
  have A12 := Lib.hid (A10.out.alloc (.cells #[.int .i64 ((q.length : Int) + 3)] 3))
  have B12 := Lib.hid (B10.out.alloc (.cells #[.int .i64 ((q.length : Int) + 3)] 3))
  have D12 := Lib.hid (S10.out.new (.cells #[.int .i64 ((q.length : Int) + 3)] 3))
  have ik := IK.new (l := [(q.length : Int) + 3]) D12.out rfl (show 1 ≤ maxLen by decide)
  have cc := all_any S12.out.arena ik
  rw [E6.out] at cc
  have CC := Lib.hid cc; clear cc
  go_wp2_with fail
  refine CC.out.mono ?_
  rintro e w13 ⟨rfl, m13⟩
  clear CC
  obtain ⟨F13, o13, g13⟩ := Made.out m13
  have S13 := Lib.hid (S12.out.grow g13 o13)
  have K13 := Lib.hid (K12.out.grow g13)
  have A13 := Lib.hid (A12.out.grow g13)
  have B13 := Lib.hid (B12.out.grow g13)
  have D13 := Lib.hid (D12.out.grow g13)
  clear m13 o13 g13
  clear ik
  have qt := beq_self_eq_true t
  have HS := Lib.hid (says_any _ _ _ _ _ t _ _ q (Nat.le_refl _) (by omega) S13.out.arena K13.out tr3)
  go_wp2_with fail
  refine (HS.out).mono ?_
  rintro e w14 ⟨rfl, b14⟩
  have S14 := Lib.hid (S13.out.later b14)
  have K14 := Lib.hid (K13.out.later b14)
  have A14 := Lib.hid (A13.out.below b14)
  have B14 := Lib.hid (B13.out.below b14)
  have D14 := Lib.hid (D13.out.below b14)
  clear b14
  clear HS
  have HS := Lib.hid (says_any _ _ _ _ _ t _ _ q (Nat.le_refl _) (by omega) S14.out.arena K14.out tr3)
  go_wp2_with fail
  refine (HS.out).mono ?_
  rintro e w15 ⟨rfl, b15⟩
  have S15 := Lib.hid (S14.out.later b15)
  have K15 := Lib.hid (K14.out.later b15)
  have A15 := Lib.hid (A14.out.below b15)
  have B15 := Lib.hid (B14.out.below b15)
  have D15 := Lib.hid (D14.out.below b15)
  clear b15
  clear HS
  have HS := Lib.hid (says_any _ _ _ _ _ t _ _ q (Nat.le_refl _) (by omega) S15.out.arena K15.out tr3)
  go_wp2_with fail
  refine (HS.out).mono ?_
  rintro e w16 ⟨rfl, b16⟩
  have S16 := Lib.hid (S15.out.later b16)
  have K16 := Lib.hid (K15.out.later b16)
  have A16 := Lib.hid (A15.out.below b16)
  have B16 := Lib.hid (B15.out.below b16)
  have D16 := Lib.hid (D15.out.below b16)
  clear b16
  clear HS
  have c := may_any _ K16.out.pin HQ.out
  have C := Lib.hid c; clear c
  go_wp2_with fail
  refine (C.out).mono ?_
  rintro e w17 ⟨rfl, b17⟩
  have S17 := Lib.hid (S16.out.later b17)
  have K17 := Lib.hid (K16.out.later b17)
  have A17 := Lib.hid (A16.out.below b17)
  have B17 := Lib.hid (B16.out.below b17)
  have D17 := Lib.hid (D16.out.below b17)
  clear b17
  clear C
  go_wp2_with (go_at_call 29; refine (awake8_any W _ S17.out.below).mono ?_; rintro e wz ⟨rfl, bz⟩)
  go_ret
  exact ⟨rfl, bz⟩

end Go.Proofs.Ytkcfkanfdbejiaa
