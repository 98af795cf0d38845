/- The walk of the law PartEnds. -/
import Derived.Test.YtakgknoldkfekaaAwake7
import Derived.Test.YtakgknoldkfekaaRefW
namespace Go.Proofs.Ytakgknoldkfekaa
set_option maxRecDepth 100000
open Go.RowKit
set_option linter.unusedSimpArgs false
set_option linter.unusedVariables false

set_option maxRecDepth 100000 in
set_option maxHeartbeats 4000000 in
theorem partEnds_walk (W : World) {ad : Option Addr} {c : Nat} {l : List Pr} (hl : PIn W ad c l) (hokl : okP l) (key : Int) (hkey : -9223372036854775808 ≤ key ∧ key ≤ 9223372036854775807) :
    Calls Try.prog 3 #[.slice ad l.length c, .int .i64 key] W fun e w' => e = .returned (.bool true) ∧ Below W.heap.size W w' := by
  have hp := pairs_any W hl 40 (by decide) (by decide)
  have hpl := (pairsB_len l 40 (by decide) l.length).1
  have hs := pairs_sorted l 40
  have hok := pairs_ok 40 hokl
  rw [show pairsB l 40 l.length = pairs l 40 from rfl] at hpl
  generalize pairs l 40 = q at hp hpl hs hok
  have HP := Lib.hid hp; clear hp hl
  have HQ := Lib.hid hs; clear hs
  have HOK := Lib.hid hok; clear hok hokl
  go_enter Try.func3, Try.ntmps3
  go_wp2_with fail
  refine HP.out.mono ?_
  rintro e w1 ⟨ad1, c1, rfl, p1, n1, b1⟩
  have P1 := Lib.hid p1; clear p1 n1
  have B1 := Lib.hid b1; clear b1
  go_wp2_with fail
  refine (new_any 500 w1).mono ?_
  rintro e w2 ⟨rfl, o2, b2⟩
  have S2 := Lib.hid (St.begin B1.out o2 b2)
  have K2 := Lib.hid (PK.begin P1.out b2)
  clear o2 b2
  have la := laid_any q.length w2 w1.heap.size _ _ ad1 c1 q (Nat.le_refl _) (by omega) S2.out.arena K2.out (by rw [newA_room (by omega) (by omega), newA_slots]; simp; omega)
  have LA := Lib.hid la; clear la
  go_wp2_with fail
  refine LA.out.mono ?_
  rintro e w3 ⟨t, a3, rfl, ⟨F3, o3, g3⟩, x3, l3, t3, al3⟩
  have H3 := Lib.hid (Has.mk (S2.out.grow g3 o3) t3 (x3.1.trans (newA_room (by omega) (by omega))) (by rw [l3, newA_slots]; simp) x3.2.1 : Has W w3 w1.heap.size a3 F3 t q 500)
  have K3 := Lib.hid (K2.out.grow g3)
  clear o3 g3 x3 l3 t3 al3
  have hlen64 : q.length ≤ 1000 := by omega
  have tr3 := H3.out.tr
  have rm3 := H3.out.room
  have us3 := H3.out.used
  have S3 := Lib.hid H3.out.st
  have hgq := hgt_le q
  obtain ⟨a4, x, y, e4, tx, ty, x4, f4, l4⟩ := partO_room tr3 HQ.out (by omega) S3.out.fits (-9223372036854775808) (by omega)
  rw [lo_none (fun p hp => (HOK.out p hp).1.1)] at tx
  rw [hi_all (fun p hp => (HOK.out p hp).1.1)] at ty
  obtain rfl := tx.none_
  have r4 := x4.1
  have tr4 := tr3.ext x4
  obtain ⟨a5, u, v5, e5, tu, tw, x5, f5, l5⟩ := partO_room tr4 HQ.out (by omega) f4 key (by omega)
  have r5 := x5.1
  have hlq := lo_hi HQ.out key
  have hlen := congrArg List.length hlq
  rw [List.length_append] at hlen
  have hgl := hgt_le (lo key q)
  obtain ⟨a6, v, z, e6, tv, tz, x6, f6, l6⟩ := partO_room tu (HQ.out.sub (lo_sub key q)) (by omega) f5 key (by omega)
  rw [lo_all (l := lo key q) (fun p hp => (lo_mem hp).2)] at tv
  rw [hi_none (l := lo key q) (fun p hp => (lo_mem hp).2)] at tz
  obtain rfl := tz.none_
  have E5 := Lib.hid e5
  have E6 := Lib.hid e6
  have HLEN := Lib.hid hlen
  clear e5 e6 hlen hlq
  have cc := partO_any S3.out.arena t (-9223372036854775808)
  rw [e4] at cc
  have CC := Lib.hid cc; clear cc
  go_wp2_with fail
  refine CC.out.mono ?_
  rintro e w4 ⟨rfl, m4⟩
  clear CC
  obtain ⟨F4, o4, g4⟩ := Made.out m4
  have S4 := Lib.hid (S3.out.grow g4 o4)
  have K4 := Lib.hid (K3.out.grow g4)
  clear m4 o4 g4
  have HS := Lib.hid (says_any _ _ _ _ _ y ad1 c1 q (Nat.le_refl _) (by omega) S4.out.arena K4.out ty)
  go_wp2_with fail
  refine (HS.out).mono ?_
  rintro e w5 ⟨rfl, b5⟩
  have S5 := Lib.hid (S4.out.later b5)
  have K5 := Lib.hid (K4.out.later b5)
  clear b5
  clear HS
  have cc := partO_any S5.out.arena t key
  rw [E5.out] at cc
  have CC := Lib.hid cc; clear cc
  go_wp2_with fail
  refine CC.out.mono ?_
  rintro e w6 ⟨rfl, m6⟩
  clear CC
  obtain ⟨F6, o6, g6⟩ := Made.out m6
  have S6 := Lib.hid (S5.out.grow g6 o6)
  have K6 := Lib.hid (K5.out.grow g6)
  clear m6 o6 g6
  have cc := partO_any S6.out.arena u key
  rw [E6.out] at cc
  have CC := Lib.hid cc; clear cc
  go_wp2_with fail
  refine CC.out.mono ?_
  rintro e w7 ⟨rfl, m7⟩
  clear CC
  obtain ⟨F7, o7, g7⟩ := Made.out m7
  have S7 := Lib.hid (S6.out.grow g7 o7)
  have K7 := Lib.hid (K6.out.grow g7)
  clear m7 o7 g7
  generalize hn1 : (lo key q).length = n1 at *
  generalize hn2 : (hi key q).length = n2 at *
  have tu6 := tu.ext x6
  have tw6 := tw.ext x6
  have q1 := beq_self_eq_true (n1 : Int)
  have q2 := beq_self_eq_true (q.length : Int)
  have Q4 := Lib.hid (show (n1 : Int) + (n2 : Int) = (q.length : Int) by have := HLEN.out; omega)
  have Q5 := Lib.hid (wrap_id (x := (q.length : Int)) (by omega) (by omega))
  have c := lsize_any S7.out.arena v
  rw [tv.size.1, hn1] at c
  have C := Lib.hid c; clear c
  go_wp2_with fail
  refine (C.out).mono ?_
  rintro e w8 ⟨rfl, b8⟩
  have S8 := Lib.hid (S7.out.later b8)
  have K8 := Lib.hid (K7.out.later b8)
  clear b8
  clear C
  have c := lsize_any S8.out.arena u
  rw [tu6.size.1, hn1] at c
  have C := Lib.hid c; clear c
  go_wp2_with fail
  refine (C.out).mono ?_
  rintro e w9 ⟨rfl, b9⟩
  have S9 := Lib.hid (S8.out.later b9)
  have K9 := Lib.hid (K8.out.later b9)
  clear b9
  clear C
  have c := lsize_any S9.out.arena u
  rw [tu6.size.1, hn1] at c
  have C := Lib.hid c; clear c
  go_wp2_with fail
  refine (C.out).mono ?_
  rintro e w10 ⟨rfl, b10⟩
  have S10 := Lib.hid (S9.out.later b10)
  have K10 := Lib.hid (K9.out.later b10)
  clear b10
  clear C
  have c := lsize_any S10.out.arena v5
  rw [tw6.size.1, hn2] at c
  have C := Lib.hid c; clear c
  go_wp2_with fail
  refine (C.out).mono ?_
  rintro e w11 ⟨rfl, b11⟩
  have S11 := Lib.hid (S10.out.later b11)
  have K11 := Lib.hid (K10.out.later b11)
  clear b11
  clear C
  have q3 : wrap64 ((n1 : Int) + (n2 : Int)) = (q.length : Int) := by rw [Q4.out]; exact Q5.out
  have HM := Lib.hid (may_any _ K11.out.pin HQ.out)
  go_wp2_with fail
  refine (HM.out).mono ?_
  rintro e w12 ⟨rfl, b12⟩
  have S12 := Lib.hid (S11.out.later b12)
  have K12 := Lib.hid (K11.out.later b12)
  clear b12
  go_wp2_with (go_at_call 21; refine (awake7_any W _ S12.out.below).mono ?_; rintro e wz ⟨rfl, bz⟩)
  go_ret
  exact ⟨rfl, bz⟩

end Go.Proofs.Ytakgknoldkfekaa
