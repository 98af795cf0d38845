/- The walk of the law PartMiddle. -/
import Derived.Test.YtakgknoldkfekaaAwake7
import Derived.Test.YtakgknoldkfekaaRefW
namespace Go.Proofs.Ytakgknoldkfekaa
set_option maxRecDepth 100000
open Go.RowKit
set_option linter.unusedSimpArgs false
set_option linter.unusedVariables false

set_option maxRecDepth 100000 in
set_option maxHeartbeats 4000000 in
theorem partMiddle_walk (W : World) {ad : Option Addr} {c : Nat} {l : List Pr} (hl : PIn W ad c l) (hokl : okP l) :
    Calls Try.prog 8 #[.slice ad l.length c] W fun e w' => e = .returned (.bool true) ∧ Below W.heap.size W w' := by
  have hp := pairs_any W hl 50 (by decide) (by decide)
  have hpl := (pairsB_len l 50 (by decide) l.length).1
  have hs := pairs_sorted l 50
  have hok := pairs_ok 50 hokl
  rw [show pairsB l 50 l.length = pairs l 50 from rfl] at hpl
  generalize pairs l 50 = q at hp hpl hs hok
  have HP := Lib.hid hp; clear hp hl
  have HQ := Lib.hid hs; clear hs
  have HOK := Lib.hid hok; clear hok hokl
  go_enter Try.func8, Try.ntmps8
  go_wp2_with fail
  refine HP.out.mono ?_
  rintro e w1 ⟨ad1, c1, rfl, p1, n1, b1⟩
  have P1 := Lib.hid p1; clear p1 n1
  have B1 := Lib.hid b1; clear b1
  go_wp2_with fail
  refine (new_any 300 w1).mono ?_
  rintro e w2 ⟨rfl, o2, b2⟩
  have S2 := Lib.hid (St.begin B1.out o2 b2)
  have K2 := Lib.hid (PK.begin P1.out b2)
  clear o2 b2
  have la := laid_any q.length w2 w1.heap.size _ _ ad1 c1 q (Nat.le_refl _) (by omega) S2.out.arena K2.out (by rw [newA_room (by omega) (by omega), newA_slots]; simp; omega)
  have LA := Lib.hid la; clear la
  go_wp2_with fail
  refine LA.out.mono ?_
  rintro e w3 ⟨t, a3, rfl, ⟨F3, o3, g3⟩, x3, l3, t3, al3⟩
  have H3 := Lib.hid (Has.mk (S2.out.grow g3 o3) t3 (x3.1.trans (newA_room (by omega) (by omega))) (by rw [l3, newA_slots]; simp) x3.2.1 : Has W w3 w1.heap.size a3 F3 t q 300)
  have K3 := Lib.hid (K2.out.grow g3)
  clear o3 g3 x3 l3 t3 al3
  have hlen64 : q.length ≤ 1000 := by omega
  by_cases h2 : q.length < 2
  · have i2 : (q.length : Int) < 2 := by omega
    have S3 := Lib.hid H3.out.st
    go_wp2_with (go_at_call 21; refine (awake7_any W _ S3.out.below).mono ?_; rintro e wz ⟨rfl, bz⟩)
    go_ret
    exact ⟨rfl, bz⟩
  · have i2 : ¬ ((q.length : Int) < 2) := by omega
    have tr3 := H3.out.tr
    have rm3 := H3.out.room
    have us3 := H3.out.used
    have S3 := Lib.hid H3.out.st
    have hgq := hgt_le q
    have hm2 := List.length_take (i := q.length / 2) (l := q)
    have hd2 := List.length_drop (i := q.length / 2) (l := q)
    obtain ⟨a4, x, y, e4, tx, ty, x4, f4, l4⟩ := halfO_room tr3 HQ.out (by omega) S3.out.fits (by omega) (by omega)
    have em := minF_head ty (fuel y) (lt_fuel y) (head_drop (show q.length / 2 < q.length by omega))
    have eM := maxF_at tx (fuel x) (lt_fuel x) (last_take (show 0 < q.length / 2 by omega) (by omega))
    have hlt2 := HQ.out.lt (show q.length / 2 - 1 < q.length / 2 by omega) (show q.length / 2 < q.length by omega)
    rw [keyAt_eq (by omega), keyAt_eq (by omega)] at hlt2
    have sx := tx.size.1
    have sy := ty.size.1
    rw [hm2, Nat.min_eq_left (by omega)] at sx
    rw [hd2] at sy
    generalize q[q.length / 2] = kh at e4 em hlt2
    generalize q[q.length / 2 - 1] = kl at eM hlt2
    obtain ⟨kk, kv⟩ := kh
    obtain ⟨lk, lv⟩ := kl
    simp only [] at e4 em eM hlt2
    obtain ⟨n1, hn1⟩ : ∃ n1 : Nat, n1 = q.length / 2 := ⟨_, rfl⟩
    obtain ⟨n2, hn2⟩ : ∃ n2 : Nat, n2 = q.length - q.length / 2 := ⟨_, rfl⟩
    rw [← hn1] at sx
    rw [← hn2] at sy
    have hnn : (n1 : Int) + (n2 : Int) = (q.length : Int) := by omega
    have hcase : n2 = n1 ∨ n2 = n1 + 1 := by omega
    have n1b : n1 ≤ 1000 := by omega
    have NN := Lib.hid hnn
    have EM := Lib.hid em
    have EMM := Lib.hid eM
    have SX := Lib.hid sx
    have SY := Lib.hid sy
    clear hm2 hd2 em eM sx sy hnn hn1 hn2
    have cc := halfO_any S3.out.arena t
    rw [e4] at cc
    have CC := Lib.hid cc; clear cc
    go_wp2_with fail
    refine CC.out.mono ?_
    rintro e w4 ⟨rfl, m4⟩
    clear CC
    obtain ⟨F4, o4, g4⟩ := Made.out m4
    have S4 := Lib.hid (S3.out.grow g4 o4)
    have K4 := Lib.hid (K3.out.grow g4)
    clear m4 o4 g4
    have c := lookMin_any S4.out.arena (fuel y) y (lt_fuel y)
    rw [EM.out] at c
    have C := Lib.hid c; clear c
    go_wp2_with fail
    refine (C.out).mono ?_
    rintro e w5 ⟨rfl, b5⟩
    have S5 := Lib.hid (S4.out.later b5)
    have K5 := Lib.hid (K4.out.later b5)
    clear b5
    clear C
    have S6 := Lib.hid (S5.out.alloc (.cells #[.int .i64 kk, .int .i64 kv] 37))
    have K6 := Lib.hid (K5.out.alloc (.cells #[.int .i64 kk, .int .i64 kv] 37))
    have A6 := Lib.hid (S5.out.new (.cells #[.int .i64 kk, .int .i64 kv] 37))
    have c := lookMax_any S6.out.arena (fuel x) x (lt_fuel x)
    rw [EMM.out] at c
    have C := Lib.hid c; clear c
    go_wp2_with fail
    refine (C.out).mono ?_
    rintro e w7 ⟨rfl, b7⟩
    have S7 := Lib.hid (S6.out.later b7)
    have K7 := Lib.hid (K6.out.later b7)
    have A7 := Lib.hid (A6.out.below b7)
    clear b7
    clear C
    have S8 := Lib.hid (S7.out.alloc (.cells #[.int .i64 lk, .int .i64 lv] 37))
    have K8 := Lib.hid (K7.out.alloc (.cells #[.int .i64 lk, .int .i64 lv] 37))
    have A8 := Lib.hid (A7.out.alloc (.cells #[.int .i64 lk, .int .i64 lv] 37))
    have B8 := Lib.hid (S7.out.new (.cells #[.int .i64 lk, .int .i64 lv] 37))
    have c := lsize_any S8.out.arena x
    rw [SX.out] at c
    have C := Lib.hid c; clear c
    go_wp2_with fail
    refine (C.out).mono ?_
    rintro e w9 ⟨rfl, b9⟩
    have S9 := Lib.hid (S8.out.later b9)
    have K9 := Lib.hid (K8.out.later b9)
    have A9 := Lib.hid (A8.out.below b9)
    have B9 := Lib.hid (B8.out.below b9)
    clear b9
    clear C
    have c := lsize_any S9.out.arena y
    rw [SY.out] at c
    have C := Lib.hid c; clear c
    go_wp2_with fail
    refine (C.out).mono ?_
    rintro e w10 ⟨rfl, b10⟩
    have S10 := Lib.hid (S9.out.later b10)
    have K10 := Lib.hid (K9.out.later b10)
    have A10 := Lib.hid (A9.out.below b10)
    have B10 := Lib.hid (B9.out.below b10)
    clear b10
    clear C
    have q1 := beq_self_eq_true kk
    have q2 := beq_self_eq_true (q.length : Int)
    have a10c0_10 := cell_blk (i := 0) A10.out.at_ rfl
    have b10c0_10 := cell_blk (i := 0) B10.out.at_ rfl
    rcases hcase with rfl | rfl
    · have q4 := beq_self_eq_true (n2 : Int)
      have Q5 := Lib.hid (wrap_id (x := (q.length : Int)) (by omega) (by omega))
      have q3 : wrap64 ((n2 : Int) + (n2 : Int)) = (q.length : Int) := by rw [NN.out]; exact Q5.out
      go_wp2_with (go_at_call 21; refine (awake7_any W _ S10.out.below).mono ?_; rintro e wz ⟨rfl, bz⟩)
      go_ret
      exact ⟨rfl, bz⟩
    · have q4 : (((n1 + 1 : Nat) : Int) == (n1 : Int)) = false := beq_eq_false_iff_ne.2 (by omega)
      have e1 : (((n1 + 1 : Nat) : Int)) = (n1 : Int) + 1 := by omega
      rw [e1] at q4 NN
      have q5 := beq_self_eq_true ((n1 : Int) + 1)
      have Q5 := Lib.hid (wrap_id (x := (q.length : Int)) (by omega) (by omega))
      have Q6 := Lib.hid (wrap_id (x := (n1 : Int) + 1) (by omega) (by omega))
      have q3 : wrap64 ((n1 : Int) + ((n1 : Int) + 1)) = (q.length : Int) := by rw [NN.out]; exact Q5.out
      have q6 := Q6.out
      go_wp2_with (go_at_call 21; refine (awake7_any W _ S10.out.below).mono ?_; rintro e wz ⟨rfl, bz⟩)
      go_ret
      exact ⟨rfl, bz⟩

end Go.Proofs.Ytakgknoldkfekaa
