/- The walk of the law LookEnds. -/
import Derived.Test.YtabiiggoledipaaAwake4
import Derived.Test.YtabiiggoledipaaLookQ
import Derived.Test.YtabiiggoledipaaExactQ
namespace Go.Proofs.Ytabiiggoledipaa
set_option maxRecDepth 100000
open Go.RowKit
set_option linter.unusedSimpArgs false
set_option linter.unusedVariables false

set_option maxRecDepth 100000 in
set_option maxHeartbeats 4000000 in
theorem lookEnds_walk (W : World) {ad : Option Addr} {c : Nat} {l : List Pr} (hl : PIn W ad c l) (hokl : okP l) :
    Calls Try.prog 11 #[.slice ad l.length c] W fun e w' => e = .returned (.bool true) ∧ Below W.heap.size W w' := by
  have hp := pairs_any W hl 50 (by decide) (by decide)
  have hpl := (pairsB_len l 50 (by decide) l.length).1
  have hs := pairs_sorted l 50
  have hok := pairs_ok 50 hokl
  rw [show pairsB l 50 l.length = pairs l 50 from rfl] at hpl
  generalize pairs l 50 = q at hp hpl hs hok
  have HP := Lib.hid hp; clear hp hl
  have HQ := Lib.hid hs; clear hs
  have HOK := Lib.hid hok; clear hok hokl
  go_enter Try.func11, Try.ntmps11
  go_wp2_with fail
  refine HP.out.mono ?_
  rintro e w1 ⟨ad1, c1, rfl, p1, n1, b1⟩
  have P1 := Lib.hid p1; clear p1 n1
  have B1 := Lib.hid b1; clear b1
  go_wp2_with fail
  refine (new_any 100 w1).mono ?_
  rintro e w2 ⟨rfl, o2, b2⟩
  have S2 := Lib.hid (St.begin B1.out o2 b2)
  have K2 := Lib.hid (PK.begin P1.out b2)
  clear o2 b2
  have la := laid_any q.length w2 w1.heap.size _ _ ad1 c1 q (Nat.le_refl _) (by omega) S2.out.arena K2.out (by rw [newA_room (by omega) (by omega), newA_slots]; simp; omega)
  have LA := Lib.hid la; clear la
  go_wp2_with fail
  refine LA.out.mono ?_
  rintro e w3 ⟨t, a3, rfl, ⟨F3, o3, g3⟩, x3, l3, t3, al3⟩
  have H3 := Lib.hid (Has.mk (S2.out.grow g3 o3) t3 (x3.1.trans (newA_room (by omega) (by omega))) (by rw [l3, newA_slots]; simp) x3.2.1 : Has W w3 w1.heap.size a3 F3 t q (100))
  have K3 := Lib.hid (K2.out.grow g3)
  clear o3 g3 x3 l3 t3 al3
  have hlen64 : q.length ≤ 1000 := by omega
  by_cases h0 : q = []
  · subst h0
    have tr3 := H3.out.tr
    have S3 := Lib.hid H3.out.st
    have es := tr3.size.1
    have eh := tr3.size.2
    rw [show (([] : List Pr).length : Int) = 0 from rfl] at es
    rw [show (hgt [] : Int) = 0 from rfl] at eh
    have e0 := nthO_tr tr3 (fuel t) 0 (lt_fuel t) (by decide)
    rw [dif_neg (by simp)] at e0
    have e1 := nthO_tr tr3 (fuel t) (-1) (lt_fuel t) (by decide)
    rw [dif_neg (by simp)] at e1
    have em := minF_nil tr3 (fuel t) (lt_fuel t)
    have eM := maxF_nil tr3 (fuel t) (lt_fuel t)
    have ES := Lib.hid es; clear es
    have EH := Lib.hid eh; clear eh
    have E0 := Lib.hid e0; clear e0
    have E1 := Lib.hid e1; clear e1
    have EM := Lib.hid em; clear em
    have EX := Lib.hid eM; clear eM
    have c := lsize_any S3.out.arena t
    rw [ES.out] at c
    have C := Lib.hid c; clear c
    go_wp2_with fail
    refine (C.out).mono ?_
    rintro e w4 ⟨rfl, b4⟩
    have S4 := Lib.hid (S3.out.later b4)
    have K4 := Lib.hid (K3.out.later b4)
    clear b4
    clear C
    have c := lookNth_any S4.out.arena (fuel t) t 0 (lt_fuel t)
    rw [E0.out] at c
    have C := Lib.hid c; clear c
    go_wp2_with fail
    refine (C.out).mono ?_
    rintro e w5 ⟨rfl, b5⟩
    have S5 := Lib.hid (S4.out.later b5)
    have K5 := Lib.hid (K4.out.later b5)
    clear b5
    clear C
    have S6 := Lib.hid (S5.out.alloc (.cells #[.int .i64 0, .int .i64 0] 25))
    have K6 := Lib.hid (K5.out.alloc (.cells #[.int .i64 0, .int .i64 0] 25))
    have A6 := Lib.hid (S5.out.new (.cells #[.int .i64 0, .int .i64 0] 25))
    have c := lookNth_any S6.out.arena (fuel t) t (-1) (lt_fuel t)
    rw [E1.out] at c
    have C := Lib.hid c; clear c
    go_wp2_with fail
    refine (C.out).mono ?_
    rintro e w7 ⟨rfl, b7⟩
    have S7 := Lib.hid (S6.out.later b7)
    have K7 := Lib.hid (K6.out.later b7)
    have A7 := Lib.hid (A6.out.below b7)
    clear b7
    clear C
    have S8 := Lib.hid (S7.out.alloc (.cells #[.int .i64 0, .int .i64 0] 25))
    have K8 := Lib.hid (K7.out.alloc (.cells #[.int .i64 0, .int .i64 0] 25))
    have A8 := Lib.hid (A7.out.alloc (.cells #[.int .i64 0, .int .i64 0] 25))
    have B8 := Lib.hid (S7.out.new (.cells #[.int .i64 0, .int .i64 0] 25))
    have c := lookMin_any S8.out.arena (fuel t) t (lt_fuel t)
    rw [EM.out] at c
    have C := Lib.hid c; clear c
    go_wp2_with fail
    refine (C.out).mono ?_
    rintro e w9 ⟨rfl, b9⟩
    have S9 := Lib.hid (S8.out.later b9)
    have K9 := Lib.hid (K8.out.later b9)
    have A9 := Lib.hid (A8.out.below b9)
    have B9 := Lib.hid (B8.out.below b9)
    clear b9
    clear C
    have S10 := Lib.hid (S9.out.alloc (.cells #[.int .i64 0, .int .i64 0] 25))
    have K10 := Lib.hid (K9.out.alloc (.cells #[.int .i64 0, .int .i64 0] 25))
    have A10 := Lib.hid (A9.out.alloc (.cells #[.int .i64 0, .int .i64 0] 25))
    have B10 := Lib.hid (B9.out.alloc (.cells #[.int .i64 0, .int .i64 0] 25))
    have C010 := Lib.hid (S9.out.new (.cells #[.int .i64 0, .int .i64 0] 25))
    have c := lookMax_any S10.out.arena (fuel t) t (lt_fuel t)
    rw [EX.out] at c
    have C := Lib.hid c; clear c
    go_wp2_with fail
    refine (C.out).mono ?_
    rintro e w11 ⟨rfl, b11⟩
    have S11 := Lib.hid (S10.out.later b11)
    have K11 := Lib.hid (K10.out.later b11)
    have A11 := Lib.hid (A10.out.below b11)
    have B11 := Lib.hid (B10.out.below b11)
    have C011 := Lib.hid (C010.out.below b11)
    clear b11
    clear C
    have S12 := Lib.hid (S11.out.alloc (.cells #[.int .i64 0, .int .i64 0] 25))
    have K12 := Lib.hid (K11.out.alloc (.cells #[.int .i64 0, .int .i64 0] 25))
    have A12 := Lib.hid (A11.out.alloc (.cells #[.int .i64 0, .int .i64 0] 25))
    have B12 := Lib.hid (B11.out.alloc (.cells #[.int .i64 0, .int .i64 0] 25))
    have C012 := Lib.hid (C011.out.alloc (.cells #[.int .i64 0, .int .i64 0] 25))
    have D12 := Lib.hid (S11.out.new (.cells #[.int .i64 0, .int .i64 0] 25))
    have c := lookNth_any S12.out.arena (fuel t) t 0 (lt_fuel t)
    rw [E0.out] at c
    have C := Lib.hid c; clear c
    go_wp2_with fail
    refine (C.out).mono ?_
    rintro e w13 ⟨rfl, b13⟩
    have S13 := Lib.hid (S12.out.later b13)
    have K13 := Lib.hid (K12.out.later b13)
    have A13 := Lib.hid (A12.out.below b13)
    have B13 := Lib.hid (B12.out.below b13)
    have C013 := Lib.hid (C012.out.below b13)
    have D13 := Lib.hid (D12.out.below b13)
    clear b13
    clear C
    have S14 := Lib.hid (S13.out.alloc (.cells #[.int .i64 0, .int .i64 0] 25))
    have K14 := Lib.hid (K13.out.alloc (.cells #[.int .i64 0, .int .i64 0] 25))
    have A14 := Lib.hid (A13.out.alloc (.cells #[.int .i64 0, .int .i64 0] 25))
    have B14 := Lib.hid (B13.out.alloc (.cells #[.int .i64 0, .int .i64 0] 25))
    have C014 := Lib.hid (C013.out.alloc (.cells #[.int .i64 0, .int .i64 0] 25))
    have D14 := Lib.hid (D13.out.alloc (.cells #[.int .i64 0, .int .i64 0] 25))
    have G14 := Lib.hid (S13.out.new (.cells #[.int .i64 0, .int .i64 0] 25))
    have c := lookNth_any S14.out.arena (fuel t) t (-1) (lt_fuel t)
    rw [E1.out] at c
    have C := Lib.hid c; clear c
    go_wp2_with fail
    refine (C.out).mono ?_
    rintro e w15 ⟨rfl, b15⟩
    have S15 := Lib.hid (S14.out.later b15)
    have K15 := Lib.hid (K14.out.later b15)
    have A15 := Lib.hid (A14.out.below b15)
    have B15 := Lib.hid (B14.out.below b15)
    have C015 := Lib.hid (C014.out.below b15)
    have D15 := Lib.hid (D14.out.below b15)
    have G15 := Lib.hid (G14.out.below b15)
    clear b15
    clear C
    have S16 := Lib.hid (S15.out.alloc (.cells #[.int .i64 0, .int .i64 0] 25))
    have K16 := Lib.hid (K15.out.alloc (.cells #[.int .i64 0, .int .i64 0] 25))
    have A16 := Lib.hid (A15.out.alloc (.cells #[.int .i64 0, .int .i64 0] 25))
    have B16 := Lib.hid (B15.out.alloc (.cells #[.int .i64 0, .int .i64 0] 25))
    have C016 := Lib.hid (C015.out.alloc (.cells #[.int .i64 0, .int .i64 0] 25))
    have D16 := Lib.hid (D15.out.alloc (.cells #[.int .i64 0, .int .i64 0] 25))
    have G16 := Lib.hid (G15.out.alloc (.cells #[.int .i64 0, .int .i64 0] 25))
    have J16 := Lib.hid (S15.out.new (.cells #[.int .i64 0, .int .i64 0] 25))
    have a16c0_16 := cell_blk (i := 0) A16.out.at_ rfl
    have a16c1_16 := cell_blk (i := 1) A16.out.at_ rfl
    have b16c0_16 := cell_blk (i := 0) B16.out.at_ rfl
    have b16c1_16 := cell_blk (i := 1) B16.out.at_ rfl
    have c016c0_16 := cell_blk (i := 0) C016.out.at_ rfl
    have c016c1_16 := cell_blk (i := 1) C016.out.at_ rfl
    have d16c0_16 := cell_blk (i := 0) D16.out.at_ rfl
    have d16c1_16 := cell_blk (i := 1) D16.out.at_ rfl
    have c := lhigh_any S16.out.arena t
    rw [EH.out] at c
    have C := Lib.hid c; clear c
    go_wp2_with fail
    refine (C.out).mono ?_
    rintro e w17 ⟨rfl, b17⟩
    clear a16c0_16 a16c1_16 b16c0_16 b16c1_16 c016c0_16 c016c1_16 d16c0_16 d16c1_16
    have S17 := Lib.hid (S16.out.later b17)
    have K17 := Lib.hid (K16.out.later b17)
    have A17 := Lib.hid (A16.out.below b17)
    have B17 := Lib.hid (B16.out.below b17)
    have C017 := Lib.hid (C016.out.below b17)
    have D17 := Lib.hid (D16.out.below b17)
    have G17 := Lib.hid (G16.out.below b17)
    have J17 := Lib.hid (J16.out.below b17)
    clear b17
    clear C
    go_wp2_with (go_at_call 26; refine (awake4_any W _ S17.out.below).mono ?_; rintro e wz ⟨rfl, bz⟩)
    go_ret
    exact ⟨rfl, bz⟩
  · have hpos : 0 < q.length := List.length_pos_iff.2 h0
    have hposi : (0 : Int) < (q.length : Int) := by omega
    clear h0
    have tr3 := H3.out.tr
    have S3 := Lib.hid H3.out.st
    have es := tr3.size.1
    have eh := tr3.size.2
    have e0 := nthO_tr tr3 (fuel t) 0 (lt_fuel t) (by omega)
    rw [dif_pos (by omega)] at e0
    simp only [Int.toNat_zero] at e0
    have e1 := nthO_tr tr3 (fuel t) ((q.length : Int) - 1) (lt_fuel t) (by omega)
    rw [dif_pos (by omega)] at e1
    have i1 : ((q.length : Int) - 1).toNat = q.length - 1 := by omega
    simp only [i1] at e1
    have e2 := nthO_tr tr3 (fuel t) (q.length : Int) (lt_fuel t) (by omega)
    rw [dif_neg (by omega)] at e2
    have e3 := nthO_tr tr3 (fuel t) (-1) (lt_fuel t) (by omega)
    rw [dif_neg (by omega)] at e3
    have em := minF_head tr3 (fuel t) (lt_fuel t) (head_all hpos)
    have eM := maxF_at tr3 (fuel t) (lt_fuel t) (last_all hpos)
    have hh0 : 0 < hgt q := by rw [hgt_eq]; have := (top_bd q).2.2 hpos; rw [if_neg (by omega)]; omega
    generalize q[0] = x at e0 em
    generalize q[q.length - 1] = y at e1 eM
    obtain ⟨xk, xv⟩ := x
    obtain ⟨yk, yv⟩ := y
    simp only [] at e0 em e1 eM
    generalize hgt q = hq at eh hh0
    clear i1
    have ES := Lib.hid es; clear es
    have EH := Lib.hid eh; clear eh
    have E0 := Lib.hid e0; clear e0
    have E1 := Lib.hid e1; clear e1
    have EM := Lib.hid em; clear em
    have EX := Lib.hid eM; clear eM
    have E2 := Lib.hid e2; clear e2
    have E3 := Lib.hid e3; clear e3
    have c := lsize_any S3.out.arena t
    rw [ES.out] at c
    have C := Lib.hid c; clear c
    go_wp2_with fail
    refine (C.out).mono ?_
    rintro e w4 ⟨rfl, b4⟩
    have S4 := Lib.hid (S3.out.later b4)
    have K4 := Lib.hid (K3.out.later b4)
    clear b4
    clear C
    have c := lookNth_any S4.out.arena (fuel t) t 0 (lt_fuel t)
    rw [E0.out] at c
    have C := Lib.hid c; clear c
    go_wp2_with fail
    refine (C.out).mono ?_
    rintro e w5 ⟨rfl, b5⟩
    have S5 := Lib.hid (S4.out.later b5)
    have K5 := Lib.hid (K4.out.later b5)
    clear b5
    clear C
    have S6 := Lib.hid (S5.out.alloc (.cells #[.int .i64 xk, .int .i64 xv] 25))
    have K6 := Lib.hid (K5.out.alloc (.cells #[.int .i64 xk, .int .i64 xv] 25))
    have A6 := Lib.hid (S5.out.new (.cells #[.int .i64 xk, .int .i64 xv] 25))
    have c := lookNth_any S6.out.arena (fuel t) t ((q.length : Int) - 1) (lt_fuel t)
    rw [E1.out] at c
    have C := Lib.hid c; clear c
    go_wp2_with fail
    refine (C.out).mono ?_
    rintro e w7 ⟨rfl, b7⟩
    have S7 := Lib.hid (S6.out.later b7)
    have K7 := Lib.hid (K6.out.later b7)
    have A7 := Lib.hid (A6.out.below b7)
    clear b7
    clear C
    have S8 := Lib.hid (S7.out.alloc (.cells #[.int .i64 yk, .int .i64 yv] 25))
    have K8 := Lib.hid (K7.out.alloc (.cells #[.int .i64 yk, .int .i64 yv] 25))
    have A8 := Lib.hid (A7.out.alloc (.cells #[.int .i64 yk, .int .i64 yv] 25))
    have B8 := Lib.hid (S7.out.new (.cells #[.int .i64 yk, .int .i64 yv] 25))
    have c := lookMin_any S8.out.arena (fuel t) t (lt_fuel t)
    rw [EM.out] at c
    have C := Lib.hid c; clear c
    go_wp2_with fail
    refine (C.out).mono ?_
    rintro e w9 ⟨rfl, b9⟩
    have S9 := Lib.hid (S8.out.later b9)
    have K9 := Lib.hid (K8.out.later b9)
    have A9 := Lib.hid (A8.out.below b9)
    have B9 := Lib.hid (B8.out.below b9)
    clear b9
    clear C
    have S10 := Lib.hid (S9.out.alloc (.cells #[.int .i64 xk, .int .i64 xv] 25))
    have K10 := Lib.hid (K9.out.alloc (.cells #[.int .i64 xk, .int .i64 xv] 25))
    have A10 := Lib.hid (A9.out.alloc (.cells #[.int .i64 xk, .int .i64 xv] 25))
    have B10 := Lib.hid (B9.out.alloc (.cells #[.int .i64 xk, .int .i64 xv] 25))
    have C010 := Lib.hid (S9.out.new (.cells #[.int .i64 xk, .int .i64 xv] 25))
    have c := lookMax_any S10.out.arena (fuel t) t (lt_fuel t)
    rw [EX.out] at c
    have C := Lib.hid c; clear c
    go_wp2_with fail
    refine (C.out).mono ?_
    rintro e w11 ⟨rfl, b11⟩
    have S11 := Lib.hid (S10.out.later b11)
    have K11 := Lib.hid (K10.out.later b11)
    have A11 := Lib.hid (A10.out.below b11)
    have B11 := Lib.hid (B10.out.below b11)
    have C011 := Lib.hid (C010.out.below b11)
    clear b11
    clear C
    have S12 := Lib.hid (S11.out.alloc (.cells #[.int .i64 yk, .int .i64 yv] 25))
    have K12 := Lib.hid (K11.out.alloc (.cells #[.int .i64 yk, .int .i64 yv] 25))
    have A12 := Lib.hid (A11.out.alloc (.cells #[.int .i64 yk, .int .i64 yv] 25))
    have B12 := Lib.hid (B11.out.alloc (.cells #[.int .i64 yk, .int .i64 yv] 25))
    have C012 := Lib.hid (C011.out.alloc (.cells #[.int .i64 yk, .int .i64 yv] 25))
    have D12 := Lib.hid (S11.out.new (.cells #[.int .i64 yk, .int .i64 yv] 25))
    have c := lookNth_any S12.out.arena (fuel t) t (q.length : Int) (lt_fuel t)
    rw [E2.out] at c
    have C := Lib.hid c; clear c
    go_wp2_with fail
    refine (C.out).mono ?_
    rintro e w13 ⟨rfl, b13⟩
    have S13 := Lib.hid (S12.out.later b13)
    have K13 := Lib.hid (K12.out.later b13)
    have A13 := Lib.hid (A12.out.below b13)
    have B13 := Lib.hid (B12.out.below b13)
    have C013 := Lib.hid (C012.out.below b13)
    have D13 := Lib.hid (D12.out.below b13)
    clear b13
    clear C
    have S14 := Lib.hid (S13.out.alloc (.cells #[.int .i64 0, .int .i64 0] 25))
    have K14 := Lib.hid (K13.out.alloc (.cells #[.int .i64 0, .int .i64 0] 25))
    have A14 := Lib.hid (A13.out.alloc (.cells #[.int .i64 0, .int .i64 0] 25))
    have B14 := Lib.hid (B13.out.alloc (.cells #[.int .i64 0, .int .i64 0] 25))
    have C014 := Lib.hid (C013.out.alloc (.cells #[.int .i64 0, .int .i64 0] 25))
    have D14 := Lib.hid (D13.out.alloc (.cells #[.int .i64 0, .int .i64 0] 25))
    have G14 := Lib.hid (S13.out.new (.cells #[.int .i64 0, .int .i64 0] 25))
    have c := lookNth_any S14.out.arena (fuel t) t (-1) (lt_fuel t)
    rw [E3.out] at c
    have C := Lib.hid c; clear c
    go_wp2_with fail
    refine (C.out).mono ?_
    rintro e w15 ⟨rfl, b15⟩
    have S15 := Lib.hid (S14.out.later b15)
    have K15 := Lib.hid (K14.out.later b15)
    have A15 := Lib.hid (A14.out.below b15)
    have B15 := Lib.hid (B14.out.below b15)
    have C015 := Lib.hid (C014.out.below b15)
    have D15 := Lib.hid (D14.out.below b15)
    have G15 := Lib.hid (G14.out.below b15)
    clear b15
    clear C
    have S16 := Lib.hid (S15.out.alloc (.cells #[.int .i64 0, .int .i64 0] 25))
    have K16 := Lib.hid (K15.out.alloc (.cells #[.int .i64 0, .int .i64 0] 25))
    have A16 := Lib.hid (A15.out.alloc (.cells #[.int .i64 0, .int .i64 0] 25))
    have B16 := Lib.hid (B15.out.alloc (.cells #[.int .i64 0, .int .i64 0] 25))
    have C016 := Lib.hid (C015.out.alloc (.cells #[.int .i64 0, .int .i64 0] 25))
    have D16 := Lib.hid (D15.out.alloc (.cells #[.int .i64 0, .int .i64 0] 25))
    have G16 := Lib.hid (G15.out.alloc (.cells #[.int .i64 0, .int .i64 0] 25))
    have J16 := Lib.hid (S15.out.new (.cells #[.int .i64 0, .int .i64 0] 25))
    have q1 := beq_self_eq_true (q.length : Int)
    have q2 := beq_self_eq_true xk
    have q3 := beq_self_eq_true xv
    have q4 := beq_self_eq_true yk
    have q5 := beq_self_eq_true yv
    have q6 : ((q.length : Int) == 0) = false := beq_eq_false_iff_ne.2 (by omega)
    have q7 : ((hq : Int) == 0) = false := beq_eq_false_iff_ne.2 (by omega)
    have a16c0_16 := cell_blk (i := 0) A16.out.at_ rfl
    have a16c1_16 := cell_blk (i := 1) A16.out.at_ rfl
    have b16c0_16 := cell_blk (i := 0) B16.out.at_ rfl
    have b16c1_16 := cell_blk (i := 1) B16.out.at_ rfl
    have c016c0_16 := cell_blk (i := 0) C016.out.at_ rfl
    have c016c1_16 := cell_blk (i := 1) C016.out.at_ rfl
    have d16c0_16 := cell_blk (i := 0) D16.out.at_ rfl
    have d16c1_16 := cell_blk (i := 1) D16.out.at_ rfl
    have c := lhigh_any S16.out.arena t
    rw [EH.out] at c
    have C := Lib.hid c; clear c
    go_wp2_with fail
    refine (C.out).mono ?_
    rintro e w17 ⟨rfl, b17⟩
    clear a16c0_16 a16c1_16 b16c0_16 b16c1_16 c016c0_16 c016c1_16 d16c0_16 d16c1_16
    have S17 := Lib.hid (S16.out.later b17)
    have K17 := Lib.hid (K16.out.later b17)
    have A17 := Lib.hid (A16.out.below b17)
    have B17 := Lib.hid (B16.out.below b17)
    have C017 := Lib.hid (C016.out.below b17)
    have D17 := Lib.hid (D16.out.below b17)
    have G17 := Lib.hid (G16.out.below b17)
    have J17 := Lib.hid (J16.out.below b17)
    clear b17
    clear C
    go_wp2_with (go_at_call 26; refine (awake4_any W _ S17.out.below).mono ?_; rintro e wz ⟨rfl, bz⟩)
    go_ret
    exact ⟨rfl, bz⟩

end Go.Proofs.Ytabiiggoledipaa
