/- The walk of the law SoundTurned. -/
import Derived.Test.YtkcfkanfdbejiaaAwake10
import Derived.Test.YtkcfkanfdbejiaaRefW
namespace Go.Proofs.Ytkcfkanfdbejiaa
set_option maxRecDepth 100000
open Go.RowKit
set_option linter.unusedSimpArgs false
set_option linter.unusedVariables false

set_option maxRecDepth 100000 in
set_option maxHeartbeats 4000000 in
theorem soundTurned_walk (W : World) {ad : Option Addr} {c : Nat} {l : List Pr} (hl : PIn W ad c l) (hokl : okP l) (by_ : Int) (hby_ : -9223372036854775808 ≤ by_ ∧ by_ ≤ 9223372036854775807) :
    Calls Try.prog 4 #[.slice ad l.length c, .int .i64 by_] W fun e w' => e = .returned (.bool true) ∧ Below W.heap.size W w' := by
  have hp := pairs_any W hl 30 (by decide) (by decide)
  have hpl := (pairsB_len l 30 (by decide) l.length).1
  have hs := pairs_sorted l 30
  have hok := pairs_ok 30 hokl
  rw [show pairsB l 30 l.length = pairs l 30 from rfl] at hpl
  generalize pairs l 30 = q at hp hpl hs hok
  have HP := Lib.hid hp; clear hp hl
  have HQ := Lib.hid hs; clear hs
  have HOK := Lib.hid hok; clear hok hokl
  go_enter Try.func4, Try.ntmps4
  go_wp2_with fail
  refine HP.out.mono ?_
  rintro e w1 ⟨ad1, c1, rfl, p1, n1, b1⟩
  have P1 := Lib.hid p1; clear p1 n1
  have B1 := Lib.hid b1; clear b1
  go_wp2_with fail
  refine (new_any 200 w1).mono ?_
  rintro e w2 ⟨rfl, o2, b2⟩
  have S2 := Lib.hid (St.begin B1.out o2 b2)
  have K2 := Lib.hid (PK.begin P1.out b2)
  clear o2 b2
  have la := laid_any q.length w2 w1.heap.size _ _ ad1 c1 q (Nat.le_refl _) (by omega) S2.out.arena K2.out (by rw [newA_room (by omega) (by omega), newA_slots]; simp; omega)
  have LA := Lib.hid la; clear la
  go_wp2_with fail
  refine LA.out.mono ?_
  rintro e w3 ⟨t, a3, rfl, ⟨F3, o3, g3⟩, x3, l3, t3, al3⟩
  have H3 := Lib.hid (Has.mk (S2.out.grow g3 o3) t3 (x3.1.trans (newA_room (by omega) (by omega))) (by rw [l3, newA_slots]; simp) x3.2.1 : Has W w3 w1.heap.size a3 F3 t q (200))
  have K3 := Lib.hid (K2.out.grow g3)
  clear o3 g3 x3 l3 t3 al3
  have hlen64 : q.length ≤ 1000 := by omega
  have tr3 := H3.out.tr
  have rm3 := H3.out.room
  have us3 := H3.out.used
  have S3 := Lib.hid H3.out.st
  by_cases hq0 : q = []
  · have g1 : ¬ ((0 : Int) < (q.length : Int)) := by rw [hq0]; simp
    have g2 : decide ((0 : Int) < (q.length : Int)) = false := decide_eq_false g1
    have g3 : ¬ (0 < q.length) := by omega
    obtain rfl := tr3.zero.2 hq0
    clear hq0
    have c := get_any S3.out.arena 0
    rw [isN_zero a3, getN_no (isN_zero a3)] at c
    have C := Lib.hid c; clear c
    go_wp2_with fail
    refine (C.out).mono ?_
    rintro e w4 ⟨rfl, b4⟩
    have S4 := Lib.hid (S3.out.later b4)
    have K4 := Lib.hid (K3.out.later b4)
    clear b4
    clear C
    have S5 := Lib.hid (S4.out.alloc (.cells #[.int .i64 0, .int .i64 0, .int .i64 0, .int .i64 0, .int .i64 0, .int .i64 0] 41))
    have K5 := Lib.hid (K4.out.alloc (.cells #[.int .i64 0, .int .i64 0, .int .i64 0, .int .i64 0, .int .i64 0, .int .i64 0] 41))
    have N5 := Lib.hid (S4.out.new (.cells #[.int .i64 0, .int .i64 0, .int .i64 0, .int .i64 0, .int .i64 0, .int .i64 0] 41))
    go_wp2_with (go_at_call 18; refine (awake10_any W _ S5.out.below).mono ?_; rintro e wz ⟨rfl, bz⟩)
    go_ret
    exact ⟨rfl, bz⟩
  · obtain ⟨k, v, x, y, l1, l2, hqe, hn, hg, ht, tx, ty⟩ := tr3.parts hq0
    have hs := HQ.out
    rw [hqe] at hs
    obtain ⟨s1, s2, o1, o2, _⟩ := sorted_mid.1 hs
    have htt := ht
    rw [hqe] at htt
    obtain ⟨ab1, ab2⟩ := top_above hs htt
    have hll : q.length = l1.length + l2.length + 1 := by rw [hqe]; simp; omega
    have hgm : hgt q = 1 + max (hgt l1) (hgt l2) := by rw [hqe]; exact hgt_mid htt
    have hg1 := hgt_le l1
    have hg2 := hgt_le l2
    have hpos : (0 : Int) < (q.length : Int) := by omega
    have hpos2 : 0 < q.length := by omega
    obtain ⟨gq, hgq⟩ : ∃ g : Nat, hgt q = g := ⟨_, rfl⟩
    rw [hgq] at hg hgm
    clear hqe ht hgq
    have HN := Lib.hid hn; have HG := Lib.hid hg; clear hn hg
    by_cases hleaf : x = 0 ∧ y = 0
    · obtain ⟨rfl, rfl⟩ := hleaf
      have HLL := Lib.hid hll; clear hll hgm us3 rm3
      have c := get_any S3.out.arena t
      rw [HN.out, HG.out] at c
      have C := Lib.hid c; clear c
      go_wp2_with fail
      refine (C.out).mono ?_
      rintro e w4 ⟨rfl, b4⟩
      have S4 := Lib.hid (S3.out.later b4)
      have K4 := Lib.hid (K3.out.later b4)
      clear b4
      clear C
      have S5 := Lib.hid (S4.out.alloc (.cells #[.int .i64 k, .int .i64 v, .int .i64 0, .int .i64 0, .int .i64 (q.length : Int), .int .i64 (gq : Int)] 41))
      have K5 := Lib.hid (K4.out.alloc (.cells #[.int .i64 k, .int .i64 v, .int .i64 0, .int .i64 0, .int .i64 (q.length : Int), .int .i64 (gq : Int)] 41))
      have N5 := Lib.hid (S4.out.new (.cells #[.int .i64 k, .int .i64 v, .int .i64 0, .int .i64 0, .int .i64 (q.length : Int), .int .i64 (gq : Int)] 41))
      have n5c0_5 := cell_blk (i := 0) N5.out.at_ rfl
      have n5c1_5 := cell_blk (i := 1) N5.out.at_ rfl
      have n5c2_5 := cell_blk (i := 2) N5.out.at_ rfl
      have n5c3_5 := cell_blk (i := 3) N5.out.at_ rfl
      have n5c4_5 := cell_blk (i := 4) N5.out.at_ rfl
      have n5c5_5 := cell_blk (i := 5) N5.out.at_ rfl
      have cl := leaf_any k v 0 0 (q.length : Int) (gq : Int) (w4.alloc (.cells #[.int .i64 k, .int .i64 v, .int .i64 0, .int .i64 0, .int .i64 (q.length : Int), .int .i64 (gq : Int)] 41))
      rw [show (decide ((0 : Int) = 0) && decide ((0 : Int) = 0)) = true from rfl] at cl
      have C := Lib.hid cl; clear cl
      go_wp2_with fail
      refine (C.out).mono ?_
      rintro e w6 ⟨rfl, b6⟩
      clear n5c0_5 n5c1_5 n5c2_5 n5c3_5 n5c4_5 n5c5_5
      have S6 := Lib.hid (S5.out.later b6)
      have K6 := Lib.hid (K5.out.later b6)
      have N6 := Lib.hid (N5.out.below b6)
      clear b6
      go_wp2_with (go_at_call 18; refine (awake10_any W _ S6.out.below).mono ?_; rintro e wz ⟨rfl, bz⟩)
      go_ret
      exact ⟨rfl, bz⟩
    · have hlf : (decide (x = 0) && decide (y = 0)) = false := by by_cases h1 : x = 0 <;> by_cases h2 : y = 0 <;> simp [h1, h2]; exact hleaf ⟨h1, h2⟩
      have hne : ¬ (l1 = [] ∧ l2 = []) := fun e => hleaf ⟨tx.zero.2 e.1, ty.zero.2 e.2⟩
      clear hleaf
      obtain ⟨a4, e4, x4, l4, ov4⟩ := make_over ty tx s2 s1 (by omega) (by omega) (by omega) k v
      have r4 := x4.1
      obtain ⟨xs, hxs⟩ : ∃ xs, bits .xor .i64 (q.length : Int) by_ = xs := ⟨_, rfl⟩
      obtain ⟨xg, hxg⟩ : ∃ xg, bits .xor .i64 (gq : Int) by_ = xg := ⟨_, rfl⟩
      obtain ⟨a5, e5, x5, l5, ov5⟩ := raw_over (tx.ext x4) (ty.ext x4) s1 s2 (by omega) (by omega) (by omega) k v xs (gq : Int)
      have r5 := x5.1
      obtain ⟨a6, e6, x6, l6, ov6⟩ := raw_over ((tx.ext x4).ext x5) ((ty.ext x4).ext x5) s1 s2 (by omega) (by omega) (by omega) k v (q.length : Int) xg
      have ov46 := (ov4.ext x5).ext x6
      have ov56 := ov5.ext x6
      have t6x := ((tx.ext x4).ext x5).ext x6
      have t6y := ((ty.ext x4).ext x5).ext x6
      obtain ⟨nu, hnu⟩ : ∃ n, (a3.slots.length : Int) + 1 = n := ⟨_, rfl⟩
      obtain ⟨nw, hnw⟩ : ∃ n, (a4.slots.length : Int) + 1 = n := ⟨_, rfl⟩
      obtain ⟨nv, hnv⟩ : ∃ n, (a5.slots.length : Int) + 1 = n := ⟨_, rfl⟩
      rw [hnu] at e4 ov46
      rw [hnw] at e5 ov56
      rw [hnv] at e6 ov6
      have mu : mayO (some a6) nu = false := by
        cases hlast : l2.getLast? with
        | some p => exact ov46.badL hlast (by have := o2 p (List.mem_of_getLast? hlast); omega)
        | none =>
          have hl2 : l2 = [] := by simpa using hlast
          cases l1 with
          | nil => exact absurd ⟨rfl, hl2⟩ hne
          | cons z r => exact ov46.badR (fun p hp => by rw [hl2] at hp; cases hp) (p := z) rfl (by have := o1 z (List.mem_cons_self ..); omega)
      have mw : mayO (some a6) nw = (xs == (q.length : Int)) := by rw [ov56.fine o1 o2, aboveO_tr t6x ab1, aboveO_tr t6y ab2, ← hll, ← hgm]; simp
      have mv : mayO (some a6) nv = (xg == (gq : Int)) := by rw [ov6.fine o1 o2, aboveO_tr t6x ab1, aboveO_tr t6y ab2, ← hll, ← hgm]; simp
      have hgb : gq ≤ 1000 := by omega
      have E4 := Lib.hid e4; have E5 := Lib.hid e5; have E6 := Lib.hid e6; have MU := Lib.hid mu
      clear e4 e5 e6 mu ov4 ov5 ov6 ov46 ov56 t6x t6y x4 x5 x6 l4 l5 l6 r4 r5 hnu hnw hnv hll hgm us3 rm3 hne hg1 hg2 tx ty ab1 ab2 o1 o2 s1 s2 hs htt hq0 tr3
      by_cases hb0 : by_ = 0
      · have hz1 : xs = (q.length : Int) := by rw [← hxs, hb0]; exact xor_zero (by omega) (by omega)
        have hz2 : xg = (gq : Int) := by rw [← hxg, hb0]; exact xor_zero (by omega) (by omega)
        rw [hz1, beq_self_eq_true] at mw
        rw [hz2, beq_self_eq_true] at mv
        have qb : (by_ == 0) = true := beq_iff_eq.2 hb0
        clear hz1 hz2 hb0
        have MW := Lib.hid mw; have MV := Lib.hid mv; have HXS := Lib.hid hxs; have HXG := Lib.hid hxg; clear mw mv hxs hxg
        have c := get_any S3.out.arena t
        rw [HN.out, HG.out] at c
        have C := Lib.hid c; clear c
        go_wp2_with fail
        refine (C.out).mono ?_
        rintro e w4 ⟨rfl, b4⟩
        have S4 := Lib.hid (S3.out.later b4)
        have K4 := Lib.hid (K3.out.later b4)
        clear b4
        clear C
        have S5 := Lib.hid (S4.out.alloc (.cells #[.int .i64 k, .int .i64 v, .int .i64 x, .int .i64 y, .int .i64 (q.length : Int), .int .i64 (gq : Int)] 41))
        have K5 := Lib.hid (K4.out.alloc (.cells #[.int .i64 k, .int .i64 v, .int .i64 x, .int .i64 y, .int .i64 (q.length : Int), .int .i64 (gq : Int)] 41))
        have N5 := Lib.hid (S4.out.new (.cells #[.int .i64 k, .int .i64 v, .int .i64 x, .int .i64 y, .int .i64 (q.length : Int), .int .i64 (gq : Int)] 41))
        have n5c0_5 := cell_blk (i := 0) N5.out.at_ rfl
        have n5c1_5 := cell_blk (i := 1) N5.out.at_ rfl
        have n5c2_5 := cell_blk (i := 2) N5.out.at_ rfl
        have n5c3_5 := cell_blk (i := 3) N5.out.at_ rfl
        have n5c4_5 := cell_blk (i := 4) N5.out.at_ rfl
        have n5c5_5 := cell_blk (i := 5) N5.out.at_ rfl
        have cl := leaf_any k v x y (q.length : Int) (gq : Int) (w4.alloc (.cells #[.int .i64 k, .int .i64 v, .int .i64 x, .int .i64 y, .int .i64 (q.length : Int), .int .i64 (gq : Int)] 41))
        rw [hlf] at cl
        have C := Lib.hid cl; clear cl hlf
        go_wp2_with fail
        refine (C.out).mono ?_
        rintro e w6 ⟨rfl, b6⟩
        clear n5c0_5 n5c1_5 n5c2_5 n5c3_5 n5c4_5 n5c5_5
        have S6 := Lib.hid (S5.out.later b6)
        have K6 := Lib.hid (K5.out.later b6)
        have N6 := Lib.hid (N5.out.below b6)
        clear b6
        have n6c0_6 := cell_blk (i := 0) N6.out.at_ rfl
        have n6c1_6 := cell_blk (i := 1) N6.out.at_ rfl
        have n6c2_6 := cell_blk (i := 2) N6.out.at_ rfl
        have n6c3_6 := cell_blk (i := 3) N6.out.at_ rfl
        have n6c4_6 := cell_blk (i := 4) N6.out.at_ rfl
        have n6c5_6 := cell_blk (i := 5) N6.out.at_ rfl
        have cc := nmake_any S6.out.arena k v y x
        rw [E4.out] at cc
        have CC := Lib.hid cc; clear cc
        go_wp2_with fail
        refine CC.out.mono ?_
        rintro e w7 ⟨rfl, m7⟩
        clear CC
        clear n6c0_6 n6c1_6 n6c2_6 n6c3_6 n6c4_6 n6c5_6
        obtain ⟨F7, o7, g7⟩ := Made.out m7
        have S7 := Lib.hid (S6.out.grow g7 o7)
        have K7 := Lib.hid (K6.out.grow g7)
        have N7 := Lib.hid (N6.out.grow g7)
        clear m7 o7 g7
        have n7c0_7 := cell_blk (i := 0) N7.out.at_ rfl
        have n7c1_7 := cell_blk (i := 1) N7.out.at_ rfl
        have n7c2_7 := cell_blk (i := 2) N7.out.at_ rfl
        have n7c3_7 := cell_blk (i := 3) N7.out.at_ rfl
        have n7c4_7 := cell_blk (i := 4) N7.out.at_ rfl
        have n7c5_7 := cell_blk (i := 5) N7.out.at_ rfl
        have hxs := HXS.out
        have S8 := Lib.hid (S7.out.alloc (.cells #[.int .i64 k, .int .i64 v, .int .i64 x, .int .i64 y, .int .i64 xs, .int .i64 (gq : Int)] 3))
        have K8 := Lib.hid (K7.out.alloc (.cells #[.int .i64 k, .int .i64 v, .int .i64 x, .int .i64 y, .int .i64 xs, .int .i64 (gq : Int)] 3))
        have N8 := Lib.hid (N7.out.alloc (.cells #[.int .i64 k, .int .i64 v, .int .i64 x, .int .i64 y, .int .i64 xs, .int .i64 (gq : Int)] 3))
        have A8 := Lib.hid (S7.out.new (.cells #[.int .i64 k, .int .i64 v, .int .i64 x, .int .i64 y, .int .i64 xs, .int .i64 (gq : Int)] 3))
        have cc := make_any S8.out.arena 1 (ints_new (l := [k, v, x, y, xs, (gq : Int)]) w7 w7.heap.size _ rfl rfl)
        rw [E5.out] at cc
        have CC := Lib.hid cc; clear cc
        go_wp2_with fail
        refine CC.out.mono ?_
        rintro e w9 ⟨rfl, m9⟩
        clear CC
        clear n7c0_7 n7c1_7 n7c2_7 n7c3_7 n7c4_7 n7c5_7
        obtain ⟨F9, o9, g9⟩ := Made.out m9
        have S9 := Lib.hid (S8.out.grow g9 o9)
        have K9 := Lib.hid (K8.out.grow g9)
        have N9 := Lib.hid (N8.out.grow g9)
        have A9 := Lib.hid (A8.out.grow g9)
        clear m9 o9 g9
        clear hxs
        have n9c0_9 := cell_blk (i := 0) N9.out.at_ rfl
        have n9c1_9 := cell_blk (i := 1) N9.out.at_ rfl
        have n9c2_9 := cell_blk (i := 2) N9.out.at_ rfl
        have n9c3_9 := cell_blk (i := 3) N9.out.at_ rfl
        have n9c4_9 := cell_blk (i := 4) N9.out.at_ rfl
        have n9c5_9 := cell_blk (i := 5) N9.out.at_ rfl
        have hxg := HXG.out
        have S10 := Lib.hid (S9.out.alloc (.cells #[.int .i64 k, .int .i64 v, .int .i64 x, .int .i64 y, .int .i64 (q.length : Int), .int .i64 xg] 3))
        have K10 := Lib.hid (K9.out.alloc (.cells #[.int .i64 k, .int .i64 v, .int .i64 x, .int .i64 y, .int .i64 (q.length : Int), .int .i64 xg] 3))
        have N10 := Lib.hid (N9.out.alloc (.cells #[.int .i64 k, .int .i64 v, .int .i64 x, .int .i64 y, .int .i64 (q.length : Int), .int .i64 xg] 3))
        have A10 := Lib.hid (A9.out.alloc (.cells #[.int .i64 k, .int .i64 v, .int .i64 x, .int .i64 y, .int .i64 (q.length : Int), .int .i64 xg] 3))
        have B10 := Lib.hid (S9.out.new (.cells #[.int .i64 k, .int .i64 v, .int .i64 x, .int .i64 y, .int .i64 (q.length : Int), .int .i64 xg] 3))
        have cc := make_any S10.out.arena 1 (ints_new (l := [k, v, x, y, (q.length : Int), xg]) w9 w9.heap.size _ rfl rfl)
        rw [E6.out] at cc
        have CC := Lib.hid cc; clear cc
        go_wp2_with fail
        refine CC.out.mono ?_
        rintro e w11 ⟨rfl, m11⟩
        clear CC
        clear n9c0_9 n9c1_9 n9c2_9 n9c3_9 n9c4_9 n9c5_9
        obtain ⟨F11, o11, g11⟩ := Made.out m11
        have S11 := Lib.hid (S10.out.grow g11 o11)
        have K11 := Lib.hid (K10.out.grow g11)
        have N11 := Lib.hid (N10.out.grow g11)
        have A11 := Lib.hid (A10.out.grow g11)
        have B11 := Lib.hid (B10.out.grow g11)
        clear m11 o11 g11
        clear hxg
        have c := mayO_any S11.out.arena nu
        rw [MU.out] at c
        have C := Lib.hid c; clear c
        go_wp2_with fail
        refine (C.out).mono ?_
        rintro e w12 ⟨rfl, b12⟩
        have S12 := Lib.hid (S11.out.later b12)
        have K12 := Lib.hid (K11.out.later b12)
        have N12 := Lib.hid (N11.out.below b12)
        have A12 := Lib.hid (A11.out.below b12)
        have B12 := Lib.hid (B11.out.below b12)
        clear b12
        clear C
        have c := mayO_any S12.out.arena nw
        rw [MW.out] at c
        have C := Lib.hid c; clear c
        go_wp2_with fail
        refine (C.out).mono ?_
        rintro e w13 ⟨rfl, b13⟩
        have S13 := Lib.hid (S12.out.later b13)
        have K13 := Lib.hid (K12.out.later b13)
        have N13 := Lib.hid (N12.out.below b13)
        have A13 := Lib.hid (A12.out.below b13)
        have B13 := Lib.hid (B12.out.below b13)
        clear b13
        clear C
        have c := mayO_any S13.out.arena nv
        rw [MV.out] at c
        have C := Lib.hid c; clear c
        go_wp2_with fail
        refine (C.out).mono ?_
        rintro e w14 ⟨rfl, b14⟩
        have S14 := Lib.hid (S13.out.later b14)
        have K14 := Lib.hid (K13.out.later b14)
        have N14 := Lib.hid (N13.out.below b14)
        have A14 := Lib.hid (A13.out.below b14)
        have B14 := Lib.hid (B13.out.below b14)
        clear b14
        clear C
        go_wp2_with (go_at_call 18; refine (awake10_any W _ S14.out.below).mono ?_; rintro e wz ⟨rfl, bz⟩)
        go_ret
        exact ⟨rfl, bz⟩
      · have hz1 : (xs == (q.length : Int)) = false := beq_eq_false_iff_ne.2 (fun e => hb0 (xor_same (by omega) (by omega) (by omega) (hxs.trans e)))
        have hz2 : (xg == (gq : Int)) = false := beq_eq_false_iff_ne.2 (fun e => hb0 (xor_same (by omega) (by omega) (by omega) (hxg.trans e)))
        rw [hz1] at mw
        rw [hz2] at mv
        have qb : (by_ == 0) = false := beq_eq_false_iff_ne.2 hb0
        clear hz1 hz2 hb0
        have MW := Lib.hid mw; have MV := Lib.hid mv; have HXS := Lib.hid hxs; have HXG := Lib.hid hxg; clear mw mv hxs hxg
        have c := get_any S3.out.arena t
        rw [HN.out, HG.out] at c
        have C := Lib.hid c; clear c
        go_wp2_with fail
        refine (C.out).mono ?_
        rintro e w4 ⟨rfl, b4⟩
        have S4 := Lib.hid (S3.out.later b4)
        have K4 := Lib.hid (K3.out.later b4)
        clear b4
        clear C
        have S5 := Lib.hid (S4.out.alloc (.cells #[.int .i64 k, .int .i64 v, .int .i64 x, .int .i64 y, .int .i64 (q.length : Int), .int .i64 (gq : Int)] 41))
        have K5 := Lib.hid (K4.out.alloc (.cells #[.int .i64 k, .int .i64 v, .int .i64 x, .int .i64 y, .int .i64 (q.length : Int), .int .i64 (gq : Int)] 41))
        have N5 := Lib.hid (S4.out.new (.cells #[.int .i64 k, .int .i64 v, .int .i64 x, .int .i64 y, .int .i64 (q.length : Int), .int .i64 (gq : Int)] 41))
        have n5c0_5 := cell_blk (i := 0) N5.out.at_ rfl
        have n5c1_5 := cell_blk (i := 1) N5.out.at_ rfl
        have n5c2_5 := cell_blk (i := 2) N5.out.at_ rfl
        have n5c3_5 := cell_blk (i := 3) N5.out.at_ rfl
        have n5c4_5 := cell_blk (i := 4) N5.out.at_ rfl
        have n5c5_5 := cell_blk (i := 5) N5.out.at_ rfl
        have cl := leaf_any k v x y (q.length : Int) (gq : Int) (w4.alloc (.cells #[.int .i64 k, .int .i64 v, .int .i64 x, .int .i64 y, .int .i64 (q.length : Int), .int .i64 (gq : Int)] 41))
        rw [hlf] at cl
        have C := Lib.hid cl; clear cl hlf
        go_wp2_with fail
        refine (C.out).mono ?_
        rintro e w6 ⟨rfl, b6⟩
        clear n5c0_5 n5c1_5 n5c2_5 n5c3_5 n5c4_5 n5c5_5
        have S6 := Lib.hid (S5.out.later b6)
        have K6 := Lib.hid (K5.out.later b6)
        have N6 := Lib.hid (N5.out.below b6)
        clear b6
        have n6c0_6 := cell_blk (i := 0) N6.out.at_ rfl
        have n6c1_6 := cell_blk (i := 1) N6.out.at_ rfl
        have n6c2_6 := cell_blk (i := 2) N6.out.at_ rfl
        have n6c3_6 := cell_blk (i := 3) N6.out.at_ rfl
        have n6c4_6 := cell_blk (i := 4) N6.out.at_ rfl
        have n6c5_6 := cell_blk (i := 5) N6.out.at_ rfl
        have cc := nmake_any S6.out.arena k v y x
        rw [E4.out] at cc
        have CC := Lib.hid cc; clear cc
        go_wp2_with fail
        refine CC.out.mono ?_
        rintro e w7 ⟨rfl, m7⟩
        clear CC
        clear n6c0_6 n6c1_6 n6c2_6 n6c3_6 n6c4_6 n6c5_6
        obtain ⟨F7, o7, g7⟩ := Made.out m7
        have S7 := Lib.hid (S6.out.grow g7 o7)
        have K7 := Lib.hid (K6.out.grow g7)
        have N7 := Lib.hid (N6.out.grow g7)
        clear m7 o7 g7
        have n7c0_7 := cell_blk (i := 0) N7.out.at_ rfl
        have n7c1_7 := cell_blk (i := 1) N7.out.at_ rfl
        have n7c2_7 := cell_blk (i := 2) N7.out.at_ rfl
        have n7c3_7 := cell_blk (i := 3) N7.out.at_ rfl
        have n7c4_7 := cell_blk (i := 4) N7.out.at_ rfl
        have n7c5_7 := cell_blk (i := 5) N7.out.at_ rfl
        have hxs := HXS.out
        have S8 := Lib.hid (S7.out.alloc (.cells #[.int .i64 k, .int .i64 v, .int .i64 x, .int .i64 y, .int .i64 xs, .int .i64 (gq : Int)] 3))
        have K8 := Lib.hid (K7.out.alloc (.cells #[.int .i64 k, .int .i64 v, .int .i64 x, .int .i64 y, .int .i64 xs, .int .i64 (gq : Int)] 3))
        have N8 := Lib.hid (N7.out.alloc (.cells #[.int .i64 k, .int .i64 v, .int .i64 x, .int .i64 y, .int .i64 xs, .int .i64 (gq : Int)] 3))
        have A8 := Lib.hid (S7.out.new (.cells #[.int .i64 k, .int .i64 v, .int .i64 x, .int .i64 y, .int .i64 xs, .int .i64 (gq : Int)] 3))
        have cc := make_any S8.out.arena 1 (ints_new (l := [k, v, x, y, xs, (gq : Int)]) w7 w7.heap.size _ rfl rfl)
        rw [E5.out] at cc
        have CC := Lib.hid cc; clear cc
        go_wp2_with fail
        refine CC.out.mono ?_
        rintro e w9 ⟨rfl, m9⟩
        clear CC
        clear n7c0_7 n7c1_7 n7c2_7 n7c3_7 n7c4_7 n7c5_7
        obtain ⟨F9, o9, g9⟩ := Made.out m9
        have S9 := Lib.hid (S8.out.grow g9 o9)
        have K9 := Lib.hid (K8.out.grow g9)
        have N9 := Lib.hid (N8.out.grow g9)
        have A9 := Lib.hid (A8.out.grow g9)
        clear m9 o9 g9
        clear hxs
        have n9c0_9 := cell_blk (i := 0) N9.out.at_ rfl
        have n9c1_9 := cell_blk (i := 1) N9.out.at_ rfl
        have n9c2_9 := cell_blk (i := 2) N9.out.at_ rfl
        have n9c3_9 := cell_blk (i := 3) N9.out.at_ rfl
        have n9c4_9 := cell_blk (i := 4) N9.out.at_ rfl
        have n9c5_9 := cell_blk (i := 5) N9.out.at_ rfl
        have hxg := HXG.out
        have S10 := Lib.hid (S9.out.alloc (.cells #[.int .i64 k, .int .i64 v, .int .i64 x, .int .i64 y, .int .i64 (q.length : Int), .int .i64 xg] 3))
        have K10 := Lib.hid (K9.out.alloc (.cells #[.int .i64 k, .int .i64 v, .int .i64 x, .int .i64 y, .int .i64 (q.length : Int), .int .i64 xg] 3))
        have N10 := Lib.hid (N9.out.alloc (.cells #[.int .i64 k, .int .i64 v, .int .i64 x, .int .i64 y, .int .i64 (q.length : Int), .int .i64 xg] 3))
        have A10 := Lib.hid (A9.out.alloc (.cells #[.int .i64 k, .int .i64 v, .int .i64 x, .int .i64 y, .int .i64 (q.length : Int), .int .i64 xg] 3))
        have B10 := Lib.hid (S9.out.new (.cells #[.int .i64 k, .int .i64 v, .int .i64 x, .int .i64 y, .int .i64 (q.length : Int), .int .i64 xg] 3))
        have cc := make_any S10.out.arena 1 (ints_new (l := [k, v, x, y, (q.length : Int), xg]) w9 w9.heap.size _ rfl rfl)
        rw [E6.out] at cc
        have CC := Lib.hid cc; clear cc
        go_wp2_with fail
        refine CC.out.mono ?_
        rintro e w11 ⟨rfl, m11⟩
        clear CC
        clear n9c0_9 n9c1_9 n9c2_9 n9c3_9 n9c4_9 n9c5_9
        obtain ⟨F11, o11, g11⟩ := Made.out m11
        have S11 := Lib.hid (S10.out.grow g11 o11)
        have K11 := Lib.hid (K10.out.grow g11)
        have N11 := Lib.hid (N10.out.grow g11)
        have A11 := Lib.hid (A10.out.grow g11)
        have B11 := Lib.hid (B10.out.grow g11)
        clear m11 o11 g11
        clear hxg
        have c := mayO_any S11.out.arena nu
        rw [MU.out] at c
        have C := Lib.hid c; clear c
        go_wp2_with fail
        refine (C.out).mono ?_
        rintro e w12 ⟨rfl, b12⟩
        have S12 := Lib.hid (S11.out.later b12)
        have K12 := Lib.hid (K11.out.later b12)
        have N12 := Lib.hid (N11.out.below b12)
        have A12 := Lib.hid (A11.out.below b12)
        have B12 := Lib.hid (B11.out.below b12)
        clear b12
        clear C
        have c := mayO_any S12.out.arena nw
        rw [MW.out] at c
        have C := Lib.hid c; clear c
        go_wp2_with fail
        refine (C.out).mono ?_
        rintro e w13 ⟨rfl, b13⟩
        have S13 := Lib.hid (S12.out.later b13)
        have K13 := Lib.hid (K12.out.later b13)
        have N13 := Lib.hid (N12.out.below b13)
        have A13 := Lib.hid (A12.out.below b13)
        have B13 := Lib.hid (B12.out.below b13)
        clear b13
        clear C
        have c := mayO_any S13.out.arena nv
        rw [MV.out] at c
        have C := Lib.hid c; clear c
        go_wp2_with fail
        refine (C.out).mono ?_
        rintro e w14 ⟨rfl, b14⟩
        have S14 := Lib.hid (S13.out.later b14)
        have K14 := Lib.hid (K13.out.later b14)
        have N14 := Lib.hid (N13.out.below b14)
        have A14 := Lib.hid (A13.out.below b14)
        have B14 := Lib.hid (B13.out.below b14)
        clear b14
        clear C
        go_wp2_with (go_at_call 18; refine (awake10_any W _ S14.out.below).mono ?_; rintro e wz ⟨rfl, bz⟩)
        go_ret
        exact ⟨rfl, bz⟩

end Go.Proofs.Ytkcfkanfdbejiaa
