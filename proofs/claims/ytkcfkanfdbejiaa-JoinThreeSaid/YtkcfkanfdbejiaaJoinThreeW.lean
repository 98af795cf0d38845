/- The walk of the law JoinThree. -/
import Derived.Test.YtkcfkanfdbejiaaAwake8
import Derived.Test.YtkcfkanfdbejiaaRefW
namespace Go.Proofs.Ytkcfkanfdbejiaa
set_option maxRecDepth 100000
open Go.RowKit Go.Proofs.YtkcfkanfdbejiaaW.PrintWords Go.Proofs.YtkcfkanfdbejiaaW.PrintLast
set_option linter.unusedSimpArgs false
set_option linter.unusedVariables false

theorem subK_mid {ad : Option Addr} {c : Nat} {l : List Pr} (i k : Nat) (hik : i ≤ k) (hk : k ≤ l.length) (hc : l.length ≤ c) : ∃ A2 c2 n2, n2 = ((l.take k).drop i).length ∧
    (∀ W : World, (Instr.slice 22 (.slice ad l.length c) (some (.int .i64 (i : Int))) (some (.int .i64 (k : Int))) none).run Try.prog W = .ok (.slice A2 n2 c2) W) ∧ ∀ w F, PK w F ad c l → PK w F A2 c2 ((l.take k).drop i) := by
  obtain ⟨i0, hi, _, hsz, _⟩ := info_parts info_pair
  refine ⟨_, _, _, rfl, fun W => ?_, fun w F h => (h.take k).drop i (by rw [List.length_take]; omega)⟩
  have := cut_mid (P := Try.prog) 22 24 .i64 .i64 Try.underlying22 hi 2 hsz ad l.length c (i : Int) (k : Int) (by omega) (by omega) (by omega) hc W
  rw [Int.toNat_natCast, Int.toNat_natCast] at this
  rw [this, List.length_drop, List.length_take, Nat.min_eq_left hk]

set_option maxRecDepth 100000 in
set_option maxHeartbeats 4000000 in
theorem joinThree_walk (W : World) {ad : Option Addr} {c : Nat} {l : List Pr} (hl : PIn W ad c l) (hokl : okP l) (i : Int) (hi : -9223372036854775808 ≤ i ∧ i ≤ 9223372036854775807) (k : Int) (hk : -9223372036854775808 ≤ k ∧ k ≤ 9223372036854775807) :
    Calls Try.prog 7 #[.slice ad l.length c, .int .i64 i, .int .i64 k] W fun e w' => e = .returned (.bool true) ∧ Below W.heap.size W w' := by
  have hp := pairs_any W hl 40 (by decide) (by decide)
  have hpl := (pairsB_len l 40 (by decide) l.length).1
  have hs := pairs_sorted l 40
  have hok := pairs_ok 40 hokl
  rw [show pairsB l 40 l.length = pairs l 40 from rfl] at hpl
  generalize pairs l 40 = q at hp hpl hs hok
  have HP := Lib.hid hp; clear hp hl
  have HQ := Lib.hid hs; clear hs
  have HOK := Lib.hid hok; clear hok hokl
  obtain ⟨r1, h1, r1lt⟩ := rem_len i (q.length + 1) (by omega) (by omega)
  obtain ⟨r2, h2, r2lt⟩ := rem_len k (q.length + 1) (by omega) (by omega)
  rw [show ((q.length + 1 : Nat) : Int) = (q.length : Int) + 1 by omega] at h1 h2
  have H1 := Lib.hid h1; clear h1
  have H2 := Lib.hid h2; clear h2
  have hq60 : q.length ≤ 40 := by omega
  go_enter Try.func7, Try.ntmps7
  go_wp2_with fail
  refine HP.out.mono ?_
  rintro e w1 ⟨ad1, c1, rfl, p1, n1, b1⟩
  have P1 := Lib.hid p1; clear p1 n1
  have B1 := Lib.hid b1; clear b1
  have wl : IntKind.i64.wrap ((q.length : Int) + 1) = (q.length : Int) + 1 := IntWalk.i64_in _ (by omega)
  have wu : IntKind.u64.wrap ((q.length : Int) + 1) = (q.length : Int) + 1 := by simp [IntKind.wrap, IntKind.bits, IntKind.signed]; omega
  have h1 := H1.out
  have h2 := H2.out
  go_wp2_with fail
  go_quiet (fail)
  by_cases hgt_ : r2 < r1
  · have g1 : decide ((r2 : Int) < (r1 : Int)) = true := decide_eq_true (by omega)
    have g2 : decide (r2 < r1) = true := decide_eq_true hgt_
    go_wp2_with fail
    refine (new_any 2000 _).mono ?_
    rintro e w2 ⟨rfl, o2, b2⟩
    have b2 := undrewN b2
    have S2 := Lib.hid (St.begin B1.out o2 b2)
    have K2 := Lib.hid (PK.begin P1.out b2)
    clear o2 b2
    have hik : r2 ≤ r1 := by omega
    have hkq : r1 ≤ q.length := by omega
    have hti : (q.take r2).length = r2 := by rw [List.length_take]; omega
    have hdk : (q.drop r1).length = q.length - r1 := List.length_drop
    have htm : ((q.take r1).drop r2).length = r1 - r2 := by rw [List.length_drop, List.length_take]; omega
    have l1 : q.take r2 ++ (q.take r1).drop r2 = q.take r1 := by
      have h := List.take_append_drop r2 (q.take r1)
      rw [List.take_take, Nat.min_eq_left hik] at h
      exact h
    have l2 : (q.take r1).drop r2 ++ q.drop r1 = q.drop r2 := by
      have h : (q.take r1 ++ q.drop r1).drop r2 = (q.take r1).drop r2 ++ q.drop r1 := List.drop_append_of_le_length (by rw [List.length_take]; omega)
      rw [List.take_append_drop] at h
      exact h.symm
    have l3 : q.take r1 ++ q.drop r1 = q := List.take_append_drop r1 q
    have l4 : q.take r2 ++ q.drop r2 = q := List.take_append_drop r2 q
    obtain ⟨A2, c2, n2, hn2, hcut2, hP2⟩ := subK_from (ad := ad1) (c := c1) (l := q) r1 hkq
    obtain ⟨A3, c3, n3, hn3, hcut3, hP3⟩ := subK_mid (ad := ad1) (c := c1) (l := q) r2 r1 hik hkq K2.out.pin.room
    have hcut1 := cutP_to ad1 q.length c1 r2 (by omega) K2.out.pin.room
    have HP2 := Lib.hid hP2
    have HN2 := Lib.hid hn2
    have HP3 := Lib.hid hP3
    have HN3 := Lib.hid hn3
    have HTI := Lib.hid hti
    have HDK := Lib.hid hdk
    have HTM := Lib.hid htm
    have L1 := Lib.hid l1
    have L2 := Lib.hid l2
    have L3 := Lib.hid l3
    have L4 := Lib.hid l4
    clear hP2 hn2 hP3 hn3 hti hdk htm l1 l2 l3 l4
    have rn : (newA 2000).room = 2000 := newA_room (by omega) (by omega)
    have sn : (newA 2000).slots.length = 0 := by rw [newA_slots]; rfl
    have cl := laid_any _ _ w1.heap.size _ _ ad1 c1 (q.take r2) (Nat.le_refl _) (by have := HTI.out; omega) S2.out.arena (K2.out.take r2) (by have := HTI.out; omega)
    rw [HTI.out] at cl
    have CL := Lib.hid cl; clear cl
    go_wp2_with fail
    refine CL.out.mono ?_
    rintro e w3 ⟨x, a4, rfl, ⟨F3, o3, g3⟩, xa4, la4, tx, al3⟩
    clear CL
    have S3 := Lib.hid (S2.out.grow g3 o3)
    have K3 := Lib.hid (K2.out.grow g3)
    clear o3 g3 al3
    rw [HTI.out] at la4
    have rm4 := xa4.1
    have cl := laid_any _ _ w1.heap.size _ _ A3 c3 ((q.take r1).drop r2) (Nat.le_refl _) (by have := HTM.out; omega) S3.out.arena (HP3.out _ _ K3.out) (by have := HTM.out; omega)
    rw [← HN3.out] at cl
    have CL := Lib.hid cl; clear cl
    go_wp2_with fail
    refine CL.out.mono ?_
    rintro e w4 ⟨y, a5, rfl, ⟨F4, o4, g4⟩, xa5, la5, ty, al4⟩
    clear CL
    have S4 := Lib.hid (S3.out.grow g4 o4)
    have K4 := Lib.hid (K3.out.grow g4)
    clear o4 g4 al4
    rw [HTM.out] at la5
    have rm5 := xa5.1
    have cl := laid_any _ _ w1.heap.size _ _ A2 c2 (q.drop r1) (Nat.le_refl _) (by have := HDK.out; omega) S4.out.arena (HP2.out _ _ K4.out) (by have := HDK.out; omega)
    rw [← HN2.out] at cl
    have CL := Lib.hid cl; clear cl
    go_wp2_with fail
    refine CL.out.mono ?_
    rintro e w5 ⟨z, a6, rfl, ⟨F5, o5, g5⟩, xa6, la6, tz, al5⟩
    clear CL
    have S5 := Lib.hid (S4.out.grow g5 o5)
    have K5 := Lib.hid (K4.out.grow g5)
    clear o5 g5 al5
    rw [HDK.out] at la6
    have rm6 := xa6.1
    have tx6 := (tx.ext xa5).ext xa6
    have ty6 := ty.ext xa6
    have tz6 := tz
    have hg1 := hgt_le (q.take r2)
    have hg2 := hgt_le ((q.take r1).drop r2)
    have hg3 := hgt_le (q.drop r1)
    have hg4 := hgt_le (q.take r1)
    have hg5 := hgt_le (q.drop r2)
    rw [HTI.out] at hg1
    rw [HTM.out] at hg2
    rw [HDK.out] at hg3
    rw [List.length_take] at hg4
    rw [List.length_drop] at hg5
    have hu6 : (a6.slots.length : Int) ≤ 200 := by omega
    obtain ⟨a7, u, e7, tu, x7, f7, m7⟩ := twoO_room tx6 ty6 (by rw [L1.out]; exact HQ.out.take r1) (by rw [L1.out, List.length_take]; omega) S5.out.fits (by omega)
    rw [L1.out] at tu
    have rm7 := x7.1
    obtain ⟨a8, v, e8, tv, x8, f8, m8⟩ := twoO_room tu (tz6.ext x7) (by rw [L3.out]; exact HQ.out) (by rw [L3.out]; omega) f7 (by omega)
    rw [L3.out] at tv
    have rm8 := x8.1
    obtain ⟨a9, v2, e9, tv2, x9, f9, m9⟩ := twoO_room ((ty6.ext x7).ext x8) ((tz6.ext x7).ext x8) (by rw [L2.out]; exact HQ.out.drop r2) (by rw [L2.out, List.length_drop]; omega) f8 (by omega)
    rw [L2.out] at tv2
    have rm9 := x9.1
    obtain ⟨a10, t, e10, tt, x10, f10, m10⟩ := twoO_room (((tx6.ext x7).ext x8).ext x9) tv2 (by rw [L4.out]; exact HQ.out) (by rw [L4.out]; omega) f9 (by omega)
    rw [L4.out] at tt
    have tv10 := (tv.ext x9).ext x10
    have hgq := hgt_le q
    have E8 := Lib.hid e8
    have E9 := Lib.hid e9
    have E10 := Lib.hid e10
    clear e8 e9 e10 rn sn la4 la5 la6 rm4 rm5 rm6 rm7 rm8 rm9 xa4 xa5 xa6 m7 m8 m9 m10 hg1 hg2 hg3 hg4 hg5 hu6 f7 f8 f9 f10
    have cc := twoO_any S5.out.arena x y
    rw [e7] at cc
    have CC := Lib.hid cc; clear cc
    go_wp2_with fail
    refine CC.out.mono ?_
    rintro e w6 ⟨rfl, m6⟩
    clear CC
    obtain ⟨F6, o6, g6⟩ := Made.out m6
    have S6 := Lib.hid (S5.out.grow g6 o6)
    have K6 := Lib.hid (K5.out.grow g6)
    clear m6 o6 g6
    have cc := twoO_any S6.out.arena u z
    rw [E8.out] at cc
    have CC := Lib.hid cc; clear cc
    go_wp2_with fail
    refine CC.out.mono ?_
    rintro e w7 ⟨rfl, m7⟩
    clear CC
    obtain ⟨F7, o7, g7⟩ := Made.out m7
    have S7 := Lib.hid (S6.out.grow g7 o7)
    have K7 := Lib.hid (K6.out.grow g7)
    clear m7 o7 g7
    have cc := twoO_any S7.out.arena y z
    rw [E9.out] at cc
    have CC := Lib.hid cc; clear cc
    go_wp2_with fail
    refine CC.out.mono ?_
    rintro e w8 ⟨rfl, m8⟩
    clear CC
    obtain ⟨F8, o8, g8⟩ := Made.out m8
    have S8 := Lib.hid (S7.out.grow g8 o8)
    have K8 := Lib.hid (K7.out.grow g8)
    clear m8 o8 g8
    have cc := twoO_any S8.out.arena x v2
    rw [E10.out] at cc
    have CC := Lib.hid cc; clear cc
    go_wp2_with fail
    refine CC.out.mono ?_
    rintro e w9 ⟨rfl, m9⟩
    clear CC
    obtain ⟨F9, o9, g9⟩ := Made.out m9
    have S9 := Lib.hid (S8.out.grow g9 o9)
    have K9 := Lib.hid (K8.out.grow g9)
    clear m9 o9 g9
    have HS := Lib.hid (says_any _ _ _ _ _ v _ _ q (Nat.le_refl _) (by omega) S9.out.arena K9.out tv10)
    go_wp2_with fail
    refine (HS.out).mono ?_
    rintro e w10 ⟨rfl, b10⟩
    have S10 := Lib.hid (S9.out.later b10)
    have K10 := Lib.hid (K9.out.later b10)
    clear b10
    clear HS
    have HS := Lib.hid (says_any _ _ _ _ _ t _ _ q (Nat.le_refl _) (by omega) S10.out.arena K10.out tt)
    go_wp2_with fail
    refine (HS.out).mono ?_
    rintro e w11 ⟨rfl, b11⟩
    have S11 := Lib.hid (S10.out.later b11)
    have K11 := Lib.hid (K10.out.later b11)
    clear b11
    clear HS
    have HH := Lib.hid (high_any _ _ ad1 c1 q (Nat.le_refl _) (by omega) K11.out.pin)
    go_wp2_with fail
    refine (HH.out).mono ?_
    rintro e w12 ⟨rfl, b12⟩
    have S12 := Lib.hid (S11.out.later b12)
    have K12 := Lib.hid (K11.out.later b12)
    clear b12
    clear HH
    have gle : (hgt q : Int) ≤ (q.length : Int) := by omega
    go_wp2_with (go_at_call 29; refine (awake8_any W _ S12.out.below).mono ?_; rintro e wz ⟨rfl, bz⟩)
    go_ret
    exact ⟨rfl, bz⟩
  · have g1 : decide ((r2 : Int) < (r1 : Int)) = false := decide_eq_false (by omega)
    have g2 : decide (r2 < r1) = false := decide_eq_false hgt_
    go_wp2_with fail
    refine (new_any 2000 _).mono ?_
    rintro e w2 ⟨rfl, o2, b2⟩
    have b2 := undrewN b2
    have S2 := Lib.hid (St.begin B1.out o2 b2)
    have K2 := Lib.hid (PK.begin P1.out b2)
    clear o2 b2
    have hik : r1 ≤ r2 := by omega
    have hkq : r2 ≤ q.length := by omega
    have hti : (q.take r1).length = r1 := by rw [List.length_take]; omega
    have hdk : (q.drop r2).length = q.length - r2 := List.length_drop
    have htm : ((q.take r2).drop r1).length = r2 - r1 := by rw [List.length_drop, List.length_take]; omega
    have l1 : q.take r1 ++ (q.take r2).drop r1 = q.take r2 := by
      have h := List.take_append_drop r1 (q.take r2)
      rw [List.take_take, Nat.min_eq_left hik] at h
      exact h
    have l2 : (q.take r2).drop r1 ++ q.drop r2 = q.drop r1 := by
      have h : (q.take r2 ++ q.drop r2).drop r1 = (q.take r2).drop r1 ++ q.drop r2 := List.drop_append_of_le_length (by rw [List.length_take]; omega)
      rw [List.take_append_drop] at h
      exact h.symm
    have l3 : q.take r2 ++ q.drop r2 = q := List.take_append_drop r2 q
    have l4 : q.take r1 ++ q.drop r1 = q := List.take_append_drop r1 q
    obtain ⟨A2, c2, n2, hn2, hcut2, hP2⟩ := subK_from (ad := ad1) (c := c1) (l := q) r2 hkq
    obtain ⟨A3, c3, n3, hn3, hcut3, hP3⟩ := subK_mid (ad := ad1) (c := c1) (l := q) r1 r2 hik hkq K2.out.pin.room
    have hcut1 := cutP_to ad1 q.length c1 r1 (by omega) K2.out.pin.room
    have HP2 := Lib.hid hP2
    have HN2 := Lib.hid hn2
    have HP3 := Lib.hid hP3
    have HN3 := Lib.hid hn3
    have HTI := Lib.hid hti
    have HDK := Lib.hid hdk
    have HTM := Lib.hid htm
    have L1 := Lib.hid l1
    have L2 := Lib.hid l2
    have L3 := Lib.hid l3
    have L4 := Lib.hid l4
    clear hP2 hn2 hP3 hn3 hti hdk htm l1 l2 l3 l4
    have rn : (newA 2000).room = 2000 := newA_room (by omega) (by omega)
    have sn : (newA 2000).slots.length = 0 := by rw [newA_slots]; rfl
    have cl := laid_any _ _ w1.heap.size _ _ ad1 c1 (q.take r1) (Nat.le_refl _) (by have := HTI.out; omega) S2.out.arena (K2.out.take r1) (by have := HTI.out; omega)
    rw [HTI.out] at cl
    have CL := Lib.hid cl; clear cl
    go_wp2_with fail
    refine CL.out.mono ?_
    rintro e w3 ⟨x, a4, rfl, ⟨F3, o3, g3⟩, xa4, la4, tx, al3⟩
    clear CL
    have S3 := Lib.hid (S2.out.grow g3 o3)
    have K3 := Lib.hid (K2.out.grow g3)
    clear o3 g3 al3
    rw [HTI.out] at la4
    have rm4 := xa4.1
    have cl := laid_any _ _ w1.heap.size _ _ A3 c3 ((q.take r2).drop r1) (Nat.le_refl _) (by have := HTM.out; omega) S3.out.arena (HP3.out _ _ K3.out) (by have := HTM.out; omega)
    rw [← HN3.out] at cl
    have CL := Lib.hid cl; clear cl
    go_wp2_with fail
    refine CL.out.mono ?_
    rintro e w4 ⟨y, a5, rfl, ⟨F4, o4, g4⟩, xa5, la5, ty, al4⟩
    clear CL
    have S4 := Lib.hid (S3.out.grow g4 o4)
    have K4 := Lib.hid (K3.out.grow g4)
    clear o4 g4 al4
    rw [HTM.out] at la5
    have rm5 := xa5.1
    have cl := laid_any _ _ w1.heap.size _ _ A2 c2 (q.drop r2) (Nat.le_refl _) (by have := HDK.out; omega) S4.out.arena (HP2.out _ _ K4.out) (by have := HDK.out; omega)
    rw [← HN2.out] at cl
    have CL := Lib.hid cl; clear cl
    go_wp2_with fail
    refine CL.out.mono ?_
    rintro e w5 ⟨z, a6, rfl, ⟨F5, o5, g5⟩, xa6, la6, tz, al5⟩
    clear CL
    have S5 := Lib.hid (S4.out.grow g5 o5)
    have K5 := Lib.hid (K4.out.grow g5)
    clear o5 g5 al5
    rw [HDK.out] at la6
    have rm6 := xa6.1
    have tx6 := (tx.ext xa5).ext xa6
    have ty6 := ty.ext xa6
    have tz6 := tz
    have hg1 := hgt_le (q.take r1)
    have hg2 := hgt_le ((q.take r2).drop r1)
    have hg3 := hgt_le (q.drop r2)
    have hg4 := hgt_le (q.take r2)
    have hg5 := hgt_le (q.drop r1)
    rw [HTI.out] at hg1
    rw [HTM.out] at hg2
    rw [HDK.out] at hg3
    rw [List.length_take] at hg4
    rw [List.length_drop] at hg5
    have hu6 : (a6.slots.length : Int) ≤ 200 := by omega
    obtain ⟨a7, u, e7, tu, x7, f7, m7⟩ := twoO_room tx6 ty6 (by rw [L1.out]; exact HQ.out.take r2) (by rw [L1.out, List.length_take]; omega) S5.out.fits (by omega)
    rw [L1.out] at tu
    have rm7 := x7.1
    obtain ⟨a8, v, e8, tv, x8, f8, m8⟩ := twoO_room tu (tz6.ext x7) (by rw [L3.out]; exact HQ.out) (by rw [L3.out]; omega) f7 (by omega)
    rw [L3.out] at tv
    have rm8 := x8.1
    obtain ⟨a9, v2, e9, tv2, x9, f9, m9⟩ := twoO_room ((ty6.ext x7).ext x8) ((tz6.ext x7).ext x8) (by rw [L2.out]; exact HQ.out.drop r1) (by rw [L2.out, List.length_drop]; omega) f8 (by omega)
    rw [L2.out] at tv2
    have rm9 := x9.1
    obtain ⟨a10, t, e10, tt, x10, f10, m10⟩ := twoO_room (((tx6.ext x7).ext x8).ext x9) tv2 (by rw [L4.out]; exact HQ.out) (by rw [L4.out]; omega) f9 (by omega)
    rw [L4.out] at tt
    have tv10 := (tv.ext x9).ext x10
    have hgq := hgt_le q
    have E8 := Lib.hid e8
    have E9 := Lib.hid e9
    have E10 := Lib.hid e10
    clear e8 e9 e10 rn sn la4 la5 la6 rm4 rm5 rm6 rm7 rm8 rm9 xa4 xa5 xa6 m7 m8 m9 m10 hg1 hg2 hg3 hg4 hg5 hu6 f7 f8 f9 f10
    have cc := twoO_any S5.out.arena x y
    rw [e7] at cc
    have CC := Lib.hid cc; clear cc
    go_wp2_with fail
    refine CC.out.mono ?_
    rintro e w6 ⟨rfl, m6⟩
    clear CC
    obtain ⟨F6, o6, g6⟩ := Made.out m6
    have S6 := Lib.hid (S5.out.grow g6 o6)
    have K6 := Lib.hid (K5.out.grow g6)
    clear m6 o6 g6
    have cc := twoO_any S6.out.arena u z
    rw [E8.out] at cc
    have CC := Lib.hid cc; clear cc
    go_wp2_with fail
    refine CC.out.mono ?_
    rintro e w7 ⟨rfl, m7⟩
    clear CC
    obtain ⟨F7, o7, g7⟩ := Made.out m7
    have S7 := Lib.hid (S6.out.grow g7 o7)
    have K7 := Lib.hid (K6.out.grow g7)
    clear m7 o7 g7
    have cc := twoO_any S7.out.arena y z
    rw [E9.out] at cc
    have CC := Lib.hid cc; clear cc
    go_wp2_with fail
    refine CC.out.mono ?_
    rintro e w8 ⟨rfl, m8⟩
    clear CC
    obtain ⟨F8, o8, g8⟩ := Made.out m8
    have S8 := Lib.hid (S7.out.grow g8 o8)
    have K8 := Lib.hid (K7.out.grow g8)
    clear m8 o8 g8
    have cc := twoO_any S8.out.arena x v2
    rw [E10.out] at cc
    have CC := Lib.hid cc; clear cc
    go_wp2_with fail
    refine CC.out.mono ?_
    rintro e w9 ⟨rfl, m9⟩
    clear CC
    obtain ⟨F9, o9, g9⟩ := Made.out m9
    have S9 := Lib.hid (S8.out.grow g9 o9)
    have K9 := Lib.hid (K8.out.grow g9)
    clear m9 o9 g9
    have HS := Lib.hid (says_any _ _ _ _ _ v _ _ q (Nat.le_refl _) (by omega) S9.out.arena K9.out tv10)
    go_wp2_with fail
    refine (HS.out).mono ?_
    rintro e w10 ⟨rfl, b10⟩
    have S10 := Lib.hid (S9.out.later b10)
    have K10 := Lib.hid (K9.out.later b10)
    clear b10
    clear HS
    have HS := Lib.hid (says_any _ _ _ _ _ t _ _ q (Nat.le_refl _) (by omega) S10.out.arena K10.out tt)
    go_wp2_with fail
    refine (HS.out).mono ?_
    rintro e w11 ⟨rfl, b11⟩
    have S11 := Lib.hid (S10.out.later b11)
    have K11 := Lib.hid (K10.out.later b11)
    clear b11
    clear HS
    have HH := Lib.hid (high_any _ _ ad1 c1 q (Nat.le_refl _) (by omega) K11.out.pin)
    go_wp2_with fail
    refine (HH.out).mono ?_
    rintro e w12 ⟨rfl, b12⟩
    have S12 := Lib.hid (S11.out.later b12)
    have K12 := Lib.hid (K11.out.later b12)
    clear b12
    clear HH
    have gle : (hgt q : Int) ≤ (q.length : Int) := by omega
    go_wp2_with (go_at_call 29; refine (awake8_any W _ S12.out.below).mono ?_; rintro e wz ⟨rfl, bz⟩)
    go_ret
    exact ⟨rfl, bz⟩

end Go.Proofs.Ytkcfkanfdbejiaa
