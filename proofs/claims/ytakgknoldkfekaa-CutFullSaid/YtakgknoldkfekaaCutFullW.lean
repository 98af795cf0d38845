/- The walk of the law CutFull. -/
import Derived.Test.YtakgknoldkfekaaAwake6
import Derived.Test.YtakgknoldkfekaaRefW
import Derived.Test.YtakgknoldkfekaaSaysW
import Derived.Test.YtakgknoldkfekaaNilCutW
namespace Go.Proofs.Ytakgknoldkfekaa
set_option maxRecDepth 100000
open Go.RowKit
set_option linter.unusedSimpArgs false
set_option linter.unusedVariables false

set_option maxRecDepth 100000 in
set_option maxHeartbeats 4000000 in
theorem cutFull_walk (W : World) {ad : Option Addr} {c : Nat} {l : List Pr} (hl : PIn W ad c l) (hokl : okP l) (i : Int) (hi : -9223372036854775808 ≤ i ∧ i ≤ 9223372036854775807) (less_ : Int) (hless_ : -9223372036854775808 ≤ less_ ∧ less_ ≤ 9223372036854775807) :
    Calls Try.prog 6 #[.slice ad l.length c, .int .i64 i, .int .i64 less_] W fun e w' => e = .returned (.bool true) ∧ Below W.heap.size W w' := by
  have hp := pairs_any W hl 40 (by decide) (by decide)
  have hpl := (pairsB_len l 40 (by decide) l.length).1
  have hs := pairs_sorted l 40
  have hok := pairs_ok 40 hokl
  rw [show pairsB l 40 l.length = pairs l 40 from rfl] at hpl
  generalize pairs l 40 = q at hp hpl hs hok
  have HP := Lib.hid hp; clear hp hl
  have HQ := Lib.hid hs; clear hs
  have HOK := Lib.hid hok; clear hok hokl
  have hgq := hgt_le q
  obtain ⟨r, hr, hrlt⟩ := rem_len less_ (2 * hgt q + 1) (by omega) (by omega)
  obtain ⟨hn, hhn⟩ : ∃ hn, hgt q = hn := ⟨_, rfl⟩
  rw [hhn] at hr hrlt hgq
  rw [show ((2 * hn + 1 : Nat) : Int) = 2 * (hn : Int) + 1 by omega] at hr
  have hn40 : hn ≤ 40 := by omega
  have HR := Lib.hid hr; clear hr
  have HN := Lib.hid hhn; clear hhn
  go_enter Try.func6, Try.ntmps6
  go_wp2_with fail
  refine HP.out.mono ?_
  rintro e w1 ⟨ad1, c1, rfl, p1, n1, b1⟩
  have P1 := Lib.hid p1; clear p1 n1
  have B1 := Lib.hid b1; clear b1
  by_cases h0 : q = []
  · subst h0
    go_wp2_with (go_at_call 26; refine (awake6_any W _ B1.out).mono ?_; rintro e w8 ⟨rfl, b8⟩)
    go_ret
    exact ⟨rfl, b8⟩
  · have hpos : 0 < q.length := List.length_pos_iff.2 h0
    have hq0 : ((q.length : Int) == 0) = false := beq_eq_false_iff_ne.2 (by omega)
    have hq64 : q.length ≤ 60 := by omega
    obtain ⟨m, hm, hmlt⟩ := rem_len i q.length hpos (by omega)
    have HM := Lib.hid hm; clear hm
    clear h0
    go_wp2_with fail
    refine (high_any _ w1 ad1 c1 q (Nat.le_refl _) (by omega) P1.out).mono ?_
    rw [HN.out]
    rintro e w1b ⟨rfl, bb⟩
    have P1b := Lib.hid (P1.out.later bb)
    have B1b := Lib.hid (B1.out.trans (bb.mono B1.out.size)); clear bb
    have hr := HR.out
    go_wp2_with fail
    refine (new_any ((q.length : Int) + (2 * (hn : Int)) - r) w1b).mono ?_
    rintro e w2 ⟨rfl, o2, b2⟩
    have S2 := Lib.hid (St.begin B1b.out o2 b2)
    have K2 := Lib.hid (PK.begin P1b.out b2)
    clear o2 b2
    clear hr
    have la := laid_any q.length w2 w1b.heap.size _ _ ad1 c1 q (Nat.le_refl _) (by omega) S2.out.arena K2.out (by rw [newA_room (by omega) (by omega), newA_slots]; simp; omega)
    have LA := Lib.hid la; clear la
    go_wp2_with fail
    refine LA.out.mono ?_
    rintro e w3 ⟨t, a3, rfl, ⟨F3, o3, g3⟩, x3, l3, t3, al3⟩
    have H3 := Lib.hid (Has.mk (S2.out.grow g3 o3) t3 (x3.1.trans (newA_room (by omega) (by omega))) (by rw [l3, newA_slots]; simp) x3.2.1 : Has W w3 w1b.heap.size a3 F3 t q (((q.length : Int) + (2 * (hn : Int)) - r)))
    have K3 := Lib.hid (K2.out.grow g3)
    clear o3 g3 x3 l3 t3 al3
    have hlen64 : q.length ≤ 1000 := by omega
    have tr3 := H3.out.tr
    have rm3 := H3.out.room
    have us3 := H3.out.used
    obtain ⟨b, off, hbo, hcell⟩ := K3.out.cells hmlt
    subst hbo
    obtain ⟨x, hx⟩ : ∃ x, q[m] = x := ⟨_, rfl⟩
    have hg := gotP_at HQ.out hmlt
    rw [hx] at hg
    have HX := Lib.hid hx; clear hx
    obtain ⟨xk, xv⟩ := x
    simp only [] at hg
    rcases cutO_tr tr3 HQ.out (by omega) H3.out.st.fits xk with ⟨h1, _⟩ | ⟨_, a4, x4, f4, l4, hh⟩
    · rw [hg] at h1; exact absurd h1 (by simp)
    rw [hg] at hh
    simp only [] at hh
    clear hg
    have tr4 := tr3.ext x4
    have r4 := x4.1
    rcases hh with ⟨u, e4, tu⟩ | ⟨e4, fl4⟩
    · clear f4 l4 x4 r4 rm3 us3
      have S3 := Lib.hid H3.out.st
      obtain ⟨d0, d1⟩ := hcell w3 F3 K3.out
      rw [HX.out] at d0 d1
      simp only [] at d0 d1
      have HC := Lib.hid hcell; clear hcell
      have hm := HM.out
      have cc := cutO_any S3.out.arena t xk
      rw [e4] at cc
      have CC := Lib.hid cc; clear cc
      go_wp2_with fail
      refine CC.out.mono ?_
      rintro e w4 ⟨rfl, m4⟩
      clear CC
      clear d0 d1 hm
      obtain ⟨F4, o4, g4⟩ := Made.out m4
      have S4 := Lib.hid (S3.out.grow g4 o4)
      have K4 := Lib.hid (K3.out.grow g4)
      clear m4 o4 g4
      go_wp2_with fail
      refine (cutNil_any _ t xk).mono ?_
      rintro e w5 ⟨rfl, b5⟩
      have S5 := Lib.hid (S4.out.later b5)
      have K5 := Lib.hid (K4.out.later b5)
      clear b5
      have cc := cutO_any S5.out.arena (-1) xk
      rw [cutO_out xk (isT_out (t := -1) (.inr (by decide)))] at cc
      have CC := Lib.hid cc; clear cc
      go_wp2_with fail
      refine CC.out.mono ?_
      rintro e w6 ⟨rfl, m6⟩
      clear CC
      obtain ⟨F6, o6, g6⟩ := Made.out m6
      have S6 := Lib.hid (S5.out.grow g6 o6)
      have K6 := Lib.hid (K5.out.grow g6)
      clear m6 o6 g6
      have HS := Lib.hid (says_any _ _ _ _ _ t _ _ q (Nat.le_refl _) (by omega) S6.out.arena K6.out tr4)
      go_wp2_with fail
      refine (HS.out).mono ?_
      rintro e w7 ⟨rfl, b7⟩
      have S7 := Lib.hid (S6.out.later b7)
      have K7 := Lib.hid (K6.out.later b7)
      clear b7
      clear HS
      have cw := without_any _ K7.out.pin (by omega) xk
      have CW := Lib.hid cw; clear cw
      go_wp2_with fail
      refine CW.out.mono ?_
      rintro e w8 ⟨adV, cV, rfl, pp, np, b8⟩
      clear CW
      have S8 := Lib.hid (S7.out.later b8)
      have K8 := Lib.hid (K7.out.later b8)
      have V8 := Lib.hid (PK.mk pp (fun _ x hx hf => by have := np x hx; have := S7.out.arena.lt _ hf; omega))
      clear b8 pp np
      have HS := Lib.hid (says_any _ _ _ _ _ u _ _ (less xk q) (Nat.le_refl _) (by have := sub_len (less_sub xk q); omega) S8.out.arena V8.out tu)
      go_wp2_with fail
      refine (HS.out).mono ?_
      rintro e w9 ⟨rfl, b9⟩
      have S9 := Lib.hid (S8.out.later b9)
      have K9 := Lib.hid (K8.out.later b9)
      have V9 := Lib.hid (V8.out.later b9)
      clear b9
      clear HS
      go_wp2_with (go_at_call 26; refine (awake6_any W _ S9.out.below).mono ?_; rintro e wz ⟨rfl, bz⟩)
      go_ret
      exact ⟨rfl, bz⟩
    · have h1 := fl4.1
      have h2 := fl4.2
      have hr0 : (0 : Int) < (r : Int) := by rw [HN.out] at h2; omega
      have hr1 : 0 < r := by omega
      clear f4 l4 x4 r4 rm3 us3 fl4 h1 h2
      have S3 := Lib.hid H3.out.st
      obtain ⟨d0, d1⟩ := hcell w3 F3 K3.out
      rw [HX.out] at d0 d1
      simp only [] at d0 d1
      have HC := Lib.hid hcell; clear hcell
      have hm := HM.out
      have cc := cutO_any S3.out.arena t xk
      rw [e4] at cc
      have CC := Lib.hid cc; clear cc
      go_wp2_with fail
      refine CC.out.mono ?_
      rintro e w4 ⟨rfl, m4⟩
      clear CC
      clear d0 d1 hm
      obtain ⟨F4, o4, g4⟩ := Made.out m4
      have S4 := Lib.hid (S3.out.grow g4 o4)
      have K4 := Lib.hid (K3.out.grow g4)
      clear m4 o4 g4
      go_wp2_with fail
      refine (cutNil_any _ t xk).mono ?_
      rintro e w5 ⟨rfl, b5⟩
      have S5 := Lib.hid (S4.out.later b5)
      have K5 := Lib.hid (K4.out.later b5)
      clear b5
      have cc := cutO_any S5.out.arena (-1) xk
      rw [cutO_out xk (isT_out (t := -1) (.inr (by decide)))] at cc
      have CC := Lib.hid cc; clear cc
      go_wp2_with fail
      refine CC.out.mono ?_
      rintro e w6 ⟨rfl, m6⟩
      clear CC
      obtain ⟨F6, o6, g6⟩ := Made.out m6
      have S6 := Lib.hid (S5.out.grow g6 o6)
      have K6 := Lib.hid (K5.out.grow g6)
      clear m6 o6 g6
      have HS := Lib.hid (says_any _ _ _ _ _ t _ _ q (Nat.le_refl _) (by omega) S6.out.arena K6.out tr4)
      go_wp2_with fail
      refine (HS.out).mono ?_
      rintro e w7 ⟨rfl, b7⟩
      have S7 := Lib.hid (S6.out.later b7)
      have K7 := Lib.hid (K6.out.later b7)
      clear b7
      clear HS
      have hr2 : 0 < wrap64 ((IntKind.u64.wrap less_).tmod (2 * (hn : Int) + 1)) := by rw [HR.out]; exact hr0
      go_wp2_with (go_at_call 26; refine (awake6_any W _ S7.out.below).mono ?_; rintro e wz ⟨rfl, bz⟩)
      go_ret
      exact ⟨rfl, bz⟩

end Go.Proofs.Ytakgknoldkfekaa
