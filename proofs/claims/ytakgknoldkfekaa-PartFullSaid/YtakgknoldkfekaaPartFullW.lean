/- The walk of the law PartFull. -/
import Derived.Test.YtakgknoldkfekaaAwake7
import Derived.Test.YtakgknoldkfekaaRefW
import Derived.Test.YtakgknoldkfekaaNilW
namespace Go.Proofs.Ytakgknoldkfekaa
set_option maxRecDepth 100000
open Go.RowKit
set_option linter.unusedSimpArgs false
set_option linter.unusedVariables false

set_option maxRecDepth 100000 in
set_option maxHeartbeats 4000000 in
theorem partFull_walk (W : World) {ad : Option Addr} {c : Nat} {l : List Pr} (hl : PIn W ad c l) (hokl : okP l) (key : Int) (hkey : -9223372036854775808 ≤ key ∧ key ≤ 9223372036854775807) (less : Int) (hless : -9223372036854775808 ≤ less ∧ less ≤ 9223372036854775807) :
    Calls Try.prog 5 #[.slice ad l.length c, .int .i64 key, .int .i64 less] W fun e w' => e = .returned (.bool true) ∧ Below W.heap.size W w' := by
  have hp := pairs_any W hl 40 (by decide) (by decide)
  have hpl := (pairsB_len l 40 (by decide) l.length).1
  have hs := pairs_sorted l 40
  have hok := pairs_ok 40 hokl
  rw [show pairsB l 40 l.length = pairs l 40 from rfl] at hpl
  generalize pairs l 40 = q at hp hpl hs hok
  have HP := Lib.hid hp; clear hp hl
  have HQ := Lib.hid hs; clear hs
  have HOK := Lib.hid hok; clear hok hokl
  have hgq := hgt_le q
  obtain ⟨r, hr, hrlt⟩ := rem_len less (hgt q + 1) (by omega) (by omega)
  rw [show ((hgt q + 1 : Nat) : Int) = (hgt q : Int) + 1 by omega] at hr
  obtain ⟨hn, hhn⟩ : ∃ hn, hgt q = hn := ⟨_, rfl⟩
  rw [hhn] at hr hrlt hgq
  have hn40 : hn ≤ 40 := by omega
  have HR := Lib.hid hr; clear hr
  have HN := Lib.hid hhn; clear hhn
  go_enter Try.func5, Try.ntmps5
  go_wp2_with fail
  refine HP.out.mono ?_
  rintro e w1 ⟨ad1, c1, rfl, p1, n1, b1⟩
  have P1 := Lib.hid p1; clear p1 n1
  have B1 := Lib.hid b1; clear b1
  go_wp2_with fail
  refine (high_any _ w1 ad1 c1 q (Nat.le_refl _) (by omega) P1.out).mono ?_
  rw [HN.out]
  rintro e w1b ⟨rfl, bb⟩
  have P1b := Lib.hid (P1.out.later bb)
  have B1b := Lib.hid (B1.out.trans (bb.mono B1.out.size)); clear bb
  have hr := HR.out
  go_wp2_with fail
  refine (new_any ((q.length : Int) + hn - r) w1b).mono ?_
  rintro e w2 ⟨rfl, o2, b2⟩
  have S2 := Lib.hid (St.begin B1b.out o2 b2)
  have K2 := Lib.hid (PK.begin P1b.out b2)
  clear o2 b2
  clear hr
  have la := laid_any q.length w2 w1b.heap.size _ _ ad1 c1 q (Nat.le_refl _) (by omega) S2.out.arena K2.out (by rw [newA_room (by omega) (by omega), newA_slots]; simp; omega)
  have LA := Lib.hid la; clear la
  go_wp2_with fail
  refine LA.out.mono ?_
  rintro e w3 ⟨t, a3, rfl, ⟨F3, o3, g3⟩, x3, l3, t3, al3⟩
  have H3 := Lib.hid (Has.mk (S2.out.grow g3 o3) t3 (x3.1.trans (newA_room (by omega) (by omega))) (by rw [l3, newA_slots]; simp) x3.2.1 : Has W w3 w1b.heap.size a3 F3 t q (((q.length : Int) + hn - r)))
  have K3 := Lib.hid (K2.out.grow g3)
  clear o3 g3 x3 l3 t3 al3
  have hlen64 : q.length ≤ 1000 := by omega
  have tr3 := H3.out.tr
  have rm3 := H3.out.room
  have us3 := H3.out.used
  obtain ⟨a4, x4, f4, l4, hh⟩ := partO_tr tr3 HQ.out (by omega) H3.out.st.fits key
  have tr4 := tr3.ext x4
  have r4 := x4.1
  have hu4 : (a4.slots.length : Int) ≤ 1000 := by unfold fits at f4; omega
  rcases hh with ⟨x, y, e4, tx, ty⟩ | ⟨e4, fl4⟩
  · clear f4 l4 tx ty x4 r4 rm3 us3
    have S3 := Lib.hid H3.out.st
    have cc := partO_any S3.out.arena t key
    rw [e4] at cc
    have CC := Lib.hid cc; clear cc
    go_wp2_with fail
    refine CC.out.mono ?_
    rintro e w4 ⟨rfl, m4⟩
    clear CC
    obtain ⟨F4, o4, g4⟩ := Made.out m4
    have S4 := Lib.hid (S3.out.grow g4 o4)
    have K4 := Lib.hid (K3.out.grow g4)
    clear m4 o4 g4
    go_wp2_with fail
    refine (partNil_any _ t key).mono ?_
    rintro e w5 ⟨rfl, b5⟩
    have S5 := Lib.hid (S4.out.later b5)
    have K5 := Lib.hid (K4.out.later b5)
    clear b5
    have c := used_any S5.out.arena
    rw [show usedO (some a4) = (a4.slots.length : Int) from rfl] at c
    have C := Lib.hid c; clear c
    go_wp2_with fail
    refine (C.out).mono ?_
    rintro e w' ⟨rfl, rfl⟩
    clear C
    have cc := halfO_any S5.out.arena ((a4.slots.length : Int) + 5)
    rw [halfO_out (isT_out (t := (a4.slots.length : Int) + 5) (.inl (by omega)))] at cc
    have CC := Lib.hid cc; clear cc
    go_wp2_with fail
    refine CC.out.mono ?_
    rintro e w7 ⟨rfl, m7⟩
    clear CC
    obtain ⟨F7, o7, g7⟩ := Made.out m7
    have S7 := Lib.hid (S5.out.grow g7 o7)
    have K7 := Lib.hid (K5.out.grow g7)
    clear m7 o7 g7
    have HS := Lib.hid (says_any _ _ _ _ _ t ad1 c1 q (Nat.le_refl _) (by omega) S7.out.arena K7.out tr4)
    go_wp2_with fail
    refine (HS.out).mono ?_
    rintro e w8 ⟨rfl, b8⟩
    have S8 := Lib.hid (S7.out.later b8)
    have K8 := Lib.hid (K7.out.later b8)
    clear b8
    clear HS
    go_wp2_with (go_at_call 21; refine (awake7_any W _ S8.out.below).mono ?_; rintro e wz ⟨rfl, bz⟩)
    go_ret
    exact ⟨rfl, bz⟩
  · have h1 := fl4.1
    have h2 := fl4.2
    have hr0 : (0 : Int) < (r : Int) := by rw [HN.out] at h2; omega
    have hr1 : 0 < r := by omega
    clear f4 l4 x4 r4 rm3 us3 fl4 h1 h2
    have S3 := Lib.hid H3.out.st
    have cc := partO_any S3.out.arena t key
    rw [e4] at cc
    have CC := Lib.hid cc; clear cc
    go_wp2_with fail
    refine CC.out.mono ?_
    rintro e w4 ⟨rfl, m4⟩
    clear CC
    obtain ⟨F4, o4, g4⟩ := Made.out m4
    have S4 := Lib.hid (S3.out.grow g4 o4)
    have K4 := Lib.hid (K3.out.grow g4)
    clear m4 o4 g4
    go_wp2_with fail
    refine (partNil_any _ t key).mono ?_
    rintro e w5 ⟨rfl, b5⟩
    have S5 := Lib.hid (S4.out.later b5)
    have K5 := Lib.hid (K4.out.later b5)
    clear b5
    have c := used_any S5.out.arena
    rw [show usedO (some a4) = (a4.slots.length : Int) from rfl] at c
    have C := Lib.hid c; clear c
    go_wp2_with fail
    refine (C.out).mono ?_
    rintro e w' ⟨rfl, rfl⟩
    clear C
    have cc := halfO_any S5.out.arena ((a4.slots.length : Int) + 5)
    rw [halfO_out (isT_out (t := (a4.slots.length : Int) + 5) (.inl (by omega)))] at cc
    have CC := Lib.hid cc; clear cc
    go_wp2_with fail
    refine CC.out.mono ?_
    rintro e w7 ⟨rfl, m7⟩
    clear CC
    obtain ⟨F7, o7, g7⟩ := Made.out m7
    have S7 := Lib.hid (S5.out.grow g7 o7)
    have K7 := Lib.hid (K5.out.grow g7)
    clear m7 o7 g7
    have HS := Lib.hid (says_any _ _ _ _ _ t ad1 c1 q (Nat.le_refl _) (by omega) S7.out.arena K7.out tr4)
    go_wp2_with fail
    refine (HS.out).mono ?_
    rintro e w8 ⟨rfl, b8⟩
    have S8 := Lib.hid (S7.out.later b8)
    have K8 := Lib.hid (K7.out.later b8)
    clear b8
    clear HS
    have hr2 : 0 < wrap64 ((IntKind.u64.wrap less).tmod ((hn : Int) + 1)) := by rw [HR.out]; exact hr0
    go_wp2_with (go_at_call 21; refine (awake7_any W _ S8.out.below).mono ?_; rintro e wz ⟨rfl, bz⟩)
    go_ret
    exact ⟨rfl, bz⟩

end Go.Proofs.Ytakgknoldkfekaa
