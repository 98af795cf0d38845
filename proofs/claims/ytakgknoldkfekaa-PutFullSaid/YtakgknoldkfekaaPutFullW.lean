/- The walk of the law PutFull. -/
import Derived.Test.YtakgknoldkfekaaAwake5
import Derived.Test.YtakgknoldkfekaaRefW
import Derived.Test.YtakgknoldkfekaaSaysW
import Derived.Test.YtakgknoldkfekaaNilPutW
namespace Go.Proofs.Ytakgknoldkfekaa
set_option maxRecDepth 100000
open Go.RowKit Go.Proofs.YtakgknoldkfekaaW.PrintWords Go.Proofs.YtakgknoldkfekaaW.PrintLast
set_option linter.unusedSimpArgs false
set_option linter.unusedVariables false

set_option maxRecDepth 100000 in
set_option maxHeartbeats 4000000 in
theorem putFull_walk (W : World) {ad : Option Addr} {c : Nat} {l : List Pr} (hl : PIn W ad c l) (hokl : okP l) (pk pv : Int) (hpk : -9223372036854775808 ≤ pk ∧ pk ≤ 9223372036854775807) (hpv : -9223372036854775808 ≤ pv ∧ pv ≤ 9223372036854775807) (less : Int) (hless : -9223372036854775808 ≤ less ∧ less ≤ 9223372036854775807) :
    Calls Try.prog 11 #[.slice ad l.length c, .agg #[.int .i64 pk, .int .i64 pv], .int .i64 less] W fun e w' => e = .returned (.bool true) ∧ Below W.heap.size W w' := by
  have hb0 : Below W.heap.size W (W.alloc (.cells #[.int .i64 pk, .int .i64 pv] 37)) := (Below.refl _ _).alloc (Nat.le_refl _) _
  have hp := pairs_any (W.alloc (.cells #[.int .i64 pk, .int .i64 pv] 37)) (hl.later hb0) 40 (by decide) (by decide)
  have hpl := (pairsB_len l 40 (by decide) l.length).1
  have hs := pairs_sorted l 40
  have hok := pairs_ok 40 hokl
  rw [show pairsB l 40 l.length = pairs l 40 from rfl] at hpl
  generalize pairs l 40 = q at hp hpl hs hok
  have HP := Lib.hid hp; clear hp hl
  have HQ := Lib.hid hs; clear hs
  have HOK := Lib.hid hok; clear hok hokl
  have HB0 := Lib.hid hb0; clear hb0
  have E0 := Lib.hid (heap_alloc_new W (.cells #[.int .i64 pk, .int .i64 pv] 37))
  have hgq := hgt_le q
  have hw := withP_ins q (pk, pv) HQ.out
  have HW := Lib.hid hw; clear hw
  obtain ⟨r, hr, hrlt⟩ := rem_len less (2 * hgt q + 3) (by omega) (by omega)
  obtain ⟨hn, hhn⟩ : ∃ hn, hgt q = hn := ⟨_, rfl⟩
  rw [hhn] at hr hrlt hgq
  rw [show ((2 * hn + 3 : Nat) : Int) = 2 * (hn : Int) + 2 + 1 by omega] at hr
  have hn40 : hn ≤ 40 := by omega
  have HR := Lib.hid hr
  rw [show 2 * (hn : Int) + 2 + 1 = 2 * (hn : Int) + 3 by omega] at hr
  have HR3 := Lib.hid hr; clear hr
  have HN := Lib.hid hhn; clear hhn
  go_enter Try.func11, Try.ntmps11
  go_wp2_with fail
  refine HP.out.mono ?_
  rintro e w1 ⟨ad1, c1, rfl, p1, n1, b1⟩
  have P1 := Lib.hid p1; clear p1 n1
  have E1 := Lib.hid ((b1.block W.heap.size (by simp)).trans E0.out)
  have B1 := Lib.hid (HB0.out.trans (b1.mono (by simp))); clear b1
  go_wp2_with fail
  refine (high_any _ w1 ad1 c1 q (Nat.le_refl _) (by omega) P1.out).mono ?_
  rw [HN.out]
  rintro e w1b ⟨rfl, bb⟩
  have P1b := Lib.hid (P1.out.later bb)
  have E1b := Lib.hid ((bb.block W.heap.size (Array.getElem?_eq_some_iff.1 E1.out).1).trans E1.out)
  have B1b := Lib.hid (B1.out.trans (bb.mono B1.out.size)); clear bb
  have hr := HR.out
  have hr3 := HR3.out
  go_wp2_with fail
  refine (new_any ((q.length : Int) + (2 * (hn : Int) + 2) - r) w1b).mono ?_
  rintro e w2 ⟨rfl, o2, b2⟩
  have S2 := Lib.hid (St.begin B1b.out o2 b2)
  have K2 := Lib.hid (PK.begin P1b.out b2)
  have Q2 := Lib.hid (Kp.mk ((b2.block W.heap.size (Array.getElem?_eq_some_iff.1 E1b.out).1).trans E1b.out) (fun hf => by have := (Array.getElem?_eq_some_iff.1 E1b.out).1; have hf2 : W.heap.size = w1b.heap.size := hf; omega) : Kp w2 (fun b => b = w1b.heap.size) W.heap.size (.cells #[.int .i64 pk, .int .i64 pv] 37 (0, 0)))
  clear o2 b2
  clear hr hr3
  have la := laid_any q.length w2 w1b.heap.size _ _ ad1 c1 q (Nat.le_refl _) (by omega) S2.out.arena K2.out (by rw [newA_room (by omega) (by omega), newA_slots]; simp; omega)
  have LA := Lib.hid la; clear la
  go_wp2_with fail
  refine LA.out.mono ?_
  rintro e w3 ⟨t, a3, rfl, ⟨F3, o3, g3⟩, x3, l3, t3, al3⟩
  have H3 := Lib.hid (Has.mk (S2.out.grow g3 o3) t3 (x3.1.trans (newA_room (by omega) (by omega))) (by rw [l3, newA_slots]; simp) x3.2.1 : Has W w3 w1b.heap.size a3 F3 t q (((q.length : Int) + (2 * (hn : Int) + 2) - r)))
  have K3 := Lib.hid (K2.out.grow g3)
  have Q3 := Lib.hid (Q2.out.grow g3)
  clear o3 g3 x3 l3 t3 al3
  have hlen64 : q.length ≤ 1000 := by omega
  have tr3 := H3.out.tr
  have rm3 := H3.out.room
  have us3 := H3.out.used
  obtain ⟨a4, x4, f4, l4, hh⟩ := putO_tr tr3 HQ.out (by omega) H3.out.st.fits pk pv
  have tr4 := tr3.ext x4
  have r4 := x4.1
  have hu4 : (a4.slots.length : Int) ≤ 1000 := by unfold fits at f4; omega
  rcases hh with ⟨u, e4, tu⟩ | ⟨e4, fl4⟩
  · clear f4 l4 x4 r4 rm3 us3
    generalize (gotP q pk).1 = gv at e4
    generalize (gotP q pk).2 = gw at e4
    have S3 := Lib.hid H3.out.st
    have q3c0_3 := cell_blk (i := 0) Q3.out.at_ rfl
    have q3c1_3 := cell_blk (i := 1) Q3.out.at_ rfl
    have cc := putO_any S3.out.arena t pk pv
    rw [e4] at cc
    have CC := Lib.hid cc; clear cc
    go_wp2_with fail
    refine CC.out.mono ?_
    rintro e w4 ⟨rfl, m4⟩
    clear CC
    clear q3c0_3 q3c1_3
    obtain ⟨F4, o4, g4⟩ := Made.out m4
    have S4 := Lib.hid (S3.out.grow g4 o4)
    have K4 := Lib.hid (K3.out.grow g4)
    have Q4 := Lib.hid (Q3.out.grow g4)
    clear m4 o4 g4
    have q4c0_4 := cell_blk (i := 0) Q4.out.at_ rfl
    have q4c1_4 := cell_blk (i := 1) Q4.out.at_ rfl
    have cw := with_any _ K4.out.pin (by omega) (pk, pv)
    rw [HW.out] at cw
    have CW := Lib.hid cw; clear cw
    go_wp2_with fail
    refine CW.out.mono ?_
    rintro e w5 ⟨adV, cV, rfl, pp, np, b5⟩
    clear CW
    clear q4c0_4 q4c1_4
    have S5 := Lib.hid (S4.out.later b5)
    have K5 := Lib.hid (K4.out.later b5)
    have Q5 := Lib.hid (Q4.out.below b5)
    have V5 := Lib.hid (PK.mk pp (fun _ x hx hf => by have := np x hx; have := S4.out.arena.lt _ hf; omega))
    clear b5 pp np
    have HS := Lib.hid (says_any _ _ _ _ _ u _ _ (ins q (pk, pv)) (Nat.le_refl _) (by have := ins_len q (pk, pv); omega) S5.out.arena V5.out tu)
    go_wp2_with fail
    refine (HS.out).mono ?_
    rintro e w6 ⟨rfl, b6⟩
    have S6 := Lib.hid (S5.out.later b6)
    have K6 := Lib.hid (K5.out.later b6)
    have V6 := Lib.hid (V5.out.later b6)
    have Q6 := Lib.hid (Q5.out.below b6)
    clear b6
    clear HS
    have HS := Lib.hid (says_any _ _ _ _ _ t _ _ q (Nat.le_refl _) (by omega) S6.out.arena K6.out tr4)
    go_wp2_with fail
    refine (HS.out).mono ?_
    rintro e w7 ⟨rfl, b7⟩
    have S7 := Lib.hid (S6.out.later b7)
    have K7 := Lib.hid (K6.out.later b7)
    have V7 := Lib.hid (V6.out.later b7)
    have Q7 := Lib.hid (Q6.out.below b7)
    clear b7
    clear HS
    go_wp2_with (go_at_call 33; refine (awake5_any W _ S7.out.below).mono ?_; rintro e wz ⟨rfl, bz⟩)
    go_ret
    exact ⟨rfl, bz⟩
  · have h1 := fl4.1
    have h2 := fl4.2
    have hr0 : (0 : Int) < (r : Int) := by rw [HN.out] at h2; omega
    have hr1 : 0 < r := by omega
    clear f4 l4 x4 r4 rm3 us3 fl4 h1 h2
    have S3 := Lib.hid H3.out.st
    have q3c0_3 := cell_blk (i := 0) Q3.out.at_ rfl
    have q3c1_3 := cell_blk (i := 1) Q3.out.at_ rfl
    have cc := putO_any S3.out.arena t pk pv
    rw [e4] at cc
    have CC := Lib.hid cc; clear cc
    go_wp2_with fail
    refine CC.out.mono ?_
    rintro e w4 ⟨rfl, m4⟩
    clear CC
    clear q3c0_3 q3c1_3
    obtain ⟨F4, o4, g4⟩ := Made.out m4
    have S4 := Lib.hid (S3.out.grow g4 o4)
    have K4 := Lib.hid (K3.out.grow g4)
    have Q4 := Lib.hid (Q3.out.grow g4)
    clear m4 o4 g4
    have q4c0_4 := cell_blk (i := 0) Q4.out.at_ rfl
    have q4c1_4 := cell_blk (i := 1) Q4.out.at_ rfl
    go_wp2_with fail
    refine (putNil_any _ t pk pv).mono ?_
    rintro e w5 ⟨rfl, b5⟩
    clear q4c0_4 q4c1_4
    have S5 := Lib.hid (S4.out.later b5)
    have K5 := Lib.hid (K4.out.later b5)
    have Q5 := Lib.hid (Q4.out.below b5)
    clear b5
    have PB := Lib.hid Q5.out.at_
    have hlt4 : W.heap.size < w5.heap.size := (Array.getElem?_eq_some_iff.1 PB.out).1
    have cu := fun w' (hb : Below w5.heap.size w5 w') => used_any (S5.out.later hb).arena
    rw [show usedO (some a4) = (a4.slots.length : Int) from rfl] at cu
    have CU := Lib.hid cu; clear cu
    have ca := fun w' (hb : Below w5.heap.size w5 w') => addO_any (S5.out.later hb).arena ((a4.slots.length : Int) + 1) pk pv
    rw [addO_out pk pv (isT_out (t := (a4.slots.length : Int) + 1) (.inl (by omega)))] at ca
    have CA := Lib.hid ca; clear ca
    have BD := Lib.hid (Below.refl w5.heap.size w5).drew
    have wu : IntKind.i64.wrap ((a4.slots.length : Int) + 1) = (a4.slots.length : Int) + 1 := IntWalk.i64_in _ (by omega)
    go_wp2_with fail
    refine start_ (n := 15) (S := fun w' => w'.cell? ⟨W.heap.size, 0, none⟩ = some (.int .i64 pk) ∧ w'.cell? ⟨W.heap.size, 1, none⟩ = some (.int .i64 pv)) (ds := [5]) #[false, false, false, false, false, false, false, false, false, false, false, false, false, false, false] (by kernel_rfl) rfl rfl ⟨(cell_blk (i := 0) (w := (w5).drew) PB.out rfl), (cell_blk (i := 1) (w := (w5).drew) PB.out rfl)⟩ (fun hHeld => ?_)
    refine pure_ (i := 0) (N := some 72) (v := ?_) (a' := ?_) #[true, false, false, false, false, false, false, false, false, false, false, false, false, false, false] rfl rfl (by kernel_rfl) (fun _ _ _ h => h) (Or.inl ⟨by rfl, ?_⟩) ?_ ?_
    rotate_left
    · intro w'
      go_simp
      with_reducible rfl
    rotate_left
    · simp only [Act.put, List.setIfInBounds_toArray, List.set_cons_zero, List.set_cons_succ, i64_w, i32_w]
      rfl
    refine pure_ (i := 1) (N := some 73) (v := ?_) (a' := ?_) #[true, true, false, false, false, false, false, false, false, false, false, false, false, false, false] rfl rfl (by kernel_rfl) (fun _ _ _ h => h) (Or.inl ⟨by rfl, ?_⟩) ?_ ?_
    rotate_left
    · intro w'
      go_simp
      with_reducible rfl
    rotate_left
    · simp only [Act.put, List.setIfInBounds_toArray, List.set_cons_zero, List.set_cons_succ, i64_w, i32_w]
      rfl
    refine take_ (i := 4) (N := some 76) (v := ?_) (a' := ?_) #[true, true, false, false, true, false, false, false, false, false, false, false, false, false, false] rfl rfl (by kernel_rfl) (fun _ _ _ h => h) (Or.inl ⟨by rfl, ?_⟩) hHeld ?_ ?_
    rotate_left
    · rintro w' ⟨s0, s1⟩
      go_simp
      with_reducible rfl
    rotate_left
    · simp only [Act.put, List.setIfInBounds_toArray, List.set_cons_zero, List.set_cons_succ, i64_w, i32_w]
      rfl
    refine one_ (i := 2) (N := some 74) #[true, true, true, false, true, false, false, false, false, false, false, false, false, false, false] rfl rfl (by kernel_rfl) (by decide) (fun K hK => ?_)
    refine goes_ Try.func22 (by kernel_rfl) rfl #[.pointer (some ⟨w1b.heap.size, 0, none⟩)] (by rfl) rfl rfl (by simp only [List.map_toArray, List.map_cons, List.map_nil]; rfl) ?_
    with_reducible refine (CU.out _ BD.out).mono ?_
    rintro e w' ⟨rfl, rfl⟩
    refine ⟨_, rfl, ?_⟩
    refine hK.out _ _ ⟨hHeld.1, hHeld.2⟩ (fun hHeld => ?_)
    clear hK K
    refine norm_ (a' := ?_) ?_ ?_
    rotate_left
    · show Act.put _ (some 74) _ = _
      simp only [Act.put, List.setIfInBounds_toArray, List.set_cons_zero, List.set_cons_succ, i64_w, i32_w]
      rfl
    refine pure_ (i := 3) (N := some 75) (v := ?_) (a' := ?_) #[true, true, true, true, true, false, false, false, false, false, false, false, false, false, false] rfl rfl (by kernel_rfl) (fun _ _ _ h => h) (Or.inl ⟨by rfl, ?_⟩) ?_ ?_
    rotate_left
    · intro w'
      go_simp
      with_reducible rfl
    rotate_left
    · simp only [Act.put, List.setIfInBounds_toArray, List.set_cons_zero, List.set_cons_succ, i64_w, i32_w]
      rfl
    refine last_ (i := 5) (N := some 77) #[true, true, true, true, true, true, false, false, false, false, false, false, false, false, false] rfl rfl (by kernel_rfl) (by decide) (fun K hK => ?_)
    refine goes_ Try.func39 (by kernel_rfl) rfl #[.pointer (some ⟨w1b.heap.size, 0, none⟩), .int .i64 ((a4.slots.length : Int) + 1), .agg #[.int .i64 pk, .int .i64 pv]] (by rfl) rfl rfl (by simp only [List.map_toArray, List.map_cons, List.map_nil]; rfl) ?_
    with_reducible refine (CA.out _ BD.out).mono ?_
    rintro e w20 ⟨rfl, m20⟩
    refine ⟨_, rfl, ?_⟩
    obtain ⟨F20, o20, g20⟩ := Made.out m20
    have S20 := Lib.hid ((S5.out.later BD.out).grow g20 o20)
    have K20 := Lib.hid ((K5.out.later BD.out).grow g20)
    clear m20 o20 g20
    refine hK.out _ _ ?_
    clear hK K
    refine norm_ (a' := ?_) ?_ ?_
    rotate_left
    · show Act.put _ (some 77) _ = _
      simp only [Act.put, List.setIfInBounds_toArray, List.set_cons_zero, List.set_cons_succ, i64_w, i32_w]
      rfl
    refine pure_ (i := 6) (N := some 71) (v := ?_) (a' := ?_) #[true, true, true, true, true, true, true, false, false, false, false, false, false, false, false] rfl rfl (by kernel_rfl) (fun _ _ _ h => h) (Or.inl ⟨by rfl, ?_⟩) ?_ ?_
    rotate_left
    · intro w'
      go_simp
      with_reducible rfl
    rotate_left
    · simp only [Act.put, List.setIfInBounds_toArray, List.set_cons_zero, List.set_cons_succ, i64_w, i32_w]
      rfl
    refine pure_ (i := 7) (N := some 78) (v := ?_) (a' := ?_) #[true, true, true, true, true, true, true, true, false, false, false, false, false, false, false] rfl rfl (by kernel_rfl) (fun _ _ _ h => h) (Or.inl ⟨by rfl, ?_⟩) ?_ ?_
    rotate_left
    · intro w'
      go_simp
      with_reducible rfl
    rotate_left
    · simp only [Act.put, List.setIfInBounds_toArray, List.set_cons_zero, List.set_cons_succ, i64_w, i32_w]
      rfl
    refine pure_ (i := 8) (N := some 79) (v := ?_) (a' := ?_) #[true, true, true, true, true, true, true, true, true, false, false, false, false, false, false] rfl rfl (by kernel_rfl) (fun _ _ _ h => h) (Or.inl ⟨by rfl, ?_⟩) ?_ ?_
    rotate_left
    · intro w'
      go_simp
      with_reducible rfl
    rotate_left
    · simp only [Act.put, List.setIfInBounds_toArray, List.set_cons_zero, List.set_cons_succ, i64_w, i32_w]
      rfl
    refine pure_ (i := 9) (N := some 80) (v := ?_) (a' := ?_) #[true, true, true, true, true, true, true, true, true, true, false, false, false, false, false] rfl rfl (by kernel_rfl) (fun _ _ _ h => h) (Or.inl ⟨by rfl, ?_⟩) ?_ ?_
    rotate_left
    · intro w'
      go_simp
      with_reducible rfl
    rotate_left
    · simp only [Act.put, List.setIfInBounds_toArray, List.set_cons_zero, List.set_cons_succ, i64_w, i32_w]
      rfl
    refine pure_ (i := 10) (N := some 81) (v := ?_) (a' := ?_) #[true, true, true, true, true, true, true, true, true, true, true, false, false, false, false] rfl rfl (by kernel_rfl) (fun _ _ _ h => h) (Or.inl ⟨by rfl, ?_⟩) ?_ ?_
    rotate_left
    · intro w'
      go_simp
      with_reducible rfl
    rotate_left
    · simp only [Act.put, List.setIfInBounds_toArray, List.set_cons_zero, List.set_cons_succ, i64_w, i32_w]
      rfl
    refine pure_ (i := 11) (N := some 20) (v := ?_) (a' := ?_) #[true, true, true, true, true, true, true, true, true, true, true, true, false, false, false] rfl rfl (by kernel_rfl) (fun _ _ _ h => h) (Or.inl ⟨by rfl, ?_⟩) ?_ ?_
    rotate_left
    · intro w'
      go_simp
      with_reducible rfl
    rotate_left
    · simp only [Act.put, List.setIfInBounds_toArray, List.set_cons_zero, List.set_cons_succ, i64_w, i32_w]
      rfl
    refine pure_ (i := 12) (N := some 21) (v := ?_) (a' := ?_) #[true, true, true, true, true, true, true, true, true, true, true, true, true, false, false] rfl rfl (by kernel_rfl) (fun _ _ _ h => h) (Or.inl ⟨by rfl, ?_⟩) ?_ ?_
    rotate_left
    · intro w'
      go_simp
      with_reducible rfl
    rotate_left
    · simp only [Act.put, List.setIfInBounds_toArray, List.set_cons_zero, List.set_cons_succ, i64_w, i32_w]
      rfl
    refine pure_ (i := 13) (N := some 22) (v := ?_) (a' := ?_) #[true, true, true, true, true, true, true, true, true, true, true, true, true, true, false] rfl rfl (by kernel_rfl) (fun _ _ _ h => h) (Or.inl ⟨by rfl, ?_⟩) ?_ ?_
    rotate_left
    · intro w'
      go_simp
      with_reducible rfl
    rotate_left
    · simp only [Act.put, List.setIfInBounds_toArray, List.set_cons_zero, List.set_cons_succ, i64_w, i32_w]
      rfl
    refine pure_ (i := 14) (N := some 23) (v := ?_) (a' := ?_) #[true, true, true, true, true, true, true, true, true, true, true, true, true, true, true] rfl rfl (by kernel_rfl) (fun _ _ _ h => h) (Or.inl ⟨by rfl, ?_⟩) ?_ ?_
    rotate_left
    · intro w'
      go_simp
      with_reducible rfl
    rotate_left
    · simp only [Act.put, List.setIfInBounds_toArray, List.set_cons_zero, List.set_cons_succ, i64_w, i32_w]
      rfl
    refine done_ (by kernel_rfl) ?_
    clear CU CA wu
    have hr2 : 0 < wrap64 ((IntKind.u64.wrap less).tmod (2 * (hn : Int) + 2 + 1)) := by rw [HR.out]; exact hr0
    have hr3 : 0 < wrap64 ((IntKind.u64.wrap less).tmod (2 * (hn : Int) + 3)) := by rw [HR3.out]; exact hr0
    have HS := Lib.hid (says_any _ _ _ _ _ t _ _ q (Nat.le_refl _) (by omega) S20.out.arena K20.out tr4)
    go_wp2_with fail
    refine (HS.out).mono ?_
    rintro e w21 ⟨rfl, b21⟩
    have S21 := Lib.hid (S20.out.later b21)
    have K21 := Lib.hid (K20.out.later b21)
    clear b21
    clear HS
    go_wp2_with (go_at_call 33; refine (awake5_any W _ S21.out.below).mono ?_; rintro e wz ⟨rfl, bz⟩)
    go_ret
    exact ⟨rfl, bz⟩

end Go.Proofs.Ytakgknoldkfekaa
