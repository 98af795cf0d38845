/- The walk of the law JoinFull. -/
import Derived.Test.YtkcfkanfdbejiaaAwake8
import Derived.Test.YtkcfkanfdbejiaaRefW
namespace Go.Proofs.Ytkcfkanfdbejiaa
set_option maxRecDepth 100000
open Go.RowKit Go.Proofs.YtkcfkanfdbejiaaW.PrintWords Go.Proofs.YtkcfkanfdbejiaaW.PrintLast
set_option linter.unusedSimpArgs false
set_option linter.unusedVariables false

set_option maxRecDepth 100000 in
set_option maxHeartbeats 4000000 in
theorem joinFull_walk (W : World) {ad : Option Addr} {c : Nat} {l : List Pr} (hl : PIn W ad c l) (hokl : okP l) (at_ : Int) (hat_ : -9223372036854775808 ≤ at_ ∧ at_ ≤ 9223372036854775807) (less_ : Int) (hless_ : -9223372036854775808 ≤ less_ ∧ less_ ≤ 9223372036854775807) :
    Calls Try.prog 6 #[.slice ad l.length c, .int .i64 at_, .int .i64 less_] W fun e w' => e = .returned (.bool true) ∧ Below W.heap.size W w' := by
  have hp := pairs_any W hl 40 (by decide) (by decide)
  have hpl := (pairsB_len l 40 (by decide) l.length).1
  have hs := pairs_sorted l 40
  have hok := pairs_ok 40 hokl
  rw [show pairsB l 40 l.length = pairs l 40 from rfl] at hpl
  generalize pairs l 40 = q at hp hpl hs hok
  have HP := Lib.hid hp; clear hp hl
  have HQ := Lib.hid hs; clear hs
  have HOK := Lib.hid hok; clear hok hokl
  obtain ⟨k, hk, hklt⟩ := rem_len at_ (q.length + 1) (by omega) (by omega)
  rw [show ((q.length + 1 : Nat) : Int) = (q.length : Int) + 1 by omega] at hk
  have HK := Lib.hid hk; clear hk
  have hq60 : q.length ≤ 40 := by omega
  have hkq : k ≤ q.length := by omega
  have htk : (q.take k).length = k := by rw [List.length_take]; omega
  have hdl : (q.drop k).length = q.length - k := List.length_drop
  have htd : q.take k ++ q.drop k = q := List.take_append_drop k q
  obtain ⟨h1, hh1⟩ : ∃ h1, hgt (q.take k) = h1 := ⟨_, rfl⟩
  obtain ⟨h2, hh2⟩ : ∃ h2, hgt (q.drop k) = h2 := ⟨_, rfl⟩
  have hg1 := hgt_le (q.take k)
  have hg2 := hgt_le (q.drop k)
  rw [hh1, htk] at hg1
  rw [hh2, hdl] at hg2
  obtain ⟨r, hr, hrlt⟩ := rem_len less_ (h1 + h2 + 1) (by omega) (by omega)
  rw [show ((h1 + h2 + 1 : Nat) : Int) = (h1 : Int) + (h2 : Int) + 1 by omega] at hr
  have HR := Lib.hid hr; clear hr
  have HTK := Lib.hid htk
  have HDL := Lib.hid hdl
  have HTD := Lib.hid htd
  have HH1 := Lib.hid hh1
  have HH2 := Lib.hid hh2
  clear htk hdl htd hh1 hh2
  go_enter Try.func6, Try.ntmps6
  go_wp2_with fail
  refine HP.out.mono ?_
  rintro e w1 ⟨ad1, c1, rfl, p1, n1, b1⟩
  have P1 := Lib.hid p1; clear p1 n1
  have B1 := Lib.hid b1; clear b1
  obtain ⟨A2, c2, n2, hn2, hcut2, hP2⟩ := subK_from (ad := ad1) (c := c1) (l := q) k hkq
  have hcut1 := cutP_to ad1 q.length c1 k hkq P1.out.room
  have HP2 := Lib.hid hP2
  have HN2 := Lib.hid hn2
  clear hP2 hn2
  have hpk : PK w1 (fun _ => False) ad1 c1 q := ⟨P1.out, fun _ _ _ h => h⟩
  have ca := fun w' (hb : Below w1.heap.size w1 w') => high_any _ w' _ _ (q.take k) (Nat.le_refl _) (by have := HTK.out; omega) ((P1.out.later hb).take k)
  rw [HTK.out, HH1.out] at ca
  have cb := fun w' (hb : Below w1.heap.size w1 w') => high_any _ w' _ _ (q.drop k) (Nat.le_refl _) (by have := HDL.out; omega) (HP2.out _ _ (hpk.later hb)).pin
  rw [← HN2.out, HH2.out] at cb
  have CA := Lib.hid ca; clear ca
  have CB := Lib.hid cb; clear cb hpk
  have BD := Lib.hid (Below.refl w1.heap.size w1).drew
  have ws : IntKind.i64.wrap ((h1 : Int) + (h2 : Int)) = (h1 : Int) + (h2 : Int) := IntWalk.i64_in _ (by omega)
  have hk := HK.out
  go_wp2_with fail
  refine start_ (n := 10) (S := fun w' => True) (ds := []) #[false, false, false, false, false, false, false, false, false, false] (by kernel_rfl) rfl rfl trivial (fun hHeld => ?_)
  refine pure_ (i := 0) (N := some 27) (v := ?_) (a' := ?_) #[true, false, false, false, false, false, false, false, false, false] rfl rfl (by kernel_rfl) (fun _ _ _ h => h) (Or.inl ⟨by rfl, ?_⟩) ?_ ?_
  rotate_left
  · intro w'
    go_simp
    with_reducible rfl
  rotate_left
  · simp only [Act.put, List.setIfInBounds_toArray, List.set_cons_zero, List.set_cons_succ, i64_w, i32_w]
    rfl
  refine pure_ (i := 1) (N := some 28) (v := ?_) (a' := ?_) #[true, true, false, false, false, false, false, false, false, false] rfl rfl (by kernel_rfl) (fun _ _ _ h => h) (Or.inl ⟨by rfl, ?_⟩) ?_ ?_
  rotate_left
  · intro w'
    go_simp
    with_reducible rfl
  rotate_left
  · simp only [Act.put, List.setIfInBounds_toArray, List.set_cons_zero, List.set_cons_succ, i64_w, i32_w]
    rfl
  refine pure_ (i := 2) (N := some 29) (v := ?_) (a' := ?_) #[true, true, true, false, false, false, false, false, false, false] rfl rfl (by kernel_rfl) (fun _ _ _ h => h) (Or.inl ⟨by rfl, ?_⟩) ?_ ?_
  rotate_left
  · intro w'
    go_simp
    with_reducible rfl
  rotate_left
  · simp only [Act.put, List.setIfInBounds_toArray, List.set_cons_zero, List.set_cons_succ, i64_w, i32_w]
    rfl
  refine pure_ (i := 4) (N := some 31) (v := ?_) (a' := ?_) #[true, true, true, false, true, false, false, false, false, false] rfl rfl (by kernel_rfl) (fun _ _ _ h => h) (Or.inl ⟨by rfl, ?_⟩) ?_ ?_
  rotate_left
  · intro w'
    go_simp
    with_reducible rfl
  rotate_left
  · simp only [Act.put, List.setIfInBounds_toArray, List.set_cons_zero, List.set_cons_succ, i64_w, i32_w]
    rfl
  refine pure_ (i := 5) (N := some 32) (v := ?_) (a' := ?_) #[true, true, true, false, true, true, false, false, false, false] rfl rfl (by kernel_rfl) (fun _ _ _ h => h) (Or.inl ⟨by rfl, ?_⟩) ?_ ?_
  rotate_left
  · intro w'
    go_simp
    with_reducible rfl
  rotate_left
  · simp only [Act.put, List.setIfInBounds_toArray, List.set_cons_zero, List.set_cons_succ, i64_w, i32_w]
    rfl
  refine pure_ (i := 6) (N := some 33) (v := ?_) (a' := ?_) #[true, true, true, false, true, true, true, false, false, false] rfl rfl (by kernel_rfl) (fun _ _ _ h => h) (Or.inl ⟨by rfl, ?_⟩) ?_ ?_
  rotate_left
  · intro w'
    go_simp
    with_reducible rfl
  rotate_left
  · simp only [Act.put, List.setIfInBounds_toArray, List.set_cons_zero, List.set_cons_succ, i64_w, i32_w]
    rfl
  refine one_ (i := 3) (N := some 30) #[true, true, true, true, true, true, true, false, false, false] rfl rfl (by kernel_rfl) (by decide) (fun K hK => ?_)
  refine goes_ Try.func26 (by kernel_rfl) rfl #[.slice ad1 k c1] (by rfl) rfl rfl (by simp only [List.map_toArray, List.map_cons, List.map_nil]; rfl) ?_
  with_reducible refine (CA.out _ BD.out).mono ?_
  rintro e w1a ⟨rfl, b1a⟩
  refine ⟨_, rfl, ?_⟩
  have B1a := Lib.hid (BD.out.trans (b1a.mono BD.out.size))
  refine hK.out _ _ trivial (fun hHeld => ?_)
  clear hK K
  refine norm_ (a' := ?_) ?_ ?_
  rotate_left
  · show Act.put _ (some 30) _ = _
    simp only [Act.put, List.setIfInBounds_toArray, List.set_cons_zero, List.set_cons_succ, i64_w, i32_w]
    rfl
  refine one_ (i := 7) (N := some 34) #[true, true, true, true, true, true, true, true, false, false] rfl rfl (by kernel_rfl) (by decide) (fun K hK => ?_)
  refine goes_ Try.func26 (by kernel_rfl) rfl #[.slice A2 n2 c2] (by rfl) rfl rfl (by simp only [List.map_toArray, List.map_cons, List.map_nil]; rfl) ?_
  with_reducible refine (CB.out _ B1a.out).mono ?_
  rintro e w1b ⟨rfl, b1b⟩
  refine ⟨_, rfl, ?_⟩
  have B1b0 := Lib.hid (B1a.out.trans (b1b.mono B1a.out.size))
  refine hK.out _ _ trivial (fun hHeld => ?_)
  clear hK K
  refine norm_ (a' := ?_) ?_ ?_
  rotate_left
  · show Act.put _ (some 34) _ = _
    simp only [Act.put, List.setIfInBounds_toArray, List.set_cons_zero, List.set_cons_succ, i64_w, i32_w]
    rfl
  refine pure_ (i := 8) (N := some 35) (v := ?_) (a' := ?_) #[true, true, true, true, true, true, true, true, true, false] rfl rfl (by kernel_rfl) (fun _ _ _ h => h) (Or.inl ⟨by rfl, ?_⟩) ?_ ?_
  rotate_left
  · intro w'
    go_simp
    with_reducible rfl
  rotate_left
  · simp only [Act.put, List.setIfInBounds_toArray, List.set_cons_zero, List.set_cons_succ, i64_w, i32_w]
    rfl
  refine pure_ (i := 9) (N := some 9) (v := ?_) (a' := ?_) #[true, true, true, true, true, true, true, true, true, true] rfl rfl (by kernel_rfl) (fun _ _ _ h => h) (Or.inl ⟨by rfl, ?_⟩) ?_ ?_
  rotate_left
  · intro w'
    go_simp
    with_reducible rfl
  rotate_left
  · simp only [Act.put, List.setIfInBounds_toArray, List.set_cons_zero, List.set_cons_succ, i64_w, i32_w]
    rfl
  refine done_ (by kernel_rfl) ?_
  clear CA CB ws
  have P1b := Lib.hid (P1.out.later B1b0.out)
  have B1b := Lib.hid (B1.out.trans (B1b0.out.mono B1.out.size))
  have hr := HR.out
  go_wp2_with fail
  refine (new_any ((q.length : Int) + ((h1 : Int) + (h2 : Int)) - r) w1b).mono ?_
  rintro e w2 ⟨rfl, o2, b2⟩
  have S2 := Lib.hid (St.begin B1b.out o2 b2)
  have K2 := Lib.hid (PK.begin P1b.out b2)
  clear o2 b2
  clear hr
  have rn : (newA ((q.length : Int) + ((h1 : Int) + (h2 : Int)) - r)).room = ((q.length : Int) + ((h1 : Int) + (h2 : Int)) - r) := newA_room (by omega) (by omega)
  have sn : (newA ((q.length : Int) + ((h1 : Int) + (h2 : Int)) - r)).slots.length = 0 := by rw [newA_slots]; rfl
  have cl := laid_any _ _ w1b.heap.size _ _ ad1 c1 (q.take k) (Nat.le_refl _) (by have := HTK.out; omega) S2.out.arena (K2.out.take k) (by have := HTK.out; omega)
  rw [HTK.out] at cl
  have CL := Lib.hid cl; clear cl
  go_wp2_with fail
  refine CL.out.mono ?_
  rintro e w3 ⟨x, a4, rfl, ⟨F3, o3, g3⟩, xa4, la4, tx, al3⟩
  clear CL
  have S3 := Lib.hid (S2.out.grow g3 o3)
  have K3 := Lib.hid (K2.out.grow g3)
  clear o3 g3 al3
  rw [HTK.out] at la4
  have cl := laid_any _ _ w1b.heap.size _ _ A2 c2 (q.drop k) (Nat.le_refl _) (by have := HDL.out; omega) S3.out.arena (HP2.out _ _ K3.out) (by have := HDL.out; have := xa4.1; omega)
  rw [← HN2.out] at cl
  have CL := Lib.hid cl; clear cl
  go_wp2_with fail
  refine CL.out.mono ?_
  rintro e w4 ⟨y, a5, rfl, ⟨F4, o4, g4⟩, xa5, la5, ty, al4⟩
  clear CL
  have S4 := Lib.hid (S3.out.grow g4 o4)
  have K4 := Lib.hid (K3.out.grow g4)
  clear o4 g4 al4
  rw [HDL.out] at la5
  have tx5 := tx.ext xa5
  have rm4 := xa4.1
  have rm5 := xa5.1
  have S5 := S4
  have K5 := K4
  have hs0 : Sorted (q.take k ++ q.drop k) := by rw [HTD.out]; exact HQ.out
  have two := twoO_tr tx5 ty hs0 (by rw [HTD.out]; omega) S5.out.fits
  rw [HTD.out, HH1.out, HH2.out] at two
  obtain ⟨a6, g1, x6, f6, l6, hh⟩ := two
  have tx6 := tx5.ext x6
  have ty6 := ty.ext x6
  have rm6 := x6.1
  obtain ⟨T, hT⟩ : ∃ T, twoO (some a5) x y = T := ⟨_, rfl⟩
  rw [hT] at g1 hh
  obtain ⟨u, ue, UA⟩ := T
  simp only [] at g1 hh
  subst g1
  rcases hh with ⟨rfl, tu⟩ | ⟨rfl, rfl, f1, f2⟩
  · have e6 := hT
    clear hT f6 l6 x6 rm6 rm5 rm4 rn sn la4 la5 xa4 xa5
    have cc := twoO_any S5.out.arena x y
    rw [e6] at cc
    have CC := Lib.hid cc; clear cc
    go_wp2_with fail
    refine CC.out.mono ?_
    rintro e w6 ⟨rfl, m6⟩
    clear CC
    obtain ⟨F6, o6, g6⟩ := Made.out m6
    have S6 := Lib.hid (S5.out.grow g6 o6)
    have K6 := Lib.hid (K5.out.grow g6)
    clear m6 o6 g6
    have c := says_any _ _ _ _ _ x _ _ (q.take k) (Nat.le_refl _) (by have := HTK.out; omega) S6.out.arena (K6.out.take k) tx6
    rw [HTK.out] at c
    have C := Lib.hid c; clear c
    go_wp2_with fail
    refine (C.out).mono ?_
    rintro e w7 ⟨rfl, b7⟩
    have S7 := Lib.hid (S6.out.later b7)
    have K7 := Lib.hid (K6.out.later b7)
    clear b7
    clear C
    have c := says_any _ _ _ _ _ y _ _ (q.drop k) (Nat.le_refl _) (by have := HDL.out; omega) S7.out.arena (HP2.out _ _ K7.out) ty6
    rw [← HN2.out] at c
    have C := Lib.hid c; clear c
    go_wp2_with fail
    refine (C.out).mono ?_
    rintro e w8 ⟨rfl, b8⟩
    have S8 := Lib.hid (S7.out.later b8)
    have K8 := Lib.hid (K7.out.later b8)
    clear b8
    clear C
    have HS := Lib.hid (says_any _ _ _ _ _ u _ _ q (Nat.le_refl _) (by omega) S8.out.arena K8.out tu)
    go_wp2_with fail
    refine (HS.out).mono ?_
    rintro e w9 ⟨rfl, b9⟩
    have S9 := Lib.hid (S8.out.later b9)
    have K9 := Lib.hid (K8.out.later b9)
    clear b9
    clear HS
    go_wp2_with (go_at_call 29; refine (awake8_any W _ S9.out.below).mono ?_; rintro e wz ⟨rfl, bz⟩)
    go_ret
    exact ⟨rfl, bz⟩
  · have e6 := hT
    have hr0 : (0 : Int) < (r : Int) := by omega
    have hr1 : 0 < r := by omega
    clear hT f6 l6 x6 rm6 rm5 rm4 rn sn la4 la5 xa4 xa5 f1 f2
    have cc := twoO_any S5.out.arena x y
    rw [e6] at cc
    have CC := Lib.hid cc; clear cc
    go_wp2_with fail
    refine CC.out.mono ?_
    rintro e w6 ⟨rfl, m6⟩
    clear CC
    obtain ⟨F6, o6, g6⟩ := Made.out m6
    have S6 := Lib.hid (S5.out.grow g6 o6)
    have K6 := Lib.hid (K5.out.grow g6)
    clear m6 o6 g6
    have c := says_any _ _ _ _ _ x _ _ (q.take k) (Nat.le_refl _) (by have := HTK.out; omega) S6.out.arena (K6.out.take k) tx6
    rw [HTK.out] at c
    have C := Lib.hid c; clear c
    go_wp2_with fail
    refine (C.out).mono ?_
    rintro e w7 ⟨rfl, b7⟩
    have S7 := Lib.hid (S6.out.later b7)
    have K7 := Lib.hid (K6.out.later b7)
    clear b7
    clear C
    have c := says_any _ _ _ _ _ y _ _ (q.drop k) (Nat.le_refl _) (by have := HDL.out; omega) S7.out.arena (HP2.out _ _ K7.out) ty6
    rw [← HN2.out] at c
    have C := Lib.hid c; clear c
    go_wp2_with fail
    refine (C.out).mono ?_
    rintro e w8 ⟨rfl, b8⟩
    have S8 := Lib.hid (S7.out.later b8)
    have K8 := Lib.hid (K7.out.later b8)
    clear b8
    clear C
    have hr2 : 0 < wrap64 ((IntKind.u64.wrap less_).tmod ((h1 : Int) + (h2 : Int) + 1)) := by rw [HR.out]; exact hr0
    go_wp2_with (go_at_call 29; refine (awake8_any W _ S8.out.below).mono ?_; rintro e wz ⟨rfl, bz⟩)
    go_ret
    exact ⟨rfl, bz⟩

end Go.Proofs.Ytkcfkanfdbejiaa
