/- The walk of the law JoinForms. -/
import Derived.Test.YtkcfkanfdbejiaaAwake8
import Derived.Test.YtkcfkanfdbejiaaRefW
import Derived.Test.YtkcfkanfdbejiaaNilW
namespace Go.Proofs.Ytkcfkanfdbejiaa
set_option maxRecDepth 100000
open Go.RowKit Go.Proofs.YtkcfkanfdbejiaaW.PrintWords Go.Proofs.YtkcfkanfdbejiaaW.PrintLast
set_option linter.unusedSimpArgs false
set_option linter.unusedVariables false

theorem first_last {l : List Pr} (hs : Sorted l) (h : 0 < l.length) : (l[0]).1 ≤ (l[l.length - 1]).1 := by
  by_cases h1 : l.length = 1
  · have : l.length - 1 = 0 := by omega
    simp [this]
  · have := hs.lt (show 0 < l.length - 1 by omega) (by omega)
    rw [keyAt_eq (by omega), keyAt_eq (by omega)] at this
    omega
theorem last_drop {l : List Pr} {m : Nat} (hm : m < l.length) : (l.drop m).getLast? = some (l[l.length - 1]'(by omega)) := by
  rw [List.getLast?_eq_getElem?, List.getElem?_drop, List.length_drop, List.getElem?_eq_getElem (by omega)]
  simp only [Option.some.injEq]
  congr 1
  omega
theorem head_take {l : List Pr} {m : Nat} (hm : 0 < m) (h : 0 < l.length) : (l.take m).head? = some l[0] := by
  cases l with
  | nil => exact absurd h (by simp)
  | cons x r =>
    obtain ⟨k, rfl⟩ : ∃ k, m = k + 1 := ⟨m - 1, by omega⟩
    rfl
theorem twoNil_any (w : World) (l r : Int) : Calls Try.prog 27 #[.pointer none, .int .i64 l, .int .i64 r] w fun e w' => e = .returned (.tuple #[.int .i64 0, .int .i64 1]) ∧ Below w.heap.size w w' :=
  (twoO_any (OAt.none_ w) l r).mono fun e w' h => by
    rw [twoO_none] at h
    exact ⟨h.1, h.2.nil⟩

set_option maxRecDepth 100000 in
set_option maxHeartbeats 4000000 in
theorem joinForms_walk (W : World) {ad : Option Addr} {c : Nat} {l : List Pr} (hl : PIn W ad c l) (hokl : okP l) (at_ : Int) (hat_ : -9223372036854775808 ≤ at_ ∧ at_ ≤ 9223372036854775807) :
    Calls Try.prog 8 #[.slice ad l.length c, .int .i64 at_] W fun e w' => e = .returned (.bool true) ∧ Below W.heap.size W w' := by
  have hp := pairs_any W hl 50 (by decide) (by decide)
  have hpl := (pairsB_len l 50 (by decide) l.length).1
  have hs := pairs_sorted l 50
  have hok := pairs_ok 50 hokl
  rw [show pairsB l 50 l.length = pairs l 50 from rfl] at hpl
  generalize pairs l 50 = q at hp hpl hs hok
  have HP := Lib.hid hp; clear hp hl
  have HQ := Lib.hid hs; clear hs
  have HOK := Lib.hid hok; clear hok hokl
  obtain ⟨r, hr, hrlt⟩ := rem_len at_ (q.length + 1) (by omega) (by omega)
  rw [show ((q.length + 1 : Nat) : Int) = (q.length : Int) + 1 by omega] at hr
  have HR := Lib.hid hr; clear hr
  go_enter Try.func8, Try.ntmps8
  go_wp2_with fail
  refine HP.out.mono ?_
  rintro e w1 ⟨ad1, c1, rfl, p1, n1, b1⟩
  have P1 := Lib.hid p1; clear p1 n1
  have B1 := Lib.hid b1; clear b1
  have hq60 : q.length ≤ 50 := by omega
  have hr := HR.out
  go_wp2_with fail
  refine (new_any 400 w1).mono ?_
  rintro e w2 ⟨rfl, o2, b2⟩
  have S2 := Lib.hid (St.begin B1.out o2 b2)
  have K2 := Lib.hid (PK.begin P1.out b2)
  clear o2 b2
  have hkq : r ≤ q.length := by omega
  have htk : (q.take r).length = r := by rw [List.length_take]; omega
  have htd : q.take r ++ q.drop r = q := List.take_append_drop r q
  obtain ⟨A2, c2, n2, hn2, hcut2, hP2⟩ := subK_from (ad := ad1) (c := c1) (l := q) r hkq
  have hdl : (q.drop r).length = q.length - r := List.length_drop
  have hcut1 := cutP_to ad1 q.length c1 r hkq K2.out.pin.room
  have HP2 := Lib.hid hP2
  have HN2 := Lib.hid hn2
  have HTK := Lib.hid htk
  have HDL := Lib.hid hdl
  have HTD := Lib.hid htd
  clear hP2 hn2 htk hdl htd
  have rn : (newA 400).room = 400 := newA_room (by omega) (by omega)
  have sn : (newA 400).slots.length = 0 := by rw [newA_slots]; rfl
  have cl := laid_any _ _ w1.heap.size _ _ ad1 c1 (q.take r) (Nat.le_refl _) (by have := HTK.out; omega) S2.out.arena (K2.out.take r) (by have := HTK.out; omega)
  rw [HTK.out] at cl
  have CL := Lib.hid cl; clear cl
  go_wp2_with fail
  refine CL.out.mono ?_
  rintro e w3 ⟨x, a4, rfl, ⟨F3, o3, g3⟩, xa4, la4, tx, al3⟩
  clear CL
  have S3 := Lib.hid (S2.out.grow g3 o3)
  have K3 := Lib.hid (K2.out.grow g3)
  clear o3 g3 al3
  rw [HTK.out] at la4
  have cl := laid_any _ _ w1.heap.size _ _ A2 c2 (q.drop r) (Nat.le_refl _) (by have := HDL.out; omega) S3.out.arena (HP2.out _ _ K3.out) (by have := HDL.out; have := xa4.1; omega)
  rw [← HN2.out] at cl
  have CL := Lib.hid cl; clear cl
  go_wp2_with fail
  refine CL.out.mono ?_
  rintro e w4 ⟨y, a5, rfl, ⟨F4, o4, g4⟩, xa5, la5, ty, al4⟩
  clear CL
  have S4 := Lib.hid (S3.out.grow g4 o4)
  have K4 := Lib.hid (K3.out.grow g4)
  clear o4 g4 al4
  rw [HDL.out] at la5
  have tx5 := tx.ext xa5
  have rm4 := xa4.1
  have rm5 := xa5.1
  have hg1 := hgt_le (q.take r)
  have hg2 := hgt_le (q.drop r)
  rw [HTK.out] at hg1
  rw [HDL.out] at hg2
  have hs0 : Sorted (q.take r ++ q.drop r) := by rw [HTD.out]; exact HQ.out
  obtain ⟨a6, u, e6, tu, x6, f6, l6⟩ := twoO_room tx5 ty hs0 (by rw [HTD.out]; omega) S4.out.fits (by omega)
  rw [HTD.out] at tu
  have tx6 := tx5.ext x6
  have ty6 := ty.ext x6
  have hu5 : (a5.slots.length : Int) = (q.length : Int) := by omega
  have hu6 : (a6.slots.length : Int) ≤ 1000 := by omega
  have hd : (a6.slots.length : Int) - (q.length : Int) ≤ (hgt (q.take r) : Int) + (hgt (q.drop r) : Int) := by omega
  have HU5 := Lib.hid hu5; clear hu5
  obtain ⟨h1, hh1⟩ : ∃ h1, hgt (q.take r) = h1 := ⟨_, rfl⟩
  obtain ⟨h2, hh2⟩ : ∃ h2, hgt (q.drop r) = h2 := ⟨_, rfl⟩
  rw [hh1] at hd hg1
  rw [hh2] at hd hg2
  have HH1 := Lib.hid hh1; clear hh1
  have HH2 := Lib.hid hh2; clear hh2
  have h1b : (h1 : Int) ≤ 50 := by omega
  have h2b : (h2 : Int) ≤ 50 := by omega
  have c := used_any S4.out.arena
  rw [show usedO (some a5) = (a5.slots.length : Int) from rfl, HU5.out] at c
  have C := Lib.hid c; clear c
  go_wp2_with fail
  refine (C.out).mono ?_
  rintro e w' ⟨rfl, rfl⟩
  clear C
  have cc := twoO_any S4.out.arena x y
  rw [e6] at cc
  have CC := Lib.hid cc; clear cc
  go_wp2_with fail
  refine CC.out.mono ?_
  rintro e w6 ⟨rfl, m6⟩
  clear CC
  obtain ⟨F6, o6, g6⟩ := Made.out m6
  have S6 := Lib.hid (S4.out.grow g6 o6)
  have K6 := Lib.hid (K4.out.grow g6)
  clear m6 o6 g6
  have cs1 := fun w' (hb : Below w6.heap.size w6 w') => says_any _ _ _ _ _ u _ _ q (Nat.le_refl _) (by omega) (S6.out.later hb).arena (K6.out.later hb) tu
  have cs2 := fun w' (hb : Below w6.heap.size w6 w') => says_any _ _ _ _ _ x _ _ (q.take r) (Nat.le_refl _) (by have := HTK.out; omega) (S6.out.later hb).arena ((K6.out.later hb).take r) tx6
  rw [HTK.out] at cs2
  have cs3 := fun w' (hb : Below w6.heap.size w6 w') => says_any _ _ _ _ _ y _ _ (q.drop r) (Nat.le_refl _) (by have := HDL.out; omega) (S6.out.later hb).arena (HP2.out _ _ (K6.out.later hb)) ty6
  rw [← HN2.out] at cs3
  have cs4 := fun w' (hb : Below w6.heap.size w6 w') => used_any (S6.out.later hb).arena
  rw [show usedO (some a6) = (a6.slots.length : Int) from rfl] at cs4
  have cs5 := fun w' (hb : Below w6.heap.size w6 w') => high_any _ w' _ _ (q.take r) (Nat.le_refl _) (by have := HTK.out; omega) ((K6.out.later hb).take r).pin
  rw [HTK.out, HH1.out] at cs5
  have cs6 := fun w' (hb : Below w6.heap.size w6 w') => high_any _ w' _ _ (q.drop r) (Nat.le_refl _) (by have := HDL.out; omega) (HP2.out _ _ (K6.out.later hb)).pin
  rw [← HN2.out, HH2.out] at cs6
  have CS1 := Lib.hid cs1; clear cs1
  have CS2 := Lib.hid cs2; clear cs2
  have CS3 := Lib.hid cs3; clear cs3
  have CS4 := Lib.hid cs4; clear cs4
  have CS5 := Lib.hid cs5; clear cs5
  have CS6 := Lib.hid cs6; clear cs6
  have BD := Lib.hid (Below.refl w6.heap.size w6).drew
  have gd : decide ((h1 : Int) + (h2 : Int) < (a6.slots.length : Int) - (q.length : Int)) = false := decide_eq_false (by omega)
  have gd2 : ¬ ((h1 : Int) + (h2 : Int) < (a6.slots.length : Int) - (q.length : Int)) := by omega
  have ws1 : IntKind.i64.wrap ((a6.slots.length : Int) - (q.length : Int)) = (a6.slots.length : Int) - (q.length : Int) := IntWalk.i64_in _ (by omega)
  have ws2 : IntKind.i64.wrap ((h1 : Int) + (h2 : Int)) = (h1 : Int) + (h2 : Int) := IntWalk.i64_in _ (by omega)
  go_wp2_with fail
  refine start_ (n := 43) (S := fun w' => True) (ds := []) #[false, false, false, false, false, false, false, false, false, false, false, false, false, false, false, false, false, false, false, false, false, false, false, false, false, false, false, false, false, false, false, false, false, false, false, false, false, false, false, false, false, false, false] (by kernel_rfl) rfl rfl trivial (fun hHeld => ?_)
  refine pure_ (i := 0) (N := some 63) (v := ?_) (a' := ?_) #[true, false, false, false, false, false, false, false, false, false, false, false, false, false, false, false, false, false, false, false, false, false, false, false, false, false, false, false, false, false, false, false, false, false, false, false, false, false, false, false, false, false, false] rfl rfl (by kernel_rfl) (fun _ _ _ h => h) (Or.inl ⟨by rfl, ?_⟩) ?_ ?_
  rotate_left
  · intro w'
    go_simp
    with_reducible rfl
  rotate_left
  · simp only [Act.put, List.setIfInBounds_toArray, List.set_cons_zero, List.set_cons_succ, i64_w, i32_w]
    rfl
  refine pure_ (i := 1) (N := some 64) (v := ?_) (a' := ?_) #[true, true, false, false, false, false, false, false, false, false, false, false, false, false, false, false, false, false, false, false, false, false, false, false, false, false, false, false, false, false, false, false, false, false, false, false, false, false, false, false, false, false, false] rfl rfl (by kernel_rfl) (fun _ _ _ h => h) (Or.inl ⟨by rfl, ?_⟩) ?_ ?_
  rotate_left
  · intro w'
    go_simp
    with_reducible rfl
  rotate_left
  · simp only [Act.put, List.setIfInBounds_toArray, List.set_cons_zero, List.set_cons_succ, i64_w, i32_w]
    rfl
  refine pure_ (i := 2) (N := some 65) (v := ?_) (a' := ?_) #[true, true, true, false, false, false, false, false, false, false, false, false, false, false, false, false, false, false, false, false, false, false, false, false, false, false, false, false, false, false, false, false, false, false, false, false, false, false, false, false, false, false, false] rfl rfl (by kernel_rfl) (fun _ _ _ h => h) (Or.inl ⟨by rfl, ?_⟩) ?_ ?_
  rotate_left
  · intro w'
    go_simp
    with_reducible rfl
  rotate_left
  · simp only [Act.put, List.setIfInBounds_toArray, List.set_cons_zero, List.set_cons_succ, i64_w, i32_w]
    rfl
  refine pure_ (i := 3) (N := some 66) (v := ?_) (a' := ?_) #[true, true, true, true, false, false, false, false, false, false, false, false, false, false, false, false, false, false, false, false, false, false, false, false, false, false, false, false, false, false, false, false, false, false, false, false, false, false, false, false, false, false, false] rfl rfl (by kernel_rfl) (fun _ _ _ h => h) (Or.inl ⟨by rfl, ?_⟩) ?_ ?_
  rotate_left
  · intro w'
    go_simp
    with_reducible rfl
  rotate_left
  · simp only [Act.put, List.setIfInBounds_toArray, List.set_cons_zero, List.set_cons_succ, i64_w, i32_w]
    rfl
  refine pure_ (i := 4) (N := some 67) (v := ?_) (a' := ?_) #[true, true, true, true, true, false, false, false, false, false, false, false, false, false, false, false, false, false, false, false, false, false, false, false, false, false, false, false, false, false, false, false, false, false, false, false, false, false, false, false, false, false, false] rfl rfl (by kernel_rfl) (fun _ _ _ h => h) (Or.inl ⟨by rfl, ?_⟩) ?_ ?_
  rotate_left
  · intro w'
    go_simp
    with_reducible rfl
  rotate_left
  · simp only [Act.put, List.setIfInBounds_toArray, List.set_cons_zero, List.set_cons_succ, i64_w, i32_w]
    rfl
  refine pure_ (i := 5) (N := some 68) (v := ?_) (a' := ?_) #[true, true, true, true, true, true, false, false, false, false, false, false, false, false, false, false, false, false, false, false, false, false, false, false, false, false, false, false, false, false, false, false, false, false, false, false, false, false, false, false, false, false, false] rfl rfl (by kernel_rfl) (fun _ _ _ h => h) (Or.inl ⟨by rfl, ?_⟩) ?_ ?_
  rotate_left
  · intro w'
    go_simp
    with_reducible rfl
  rotate_left
  · simp only [Act.put, List.setIfInBounds_toArray, List.set_cons_zero, List.set_cons_succ, i64_w, i32_w]
    rfl
  refine one_ (i := 6) (N := some 69) #[true, true, true, true, true, true, true, false, false, false, false, false, false, false, false, false, false, false, false, false, false, false, false, false, false, false, false, false, false, false, false, false, false, false, false, false, false, false, false, false, false, false, false] rfl rfl (by kernel_rfl) (by decide) (fun K hK => ?_)
  refine goes_ Try.func28 (by kernel_rfl) rfl #[.pointer (some ⟨w1.heap.size, 0, none⟩), .int .i64 u, .slice ad1 q.length c1] (by rfl) rfl rfl (by simp only [List.map_toArray, List.map_cons, List.map_nil]; rfl) ?_
  with_reducible refine (CS1.out _ BD.out).mono ?_
  rintro e w21 ⟨rfl, b21⟩
  refine ⟨_, rfl, ?_⟩
  have B21 := Lib.hid (BD.out.trans (b21.mono BD.out.size))
  refine hK.out _ _ trivial (fun hHeld => ?_)
  clear hK K
  refine norm_ (a' := ?_) ?_ ?_
  rotate_left
  · show Act.put _ (some 69) _ = _
    simp only [Act.put, List.setIfInBounds_toArray, List.set_cons_zero, List.set_cons_succ, i64_w, i32_w]
    rfl
  refine pure_ (i := 7) (N := some 70) (v := ?_) (a' := ?_) #[true, true, true, true, true, true, true, true, false, false, false, false, false, false, false, false, false, false, false, false, false, false, false, false, false, false, false, false, false, false, false, false, false, false, false, false, false, false, false, false, false, false, false] rfl rfl (by kernel_rfl) (fun _ _ _ h => h) (Or.inl ⟨by rfl, ?_⟩) ?_ ?_
  rotate_left
  · intro w'
    go_simp
    with_reducible rfl
  rotate_left
  · simp only [Act.put, List.setIfInBounds_toArray, List.set_cons_zero, List.set_cons_succ, i64_w, i32_w]
    rfl
  refine pure_ (i := 8) (N := some 71) (v := ?_) (a' := ?_) #[true, true, true, true, true, true, true, true, true, false, false, false, false, false, false, false, false, false, false, false, false, false, false, false, false, false, false, false, false, false, false, false, false, false, false, false, false, false, false, false, false, false, false] rfl rfl (by kernel_rfl) (fun _ _ _ h => h) (Or.inl ⟨by rfl, ?_⟩) ?_ ?_
  rotate_left
  · intro w'
    go_simp
    with_reducible rfl
  rotate_left
  · simp only [Act.put, List.setIfInBounds_toArray, List.set_cons_zero, List.set_cons_succ, i64_w, i32_w]
    rfl
  refine pure_ (i := 9) (N := some 72) (v := ?_) (a' := ?_) #[true, true, true, true, true, true, true, true, true, true, false, false, false, false, false, false, false, false, false, false, false, false, false, false, false, false, false, false, false, false, false, false, false, false, false, false, false, false, false, false, false, false, false] rfl rfl (by kernel_rfl) (fun _ _ _ h => h) (Or.inl ⟨by rfl, ?_⟩) ?_ ?_
  rotate_left
  · intro w'
    go_simp
    with_reducible rfl
  rotate_left
  · simp only [Act.put, List.setIfInBounds_toArray, List.set_cons_zero, List.set_cons_succ, i64_w, i32_w]
    rfl
  refine pure_ (i := 10) (N := some 73) (v := ?_) (a' := ?_) #[true, true, true, true, true, true, true, true, true, true, true, false, false, false, false, false, false, false, false, false, false, false, false, false, false, false, false, false, false, false, false, false, false, false, false, false, false, false, false, false, false, false, false] rfl rfl (by kernel_rfl) (fun _ _ _ h => h) (Or.inl ⟨by rfl, ?_⟩) ?_ ?_
  rotate_left
  · intro w'
    go_simp
    with_reducible rfl
  rotate_left
  · simp only [Act.put, List.setIfInBounds_toArray, List.set_cons_zero, List.set_cons_succ, i64_w, i32_w]
    rfl
  refine pure_ (i := 11) (N := some 74) (v := ?_) (a' := ?_) #[true, true, true, true, true, true, true, true, true, true, true, true, false, false, false, false, false, false, false, false, false, false, false, false, false, false, false, false, false, false, false, false, false, false, false, false, false, false, false, false, false, false, false] rfl rfl (by kernel_rfl) (fun _ _ _ h => h) (Or.inl ⟨by rfl, ?_⟩) ?_ ?_
  rotate_left
  · intro w'
    go_simp
    with_reducible rfl
  rotate_left
  · simp only [Act.put, List.setIfInBounds_toArray, List.set_cons_zero, List.set_cons_succ, i64_w, i32_w]
    rfl
  refine pure_ (i := 12) (N := some 75) (v := ?_) (a' := ?_) #[true, true, true, true, true, true, true, true, true, true, true, true, true, false, false, false, false, false, false, false, false, false, false, false, false, false, false, false, false, false, false, false, false, false, false, false, false, false, false, false, false, false, false] rfl rfl (by kernel_rfl) (fun _ _ _ h => h) (Or.inl ⟨by rfl, ?_⟩) ?_ ?_
  rotate_left
  · intro w'
    go_simp
    with_reducible rfl
  rotate_left
  · simp only [Act.put, List.setIfInBounds_toArray, List.set_cons_zero, List.set_cons_succ, i64_w, i32_w]
    rfl
  refine pure_ (i := 13) (N := some 76) (v := ?_) (a' := ?_) #[true, true, true, true, true, true, true, true, true, true, true, true, true, true, false, false, false, false, false, false, false, false, false, false, false, false, false, false, false, false, false, false, false, false, false, false, false, false, false, false, false, false, false] rfl rfl (by kernel_rfl) (fun _ _ _ h => h) (Or.inl ⟨by rfl, ?_⟩) ?_ ?_
  rotate_left
  · intro w'
    go_simp
    with_reducible rfl
  rotate_left
  · simp only [Act.put, List.setIfInBounds_toArray, List.set_cons_zero, List.set_cons_succ, i64_w, i32_w]
    rfl
  refine pure_ (i := 14) (N := some 77) (v := ?_) (a' := ?_) #[true, true, true, true, true, true, true, true, true, true, true, true, true, true, true, false, false, false, false, false, false, false, false, false, false, false, false, false, false, false, false, false, false, false, false, false, false, false, false, false, false, false, false] rfl rfl (by kernel_rfl) (fun _ _ _ h => h) (Or.inl ⟨by rfl, ?_⟩) ?_ ?_
  rotate_left
  · intro w'
    go_simp
    with_reducible rfl
  rotate_left
  · simp only [Act.put, List.setIfInBounds_toArray, List.set_cons_zero, List.set_cons_succ, i64_w, i32_w]
    rfl
  refine one_ (i := 15) (N := some 78) #[true, true, true, true, true, true, true, true, true, true, true, true, true, true, true, true, false, false, false, false, false, false, false, false, false, false, false, false, false, false, false, false, false, false, false, false, false, false, false, false, false, false, false] rfl rfl (by kernel_rfl) (by decide) (fun K hK => ?_)
  refine goes_ Try.func28 (by kernel_rfl) rfl #[.pointer (some ⟨w1.heap.size, 0, none⟩), .int .i64 x, .slice ad1 r c1] (by rfl) rfl rfl (by simp only [List.map_toArray, List.map_cons, List.map_nil]; rfl) ?_
  with_reducible refine (CS2.out _ B21.out).mono ?_
  rintro e w22 ⟨rfl, b22⟩
  refine ⟨_, rfl, ?_⟩
  have B22 := Lib.hid (B21.out.trans (b22.mono B21.out.size))
  refine hK.out _ _ trivial (fun hHeld => ?_)
  clear hK K
  refine norm_ (a' := ?_) ?_ ?_
  rotate_left
  · show Act.put _ (some 78) _ = _
    simp only [Act.put, List.setIfInBounds_toArray, List.set_cons_zero, List.set_cons_succ, i64_w, i32_w]
    rfl
  refine pure_ (i := 16) (N := some 79) (v := ?_) (a' := ?_) #[true, true, true, true, true, true, true, true, true, true, true, true, true, true, true, true, true, false, false, false, false, false, false, false, false, false, false, false, false, false, false, false, false, false, false, false, false, false, false, false, false, false, false] rfl rfl (by kernel_rfl) (fun _ _ _ h => h) (Or.inl ⟨by rfl, ?_⟩) ?_ ?_
  rotate_left
  · intro w'
    go_simp
    with_reducible rfl
  rotate_left
  · simp only [Act.put, List.setIfInBounds_toArray, List.set_cons_zero, List.set_cons_succ, i64_w, i32_w]
    rfl
  refine pure_ (i := 17) (N := some 80) (v := ?_) (a' := ?_) #[true, true, true, true, true, true, true, true, true, true, true, true, true, true, true, true, true, true, false, false, false, false, false, false, false, false, false, false, false, false, false, false, false, false, false, false, false, false, false, false, false, false, false] rfl rfl (by kernel_rfl) (fun _ _ _ h => h) (Or.inl ⟨by rfl, ?_⟩) ?_ ?_
  rotate_left
  · intro w'
    go_simp
    with_reducible rfl
  rotate_left
  · simp only [Act.put, List.setIfInBounds_toArray, List.set_cons_zero, List.set_cons_succ, i64_w, i32_w]
    rfl
  refine pure_ (i := 18) (N := some 81) (v := ?_) (a' := ?_) #[true, true, true, true, true, true, true, true, true, true, true, true, true, true, true, true, true, true, true, false, false, false, false, false, false, false, false, false, false, false, false, false, false, false, false, false, false, false, false, false, false, false, false] rfl rfl (by kernel_rfl) (fun _ _ _ h => h) (Or.inl ⟨by rfl, ?_⟩) ?_ ?_
  rotate_left
  · intro w'
    go_simp
    with_reducible rfl
  rotate_left
  · simp only [Act.put, List.setIfInBounds_toArray, List.set_cons_zero, List.set_cons_succ, i64_w, i32_w]
    rfl
  refine pure_ (i := 19) (N := some 82) (v := ?_) (a' := ?_) #[true, true, true, true, true, true, true, true, true, true, true, true, true, true, true, true, true, true, true, true, false, false, false, false, false, false, false, false, false, false, false, false, false, false, false, false, false, false, false, false, false, false, false] rfl rfl (by kernel_rfl) (fun _ _ _ h => h) (Or.inl ⟨by rfl, ?_⟩) ?_ ?_
  rotate_left
  · intro w'
    go_simp
    with_reducible rfl
  rotate_left
  · simp only [Act.put, List.setIfInBounds_toArray, List.set_cons_zero, List.set_cons_succ, i64_w, i32_w]
    rfl
  refine pure_ (i := 20) (N := some 83) (v := ?_) (a' := ?_) #[true, true, true, true, true, true, true, true, true, true, true, true, true, true, true, true, true, true, true, true, true, false, false, false, false, false, false, false, false, false, false, false, false, false, false, false, false, false, false, false, false, false, false] rfl rfl (by kernel_rfl) (fun _ _ _ h => h) (Or.inl ⟨by rfl, ?_⟩) ?_ ?_
  rotate_left
  · intro w'
    go_simp
    with_reducible rfl
  rotate_left
  · simp only [Act.put, List.setIfInBounds_toArray, List.set_cons_zero, List.set_cons_succ, i64_w, i32_w]
    rfl
  refine pure_ (i := 21) (N := some 84) (v := ?_) (a' := ?_) #[true, true, true, true, true, true, true, true, true, true, true, true, true, true, true, true, true, true, true, true, true, true, false, false, false, false, false, false, false, false, false, false, false, false, false, false, false, false, false, false, false, false, false] rfl rfl (by kernel_rfl) (fun _ _ _ h => h) (Or.inl ⟨by rfl, ?_⟩) ?_ ?_
  rotate_left
  · intro w'
    go_simp
    with_reducible rfl
  rotate_left
  · simp only [Act.put, List.setIfInBounds_toArray, List.set_cons_zero, List.set_cons_succ, i64_w, i32_w]
    rfl
  refine pure_ (i := 22) (N := some 85) (v := ?_) (a' := ?_) #[true, true, true, true, true, true, true, true, true, true, true, true, true, true, true, true, true, true, true, true, true, true, true, false, false, false, false, false, false, false, false, false, false, false, false, false, false, false, false, false, false, false, false] rfl rfl (by kernel_rfl) (fun _ _ _ h => h) (Or.inl ⟨by rfl, ?_⟩) ?_ ?_
  rotate_left
  · intro w'
    go_simp
    with_reducible rfl
  rotate_left
  · simp only [Act.put, List.setIfInBounds_toArray, List.set_cons_zero, List.set_cons_succ, i64_w, i32_w]
    rfl
  refine pure_ (i := 23) (N := some 86) (v := ?_) (a' := ?_) #[true, true, true, true, true, true, true, true, true, true, true, true, true, true, true, true, true, true, true, true, true, true, true, true, false, false, false, false, false, false, false, false, false, false, false, false, false, false, false, false, false, false, false] rfl rfl (by kernel_rfl) (fun _ _ _ h => h) (Or.inl ⟨by rfl, ?_⟩) ?_ ?_
  rotate_left
  · intro w'
    go_simp
    with_reducible rfl
  rotate_left
  · simp only [Act.put, List.setIfInBounds_toArray, List.set_cons_zero, List.set_cons_succ, i64_w, i32_w]
    rfl
  refine one_ (i := 24) (N := some 87) #[true, true, true, true, true, true, true, true, true, true, true, true, true, true, true, true, true, true, true, true, true, true, true, true, true, false, false, false, false, false, false, false, false, false, false, false, false, false, false, false, false, false, false] rfl rfl (by kernel_rfl) (by decide) (fun K hK => ?_)
  refine goes_ Try.func28 (by kernel_rfl) rfl #[.pointer (some ⟨w1.heap.size, 0, none⟩), .int .i64 y, .slice A2 n2 c2] (by rfl) rfl rfl (by simp only [List.map_toArray, List.map_cons, List.map_nil]; rfl) ?_
  with_reducible refine (CS3.out _ B22.out).mono ?_
  rintro e w23 ⟨rfl, b23⟩
  refine ⟨_, rfl, ?_⟩
  have B23 := Lib.hid (B22.out.trans (b23.mono B22.out.size))
  refine hK.out _ _ trivial (fun hHeld => ?_)
  clear hK K
  refine norm_ (a' := ?_) ?_ ?_
  rotate_left
  · show Act.put _ (some 87) _ = _
    simp only [Act.put, List.setIfInBounds_toArray, List.set_cons_zero, List.set_cons_succ, i64_w, i32_w]
    rfl
  refine pure_ (i := 25) (N := some 88) (v := ?_) (a' := ?_) #[true, true, true, true, true, true, true, true, true, true, true, true, true, true, true, true, true, true, true, true, true, true, true, true, true, true, false, false, false, false, false, false, false, false, false, false, false, false, false, false, false, false, false] rfl rfl (by kernel_rfl) (fun _ _ _ h => h) (Or.inl ⟨by rfl, ?_⟩) ?_ ?_
  rotate_left
  · intro w'
    go_simp
    with_reducible rfl
  rotate_left
  · simp only [Act.put, List.setIfInBounds_toArray, List.set_cons_zero, List.set_cons_succ, i64_w, i32_w]
    rfl
  refine pure_ (i := 26) (N := some 89) (v := ?_) (a' := ?_) #[true, true, true, true, true, true, true, true, true, true, true, true, true, true, true, true, true, true, true, true, true, true, true, true, true, true, true, false, false, false, false, false, false, false, false, false, false, false, false, false, false, false, false] rfl rfl (by kernel_rfl) (fun _ _ _ h => h) (Or.inl ⟨by rfl, ?_⟩) ?_ ?_
  rotate_left
  · intro w'
    go_simp
    with_reducible rfl
  rotate_left
  · simp only [Act.put, List.setIfInBounds_toArray, List.set_cons_zero, List.set_cons_succ, i64_w, i32_w]
    rfl
  refine pure_ (i := 27) (N := some 90) (v := ?_) (a' := ?_) #[true, true, true, true, true, true, true, true, true, true, true, true, true, true, true, true, true, true, true, true, true, true, true, true, true, true, true, true, false, false, false, false, false, false, false, false, false, false, false, false, false, false, false] rfl rfl (by kernel_rfl) (fun _ _ _ h => h) (Or.inl ⟨by rfl, ?_⟩) ?_ ?_
  rotate_left
  · intro w'
    go_simp
    with_reducible rfl
  rotate_left
  · simp only [Act.put, List.setIfInBounds_toArray, List.set_cons_zero, List.set_cons_succ, i64_w, i32_w]
    rfl
  refine pure_ (i := 28) (N := some 91) (v := ?_) (a' := ?_) #[true, true, true, true, true, true, true, true, true, true, true, true, true, true, true, true, true, true, true, true, true, true, true, true, true, true, true, true, true, false, false, false, false, false, false, false, false, false, false, false, false, false, false] rfl rfl (by kernel_rfl) (fun _ _ _ h => h) (Or.inl ⟨by rfl, ?_⟩) ?_ ?_
  rotate_left
  · intro w'
    go_simp
    with_reducible rfl
  rotate_left
  · simp only [Act.put, List.setIfInBounds_toArray, List.set_cons_zero, List.set_cons_succ, i64_w, i32_w]
    rfl
  refine pure_ (i := 30) (N := some 93) (v := ?_) (a' := ?_) #[true, true, true, true, true, true, true, true, true, true, true, true, true, true, true, true, true, true, true, true, true, true, true, true, true, true, true, true, true, false, true, false, false, false, false, false, false, false, false, false, false, false, false] rfl rfl (by kernel_rfl) (fun _ _ _ h => h) (Or.inl ⟨by rfl, ?_⟩) ?_ ?_
  rotate_left
  · intro w'
    go_simp
    with_reducible rfl
  rotate_left
  · simp only [Act.put, List.setIfInBounds_toArray, List.set_cons_zero, List.set_cons_succ, i64_w, i32_w]
    rfl
  refine pure_ (i := 32) (N := some 95) (v := ?_) (a' := ?_) #[true, true, true, true, true, true, true, true, true, true, true, true, true, true, true, true, true, true, true, true, true, true, true, true, true, true, true, true, true, false, true, false, true, false, false, false, false, false, false, false, false, false, false] rfl rfl (by kernel_rfl) (fun _ _ _ h => h) (Or.inl ⟨by rfl, ?_⟩) ?_ ?_
  rotate_left
  · intro w'
    go_simp
    with_reducible rfl
  rotate_left
  · simp only [Act.put, List.setIfInBounds_toArray, List.set_cons_zero, List.set_cons_succ, i64_w, i32_w]
    rfl
  refine pure_ (i := 33) (N := some 96) (v := ?_) (a' := ?_) #[true, true, true, true, true, true, true, true, true, true, true, true, true, true, true, true, true, true, true, true, true, true, true, true, true, true, true, true, true, false, true, false, true, true, false, false, false, false, false, false, false, false, false] rfl rfl (by kernel_rfl) (fun _ _ _ h => h) (Or.inl ⟨by rfl, ?_⟩) ?_ ?_
  rotate_left
  · intro w'
    go_simp
    with_reducible rfl
  rotate_left
  · simp only [Act.put, List.setIfInBounds_toArray, List.set_cons_zero, List.set_cons_succ, i64_w, i32_w]
    rfl
  refine pure_ (i := 34) (N := some 97) (v := ?_) (a' := ?_) #[true, true, true, true, true, true, true, true, true, true, true, true, true, true, true, true, true, true, true, true, true, true, true, true, true, true, true, true, true, false, true, false, true, true, true, false, false, false, false, false, false, false, false] rfl rfl (by kernel_rfl) (fun _ _ _ h => h) (Or.inl ⟨by rfl, ?_⟩) ?_ ?_
  rotate_left
  · intro w'
    go_simp
    with_reducible rfl
  rotate_left
  · simp only [Act.put, List.setIfInBounds_toArray, List.set_cons_zero, List.set_cons_succ, i64_w, i32_w]
    rfl
  refine pure_ (i := 36) (N := some 99) (v := ?_) (a' := ?_) #[true, true, true, true, true, true, true, true, true, true, true, true, true, true, true, true, true, true, true, true, true, true, true, true, true, true, true, true, true, false, true, false, true, true, true, false, true, false, false, false, false, false, false] rfl rfl (by kernel_rfl) (fun _ _ _ h => h) (Or.inl ⟨by rfl, ?_⟩) ?_ ?_
  rotate_left
  · intro w'
    go_simp
    with_reducible rfl
  rotate_left
  · simp only [Act.put, List.setIfInBounds_toArray, List.set_cons_zero, List.set_cons_succ, i64_w, i32_w]
    rfl
  refine pure_ (i := 37) (N := some 100) (v := ?_) (a' := ?_) #[true, true, true, true, true, true, true, true, true, true, true, true, true, true, true, true, true, true, true, true, true, true, true, true, true, true, true, true, true, false, true, false, true, true, true, false, true, true, false, false, false, false, false] rfl rfl (by kernel_rfl) (fun _ _ _ h => h) (Or.inl ⟨by rfl, ?_⟩) ?_ ?_
  rotate_left
  · intro w'
    go_simp
    with_reducible rfl
  rotate_left
  · simp only [Act.put, List.setIfInBounds_toArray, List.set_cons_zero, List.set_cons_succ, i64_w, i32_w]
    rfl
  refine pure_ (i := 38) (N := some 101) (v := ?_) (a' := ?_) #[true, true, true, true, true, true, true, true, true, true, true, true, true, true, true, true, true, true, true, true, true, true, true, true, true, true, true, true, true, false, true, false, true, true, true, false, true, true, true, false, false, false, false] rfl rfl (by kernel_rfl) (fun _ _ _ h => h) (Or.inl ⟨by rfl, ?_⟩) ?_ ?_
  rotate_left
  · intro w'
    go_simp
    with_reducible rfl
  rotate_left
  · simp only [Act.put, List.setIfInBounds_toArray, List.set_cons_zero, List.set_cons_succ, i64_w, i32_w]
    rfl
  refine one_ (i := 29) (N := some 92) #[true, true, true, true, true, true, true, true, true, true, true, true, true, true, true, true, true, true, true, true, true, true, true, true, true, true, true, true, true, true, true, false, true, true, true, false, true, true, true, false, false, false, false] rfl rfl (by kernel_rfl) (by decide) (fun K hK => ?_)
  refine goes_ Try.func30 (by kernel_rfl) rfl #[.pointer (some ⟨w1.heap.size, 0, none⟩)] (by rfl) rfl rfl (by simp only [List.map_toArray, List.map_cons, List.map_nil]; rfl) ?_
  with_reducible refine (CS4.out _ B23.out).mono ?_
  rintro e w' ⟨rfl, rfl⟩
  refine ⟨_, rfl, ?_⟩
  refine hK.out _ _ trivial (fun hHeld => ?_)
  clear hK K
  refine norm_ (a' := ?_) ?_ ?_
  rotate_left
  · show Act.put _ (some 92) _ = _
    simp only [Act.put, List.setIfInBounds_toArray, List.set_cons_zero, List.set_cons_succ, i64_w, i32_w]
    rfl
  refine pure_ (i := 31) (N := some 94) (v := ?_) (a' := ?_) #[true, true, true, true, true, true, true, true, true, true, true, true, true, true, true, true, true, true, true, true, true, true, true, true, true, true, true, true, true, true, true, true, true, true, true, false, true, true, true, false, false, false, false] rfl rfl (by kernel_rfl) (fun _ _ _ h => h) (Or.inl ⟨by rfl, ?_⟩) ?_ ?_
  rotate_left
  · intro w'
    go_simp
    with_reducible rfl
  rotate_left
  · simp only [Act.put, List.setIfInBounds_toArray, List.set_cons_zero, List.set_cons_succ, i64_w, i32_w]
    rfl
  refine one_ (i := 35) (N := some 98) #[true, true, true, true, true, true, true, true, true, true, true, true, true, true, true, true, true, true, true, true, true, true, true, true, true, true, true, true, true, true, true, true, true, true, true, true, true, true, true, false, false, false, false] rfl rfl (by kernel_rfl) (by decide) (fun K hK => ?_)
  refine goes_ Try.func26 (by kernel_rfl) rfl #[.slice ad1 r c1] (by rfl) rfl rfl (by simp only [List.map_toArray, List.map_cons, List.map_nil]; rfl) ?_
  with_reducible refine (CS5.out _ B23.out).mono ?_
  rintro e w24 ⟨rfl, b24⟩
  refine ⟨_, rfl, ?_⟩
  have B24 := Lib.hid (B23.out.trans (b24.mono B23.out.size))
  refine hK.out _ _ trivial (fun hHeld => ?_)
  clear hK K
  refine norm_ (a' := ?_) ?_ ?_
  rotate_left
  · show Act.put _ (some 98) _ = _
    simp only [Act.put, List.setIfInBounds_toArray, List.set_cons_zero, List.set_cons_succ, i64_w, i32_w]
    rfl
  refine one_ (i := 39) (N := some 102) #[true, true, true, true, true, true, true, true, true, true, true, true, true, true, true, true, true, true, true, true, true, true, true, true, true, true, true, true, true, true, true, true, true, true, true, true, true, true, true, true, false, false, false] rfl rfl (by kernel_rfl) (by decide) (fun K hK => ?_)
  refine goes_ Try.func26 (by kernel_rfl) rfl #[.slice A2 n2 c2] (by rfl) rfl rfl (by simp only [List.map_toArray, List.map_cons, List.map_nil]; rfl) ?_
  with_reducible refine (CS6.out _ B24.out).mono ?_
  rintro e w25 ⟨rfl, b25⟩
  refine ⟨_, rfl, ?_⟩
  have B25 := Lib.hid (B24.out.trans (b25.mono B24.out.size))
  refine hK.out _ _ trivial (fun hHeld => ?_)
  clear hK K
  refine norm_ (a' := ?_) ?_ ?_
  rotate_left
  · show Act.put _ (some 102) _ = _
    simp only [Act.put, List.setIfInBounds_toArray, List.set_cons_zero, List.set_cons_succ, i64_w, i32_w]
    rfl
  refine pure_ (i := 40) (N := some 103) (v := ?_) (a' := ?_) #[true, true, true, true, true, true, true, true, true, true, true, true, true, true, true, true, true, true, true, true, true, true, true, true, true, true, true, true, true, true, true, true, true, true, true, true, true, true, true, true, true, false, false] rfl rfl (by kernel_rfl) (fun _ _ _ h => h) (Or.inl ⟨by rfl, ?_⟩) ?_ ?_
  rotate_left
  · intro w'
    go_simp
    with_reducible rfl
  rotate_left
  · simp only [Act.put, List.setIfInBounds_toArray, List.set_cons_zero, List.set_cons_succ, i64_w, i32_w]
    rfl
  refine pure_ (i := 41) (N := some 104) (v := ?_) (a' := ?_) #[true, true, true, true, true, true, true, true, true, true, true, true, true, true, true, true, true, true, true, true, true, true, true, true, true, true, true, true, true, true, true, true, true, true, true, true, true, true, true, true, true, true, false] rfl rfl (by kernel_rfl) (fun _ _ _ h => h) (Or.inl ⟨by rfl, ?_⟩) ?_ ?_
  rotate_left
  · intro w'
    go_simp
    with_reducible rfl
  rotate_left
  · simp only [Act.put, List.setIfInBounds_toArray, List.set_cons_zero, List.set_cons_succ, i64_w, i32_w]
    rfl
  refine pure_ (i := 42) (N := some 105) (v := ?_) (a' := ?_) #[true, true, true, true, true, true, true, true, true, true, true, true, true, true, true, true, true, true, true, true, true, true, true, true, true, true, true, true, true, true, true, true, true, true, true, true, true, true, true, true, true, true, true] rfl rfl (by kernel_rfl) (fun _ _ _ h => h) (Or.inl ⟨by rfl, ?_⟩) ?_ ?_
  rotate_left
  · intro w'
    go_simp
    with_reducible rfl
  rotate_left
  · simp only [Act.put, List.setIfInBounds_toArray, List.set_cons_zero, List.set_cons_succ, i64_w, i32_w]
    rfl
  refine done_ (by kernel_rfl) ?_
  clear CS1 CS2 CS3 CS4 CS5 CS6 ws1 ws2
  have S30 := Lib.hid (S6.out.later B25.out)
  have K30 := Lib.hid (K6.out.later B25.out)
  by_cases h0 : r = 0
  · subst h0
    rw [List.take_zero] at tx6
    obtain rfl := tx6.none_
    by_cases hq0 : q = []
    · have hl0 : q.length = 0 := by rw [hq0]; rfl
      have E7 : Hid (twoO (some a6) y 0 = (y, 0, some a6)) := Lib.hid (twoO_nil ty6)
      have E8 : Hid (twoO (some a6) u u = (0, 0, some a6)) := Lib.hid (by obtain rfl := (show u = 0 from (by subst hq0; exact tu.none_)); exact twoO_nil .nil)
      have cc := twoO_any S30.out.arena y 0
      rw [E7.out] at cc
      have CC := Lib.hid cc; clear cc
      go_wp2_with fail
      refine CC.out.mono ?_
      rintro e w31 ⟨rfl, m31⟩
      clear CC
      obtain ⟨F31, o31, g31⟩ := Made.out m31
      have S31 := Lib.hid (S30.out.grow g31 o31)
      have K31 := Lib.hid (K30.out.grow g31)
      clear m31 o31 g31
      have cc := twoO_any S31.out.arena u u
      rw [E8.out] at cc
      have CC := Lib.hid cc; clear cc
      go_wp2_with fail
      refine CC.out.mono ?_
      rintro e w32 ⟨rfl, m32⟩
      clear CC
      obtain ⟨F32, o32, g32⟩ := Made.out m32
      have S32 := Lib.hid (S31.out.grow g32 o32)
      have K32 := Lib.hid (K31.out.grow g32)
      clear m32 o32 g32
      go_wp2_with fail
      refine (twoNil_any _ 0 y).mono ?_
      rintro e w33 ⟨rfl, b33⟩
      have S33 := Lib.hid (S32.out.later b33)
      have K33 := Lib.hid (K32.out.later b33)
      clear b33
      go_wp2_with (go_at_call 29; refine (awake8_any W _ S33.out.below).mono ?_; rintro e wz ⟨rfl, bz⟩)
      go_ret
      exact ⟨rfl, bz⟩
    · have hpos : 0 < q.length := List.length_pos_iff.2 hq0
      have hfl : (q[0]).1 ≤ (q[q.length - 1]).1 := first_last HQ.out hpos
      have gl : (0 : Int) < (q.length : Int) := by omega
      have E7 : Hid (twoO (some a6) y 0 = (y, 0, some a6)) := Lib.hid (twoO_nil ty6)
      have E8 : Hid (twoO (some a6) u u = (0, 1, some a6)) := Lib.hid (twoO_bad (p := q[q.length - 1]) (q := q[0]) tu tu (last_all hpos) (head_all hpos) hfl)
      have cc := twoO_any S30.out.arena y 0
      rw [E7.out] at cc
      have CC := Lib.hid cc; clear cc
      go_wp2_with fail
      refine CC.out.mono ?_
      rintro e w31 ⟨rfl, m31⟩
      clear CC
      obtain ⟨F31, o31, g31⟩ := Made.out m31
      have S31 := Lib.hid (S30.out.grow g31 o31)
      have K31 := Lib.hid (K30.out.grow g31)
      clear m31 o31 g31
      have cc := twoO_any S31.out.arena u u
      rw [E8.out] at cc
      have CC := Lib.hid cc; clear cc
      go_wp2_with fail
      refine CC.out.mono ?_
      rintro e w32 ⟨rfl, m32⟩
      clear CC
      obtain ⟨F32, o32, g32⟩ := Made.out m32
      have S32 := Lib.hid (S31.out.grow g32 o32)
      have K32 := Lib.hid (K31.out.grow g32)
      clear m32 o32 g32
      go_wp2_with fail
      refine (twoNil_any _ 0 y).mono ?_
      rintro e w33 ⟨rfl, b33⟩
      have S33 := Lib.hid (S32.out.later b33)
      have K33 := Lib.hid (K32.out.later b33)
      clear b33
      go_wp2_with (go_at_call 29; refine (awake8_any W _ S33.out.below).mono ?_; rintro e wz ⟨rfl, bz⟩)
      go_ret
      exact ⟨rfl, bz⟩
  · have hpos : 0 < q.length := by omega
    have hfl : (q[0]).1 ≤ (q[q.length - 1]).1 := first_last HQ.out hpos
    have gl : (0 : Int) < (q.length : Int) := by omega
    have gr : (0 : Int) < (r : Int) := by omega
    have gr2 : 0 < r := by omega
    by_cases h1 : r = q.length
    · obtain rfl : y = 0 := by (have hd0 : q.drop r = [] := List.drop_eq_nil_of_le (by omega)); rw [hd0] at ty6; exact ty6.none_
      have gn : ¬ ((r : Int) < (q.length : Int)) := by omega
      have gn2 : decide ((r : Int) < (q.length : Int)) = false := decide_eq_false gn
      have gn3 : ¬ (r < q.length) := by omega
      have E7 : Hid (twoO (some a6) 0 x = (x, 0, some a6)) := Lib.hid (two_nil_l tx6)
      have E8 : Hid (twoO (some a6) u u = (0, 1, some a6)) := Lib.hid (twoO_bad (p := q[q.length - 1]) (q := q[0]) tu tu (last_all hpos) (head_all hpos) hfl)
      have cc := twoO_any S30.out.arena 0 x
      rw [E7.out] at cc
      have CC := Lib.hid cc; clear cc
      go_wp2_with fail
      refine CC.out.mono ?_
      rintro e w31 ⟨rfl, m31⟩
      clear CC
      obtain ⟨F31, o31, g31⟩ := Made.out m31
      have S31 := Lib.hid (S30.out.grow g31 o31)
      have K31 := Lib.hid (K30.out.grow g31)
      clear m31 o31 g31
      have cc := twoO_any S31.out.arena u u
      rw [E8.out] at cc
      have CC := Lib.hid cc; clear cc
      go_wp2_with fail
      refine CC.out.mono ?_
      rintro e w32 ⟨rfl, m32⟩
      clear CC
      obtain ⟨F32, o32, g32⟩ := Made.out m32
      have S32 := Lib.hid (S31.out.grow g32 o32)
      have K32 := Lib.hid (K31.out.grow g32)
      clear m32 o32 g32
      go_wp2_with fail
      refine (twoNil_any _ x 0).mono ?_
      rintro e w33 ⟨rfl, b33⟩
      have S33 := Lib.hid (S32.out.later b33)
      have K33 := Lib.hid (K32.out.later b33)
      clear b33
      go_wp2_with (go_at_call 29; refine (awake8_any W _ S33.out.below).mono ?_; rintro e wz ⟨rfl, bz⟩)
      go_ret
      exact ⟨rfl, bz⟩
    · have hrl : r < q.length := by omega
      have gn : (r : Int) < (q.length : Int) := by omega
      have gn2 : decide ((r : Int) < (q.length : Int)) = true := decide_eq_true gn
      clear h0
      have E7 : Hid (twoO (some a6) y x = (0, 1, some a6)) := Lib.hid (twoO_bad (p := q[q.length - 1]) (q := q[0]) ty6 tx6 (last_drop hrl) (head_take gr2 hpos) hfl)
      have E8 : Hid (twoO (some a6) u u = (0, 1, some a6)) := Lib.hid (twoO_bad (p := q[q.length - 1]) (q := q[0]) tu tu (last_all hpos) (head_all hpos) hfl)
      have cc := twoO_any S30.out.arena y x
      rw [E7.out] at cc
      have CC := Lib.hid cc; clear cc
      go_wp2_with fail
      refine CC.out.mono ?_
      rintro e w31 ⟨rfl, m31⟩
      clear CC
      obtain ⟨F31, o31, g31⟩ := Made.out m31
      have S31 := Lib.hid (S30.out.grow g31 o31)
      have K31 := Lib.hid (K30.out.grow g31)
      clear m31 o31 g31
      have cc := twoO_any S31.out.arena u u
      rw [E8.out] at cc
      have CC := Lib.hid cc; clear cc
      go_wp2_with fail
      refine CC.out.mono ?_
      rintro e w32 ⟨rfl, m32⟩
      clear CC
      obtain ⟨F32, o32, g32⟩ := Made.out m32
      have S32 := Lib.hid (S31.out.grow g32 o32)
      have K32 := Lib.hid (K31.out.grow g32)
      clear m32 o32 g32
      go_wp2_with fail
      refine (twoNil_any _ x y).mono ?_
      rintro e w33 ⟨rfl, b33⟩
      have S33 := Lib.hid (S32.out.later b33)
      have K33 := Lib.hid (K32.out.later b33)
      clear b33
      go_wp2_with (go_at_call 29; refine (awake8_any W _ S33.out.below).mono ?_; rintro e wz ⟨rfl, bz⟩)
      go_ret
      exact ⟨rfl, bz⟩

end Go.Proofs.Ytkcfkanfdbejiaa
