/- The walk of the law PutForms. -/
import Derived.Test.YtakgknoldkfekaaAwake5
import Derived.Test.YtakgknoldkfekaaRefW
import Derived.Test.YtakgknoldkfekaaSaysW
namespace Go.Proofs.Ytakgknoldkfekaa
set_option maxRecDepth 100000
open Go.RowKit
set_option linter.unusedSimpArgs false
set_option linter.unusedVariables false

set_option maxRecDepth 100000 in
set_option maxHeartbeats 4000000 in
theorem putForms_1 (W : World) {ad : Option Addr} {c : Nat} {l : List Pr} (hl : PIn W ad c l) (pk pv : Int) (q : List Pr) (hq : pairs l 50 = q) (fk : Nat) (hfk : fk < q.length) (hfi : findI q pk = fk) (hgp : gotP q pk = ((q[fk]).2, true)) :
    Calls Try.prog 12 #[.slice ad l.length c, .agg #[.int .i64 pk, .int .i64 pv], .bool true] W fun e w' => e = .returned (.bool true) ∧ Below W.heap.size W w' := by
  have hb0 : Below W.heap.size W (W.alloc (.cells #[.int .i64 pk, .int .i64 pv] 37)) := (Below.refl _ _).alloc (Nat.le_refl _) _
  have hp := pairs_any (W.alloc (.cells #[.int .i64 pk, .int .i64 pv] 37)) (hl.later hb0) 50 (by decide) (by decide)
  have hpl := (pairsB_len l 50 (by decide) l.length).1
  have hs := pairs_sorted l 50
  rw [show pairsB l 50 l.length = pairs l 50 from rfl] at hpl
  rw [hq] at hp hpl hs
  have HP := Lib.hid hp; clear hp hl hq
  have HQ := Lib.hid hs; clear hs
  have HB0 := Lib.hid hb0; clear hb0
  have E0 := Lib.hid (heap_alloc_new W (.cells #[.int .i64 pk, .int .i64 pv] 37))
  go_enter Try.func12, Try.ntmps12
  go_wp2_with fail
  refine HP.out.mono ?_
  rintro e w1 ⟨ad1, c1, rfl, p1, n1, b1⟩
  have P1 := Lib.hid p1; clear p1 n1
  have E1 := Lib.hid ((b1.block W.heap.size (by simp)).trans E0.out)
  have B1 := Lib.hid (HB0.out.trans (b1.mono (by simp))); clear b1
  go_wp2_with fail
  refine (new_any 400 w1).mono ?_
  rintro e w2 ⟨rfl, o2, b2⟩
  have S2 := Lib.hid (St.begin B1.out o2 b2)
  have K2 := Lib.hid (PK.begin P1.out b2)
  have Q2 := Lib.hid (Kp.mk ((b2.block W.heap.size (Array.getElem?_eq_some_iff.1 E1.out).1).trans E1.out) (fun hf => by have := (Array.getElem?_eq_some_iff.1 E1.out).1; have hf2 : W.heap.size = w1.heap.size := hf; omega) : Kp w2 (fun b => b = w1.heap.size) W.heap.size (.cells #[.int .i64 pk, .int .i64 pv] 37 (0, 0)))
  clear o2 b2
  have la := laid_any q.length w2 w1.heap.size _ _ ad1 c1 q (Nat.le_refl _) (by omega) S2.out.arena K2.out (by rw [newA_room (by omega) (by omega), newA_slots]; simp; omega)
  have LA := Lib.hid la; clear la
  go_wp2_with fail
  refine LA.out.mono ?_
  rintro e w3 ⟨t, a3, rfl, ⟨F3, o3, g3⟩, x3, l3, t3, al3⟩
  have H3 := Lib.hid (Has.mk (S2.out.grow g3 o3) t3 (x3.1.trans (newA_room (by omega) (by omega))) (by rw [l3, newA_slots]; simp) x3.2.1 : Has W w3 w1.heap.size a3 F3 t q (400))
  have K3 := Lib.hid (K2.out.grow g3)
  have Q3 := Lib.hid (Q2.out.grow g3)
  clear o3 g3 x3 l3 t3 al3
  have hlen64 : q.length ≤ 1000 := by omega
  have tr3 := H3.out.tr
  have rm3 := H3.out.room
  have us3 := H3.out.used
  have st3 := H3.out.steps
  have S3 := Lib.hid H3.out.st
  have hgq := hgt_le q
  have hil := ins_len q (pk, pv)
  have hw := withP_ins q (pk, pv) HQ.out
  have HW := Lib.hid hw; clear hw
  have hh := addO_room tr3 HQ.out (by omega) S3.out.fits pk pv (by omega)
  rw [hgp] at hh
  have e4 : addO (some a3) t pk pv = (t, (q[fk]).2, true, 0, some a3) := by
    rcases hh with ⟨_, h⟩ | ⟨h, _⟩
    · exact h
    · exact absurd h (by simp)
  clear hh
  have tr4 := tr3
  have st4 := st3
  have hu4 : (a3.slots.length : Int) ≤ 1000 := by omega
  have hd : (a3.slots.length : Int) - (q.length : Int) ≤ 2 * (hgt q : Int) + 2 := by omega
  have hgb : (hgt q : Int) ≤ 50 := by omega
  obtain ⟨b, off, hbo, hcell⟩ := K3.out.cells hfk
  subst hbo
  have HC := Lib.hid hcell; clear hcell
  generalize hfx : q[fk] = fx at e4 hgp
  have HFX := Lib.hid hfx; clear hfx
  obtain ⟨fxk, fxv⟩ := fx
  simp only [] at e4
  have qf : (fxv != fxv) = false := by simp
  have qt : (t != t) = false := by simp
  have us3i : (a3.slots.length : Int) = (q.length : Int) := by omega
  have HUS := Lib.hid us3i; clear us3i us3
  have c := used_any S3.out.arena
  rw [show usedO (some a3) = (a3.slots.length : Int) from rfl, HUS.out] at c
  have C := Lib.hid c; clear c
  go_wp2_with fail
  refine (C.out).mono ?_
  rintro e w' ⟨rfl, rfl⟩
  clear C
  have q3c0_4 := cell_blk (i := 0) Q3.out.at_ rfl
  have q3c1_4 := cell_blk (i := 1) Q3.out.at_ rfl
  have cc := addO_any S3.out.arena t pk pv
  rw [e4] at cc
  have CC := Lib.hid cc; clear cc
  go_wp2_with fail
  refine CC.out.mono ?_
  rintro e w5 ⟨rfl, m5⟩
  clear CC
  clear q3c0_4 q3c1_4
  obtain ⟨F5, o5, g5⟩ := Made.out m5
  have S5 := Lib.hid (S3.out.grow g5 o5)
  have K5 := Lib.hid (K3.out.grow g5)
  have Q5 := Lib.hid (Q3.out.grow g5)
  clear m5 o5 g5
  have q5c0_5 := cell_blk (i := 0) Q5.out.at_ rfl
  have q5c1_5 := cell_blk (i := 1) Q5.out.at_ rfl
  have c := find_any _ K5.out.pin pk
  rw [hfi] at c
  have C := Lib.hid c; clear c
  go_wp2_with fail
  refine (C.out).mono ?_
  rintro e w6 ⟨rfl, b6⟩
  clear q5c0_5 q5c1_5
  have S6 := Lib.hid (S5.out.later b6)
  have K6 := Lib.hid (K5.out.later b6)
  have Q6 := Lib.hid (Q5.out.below b6)
  clear b6
  clear C
  have q6c0_6 := cell_blk (i := 0) Q6.out.at_ rfl
  have q6c1_6 := cell_blk (i := 1) Q6.out.at_ rfl
  have cw := with_any _ K6.out.pin (by omega) (pk, pv)
  rw [HW.out] at cw
  have CW := Lib.hid cw; clear cw
  go_wp2_with fail
  refine CW.out.mono ?_
  rintro e w7 ⟨adV, cV, rfl, pp, np, b7⟩
  clear CW
  clear q6c0_6 q6c1_6
  have S7 := Lib.hid (S6.out.later b7)
  have K7 := Lib.hid (K6.out.later b7)
  have Q7 := Lib.hid (Q6.out.below b7)
  have V7 := Lib.hid (PK.mk pp (fun _ x hx hf => by have := np x hx; have := S6.out.arena.lt _ hf; omega))
  clear b7 pp np
  obtain ⟨fc0, fc1⟩ := HC.out _ _ K7.out
  rw [HFX.out] at fc1
  simp only [] at fc1
  clear fc0
  have HS := Lib.hid (says_any _ _ _ _ _ t _ _ q (Nat.le_refl _) (by first | omega | (have := ins_len q (pk, pv); omega)) S7.out.arena K7.out tr4)
  go_wp2_with fail
  refine (HS.out).mono ?_
  rintro e w8 ⟨rfl, b8⟩
  clear fc1
  have S8 := Lib.hid (S7.out.later b8)
  have K8 := Lib.hid (K7.out.later b8)
  have V8 := Lib.hid (V7.out.later b8)
  have Q8 := Lib.hid (Q7.out.below b8)
  clear b8
  clear HS
  have HS := Lib.hid (says_any _ _ _ _ _ t _ _ q (Nat.le_refl _) (by first | omega | (have := ins_len q (pk, pv); omega)) S8.out.arena K8.out tr4)
  go_wp2_with fail
  refine (HS.out).mono ?_
  rintro e w9 ⟨rfl, b9⟩
  have S9 := Lib.hid (S8.out.later b9)
  have K9 := Lib.hid (K8.out.later b9)
  have V9 := Lib.hid (V8.out.later b9)
  have Q9 := Lib.hid (Q8.out.below b9)
  clear b9
  clear HS
  have c := used_any S9.out.arena
  rw [show usedO (some a3) = (a3.slots.length : Int) from rfl] at c
  have C := Lib.hid c; clear c
  go_wp2_with fail
  refine (C.out).mono ?_
  rintro e w' ⟨rfl, rfl⟩
  clear C
  have c := high_any _ _ _ _ q (Nat.le_refl _) (by omega) K9.out.pin
  have C := Lib.hid c; clear c
  go_wp2_with fail
  refine (C.out).mono ?_
  rintro e w11 ⟨rfl, b11⟩
  have S11 := Lib.hid (S9.out.later b11)
  have K11 := Lib.hid (K9.out.later b11)
  have V11 := Lib.hid (V9.out.later b11)
  have Q11 := Lib.hid (Q9.out.below b11)
  clear b11
  clear C
  have d1 : (a3.slots.length : Int) - (q.length : Int) ≤ 2 * (hgt q : Int) + 2 := hd
  have d2 : (q.length : Int) - (q.length : Int) ≤ 2 * (hgt q : Int) + 2 := by omega
  have d3 : (0 : Int) ≤ 2 * (hgt q : Int) + 2 := by omega
  have c := steps_any S11.out.arena
  rw [show stepsO (some a3) = a3.steps from rfl, st4] at c
  have C := Lib.hid c; clear c
  go_wp2_with fail
  refine (C.out).mono ?_
  rintro e w' ⟨rfl, rfl⟩
  clear C
  go_wp2_with (go_at_call 33; refine (awake5_any W _ S11.out.below).mono ?_; rintro e wz ⟨rfl, bz⟩)
  go_ret
  exact ⟨rfl, bz⟩

set_option maxRecDepth 100000 in
set_option maxHeartbeats 4000000 in
theorem putForms_2 (W : World) {ad : Option Addr} {c : Nat} {l : List Pr} (hl : PIn W ad c l) (pk pv : Int) (q : List Pr) (hq : pairs l 50 = q) (hfi : findI q pk = -1) (hgp : gotP q pk = (0, false)) :
    Calls Try.prog 12 #[.slice ad l.length c, .agg #[.int .i64 pk, .int .i64 pv], .bool true] W fun e w' => e = .returned (.bool true) ∧ Below W.heap.size W w' := by
  have hb0 : Below W.heap.size W (W.alloc (.cells #[.int .i64 pk, .int .i64 pv] 37)) := (Below.refl _ _).alloc (Nat.le_refl _) _
  have hp := pairs_any (W.alloc (.cells #[.int .i64 pk, .int .i64 pv] 37)) (hl.later hb0) 50 (by decide) (by decide)
  have hpl := (pairsB_len l 50 (by decide) l.length).1
  have hs := pairs_sorted l 50
  rw [show pairsB l 50 l.length = pairs l 50 from rfl] at hpl
  rw [hq] at hp hpl hs
  have HP := Lib.hid hp; clear hp hl hq
  have HQ := Lib.hid hs; clear hs
  have HB0 := Lib.hid hb0; clear hb0
  have E0 := Lib.hid (heap_alloc_new W (.cells #[.int .i64 pk, .int .i64 pv] 37))
  go_enter Try.func12, Try.ntmps12
  go_wp2_with fail
  refine HP.out.mono ?_
  rintro e w1 ⟨ad1, c1, rfl, p1, n1, b1⟩
  have P1 := Lib.hid p1; clear p1 n1
  have E1 := Lib.hid ((b1.block W.heap.size (by simp)).trans E0.out)
  have B1 := Lib.hid (HB0.out.trans (b1.mono (by simp))); clear b1
  go_wp2_with fail
  refine (new_any 400 w1).mono ?_
  rintro e w2 ⟨rfl, o2, b2⟩
  have S2 := Lib.hid (St.begin B1.out o2 b2)
  have K2 := Lib.hid (PK.begin P1.out b2)
  have Q2 := Lib.hid (Kp.mk ((b2.block W.heap.size (Array.getElem?_eq_some_iff.1 E1.out).1).trans E1.out) (fun hf => by have := (Array.getElem?_eq_some_iff.1 E1.out).1; have hf2 : W.heap.size = w1.heap.size := hf; omega) : Kp w2 (fun b => b = w1.heap.size) W.heap.size (.cells #[.int .i64 pk, .int .i64 pv] 37 (0, 0)))
  clear o2 b2
  have la := laid_any q.length w2 w1.heap.size _ _ ad1 c1 q (Nat.le_refl _) (by omega) S2.out.arena K2.out (by rw [newA_room (by omega) (by omega), newA_slots]; simp; omega)
  have LA := Lib.hid la; clear la
  go_wp2_with fail
  refine LA.out.mono ?_
  rintro e w3 ⟨t, a3, rfl, ⟨F3, o3, g3⟩, x3, l3, t3, al3⟩
  have H3 := Lib.hid (Has.mk (S2.out.grow g3 o3) t3 (x3.1.trans (newA_room (by omega) (by omega))) (by rw [l3, newA_slots]; simp) x3.2.1 : Has W w3 w1.heap.size a3 F3 t q (400))
  have K3 := Lib.hid (K2.out.grow g3)
  have Q3 := Lib.hid (Q2.out.grow g3)
  clear o3 g3 x3 l3 t3 al3
  have hlen64 : q.length ≤ 1000 := by omega
  have tr3 := H3.out.tr
  have rm3 := H3.out.room
  have us3 := H3.out.used
  have st3 := H3.out.steps
  have S3 := Lib.hid H3.out.st
  have hgq := hgt_le q
  have hil := ins_len q (pk, pv)
  have hw := withP_ins q (pk, pv) HQ.out
  have HW := Lib.hid hw; clear hw
  have hh := addO_room tr3 HQ.out (by omega) S3.out.fits pk pv (by omega)
  rw [hgp] at hh
  obtain ⟨a4, u, e4, tu, x4, f4, l4⟩ : ∃ a4 u, addO (some a3) t pk pv = (u, 0, false, 0, some a4) ∧ Tr a4 u (ins q (pk, pv)) ∧ Ext a3 a4 ∧ fits a4 ∧ a4.slots.length ≤ a3.slots.length + (hgt q + 1) := by
    rcases hh with ⟨h, _⟩ | ⟨_, h⟩
    · exact absurd h (by simp)
    · exact h
  clear hh
  have tr4 := tr3.ext x4
  have st4 : a4.steps = 0 := x4.2.1.trans st3
  have hu4 : (a4.slots.length : Int) ≤ 1000 := by omega
  have hd : (a4.slots.length : Int) - (q.length : Int) ≤ 2 * (hgt q : Int) + 2 := by omega
  have hgb : (hgt q : Int) ≤ 50 := by omega
  have us3i : (a3.slots.length : Int) = (q.length : Int) := by omega
  have HUS := Lib.hid us3i; clear us3i us3
  have c := used_any S3.out.arena
  rw [show usedO (some a3) = (a3.slots.length : Int) from rfl, HUS.out] at c
  have C := Lib.hid c; clear c
  go_wp2_with fail
  refine (C.out).mono ?_
  rintro e w' ⟨rfl, rfl⟩
  clear C
  have q3c0_4 := cell_blk (i := 0) Q3.out.at_ rfl
  have q3c1_4 := cell_blk (i := 1) Q3.out.at_ rfl
  have cc := addO_any S3.out.arena t pk pv
  rw [e4] at cc
  have CC := Lib.hid cc; clear cc
  go_wp2_with fail
  refine CC.out.mono ?_
  rintro e w5 ⟨rfl, m5⟩
  clear CC
  clear q3c0_4 q3c1_4
  obtain ⟨F5, o5, g5⟩ := Made.out m5
  have S5 := Lib.hid (S3.out.grow g5 o5)
  have K5 := Lib.hid (K3.out.grow g5)
  have Q5 := Lib.hid (Q3.out.grow g5)
  clear m5 o5 g5
  have q5c0_5 := cell_blk (i := 0) Q5.out.at_ rfl
  have q5c1_5 := cell_blk (i := 1) Q5.out.at_ rfl
  have c := find_any _ K5.out.pin pk
  rw [hfi] at c
  have C := Lib.hid c; clear c
  go_wp2_with fail
  refine (C.out).mono ?_
  rintro e w6 ⟨rfl, b6⟩
  clear q5c0_5 q5c1_5
  have S6 := Lib.hid (S5.out.later b6)
  have K6 := Lib.hid (K5.out.later b6)
  have Q6 := Lib.hid (Q5.out.below b6)
  clear b6
  clear C
  have q6c0_6 := cell_blk (i := 0) Q6.out.at_ rfl
  have q6c1_6 := cell_blk (i := 1) Q6.out.at_ rfl
  have cw := with_any _ K6.out.pin (by omega) (pk, pv)
  rw [HW.out] at cw
  have CW := Lib.hid cw; clear cw
  go_wp2_with fail
  refine CW.out.mono ?_
  rintro e w7 ⟨adV, cV, rfl, pp, np, b7⟩
  clear CW
  clear q6c0_6 q6c1_6
  have S7 := Lib.hid (S6.out.later b7)
  have K7 := Lib.hid (K6.out.later b7)
  have Q7 := Lib.hid (Q6.out.below b7)
  have V7 := Lib.hid (PK.mk pp (fun _ x hx hf => by have := np x hx; have := S6.out.arena.lt _ hf; omega))
  clear b7 pp np
  have HS := Lib.hid (says_any _ _ _ _ _ u _ _ (ins q (pk, pv)) (Nat.le_refl _) (by first | omega | (have := ins_len q (pk, pv); omega)) S7.out.arena V7.out tu)
  go_wp2_with fail
  refine (HS.out).mono ?_
  rintro e w8 ⟨rfl, b8⟩
  have S8 := Lib.hid (S7.out.later b8)
  have K8 := Lib.hid (K7.out.later b8)
  have V8 := Lib.hid (V7.out.later b8)
  have Q8 := Lib.hid (Q7.out.below b8)
  clear b8
  clear HS
  have HS := Lib.hid (says_any _ _ _ _ _ t _ _ q (Nat.le_refl _) (by first | omega | (have := ins_len q (pk, pv); omega)) S8.out.arena K8.out tr4)
  go_wp2_with fail
  refine (HS.out).mono ?_
  rintro e w9 ⟨rfl, b9⟩
  have S9 := Lib.hid (S8.out.later b9)
  have K9 := Lib.hid (K8.out.later b9)
  have V9 := Lib.hid (V8.out.later b9)
  have Q9 := Lib.hid (Q8.out.below b9)
  clear b9
  clear HS
  have c := used_any S9.out.arena
  rw [show usedO (some a4) = (a4.slots.length : Int) from rfl] at c
  have C := Lib.hid c; clear c
  go_wp2_with fail
  refine (C.out).mono ?_
  rintro e w' ⟨rfl, rfl⟩
  clear C
  have c := high_any _ _ _ _ q (Nat.le_refl _) (by omega) K9.out.pin
  have C := Lib.hid c; clear c
  go_wp2_with fail
  refine (C.out).mono ?_
  rintro e w11 ⟨rfl, b11⟩
  have S11 := Lib.hid (S9.out.later b11)
  have K11 := Lib.hid (K9.out.later b11)
  have V11 := Lib.hid (V9.out.later b11)
  have Q11 := Lib.hid (Q9.out.below b11)
  clear b11
  clear C
  have c := steps_any S11.out.arena
  rw [show stepsO (some a4) = a4.steps from rfl, st4] at c
  have C := Lib.hid c; clear c
  go_wp2_with fail
  refine (C.out).mono ?_
  rintro e w' ⟨rfl, rfl⟩
  clear C
  go_wp2_with (go_at_call 33; refine (awake5_any W _ S11.out.below).mono ?_; rintro e wz ⟨rfl, bz⟩)
  go_ret
  exact ⟨rfl, bz⟩

set_option maxRecDepth 100000 in
set_option maxHeartbeats 4000000 in
theorem putForms_3 (W : World) {ad : Option Addr} {c : Nat} {l : List Pr} (hl : PIn W ad c l) (pk pv : Int) (q : List Pr) (hq : pairs l 50 = q) (fk : Nat) (hfk : fk < q.length) (hfi : findI q pk = fk) (hgp : gotP q pk = ((q[fk]).2, true)) :
    Calls Try.prog 12 #[.slice ad l.length c, .agg #[.int .i64 pk, .int .i64 pv], .bool false] W fun e w' => e = .returned (.bool true) ∧ Below W.heap.size W w' := by
  have hb0 : Below W.heap.size W (W.alloc (.cells #[.int .i64 pk, .int .i64 pv] 37)) := (Below.refl _ _).alloc (Nat.le_refl _) _
  have hp := pairs_any (W.alloc (.cells #[.int .i64 pk, .int .i64 pv] 37)) (hl.later hb0) 50 (by decide) (by decide)
  have hpl := (pairsB_len l 50 (by decide) l.length).1
  have hs := pairs_sorted l 50
  rw [show pairsB l 50 l.length = pairs l 50 from rfl] at hpl
  rw [hq] at hp hpl hs
  have HP := Lib.hid hp; clear hp hl hq
  have HQ := Lib.hid hs; clear hs
  have HB0 := Lib.hid hb0; clear hb0
  have E0 := Lib.hid (heap_alloc_new W (.cells #[.int .i64 pk, .int .i64 pv] 37))
  go_enter Try.func12, Try.ntmps12
  go_wp2_with fail
  refine HP.out.mono ?_
  rintro e w1 ⟨ad1, c1, rfl, p1, n1, b1⟩
  have P1 := Lib.hid p1; clear p1 n1
  have E1 := Lib.hid ((b1.block W.heap.size (by simp)).trans E0.out)
  have B1 := Lib.hid (HB0.out.trans (b1.mono (by simp))); clear b1
  go_wp2_with fail
  refine (new_any 400 w1).mono ?_
  rintro e w2 ⟨rfl, o2, b2⟩
  have S2 := Lib.hid (St.begin B1.out o2 b2)
  have K2 := Lib.hid (PK.begin P1.out b2)
  have Q2 := Lib.hid (Kp.mk ((b2.block W.heap.size (Array.getElem?_eq_some_iff.1 E1.out).1).trans E1.out) (fun hf => by have := (Array.getElem?_eq_some_iff.1 E1.out).1; have hf2 : W.heap.size = w1.heap.size := hf; omega) : Kp w2 (fun b => b = w1.heap.size) W.heap.size (.cells #[.int .i64 pk, .int .i64 pv] 37 (0, 0)))
  clear o2 b2
  have la := laid_any q.length w2 w1.heap.size _ _ ad1 c1 q (Nat.le_refl _) (by omega) S2.out.arena K2.out (by rw [newA_room (by omega) (by omega), newA_slots]; simp; omega)
  have LA := Lib.hid la; clear la
  go_wp2_with fail
  refine LA.out.mono ?_
  rintro e w3 ⟨t, a3, rfl, ⟨F3, o3, g3⟩, x3, l3, t3, al3⟩
  have H3 := Lib.hid (Has.mk (S2.out.grow g3 o3) t3 (x3.1.trans (newA_room (by omega) (by omega))) (by rw [l3, newA_slots]; simp) x3.2.1 : Has W w3 w1.heap.size a3 F3 t q (400))
  have K3 := Lib.hid (K2.out.grow g3)
  have Q3 := Lib.hid (Q2.out.grow g3)
  clear o3 g3 x3 l3 t3 al3
  have hlen64 : q.length ≤ 1000 := by omega
  have tr3 := H3.out.tr
  have rm3 := H3.out.room
  have us3 := H3.out.used
  have st3 := H3.out.steps
  have S3 := Lib.hid H3.out.st
  have hgq := hgt_le q
  have hil := ins_len q (pk, pv)
  have hw := withP_ins q (pk, pv) HQ.out
  have HW := Lib.hid hw; clear hw
  obtain ⟨a4, u, e4, tu, x4, f4, l4⟩ := putO_room tr3 HQ.out (by omega) S3.out.fits pk pv (by omega)
  rw [hgp] at e4
  simp only [] at e4
  have tr4 := tr3.ext x4
  have st4 : a4.steps = 0 := x4.2.1.trans st3
  have hu4 : (a4.slots.length : Int) ≤ 1000 := by omega
  have hd : (a4.slots.length : Int) - (q.length : Int) ≤ 2 * (hgt q : Int) + 2 := by omega
  have hgb : (hgt q : Int) ≤ 50 := by omega
  obtain ⟨b, off, hbo, hcell⟩ := K3.out.cells hfk
  subst hbo
  have HC := Lib.hid hcell; clear hcell
  generalize hfx : q[fk] = fx at e4 hgp
  have HFX := Lib.hid hfx; clear hfx
  obtain ⟨fxk, fxv⟩ := fx
  simp only [] at e4
  have qf : (fxv != fxv) = false := by simp
  have qt : (t != t) = false := by simp
  have us3i : (a3.slots.length : Int) = (q.length : Int) := by omega
  have HUS := Lib.hid us3i; clear us3i us3
  have c := used_any S3.out.arena
  rw [show usedO (some a3) = (a3.slots.length : Int) from rfl, HUS.out] at c
  have C := Lib.hid c; clear c
  go_wp2_with fail
  refine (C.out).mono ?_
  rintro e w' ⟨rfl, rfl⟩
  clear C
  have q3c0_4 := cell_blk (i := 0) Q3.out.at_ rfl
  have q3c1_4 := cell_blk (i := 1) Q3.out.at_ rfl
  have cc := putO_any S3.out.arena t pk pv
  rw [e4] at cc
  have CC := Lib.hid cc; clear cc
  go_wp2_with fail
  refine CC.out.mono ?_
  rintro e w5 ⟨rfl, m5⟩
  clear CC
  clear q3c0_4 q3c1_4
  obtain ⟨F5, o5, g5⟩ := Made.out m5
  have S5 := Lib.hid (S3.out.grow g5 o5)
  have K5 := Lib.hid (K3.out.grow g5)
  have Q5 := Lib.hid (Q3.out.grow g5)
  clear m5 o5 g5
  have q5c0_5 := cell_blk (i := 0) Q5.out.at_ rfl
  have q5c1_5 := cell_blk (i := 1) Q5.out.at_ rfl
  have c := find_any _ K5.out.pin pk
  rw [hfi] at c
  have C := Lib.hid c; clear c
  go_wp2_with fail
  refine (C.out).mono ?_
  rintro e w6 ⟨rfl, b6⟩
  clear q5c0_5 q5c1_5
  have S6 := Lib.hid (S5.out.later b6)
  have K6 := Lib.hid (K5.out.later b6)
  have Q6 := Lib.hid (Q5.out.below b6)
  clear b6
  clear C
  have q6c0_6 := cell_blk (i := 0) Q6.out.at_ rfl
  have q6c1_6 := cell_blk (i := 1) Q6.out.at_ rfl
  have cw := with_any _ K6.out.pin (by omega) (pk, pv)
  rw [HW.out] at cw
  have CW := Lib.hid cw; clear cw
  go_wp2_with fail
  refine CW.out.mono ?_
  rintro e w7 ⟨adV, cV, rfl, pp, np, b7⟩
  clear CW
  clear q6c0_6 q6c1_6
  have S7 := Lib.hid (S6.out.later b7)
  have K7 := Lib.hid (K6.out.later b7)
  have Q7 := Lib.hid (Q6.out.below b7)
  have V7 := Lib.hid (PK.mk pp (fun _ x hx hf => by have := np x hx; have := S6.out.arena.lt _ hf; omega))
  clear b7 pp np
  obtain ⟨fc0, fc1⟩ := HC.out _ _ K7.out
  rw [HFX.out] at fc1
  simp only [] at fc1
  clear fc0
  have HS := Lib.hid (says_any _ _ _ _ _ u _ _ (ins q (pk, pv)) (Nat.le_refl _) (by first | omega | (have := ins_len q (pk, pv); omega)) S7.out.arena V7.out tu)
  go_wp2_with fail
  refine (HS.out).mono ?_
  rintro e w8 ⟨rfl, b8⟩
  clear fc1
  have S8 := Lib.hid (S7.out.later b8)
  have K8 := Lib.hid (K7.out.later b8)
  have V8 := Lib.hid (V7.out.later b8)
  have Q8 := Lib.hid (Q7.out.below b8)
  clear b8
  clear HS
  have HS := Lib.hid (says_any _ _ _ _ _ t _ _ q (Nat.le_refl _) (by first | omega | (have := ins_len q (pk, pv); omega)) S8.out.arena K8.out tr4)
  go_wp2_with fail
  refine (HS.out).mono ?_
  rintro e w9 ⟨rfl, b9⟩
  have S9 := Lib.hid (S8.out.later b9)
  have K9 := Lib.hid (K8.out.later b9)
  have V9 := Lib.hid (V8.out.later b9)
  have Q9 := Lib.hid (Q8.out.below b9)
  clear b9
  clear HS
  have c := used_any S9.out.arena
  rw [show usedO (some a4) = (a4.slots.length : Int) from rfl] at c
  have C := Lib.hid c; clear c
  go_wp2_with fail
  refine (C.out).mono ?_
  rintro e w' ⟨rfl, rfl⟩
  clear C
  have c := high_any _ _ _ _ q (Nat.le_refl _) (by omega) K9.out.pin
  have C := Lib.hid c; clear c
  go_wp2_with fail
  refine (C.out).mono ?_
  rintro e w11 ⟨rfl, b11⟩
  have S11 := Lib.hid (S9.out.later b11)
  have K11 := Lib.hid (K9.out.later b11)
  have V11 := Lib.hid (V9.out.later b11)
  have Q11 := Lib.hid (Q9.out.below b11)
  clear b11
  clear C
  have c := steps_any S11.out.arena
  rw [show stepsO (some a4) = a4.steps from rfl, st4] at c
  have C := Lib.hid c; clear c
  go_wp2_with fail
  refine (C.out).mono ?_
  rintro e w' ⟨rfl, rfl⟩
  clear C
  go_wp2_with (go_at_call 33; refine (awake5_any W _ S11.out.below).mono ?_; rintro e wz ⟨rfl, bz⟩)
  go_ret
  exact ⟨rfl, bz⟩

set_option maxRecDepth 100000 in
set_option maxHeartbeats 4000000 in
theorem putForms_4 (W : World) {ad : Option Addr} {c : Nat} {l : List Pr} (hl : PIn W ad c l) (pk pv : Int) (q : List Pr) (hq : pairs l 50 = q) (hfi : findI q pk = -1) (hgp : gotP q pk = (0, false)) :
    Calls Try.prog 12 #[.slice ad l.length c, .agg #[.int .i64 pk, .int .i64 pv], .bool false] W fun e w' => e = .returned (.bool true) ∧ Below W.heap.size W w' := by
  have hb0 : Below W.heap.size W (W.alloc (.cells #[.int .i64 pk, .int .i64 pv] 37)) := (Below.refl _ _).alloc (Nat.le_refl _) _
  have hp := pairs_any (W.alloc (.cells #[.int .i64 pk, .int .i64 pv] 37)) (hl.later hb0) 50 (by decide) (by decide)
  have hpl := (pairsB_len l 50 (by decide) l.length).1
  have hs := pairs_sorted l 50
  rw [show pairsB l 50 l.length = pairs l 50 from rfl] at hpl
  rw [hq] at hp hpl hs
  have HP := Lib.hid hp; clear hp hl hq
  have HQ := Lib.hid hs; clear hs
  have HB0 := Lib.hid hb0; clear hb0
  have E0 := Lib.hid (heap_alloc_new W (.cells #[.int .i64 pk, .int .i64 pv] 37))
  go_enter Try.func12, Try.ntmps12
  go_wp2_with fail
  refine HP.out.mono ?_
  rintro e w1 ⟨ad1, c1, rfl, p1, n1, b1⟩
  have P1 := Lib.hid p1; clear p1 n1
  have E1 := Lib.hid ((b1.block W.heap.size (by simp)).trans E0.out)
  have B1 := Lib.hid (HB0.out.trans (b1.mono (by simp))); clear b1
  go_wp2_with fail
  refine (new_any 400 w1).mono ?_
  rintro e w2 ⟨rfl, o2, b2⟩
  have S2 := Lib.hid (St.begin B1.out o2 b2)
  have K2 := Lib.hid (PK.begin P1.out b2)
  have Q2 := Lib.hid (Kp.mk ((b2.block W.heap.size (Array.getElem?_eq_some_iff.1 E1.out).1).trans E1.out) (fun hf => by have := (Array.getElem?_eq_some_iff.1 E1.out).1; have hf2 : W.heap.size = w1.heap.size := hf; omega) : Kp w2 (fun b => b = w1.heap.size) W.heap.size (.cells #[.int .i64 pk, .int .i64 pv] 37 (0, 0)))
  clear o2 b2
  have la := laid_any q.length w2 w1.heap.size _ _ ad1 c1 q (Nat.le_refl _) (by omega) S2.out.arena K2.out (by rw [newA_room (by omega) (by omega), newA_slots]; simp; omega)
  have LA := Lib.hid la; clear la
  go_wp2_with fail
  refine LA.out.mono ?_
  rintro e w3 ⟨t, a3, rfl, ⟨F3, o3, g3⟩, x3, l3, t3, al3⟩
  have H3 := Lib.hid (Has.mk (S2.out.grow g3 o3) t3 (x3.1.trans (newA_room (by omega) (by omega))) (by rw [l3, newA_slots]; simp) x3.2.1 : Has W w3 w1.heap.size a3 F3 t q (400))
  have K3 := Lib.hid (K2.out.grow g3)
  have Q3 := Lib.hid (Q2.out.grow g3)
  clear o3 g3 x3 l3 t3 al3
  have hlen64 : q.length ≤ 1000 := by omega
  have tr3 := H3.out.tr
  have rm3 := H3.out.room
  have us3 := H3.out.used
  have st3 := H3.out.steps
  have S3 := Lib.hid H3.out.st
  have hgq := hgt_le q
  have hil := ins_len q (pk, pv)
  have hw := withP_ins q (pk, pv) HQ.out
  have HW := Lib.hid hw; clear hw
  obtain ⟨a4, u, e4, tu, x4, f4, l4⟩ := putO_room tr3 HQ.out (by omega) S3.out.fits pk pv (by omega)
  rw [hgp] at e4
  simp only [] at e4
  have tr4 := tr3.ext x4
  have st4 : a4.steps = 0 := x4.2.1.trans st3
  have hu4 : (a4.slots.length : Int) ≤ 1000 := by omega
  have hd : (a4.slots.length : Int) - (q.length : Int) ≤ 2 * (hgt q : Int) + 2 := by omega
  have hgb : (hgt q : Int) ≤ 50 := by omega
  have us3i : (a3.slots.length : Int) = (q.length : Int) := by omega
  have HUS := Lib.hid us3i; clear us3i us3
  have c := used_any S3.out.arena
  rw [show usedO (some a3) = (a3.slots.length : Int) from rfl, HUS.out] at c
  have C := Lib.hid c; clear c
  go_wp2_with fail
  refine (C.out).mono ?_
  rintro e w' ⟨rfl, rfl⟩
  clear C
  have q3c0_4 := cell_blk (i := 0) Q3.out.at_ rfl
  have q3c1_4 := cell_blk (i := 1) Q3.out.at_ rfl
  have cc := putO_any S3.out.arena t pk pv
  rw [e4] at cc
  have CC := Lib.hid cc; clear cc
  go_wp2_with fail
  refine CC.out.mono ?_
  rintro e w5 ⟨rfl, m5⟩
  clear CC
  clear q3c0_4 q3c1_4
  obtain ⟨F5, o5, g5⟩ := Made.out m5
  have S5 := Lib.hid (S3.out.grow g5 o5)
  have K5 := Lib.hid (K3.out.grow g5)
  have Q5 := Lib.hid (Q3.out.grow g5)
  clear m5 o5 g5
  have q5c0_5 := cell_blk (i := 0) Q5.out.at_ rfl
  have q5c1_5 := cell_blk (i := 1) Q5.out.at_ rfl
  have c := find_any _ K5.out.pin pk
  rw [hfi] at c
  have C := Lib.hid c; clear c
  go_wp2_with fail
  refine (C.out).mono ?_
  rintro e w6 ⟨rfl, b6⟩
  clear q5c0_5 q5c1_5
  have S6 := Lib.hid (S5.out.later b6)
  have K6 := Lib.hid (K5.out.later b6)
  have Q6 := Lib.hid (Q5.out.below b6)
  clear b6
  clear C
  have q6c0_6 := cell_blk (i := 0) Q6.out.at_ rfl
  have q6c1_6 := cell_blk (i := 1) Q6.out.at_ rfl
  have cw := with_any _ K6.out.pin (by omega) (pk, pv)
  rw [HW.out] at cw
  have CW := Lib.hid cw; clear cw
  go_wp2_with fail
  refine CW.out.mono ?_
  rintro e w7 ⟨adV, cV, rfl, pp, np, b7⟩
  clear CW
  clear q6c0_6 q6c1_6
  have S7 := Lib.hid (S6.out.later b7)
  have K7 := Lib.hid (K6.out.later b7)
  have Q7 := Lib.hid (Q6.out.below b7)
  have V7 := Lib.hid (PK.mk pp (fun _ x hx hf => by have := np x hx; have := S6.out.arena.lt _ hf; omega))
  clear b7 pp np
  have HS := Lib.hid (says_any _ _ _ _ _ u _ _ (ins q (pk, pv)) (Nat.le_refl _) (by first | omega | (have := ins_len q (pk, pv); omega)) S7.out.arena V7.out tu)
  go_wp2_with fail
  refine (HS.out).mono ?_
  rintro e w8 ⟨rfl, b8⟩
  have S8 := Lib.hid (S7.out.later b8)
  have K8 := Lib.hid (K7.out.later b8)
  have V8 := Lib.hid (V7.out.later b8)
  have Q8 := Lib.hid (Q7.out.below b8)
  clear b8
  clear HS
  have HS := Lib.hid (says_any _ _ _ _ _ t _ _ q (Nat.le_refl _) (by first | omega | (have := ins_len q (pk, pv); omega)) S8.out.arena K8.out tr4)
  go_wp2_with fail
  refine (HS.out).mono ?_
  rintro e w9 ⟨rfl, b9⟩
  have S9 := Lib.hid (S8.out.later b9)
  have K9 := Lib.hid (K8.out.later b9)
  have V9 := Lib.hid (V8.out.later b9)
  have Q9 := Lib.hid (Q8.out.below b9)
  clear b9
  clear HS
  have c := used_any S9.out.arena
  rw [show usedO (some a4) = (a4.slots.length : Int) from rfl] at c
  have C := Lib.hid c; clear c
  go_wp2_with fail
  refine (C.out).mono ?_
  rintro e w' ⟨rfl, rfl⟩
  clear C
  have c := high_any _ _ _ _ q (Nat.le_refl _) (by omega) K9.out.pin
  have C := Lib.hid c; clear c
  go_wp2_with fail
  refine (C.out).mono ?_
  rintro e w11 ⟨rfl, b11⟩
  have S11 := Lib.hid (S9.out.later b11)
  have K11 := Lib.hid (K9.out.later b11)
  have V11 := Lib.hid (V9.out.later b11)
  have Q11 := Lib.hid (Q9.out.below b11)
  clear b11
  clear C
  have c := steps_any S11.out.arena
  rw [show stepsO (some a4) = a4.steps from rfl, st4] at c
  have C := Lib.hid c; clear c
  go_wp2_with fail
  refine (C.out).mono ?_
  rintro e w' ⟨rfl, rfl⟩
  clear C
  go_wp2_with (go_at_call 33; refine (awake5_any W _ S11.out.below).mono ?_; rintro e wz ⟨rfl, bz⟩)
  go_ret
  exact ⟨rfl, bz⟩

theorem putForms_walk (W : World) {ad : Option Addr} {c : Nat} {l : List Pr} (hl : PIn W ad c l) (hokl : okP l) (pk pv : Int) (hpk : -9223372036854775808 ≤ pk ∧ pk ≤ 9223372036854775807) (hpv : -9223372036854775808 ≤ pv ∧ pv ≤ 9223372036854775807) (add : Bool) :
    Calls Try.prog 12 #[.slice ad l.length c, .agg #[.int .i64 pk, .int .i64 pv], .bool add] W fun e w' => e = .returned (.bool true) ∧ Below W.heap.size W w' := by
  rcases find_cases (pairs_sorted l 50) pk with ⟨k, hk, _, h1, h2⟩ | ⟨h1, h2, _⟩
  · cases add with
    | true => exact putForms_1 W hl pk pv _ rfl k hk h1 h2
    | false => exact putForms_3 W hl pk pv _ rfl k hk h1 h2
  · cases add with
    | true => exact putForms_2 W hl pk pv _ rfl h1 h2
    | false => exact putForms_4 W hl pk pv _ rfl h1 h2

end Go.Proofs.Ytakgknoldkfekaa
