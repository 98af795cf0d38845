/- The walk of the law SoundOne. -/
import Derived.Test.YtkcfkanfdbejiaaAwake10
import Derived.Test.YtkcfkanfdbejiaaRefW
import Derived.Test.YtkcfkanfdbejiaaWMore
namespace Go.Proofs.Ytkcfkanfdbejiaa
set_option maxRecDepth 100000
open Go.RowKit Go.Proofs.YtkcfkanfdbejiaaW.PrintWords Go.Proofs.YtkcfkanfdbejiaaW.PrintLast
set_option linter.unusedSimpArgs false
set_option linter.unusedVariables false

set_option maxRecDepth 100000 in
set_option maxHeartbeats 4000000 in
theorem soundOne_walk (W : World) {ad : Option Addr} {c : Nat} {l : List Pr} (hl : PIn W ad c l) (hokl : okP l) {ad2 : Option Addr} {c2 : Nat} {l2 : List Pr} (hl2 : PIn W ad2 c2 l2) (hok2 : okP l2) (pk pv : Int) (hpk : -9223372036854775808 ≤ pk ∧ pk ≤ 9223372036854775807) (hpv : -9223372036854775808 ≤ pv ∧ pv ≤ 9223372036854775807) :
    Calls Try.prog 3 #[.slice ad l.length c, .slice ad2 l2.length c2, .agg #[.int .i64 pk, .int .i64 pv]] W fun e w' => e = .returned (.bool true) ∧ Below W.heap.size W w' := by
  have hb0 : Below W.heap.size W (W.alloc (.cells #[.int .i64 pk, .int .i64 pv] 24)) := (Below.refl _ _).alloc (Nat.le_refl _) _
  have hp := pairs_any (W.alloc (.cells #[.int .i64 pk, .int .i64 pv] 24)) (hl.later hb0) 40 (by decide) (by decide)
  have hpl := (pairsB_len l 40 (by decide) l.length).1
  have hs := pairs_sorted l 40
  have hok := pairs_ok 40 hokl
  rw [show pairsB l 40 l.length = pairs l 40 from rfl] at hpl
  generalize pairs l 40 = q at hp hpl hs hok
  have HP := Lib.hid hp; clear hp hl
  have HQ := Lib.hid hs; clear hs
  have HOK := Lib.hid hok; clear hok hokl
  have HB0 := Lib.hid hb0; clear hb0
  have E0 := Lib.hid (heap_alloc_new W (.cells #[.int .i64 pk, .int .i64 pv] 24))
  have hp2f := fun (w' : World) (hb : Below W.heap.size W w') => pairs_any w' (hl2.later hb) 40 (by decide) (by decide)
  have hpl2 := (pairsB_len l2 40 (by decide) l2.length).1
  have hs2 := pairs_sorted l2 40
  rw [show pairsB l2 40 l2.length = pairs l2 40 from rfl] at hpl2
  generalize pairs l2 40 = q2 at hp2f hpl2 hs2
  have HPF := Lib.hid hp2f; clear hp2f hl2
  have HQ2 := Lib.hid hs2; clear hs2 hok2
  go_enter Try.func3, Try.ntmps3
  go_wp2_with fail
  refine HP.out.mono ?_
  rintro e w1 ⟨ad1, c1, rfl, p1, n1, b1⟩
  have P1 := Lib.hid p1; clear p1 n1
  have E1 := Lib.hid ((b1.block W.heap.size (by simp)).trans E0.out)
  have B1 := Lib.hid (HB0.out.trans (b1.mono (by simp))); clear b1
  have cp2 := HPF.out w1 B1.out
  have CP2 := Lib.hid cp2; clear cp2
  go_wp2_with fail
  refine CP2.out.mono ?_
  rintro e w2 ⟨ad3, c3, rfl, p2, n2, b2⟩
  have P1b := Lib.hid (P1.out.later b2)
  have P2 := Lib.hid p2
  have E1b := Lib.hid ((b2.block W.heap.size (Array.getElem?_eq_some_iff.1 E1.out).1).trans E1.out)
  have B2 := Lib.hid (B1.out.trans (b2.mono B1.out.size))
  clear p2 n2 b2
  go_wp2_with fail
  refine (new_any 400 w2).mono ?_
  rintro e w3 ⟨rfl, o3, b3⟩
  have S3 := Lib.hid (St.begin B2.out o3 b3)
  have K3 := Lib.hid (PK.begin P1b.out b3)
  have V3 := Lib.hid (PK.begin P2.out b3)
  have Q3 := Lib.hid (Kp.mk ((b3.block W.heap.size (Array.getElem?_eq_some_iff.1 E1b.out).1).trans E1b.out) (fun hf => by have := (Array.getElem?_eq_some_iff.1 E1b.out).1; have hf2 : W.heap.size = w2.heap.size := hf; omega) : Kp w3 (fun b => b = w2.heap.size) W.heap.size (.cells #[.int .i64 pk, .int .i64 pv] 24 (0, 0)))
  clear o3 b3
  have rn : (newA 400).room = 400 := newA_room (by omega) (by omega)
  have sn : (newA 400).slots.length = 0 := by rw [newA_slots]; rfl
  have cl := laid_any _ _ w2.heap.size _ _ ad1 c1 q (Nat.le_refl _) (by omega) S3.out.arena K3.out (by omega)
  have CL := Lib.hid cl; clear cl
  go_wp2_with fail
  refine CL.out.mono ?_
  rintro e w4 ⟨t, a4, rfl, ⟨F4, o4, g4⟩, xa4, la4, tt, al4⟩
  clear CL
  have S4 := Lib.hid (S3.out.grow g4 o4)
  have K4 := Lib.hid (K3.out.grow g4)
  have V4 := Lib.hid (V3.out.grow g4)
  have Q4 := Lib.hid (Q3.out.grow g4)
  clear o4 g4 al4
  have r4 := xa4.1
  have cl := laid_any _ _ w2.heap.size _ _ ad1 c1 q (Nat.le_refl _) (by omega) S4.out.arena K4.out (by omega)
  have CL := Lib.hid cl; clear cl
  go_wp2_with fail
  refine CL.out.mono ?_
  rintro e w5 ⟨u, a5, rfl, ⟨F5, o5, g5⟩, xa5, la5, tu, al5⟩
  clear CL
  have S5 := Lib.hid (S4.out.grow g5 o5)
  have K5 := Lib.hid (K4.out.grow g5)
  have V5 := Lib.hid (V4.out.grow g5)
  have Q5 := Lib.hid (Q4.out.grow g5)
  clear o5 g5 al5
  have r5 := xa5.1
  have cl := laid_any _ _ w2.heap.size _ _ ad3 c3 q2 (Nat.le_refl _) (by omega) S5.out.arena V5.out (by omega)
  have CL := Lib.hid cl; clear cl
  go_wp2_with fail
  refine CL.out.mono ?_
  rintro e w6 ⟨z, a6, rfl, ⟨F6, o6, g6⟩, xa6, la6, tz, al6⟩
  clear CL
  have S6 := Lib.hid (S5.out.grow g6 o6)
  have K6 := Lib.hid (K5.out.grow g6)
  have V6 := Lib.hid (V5.out.grow g6)
  have Q6 := Lib.hid (Q5.out.grow g6)
  clear o6 g6 al6
  have r6 := xa6.1
  have tt6 := (tt.ext xa5).ext xa6
  have tu6 := tu.ext xa6
  have hroom : (a6.slots.length : Int) < a6.room := by omega
  have m1 := mayO_tr tt6 HQ.out (by omega)
  have m2 := mayO_tr tu6 HQ.out (by omega)
  have m3 := mayO_tr tz HQ2.out (by omega)
  have M1 := Lib.hid m1; have M2 := Lib.hid m2; have M3 := Lib.hid m3; have T6 := Lib.hid tt6; have U6 := Lib.hid tu6; have Z6 := Lib.hid tz; have RM := Lib.hid hroom
  clear m1 m2 m3 tt tu tz tt6 tu6 xa4 xa5 xa6 la4 la5 la6 r4 r5 r6 rn sn hroom
  have hq40 : q.length ≤ 40 := by omega
  have hq40b : q2.length ≤ 40 := by omega
  obtain ⟨d, hd⟩ : ∃ d, decide (q = q2) = d := ⟨_, rfl⟩
  have HD := Lib.hid hd; clear hd
  have qd : (d != d) = false := by simp
  have c := mayO_any S6.out.arena t
  rw [M1.out] at c
  have C := Lib.hid c; clear c
  go_wp2_with fail
  refine (C.out).mono ?_
  rintro e w7 ⟨rfl, b7⟩
  have S7 := Lib.hid (S6.out.later b7)
  have K7 := Lib.hid (K6.out.later b7)
  have V7 := Lib.hid (V6.out.later b7)
  have Q7 := Lib.hid (Q6.out.below b7)
  clear b7
  clear C
  have c := mayO_any S7.out.arena u
  rw [M2.out] at c
  have C := Lib.hid c; clear c
  go_wp2_with fail
  refine (C.out).mono ?_
  rintro e w8 ⟨rfl, b8⟩
  have S8 := Lib.hid (S7.out.later b8)
  have K8 := Lib.hid (K7.out.later b8)
  have V8 := Lib.hid (V7.out.later b8)
  have Q8 := Lib.hid (Q7.out.below b8)
  clear b8
  clear C
  have c := mayO_any S8.out.arena z
  rw [M3.out] at c
  have C := Lib.hid c; clear c
  go_wp2_with fail
  refine (C.out).mono ?_
  rintro e w9 ⟨rfl, b9⟩
  have S9 := Lib.hid (S8.out.later b9)
  have K9 := Lib.hid (K8.out.later b9)
  have V9 := Lib.hid (V8.out.later b9)
  have Q9 := Lib.hid (Q8.out.below b9)
  clear b9
  clear C
  have c := sameO_any S9.out.arena T6.out U6.out (by omega)
  rw [show decide (q = q) = true from decide_eq_true rfl] at c
  have C := Lib.hid c; clear c
  go_wp2_with fail
  refine (C.out).mono ?_
  rintro e w10 ⟨rfl, b10⟩
  have S10 := Lib.hid (S9.out.later b10)
  have K10 := Lib.hid (K9.out.later b10)
  have V10 := Lib.hid (V9.out.later b10)
  have Q10 := Lib.hid (Q9.out.below b10)
  clear b10
  clear C
  have c := sameO_any S10.out.arena T6.out Z6.out (by omega)
  rw [HD.out] at c
  have C := Lib.hid c; clear c
  go_wp2_with fail
  refine (C.out).mono ?_
  rintro e w11 ⟨rfl, b11⟩
  have S11 := Lib.hid (S10.out.later b11)
  have K11 := Lib.hid (K10.out.later b11)
  have V11 := Lib.hid (V10.out.later b11)
  have Q11 := Lib.hid (Q10.out.below b11)
  clear b11
  clear C
  have c := same_any _ K11.out.pin V11.out.pin
  rw [HD.out] at c
  have C := Lib.hid c; clear c
  go_wp2_with fail
  refine (C.out).mono ?_
  rintro e w12 ⟨rfl, b12⟩
  have S12 := Lib.hid (S11.out.later b12)
  have K12 := Lib.hid (K11.out.later b12)
  have V12 := Lib.hid (V11.out.later b12)
  have Q12 := Lib.hid (Q11.out.below b12)
  clear b12
  clear C
  by_cases hq0 : q.length = 0
  · have g0 : ((q.length : Int) == 0) = true := beq_iff_eq.2 (by omega)
    clear hq0
    have q12c0_12 := cell_blk (i := 0) Q12.out.at_ rfl
    have q12c1_12 := cell_blk (i := 1) Q12.out.at_ rfl
    go_wp2_with fail
    go_quiet (fail)
    clear q12c0_12 q12c1_12
    go_wp2_with (go_at_call 18; refine (awake10_any W _ (S12.out.later (by exact ⟨rfl, rfl, rfl, Nat.le_refl _, fun _ _ => rfl⟩)).below).mono ?_; rintro e wz ⟨rfl, bz⟩)
    go_ret
    exact ⟨rfl, bz⟩
  · have hpos : 0 < q.length := by omega
    have g0 : ((q.length : Int) == 0) = false := beq_eq_false_iff_ne.2 (by omega)
    obtain ⟨b, off, hbo, hcell⟩ := K12.out.cells (show q.length - 1 < q.length by omega)
    subst hbo
    have HC := Lib.hid hcell
    obtain ⟨z0, z1⟩ := hcell _ _ K12.out
    clear hcell
    have hbl := World.block_lt_of_cell? _ _ z0
    simp only [] at hbl
    obtain ⟨lk, hlk⟩ : ∃ lk, (q[q.length - 1]).1 = lk := ⟨_, rfl⟩
    rw [hlk] at z0
    clear z1
    have i1 : ((q.length : Int) - 1).toNat = q.length - 1 := by omega
    have w1x : IntKind.i64.wrap ((q.length : Int) - 1) = (q.length : Int) - 1 := IntWalk.i64_in _ (by omega)
    have l1x : (0 : Int) ≤ (q.length : Int) - 1 := by omega
    have l2x : (q.length : Int) - 1 < (q.length : Int) := by omega
    have l3x : q.length - 1 < q.length := by omega
    have l4x : (1 : Int) ≤ (q.length : Int) := by omega
    have HLK := Lib.hid hlk; clear hlk
    by_cases hle : pk ≤ lk
    · have hle2 : decide (pk ≤ lk) = true := decide_eq_true hle
      have q12c0_12 := cell_blk (i := 0) Q12.out.at_ rfl
      have q12c1_12 := cell_blk (i := 1) Q12.out.at_ rfl
      go_wp2_with fail
      go_quiet (fail)
      clear q12c0_12 q12c1_12
      clear i1 w1x l1x l2x l3x l4x z0
      go_wp2_with (go_at_call 18; refine (awake10_any W _ (S12.out.later (by exact ⟨rfl, rfl, rfl, Nat.le_refl _, fun _ _ => rfl⟩)).below).mono ?_; rintro e wz ⟨rfl, bz⟩)
      go_ret
      exact ⟨rfl, bz⟩
    · have hle2 : decide (pk ≤ lk) = false := decide_eq_false hle
      have hle3 : ¬ (pk ≤ lk) := hle
      have q12c0_12 := cell_blk (i := 0) Q12.out.at_ rfl
      have q12c1_12 := cell_blk (i := 1) Q12.out.at_ rfl
      go_wp2_with fail
      go_quiet (fail)
      clear q12c0_12 q12c1_12
      clear i1 w1x l1x l2x l3x l4x z0 hle2 g0
      have hall : ∀ p ∈ q, p.1 < pk := by
        intro p hp
        obtain ⟨j, hj, rfl⟩ := List.getElem_of_mem hp
        have hk := HLK.out
        by_cases hjl : j = q.length - 1
        · subst hjl; omega
        · have h1 := HQ.out.lt (show j < q.length - 1 by omega) (show q.length - 1 < q.length by omega)
          rw [keyAt_eq hj, keyAt_eq (by omega)] at h1; omega
      have hqn : q ≠ [] := fun e => by rw [e] at hpos; simp at hpos
      obtain ⟨a7, e7, x7, l7, ov7⟩ := make_over (y := 0) (l2 := []) T6.out .nil HQ.out List.Pairwise.nil (by omega) (by decide) RM.out pk pv
      obtain ⟨rn_, rk⟩ := T6.out.rootKey hqn
      obtain ⟨tb1, tb2, tb3⟩ := top_bd q
      obtain ⟨i, hi⟩ : ∃ i : Nat, top q = i := ⟨(top q).toNat, by have := tb3 hpos; omega⟩
      have hil : i < q.length := by omega
      rw [hi, Int.toNat_natCast, keyAt_eq hil] at rk
      obtain ⟨ik, hik⟩ : ∃ ik, (q[i]).1 = ik := ⟨_, rfl⟩
      rw [hik] at rk
      obtain ⟨nn, hnn⟩ : ∃ n, (a6.slots.length : Int) + 1 = n := ⟨_, rfl⟩
      rw [hnn] at e7 ov7
      have mm := ov7.fine hall (fun p hp => by cases hp)
      rw [show aboveO (some a7) pk 0 = true by unfold aboveO; rw [isN_zero]; rfl, show aboveO (some a7) pk t = Mix.above pk ik by unfold aboveO; rw [x7.node rn_, x7.says rn_, rk]; rfl] at mm
      simp at mm
      obtain ⟨ab, hab⟩ : ∃ ab, Mix.above pk ik = ab := ⟨_, rfl⟩
      rw [hab] at mm
      have cm := (fun (w' : World) (hb : Below w12.heap.size w12 w') => nmake_any (S12.out.later hb).arena pk pv t 0)
      rw [e7] at cm
      have CM := Lib.hid cm
      have HI := Lib.hid hi; have HIK := Lib.hid hik; have HAB := Lib.hid hab; have MM := Lib.hid mm
      clear hi hik hab mm e7 ov7 x7 l7 rn_ rk tb1 tb2 tb3 hnn hall hqn hle3 cm
      have p0 := cell_blk (i := 0) Q12.out.at_ rfl
      have p1 := cell_blk (i := 1) Q12.out.at_ rfl
      go_wp2_with fail
      refine (CM.out _ (by exact ⟨rfl, rfl, rfl, Nat.le_refl _, fun _ _ => rfl⟩)).mono ?_
      rintro e w50 ⟨rfl, m50⟩
      clear CM p0 p1
      obtain ⟨F50, o50, g50⟩ := Made.out m50
      have S50 := Lib.hid ((S12.out.later (by exact ⟨rfl, rfl, rfl, Nat.le_refl _, fun _ _ => rfl⟩)).grow g50 o50)
      have K50 := Lib.hid ((K12.out.later (by exact ⟨rfl, rfl, rfl, Nat.le_refl _, fun _ _ => rfl⟩)).grow g50)
      have Q50 := Lib.hid ((Q12.out.below (by exact ⟨rfl, rfl, rfl, Nat.le_refl _, fun _ _ => rfl⟩)).grow g50)
      clear m50 o50 g50
      obtain ⟨b4, off4, hb4, hc4⟩ := K50.out.cells hil
      obtain ⟨rfl, rfl⟩ : b = b4 ∧ off = off4 := by simpa using hb4
      obtain ⟨y0, _⟩ := hc4 _ _ K50.out
      rw [HIK.out] at y0
      have Y0 := Lib.hid y0
      have hbl2 : b < w50.heap.size := World.block_lt_of_cell? _ _ y0
      have X0 := Lib.hid (cell_blk (i := 0) Q50.out.at_ rfl)
      have hql2 : W.heap.size < w50.heap.size := Q50.out.lt
      clear y0 hc4 hb4
      have hil1 : (i : Int) < (q.length : Int) := by omega
      have hil0 : (0 : Int) ≤ (i : Int) := by omega
      have qab := beq_self_eq_true ab
      have cma := fun w' (hb : Below w50.heap.size w50 w') => mayO_any (S50.out.later hb).arena nn
      rw [MM.out] at cma
      have cto := fun w' (hb : Below w50.heap.size w50 w') => top_any w' (K50.out.later hb).pin
      rw [HI.out] at cto
      have cab := fun w' (hb : Below w50.heap.size w50 w') => above1_any pk ik w'
      rw [HAB.out] at cab
      have caw := fun w' (hb : Below w50.heap.size w50 w') => awake10_any w' w' (Below.refl _ _)
      have CMA := Lib.hid cma; have CTO := Lib.hid cto; have CAB := Lib.hid cab; have CAW := Lib.hid caw; clear cma cto cab caw
      have BD := Lib.hid (Below.refl w50.heap.size w50).drew
      go_wp2_with fail
      refine start_ (n := 21) (S := fun w' => w'.cell? ⟨W.heap.size, 0, none⟩ = some (.int .i64 pk) ∧ w'.cell? ⟨b, off + i * 2, none⟩ = some (.int .i64 ik)) (ds := []) #[false, false, false, false, false, false, false, false, false, false, false, false, false, false, false, false, false, false, false, false, false] (by kernel_rfl) rfl rfl ⟨X0.out, Y0.out⟩ (fun hHeld => ?_)
      refine pure_ (i := 0) (N := some 109) (v := ?_) (a' := ?_) #[true, false, false, false, false, false, false, false, false, false, false, false, false, false, false, false, false, false, false, false, false] rfl rfl (by kernel_rfl) (fun _ _ _ h => h) (Or.inl ⟨by rfl, ?_⟩) ?_ ?_
      rotate_left
      · intro w'
        go_simp
        with_reducible rfl
      rotate_left
      · simp only [Act.put, List.setIfInBounds_toArray, List.set_cons_zero, List.set_cons_succ, i64_w, i32_w]
        rfl
      refine pure_ (i := 1) (N := some 110) (v := ?_) (a' := ?_) #[true, true, false, false, false, false, false, false, false, false, false, false, false, false, false, false, false, false, false, false, false] rfl rfl (by kernel_rfl) (fun _ _ _ h => h) (Or.inl ⟨by rfl, ?_⟩) ?_ ?_
      rotate_left
      · intro w'
        go_simp
        with_reducible rfl
      rotate_left
      · simp only [Act.put, List.setIfInBounds_toArray, List.set_cons_zero, List.set_cons_succ, i64_w, i32_w]
        rfl
      refine pure_ (i := 2) (N := some 111) (v := ?_) (a' := ?_) #[true, true, true, false, false, false, false, false, false, false, false, false, false, false, false, false, false, false, false, false, false] rfl rfl (by kernel_rfl) (fun _ _ _ h => h) (Or.inl ⟨by rfl, ?_⟩) ?_ ?_
      rotate_left
      · intro w'
        go_simp
        with_reducible rfl
      rotate_left
      · simp only [Act.put, List.setIfInBounds_toArray, List.set_cons_zero, List.set_cons_succ, i64_w, i32_w]
        rfl
      refine pure_ (i := 3) (N := some 112) (v := ?_) (a' := ?_) #[true, true, true, true, false, false, false, false, false, false, false, false, false, false, false, false, false, false, false, false, false] rfl rfl (by kernel_rfl) (fun _ _ _ h => h) (Or.inl ⟨by rfl, ?_⟩) ?_ ?_
      rotate_left
      · intro w'
        go_simp
        with_reducible rfl
      rotate_left
      · simp only [Act.put, List.setIfInBounds_toArray, List.set_cons_zero, List.set_cons_succ, i64_w, i32_w]
        rfl
      refine pure_ (i := 4) (N := some 113) (v := ?_) (a' := ?_) #[true, true, true, true, true, false, false, false, false, false, false, false, false, false, false, false, false, false, false, false, false] rfl rfl (by kernel_rfl) (fun _ _ _ h => h) (Or.inl ⟨by rfl, ?_⟩) ?_ ?_
      rotate_left
      · intro w'
        go_simp
        with_reducible rfl
      rotate_left
      · simp only [Act.put, List.setIfInBounds_toArray, List.set_cons_zero, List.set_cons_succ, i64_w, i32_w]
        rfl
      refine pure_ (i := 6) (N := some 115) (v := ?_) (a' := ?_) #[true, true, true, true, true, false, true, false, false, false, false, false, false, false, false, false, false, false, false, false, false] rfl rfl (by kernel_rfl) (fun _ _ _ h => h) (Or.inl ⟨by rfl, ?_⟩) ?_ ?_
      rotate_left
      · intro w'
        go_simp
        with_reducible rfl
      rotate_left
      · simp only [Act.put, List.setIfInBounds_toArray, List.set_cons_zero, List.set_cons_succ, i64_w, i32_w]
        rfl
      refine pure_ (i := 8) (N := some 117) (v := ?_) (a' := ?_) #[true, true, true, true, true, false, true, false, true, false, false, false, false, false, false, false, false, false, false, false, false] rfl rfl (by kernel_rfl) (fun _ _ _ h => h) (Or.inl ⟨by rfl, ?_⟩) ?_ ?_
      rotate_left
      · intro w'
        go_simp
        with_reducible rfl
      rotate_left
      · simp only [Act.put, List.setIfInBounds_toArray, List.set_cons_zero, List.set_cons_succ, i64_w, i32_w]
        rfl
      refine pure_ (i := 9) (N := some 118) (v := ?_) (a' := ?_) #[true, true, true, true, true, false, true, false, true, true, false, false, false, false, false, false, false, false, false, false, false] rfl rfl (by kernel_rfl) (fun _ _ _ h => h) (Or.inl ⟨by rfl, ?_⟩) ?_ ?_
      rotate_left
      · intro w'
        go_simp
        with_reducible rfl
      rotate_left
      · simp only [Act.put, List.setIfInBounds_toArray, List.set_cons_zero, List.set_cons_succ, i64_w, i32_w]
        rfl
      refine take_ (i := 7) (N := some 116) (v := ?_) (a' := ?_) #[true, true, true, true, true, false, true, true, true, true, false, false, false, false, false, false, false, false, false, false, false] rfl rfl (by kernel_rfl) (fun _ _ _ h => h) (Or.inl ⟨by rfl, ?_⟩) hHeld ?_ ?_
      rotate_left
      · rintro w' ⟨s0, s1⟩
        go_simp
        with_reducible rfl
      rotate_left
      · simp only [Act.put, List.setIfInBounds_toArray, List.set_cons_zero, List.set_cons_succ, i64_w, i32_w]
        rfl
      refine one_ (i := 5) (N := some 114) #[true, true, true, true, true, true, true, true, true, true, false, false, false, false, false, false, false, false, false, false, false] rfl rfl (by kernel_rfl) (by decide) (fun K hK => ?_)
      refine goes_ Try.func15 (by kernel_rfl) rfl #[.pointer (some ⟨w2.heap.size, 0, none⟩), .int .i64 nn] (by rfl) rfl rfl (by simp only [List.map_toArray, List.map_cons, List.map_nil]; rfl) ?_
      with_reducible refine (CMA.out _ BD.out).mono ?_
      rintro e w51 ⟨rfl, b51⟩
      refine ⟨_, rfl, ?_⟩
      have B51 := Lib.hid (BD.out.trans (b51.mono BD.out.size))
      have z51 : w50.heap.size ≤ w51.heap.size := b51.size
      refine hK.out _ _ ⟨((b51.cell (by first | omega | (simp; done) | (simp; omega))).trans hHeld.1), ((b51.cell (by first | omega | (simp; done) | (simp; omega))).trans hHeld.2)⟩ (fun hHeld => ?_)
      clear hK K
      refine norm_ (a' := ?_) ?_ ?_
      rotate_left
      · show Act.put _ (some 114) _ = _
        simp only [Act.put, List.setIfInBounds_toArray, List.set_cons_zero, List.set_cons_succ, i64_w, i32_w]
        rfl
      refine one_ (i := 10) (N := some 119) #[true, true, true, true, true, true, true, true, true, true, true, false, false, false, false, false, false, false, false, false, false] rfl rfl (by kernel_rfl) (by decide) (fun K hK => ?_)
      refine goes_ Try.func21 (by kernel_rfl) rfl #[.slice (some ⟨b, off, none⟩) q.length c1] (by rfl) rfl rfl (by simp only [List.map_toArray, List.map_cons, List.map_nil]; rfl) ?_
      with_reducible refine (CTO.out _ B51.out).mono ?_
      rintro e w52 ⟨rfl, b52⟩
      refine ⟨_, rfl, ?_⟩
      have B52 := Lib.hid (B51.out.trans (b52.mono B51.out.size))
      have z52 := b52.size
      refine hK.out _ _ ⟨((b52.cell (by first | omega | (simp; done) | (simp; omega))).trans hHeld.1), ((b52.cell (by first | omega | (simp; done) | (simp; omega))).trans hHeld.2)⟩ (fun hHeld => ?_)
      clear hK K
      refine norm_ (a' := ?_) ?_ ?_
      rotate_left
      · show Act.put _ (some 119) _ = _
        simp only [Act.put, List.setIfInBounds_toArray, List.set_cons_zero, List.set_cons_succ, i64_w, i32_w]
        rfl
      refine pure_ (i := 11) (N := some 120) (v := ?_) (a' := ?_) #[true, true, true, true, true, true, true, true, true, true, true, true, false, false, false, false, false, false, false, false, false] rfl rfl (by kernel_rfl) (fun _ _ _ h => h) (Or.inl ⟨by rfl, ?_⟩) ?_ ?_
      rotate_left
      · intro w'
        go_simp
        with_reducible rfl
      rotate_left
      · simp only [Act.put, List.setIfInBounds_toArray, List.set_cons_zero, List.set_cons_succ, i64_w, i32_w]
        rfl
      refine pure_ (i := 12) (N := some 121) (v := ?_) (a' := ?_) #[true, true, true, true, true, true, true, true, true, true, true, true, true, false, false, false, false, false, false, false, false] rfl rfl (by kernel_rfl) (fun _ _ _ h => h) (Or.inl ⟨by rfl, ?_⟩) ?_ ?_
      rotate_left
      · intro w'
        go_simp
        with_reducible rfl
      rotate_left
      · simp only [Act.put, List.setIfInBounds_toArray, List.set_cons_zero, List.set_cons_succ, i64_w, i32_w]
        rfl
      refine take_ (i := 13) (N := some 122) (v := ?_) (a' := ?_) #[true, true, true, true, true, true, true, true, true, true, true, true, true, true, false, false, false, false, false, false, false] rfl rfl (by kernel_rfl) (fun _ _ _ h => h) (Or.inl ⟨by rfl, ?_⟩) hHeld ?_ ?_
      rotate_left
      · rintro w' ⟨s0, s1⟩
        go_simp
        with_reducible rfl
      rotate_left
      · simp only [Act.put, List.setIfInBounds_toArray, List.set_cons_zero, List.set_cons_succ, i64_w, i32_w]
        rfl
      refine one_ (i := 14) (N := some 123) #[true, true, true, true, true, true, true, true, true, true, true, true, true, true, true, false, false, false, false, false, false] rfl rfl (by kernel_rfl) (by decide) (fun K hK => ?_)
      refine goes_ Try.func20 (by kernel_rfl) rfl #[.int .i64 pk, .int .i64 ik] (by rfl) rfl rfl (by simp only [List.map_toArray, List.map_cons, List.map_nil]; rfl) ?_
      with_reducible refine (CAB.out _ B52.out).mono ?_
      rintro e w53 ⟨rfl, rfl⟩
      refine ⟨_, rfl, ?_⟩
      refine hK.out _ _ ⟨hHeld.1, hHeld.2⟩ (fun hHeld => ?_)
      clear hK K
      refine norm_ (a' := ?_) ?_ ?_
      rotate_left
      · show Act.put _ (some 123) _ = _
        simp only [Act.put, List.setIfInBounds_toArray, List.set_cons_zero, List.set_cons_succ, i64_w, i32_w]
        rfl
      refine pure_ (i := 15) (N := some 124) (v := ?_) (a' := ?_) #[true, true, true, true, true, true, true, true, true, true, true, true, true, true, true, true, false, false, false, false, false] rfl rfl (by kernel_rfl) (fun _ _ _ h => h) (Or.inl ⟨by rfl, ?_⟩) ?_ ?_
      rotate_left
      · intro w'
        go_simp
        with_reducible rfl
      rotate_left
      · simp only [Act.put, List.setIfInBounds_toArray, List.set_cons_zero, List.set_cons_succ, i64_w, i32_w]
        rfl
      refine pure_ (i := 16) (N := some 125) (v := ?_) (a' := ?_) #[true, true, true, true, true, true, true, true, true, true, true, true, true, true, true, true, true, false, false, false, false] rfl rfl (by kernel_rfl) (fun _ _ _ h => h) (Or.inl ⟨by rfl, ?_⟩) ?_ ?_
      rotate_left
      · intro w'
        go_simp
        with_reducible rfl
      rotate_left
      · simp only [Act.put, List.setIfInBounds_toArray, List.set_cons_zero, List.set_cons_succ, i64_w, i32_w]
        rfl
      refine pure_ (i := 17) (N := some 126) (v := ?_) (a' := ?_) #[true, true, true, true, true, true, true, true, true, true, true, true, true, true, true, true, true, true, false, false, false] rfl rfl (by kernel_rfl) (fun _ _ _ h => h) (Or.inl ⟨by rfl, ?_⟩) ?_ ?_
      rotate_left
      · intro w'
        go_simp
        with_reducible rfl
      rotate_left
      · simp only [Act.put, List.setIfInBounds_toArray, List.set_cons_zero, List.set_cons_succ, i64_w, i32_w]
        rfl
      refine one_ (i := 18) (N := some 127) #[true, true, true, true, true, true, true, true, true, true, true, true, true, true, true, true, true, true, true, false, false] rfl rfl (by kernel_rfl) (by decide) (fun K hK => ?_)
      refine goes_ Try.func18 (by kernel_rfl) rfl #[] (by rfl) rfl rfl (by simp only [List.map_toArray, List.map_cons, List.map_nil]) ?_
      with_reducible refine (CAW.out _ B52.out).mono ?_
      rintro e w54 ⟨rfl, b54⟩
      refine ⟨_, rfl, ?_⟩
      have B54 := Lib.hid (S50.out.later (B52.out.trans (b54.mono B52.out.size))).below
      have z54 := b54.size
      refine hK.out _ _ ⟨((b54.cell (by first | omega | (simp; done) | (simp; omega))).trans hHeld.1), ((b54.cell (by first | omega | (simp; done) | (simp; omega))).trans hHeld.2)⟩ (fun hHeld => ?_)
      clear hK K
      refine norm_ (a' := ?_) ?_ ?_
      rotate_left
      · show Act.put _ (some 127) _ = _
        simp only [Act.put, List.setIfInBounds_toArray, List.set_cons_zero, List.set_cons_succ, i64_w, i32_w]
        rfl
      refine pure_ (i := 19) (N := some 128) (v := ?_) (a' := ?_) #[true, true, true, true, true, true, true, true, true, true, true, true, true, true, true, true, true, true, true, true, false] rfl rfl (by kernel_rfl) (fun _ _ _ h => h) (Or.inl ⟨by rfl, ?_⟩) ?_ ?_
      rotate_left
      · intro w'
        go_simp
        with_reducible rfl
      rotate_left
      · simp only [Act.put, List.setIfInBounds_toArray, List.set_cons_zero, List.set_cons_succ, i64_w, i32_w]
        rfl
      refine pure_ (i := 20) (N := some 6) (v := ?_) (a' := ?_) #[true, true, true, true, true, true, true, true, true, true, true, true, true, true, true, true, true, true, true, true, true] rfl rfl (by kernel_rfl) (fun _ _ _ h => h) (Or.inl ⟨by rfl, ?_⟩) ?_ ?_
      rotate_left
      · intro w'
        go_simp
        with_reducible rfl
      rotate_left
      · simp only [Act.put, List.setIfInBounds_toArray, List.set_cons_zero, List.set_cons_succ, i64_w, i32_w]
        rfl
      refine done_ (by kernel_rfl) ?_
      go_wp2
      go_ret
      exact ⟨rfl, B54.out⟩

end Go.Proofs.Ytkcfkanfdbejiaa
