/- The walk of the law LookBetween. -/
import Derived.Test.YtabiiggoledipaaAwake4
import Derived.Test.YtabiiggoledipaaLookQ
import Derived.Test.YtabiiggoledipaaRefW
namespace Go.Proofs.Ytabiiggoledipaa
set_option maxRecDepth 100000
open Go.RowKit
set_option linter.unusedSimpArgs false
set_option linter.unusedVariables false

/-- How many keys are from the one on and below the other. -/
def cntB (j k : Int) (l : List Pr) : Nat := (l.filter (fun p => decide (j ≤ p.1) && decide (p.1 < k))).length
theorem cntB_snoc (j k : Int) (l : List Pr) (x : Pr) : cntB j k (l ++ [x]) = if j ≤ x.1 ∧ x.1 < k then cntB j k l + 1 else cntB j k l := by
  unfold cntB
  rw [List.filter_append, List.filter_cons]
  by_cases h : j ≤ x.1 <;> by_cases h2 : x.1 < k <;> simp [h, h2]
theorem cntB_le (j k : Int) (l : List Pr) : cntB j k l ≤ l.length := List.length_filter_le _ _
theorem below_cnt {j k : Int} (h : j ≤ k) (l : List Pr) : belowP l k = belowP l j + cntB j k l := by
  unfold belowP cntB
  induction l with
  | nil => rfl
  | cons x r ih =>
    rw [List.filter_cons, List.filter_cons, List.filter_cons]
    by_cases h1 : x.1 < j
    · have h2 : x.1 < k := by omega
      have h3 : ¬ (j ≤ x.1) := by omega
      simp [h1, h2, h3] at ih ⊢; omega
    · have h3 : j ≤ x.1 := by omega
      by_cases h2 : x.1 < k
      · simp [h1, h2, h3] at ih ⊢; omega
      · simp [h1, h2, h3] at ih ⊢; omega
theorem below_min {l : List Pr} (h : okP l) : belowP l (-9223372036854775808) = 0 := by
  unfold belowP
  rw [filter_nil (fun p hp => (h p hp).1.1)]
  rfl

set_option maxRecDepth 100000 in
set_option maxHeartbeats 4000000 in
theorem lookBetween_walk (W : World) {ad : Option Addr} {c : Nat} {l : List Pr} (hl : PIn W ad c l) (hokl : okP l) (j : Int) (hj : -9223372036854775808 ≤ j ∧ j ≤ 9223372036854775807) (k : Int) (hk : -9223372036854775808 ≤ k ∧ k ≤ 9223372036854775807) :
    Calls Try.prog 8 #[.slice ad l.length c, .int .i64 j, .int .i64 k] W fun e w' => e = .returned (.bool true) ∧ Below W.heap.size W w' := by
  have hp := pairs_any W hl 50 (by decide) (by decide)
  have hpl := (pairsB_len l 50 (by decide) l.length).1
  have hs := pairs_sorted l 50
  have hok := pairs_ok 50 hokl
  rw [show pairsB l 50 l.length = pairs l 50 from rfl] at hpl
  generalize pairs l 50 = q at hp hpl hs hok
  have HP := Lib.hid hp; clear hp hl
  have HQ := Lib.hid hs; clear hs
  have HOK := Lib.hid hok; clear hok hokl
  go_enter Try.func8, Try.ntmps8
  go_wp2_with fail
  refine HP.out.mono ?_
  rintro e w1 ⟨ad1, c1, rfl, p1, n1, b1⟩
  have P1 := Lib.hid p1; clear p1 n1
  have B1 := Lib.hid b1; clear b1
  go_wp2_with fail
  refine (new_any 100 w1).mono ?_
  rintro e w2 ⟨rfl, o2, b2⟩
  have S2 := Lib.hid (St.begin B1.out o2 b2)
  have K2 := Lib.hid (PK.begin P1.out b2)
  clear o2 b2
  have la := laid_any q.length w2 w1.heap.size _ _ ad1 c1 q (Nat.le_refl _) (by omega) S2.out.arena K2.out (by rw [newA_room (by omega) (by omega), newA_slots]; simp; omega)
  have LA := Lib.hid la; clear la
  go_wp2_with fail
  refine LA.out.mono ?_
  rintro e w3 ⟨t, a3, rfl, ⟨F3, o3, g3⟩, x3, l3, t3, al3⟩
  have H3 := Lib.hid (Has.mk (S2.out.grow g3 o3) t3 (x3.1.trans (newA_room (by omega) (by omega))) (by rw [l3, newA_slots]; simp) x3.2.1 : Has W w3 w1.heap.size a3 F3 t q (100))
  have K3 := Lib.hid (K2.out.grow g3)
  clear o3 g3 x3 l3 t3 al3
  have hlen64 : q.length ≤ 1000 := by omega
  by_cases hjk : k < j
  · go_wp2_with fail
    have HS0 := Lib.hid H3.out.st
    go_loopw [11, 30] (fun nv iv wr => ∃ k' : Nat, k' ≤ q.length ∧ iv = .int .i64 k' ∧ nv = .int .i64 (cntB k j (q.take k')) ∧ Hid (Below w3.heap.size w3 wr)) (fun _ iv _ => q.length - (intOf iv).toNat)
    case atStart => exact ⟨0, Nat.zero_le _, rfl, rfl, Lib.hid (Below.refl _ _)⟩
    case round =>
      obtain ⟨k', hk', rfl, rfl, HR⟩ := hrel
      have hz := HR.out.size
      by_cases hlt : k' < q.length
      · obtain ⟨b, off, rfl, hcell⟩ := K3.out.cells hlt
        obtain ⟨d0, d1⟩ := hcell wr F3 (K3.out.later HR.out)
        have hsn : cntB k j (q.take (k' + 1)) = if k ≤ (q[k']).1 ∧ (q[k']).1 < j then cntB k j (q.take k') + 1 else cntB k j (q.take k') := by
          rw [List.take_succ_eq_append_getElem hlt, cntB_snoc]
        have hle := cntB_le k j (q.take k')
        rw [List.length_take] at hle
        generalize cntB k j (q.take k') = m at hsn hle ⊢
        generalize q[k'] = x at hsn d0 d1
        obtain ⟨xk, xv⟩ := x
        simp only [] at hsn d0 d1
        have hbl : b < wr.heap.size := World.block_lt_of_cell? wr _ d0
        have B2 := Lib.hid (HR.out.alloc hz (.cells #[.int .i64 xk, .int .i64 xv] 25))
        clear hcell
        by_cases h1 : k ≤ xk
        · by_cases h2 : xk < j
          · rw [if_pos ⟨h1, h2⟩] at hsn
            have E2 := Lib.hid hsn; clear hsn
            go_wp2_with fail
            go_roundw
            case rel => exact ⟨k' + 1, by omega, by go_num, by rw [E2.out]; go_num, B2⟩
            case measure => simp [intOf]; omega
          · rw [if_neg (fun h => h2 h.2)] at hsn
            have E2 := Lib.hid hsn; clear hsn
            go_wp2_with fail
            go_roundw
            case rel => exact ⟨k' + 1, by omega, by go_num, by rw [E2.out], B2⟩
            case measure => simp [intOf]; omega
        · rw [if_neg (fun h => h1 h.1)] at hsn
          have E2 := Lib.hid hsn; clear hsn
          go_wp2_with fail
          go_roundw
          case rel => exact ⟨k' + 1, by omega, by go_num, by rw [E2.out], B2⟩
          case measure => simp [intOf]; omega
      · have hkl : k' = q.length := by omega
        subst hkl
        rw [List.take_length]
        have kk := K3.out
        have SR := Lib.hid (HS0.out.later HR.out)
        have KR := Lib.hid (K3.out.later HR.out)
        have e1 := lbF_tr H3.out.tr HQ.out j (fuel t) 0 (lt_fuel t) (by omega)
        have e2 := lbF_tr H3.out.tr HQ.out k (fuel t) 0 (lt_fuel t) (by omega)
        have e3 := lbF_tr H3.out.tr HQ.out (-9223372036854775808) (fuel t) 0 (lt_fuel t) (by omega)
        rw [Nat.zero_add, show ((0 : Nat) : Int) = 0 from rfl] at e1 e2 e3
        rw [below_min HOK.out] at e3
        rw [below_cnt (show k ≤ j by omega)] at e1
        have hc1 := cntB_le k j q
        have hc2 := belowP_le q k
        generalize belowP q k = bj at e1 e2 hc2
        generalize cntB k j q = cn at e1 hc1 ⊢
        have E1 := Lib.hid e1
        have E2 := Lib.hid e2
        have E3 := Lib.hid e3
        clear e1 e2 e3 kk
        have c := lookBelow_any SR.out.arena (fuel t) t j (lt_fuel t)
        rw [E1.out] at c
        have C := Lib.hid c; clear c
        go_wp2_with fail
        refine (C.out).mono ?_
        rintro e w6 ⟨rfl, b6⟩
        have S6 := Lib.hid (SR.out.later b6)
        have K6 := Lib.hid (KR.out.later b6)
        clear b6
        clear C
        have c := lookBelow_any S6.out.arena (fuel t) t k (lt_fuel t)
        rw [E2.out] at c
        have C := Lib.hid c; clear c
        go_wp2_with fail
        refine (C.out).mono ?_
        rintro e w7 ⟨rfl, b7⟩
        have S7 := Lib.hid (S6.out.later b7)
        have K7 := Lib.hid (K6.out.later b7)
        clear b7
        clear C
        have Q5 := Lib.hid (wrap_id (x := (cn : Int)) (by omega) (by omega))
        have q0 : ((bj + cn : Nat) : Int) - (bj : Int) = (cn : Int) := by omega
        have q1 : wrap64 (((bj + cn : Nat) : Int) - (bj : Int)) = (cn : Int) := by rw [q0]; exact Q5.out
        have q2 := beq_self_eq_true (cn : Int)
        have q3 : (bj : Int) + (cn : Int) - (bj : Int) = (cn : Int) := by omega
        have q4 : wrap64 ((bj : Int) + (cn : Int) - (bj : Int)) = (cn : Int) := by rw [q3]; exact Q5.out
        have c := lookBelow_any S7.out.arena (fuel t) t (-9223372036854775808) (lt_fuel t)
        rw [E3.out] at c
        have C := Lib.hid c; clear c
        go_wp2_with fail
        refine (C.out).mono ?_
        rintro e w8 ⟨rfl, b8⟩
        have S8 := Lib.hid (S7.out.later b8)
        have K8 := Lib.hid (K7.out.later b8)
        clear b8
        clear C q0 q1 q2 q3 q4
        have HM := Lib.hid (may_any _ K8.out.pin HQ.out)
        go_wp2_with fail
        refine (HM.out).mono ?_
        rintro e w9 ⟨rfl, b9⟩
        have S9 := Lib.hid (S8.out.later b9)
        have K9 := Lib.hid (K8.out.later b9)
        clear b9
        go_wp2_with (go_at_call 26; refine (awake4_any W _ S9.out.below).mono ?_; rintro e wz ⟨rfl, bz⟩)
        go_ret
        exact ⟨rfl, bz⟩
  · go_wp2_with fail
    have HS0 := Lib.hid H3.out.st
    go_loopw [11, 30] (fun nv iv wr => ∃ k' : Nat, k' ≤ q.length ∧ iv = .int .i64 k' ∧ nv = .int .i64 (cntB j k (q.take k')) ∧ Hid (Below w3.heap.size w3 wr)) (fun _ iv _ => q.length - (intOf iv).toNat)
    case atStart => exact ⟨0, Nat.zero_le _, rfl, rfl, Lib.hid (Below.refl _ _)⟩
    case round =>
      obtain ⟨k', hk', rfl, rfl, HR⟩ := hrel
      have hz := HR.out.size
      by_cases hlt : k' < q.length
      · obtain ⟨b, off, rfl, hcell⟩ := K3.out.cells hlt
        obtain ⟨d0, d1⟩ := hcell wr F3 (K3.out.later HR.out)
        have hsn : cntB j k (q.take (k' + 1)) = if j ≤ (q[k']).1 ∧ (q[k']).1 < k then cntB j k (q.take k') + 1 else cntB j k (q.take k') := by
          rw [List.take_succ_eq_append_getElem hlt, cntB_snoc]
        have hle := cntB_le j k (q.take k')
        rw [List.length_take] at hle
        generalize cntB j k (q.take k') = m at hsn hle ⊢
        generalize q[k'] = x at hsn d0 d1
        obtain ⟨xk, xv⟩ := x
        simp only [] at hsn d0 d1
        have hbl : b < wr.heap.size := World.block_lt_of_cell? wr _ d0
        have B2 := Lib.hid (HR.out.alloc hz (.cells #[.int .i64 xk, .int .i64 xv] 25))
        clear hcell
        by_cases h1 : j ≤ xk
        · by_cases h2 : xk < k
          · rw [if_pos ⟨h1, h2⟩] at hsn
            have E2 := Lib.hid hsn; clear hsn
            go_wp2_with fail
            go_roundw
            case rel => exact ⟨k' + 1, by omega, by go_num, by rw [E2.out]; go_num, B2⟩
            case measure => simp [intOf]; omega
          · rw [if_neg (fun h => h2 h.2)] at hsn
            have E2 := Lib.hid hsn; clear hsn
            go_wp2_with fail
            go_roundw
            case rel => exact ⟨k' + 1, by omega, by go_num, by rw [E2.out], B2⟩
            case measure => simp [intOf]; omega
        · rw [if_neg (fun h => h1 h.1)] at hsn
          have E2 := Lib.hid hsn; clear hsn
          go_wp2_with fail
          go_roundw
          case rel => exact ⟨k' + 1, by omega, by go_num, by rw [E2.out], B2⟩
          case measure => simp [intOf]; omega
      · have hkl : k' = q.length := by omega
        subst hkl
        rw [List.take_length]
        have kk := K3.out
        have SR := Lib.hid (HS0.out.later HR.out)
        have KR := Lib.hid (K3.out.later HR.out)
        have e1 := lbF_tr H3.out.tr HQ.out k (fuel t) 0 (lt_fuel t) (by omega)
        have e2 := lbF_tr H3.out.tr HQ.out j (fuel t) 0 (lt_fuel t) (by omega)
        have e3 := lbF_tr H3.out.tr HQ.out (-9223372036854775808) (fuel t) 0 (lt_fuel t) (by omega)
        rw [Nat.zero_add, show ((0 : Nat) : Int) = 0 from rfl] at e1 e2 e3
        rw [below_min HOK.out] at e3
        rw [below_cnt (show j ≤ k by omega)] at e1
        have hc1 := cntB_le j k q
        have hc2 := belowP_le q j
        generalize belowP q j = bj at e1 e2 hc2
        generalize cntB j k q = cn at e1 hc1 ⊢
        have E1 := Lib.hid e1
        have E2 := Lib.hid e2
        have E3 := Lib.hid e3
        clear e1 e2 e3 kk
        have c := lookBelow_any SR.out.arena (fuel t) t k (lt_fuel t)
        rw [E1.out] at c
        have C := Lib.hid c; clear c
        go_wp2_with fail
        refine (C.out).mono ?_
        rintro e w6 ⟨rfl, b6⟩
        have S6 := Lib.hid (SR.out.later b6)
        have K6 := Lib.hid (KR.out.later b6)
        clear b6
        clear C
        have c := lookBelow_any S6.out.arena (fuel t) t j (lt_fuel t)
        rw [E2.out] at c
        have C := Lib.hid c; clear c
        go_wp2_with fail
        refine (C.out).mono ?_
        rintro e w7 ⟨rfl, b7⟩
        have S7 := Lib.hid (S6.out.later b7)
        have K7 := Lib.hid (K6.out.later b7)
        clear b7
        clear C
        have Q5 := Lib.hid (wrap_id (x := (cn : Int)) (by omega) (by omega))
        have q0 : ((bj + cn : Nat) : Int) - (bj : Int) = (cn : Int) := by omega
        have q1 : wrap64 (((bj + cn : Nat) : Int) - (bj : Int)) = (cn : Int) := by rw [q0]; exact Q5.out
        have q2 := beq_self_eq_true (cn : Int)
        have q3 : (bj : Int) + (cn : Int) - (bj : Int) = (cn : Int) := by omega
        have q4 : wrap64 ((bj : Int) + (cn : Int) - (bj : Int)) = (cn : Int) := by rw [q3]; exact Q5.out
        have c := lookBelow_any S7.out.arena (fuel t) t (-9223372036854775808) (lt_fuel t)
        rw [E3.out] at c
        have C := Lib.hid c; clear c
        go_wp2_with fail
        refine (C.out).mono ?_
        rintro e w8 ⟨rfl, b8⟩
        have S8 := Lib.hid (S7.out.later b8)
        have K8 := Lib.hid (K7.out.later b8)
        clear b8
        clear C q0 q1 q2 q3 q4
        have HM := Lib.hid (may_any _ K8.out.pin HQ.out)
        go_wp2_with fail
        refine (HM.out).mono ?_
        rintro e w9 ⟨rfl, b9⟩
        have S9 := Lib.hid (S8.out.later b9)
        have K9 := Lib.hid (K8.out.later b9)
        clear b9
        go_wp2_with (go_at_call 26; refine (awake4_any W _ S9.out.below).mono ?_; rintro e wz ⟨rfl, bz⟩)
        go_ret
        exact ⟨rfl, bz⟩

end Go.Proofs.Ytabiiggoledipaa
