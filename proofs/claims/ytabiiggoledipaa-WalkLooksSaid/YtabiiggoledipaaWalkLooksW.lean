/- The walk of the law WalkLooks. -/
import Derived.Test.YtabiiggoledipaaAwake9
import Derived.Test.YtabiiggoledipaaBetwP
import Derived.Test.YtabiiggoledipaaLookP
import Derived.Test.YtabiiggoledipaaWMore
namespace Go.Proofs.Ytabiiggoledipaa
set_option maxRecDepth 100000
open Go.RowKit Go.Proofs.YtabiiggoledipaaW.PrintWords Go.Proofs.YtabiiggoledipaaW.PrintLast
set_option linter.unusedSimpArgs false
set_option linter.unusedVariables false

theorem betw_below (q : List Pr) {lo hi : Int} (h : lo ≤ hi) : (betw lo hi q).length + belowP q lo = belowP q (hi + 1) := by
  unfold betw belowP
  induction q with
  | nil => rfl
  | cons x r ih =>
    rw [List.filter_cons, List.filter_cons, List.filter_cons]
    by_cases h1 : x.1 < lo
    · rw [if_neg (by simp; omega), if_pos (by simpa using h1), if_pos (by simp; omega)]
      simp only [List.length_cons]; omega
    · by_cases h2 : x.1 ≤ hi
      · rw [if_pos (by simp; omega), if_neg (by simpa using h1), if_pos (by simp; omega)]
        simp only [List.length_cons]; omega
      · rw [if_neg (by simp; omega), if_neg (by simpa using h1), if_neg (by simp; omega)]
        exact ih

set_option maxRecDepth 100000 in
set_option maxHeartbeats 4000000 in
theorem walkLooks_walk (W : World) {ad : Option Addr} {c : Nat} {l : List Pr} (hl : PIn W ad c l) (hokl : okP l) (lo : Int) (hlo : -9223372036854775808 ≤ lo ∧ lo ≤ 9223372036854775807) (hi : Int) (hhi : -9223372036854775808 ≤ hi ∧ hi ≤ 9223372036854775807) :
    Calls Try.prog 13 #[.slice ad l.length c, .int .i64 lo, .int .i64 hi] W fun e w' => e = .returned (.bool true) ∧ Below W.heap.size W w' := by
  have hp := pairs_any W hl 40 (by decide) (by decide)
  have hpl := (pairsB_len l 40 (by decide) l.length).1
  have hs := pairs_sorted l 40
  have hok := pairs_ok 40 hokl
  rw [show pairsB l 40 l.length = pairs l 40 from rfl] at hpl
  generalize pairs l 40 = q at hp hpl hs hok
  have HP := Lib.hid hp; clear hp hl
  have HQ := Lib.hid hs; clear hs
  have HOK := Lib.hid hok; clear hok hokl
  go_enter Try.func13, Try.ntmps13
  go_wp2_with fail
  refine HP.out.mono ?_
  rintro e w1 ⟨ad1, c1, rfl, p1, n1, b1⟩
  have P1 := Lib.hid p1; clear p1 n1
  have B1 := Lib.hid b1; clear b1
  go_wp2_with fail
  refine (new_any 100 w1).mono ?_
  rintro e w2 ⟨rfl, o2, b2⟩
  have S2 := Lib.hid (St.begin B1.out o2 b2)
  have K2 := Lib.hid (PK.begin P1.out b2)
  clear o2 b2
  have la := laid_any q.length w2 w1.heap.size _ _ ad1 c1 q (Nat.le_refl _) (by omega) S2.out.arena K2.out (by rw [newA_room (by omega) (by omega), newA_slots]; simp; omega)
  have LA := Lib.hid la; clear la
  go_wp2_with fail
  refine LA.out.mono ?_
  rintro e w3 ⟨t, a3, rfl, ⟨F3, o3, g3⟩, x3, l3, t3, al3⟩
  have H3 := Lib.hid (Has.mk (S2.out.grow g3 o3) t3 (x3.1.trans (newA_room (by omega) (by omega))) (by rw [l3, newA_slots]; simp) x3.2.1 : Has W w3 w1.heap.size a3 F3 t q (100))
  have K3 := Lib.hid (K2.out.grow g3)
  clear o3 g3 x3 l3 t3 al3
  have hlen64 : q.length ≤ 1000 := by omega
  have tr3 := H3.out.tr
  have htl : t < 1000000 := by have := tr3.le; have := H3.out.used; omega
  have S3 := Lib.hid H3.out.st
  have cw := all_any S3.out.arena tr3 HQ.out htl (by omega)
  rw [betw_all HOK.out] at cw
  have CW := Lib.hid cw; clear cw
  go_wp2_with fail
  refine CW.out.mono ?_
  rintro e w4 ⟨adA, cA, rfl, pp, np, b4⟩
  clear CW
  have S4 := Lib.hid (S3.out.later b4)
  have K4 := Lib.hid (K3.out.later b4)
  have A4 := Lib.hid (PK.mk pp (fun _ x hx hf => by have := np x hx; have := S3.out.arena.lt _ hf; omega))
  clear b4 pp np
  have q0 : ((q.length : Int) != (q.length : Int)) = false := by simp
  go_wp2_with fail
  go_loopw [39] (fun i wr => ∃ k : Nat, k ≤ q.length ∧ i = .int .i64 k ∧ Hid (Below w4.heap.size w4 wr)) (fun i _ => q.length - (intOf i).toNat)
  case atStart => exact ⟨0, Nat.zero_le _, rfl, Lib.hid (Below.refl _ _)⟩
  case round =>
    obtain ⟨k, hk, rfl, HR⟩ := hrel
    have hz := HR.out.size
    by_cases hlt : k < q.length
    · obtain ⟨b, off, hbo, hcell⟩ := A4.out.cells hlt
      subst hbo
      obtain ⟨d0, d1⟩ := hcell wr F3 (A4.out.later HR.out)
      have c5 := fun w' (hb : Below w4.heap.size w4 w') => lookNth_any (S4.out.later hb).arena (t.toNat + 1) t k (by omega)
      have e5 := nthO_tr tr3 (t.toNat + 1) k (by omega) (by omega)
      rw [dif_pos (by omega)] at e5
      simp only [Int.toNat_natCast] at e5
      rw [e5] at c5
      obtain ⟨y, hy⟩ : ∃ y, q[k] = y := ⟨_, rfl⟩
      rw [hy] at c5 d0 d1
      clear hy hcell e5
      obtain ⟨yk, yv⟩ := y
      simp only [] at c5 d0 d1
      have hbl : b < wr.heap.size := World.block_lt_of_cell? wr _ d0
      have C5 := Lib.hid c5; clear c5
      have q1 := beq_self_eq_true yk
      have q2 := beq_self_eq_true yv
      have B4 := Lib.hid (HR.out.alloc hz (.cells #[.int .i64 yk, .int .i64 yv] 25))
      have E4 := Lib.hid (heap_alloc_new wr (.cells #[.int .i64 yk, .int .i64 yv] 25))
      go_wp2_with fail
      refine (C5.out _ B4.out).mono ?_
      rintro e w5 ⟨rfl, b5⟩
      have z5 := b5.size
      simp at z5
      have lt5 : wr.heap.size < w5.heap.size := by omega
      have E5 := Lib.hid ((b5.block wr.heap.size (by simp)).trans E4.out)
      have B5 := Lib.hid ((B4.out.trans (b5.mono B4.out.size)).alloc (by omega) (.cells #[.int .i64 yk, .int .i64 yv] 25)); clear b5 d0 d1
      have x0 := cell_blk (i := 0) E5.out rfl
      have x1 := cell_blk (i := 1) E5.out rfl
      go_wp2_with fail
      go_roundw
      case rel => exact ⟨k + 1, by omega, by go_num, B5⟩
      case measure => simp [intOf]; omega
    · have hkl : k = q.length := by omega
      subst hkl
      have S9 := Lib.hid (S4.out.later HR.out)
      have A9 := Lib.hid (A4.out.later HR.out)
      have K9 := Lib.hid (K4.out.later HR.out)
      by_cases hgt : hi < lo
      · go_wp2_with fail
        refine (may_any _ A9.out.pin HQ.out).mono ?_
        rintro e w10 ⟨rfl, b10⟩
        have S10 := Lib.hid (S9.out.later b10)
        have A10 := Lib.hid (A9.out.later b10)
        have K10 := Lib.hid (K9.out.later b10)
        clear b10
        go_wp2_with (go_at_call 15; refine (awake9_any W _ S10.out.below).mono ?_; rintro e w8 ⟨rfl, b8⟩)
        go_ret
        exact ⟨rfl, b8⟩
      · by_cases hmx : hi = 9223372036854775807
        · have hm1 : (hi == 9223372036854775807) = true := by rw [hmx]; rfl
          clear hmx
          go_wp2_with fail
          refine (may_any _ A9.out.pin HQ.out).mono ?_
          rintro e w10 ⟨rfl, b10⟩
          have S10 := Lib.hid (S9.out.later b10)
          have A10 := Lib.hid (A9.out.later b10)
          have K10 := Lib.hid (K9.out.later b10)
          clear b10
          go_wp2_with (go_at_call 15; refine (awake9_any W _ S10.out.below).mono ?_; rintro e w8 ⟨rfl, b8⟩)
          go_ret
          exact ⟨rfl, b8⟩
        · have hm1 : (hi == 9223372036854775807) = false := beq_eq_false_iff_ne.2 hmx
          have hsum := betw_below q (show lo ≤ hi by omega)
          have hb1 := belowP_le q (hi + 1)
          have l1 := lbF_tr tr3 HQ.out (hi + 1) (t.toNat + 1) 0 (by omega) (by omega)
          have l2 := lbF_tr tr3 HQ.out lo (t.toNat + 1) 0 (by omega) (by omega)
          rw [show ((0 : Nat) : Int) = 0 from rfl, Nat.zero_add] at l1 l2
          obtain ⟨n1, hn1⟩ : ∃ n, (betw lo hi q).length = n := ⟨_, rfl⟩
          obtain ⟨n2, hn2⟩ : ∃ n, belowP q (hi + 1) = n := ⟨_, rfl⟩
          obtain ⟨n3, hn3⟩ : ∃ n, belowP q lo = n := ⟨_, rfl⟩
          rw [hn2] at l1 hb1
          rw [hn3] at l2
          rw [hn1, hn2, hn3] at hsum
          have HN1 := Lib.hid hn1; have HL1 := Lib.hid l1; have HL2 := Lib.hid l2
          clear hn1 hn2 hn3 l1 l2
          have wl1 : IntKind.i64.wrap (hi + 1) = hi + 1 := IntWalk.i64_in _ (by omega)
          have wl2 : IntKind.i64.wrap ((n2 : Int) - (n3 : Int)) = (n1 : Int) := (IntWalk.i64_in _ (by omega)).trans (by omega)
          have q9 := beq_self_eq_true (n1 : Int)
          have c1 := count_any S9.out.arena tr3 HQ.out htl (by omega) lo hi
          rw [HN1.out] at c1
          have C1 := Lib.hid c1; clear c1
          go_wp2_with fail
          refine (C1.out).mono ?_
          rintro e w10 ⟨rfl, b10⟩
          have S10 := Lib.hid (S9.out.later b10)
          have A10 := Lib.hid (A9.out.later b10)
          have K10 := Lib.hid (K9.out.later b10)
          clear b10
          have c2 := lookBelow_any S10.out.arena (t.toNat + 1) t (hi + 1) (by omega)
          rw [HL1.out] at c2
          have C2 := Lib.hid c2; clear c2
          go_wp2_with fail
          refine (C2.out).mono ?_
          rintro e w11 ⟨rfl, b11⟩
          have S11 := Lib.hid (S10.out.later b11)
          have A11 := Lib.hid (A10.out.later b11)
          have K11 := Lib.hid (K10.out.later b11)
          clear b11
          have c3 := lookBelow_any S11.out.arena (t.toNat + 1) t lo (by omega)
          rw [HL2.out] at c3
          have C3 := Lib.hid c3; clear c3
          go_wp2_with fail
          refine (C3.out).mono ?_
          rintro e w12 ⟨rfl, b12⟩
          have S12 := Lib.hid (S11.out.later b12)
          have A12 := Lib.hid (A11.out.later b12)
          have K12 := Lib.hid (K11.out.later b12)
          clear b12
          go_wp2_with (go_at_call 15; refine (awake9_any W _ S12.out.below).mono ?_; rintro e w8 ⟨rfl, b8⟩)
          go_ret
          exact ⟨rfl, b8⟩

end Go.Proofs.Ytabiiggoledipaa
