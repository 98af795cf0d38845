/- The walk of the law WalkSteps. -/
import Derived.Test.YtabiiggoledipaaAwake9
import Derived.Test.YtabiiggoledipaaBetwP
import Derived.Test.YtabiiggoledipaaWMore
namespace Go.Proofs.Ytabiiggoledipaa
set_option maxRecDepth 100000
open Go.RowKit Go.Proofs.YtabiiggoledipaaW.PrintWords Go.Proofs.YtabiiggoledipaaW.PrintLast
set_option linter.unusedSimpArgs false
set_option linter.unusedVariables false

theorem sorted_lt {q : List Pr} (hs : Sorted q) {i j : Nat} (h : i < j) (hj : j < q.length) : (q[i]'(by omega)).1 < (q[j]).1 := by
  have := hs.lt h hj
  rw [keyAt_eq (by omega), keyAt_eq hj] at this
  exact this
theorem nextP_at {q : List Pr} {at_ : Int} {k : Nat} (hk : k < q.length) (h1 : ∀ j (hj : j < q.length), j < k → (q[j]).1 ≤ at_) (h2 : at_ < (q[k]).1) : nextP q at_ = (q[k], true) := by
  have e : q.take k ++ q[k] :: q.drop (k + 1) = q := by simp
  have hn : (q.take k).find? (fun p => decide (at_ < p.1)) = none := List.find?_eq_none.2 fun p hp => by
    obtain ⟨j, hj, rfl⟩ := List.getElem_of_mem hp
    rw [List.length_take] at hj
    have := h1 j (by omega) (by omega)
    simp
    omega
  have hf : q.find? (fun p => decide (at_ < p.1)) = some q[k] := by
    conv => lhs; rw [← e]
    rw [List.find?_append, hn, List.find?_cons]
    simp [h2]
  unfold nextP
  rw [hf]
theorem nextP_end {q : List Pr} {at_ : Int} (h1 : ∀ p ∈ q, p.1 ≤ at_) : nextP q at_ = ((0, 0), false) := by
  unfold nextP
  rw [List.find?_eq_none.2 fun p hp => by have := h1 p hp; simp; omega]

set_option maxRecDepth 100000 in
set_option maxHeartbeats 4000000 in
theorem walkSteps_walk (W : World) {ad : Option Addr} {c : Nat} {l : List Pr} (hl : PIn W ad c l) (hokl : okP l) :
    Calls Try.prog 3 #[.slice ad l.length c] W fun e w' => e = .returned (.bool true) ∧ Below W.heap.size W w' := by
  have hp := pairs_any W hl 60 (by decide) (by decide)
  have hpl := (pairsB_len l 60 (by decide) l.length).1
  have hs := pairs_sorted l 60
  have hok := pairs_ok 60 hokl
  rw [show pairsB l 60 l.length = pairs l 60 from rfl] at hpl
  generalize pairs l 60 = q at hp hpl hs hok
  have HP := Lib.hid hp; clear hp hl
  have HQ := Lib.hid hs; clear hs
  have HOK := Lib.hid hok; clear hok hokl
  go_enter Try.func3, Try.ntmps3
  go_wp2_with fail
  refine HP.out.mono ?_
  rintro e w1 ⟨ad1, c1, rfl, p1, n1, b1⟩
  have P1 := Lib.hid p1; clear p1 n1
  have B1 := Lib.hid b1; clear b1
  by_cases h0 : q = []
  · subst h0
    go_wp2_with (go_at_call 15; refine (awake9_any W _ B1.out).mono ?_; rintro e w8 ⟨rfl, b8⟩)
    go_ret
    exact ⟨rfl, b8⟩
  · have hpos : 0 < q.length := List.length_pos_iff.2 h0
    have hq0 : ((q.length : Int) == 0) = false := beq_eq_false_iff_ne.2 (by omega)
    have hx0 := HOK.out q[0] (List.getElem_mem hpos)
    have hmin := HQ.out
    obtain ⟨b, off, hbo, d0, d1⟩ := P1.out.cell (Below.refl _ _) P1.out.lt hpos
    subst hbo
    have HM := Lib.hid (show ∀ j (hj : j < q.length), (q[0]).1 - 1 < (q[j]).1 from fun j hj => by
      by_cases h : 0 < j
      · have := sorted_lt hmin h hj; omega
      · obtain rfl : j = 0 := by omega
        omega)
    obtain ⟨x, hx⟩ : ∃ x, q[0] = x := ⟨_, rfl⟩
    rw [hx] at d0 d1 hx0 HM
    have HX := Lib.hid hx
    obtain ⟨xk, xv⟩ := x
    simp only [Nat.zero_mul, Nat.add_zero] at d0 d1 hx0 HM
    have hbl : b < w1.heap.size := World.block_lt_of_cell? w1 _ d0
    clear hx hmin h0
    by_cases hm : xk = -9223372036854775808
    · have hm2 : (xk == -9223372036854775808) = true := by rw [hm]; rfl
      clear hm hx0
      go_wp2_with (go_at_call 15; refine (awake9_any W _ B1.out).mono ?_; rintro e w8 ⟨rfl, b8⟩)
      go_ret
      exact ⟨rfl, b8⟩
    · have hm2 : (xk == -9223372036854775808) = false := beq_eq_false_iff_ne.2 hm
      have wl : IntKind.i64.wrap (xk - 1) = xk - 1 := IntWalk.i64_in _ (by omega)
      go_wp2_with fail
      refine (new_any 100 w1).mono ?_
      rintro e w2 ⟨rfl, o2, b2⟩
      have S2 := Lib.hid (St.begin B1.out o2 b2)
      have K2 := Lib.hid (PK.begin P1.out b2)
      clear o2 b2
      clear d0 d1 hm2 hm
      have la := laid_any q.length w2 w1.heap.size _ _ (some ⟨b, off, none⟩) c1 q (Nat.le_refl _) (by omega) S2.out.arena K2.out (by rw [newA_room (by omega) (by omega), newA_slots]; simp; omega)
      have LA := Lib.hid la; clear la
      have hcell0 := K2.out.cells hpos
      go_wp2_with fail
      refine LA.out.mono ?_
      rintro e w3 ⟨t, a3, rfl, ⟨F3, o3, g3⟩, x3, l3, t3, al3⟩
      have H3 := Lib.hid (Has.mk (S2.out.grow g3 o3) t3 (x3.1.trans (newA_room (by omega) (by omega))) (by rw [l3, newA_slots]; simp) x3.2.1 : Has W w3 w1.heap.size a3 F3 t q (100))
      have K3 := Lib.hid (K2.out.grow g3)
      clear o3 g3 x3 l3 t3 al3
      have hlen64 : q.length ≤ 1000 := by omega
      obtain ⟨b2, off2, hb2, hcell⟩ := K3.out.cells hpos
      obtain ⟨rfl, rfl⟩ : b = b2 ∧ off = off2 := by simpa using hb2
      clear hb2 hcell0
      have tr3 := H3.out.tr
      have htl : t < 1000000 := by have := tr3.le; have := H3.out.used; omega
      obtain ⟨g0, g1⟩ := hcell w3 F3 K3.out
      simp only [Nat.zero_mul, Nat.add_zero] at g0 g1
      rw [HX.out] at g0 g1
      simp only [] at g0 g1
      have HC := Lib.hid hcell; clear hcell
      go_wp2_with fail
      clear g0 g1
      go_loopw [7, 43] (fun av i wr => ∃ (k : Nat) (at_ : Int), k ≤ q.length ∧ i = .int .i64 k ∧ av = .int .i64 at_ ∧ Hid ((∀ j (hj : j < q.length), j < k → (q[j]).1 ≤ at_) ∧ (∀ j (hj : j < q.length), k ≤ j → at_ < (q[j]).1) ∧ Below w3.heap.size w3 wr)) (fun _ i _ => q.length - (intOf i).toNat)
      case atStart => exact ⟨0, xk - 1, Nat.zero_le _, rfl, rfl, Lib.hid ⟨fun j _ h => absurd h (by omega), fun j hj _ => HM.out j hj, Below.refl _ _⟩⟩
      case round =>
        obtain ⟨k, at_, hk, rfl, rfl, HR⟩ := hrel
        have hz := HR.out.2.2.size
        by_cases hlt : k < q.length
        · obtain ⟨b2, off2, hb2, hcell2⟩ := K3.out.cells hlt
          obtain ⟨rfl, rfl⟩ : b = b2 ∧ off = off2 := by simpa using hb2
          obtain ⟨d0, d1⟩ := hcell2 wr F3 (K3.out.later HR.out.2.2)
          have c5 := fun w' (hb : Below w3.heap.size w3 w') => next_any (H3.out.later hb).st.arena tr3 HQ.out htl at_
          rw [nextP_at hlt HR.out.1 (HR.out.2.1 k hlt (Nat.le_refl _))] at c5
          have HN := Lib.hid (show (∀ j (hj : j < q.length), j < k + 1 → (q[j]).1 ≤ (q[k]).1) ∧ (∀ j (hj : j < q.length), k + 1 ≤ j → (q[k]).1 < (q[j]).1) from
            ⟨fun j hj h => by
              by_cases hjk : j < k
              · have := sorted_lt HQ.out hjk hlt; omega
              · obtain rfl : j = k := by omega
                exact Int.le_refl _, fun j hj h => sorted_lt HQ.out (by omega) hj⟩)
          obtain ⟨y, hy⟩ : ∃ y, q[k] = y := ⟨_, rfl⟩
          rw [hy] at c5 d0 d1 HN
          clear hy hcell2 hb2
          obtain ⟨yk, yv⟩ := y
          simp only [] at c5 d0 d1 HN
          have hbl : b < wr.heap.size := World.block_lt_of_cell? wr _ d0
          have C5 := Lib.hid c5; clear c5
          have q1 := beq_self_eq_true yk
          have q2 := beq_self_eq_true yv
          have B4 := Lib.hid (HR.out.2.2.alloc hz (.cells #[.int .i64 yk, .int .i64 yv] 25))
          have E4 := Lib.hid (heap_alloc_new wr (.cells #[.int .i64 yk, .int .i64 yv] 25))
          go_wp2_with fail
          refine (C5.out _ B4.out).mono ?_
          rintro e w5 ⟨rfl, b5⟩
          have z5 := b5.size
          simp at z5
          have lt5 : wr.heap.size < w5.heap.size := by omega
          have E5 := Lib.hid ((b5.block wr.heap.size (by simp)).trans E4.out)
          have B5 := Lib.hid ((B4.out.trans (b5.mono B4.out.size)).alloc (by omega) (.cells #[.int .i64 yk, .int .i64 yv] 25)); clear b5 d0 d1
          have x0 := cell_blk (i := 0) E5.out rfl
          have x1 := cell_blk (i := 1) E5.out rfl
          go_wp2_with fail
          go_roundw
          case rel => exact ⟨k + 1, yk, by omega, by go_num, rfl, Lib.hid ⟨HN.out.1, HN.out.2, B5.out⟩⟩
          case measure => simp [intOf]; omega
        · have hkl : k = q.length := by omega
          subst hkl
          have c5 := next_any (H3.out.later HR.out.2.2).st.arena tr3 HQ.out htl at_
          rw [nextP_end (fun p hp => by obtain ⟨j, hj, rfl⟩ := List.getElem_of_mem hp; exact HR.out.1 j hj hj)] at c5
          have C5 := Lib.hid c5; clear c5
          go_wp2_with fail
          refine C5.out.mono ?_
          rintro e w5 ⟨rfl, b5⟩
          have B5 := Lib.hid ((HR.out.2.2.trans (b5.mono hz)).alloc (by have := b5.size; omega) (.cells #[.int .i64 0, .int .i64 0] 25)); clear b5
          have S5 := Lib.hid (H3.out.later B5.out).st
          go_wp2_with (go_at_call 15; refine (awake9_any W _ S5.out.below).mono ?_; rintro e w8 ⟨rfl, b8⟩)
          go_ret
          exact ⟨rfl, b8⟩

end Go.Proofs.Ytabiiggoledipaa
