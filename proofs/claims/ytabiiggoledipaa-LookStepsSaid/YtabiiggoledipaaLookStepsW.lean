/- The walk of the law LookSteps. -/
import Derived.Test.YtabiiggoledipaaAwake4
import Derived.Test.YtabiiggoledipaaLookQ
namespace Go.Proofs.Ytabiiggoledipaa
set_option maxRecDepth 100000
open Go.RowKit
set_option linter.unusedSimpArgs false
set_option linter.unusedVariables false

set_option maxRecDepth 100000 in
set_option maxHeartbeats 4000000 in
theorem lookSteps_walk (W : World) {ad : Option Addr} {c : Nat} {l : List Pr} (hl : PIn W ad c l) (hokl : okP l) (i : Int) (hi : -9223372036854775808 ≤ i ∧ i ≤ 9223372036854775807) :
    Calls Try.prog 7 #[.slice ad l.length c, .int .i64 i] W fun e w' => e = .returned (.bool true) ∧ Below W.heap.size W w' := by
  have hp := pairs_any W hl 60 (by decide) (by decide)
  have hpl := (pairsB_len l 60 (by decide) l.length).1
  have hs := pairs_sorted l 60
  have hok := pairs_ok 60 hokl
  rw [show pairsB l 60 l.length = pairs l 60 from rfl] at hpl
  generalize pairs l 60 = q at hp hpl hs hok
  have HP := Lib.hid hp; clear hp hl
  have HQ := Lib.hid hs; clear hs
  have HOK := Lib.hid hok; clear hok hokl
  go_enter Try.func7, Try.ntmps7
  go_wp2_with fail
  refine HP.out.mono ?_
  rintro e w1 ⟨ad1, c1, rfl, p1, n1, b1⟩
  have P1 := Lib.hid p1; clear p1 n1
  have B1 := Lib.hid b1; clear b1
  by_cases h0 : q = []
  · subst h0
    go_wp2_with (go_at_call 26; refine (awake4_any W _ B1.out).mono ?_; rintro e w8 ⟨rfl, b8⟩)
    go_ret
    exact ⟨rfl, b8⟩
  · have hpos : 0 < q.length := List.length_pos_iff.2 h0
    have hq0 : ((q.length : Int) == 0) = false := beq_eq_false_iff_ne.2 (by omega)
    have hq64 : q.length ≤ 60 := by omega
    clear h0
    go_wp2_with fail
    refine (new_any 100 w1).mono ?_
    rintro e w2 ⟨rfl, o2, b2⟩
    have S2 := Lib.hid (St.begin B1.out o2 b2)
    have K2 := Lib.hid (PK.begin P1.out b2)
    clear o2 b2
    have la := laid_any q.length w2 w1.heap.size _ _ ad1 c1 q (Nat.le_refl _) (by omega) S2.out.arena K2.out (by rw [newA_room (by omega) (by omega), newA_slots]; simp; omega)
    have LA := Lib.hid la; clear la
    go_wp2_with fail
    refine LA.out.mono ?_
    rintro e w3 ⟨t, a3, rfl, ⟨F3, o3, g3⟩, x3, l3, t3, al3⟩
    have H3 := Lib.hid (Has.mk (S2.out.grow g3 o3) t3 (x3.1.trans (newA_room (by omega) (by omega))) (by rw [l3, newA_slots]; simp) x3.2.1 : Has W w3 w1.heap.size a3 F3 t q 100)
    have K3 := Lib.hid (K2.out.grow g3)
    clear o3 g3 x3 l3 t3 al3
    have hlen64 : q.length ≤ 1000 := by omega
    obtain ⟨r, hr, hrlt⟩ := rem_len i q.length hpos (by omega)
    have c5 := fun w' (hb : Below w3.heap.size w3 w') => lookNth_any (H3.out.later hb).st.arena (t.toNat + 1) t r (by omega)
    have e5 := nthO_tr H3.out.tr (t.toNat + 1) r (by omega) (by omega)
    rw [dif_pos (by omega)] at e5
    simp only [Int.toNat_natCast] at e5
    rw [e5] at c5
    have c6 := fun w' (hb : Below w3.heap.size w3 w') => lookGet_any (H3.out.later hb).st.arena (t.toNat + 1) t (q[r]).1 (by omega)
    rw [lgF_tr H3.out.tr HQ.out _ _ (by omega), gotP_at HQ.out hrlt] at c6
    have c7 := fun w' (hb : Below w3.heap.size w3 w') => lookBelow_any (H3.out.later hb).st.arena (t.toNat + 1) t (q[r]).1 (by omega)
    have e7 := lbF_tr H3.out.tr HQ.out (q[r]).1 (t.toNat + 1) 0 (by omega) (by omega)
    rw [belowP_at HQ.out hrlt, Nat.zero_add] at e7
    have c8 := fun w' (hb : Below w3.heap.size w3 w') => lookBelow_any (H3.out.later hb).st.arena (t.toNat + 1) t ((q[r]).1 - 1) (by omega)
    have e8 := lbF_tr H3.out.tr HQ.out ((q[r]).1 - 1) (t.toNat + 1) 0 (by omega) (by omega)
    rw [Nat.zero_add] at e8
    have m8 : belowP q ((q[r]).1 - 1) ≤ r := by have := belowP_mono (l := q) (show (q[r]).1 - 1 ≤ (q[r]).1 by omega); rw [belowP_at HQ.out hrlt] at this; exact this
    rw [show ((0 : Nat) : Int) = 0 from rfl] at e7 e8
    rw [e7] at c7
    rw [e8] at c8
    have hk0 : 0 < r → -9223372036854775808 ≤ (q[r]).1 - 1 := fun h1 => by
      have h2 := HQ.out.lt h1 hrlt
      rw [keyAt_eq hrlt, keyAt_eq hpos] at h2
      have h3 := (HOK.out _ (List.getElem_mem hpos)).1.1
      omega
    have hk1 := (HOK.out _ (List.getElem_mem hrlt)).1.2
    generalize belowP q ((q[r]).1 - 1) = b8 at c8 m8
    generalize q[r] = x at c5 c6 c7 c8 hk0 hk1
    obtain ⟨xk, xv⟩ := x
    simp only [] at c5 c6 c7 c8 hk0 hk1
    have HR := Lib.hid hr
    have C5 := Lib.hid c5
    have C6 := Lib.hid c6
    have C7 := Lib.hid c7
    have C8 := Lib.hid c8
    have HK0 := Lib.hid hk0
    clear c5 c6 c7 c8 e5 e7 e8 hk0
    have q1 := beq_self_eq_true xk
    have q2 := beq_self_eq_true xv
    have q3 := beq_self_eq_true (r : Int)
    go_wp2_with fail
    refine (C5.out _ (Below.refl _ _)).mono ?_
    rintro e w5 ⟨rfl, b5⟩
    have B5 := Lib.hid (b5.alloc b5.size (.cells #[.int .i64 xk, .int .i64 xv] 25))
    have E5 := Lib.hid (heap_alloc_new w5 (.cells #[.int .i64 xk, .int .i64 xv] 25))
    clear b5
    have x0 := cell_blk (i := 0) E5.out rfl
    have x1 := cell_blk (i := 1) E5.out rfl
    go_wp2_with fail
    refine (C6.out _ B5.out).mono ?_
    rintro e w6 ⟨rfl, b6⟩
    have E6 := Lib.hid ((b6.block w5.heap.size (by simp)).trans E5.out)
    have B6 := Lib.hid (B5.out.trans (b6.mono B5.out.size)); clear b6 x0 x1
    have x0 := cell_blk (i := 0) E6.out rfl
    have x1 := cell_blk (i := 1) E6.out rfl
    have lt6 := (Array.getElem?_eq_some_iff.1 E6.out).1
    go_wp2_with fail
    refine (C7.out _ B6.out).mono ?_
    rintro e w7 ⟨rfl, b7⟩
    have E7 := Lib.hid ((b7.block w5.heap.size lt6).trans E6.out)
    have B7 := Lib.hid (B6.out.trans (b7.mono B6.out.size)); clear b7 x0 x1 lt6
    have x0 := cell_blk (i := 0) E7.out rfl
    by_cases hr0 : r = 0
    · subst hr0
      go_wp2_with (go_at_call 26; refine (awake4_any W _ (H3.out.later B7.out).st.below).mono ?_; rintro e w9 ⟨rfl, b9⟩)
      go_ret
      exact ⟨rfl, b9⟩
    · have hrp : 0 < r := by omega
      have h1 := HK0.out hrp
      have hz : ((r : Int) == 0) = false := beq_eq_false_iff_ne.2 (by omega)
      have hle : (b8 : Int) ≤ (r : Int) := by omega
      have w8' : wrap64 (xk - 1) = xk - 1 := by unfold wrap64; omega
      clear hr0
      go_wp2_with fail
      refine (C8.out _ B7.out).mono ?_
      rintro e w8 ⟨rfl, b8'⟩
      have B8 := Lib.hid (B7.out.trans (b8'.mono B7.out.size)); clear b8' x0
      go_wp2_with (go_at_call 26; refine (awake4_any W _ (H3.out.later B8.out).st.below).mono ?_; rintro e w9 ⟨rfl, b9⟩)
      go_ret
      exact ⟨rfl, b9⟩

end Go.Proofs.Ytabiiggoledipaa
