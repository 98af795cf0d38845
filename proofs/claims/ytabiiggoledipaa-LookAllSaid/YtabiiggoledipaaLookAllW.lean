/- The walk of the law LookAll. -/
import Derived.Test.YtabiiggoledipaaAwake4
namespace Go.Proofs.Ytabiiggoledipaa
set_option maxRecDepth 100000
open Go.RowKit
set_option linter.unusedSimpArgs false
set_option linter.unusedVariables false

theorem split_at {l : List Pr} {k : Nat} (hk : k < l.length) : l = l.take k ++ l[k] :: l.drop (k + 1) := by
  rw [List.getElem_cons_drop, List.take_append_drop]
theorem gotP_at {l : List Pr} (hs : Sorted l) {k : Nat} (hk : k < l.length) : gotP l (l[k]).1 = ((l[k]).2, true) := by
  have e := split_at hk
  obtain ⟨x, hx⟩ : ∃ x, l[k] = x := ⟨_, rfl⟩
  rw [hx] at e ⊢
  generalize l.take k = l1 at e
  generalize l.drop (k + 1) = l2 at e
  clear hx
  subst e
  obtain ⟨s1, s2, s3, s4, s5⟩ := sorted_mid.1 hs
  unfold gotP
  rw [List.find?_append, List.find?_cons, find_none (fun p hp => by have := s3 p hp; omega)]
  simp

set_option maxRecDepth 100000 in
set_option maxHeartbeats 4000000 in
theorem lookAll_walk (W : World) {ad : Option Addr} {c : Nat} {l : List Pr} (hl : PIn W ad c l) (_ : okP l) :
    Calls Try.prog 9 #[.slice ad l.length c] W fun e w' => e = .returned (.bool true) ∧ Below W.heap.size W w' := by
  have hp := pairs_any W hl 40 (by decide) (by decide)
  have hpl := (pairsB_len l 40 (by decide) l.length).1
  have hs := pairs_sorted l 40
  rw [show pairsB l 40 l.length = pairs l 40 from rfl] at hpl
  generalize pairs l 40 = q at hp hpl hs
  have HP := Lib.hid hp; clear hp hl
  have HQ := Lib.hid hs; clear hs
  go_enter Try.func9, Try.ntmps9
  go_wp2_with fail
  refine HP.out.mono ?_
  rintro e w1 ⟨ad1, c1, rfl, p1, n1, b1⟩
  have P1 := Lib.hid p1; clear p1 n1
  have B1 := Lib.hid b1; clear b1
  go_wp2_with fail
  refine (new_any 100 w1).mono ?_
  rintro e w2 ⟨rfl, o2, b2⟩
  have S2 := Lib.hid (St.begin B1.out o2 b2)
  have K2 := Lib.hid (PK.begin P1.out b2)
  clear o2 b2
  have la := laid_any q.length w2 w1.heap.size _ _ ad1 c1 q (Nat.le_refl _) (by omega) S2.out.arena K2.out (by rw [newA_room (by omega) (by omega), newA_slots]; simp; omega)
  have LA := Lib.hid la; clear la
  go_wp2_with fail
  refine LA.out.mono ?_
  rintro e w3 ⟨t, a3, rfl, ⟨F3, o3, g3⟩, x3, l3, t3, al3⟩
  have H3 := Lib.hid (Has.mk (S2.out.grow g3 o3) t3 (x3.1.trans (newA_room (by omega) (by omega))) (by rw [l3, newA_slots]; simp) x3.2.1 : Has W w3 w1.heap.size a3 F3 t q 100)
  have K3 := Lib.hid (K2.out.grow g3)
  clear o3 g3 x3 l3 t3 al3
  have hlen64 : q.length ≤ 1000 := by omega
  go_wp2_with fail
  go_loopw [24] (fun i wr => ∃ k : Nat, k ≤ q.length ∧ i = .int .i64 k ∧ Hid (Below w3.heap.size w3 wr)) (fun i _ => q.length - (intOf i).toNat)
  case atStart => exact ⟨0, Nat.zero_le _, rfl, Lib.hid (Below.refl _ _)⟩
  case round =>
    obtain ⟨k, hk, rfl, HR⟩ := hrel
    have hz := HR.out.size
    by_cases hlt : k < q.length
    · obtain ⟨b, off, rfl, hcell⟩ := K3.out.cells hlt
      obtain ⟨d0, d1⟩ := hcell wr F3 (K3.out.later HR.out)
      have c5 := fun w' (hb : Below w3.heap.size w3 w') => lookNth_any (H3.out.later hb).st.arena (t.toNat + 1) t k (by omega)
      have e5 := nthO_tr H3.out.tr (t.toNat + 1) k (by omega) (by omega)
      rw [dif_pos (by omega)] at e5
      simp only [Int.toNat_natCast] at e5
      rw [e5] at c5
      have c6 := fun w' (hb : Below w3.heap.size w3 w') => lookGet_any (H3.out.later hb).st.arena (t.toNat + 1) t (q[k]).1 (by omega)
      rw [lgF_tr H3.out.tr HQ.out _ _ (by omega), gotP_at HQ.out hlt] at c6
      obtain ⟨x, hx⟩ : ∃ x, q[k] = x := ⟨_, rfl⟩
      rw [hx] at c5 c6 d0 d1
      obtain ⟨xk, xv⟩ := x
      simp only [] at c5 c6 d0 d1
      have hbl : b < wr.heap.size := World.block_lt_of_cell? wr _ d0
      have C5 := Lib.hid c5
      have C6 := Lib.hid c6
      clear c5 c6 e5 hcell hx
      have q1 := beq_self_eq_true xk
      have q2 := beq_self_eq_true xv
      have q3 : (xv != xv) = false := by simp
      have B4 := Lib.hid (HR.out.alloc hz (.cells #[.int .i64 xk, .int .i64 xv] 25))
      have E4 := Lib.hid (heap_alloc_new wr (.cells #[.int .i64 xk, .int .i64 xv] 25))
      go_wp2_with fail
      refine (C5.out _ B4.out).mono ?_
      rintro e w5 ⟨rfl, b5⟩
      have z5 := b5.size
      simp at z5
      have E5 := Lib.hid ((b5.block wr.heap.size (by simp)).trans E4.out)
      have B5 := Lib.hid ((B4.out.trans (b5.mono B4.out.size)).alloc (by omega) (.cells #[.int .i64 xk, .int .i64 xv] 25)); clear b5
      have x0 := cell_blk (i := 0) E5.out rfl
      have lt5 : wr.heap.size < w5.heap.size := by omega
      have E5a := Lib.hid ((heap_alloc_old w5 (.cells #[.int .i64 xk, .int .i64 xv] 25) lt5).trans E5.out)
      have E5b := Lib.hid (heap_alloc_new w5 (.cells #[.int .i64 xk, .int .i64 xv] 25))
      go_wp2_with fail
      refine (C6.out _ B5.out).mono ?_
      rintro e w6 ⟨rfl, b6⟩
      have E6a := Lib.hid ((b6.block wr.heap.size (by simp <;> omega)).trans E5a.out)
      have E6b := Lib.hid ((b6.block w5.heap.size (by simp)).trans E5b.out)
      have B6 := Lib.hid (B5.out.trans (b6.mono B5.out.size)); clear b6 x0
      have y0 := cell_blk (i := 0) E6a.out rfl
      have y1 := cell_blk (i := 1) E6a.out rfl
      have v0 := cell_blk (i := 0) E6b.out rfl
      have v1 := cell_blk (i := 1) E6b.out rfl
      go_wp2_with fail
      go_roundw
      case rel => exact ⟨k + 1, by omega, by go_num, B6⟩
      case measure => simp [intOf]; omega
    · have hkl : k = q.length := by omega
      subst hkl
      have c5 := lsize_any (H3.out.later HR.out).st.arena t
      rw [H3.out.tr.size.1] at c5
      have c6 := fun w' (hb : Below w3.heap.size w3 w') => lhigh_any (H3.out.later hb).st.arena t
      rw [H3.out.tr.size.2] at c6
      have c7 := fun w' (hb : Below w3.heap.size w3 w') => high_any q.length w' ad1 c1 q (Nat.le_refl _) (by omega) (K3.out.later hb).pin
      generalize hgt q = hq at c6 c7
      have C5 := Lib.hid c5
      have C6 := Lib.hid c6
      have C7 := Lib.hid c7
      clear c5 c6 c7
      have q1 := beq_self_eq_true (q.length : Int)
      have q2 := beq_self_eq_true (hq : Int)
      go_wp2_with fail
      refine C5.out.mono ?_
      rintro e w5 ⟨rfl, b5⟩
      have B5 := Lib.hid (HR.out.trans (b5.mono HR.out.size)); clear b5
      go_wp2_with fail
      refine (C6.out _ B5.out).mono ?_
      rintro e w6 ⟨rfl, b6⟩
      have B6 := Lib.hid (B5.out.trans (b6.mono B5.out.size)); clear b6
      go_wp2_with fail
      refine (C7.out _ B6.out).mono ?_
      rintro e w7 ⟨rfl, b7⟩
      have B7 := Lib.hid (B6.out.trans (b7.mono B6.out.size)); clear b7
      go_wp2_with (go_at_call 26; refine (awake4_any W _ (H3.out.later B7.out).st.below).mono ?_; rintro e w8 ⟨rfl, b8⟩)
      go_ret
      exact ⟨rfl, b8⟩

end Go.Proofs.Ytabiiggoledipaa
