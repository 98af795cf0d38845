/- The walk of the law WalkForms. -/
import Derived.Test.YtabiiggoledipaaAwake9
import Derived.Test.YtabiiggoledipaaBetwP
import Derived.Test.YtabiiggoledipaaTellW
import Derived.Test.YtabiiggoledipaaWMore
namespace Go.Proofs.Ytabiiggoledipaa
set_option maxRecDepth 100000
open Go.RowKit Go.Proofs.YtabiiggoledipaaW.PrintWords Go.Proofs.YtabiiggoledipaaW.PrintLast
set_option linter.unusedSimpArgs false
set_option linter.unusedVariables false

/-- The first pair above, or none. -/
def nxt (lo : Int) (l : List Pr) : List Pr := (l.find? (fun p => decide (lo < p.1))).toList
theorem nxt_snoc (lo : Int) (l : List Pr) (x : Pr) : nxt lo (l ++ [x]) = if nxt lo l = [] ∧ lo < x.1 then [x] else nxt lo l := by
  unfold nxt
  rw [List.find?_append]
  cases h : l.find? (fun p => decide (lo < p.1)) with
  | some p => simp
  | none =>
    by_cases hx : lo < x.1 <;> simp [hx]
theorem nxt_len (lo : Int) (l : List Pr) : (nxt lo l).length ≤ 1 := by
  unfold nxt
  cases l.find? (fun p => decide (lo < p.1)) <;> simp
theorem nxt_nextP (lo : Int) (l : List Pr) : (nxt lo l = [] ∧ nextP l lo = ((0, 0), false)) ∨ ∃ p, nxt lo l = [p] ∧ nextP l lo = (p, true) := by
  unfold nxt nextP
  cases l.find? (fun p => decide (lo < p.1)) with
  | none => exact .inl ⟨rfl, rfl⟩
  | some p => exact .inr ⟨p, rfl, rfl⟩

set_option maxRecDepth 100000 in
set_option maxHeartbeats 4000000 in
theorem walkForms_walk (W : World) {ad : Option Addr} {c : Nat} {l : List Pr} (hl : PIn W ad c l) (hokl : okP l) (lo : Int) (hlo : -9223372036854775808 ≤ lo ∧ lo ≤ 9223372036854775807) (hi : Int) (hhi : -9223372036854775808 ≤ hi ∧ hi ≤ 9223372036854775807) :
    Calls Try.prog 6 #[.slice ad l.length c, .int .i64 lo, .int .i64 hi] W fun e w' => e = .returned (.bool true) ∧ Below W.heap.size W w' := by
  have hp := pairs_any W hl 60 (by decide) (by decide)
  have hpl := (pairsB_len l 60 (by decide) l.length).1
  have hs := pairs_sorted l 60
  have hok := pairs_ok 60 hokl
  rw [show pairsB l 60 l.length = pairs l 60 from rfl] at hpl
  generalize pairs l 60 = q at hp hpl hs hok
  have HP := Lib.hid hp; clear hp hl
  have HQ := Lib.hid hs; clear hs
  have HOK := Lib.hid hok; clear hok hokl
  go_enter Try.func6, Try.ntmps6
  go_wp2_with fail
  refine HP.out.mono ?_
  rintro e w1 ⟨ad1, c1, rfl, p1, n1, b1⟩
  have P1 := Lib.hid p1; clear p1 n1
  have B1 := Lib.hid b1; clear b1
  go_wp2_with fail
  refine (new_any 100 w1).mono ?_
  rintro e w2 ⟨rfl, o2, b2⟩
  have S2 := Lib.hid (St.begin B1.out o2 b2)
  have K2 := Lib.hid (PK.begin P1.out b2)
  clear o2 b2
  have la := laid_any q.length w2 w1.heap.size _ _ ad1 c1 q (Nat.le_refl _) (by omega) S2.out.arena K2.out (by rw [newA_room (by omega) (by omega), newA_slots]; simp; omega)
  have LA := Lib.hid la; clear la
  go_wp2_with fail
  refine LA.out.mono ?_
  rintro e w3 ⟨t, a3, rfl, ⟨F3, o3, g3⟩, x3, l3, t3, al3⟩
  have H3 := Lib.hid (Has.mk (S2.out.grow g3 o3) t3 (x3.1.trans (newA_room (by omega) (by omega))) (by rw [l3, newA_slots]; simp) x3.2.1 : Has W w3 w1.heap.size a3 F3 t q (100))
  have K3 := Lib.hid (K2.out.grow g3)
  clear o3 g3 x3 l3 t3 al3
  have hlen64 : q.length ≤ 1000 := by omega
  have tr3 := H3.out.tr
  have htl : t < 1000000 := by have := tr3.le; have := H3.out.used; omega
  have S3 := Lib.hid H3.out.st
  have cw := between_any _ K3.out.pin (by omega) lo hi
  have CW := Lib.hid cw; clear cw
  go_wp2_with fail
  refine CW.out.mono ?_
  rintro e w4 ⟨adB, cB, rfl, pp, np, b4⟩
  clear CW
  have S4 := Lib.hid (S3.out.later b4)
  have K4 := Lib.hid (K3.out.later b4)
  have B4 := Lib.hid (PK.mk pp (fun _ x hx hf => by have := np x hx; have := S3.out.arena.lt _ hf; omega))
  clear b4 pp np
  have c := next_any S4.out.arena tr3 HQ.out htl lo
  obtain ⟨y, hy⟩ : ∃ y, nextP q lo = y := ⟨_, rfl⟩
  rw [hy] at c
  have HY := Lib.hid hy; clear hy
  obtain ⟨⟨yk, yv⟩, yb⟩ := y
  simp only [] at c
  have C := Lib.hid c; clear c
  go_wp2_with fail
  refine (C.out).mono ?_
  rintro e w5 ⟨rfl, b5⟩
  have S5 := Lib.hid (S4.out.later b5)
  have K5 := Lib.hid (K4.out.later b5)
  have B5 := Lib.hid (B4.out.later b5)
  clear b5
  have S6 := Lib.hid (S5.out.alloc (.cells #[.int .i64 yk, .int .i64 yv] 25))
  have K6 := Lib.hid (K5.out.alloc (.cells #[.int .i64 yk, .int .i64 yv] 25))
  have B6 := Lib.hid (B5.out.alloc (.cells #[.int .i64 yk, .int .i64 yv] 25))
  have N6 := Lib.hid (S5.out.new (.cells #[.int .i64 yk, .int .i64 yv] 25))
  have S0 := S6; have B0 := B6; have K0 := K6; have N0 := N6
  go_wp2_with fail
  go_loopw [14, 41] (fun v i wr => ∃ k : Nat, k ≤ q.length ∧ i = .int .i64 k ∧ Hid (FRel (w5.alloc (.cells #[.int .i64 yk, .int .i64 yv] 25)).heap.size wr v (nxt lo (q.take k)) ∧ Below (w5.alloc (.cells #[.int .i64 yk, .int .i64 yv] 25)).heap.size (w5.alloc (.cells #[.int .i64 yk, .int .i64 yv] 25)) wr)) (fun _ i _ => q.length - (intOf i).toNat)
  case atStart => exact ⟨0, Nat.zero_le _, rfl, Lib.hid ⟨FRel.start _, Below.refl _ _⟩⟩
  case round =>
    obtain ⟨k, hk, rfl, HR⟩ := hrel
    have hz := HR.out.1.le
    have hz2 := hz
    simp only [World.size_alloc] at hz2
    by_cases hlt : k < q.length
    · obtain ⟨b, off, hbo, hcell⟩ := K0.out.cells hlt
      subst hbo
      obtain ⟨d0, d1⟩ := hcell wr _ (K0.out.later HR.out.2)
      have hsn := nxt_snoc lo (q.take k) q[k]
      rw [← List.take_succ_eq_append_getElem hlt] at hsn
      have hol := nxt_len lo (q.take k)
      generalize nxt lo (q.take k) = out at HR hsn hol
      obtain ⟨x, hx⟩ : ∃ x, q[k] = x := ⟨_, rfl⟩
      rw [hx] at hsn d0 d1
      clear hx hcell
      obtain ⟨xk, xv⟩ := x
      simp only [] at hsn d0 d1
      have hbl : b < wr.heap.size := World.block_lt_of_cell? wr _ d0
      obtain ⟨ad', c', rfl, _, _⟩ := HR.out.1.gives
      have R1 := Lib.hid (HR.out.1.alloc (.cells #[.int .i64 xk, .int .i64 xv] 25))
      have B1x := Lib.hid (HR.out.2.alloc hz (.cells #[.int .i64 xk, .int .i64 xv] 25))
      by_cases hxl : lo < xk
      · by_cases hout : out = []
        · rw [if_pos ⟨hout, hxl⟩] at hsn
          subst hout
          have E2 := Lib.hid hsn; clear hsn
          have hg2 : ((wr.alloc (.cells #[.int .i64 xk, .int .i64 xv] 25)).alloc (.cells #[.int .i64 xk, .int .i64 xv] 25)).heap[wr.heap.size + 1]? = some (.cells #[.int .i64 xk, .int .i64 xv] 25 (0, 0)) := by
            have := heap_alloc_new (wr.alloc (.cells #[.int .i64 xk, .int .i64 xv] 25)) (.cells #[.int .i64 xk, .int .i64 xv] 25)
            simpa using this
          have G2 := Lib.hid hg2; clear hg2
          have R2 := Lib.hid (R1.out.alloc (.cells #[.int .i64 xk, .int .i64 xv] 25))
          have B2x := Lib.hid (B1x.out.alloc (by simp; omega) (.cells #[.int .i64 xk, .int .i64 xv] 25))
          go_wp2_with (at_builtin; refine wp_appr (y := (xk, xv)) rfl (.tmp 54) (.tmp 56) rfl rfl rfl R2.out G2.out (by simp) ?_; intro v1 w1x r1 g1; have R3 := Lib.hid r1; have B3x := Lib.hid (Below.growB B2x.out R2.out g1); clear r1 g1)
          go_roundw
          case rel => exact ⟨k + 1, by omega, by go_num, Lib.hid ⟨by rw [E2.out]; exact R3.out, B3x.out⟩⟩
          case measure => simp [intOf]; omega
        · rw [if_neg (fun h => hout h.1)] at hsn
          have E2 := Lib.hid hsn; clear hsn
          have hl1 : ((out.length : Int) == 0) = false := beq_eq_false_iff_ne.2 (by have := List.length_pos_iff.2 hout; omega)
          clear hout
          go_wp2_with fail
          go_roundw
          case rel => exact ⟨k + 1, by omega, by go_num, Lib.hid ⟨by rw [E2.out]; exact R1.out, B1x.out⟩⟩
          case measure => simp [intOf]; omega
      · rw [if_neg (fun h => hxl h.2)] at hsn
        have E2 := Lib.hid hsn; clear hsn
        go_wp2_with fail
        go_roundw
        case rel => exact ⟨k + 1, by omega, by go_num, Lib.hid ⟨by rw [E2.out]; exact R1.out, B1x.out⟩⟩
        case measure => simp [intOf]; omega
    · have hkl : k = q.length := by omega
      subst hkl
      rw [List.take_length] at HR
      obtain ⟨ad', c', rfl, hpin, _⟩ := HR.out.1.gives
      have S9 := Lib.hid (S0.out.later HR.out.2)
      have B9 := Lib.hid (B0.out.later HR.out.2)
      have K9 := Lib.hid (K0.out.later HR.out.2)
      have N9 := Lib.hid (N0.out.below HR.out.2)
      have nb := nxt_nextP lo q
      rw [HY.out] at nb
      have PN := Lib.hid hpin; clear hpin
      have n0 := cell_blk (i := 0) N9.out.at_ rfl
      have n1 := cell_blk (i := 1) N9.out.at_ rfl
      have hln := N9.out.lt
      clear HR hk hlt
      rcases nb with ⟨hnx, hny⟩ | ⟨p, hnx, hny⟩
      · simp only [Prod.mk.injEq] at hny
        obtain ⟨⟨rfl, rfl⟩, rfl⟩ := hny
        rw [hnx]
        clear hnx PN
        go_wp2_with fail
        go_quiet (fail)
        have cw := fun w' (hb : Below wr.heap.size wr w') => all_any (S9.out.later hb).arena tr3 HQ.out htl (by omega)
        rw [betw_all HOK.out] at cw
        have CW := Lib.hid cw; clear cw
        go_wp2_with fail
        refine (CW.out _ (by exact ⟨rfl, rfl, rfl, Nat.le_refl _, fun _ _ => rfl⟩)).mono ?_
        rintro e w10 ⟨adA, cA, rfl, pp, np, b10⟩
        clear CW
        have b10 := undrewN b10
        have S10 := Lib.hid (S9.out.later b10)
        have B10 := Lib.hid (B9.out.later b10)
        have K10 := Lib.hid (K9.out.later b10)
        have np : ∀ x, adA = some x → wr.heap.size ≤ x.block := np
        have A10 := Lib.hid (PK.mk pp (fun _ x hx hf => by have := np x hx; have := S9.out.arena.lt _ hf; omega))
        clear b10 pp np
        have cs := same_any _ A10.out.pin K10.out.pin
        rw [show decide (q = q) = true from decide_eq_true rfl] at cs
        have CS := Lib.hid cs; clear cs
        go_wp2_with fail
        refine (CS.out).mono ?_
        rintro e w11 ⟨rfl, b11⟩
        have S11 := Lib.hid (S10.out.later b11)
        have B11 := Lib.hid (B10.out.later b11)
        have K11 := Lib.hid (K10.out.later b11)
        have A11 := Lib.hid (A10.out.later b11)
        clear b11
        have cw := range_any S11.out.arena tr3 HQ.out htl (by omega) lo hi
        have CW := Lib.hid cw; clear cw
        go_wp2_with fail
        refine CW.out.mono ?_
        rintro e w12 ⟨adR, cR, rfl, pp, np, b12⟩
        clear CW
        have S12 := Lib.hid (S11.out.later b12)
        have B12 := Lib.hid (B11.out.later b12)
        have K12 := Lib.hid (K11.out.later b12)
        have A12 := Lib.hid (A11.out.later b12)
        have R12 := Lib.hid (PK.mk pp (fun _ x hx hf => by have := np x hx; have := S11.out.arena.lt _ hf; omega))
        clear b12 pp np
        have cs := same_any _ R12.out.pin B12.out.pin
        rw [show decide (betw lo hi q = betw lo hi q) = true from decide_eq_true rfl] at cs
        have CS := Lib.hid cs; clear cs
        go_wp2_with fail
        refine (CS.out).mono ?_
        rintro e w13 ⟨rfl, b13⟩
        have S13 := Lib.hid (S12.out.later b13)
        have B13 := Lib.hid (B12.out.later b13)
        have K13 := Lib.hid (K12.out.later b13)
        have A13 := Lib.hid (A12.out.later b13)
        have R13 := Lib.hid (R12.out.later b13)
        clear b13
        have cc := count_any S13.out.arena tr3 HQ.out htl (by omega) lo hi
        have CC := Lib.hid cc; clear cc
        have qn := beq_self_eq_true ((betw lo hi q).length : Int)
        go_wp2_with fail
        refine (CC.out).mono ?_
        rintro e w14 ⟨rfl, b14⟩
        have S14 := Lib.hid (S13.out.later b14)
        have B14 := Lib.hid (B13.out.later b14)
        have K14 := Lib.hid (K13.out.later b14)
        have A14 := Lib.hid (A13.out.later b14)
        have R14 := Lib.hid (R13.out.later b14)
        clear b14
        have cs := steps_any S14.out.arena
        rw [show stepsO (some a3) = a3.steps from rfl, H3.out.steps] at cs
        have CS := Lib.hid cs; clear cs
        go_wp2_with fail
        refine CS.out.mono ?_
        rintro e w' ⟨rfl, rfl⟩
        go_wp2_with (go_at_call 15; refine (awake9_any W _ S14.out.below).mono ?_; rintro e w8 ⟨rfl, b8⟩)
        go_ret
        exact ⟨rfl, b8⟩
      · obtain ⟨pk, pv⟩ := p
        simp only [Prod.mk.injEq] at hny
        obtain ⟨⟨rfl, rfl⟩, rfl⟩ := hny
        rw [hnx] at PN ⊢
        obtain ⟨bp, op, hbp, e0, e1⟩ := PN.out.cell (Below.refl _ _) PN.out.lt (k := 0) (by simp)
        subst hbp
        simp only [Nat.zero_mul, Nat.add_zero, List.getElem_cons_zero] at e0 e1
        have hlp := World.block_lt_of_cell? _ _ e0
        simp only [] at hlp
        have qk := beq_self_eq_true yk
        have qv := beq_self_eq_true yv
        clear hnx PN
        go_wp2_with fail
        go_quiet (fail)
        have cw := fun w' (hb : Below wr.heap.size wr w') => all_any (S9.out.later hb).arena tr3 HQ.out htl (by omega)
        rw [betw_all HOK.out] at cw
        have CW := Lib.hid cw; clear cw
        go_wp2_with fail
        refine (CW.out _ (by exact ⟨rfl, rfl, rfl, Nat.le_refl _, fun _ _ => rfl⟩)).mono ?_
        rintro e w10 ⟨adA, cA, rfl, pp, np, b10⟩
        clear CW
        have b10 := undrewN b10
        have S10 := Lib.hid (S9.out.later b10)
        have B10 := Lib.hid (B9.out.later b10)
        have K10 := Lib.hid (K9.out.later b10)
        have np : ∀ x, adA = some x → wr.heap.size ≤ x.block := np
        have A10 := Lib.hid (PK.mk pp (fun _ x hx hf => by have := np x hx; have := S9.out.arena.lt _ hf; omega))
        clear b10 pp np
        have cs := same_any _ A10.out.pin K10.out.pin
        rw [show decide (q = q) = true from decide_eq_true rfl] at cs
        have CS := Lib.hid cs; clear cs
        go_wp2_with fail
        refine (CS.out).mono ?_
        rintro e w11 ⟨rfl, b11⟩
        have S11 := Lib.hid (S10.out.later b11)
        have B11 := Lib.hid (B10.out.later b11)
        have K11 := Lib.hid (K10.out.later b11)
        have A11 := Lib.hid (A10.out.later b11)
        clear b11
        have cw := range_any S11.out.arena tr3 HQ.out htl (by omega) lo hi
        have CW := Lib.hid cw; clear cw
        go_wp2_with fail
        refine CW.out.mono ?_
        rintro e w12 ⟨adR, cR, rfl, pp, np, b12⟩
        clear CW
        have S12 := Lib.hid (S11.out.later b12)
        have B12 := Lib.hid (B11.out.later b12)
        have K12 := Lib.hid (K11.out.later b12)
        have A12 := Lib.hid (A11.out.later b12)
        have R12 := Lib.hid (PK.mk pp (fun _ x hx hf => by have := np x hx; have := S11.out.arena.lt _ hf; omega))
        clear b12 pp np
        have cs := same_any _ R12.out.pin B12.out.pin
        rw [show decide (betw lo hi q = betw lo hi q) = true from decide_eq_true rfl] at cs
        have CS := Lib.hid cs; clear cs
        go_wp2_with fail
        refine (CS.out).mono ?_
        rintro e w13 ⟨rfl, b13⟩
        have S13 := Lib.hid (S12.out.later b13)
        have B13 := Lib.hid (B12.out.later b13)
        have K13 := Lib.hid (K12.out.later b13)
        have A13 := Lib.hid (A12.out.later b13)
        have R13 := Lib.hid (R12.out.later b13)
        clear b13
        have cc := count_any S13.out.arena tr3 HQ.out htl (by omega) lo hi
        have CC := Lib.hid cc; clear cc
        have qn := beq_self_eq_true ((betw lo hi q).length : Int)
        go_wp2_with fail
        refine (CC.out).mono ?_
        rintro e w14 ⟨rfl, b14⟩
        have S14 := Lib.hid (S13.out.later b14)
        have B14 := Lib.hid (B13.out.later b14)
        have K14 := Lib.hid (K13.out.later b14)
        have A14 := Lib.hid (A13.out.later b14)
        have R14 := Lib.hid (R13.out.later b14)
        clear b14
        have cs := steps_any S14.out.arena
        rw [show stepsO (some a3) = a3.steps from rfl, H3.out.steps] at cs
        have CS := Lib.hid cs; clear cs
        go_wp2_with fail
        refine CS.out.mono ?_
        rintro e w' ⟨rfl, rfl⟩
        go_wp2_with (go_at_call 15; refine (awake9_any W _ S14.out.below).mono ?_; rintro e w8 ⟨rfl, b8⟩)
        go_ret
        exact ⟨rfl, b8⟩

end Go.Proofs.Ytabiiggoledipaa
