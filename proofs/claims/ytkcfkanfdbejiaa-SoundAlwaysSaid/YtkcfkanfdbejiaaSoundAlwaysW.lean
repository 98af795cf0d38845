/- The walk of the law SoundAlways. -/
import Derived.Test.YtkcfkanfdbejiaaAwake10
import Derived.Test.YtkcfkanfdbejiaaRefW
import Derived.Test.YtkcfkanfdbejiaaSaysW
import Derived.Test.YtkcfkanfdbejiaaPutW2
import Derived.Test.YtkcfkanfdbejiaaCutW
import Derived.Test.YtkcfkanfdbejiaaPartW
import Derived.Test.YtkcfkanfdbejiaaTwoW
import Derived.Test.YtkcfkanfdbejiaaOpen4
namespace Go.Proofs.Ytkcfkanfdbejiaa
set_option maxRecDepth 100000
open Go.RowKit
set_option linter.unusedSimpArgs false
set_option linter.unusedVariables false

set_option maxRecDepth 100000 in
set_option maxHeartbeats 4000000 in
theorem soundAlways_walk (W : World) {ad : Option Addr} {c : Nat} {l : List Pr} (hl : PIn W ad c l) (hokl : okP l) {ad2 : Option Addr} {c2 : Nat} {dl : List Dd} (hdl : DsIn W ad2 c2 dl) :
    Calls Try.prog 11 #[.slice ad l.length c, .slice ad2 dl.length c2] W fun e w' => e = .returned (.bool true) ∧ Below W.heap.size W w' := by
  by_cases h40 : 40 < (dl.length : Int)
  · go_enter Try.func11, Try.ntmps11
    go_wp2_with (go_at_call 18; refine (awake10_any W _ (Below.refl _ _)).mono ?_; rintro e wz ⟨rfl, bz⟩)
    go_ret
    exact ⟨rfl, bz⟩
  have hd40 : dl.length ≤ 40 := by omega
  have HDL := Lib.hid hdl; clear hdl
  have hp := pairs_any W hl 30 (by decide) (by decide)
  have hpl := (pairsB_len l 30 (by decide) l.length).1
  have hs := pairs_sorted l 30
  have hok := pairs_ok 30 hokl
  rw [show pairsB l 30 l.length = pairs l 30 from rfl] at hpl
  generalize pairs l 30 = q at hp hpl hs hok
  have HP := Lib.hid hp; clear hp hl
  have HQ := Lib.hid hs; clear hs
  have HOK := Lib.hid hok; clear hok hokl
  go_enter Try.func11, Try.ntmps11
  go_wp2_with fail
  refine HP.out.mono ?_
  rintro e w1 ⟨ad1, c1, rfl, p1, n1, b1⟩
  have P1 := Lib.hid p1; clear p1 n1
  have B1 := Lib.hid b1; clear b1
  go_wp2_with fail
  refine (new_any 20000 w1).mono ?_
  rintro e w2 ⟨rfl, o2, b2⟩
  have S2 := Lib.hid (St.begin B1.out o2 b2)
  have K2 := Lib.hid (PK.begin P1.out b2)
  clear o2 b2
  have la := laid_any q.length w2 w1.heap.size _ _ ad1 c1 q (Nat.le_refl _) (by omega) S2.out.arena K2.out (by rw [newA_room (by omega) (by omega), newA_slots]; simp; omega)
  have LA := Lib.hid la; clear la
  go_wp2_with fail
  refine LA.out.mono ?_
  rintro e w3 ⟨t, a3, rfl, ⟨F3, o3, g3⟩, x3, l3, t3, al3⟩
  have H3 := Lib.hid (Has.mk (S2.out.grow g3 o3) t3 (x3.1.trans (newA_room (by omega) (by omega))) (by rw [l3, newA_slots]; simp) x3.2.1 : Has W w3 w1.heap.size a3 F3 t q (20000))
  have K3 := Lib.hid (K2.out.grow g3)
  clear o3 g3 x3 l3 t3 al3
  have hlen64 : q.length ≤ 1000 := by omega
  have S3 := Lib.hid H3.out.st
  have HBEG := Lib.hid (And.intro S3.out (And.intro K3.out (And.intro H3.out.tr (And.intro HQ.out (And.intro H3.out.room (show a3.slots.length ≤ 1000 + 300 * 0 by have := H3.out.used; omega))))))
  go_wp2_with fail
  go_loopw [5, 7, 33] (fun v tv i wr => ∃ k : Nat, k ≤ dl.length ∧ i = .int .i64 k ∧ ∃ m adm cm, v = .slice adm m.length cm ∧ ∃ z : Int, tv = .int .i64 z ∧ m.length ≤ 30 + k ∧ ∃ A F, Hid (St W wr (some ⟨w1.heap.size, 0, none⟩) (some A) F ∧ PK wr F adm cm m ∧ Tr A z m ∧ Sorted m ∧ A.room = 20000 ∧ A.slots.length ≤ 1000 + 300 * k)) (fun _ _ i _ => dl.length - (intOf i).toNat)
  case atStart => exact ⟨0, Nat.zero_le _, rfl, q, _, _, rfl, t, rfl, by omega, _, _, HBEG⟩
  case round =>
    obtain ⟨k, hk, rfl, m, adm, cm, rfl, z, rfl, hml, A, F, HR⟩ := hrel
    obtain ⟨hS, hK, hT, hSo, hroom, hused⟩ := HR.out
    have S9 := Lib.hid hS; have K9 := Lib.hid hK; have T9 := Lib.hid hT; have HS9 := Lib.hid hSo; clear hS hK hT hSo HR
    have hfit := S9.out.fits
    by_cases hlt : k < dl.length
    · obtain ⟨b, off, hbo, hb, hcells⟩ := HDL.out.cell hlt
      subst hbo
      obtain ⟨c0, c1, c2⟩ := hcells wr S9.out.below
      obtain ⟨dq, hdq⟩ : ∃ dq, dl[k] = dq := ⟨_, rfl⟩
      rw [hdq] at c0 c1 c2
      have hz := S9.out.size
      have hbw : b < wr.heap.size := by omega
      clear hcells hdq
      obtain ⟨x0, xk, xv⟩ := dq
      simp only [] at c0 c1 c2
      have hgl := hgt_le m
      by_cases d0 : x0 = 0
      · have e0 : (x0 == 0) = true := beq_iff_eq.2 d0
        clear d0
        have S10 := Lib.hid (S9.out.alloc (.cells #[.int .i64 x0, .int .i64 xk, .int .i64 xv] 61))
        have K10 := Lib.hid (K9.out.alloc (.cells #[.int .i64 x0, .int .i64 xk, .int .i64 xv] 61))
        have N10 := Lib.hid (S9.out.new (.cells #[.int .i64 x0, .int .i64 xk, .int .i64 xv] 61))
        obtain ⟨a4, u, e4, tu, x4, f4, l4⟩ := putO_room T9.out HS9.out (by omega) hfit xk xv (by omega)
        have r4 := x4.1
        have hil := ins_len m (xk, xv)
        have HW := Lib.hid (withP_ins m (xk, xv) HS9.out)
        generalize (gotP m xk).2 = gb at e4
        generalize (gotP m xk).1 = gv at e4
        have H2 := Lib.hid (show Tr a4 u (ins m (xk, xv)) ∧ Sorted (ins m (xk, xv)) ∧ a4.room = 20000 ∧ a4.slots.length ≤ 1000 + 300 * (k + 1) from ⟨tu, ins_sorted HS9.out, by omega, by omega⟩)
        have HM := Lib.hid (mayO_tr H2.out.1 H2.out.2.1 (by omega))
        have E4 := Lib.hid e4
        clear e4 tu x4 f4 l4 r4 hroom hused hfit
        have n10c1_10 := cell_blk (i := 1) N10.out.at_ rfl
        have n10c2_10 := cell_blk (i := 2) N10.out.at_ rfl
        have cc := putO_any S10.out.arena z xk xv
        rw [E4.out] at cc
        have CC := Lib.hid cc; clear cc
        go_wp2_with fail
        refine CC.out.mono ?_
        rintro e w11 ⟨rfl, m11⟩
        clear CC
        clear n10c1_10 n10c2_10
        obtain ⟨F11, o11, g11⟩ := Made.out m11
        have S11 := Lib.hid (S10.out.grow g11 o11)
        have K11 := Lib.hid (K10.out.grow g11)
        have N11 := Lib.hid (N10.out.grow g11)
        clear m11 o11 g11
        have n11c1_11 := cell_blk (i := 1) N11.out.at_ rfl
        have n11c2_11 := cell_blk (i := 2) N11.out.at_ rfl
        have cw := with_any _ K11.out.pin (by omega) (xk, xv)
        rw [HW.out] at cw
        have CW := Lib.hid cw; clear cw
        go_wp2_with fail
        refine CW.out.mono ?_
        rintro e w12 ⟨adV, cV, rfl, pp, np, b12⟩
        clear CW
        clear n11c1_11 n11c2_11
        have S12 := Lib.hid (S11.out.later b12)
        have K12 := Lib.hid (K11.out.later b12)
        have N12 := Lib.hid (N11.out.below b12)
        have V12 := Lib.hid (PK.mk pp (fun _ x hx hf => by have := np x hx; have := S11.out.arena.lt _ hf; omega))
        clear b12 pp np
        have c := mayO_any S12.out.arena u
        rw [HM.out] at c
        have C := Lib.hid c; clear c
        go_wp2_with fail
        refine (C.out).mono ?_
        rintro e w13 ⟨rfl, b13⟩
        have S13 := Lib.hid (S12.out.later b13)
        have K13 := Lib.hid (K12.out.later b13)
        have V13 := Lib.hid (V12.out.later b13)
        have N13 := Lib.hid (N12.out.below b13)
        clear b13
        clear C
        have HSS := Lib.hid (says_any _ _ _ _ _ u _ _ (ins m (xk, xv)) (Nat.le_refl _) (by omega) S13.out.arena V13.out H2.out.1)
        go_wp2_with fail
        refine (HSS.out).mono ?_
        rintro e w14 ⟨rfl, b14⟩
        have S14 := Lib.hid (S13.out.later b14)
        have K14 := Lib.hid (K13.out.later b14)
        have V14 := Lib.hid (V13.out.later b14)
        have N14 := Lib.hid (N13.out.below b14)
        clear b14
        clear HSS
        go_wp2_with fail
        go_roundw
        case rel => exact ⟨k + 1, by omega, by go_num, (ins m (xk, xv)), _, _, rfl, u, rfl, by omega, a4, _, Lib.hid ⟨S14.out, V14.out, H2.out.1, H2.out.2.1, H2.out.2.2.1, H2.out.2.2.2⟩⟩
        case measure => simp [intOf]; omega
      have e0 : (x0 == 0) = false := beq_eq_false_iff_ne.2 d0
      by_cases d1 : x0 = 1
      · have e1 : (x0 == 1) = true := beq_iff_eq.2 d1
        clear d0 d1
        rcases find_cases HS9.out xk with ⟨fk, hfk, _, hfi, hgp0⟩ | ⟨hfi, hgp0, hno⟩
        · have hgp : (gotP m xk).2 = true := by rw [hgp0]
          have HFI := Lib.hid hfi
          clear hgp0 hfi
          have S10 := Lib.hid (S9.out.alloc (.cells #[.int .i64 x0, .int .i64 xk, .int .i64 xv] 61))
          have K10 := Lib.hid (K9.out.alloc (.cells #[.int .i64 x0, .int .i64 xk, .int .i64 xv] 61))
          have N10 := Lib.hid (S9.out.new (.cells #[.int .i64 x0, .int .i64 xk, .int .i64 xv] 61))
          have hh := addO_room T9.out HS9.out (by omega) hfit xk xv (by omega)
          have e4 : addO (some A) z xk xv = (z, (gotP m xk).1, true, 0, some A) := by
            rcases hh with ⟨_, h⟩ | ⟨h, _⟩
            · exact h
            · rw [hgp] at h; cases h
          clear hh
          generalize (gotP m xk).1 = gv at e4
          have H2 := Lib.hid (show Tr A z m ∧ Sorted m ∧ A.room = 20000 ∧ A.slots.length ≤ 1000 + 300 * (k + 1) from ⟨T9.out, HS9.out, by omega, by omega⟩)
          have HM := Lib.hid (mayO_tr H2.out.1 H2.out.2.1 (by omega))
          have E4 := Lib.hid e4
          clear e4 hroom hused hfit
          have hf0 : (0 : Int) ≤ (fk : Int) := by omega
          have n10c1_10 := cell_blk (i := 1) N10.out.at_ rfl
          have n10c2_10 := cell_blk (i := 2) N10.out.at_ rfl
          have cc := addO_any S10.out.arena z xk xv
          rw [E4.out] at cc
          have CC := Lib.hid cc; clear cc
          go_wp2_with fail
          refine CC.out.mono ?_
          rintro e w11 ⟨rfl, m11⟩
          clear CC
          clear n10c1_10 n10c2_10
          obtain ⟨F11, o11, g11⟩ := Made.out m11
          have S11 := Lib.hid (S10.out.grow g11 o11)
          have K11 := Lib.hid (K10.out.grow g11)
          have N11 := Lib.hid (N10.out.grow g11)
          clear m11 o11 g11
          have n11c1_11 := cell_blk (i := 1) N11.out.at_ rfl
          have n11c2_11 := cell_blk (i := 2) N11.out.at_ rfl
          have c := find_any _ K11.out.pin xk
          rw [HFI.out] at c
          have C := Lib.hid c; clear c
          go_wp2_with fail
          refine (C.out).mono ?_
          rintro e w12 ⟨rfl, b12⟩
          clear n11c1_11 n11c2_11
          have S12 := Lib.hid (S11.out.later b12)
          have K12 := Lib.hid (K11.out.later b12)
          have N12 := Lib.hid (N11.out.below b12)
          clear b12
          clear C
          have c := mayO_any S12.out.arena z
          rw [HM.out] at c
          have C := Lib.hid c; clear c
          go_wp2_with fail
          refine (C.out).mono ?_
          rintro e w13 ⟨rfl, b13⟩
          have S13 := Lib.hid (S12.out.later b13)
          have K13 := Lib.hid (K12.out.later b13)
          have N13 := Lib.hid (N12.out.below b13)
          clear b13
          clear C
          have HSS := Lib.hid (says_any _ _ _ _ _ z _ _ m (Nat.le_refl _) (by omega) S13.out.arena K13.out H2.out.1)
          go_wp2_with fail
          refine (HSS.out).mono ?_
          rintro e w14 ⟨rfl, b14⟩
          have S14 := Lib.hid (S13.out.later b14)
          have K14 := Lib.hid (K13.out.later b14)
          have N14 := Lib.hid (N13.out.below b14)
          clear b14
          clear HSS
          go_wp2_with fail
          go_roundw
          case rel => exact ⟨k + 1, by omega, by go_num, m, _, _, rfl, z, rfl, by omega, A, _, Lib.hid ⟨S14.out, K14.out, H2.out.1, H2.out.2.1, H2.out.2.2.1, H2.out.2.2.2⟩⟩
          case measure => simp [intOf]; omega
        · have hgp : (gotP m xk).2 = false := by rw [hgp0]
          have HFI := Lib.hid hfi
          clear hgp0 hfi
          clear hno
          have S10 := Lib.hid (S9.out.alloc (.cells #[.int .i64 x0, .int .i64 xk, .int .i64 xv] 61))
          have K10 := Lib.hid (K9.out.alloc (.cells #[.int .i64 x0, .int .i64 xk, .int .i64 xv] 61))
          have N10 := Lib.hid (S9.out.new (.cells #[.int .i64 x0, .int .i64 xk, .int .i64 xv] 61))
          have hh := addO_room T9.out HS9.out (by omega) hfit xk xv (by omega)
          obtain ⟨a4, u, e4, tu, x4, f4, l4⟩ : ∃ a4 u, addO (some A) z xk xv = (u, (gotP m xk).1, false, 0, some a4) ∧ Tr a4 u (ins m (xk, xv)) ∧ Ext A a4 ∧ fits a4 ∧ a4.slots.length ≤ A.slots.length + (hgt m + 1) := by
            rcases hh with ⟨h, _⟩ | ⟨_, h⟩
            · rw [hgp] at h; cases h
            · exact h
          clear hh
          have r4 := x4.1
          have hil := ins_len m (xk, xv)
          have HW := Lib.hid (withP_ins m (xk, xv) HS9.out)
          generalize (gotP m xk).1 = gv at e4
          have H2 := Lib.hid (show Tr a4 u (ins m (xk, xv)) ∧ Sorted (ins m (xk, xv)) ∧ a4.room = 20000 ∧ a4.slots.length ≤ 1000 + 300 * (k + 1) from ⟨tu, ins_sorted HS9.out, by omega, by omega⟩)
          have HM := Lib.hid (mayO_tr H2.out.1 H2.out.2.1 (by omega))
          have E4 := Lib.hid e4
          clear e4 tu x4 f4 l4 r4 hroom hused hfit
          have n10c1_10 := cell_blk (i := 1) N10.out.at_ rfl
          have n10c2_10 := cell_blk (i := 2) N10.out.at_ rfl
          have cc := addO_any S10.out.arena z xk xv
          rw [E4.out] at cc
          have CC := Lib.hid cc; clear cc
          go_wp2_with fail
          refine CC.out.mono ?_
          rintro e w11 ⟨rfl, m11⟩
          clear CC
          clear n10c1_10 n10c2_10
          obtain ⟨F11, o11, g11⟩ := Made.out m11
          have S11 := Lib.hid (S10.out.grow g11 o11)
          have K11 := Lib.hid (K10.out.grow g11)
          have N11 := Lib.hid (N10.out.grow g11)
          clear m11 o11 g11
          have n11c1_11 := cell_blk (i := 1) N11.out.at_ rfl
          have n11c2_11 := cell_blk (i := 2) N11.out.at_ rfl
          have c := find_any _ K11.out.pin xk
          rw [HFI.out] at c
          have C := Lib.hid c; clear c
          go_wp2_with fail
          refine (C.out).mono ?_
          rintro e w12 ⟨rfl, b12⟩
          clear n11c1_11 n11c2_11
          have S12 := Lib.hid (S11.out.later b12)
          have K12 := Lib.hid (K11.out.later b12)
          have N12 := Lib.hid (N11.out.below b12)
          clear b12
          clear C
          have n12c1_12 := cell_blk (i := 1) N12.out.at_ rfl
          have n12c2_12 := cell_blk (i := 2) N12.out.at_ rfl
          have cw := with_any _ K12.out.pin (by omega) (xk, xv)
          rw [HW.out] at cw
          have CW := Lib.hid cw; clear cw
          go_wp2_with fail
          refine CW.out.mono ?_
          rintro e w13 ⟨adV, cV, rfl, pp, np, b13⟩
          clear CW
          clear n12c1_12 n12c2_12
          have S13 := Lib.hid (S12.out.later b13)
          have K13 := Lib.hid (K12.out.later b13)
          have N13 := Lib.hid (N12.out.below b13)
          have V13 := Lib.hid (PK.mk pp (fun _ x hx hf => by have := np x hx; have := S12.out.arena.lt _ hf; omega))
          clear b13 pp np
          have c := mayO_any S13.out.arena u
          rw [HM.out] at c
          have C := Lib.hid c; clear c
          go_wp2_with fail
          refine (C.out).mono ?_
          rintro e w14 ⟨rfl, b14⟩
          have S14 := Lib.hid (S13.out.later b14)
          have K14 := Lib.hid (K13.out.later b14)
          have V14 := Lib.hid (V13.out.later b14)
          have N14 := Lib.hid (N13.out.below b14)
          clear b14
          clear C
          have HSS := Lib.hid (says_any _ _ _ _ _ u _ _ (ins m (xk, xv)) (Nat.le_refl _) (by omega) S14.out.arena V14.out H2.out.1)
          go_wp2_with fail
          refine (HSS.out).mono ?_
          rintro e w15 ⟨rfl, b15⟩
          have S15 := Lib.hid (S14.out.later b15)
          have K15 := Lib.hid (K14.out.later b15)
          have V15 := Lib.hid (V14.out.later b15)
          have N15 := Lib.hid (N14.out.below b15)
          clear b15
          clear HSS
          go_wp2_with fail
          go_roundw
          case rel => exact ⟨k + 1, by omega, by go_num, (ins m (xk, xv)), _, _, rfl, u, rfl, by omega, a4, _, Lib.hid ⟨S15.out, V15.out, H2.out.1, H2.out.2.1, H2.out.2.2.1, H2.out.2.2.2⟩⟩
          case measure => simp [intOf]; omega
      have e1 : (x0 == 1) = false := beq_eq_false_iff_ne.2 d1
      by_cases d2 : x0 = 2
      · have e2 : (x0 == 2) = true := beq_iff_eq.2 d2
        clear d0 d1 d2
        rcases find_cases HS9.out xk with ⟨fk, hfk, _, hfi, hgp0⟩ | ⟨hfi, hgp0, hno⟩
        · have hgp : (gotP m xk).2 = true := by rw [hgp0]
          have HFI := Lib.hid hfi
          clear hgp0 hfi
          have S10 := Lib.hid (S9.out.alloc (.cells #[.int .i64 x0, .int .i64 xk, .int .i64 xv] 61))
          have K10 := Lib.hid (K9.out.alloc (.cells #[.int .i64 x0, .int .i64 xk, .int .i64 xv] 61))
          have N10 := Lib.hid (S9.out.new (.cells #[.int .i64 x0, .int .i64 xk, .int .i64 xv] 61))
          have hsub := less_sub xk m
          have hls := hsub.length_le
          have hsl := HS9.out.sub hsub
          obtain ⟨a4, u, e4, tu, x4, f4, l4⟩ := cutO_room T9.out HS9.out (by omega) hfit xk (by rw [hgp]) (by omega)
          have r4 := x4.1
          generalize (gotP m xk).1 = gv at e4
          have H2 := Lib.hid (show Tr a4 u (less xk m) ∧ Sorted (less xk m) ∧ a4.room = 20000 ∧ a4.slots.length ≤ 1000 + 300 * (k + 1) from ⟨tu, hsl, by omega, by omega⟩)
          have HM := Lib.hid (mayO_tr H2.out.1 H2.out.2.1 (by omega))
          have E4 := Lib.hid e4
          clear e4 tu x4 f4 l4 r4 hroom hused hfit hsub hsl
          have n10c1_10 := cell_blk (i := 1) N10.out.at_ rfl
          have n10c2_10 := cell_blk (i := 2) N10.out.at_ rfl
          have cc := cutO_any S10.out.arena z xk
          rw [E4.out] at cc
          have CC := Lib.hid cc; clear cc
          go_wp2_with fail
          refine CC.out.mono ?_
          rintro e w11 ⟨rfl, m11⟩
          clear CC
          clear n10c1_10 n10c2_10
          obtain ⟨F11, o11, g11⟩ := Made.out m11
          have S11 := Lib.hid (S10.out.grow g11 o11)
          have K11 := Lib.hid (K10.out.grow g11)
          have N11 := Lib.hid (N10.out.grow g11)
          clear m11 o11 g11
          have n11c1_11 := cell_blk (i := 1) N11.out.at_ rfl
          have n11c2_11 := cell_blk (i := 2) N11.out.at_ rfl
          have cw := without_any _ K11.out.pin (by omega) xk
          have CW := Lib.hid cw; clear cw
          go_wp2_with fail
          refine CW.out.mono ?_
          rintro e w12 ⟨adV, cV, rfl, pp, np, b12⟩
          clear CW
          clear n11c1_11 n11c2_11
          have S12 := Lib.hid (S11.out.later b12)
          have K12 := Lib.hid (K11.out.later b12)
          have N12 := Lib.hid (N11.out.below b12)
          have V12 := Lib.hid (PK.mk pp (fun _ x hx hf => by have := np x hx; have := S11.out.arena.lt _ hf; omega))
          clear b12 pp np
          have c := mayO_any S12.out.arena u
          rw [HM.out] at c
          have C := Lib.hid c; clear c
          go_wp2_with fail
          refine (C.out).mono ?_
          rintro e w13 ⟨rfl, b13⟩
          have S13 := Lib.hid (S12.out.later b13)
          have K13 := Lib.hid (K12.out.later b13)
          have V13 := Lib.hid (V12.out.later b13)
          have N13 := Lib.hid (N12.out.below b13)
          clear b13
          clear C
          have HSS := Lib.hid (says_any _ _ _ _ _ u _ _ (less xk m) (Nat.le_refl _) (by omega) S13.out.arena V13.out H2.out.1)
          go_wp2_with fail
          refine (HSS.out).mono ?_
          rintro e w14 ⟨rfl, b14⟩
          have S14 := Lib.hid (S13.out.later b14)
          have K14 := Lib.hid (K13.out.later b14)
          have V14 := Lib.hid (V13.out.later b14)
          have N14 := Lib.hid (N13.out.below b14)
          clear b14
          clear HSS
          go_wp2_with fail
          go_roundw
          case rel => exact ⟨k + 1, by omega, by go_num, (less xk m), _, _, rfl, u, rfl, by omega, a4, _, Lib.hid ⟨S14.out, V14.out, H2.out.1, H2.out.2.1, H2.out.2.2.1, H2.out.2.2.2⟩⟩
          case measure => simp [intOf]; omega
        · have hgp : (gotP m xk).2 = false := by rw [hgp0]
          have HFI := Lib.hid hfi
          clear hgp0 hfi
          have S10 := Lib.hid (S9.out.alloc (.cells #[.int .i64 x0, .int .i64 xk, .int .i64 xv] 61))
          have K10 := Lib.hid (K9.out.alloc (.cells #[.int .i64 x0, .int .i64 xk, .int .i64 xv] 61))
          have N10 := Lib.hid (S9.out.new (.cells #[.int .i64 x0, .int .i64 xk, .int .i64 xv] 61))
          have hsub := less_sub xk m
          have hls := hsub.length_le
          have hsl := HS9.out.sub hsub
          have e4 : cutO (some A) z xk = (z, 0, false, 0, some A) := by
            rcases cutO_tr T9.out HS9.out (by omega) hfit xk with ⟨_, h⟩ | ⟨h, _⟩
            · exact h
            · rw [hgp] at h; cases h
          have H2 := Lib.hid (show Tr A z (less xk m) ∧ Sorted (less xk m) ∧ A.room = 20000 ∧ A.slots.length ≤ 1000 + 300 * (k + 1) from ⟨by rw [less_all hno]; exact T9.out, hsl, by omega, by omega⟩)
          have HM := Lib.hid (mayO_tr H2.out.1 H2.out.2.1 (by omega))
          have E4 := Lib.hid e4
          clear e4 hroom hused hfit hsub hsl hno
          have n10c1_10 := cell_blk (i := 1) N10.out.at_ rfl
          have n10c2_10 := cell_blk (i := 2) N10.out.at_ rfl
          have cc := cutO_any S10.out.arena z xk
          rw [E4.out] at cc
          have CC := Lib.hid cc; clear cc
          go_wp2_with fail
          refine CC.out.mono ?_
          rintro e w11 ⟨rfl, m11⟩
          clear CC
          clear n10c1_10 n10c2_10
          obtain ⟨F11, o11, g11⟩ := Made.out m11
          have S11 := Lib.hid (S10.out.grow g11 o11)
          have K11 := Lib.hid (K10.out.grow g11)
          have N11 := Lib.hid (N10.out.grow g11)
          clear m11 o11 g11
          have n11c1_11 := cell_blk (i := 1) N11.out.at_ rfl
          have n11c2_11 := cell_blk (i := 2) N11.out.at_ rfl
          have cw := without_any _ K11.out.pin (by omega) xk
          have CW := Lib.hid cw; clear cw
          go_wp2_with fail
          refine CW.out.mono ?_
          rintro e w12 ⟨adV, cV, rfl, pp, np, b12⟩
          clear CW
          clear n11c1_11 n11c2_11
          have S12 := Lib.hid (S11.out.later b12)
          have K12 := Lib.hid (K11.out.later b12)
          have N12 := Lib.hid (N11.out.below b12)
          have V12 := Lib.hid (PK.mk pp (fun _ x hx hf => by have := np x hx; have := S11.out.arena.lt _ hf; omega))
          clear b12 pp np
          have c := mayO_any S12.out.arena z
          rw [HM.out] at c
          have C := Lib.hid c; clear c
          go_wp2_with fail
          refine (C.out).mono ?_
          rintro e w13 ⟨rfl, b13⟩
          have S13 := Lib.hid (S12.out.later b13)
          have K13 := Lib.hid (K12.out.later b13)
          have V13 := Lib.hid (V12.out.later b13)
          have N13 := Lib.hid (N12.out.below b13)
          clear b13
          clear C
          have HSS := Lib.hid (says_any _ _ _ _ _ z _ _ (less xk m) (Nat.le_refl _) (by omega) S13.out.arena V13.out H2.out.1)
          go_wp2_with fail
          refine (HSS.out).mono ?_
          rintro e w14 ⟨rfl, b14⟩
          have S14 := Lib.hid (S13.out.later b14)
          have K14 := Lib.hid (K13.out.later b14)
          have V14 := Lib.hid (V13.out.later b14)
          have N14 := Lib.hid (N13.out.below b14)
          clear b14
          clear HSS
          go_wp2_with fail
          go_roundw
          case rel => exact ⟨k + 1, by omega, by go_num, (less xk m), _, _, rfl, z, rfl, by omega, A, _, Lib.hid ⟨S14.out, V14.out, H2.out.1, H2.out.2.1, H2.out.2.2.1, H2.out.2.2.2⟩⟩
          case measure => simp [intOf]; omega
      have e2 : (x0 == 2) = false := beq_eq_false_iff_ne.2 d2
      by_cases d3 : x0 = 3
      · have e3 : (x0 == 3) = true := beq_iff_eq.2 d3
        clear d0 d1 d2 d3
        have S10 := Lib.hid (S9.out.alloc (.cells #[.int .i64 x0, .int .i64 xk, .int .i64 xv] 61))
        have K10 := Lib.hid (K9.out.alloc (.cells #[.int .i64 x0, .int .i64 xk, .int .i64 xv] 61))
        have N10 := Lib.hid (S9.out.new (.cells #[.int .i64 x0, .int .i64 xk, .int .i64 xv] 61))
        obtain ⟨a4, x, y, e4, tx, ty, x4, f4, l4⟩ := partO_room T9.out HS9.out (by omega) hfit xk (by omega)
        have r4 := x4.1
        have hlh := lo_hi HS9.out xk
        have hg1 := hgt_le (lo xk m)
        have hg2 := hgt_le (hi xk m)
        have hll := congrArg List.length hlh
        rw [List.length_append] at hll
        obtain ⟨a5, u, e5, tu, x5, f5, l5⟩ := twoO_room tx ty (by rw [hlh]; exact HS9.out) (by rw [hlh]; omega) f4 (by omega)
        rw [hlh] at tu
        have r5 := x5.1
        have H2 := Lib.hid (show Tr a5 u m ∧ Sorted m ∧ a5.room = 20000 ∧ a5.slots.length ≤ 1000 + 300 * (k + 1) from ⟨tu, HS9.out, by omega, by omega⟩)
        have HM := Lib.hid (mayO_tr H2.out.1 H2.out.2.1 (by omega))
        have E4 := Lib.hid e4; have E5 := Lib.hid e5
        clear e4 e5 tx ty tu x4 x5 f4 f5 l4 l5 r4 r5 hlh hll hg1 hg2 hroom hused hfit
        have n10c1_10 := cell_blk (i := 1) N10.out.at_ rfl
        have n10c2_10 := cell_blk (i := 2) N10.out.at_ rfl
        have cc := partO_any S10.out.arena z xk
        rw [E4.out] at cc
        have CC := Lib.hid cc; clear cc
        go_wp2_with fail
        refine CC.out.mono ?_
        rintro e w11 ⟨rfl, m11⟩
        clear CC
        clear n10c1_10 n10c2_10
        obtain ⟨F11, o11, g11⟩ := Made.out m11
        have S11 := Lib.hid (S10.out.grow g11 o11)
        have K11 := Lib.hid (K10.out.grow g11)
        have N11 := Lib.hid (N10.out.grow g11)
        clear m11 o11 g11
        have cc := twoO_any S11.out.arena x y
        rw [E5.out] at cc
        have CC := Lib.hid cc; clear cc
        go_wp2_with fail
        refine CC.out.mono ?_
        rintro e w12 ⟨rfl, m12⟩
        clear CC
        obtain ⟨F12, o12, g12⟩ := Made.out m12
        have S12 := Lib.hid (S11.out.grow g12 o12)
        have K12 := Lib.hid (K11.out.grow g12)
        have N12 := Lib.hid (N11.out.grow g12)
        clear m12 o12 g12
        have c := mayO_any S12.out.arena u
        rw [HM.out] at c
        have C := Lib.hid c; clear c
        go_wp2_with fail
        refine (C.out).mono ?_
        rintro e w13 ⟨rfl, b13⟩
        have S13 := Lib.hid (S12.out.later b13)
        have K13 := Lib.hid (K12.out.later b13)
        have N13 := Lib.hid (N12.out.below b13)
        clear b13
        clear C
        have HSS := Lib.hid (says_any _ _ _ _ _ u _ _ m (Nat.le_refl _) (by omega) S13.out.arena K13.out H2.out.1)
        go_wp2_with fail
        refine (HSS.out).mono ?_
        rintro e w14 ⟨rfl, b14⟩
        have S14 := Lib.hid (S13.out.later b14)
        have K14 := Lib.hid (K13.out.later b14)
        have N14 := Lib.hid (N13.out.below b14)
        clear b14
        clear HSS
        go_wp2_with fail
        go_roundw
        case rel => exact ⟨k + 1, by omega, by go_num, m, _, _, rfl, u, rfl, by omega, a5, _, Lib.hid ⟨S14.out, K14.out, H2.out.1, H2.out.2.1, H2.out.2.2.1, H2.out.2.2.2⟩⟩
        case measure => simp [intOf]; omega
      have e3 : (x0 == 3) = false := beq_eq_false_iff_ne.2 d3
      clear d0 d1 d2 d3
      by_cases hfew : m.length < 2
      · have S10 := Lib.hid (S9.out.alloc (.cells #[.int .i64 x0, .int .i64 xk, .int .i64 xv] 61))
        have K10 := Lib.hid (K9.out.alloc (.cells #[.int .i64 x0, .int .i64 xk, .int .i64 xv] 61))
        have N10 := Lib.hid (S9.out.new (.cells #[.int .i64 x0, .int .i64 xk, .int .i64 xv] 61))
        have E4 := Lib.hid (halfO_few T9.out (by omega) hfew)
        have H2 := Lib.hid (show Tr A z m ∧ Sorted m ∧ A.room = 20000 ∧ A.slots.length ≤ 1000 + 300 * (k + 1) from ⟨T9.out, HS9.out, by omega, by omega⟩)
        clear hroom hused hfit
        have n10c1_10 := cell_blk (i := 1) N10.out.at_ rfl
        have n10c2_10 := cell_blk (i := 2) N10.out.at_ rfl
        have cc := halfO_any S10.out.arena z
        rw [E4.out] at cc
        have CC := Lib.hid cc; clear cc
        go_wp2_with fail
        refine CC.out.mono ?_
        rintro e w11 ⟨rfl, m11⟩
        clear CC
        clear n10c1_10 n10c2_10
        obtain ⟨F11, o11, g11⟩ := Made.out m11
        have S11 := Lib.hid (S10.out.grow g11 o11)
        have K11 := Lib.hid (K10.out.grow g11)
        have N11 := Lib.hid (N10.out.grow g11)
        clear m11 o11 g11
        go_wp2_with fail
        go_roundw
        case rel => exact ⟨k + 1, by omega, by go_num, m, _, _, rfl, z, rfl, by omega, A, _, Lib.hid ⟨S11.out, K11.out, H2.out.1, H2.out.2.1, H2.out.2.2.1, H2.out.2.2.2⟩⟩
        case measure => simp [intOf]; omega
      · have S10 := Lib.hid (S9.out.alloc (.cells #[.int .i64 x0, .int .i64 xk, .int .i64 xv] 61))
        have K10 := Lib.hid (K9.out.alloc (.cells #[.int .i64 x0, .int .i64 xk, .int .i64 xv] 61))
        have N10 := Lib.hid (S9.out.new (.cells #[.int .i64 x0, .int .i64 xk, .int .i64 xv] 61))
        obtain ⟨a4, x, y, e4, tx, ty, x4, f4, l4⟩ := halfO_room T9.out HS9.out (by omega) hfit (by omega) (by omega)
        have r4 := x4.1
        have htd := List.take_append_drop (m.length / 2) m
        have hg1 := hgt_le (m.take (m.length / 2))
        have hg2 := hgt_le (m.drop (m.length / 2))
        have hl1 : (m.take (m.length / 2)).length ≤ 70 := by rw [List.length_take]; omega
        have hl2 : (m.drop (m.length / 2)).length ≤ 70 := by rw [List.length_drop]; omega
        obtain ⟨a5, u, e5, tu, x5, f5, l5⟩ := twoO_room tx ty (by rw [htd]; exact HS9.out) (by rw [htd]; omega) f4 (by omega)
        rw [htd] at tu
        have r5 := x5.1
        generalize (m[m.length / 2]).1 = hk0 at e4
        have H2 := Lib.hid (show Tr a5 u m ∧ Sorted m ∧ a5.room = 20000 ∧ a5.slots.length ≤ 1000 + 300 * (k + 1) from ⟨tu, HS9.out, by omega, by omega⟩)
        have HM := Lib.hid (mayO_tr H2.out.1 H2.out.2.1 (by omega))
        have E4 := Lib.hid e4; have E5 := Lib.hid e5
        clear e4 e5 tx ty tu x4 x5 f4 f5 l4 l5 r4 r5 htd hg1 hg2 hl1 hl2 hroom hused hfit
        have n10c1_10 := cell_blk (i := 1) N10.out.at_ rfl
        have n10c2_10 := cell_blk (i := 2) N10.out.at_ rfl
        have cc := halfO_any S10.out.arena z
        rw [E4.out] at cc
        have CC := Lib.hid cc; clear cc
        go_wp2_with fail
        refine CC.out.mono ?_
        rintro e w11 ⟨rfl, m11⟩
        clear CC
        clear n10c1_10 n10c2_10
        obtain ⟨F11, o11, g11⟩ := Made.out m11
        have S11 := Lib.hid (S10.out.grow g11 o11)
        have K11 := Lib.hid (K10.out.grow g11)
        have N11 := Lib.hid (N10.out.grow g11)
        clear m11 o11 g11
        have cc := twoO_any S11.out.arena x y
        rw [E5.out] at cc
        have CC := Lib.hid cc; clear cc
        go_wp2_with fail
        refine CC.out.mono ?_
        rintro e w12 ⟨rfl, m12⟩
        clear CC
        obtain ⟨F12, o12, g12⟩ := Made.out m12
        have S12 := Lib.hid (S11.out.grow g12 o12)
        have K12 := Lib.hid (K11.out.grow g12)
        have N12 := Lib.hid (N11.out.grow g12)
        clear m12 o12 g12
        have c := mayO_any S12.out.arena u
        rw [HM.out] at c
        have C := Lib.hid c; clear c
        go_wp2_with fail
        refine (C.out).mono ?_
        rintro e w13 ⟨rfl, b13⟩
        have S13 := Lib.hid (S12.out.later b13)
        have K13 := Lib.hid (K12.out.later b13)
        have N13 := Lib.hid (N12.out.below b13)
        clear b13
        clear C
        have HSS := Lib.hid (says_any _ _ _ _ _ u _ _ m (Nat.le_refl _) (by omega) S13.out.arena K13.out H2.out.1)
        go_wp2_with fail
        refine (HSS.out).mono ?_
        rintro e w14 ⟨rfl, b14⟩
        have S14 := Lib.hid (S13.out.later b14)
        have K14 := Lib.hid (K13.out.later b14)
        have N14 := Lib.hid (N13.out.below b14)
        clear b14
        clear HSS
        go_wp2_with fail
        go_roundw
        case rel => exact ⟨k + 1, by omega, by go_num, m, _, _, rfl, u, rfl, by omega, a5, _, Lib.hid ⟨S14.out, K14.out, H2.out.1, H2.out.2.1, H2.out.2.2.1, H2.out.2.2.2⟩⟩
        case measure => simp [intOf]; omega
    · have hkl : k = dl.length := by omega
      subst hkl
      clear hroom hused hfit T9 K9
      go_wp2_with (go_at_call 18; refine (awake10_any W _ S9.out.below).mono ?_; rintro e wz ⟨rfl, bz⟩)
      go_ret
      exact ⟨rfl, bz⟩

end Go.Proofs.Ytkcfkanfdbejiaa
