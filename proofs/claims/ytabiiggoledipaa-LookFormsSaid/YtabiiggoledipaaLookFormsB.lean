/- The walk of the law LookForms: keys that are not there; no pairs. -/
import Derived.Test.YtabiiggoledipaaAwake4
import Derived.Test.YtabiiggoledipaaLookQ
import Derived.Test.YtabiiggoledipaaRefW
namespace Go.Proofs.Ytabiiggoledipaa
set_option maxRecDepth 100000
open Go.RowKit Go.Proofs.YtabiiggoledipaaW.PrintWords Go.Proofs.YtabiiggoledipaaW.PrintLast
set_option linter.unusedSimpArgs false
set_option linter.unusedVariables false

theorem belowP_snoc2 (l : List Pr) (x : Pr) (key : Int) : belowP (l ++ [x]) key = if x.1 < key then belowP l key + 1 else belowP l key := by
  unfold belowP
  rw [List.filter_append, List.filter_cons]
  by_cases h : x.1 < key <;> simp [h]

set_option maxRecDepth 100000 in
set_option maxHeartbeats 4000000 in
theorem lookForms_3 (W : World) {ad : Option Addr} {c : Nat} {l : List Pr} (hl : PIn W ad c l) (key i : Int) (q : List Pr) (hq : pairs l 60 = q) (hpos : 0 < q.length) (hfi : findI q key = -1) (hfg : gotP q key = (0, false)) (hin : 0 ≤ i ∧ i < q.length) :
    Calls Try.prog 10 #[.slice ad l.length c, .int .i64 key, .int .i64 i] W fun e w' => e = .returned (.bool true) ∧ Below W.heap.size W w' := by
  have hp := pairs_any W hl 60 (by decide) (by decide)
  have hpl := (pairsB_len l 60 (by decide) l.length).1
  have hs := pairs_sorted l 60
  rw [show pairsB l 60 l.length = pairs l 60 from rfl] at hpl
  rw [hq] at hp hpl hs
  have HP := Lib.hid hp; clear hp hl
  have HQ := Lib.hid hs; clear hs hq
  go_enter Try.func10, Try.ntmps10
  go_wp2_with fail
  refine HP.out.mono ?_
  rintro e w1 ⟨ad1, c1, rfl, p1, n1, b1⟩
  have P1 := Lib.hid p1; clear p1 n1
  have B1 := Lib.hid b1; clear b1
  go_wp2_with fail
  refine (new_any 100 w1).mono ?_
  rintro e w2 ⟨rfl, o2, b2⟩
  have S2 := Lib.hid (St.begin B1.out o2 b2)
  have K2 := Lib.hid (PK.begin P1.out b2)
  clear o2 b2
  have la := laid_any q.length w2 w1.heap.size _ _ ad1 c1 q (Nat.le_refl _) (by omega) S2.out.arena K2.out (by rw [newA_room (by omega) (by omega), newA_slots]; simp; omega)
  have LA := Lib.hid la; clear la
  go_wp2_with fail
  refine LA.out.mono ?_
  rintro e w3 ⟨t, a3, rfl, ⟨F3, o3, g3⟩, x3, l3, t3, al3⟩
  have H3 := Lib.hid (Has.mk (S2.out.grow g3 o3) t3 (x3.1.trans (newA_room (by omega) (by omega))) (by rw [l3, newA_slots]; simp) x3.2.1 : Has W w3 w1.heap.size a3 F3 t q (100))
  have K3 := Lib.hid (K2.out.grow g3)
  clear o3 g3 x3 l3 t3 al3
  have hlen64 : q.length ≤ 1000 := by omega
  have tr3 := H3.out.tr
  have TR := Lib.hid tr3
  have S3 := Lib.hid H3.out.st
  obtain ⟨b, off, hbo, hcell0⟩ := K3.out.cells hpos
  subst hbo
  have HC0 := Lib.hid hcell0; clear hcell0
  have eg := lgF_tr tr3 HQ.out key (fuel t) (lt_fuel t)
  rw [hfg] at eg
  have c := lookGet_any S3.out.arena (fuel t) t key (lt_fuel t)
  rw [eg] at c
  have C := Lib.hid c; clear c eg
  go_wp2_with fail
  refine (C.out).mono ?_
  rintro e w4 ⟨rfl, b4⟩
  have S4 := Lib.hid (S3.out.later b4)
  have K4 := Lib.hid (K3.out.later b4)
  clear b4
  clear C
  have c := find_any _ K4.out.pin key
  rw [hfi] at c
  have C := Lib.hid c; clear c
  go_wp2_with fail
  refine (C.out).mono ?_
  rintro e w5 ⟨rfl, b5⟩
  have S5 := Lib.hid (S4.out.later b5)
  have K5 := Lib.hid (K4.out.later b5)
  clear b5
  clear C
  have es := tr3.size.1
  have eh := tr3.size.2
  have c := lsize_any S5.out.arena t
  rw [es] at c
  have C := Lib.hid c; clear c es
  have ql : ((q.length : Int) != (q.length : Int)) = false := by simp
  go_wp2_with fail
  refine (C.out).mono ?_
  rintro e w6 ⟨rfl, b6⟩
  have S6 := Lib.hid (S5.out.later b6)
  have K6 := Lib.hid (K5.out.later b6)
  clear b6
  clear C
  have c := lhigh_any S6.out.arena t
  rw [eh] at c
  have C := Lib.hid c; clear c eh
  go_wp2_with fail
  refine (C.out).mono ?_
  rintro e w7 ⟨rfl, b7⟩
  have S7 := Lib.hid (S6.out.later b7)
  have K7 := Lib.hid (K6.out.later b7)
  clear b7
  clear C
  have c := high_any _ _ _ c1 q (Nat.le_refl _) (by omega) K7.out.pin
  have C := Lib.hid c; clear c
  have qh : ((hgt q : Int) != (hgt q : Int)) = false := by simp
  go_wp2_with fail
  refine (C.out).mono ?_
  rintro e w8 ⟨rfl, b8⟩
  have S8 := Lib.hid (S7.out.later b8)
  have K8 := Lib.hid (K7.out.later b8)
  clear b8
  clear C
  have em := minF_head tr3 (fuel t) (lt_fuel t) (head_all hpos)
  have eM := maxF_at tr3 (fuel t) (lt_fuel t) (last_all hpos)
  obtain ⟨b2, off2, hbo2, hcell2⟩ := K3.out.cells (show q.length - 1 < q.length by omega)
  obtain ⟨rfl, rfl⟩ : b = b2 ∧ off = off2 := by simpa using hbo2
  have HC2 := Lib.hid hcell2; clear hcell2 hbo2
  generalize hx0 : q[0] = x0 at em
  generalize hx1 : q[q.length - 1] = x1 at eM
  have HX0 := Lib.hid hx0; clear hx0
  have HX1 := Lib.hid hx1; clear hx1
  obtain ⟨ak, av⟩ := x0
  obtain ⟨zk, zv⟩ := x1
  simp only [] at em eM
  have c := lookMin_any S8.out.arena (fuel t) t (lt_fuel t)
  rw [em] at c
  have C := Lib.hid c; clear c
  go_wp2_with fail
  refine (C.out).mono ?_
  rintro e w9 ⟨rfl, b9⟩
  have S9 := Lib.hid (S8.out.later b9)
  have K9 := Lib.hid (K8.out.later b9)
  clear b9
  clear C
  have S10 := Lib.hid (S9.out.alloc (.cells #[.int .i64 ak, .int .i64 av] 25))
  have K10 := Lib.hid (K9.out.alloc (.cells #[.int .i64 ak, .int .i64 av] 25))
  have A10 := Lib.hid (S9.out.new (.cells #[.int .i64 ak, .int .i64 av] 25))
  have c := lookMax_any S10.out.arena (fuel t) t (lt_fuel t)
  rw [eM] at c
  have C := Lib.hid c; clear c
  go_wp2_with fail
  refine (C.out).mono ?_
  rintro e w11 ⟨rfl, b11⟩
  have S11 := Lib.hid (S10.out.later b11)
  have K11 := Lib.hid (K10.out.later b11)
  have A11 := Lib.hid (A10.out.below b11)
  clear b11
  clear C
  have S12 := Lib.hid (S11.out.alloc (.cells #[.int .i64 zk, .int .i64 zv] 25))
  have K12 := Lib.hid (K11.out.alloc (.cells #[.int .i64 zk, .int .i64 zv] 25))
  have A12 := Lib.hid (A11.out.alloc (.cells #[.int .i64 zk, .int .i64 zv] 25))
  have B12 := Lib.hid (S11.out.new (.cells #[.int .i64 zk, .int .i64 zv] 25))
  clear em eM
  have a12c0_12 := cell_blk (i := 0) A12.out.at_ rfl
  have a12c1_12 := cell_blk (i := 1) A12.out.at_ rfl
  have b12c0_12 := cell_blk (i := 0) B12.out.at_ rfl
  have b12c1_12 := cell_blk (i := 1) B12.out.at_ rfl
  obtain ⟨a0, a1⟩ := HC0.out _ _ K12.out
  rw [HX0.out] at a0 a1
  obtain ⟨z0, z1⟩ := HC2.out _ _ K12.out
  rw [HX1.out] at z0 z1
  simp only [Nat.zero_mul, Nat.add_zero] at a0 a1 z0 z1
  have qa := beq_self_eq_true ak
  have qb := beq_self_eq_true av
  have qc := beq_self_eq_true zk
  have qd := beq_self_eq_true zv
  have qe : (ak != ak) = false := by simp
  have qf : (av != av) = false := by simp
  have qg : (zk != zk) = false := by simp
  have qh2 : (zv != zv) = false := by simp
  have i1 : ((q.length : Int) - 1).toNat = q.length - 1 := by omega
  have w1 : IntKind.i64.wrap ((q.length : Int) - 1) = (q.length : Int) - 1 := IntWalk.i64_in _ (by omega)
  have l1 : (0 : Int) ≤ (q.length : Int) - 1 := by omega
  have l2 : (q.length : Int) - 1 < (q.length : Int) := by omega
  have l3 : q.length - 1 < q.length := by omega
  have l4 : (1 : Int) ≤ (q.length : Int) := by omega
  have g1 : decide ((0 : Int) < (q.length : Int)) = true := decide_eq_true (by omega)
  have g2 : decide (0 < q.length) = true := decide_eq_true hpos
  go_wp2_with fail
  go_quiet (fail)
  have en := nthO_tr tr3 (fuel t) i (lt_fuel t) (by omega)
  rw [dif_pos hin] at en
  have hil : i.toNat < q.length := by omega
  generalize hxi : q[i.toNat] = xi at en
  have HXI := Lib.hid hxi
  have hbi := belowP_at HQ.out hil
  rw [hxi] at hbi
  clear hxi
  obtain ⟨ik, iv0⟩ := xi
  simp only [] at en hbi
  have cq := fun w' (hb : Below (w11.alloc (.cells #[.int .i64 zk, .int .i64 zv] 25)).heap.size (w11.alloc (.cells #[.int .i64 zk, .int .i64 zv] 25)) w') => lookNth_any (S12.out.later hb).arena (fuel t) t i (lt_fuel t)
  rw [en] at cq
  have CQ := Lib.hid cq; clear cq
  go_wp2_with fail
  refine (CQ.out _ (by exact ⟨rfl, rfl, rfl, Nat.le_refl _, fun _ _ => rfl⟩)).mono ?_
  rintro e w13 ⟨rfl, b13⟩
  clear CQ
  clear a12c0_12 a12c1_12 b12c0_12 b12c1_12 a0 a1 z0 z1 i1 w1 l1 l2 l3 l4 g1 g2
  have b13 := undrewN b13
  have S13 := Lib.hid (S12.out.later b13)
  have K13 := Lib.hid (K12.out.later b13)
  have A13 := Lib.hid (A12.out.below b13)
  have B13 := Lib.hid (B12.out.below b13)
  clear b13
  clear en
  have S14 := Lib.hid (S13.out.alloc (.cells #[.int .i64 ik, .int .i64 iv0] 25))
  have K14 := Lib.hid (K13.out.alloc (.cells #[.int .i64 ik, .int .i64 iv0] 25))
  have A14 := Lib.hid (A13.out.alloc (.cells #[.int .i64 ik, .int .i64 iv0] 25))
  have B14 := Lib.hid (B13.out.alloc (.cells #[.int .i64 ik, .int .i64 iv0] 25))
  have P14 := Lib.hid (S13.out.new (.cells #[.int .i64 ik, .int .i64 iv0] 25))
  obtain ⟨b3, off3, hbo3, hcell3⟩ := K3.out.cells hil
  obtain ⟨rfl, rfl⟩ : b = b3 ∧ off = off3 := by simpa using hbo3
  obtain ⟨d0, d1⟩ := hcell3 _ _ K14.out
  rw [HXI.out] at d0 d1
  simp only [] at d0 d1
  have D0 := Lib.hid d0
  have D1 := Lib.hid d1
  clear d0 d1 hcell3 hbo3
  obtain ⟨n, hn⟩ : ∃ n : Nat, i = n := ⟨i.toNat, by omega⟩
  subst hn
  rw [Int.toNat_natCast] at D0 D1 hbi
  have e1 := lbF_tr tr3 HQ.out ik (fuel t) 0 (lt_fuel t) (by omega)
  rw [Nat.zero_add, show ((0 : Nat) : Int) = 0 from rfl, hbi] at e1
  have cb := fun w' (hb : Below (w13.alloc (.cells #[.int .i64 ik, .int .i64 iv0] 25)).heap.size (w13.alloc (.cells #[.int .i64 ik, .int .i64 iv0] 25)) w') => lookBelow_any ((S14.out.later hb).arena) (fuel t) t ik (lt_fuel t)
  rw [e1] at cb
  have CB := Lib.hid cb; clear cb e1 hbi
  have qk1 := beq_self_eq_true ik
  have qk2 := beq_self_eq_true iv0
  have qk3 : (ik != ik) = false := by simp
  have qk4 : (iv0 != iv0) = false := by simp
  have qk5 : ((n : Int) != (n : Int)) = false := by simp
  have hnl : n < q.length := by omega
  have hn0 : (0 : Int) ≤ (n : Int) := by omega
  have hn1 : (n : Int) < (q.length : Int) := by omega
  have hg1 : decide ((0 : Int) ≤ (n : Int)) = true := decide_eq_true hn0
  have hg2 : decide ((n : Int) < (q.length : Int)) = true := decide_eq_true hn1
  have hg3 : decide (n < q.length) = true := decide_eq_true hnl
  go_wp2_with fail
  have PB := Lib.hid P14.out.at_
  have hPlt : w13.heap.size < (w13.alloc (.cells #[.int .i64 ik, .int .i64 iv0] 25)).heap.size := (Array.getElem?_eq_some_iff.1 PB.out).1
  have hblt : b < (w13.alloc (.cells #[.int .i64 ik, .int .i64 iv0] 25)).heap.size := World.block_lt_of_cell? _ _ D0.out
  refine start_ (n := 39) (S := fun w' => w'.cell? ⟨w13.heap.size, 0, none⟩ = some (.int .i64 ik) ∧ w'.cell? ⟨w13.heap.size, 1, none⟩ = some (.int .i64 iv0) ∧ w'.cell? ⟨b, off + n * 2, none⟩ = some (.int .i64 ik) ∧ w'.cell? ⟨b, off + n * 2 + 1, none⟩ = some (.int .i64 iv0)) (ds := []) #[false, false, false, false, false, false, false, false, false, false, false, false, false, false, false, false, false, false, false, false, false, false, false, false, false, false, false, false, false, false, false, false, false, false, false, false, false, false, false] (by kernel_rfl) rfl rfl ⟨(cell_blk (i := 0) (w := ((w13.alloc (.cells #[.int .i64 ik, .int .i64 iv0] 25))).drew) PB.out rfl), (cell_blk (i := 1) (w := ((w13.alloc (.cells #[.int .i64 ik, .int .i64 iv0] 25))).drew) PB.out rfl), D0.out, D1.out⟩ (fun hHeld => ?_)
  refine pure_ (i := 0) (N := some 147) (v := ?_) (a' := ?_) #[true, false, false, false, false, false, false, false, false, false, false, false, false, false, false, false, false, false, false, false, false, false, false, false, false, false, false, false, false, false, false, false, false, false, false, false, false, false, false] rfl rfl (by kernel_rfl) (fun _ _ _ h => h) (Or.inl ⟨by rfl, ?_⟩) ?_ ?_
  rotate_left
  · intro w'
    go_simp
    with_reducible rfl
  rotate_left
  · simp only [Act.put, List.setIfInBounds_toArray, List.set_cons_zero, List.set_cons_succ, i64_w, i32_w]
    rfl
  refine pure_ (i := 1) (N := some 148) (v := ?_) (a' := ?_) #[true, true, false, false, false, false, false, false, false, false, false, false, false, false, false, false, false, false, false, false, false, false, false, false, false, false, false, false, false, false, false, false, false, false, false, false, false, false, false] rfl rfl (by kernel_rfl) (fun _ _ _ h => h) (Or.inl ⟨by rfl, ?_⟩) ?_ ?_
  rotate_left
  · intro w'
    go_simp
    with_reducible rfl
  rotate_left
  · simp only [Act.put, List.setIfInBounds_toArray, List.set_cons_zero, List.set_cons_succ, i64_w, i32_w]
    rfl
  refine pure_ (i := 2) (N := some 149) (v := ?_) (a' := ?_) #[true, true, true, false, false, false, false, false, false, false, false, false, false, false, false, false, false, false, false, false, false, false, false, false, false, false, false, false, false, false, false, false, false, false, false, false, false, false, false] rfl rfl (by kernel_rfl) (fun _ _ _ h => h) (Or.inl ⟨by rfl, ?_⟩) ?_ ?_
  rotate_left
  · intro w'
    go_simp
    with_reducible rfl
  rotate_left
  · simp only [Act.put, List.setIfInBounds_toArray, List.set_cons_zero, List.set_cons_succ, i64_w, i32_w]
    rfl
  refine pure_ (i := 3) (N := some 150) (v := ?_) (a' := ?_) #[true, true, true, true, false, false, false, false, false, false, false, false, false, false, false, false, false, false, false, false, false, false, false, false, false, false, false, false, false, false, false, false, false, false, false, false, false, false, false] rfl rfl (by kernel_rfl) (fun _ _ _ h => h) (Or.inl ⟨by rfl, ?_⟩) ?_ ?_
  rotate_left
  · intro w'
    go_simp
    with_reducible rfl
  rotate_left
  · simp only [Act.put, List.setIfInBounds_toArray, List.set_cons_zero, List.set_cons_succ, i64_w, i32_w]
    rfl
  refine pure_ (i := 4) (N := some 151) (v := ?_) (a' := ?_) #[true, true, true, true, true, false, false, false, false, false, false, false, false, false, false, false, false, false, false, false, false, false, false, false, false, false, false, false, false, false, false, false, false, false, false, false, false, false, false] rfl rfl (by kernel_rfl) (fun _ _ _ h => h) (Or.inl ⟨by rfl, ?_⟩) ?_ ?_
  rotate_left
  · intro w'
    go_simp
    with_reducible rfl
  rotate_left
  · simp only [Act.put, List.setIfInBounds_toArray, List.set_cons_zero, List.set_cons_succ, i64_w, i32_w]
    rfl
  refine pure_ (i := 5) (N := some 152) (v := ?_) (a' := ?_) #[true, true, true, true, true, true, false, false, false, false, false, false, false, false, false, false, false, false, false, false, false, false, false, false, false, false, false, false, false, false, false, false, false, false, false, false, false, false, false] rfl rfl (by kernel_rfl) (fun _ _ _ h => h) (Or.inl ⟨by rfl, ?_⟩) ?_ ?_
  rotate_left
  · intro w'
    go_simp
    with_reducible rfl
  rotate_left
  · simp only [Act.put, List.setIfInBounds_toArray, List.set_cons_zero, List.set_cons_succ, i64_w, i32_w]
    rfl
  refine pure_ (i := 6) (N := some 153) (v := ?_) (a' := ?_) #[true, true, true, true, true, true, true, false, false, false, false, false, false, false, false, false, false, false, false, false, false, false, false, false, false, false, false, false, false, false, false, false, false, false, false, false, false, false, false] rfl rfl (by kernel_rfl) (fun _ _ _ h => h) (Or.inl ⟨by rfl, ?_⟩) ?_ ?_
  rotate_left
  · intro w'
    go_simp
    with_reducible rfl
  rotate_left
  · simp only [Act.put, List.setIfInBounds_toArray, List.set_cons_zero, List.set_cons_succ, i64_w, i32_w]
    rfl
  refine pure_ (i := 7) (N := some 154) (v := ?_) (a' := ?_) #[true, true, true, true, true, true, true, true, false, false, false, false, false, false, false, false, false, false, false, false, false, false, false, false, false, false, false, false, false, false, false, false, false, false, false, false, false, false, false] rfl rfl (by kernel_rfl) (fun _ _ _ h => h) (Or.inl ⟨by rfl, ?_⟩) ?_ ?_
  rotate_left
  · intro w'
    go_simp
    with_reducible rfl
  rotate_left
  · simp only [Act.put, List.setIfInBounds_toArray, List.set_cons_zero, List.set_cons_succ, i64_w, i32_w]
    rfl
  refine pure_ (i := 8) (N := some 155) (v := ?_) (a' := ?_) #[true, true, true, true, true, true, true, true, true, false, false, false, false, false, false, false, false, false, false, false, false, false, false, false, false, false, false, false, false, false, false, false, false, false, false, false, false, false, false] rfl rfl (by kernel_rfl) (fun _ _ _ h => h) (Or.inl ⟨by rfl, ?_⟩) ?_ ?_
  rotate_left
  · intro w'
    go_simp
    with_reducible rfl
  rotate_left
  · simp only [Act.put, List.setIfInBounds_toArray, List.set_cons_zero, List.set_cons_succ, i64_w, i32_w]
    rfl
  refine pure_ (i := 9) (N := some 156) (v := ?_) (a' := ?_) #[true, true, true, true, true, true, true, true, true, true, false, false, false, false, false, false, false, false, false, false, false, false, false, false, false, false, false, false, false, false, false, false, false, false, false, false, false, false, false] rfl rfl (by kernel_rfl) (fun _ _ _ h => h) (Or.inl ⟨by rfl, ?_⟩) ?_ ?_
  rotate_left
  · intro w'
    go_simp
    with_reducible rfl
  rotate_left
  · simp only [Act.put, List.setIfInBounds_toArray, List.set_cons_zero, List.set_cons_succ, i64_w, i32_w]
    rfl
  refine pure_ (i := 10) (N := some 157) (v := ?_) (a' := ?_) #[true, true, true, true, true, true, true, true, true, true, true, false, false, false, false, false, false, false, false, false, false, false, false, false, false, false, false, false, false, false, false, false, false, false, false, false, false, false, false] rfl rfl (by kernel_rfl) (fun _ _ _ h => h) (Or.inl ⟨by rfl, ?_⟩) ?_ ?_
  rotate_left
  · intro w'
    go_simp
    with_reducible rfl
  rotate_left
  · simp only [Act.put, List.setIfInBounds_toArray, List.set_cons_zero, List.set_cons_succ, i64_w, i32_w]
    rfl
  refine pure_ (i := 11) (N := some 158) (v := ?_) (a' := ?_) #[true, true, true, true, true, true, true, true, true, true, true, true, false, false, false, false, false, false, false, false, false, false, false, false, false, false, false, false, false, false, false, false, false, false, false, false, false, false, false] rfl rfl (by kernel_rfl) (fun _ _ _ h => h) (Or.inl ⟨by rfl, ?_⟩) ?_ ?_
  rotate_left
  · intro w'
    go_simp
    with_reducible rfl
  rotate_left
  · simp only [Act.put, List.setIfInBounds_toArray, List.set_cons_zero, List.set_cons_succ, i64_w, i32_w]
    rfl
  refine pure_ (i := 12) (N := some 159) (v := ?_) (a' := ?_) #[true, true, true, true, true, true, true, true, true, true, true, true, true, false, false, false, false, false, false, false, false, false, false, false, false, false, false, false, false, false, false, false, false, false, false, false, false, false, false] rfl rfl (by kernel_rfl) (fun _ _ _ h => h) (Or.inl ⟨by rfl, ?_⟩) ?_ ?_
  rotate_left
  · intro w'
    go_simp
    with_reducible rfl
  rotate_left
  · simp only [Act.put, List.setIfInBounds_toArray, List.set_cons_zero, List.set_cons_succ, i64_w, i32_w]
    rfl
  refine pure_ (i := 14) (N := some 161) (v := ?_) (a' := ?_) #[true, true, true, true, true, true, true, true, true, true, true, true, true, false, true, false, false, false, false, false, false, false, false, false, false, false, false, false, false, false, false, false, false, false, false, false, false, false, false] rfl rfl (by kernel_rfl) (fun _ _ _ h => h) (Or.inl ⟨by rfl, ?_⟩) ?_ ?_
  rotate_left
  · intro w'
    go_simp
    with_reducible rfl
  rotate_left
  · simp only [Act.put, List.setIfInBounds_toArray, List.set_cons_zero, List.set_cons_succ, i64_w, i32_w]
    rfl
  refine pure_ (i := 15) (N := some 162) (v := ?_) (a' := ?_) #[true, true, true, true, true, true, true, true, true, true, true, true, true, false, true, true, false, false, false, false, false, false, false, false, false, false, false, false, false, false, false, false, false, false, false, false, false, false, false] rfl rfl (by kernel_rfl) (fun _ _ _ h => h) (Or.inl ⟨by rfl, ?_⟩) ?_ ?_
  rotate_left
  · intro w'
    go_simp
    with_reducible rfl
  rotate_left
  · simp only [Act.put, List.setIfInBounds_toArray, List.set_cons_zero, List.set_cons_succ, i64_w, i32_w]
    rfl
  refine pure_ (i := 16) (N := some 163) (v := ?_) (a' := ?_) #[true, true, true, true, true, true, true, true, true, true, true, true, true, false, true, true, true, false, false, false, false, false, false, false, false, false, false, false, false, false, false, false, false, false, false, false, false, false, false] rfl rfl (by kernel_rfl) (fun _ _ _ h => h) (Or.inl ⟨by rfl, ?_⟩) ?_ ?_
  rotate_left
  · intro w'
    go_simp
    with_reducible rfl
  rotate_left
  · simp only [Act.put, List.setIfInBounds_toArray, List.set_cons_zero, List.set_cons_succ, i64_w, i32_w]
    rfl
  refine take_ (i := 13) (N := some 160) (v := ?_) (a' := ?_) #[true, true, true, true, true, true, true, true, true, true, true, true, true, true, true, true, true, false, false, false, false, false, false, false, false, false, false, false, false, false, false, false, false, false, false, false, false, false, false] rfl rfl (by kernel_rfl) (fun _ _ _ h => h) (Or.inl ⟨by rfl, ?_⟩) hHeld ?_ ?_
  rotate_left
  · rintro w' ⟨s0, s1, s2, s3⟩
    go_simp
    with_reducible rfl
  rotate_left
  · simp only [Act.put, List.setIfInBounds_toArray, List.set_cons_zero, List.set_cons_succ, i64_w, i32_w]
    rfl
  refine take_ (i := 17) (N := some 164) (v := ?_) (a' := ?_) #[true, true, true, true, true, true, true, true, true, true, true, true, true, true, true, true, true, true, false, false, false, false, false, false, false, false, false, false, false, false, false, false, false, false, false, false, false, false, false] rfl rfl (by kernel_rfl) (fun _ _ _ h => h) (Or.inl ⟨by rfl, ?_⟩) hHeld ?_ ?_
  rotate_left
  · rintro w' ⟨s0, s1, s2, s3⟩
    go_simp
    with_reducible rfl
  rotate_left
  · simp only [Act.put, List.setIfInBounds_toArray, List.set_cons_zero, List.set_cons_succ, i64_w, i32_w]
    rfl
  refine pure_ (i := 18) (N := some 165) (v := ?_) (a' := ?_) #[true, true, true, true, true, true, true, true, true, true, true, true, true, true, true, true, true, true, true, false, false, false, false, false, false, false, false, false, false, false, false, false, false, false, false, false, false, false, false] rfl rfl (by kernel_rfl) (fun _ _ _ h => h) (Or.inl ⟨by rfl, ?_⟩) ?_ ?_
  rotate_left
  · intro w'
    go_simp
    with_reducible rfl
  rotate_left
  · simp only [Act.put, List.setIfInBounds_toArray, List.set_cons_zero, List.set_cons_succ, i64_w, i32_w]
    rfl
  refine pure_ (i := 19) (N := some 166) (v := ?_) (a' := ?_) #[true, true, true, true, true, true, true, true, true, true, true, true, true, true, true, true, true, true, true, true, false, false, false, false, false, false, false, false, false, false, false, false, false, false, false, false, false, false, false] rfl rfl (by kernel_rfl) (fun _ _ _ h => h) (Or.inl ⟨by rfl, ?_⟩) ?_ ?_
  rotate_left
  · intro w'
    go_simp
    with_reducible rfl
  rotate_left
  · simp only [Act.put, List.setIfInBounds_toArray, List.set_cons_zero, List.set_cons_succ, i64_w, i32_w]
    rfl
  refine pure_ (i := 20) (N := some 167) (v := ?_) (a' := ?_) #[true, true, true, true, true, true, true, true, true, true, true, true, true, true, true, true, true, true, true, true, true, false, false, false, false, false, false, false, false, false, false, false, false, false, false, false, false, false, false] rfl rfl (by kernel_rfl) (fun _ _ _ h => h) (Or.inl ⟨by rfl, ?_⟩) ?_ ?_
  rotate_left
  · intro w'
    go_simp
    with_reducible rfl
  rotate_left
  · simp only [Act.put, List.setIfInBounds_toArray, List.set_cons_zero, List.set_cons_succ, i64_w, i32_w]
    rfl
  refine pure_ (i := 21) (N := some 168) (v := ?_) (a' := ?_) #[true, true, true, true, true, true, true, true, true, true, true, true, true, true, true, true, true, true, true, true, true, true, false, false, false, false, false, false, false, false, false, false, false, false, false, false, false, false, false] rfl rfl (by kernel_rfl) (fun _ _ _ h => h) (Or.inl ⟨by rfl, ?_⟩) ?_ ?_
  rotate_left
  · intro w'
    go_simp
    with_reducible rfl
  rotate_left
  · simp only [Act.put, List.setIfInBounds_toArray, List.set_cons_zero, List.set_cons_succ, i64_w, i32_w]
    rfl
  refine pure_ (i := 22) (N := some 169) (v := ?_) (a' := ?_) #[true, true, true, true, true, true, true, true, true, true, true, true, true, true, true, true, true, true, true, true, true, true, true, false, false, false, false, false, false, false, false, false, false, false, false, false, false, false, false] rfl rfl (by kernel_rfl) (fun _ _ _ h => h) (Or.inl ⟨by rfl, ?_⟩) ?_ ?_
  rotate_left
  · intro w'
    go_simp
    with_reducible rfl
  rotate_left
  · simp only [Act.put, List.setIfInBounds_toArray, List.set_cons_zero, List.set_cons_succ, i64_w, i32_w]
    rfl
  refine pure_ (i := 25) (N := some 172) (v := ?_) (a' := ?_) #[true, true, true, true, true, true, true, true, true, true, true, true, true, true, true, true, true, true, true, true, true, true, true, false, false, true, false, false, false, false, false, false, false, false, false, false, false, false, false] rfl rfl (by kernel_rfl) (fun _ _ _ h => h) (Or.inl ⟨by rfl, ?_⟩) ?_ ?_
  rotate_left
  · intro w'
    go_simp
    with_reducible rfl
  rotate_left
  · simp only [Act.put, List.setIfInBounds_toArray, List.set_cons_zero, List.set_cons_succ, i64_w, i32_w]
    rfl
  refine take_ (i := 23) (N := some 170) (v := ?_) (a' := ?_) #[true, true, true, true, true, true, true, true, true, true, true, true, true, true, true, true, true, true, true, true, true, true, true, true, false, true, false, false, false, false, false, false, false, false, false, false, false, false, false] rfl rfl (by kernel_rfl) (fun _ _ _ h => h) (Or.inl ⟨by rfl, ?_⟩) hHeld ?_ ?_
  rotate_left
  · rintro w' ⟨s0, s1, s2, s3⟩
    go_simp
    with_reducible rfl
  rotate_left
  · simp only [Act.put, List.setIfInBounds_toArray, List.set_cons_zero, List.set_cons_succ, i64_w, i32_w]
    rfl
  refine one_ (i := 24) (N := some 171) #[true, true, true, true, true, true, true, true, true, true, true, true, true, true, true, true, true, true, true, true, true, true, true, true, true, true, false, false, false, false, false, false, false, false, false, false, false, false, false] rfl rfl (by kernel_rfl) (by decide) (fun K hK => ?_)
  refine goes_ Try.func29 (by kernel_rfl) rfl #[.pointer (some ⟨w1.heap.size, 0, none⟩), .int .i64 t, .int .i64 ik] (by rfl) rfl rfl (by simp only [List.map_toArray, List.map_cons, List.map_nil]; rfl) ?_
  with_reducible refine (CB.out ((w13.alloc (.cells #[.int .i64 ik, .int .i64 iv0] 25))).drew (Below.refl _ _).drew).mono ?_
  rintro e w90 ⟨rfl, b90⟩
  refine ⟨_, rfl, ?_⟩
  have B90 := Lib.hid ((Below.refl _ _).drew.trans b90 : Below ((w13.alloc (.cells #[.int .i64 ik, .int .i64 iv0] 25))).heap.size ((w13.alloc (.cells #[.int .i64 ik, .int .i64 iv0] 25))) w90)
  refine hK.out _ _ ⟨((b90.cell (by first | exact hPlt | exact hblt)).trans hHeld.1), ((b90.cell (by first | exact hPlt | exact hblt)).trans hHeld.2.1), ((b90.cell (by first | exact hPlt | exact hblt)).trans hHeld.2.2.1), ((b90.cell (by first | exact hPlt | exact hblt)).trans hHeld.2.2.2)⟩ (fun hHeld => ?_)
  clear hK K
  refine norm_ (a' := ?_) ?_ ?_
  rotate_left
  · show Act.put _ (some 171) _ = _
    simp only [Act.put, List.setIfInBounds_toArray, List.set_cons_zero, List.set_cons_succ, i64_w, i32_w]
    rfl
  refine pure_ (i := 26) (N := some 173) (v := ?_) (a' := ?_) #[true, true, true, true, true, true, true, true, true, true, true, true, true, true, true, true, true, true, true, true, true, true, true, true, true, true, true, false, false, false, false, false, false, false, false, false, false, false, false] rfl rfl (by kernel_rfl) (fun _ _ _ h => h) (Or.inl ⟨by rfl, ?_⟩) ?_ ?_
  rotate_left
  · intro w'
    go_simp
    with_reducible rfl
  rotate_left
  · simp only [Act.put, List.setIfInBounds_toArray, List.set_cons_zero, List.set_cons_succ, i64_w, i32_w]
    rfl
  refine pure_ (i := 27) (N := some 174) (v := ?_) (a' := ?_) #[true, true, true, true, true, true, true, true, true, true, true, true, true, true, true, true, true, true, true, true, true, true, true, true, true, true, true, true, false, false, false, false, false, false, false, false, false, false, false] rfl rfl (by kernel_rfl) (fun _ _ _ h => h) (Or.inl ⟨by rfl, ?_⟩) ?_ ?_
  rotate_left
  · intro w'
    go_simp
    with_reducible rfl
  rotate_left
  · simp only [Act.put, List.setIfInBounds_toArray, List.set_cons_zero, List.set_cons_succ, i64_w, i32_w]
    rfl
  refine pure_ (i := 28) (N := some 175) (v := ?_) (a' := ?_) #[true, true, true, true, true, true, true, true, true, true, true, true, true, true, true, true, true, true, true, true, true, true, true, true, true, true, true, true, true, false, false, false, false, false, false, false, false, false, false] rfl rfl (by kernel_rfl) (fun _ _ _ h => h) (Or.inl ⟨by rfl, ?_⟩) ?_ ?_
  rotate_left
  · intro w'
    go_simp
    with_reducible rfl
  rotate_left
  · simp only [Act.put, List.setIfInBounds_toArray, List.set_cons_zero, List.set_cons_succ, i64_w, i32_w]
    rfl
  refine pure_ (i := 29) (N := some 176) (v := ?_) (a' := ?_) #[true, true, true, true, true, true, true, true, true, true, true, true, true, true, true, true, true, true, true, true, true, true, true, true, true, true, true, true, true, true, false, false, false, false, false, false, false, false, false] rfl rfl (by kernel_rfl) (fun _ _ _ h => h) (Or.inl ⟨by rfl, ?_⟩) ?_ ?_
  rotate_left
  · intro w'
    go_simp
    with_reducible rfl
  rotate_left
  · simp only [Act.put, List.setIfInBounds_toArray, List.set_cons_zero, List.set_cons_succ, i64_w, i32_w]
    rfl
  refine pure_ (i := 30) (N := some 177) (v := ?_) (a' := ?_) #[true, true, true, true, true, true, true, true, true, true, true, true, true, true, true, true, true, true, true, true, true, true, true, true, true, true, true, true, true, true, true, false, false, false, false, false, false, false, false] rfl rfl (by kernel_rfl) (fun _ _ _ h => h) (Or.inl ⟨by rfl, ?_⟩) ?_ ?_
  rotate_left
  · intro w'
    go_simp
    with_reducible rfl
  rotate_left
  · simp only [Act.put, List.setIfInBounds_toArray, List.set_cons_zero, List.set_cons_succ, i64_w, i32_w]
    rfl
  refine pure_ (i := 31) (N := some 178) (v := ?_) (a' := ?_) #[true, true, true, true, true, true, true, true, true, true, true, true, true, true, true, true, true, true, true, true, true, true, true, true, true, true, true, true, true, true, true, true, false, false, false, false, false, false, false] rfl rfl (by kernel_rfl) (fun _ _ _ h => h) (Or.inl ⟨by rfl, ?_⟩) ?_ ?_
  rotate_left
  · intro w'
    go_simp
    with_reducible rfl
  rotate_left
  · simp only [Act.put, List.setIfInBounds_toArray, List.set_cons_zero, List.set_cons_succ, i64_w, i32_w]
    rfl
  refine pure_ (i := 32) (N := some 179) (v := ?_) (a' := ?_) #[true, true, true, true, true, true, true, true, true, true, true, true, true, true, true, true, true, true, true, true, true, true, true, true, true, true, true, true, true, true, true, true, true, false, false, false, false, false, false] rfl rfl (by kernel_rfl) (fun _ _ _ h => h) (Or.inl ⟨by rfl, ?_⟩) ?_ ?_
  rotate_left
  · intro w'
    go_simp
    with_reducible rfl
  rotate_left
  · simp only [Act.put, List.setIfInBounds_toArray, List.set_cons_zero, List.set_cons_succ, i64_w, i32_w]
    rfl
  refine pure_ (i := 33) (N := some 180) (v := ?_) (a' := ?_) #[true, true, true, true, true, true, true, true, true, true, true, true, true, true, true, true, true, true, true, true, true, true, true, true, true, true, true, true, true, true, true, true, true, true, false, false, false, false, false] rfl rfl (by kernel_rfl) (fun _ _ _ h => h) (Or.inl ⟨by rfl, ?_⟩) ?_ ?_
  rotate_left
  · intro w'
    go_simp
    with_reducible rfl
  rotate_left
  · simp only [Act.put, List.setIfInBounds_toArray, List.set_cons_zero, List.set_cons_succ, i64_w, i32_w]
    rfl
  refine pure_ (i := 34) (N := some 181) (v := undef) (a' := ?_) #[true, true, true, true, true, true, true, true, true, true, true, true, true, true, true, true, true, true, true, true, true, true, true, true, true, true, true, true, true, true, true, true, true, true, true, false, false, false, false] rfl rfl (by kernel_rfl) (fun _ _ _ h => h) (Or.inr ⟨by rfl, rfl⟩) ?_ ?_
  rotate_left
  · simp only [Act.put, List.setIfInBounds_toArray, List.set_cons_zero, List.set_cons_succ, i64_w, i32_w]
    rfl
  refine pure_ (i := 35) (N := some 182) (v := undef) (a' := ?_) #[true, true, true, true, true, true, true, true, true, true, true, true, true, true, true, true, true, true, true, true, true, true, true, true, true, true, true, true, true, true, true, true, true, true, true, true, false, false, false] rfl rfl (by kernel_rfl) (fun _ _ _ h => h) (Or.inr ⟨by rfl, rfl⟩) ?_ ?_
  rotate_left
  · simp only [Act.put, List.setIfInBounds_toArray, List.set_cons_zero, List.set_cons_succ, i64_w, i32_w]
    rfl
  refine pure_ (i := 36) (N := some 183) (v := undef) (a' := ?_) #[true, true, true, true, true, true, true, true, true, true, true, true, true, true, true, true, true, true, true, true, true, true, true, true, true, true, true, true, true, true, true, true, true, true, true, true, true, false, false] rfl rfl (by kernel_rfl) (fun _ _ _ h => h) (Or.inr ⟨by rfl, rfl⟩) ?_ ?_
  rotate_left
  · simp only [Act.put, List.setIfInBounds_toArray, List.set_cons_zero, List.set_cons_succ, i64_w, i32_w]
    rfl
  refine pure_ (i := 37) (N := some 184) (v := ?_) (a' := ?_) #[true, true, true, true, true, true, true, true, true, true, true, true, true, true, true, true, true, true, true, true, true, true, true, true, true, true, true, true, true, true, true, true, true, true, true, true, true, true, false] rfl rfl (by kernel_rfl) (fun _ _ _ h => h) (Or.inl ⟨by rfl, ?_⟩) ?_ ?_
  rotate_left
  · intro w'
    go_simp
    with_reducible rfl
  rotate_left
  · simp only [Act.put, List.setIfInBounds_toArray, List.set_cons_zero, List.set_cons_succ, i64_w, i32_w]
    rfl
  refine pure_ (i := 38) (N := some 185) (v := ?_) (a' := ?_) #[true, true, true, true, true, true, true, true, true, true, true, true, true, true, true, true, true, true, true, true, true, true, true, true, true, true, true, true, true, true, true, true, true, true, true, true, true, true, true] rfl rfl (by kernel_rfl) (fun _ _ _ h => h) (Or.inl ⟨by rfl, ?_⟩) ?_ ?_
  rotate_left
  · intro w'
    go_simp
    with_reducible rfl
  rotate_left
  · simp only [Act.put, List.setIfInBounds_toArray, List.set_cons_zero, List.set_cons_succ, i64_w, i32_w]
    rfl
  refine done_ (by kernel_rfl) ?_
  have HS0 := Lib.hid (S14.out.later B90.out)
  have HK0 := Lib.hid (K14.out.later B90.out)
  skip
  go_wp2_with fail
  go_loopw [20, 188] (fun nv iv wr => ∃ k' : Nat, k' ≤ q.length ∧ iv = .int .i64 k' ∧ nv = .int .i64 (belowP (q.take k') key) ∧ Hid (Below w90.heap.size w90 wr)) (fun _ iv _ => q.length - (intOf iv).toNat)
  case atStart => exact ⟨0, Nat.zero_le _, rfl, rfl, Lib.hid (Below.refl _ _)⟩
  case round =>
    obtain ⟨k', hk', rfl, rfl, HR⟩ := hrel
    have hz := HR.out.size
    by_cases hlt : k' < q.length
    · obtain ⟨bq, offq, hbo, hcell⟩ := HK0.out.cells hlt
      obtain ⟨rfl, rfl⟩ : b = bq ∧ off = offq := by simpa using hbo
      obtain ⟨d0, d1⟩ := hcell wr _ (HK0.out.later HR.out)
      have hsn : belowP (q.take (k' + 1)) key = if (q[k']).1 < key then belowP (q.take k') key + 1 else belowP (q.take k') key := by
        rw [List.take_succ_eq_append_getElem hlt, belowP_snoc2]
      have hle := belowP_le (q.take k') key
      rw [List.length_take] at hle
      generalize belowP (q.take k') key = m at hsn hle ⊢
      generalize q[k'] = x at hsn d0 d1
      obtain ⟨xk, xv⟩ := x
      simp only [] at hsn d0 d1
      have hbl : b < wr.heap.size := World.block_lt_of_cell? wr _ d0
      have B2 := Lib.hid (HR.out.alloc hz (.cells #[.int .i64 xk, .int .i64 xv] 25))
      clear hcell
      by_cases h1 : xk < key
      · rw [if_pos h1] at hsn
        have E2 := Lib.hid hsn; clear hsn
        go_wp2_with fail
        go_roundw
        case rel => exact ⟨k' + 1, by omega, by go_num, by rw [E2.out]; go_num, B2⟩
        case measure => simp [intOf]; omega
      · rw [if_neg h1] at hsn
        have E2 := Lib.hid hsn; clear hsn
        go_wp2_with fail
        go_roundw
        case rel => exact ⟨k' + 1, by omega, by go_num, by rw [E2.out], B2⟩
        case measure => simp [intOf]; omega
    · have hkl : k' = q.length := by omega
      subst hkl
      rw [List.take_length]
      have SR := Lib.hid (HS0.out.later HR.out)
      have KR := Lib.hid (HK0.out.later HR.out)
      have e1 := lbF_tr TR.out HQ.out key (fuel t) 0 (lt_fuel t) (by omega)
      rw [Nat.zero_add, show ((0 : Nat) : Int) = 0 from rfl] at e1
      have c := lookBelow_any SR.out.arena (fuel t) t key (lt_fuel t)
      rw [e1] at c
      have C := Lib.hid c; clear c e1
      have qb := beq_self_eq_true ((belowP q key : Nat) : Int)
      go_wp2_with fail
      refine (C.out).mono ?_
      rintro e w51 ⟨rfl, b51⟩
      have S51 := Lib.hid (SR.out.later b51)
      have K51 := Lib.hid (KR.out.later b51)
      clear b51
      clear C
      go_wp2_with (go_at_call 26; refine (awake4_any W _ S51.out.below).mono ?_; rintro e wz ⟨rfl, bz⟩)
      go_ret
      exact ⟨rfl, bz⟩

set_option maxRecDepth 100000 in
set_option maxHeartbeats 4000000 in
theorem lookForms_4 (W : World) {ad : Option Addr} {c : Nat} {l : List Pr} (hl : PIn W ad c l) (key i : Int) (q : List Pr) (hq : pairs l 60 = q) (hpos : 0 < q.length) (hfi : findI q key = -1) (hfg : gotP q key = (0, false)) (hin : ¬ (0 ≤ i ∧ i < q.length)) :
    Calls Try.prog 10 #[.slice ad l.length c, .int .i64 key, .int .i64 i] W fun e w' => e = .returned (.bool true) ∧ Below W.heap.size W w' := by
  have hp := pairs_any W hl 60 (by decide) (by decide)
  have hpl := (pairsB_len l 60 (by decide) l.length).1
  have hs := pairs_sorted l 60
  rw [show pairsB l 60 l.length = pairs l 60 from rfl] at hpl
  rw [hq] at hp hpl hs
  have HP := Lib.hid hp; clear hp hl
  have HQ := Lib.hid hs; clear hs hq
  go_enter Try.func10, Try.ntmps10
  go_wp2_with fail
  refine HP.out.mono ?_
  rintro e w1 ⟨ad1, c1, rfl, p1, n1, b1⟩
  have P1 := Lib.hid p1; clear p1 n1
  have B1 := Lib.hid b1; clear b1
  go_wp2_with fail
  refine (new_any 100 w1).mono ?_
  rintro e w2 ⟨rfl, o2, b2⟩
  have S2 := Lib.hid (St.begin B1.out o2 b2)
  have K2 := Lib.hid (PK.begin P1.out b2)
  clear o2 b2
  have la := laid_any q.length w2 w1.heap.size _ _ ad1 c1 q (Nat.le_refl _) (by omega) S2.out.arena K2.out (by rw [newA_room (by omega) (by omega), newA_slots]; simp; omega)
  have LA := Lib.hid la; clear la
  go_wp2_with fail
  refine LA.out.mono ?_
  rintro e w3 ⟨t, a3, rfl, ⟨F3, o3, g3⟩, x3, l3, t3, al3⟩
  have H3 := Lib.hid (Has.mk (S2.out.grow g3 o3) t3 (x3.1.trans (newA_room (by omega) (by omega))) (by rw [l3, newA_slots]; simp) x3.2.1 : Has W w3 w1.heap.size a3 F3 t q (100))
  have K3 := Lib.hid (K2.out.grow g3)
  clear o3 g3 x3 l3 t3 al3
  have hlen64 : q.length ≤ 1000 := by omega
  have tr3 := H3.out.tr
  have TR := Lib.hid tr3
  have S3 := Lib.hid H3.out.st
  obtain ⟨b, off, hbo, hcell0⟩ := K3.out.cells hpos
  subst hbo
  have HC0 := Lib.hid hcell0; clear hcell0
  have eg := lgF_tr tr3 HQ.out key (fuel t) (lt_fuel t)
  rw [hfg] at eg
  have c := lookGet_any S3.out.arena (fuel t) t key (lt_fuel t)
  rw [eg] at c
  have C := Lib.hid c; clear c eg
  go_wp2_with fail
  refine (C.out).mono ?_
  rintro e w4 ⟨rfl, b4⟩
  have S4 := Lib.hid (S3.out.later b4)
  have K4 := Lib.hid (K3.out.later b4)
  clear b4
  clear C
  have c := find_any _ K4.out.pin key
  rw [hfi] at c
  have C := Lib.hid c; clear c
  go_wp2_with fail
  refine (C.out).mono ?_
  rintro e w5 ⟨rfl, b5⟩
  have S5 := Lib.hid (S4.out.later b5)
  have K5 := Lib.hid (K4.out.later b5)
  clear b5
  clear C
  have es := tr3.size.1
  have eh := tr3.size.2
  have c := lsize_any S5.out.arena t
  rw [es] at c
  have C := Lib.hid c; clear c es
  have ql : ((q.length : Int) != (q.length : Int)) = false := by simp
  go_wp2_with fail
  refine (C.out).mono ?_
  rintro e w6 ⟨rfl, b6⟩
  have S6 := Lib.hid (S5.out.later b6)
  have K6 := Lib.hid (K5.out.later b6)
  clear b6
  clear C
  have c := lhigh_any S6.out.arena t
  rw [eh] at c
  have C := Lib.hid c; clear c eh
  go_wp2_with fail
  refine (C.out).mono ?_
  rintro e w7 ⟨rfl, b7⟩
  have S7 := Lib.hid (S6.out.later b7)
  have K7 := Lib.hid (K6.out.later b7)
  clear b7
  clear C
  have c := high_any _ _ _ c1 q (Nat.le_refl _) (by omega) K7.out.pin
  have C := Lib.hid c; clear c
  have qh : ((hgt q : Int) != (hgt q : Int)) = false := by simp
  go_wp2_with fail
  refine (C.out).mono ?_
  rintro e w8 ⟨rfl, b8⟩
  have S8 := Lib.hid (S7.out.later b8)
  have K8 := Lib.hid (K7.out.later b8)
  clear b8
  clear C
  have em := minF_head tr3 (fuel t) (lt_fuel t) (head_all hpos)
  have eM := maxF_at tr3 (fuel t) (lt_fuel t) (last_all hpos)
  obtain ⟨b2, off2, hbo2, hcell2⟩ := K3.out.cells (show q.length - 1 < q.length by omega)
  obtain ⟨rfl, rfl⟩ : b = b2 ∧ off = off2 := by simpa using hbo2
  have HC2 := Lib.hid hcell2; clear hcell2 hbo2
  generalize hx0 : q[0] = x0 at em
  generalize hx1 : q[q.length - 1] = x1 at eM
  have HX0 := Lib.hid hx0; clear hx0
  have HX1 := Lib.hid hx1; clear hx1
  obtain ⟨ak, av⟩ := x0
  obtain ⟨zk, zv⟩ := x1
  simp only [] at em eM
  have c := lookMin_any S8.out.arena (fuel t) t (lt_fuel t)
  rw [em] at c
  have C := Lib.hid c; clear c
  go_wp2_with fail
  refine (C.out).mono ?_
  rintro e w9 ⟨rfl, b9⟩
  have S9 := Lib.hid (S8.out.later b9)
  have K9 := Lib.hid (K8.out.later b9)
  clear b9
  clear C
  have S10 := Lib.hid (S9.out.alloc (.cells #[.int .i64 ak, .int .i64 av] 25))
  have K10 := Lib.hid (K9.out.alloc (.cells #[.int .i64 ak, .int .i64 av] 25))
  have A10 := Lib.hid (S9.out.new (.cells #[.int .i64 ak, .int .i64 av] 25))
  have c := lookMax_any S10.out.arena (fuel t) t (lt_fuel t)
  rw [eM] at c
  have C := Lib.hid c; clear c
  go_wp2_with fail
  refine (C.out).mono ?_
  rintro e w11 ⟨rfl, b11⟩
  have S11 := Lib.hid (S10.out.later b11)
  have K11 := Lib.hid (K10.out.later b11)
  have A11 := Lib.hid (A10.out.below b11)
  clear b11
  clear C
  have S12 := Lib.hid (S11.out.alloc (.cells #[.int .i64 zk, .int .i64 zv] 25))
  have K12 := Lib.hid (K11.out.alloc (.cells #[.int .i64 zk, .int .i64 zv] 25))
  have A12 := Lib.hid (A11.out.alloc (.cells #[.int .i64 zk, .int .i64 zv] 25))
  have B12 := Lib.hid (S11.out.new (.cells #[.int .i64 zk, .int .i64 zv] 25))
  clear em eM
  have a12c0_12 := cell_blk (i := 0) A12.out.at_ rfl
  have a12c1_12 := cell_blk (i := 1) A12.out.at_ rfl
  have b12c0_12 := cell_blk (i := 0) B12.out.at_ rfl
  have b12c1_12 := cell_blk (i := 1) B12.out.at_ rfl
  obtain ⟨a0, a1⟩ := HC0.out _ _ K12.out
  rw [HX0.out] at a0 a1
  obtain ⟨z0, z1⟩ := HC2.out _ _ K12.out
  rw [HX1.out] at z0 z1
  simp only [Nat.zero_mul, Nat.add_zero] at a0 a1 z0 z1
  have qa := beq_self_eq_true ak
  have qb := beq_self_eq_true av
  have qc := beq_self_eq_true zk
  have qd := beq_self_eq_true zv
  have qe : (ak != ak) = false := by simp
  have qf : (av != av) = false := by simp
  have qg : (zk != zk) = false := by simp
  have qh2 : (zv != zv) = false := by simp
  have i1 : ((q.length : Int) - 1).toNat = q.length - 1 := by omega
  have w1 : IntKind.i64.wrap ((q.length : Int) - 1) = (q.length : Int) - 1 := IntWalk.i64_in _ (by omega)
  have l1 : (0 : Int) ≤ (q.length : Int) - 1 := by omega
  have l2 : (q.length : Int) - 1 < (q.length : Int) := by omega
  have l3 : q.length - 1 < q.length := by omega
  have l4 : (1 : Int) ≤ (q.length : Int) := by omega
  have g1 : decide ((0 : Int) < (q.length : Int)) = true := decide_eq_true (by omega)
  have g2 : decide (0 < q.length) = true := decide_eq_true hpos
  go_wp2_with fail
  go_quiet (fail)
  have en := nthO_tr tr3 (fuel t) i (lt_fuel t) (by omega)
  rw [dif_neg hin] at en
  have cq := fun w' (hb : Below (w11.alloc (.cells #[.int .i64 zk, .int .i64 zv] 25)).heap.size (w11.alloc (.cells #[.int .i64 zk, .int .i64 zv] 25)) w') => lookNth_any (S12.out.later hb).arena (fuel t) t i (lt_fuel t)
  rw [en] at cq
  have CQ := Lib.hid cq; clear cq
  go_wp2_with fail
  refine (CQ.out _ (by exact ⟨rfl, rfl, rfl, Nat.le_refl _, fun _ _ => rfl⟩)).mono ?_
  rintro e w13 ⟨rfl, b13⟩
  clear CQ
  clear a12c0_12 a12c1_12 b12c0_12 b12c1_12 a0 a1 z0 z1 i1 w1 l1 l2 l3 l4 g1 g2
  have b13 := undrewN b13
  have S13 := Lib.hid (S12.out.later b13)
  have K13 := Lib.hid (K12.out.later b13)
  have A13 := Lib.hid (A12.out.below b13)
  have B13 := Lib.hid (B12.out.below b13)
  clear b13
  clear en
  have S14 := Lib.hid (S13.out.alloc (.cells #[.int .i64 0, .int .i64 0] 25))
  have K14 := Lib.hid (K13.out.alloc (.cells #[.int .i64 0, .int .i64 0] 25))
  have A14 := Lib.hid (A13.out.alloc (.cells #[.int .i64 0, .int .i64 0] 25))
  have B14 := Lib.hid (B13.out.alloc (.cells #[.int .i64 0, .int .i64 0] 25))
  have P14 := Lib.hid (S13.out.new (.cells #[.int .i64 0, .int .i64 0] 25))
  have p14c0_14 := cell_blk (i := 0) P14.out.at_ rfl
  have p14c1_14 := cell_blk (i := 1) P14.out.at_ rfl
  have hg0 : (decide ((0 : Int) ≤ i) && decide (i < (q.length : Int))) = false := by simp <;> omega
  by_cases hneg : i < 0
  · have hg1 : decide ((0 : Int) ≤ i) = false := decide_eq_false (by omega)
    have hg4 : ¬ ((0 : Int) ≤ i) := by omega
    go_wp2_with fail
    go_quiet (fail)
    have HS0 := Lib.hid S14.out
    have HK0 := Lib.hid K14.out
    clear p14c0_14 p14c1_14
    go_wp2_with fail
    go_loopw [20, 188] (fun nv iv wr => ∃ k' : Nat, k' ≤ q.length ∧ iv = .int .i64 k' ∧ nv = .int .i64 (belowP (q.take k') key) ∧ Hid (Below (w13.alloc (.cells #[.int .i64 0, .int .i64 0] 25)).heap.size (w13.alloc (.cells #[.int .i64 0, .int .i64 0] 25)) wr)) (fun _ iv _ => q.length - (intOf iv).toNat)
    case atStart => exact ⟨0, Nat.zero_le _, rfl, rfl, Lib.hid (by exact ⟨rfl, rfl, rfl, Nat.le_refl _, fun _ _ => rfl⟩)⟩
    case round =>
      obtain ⟨k', hk', rfl, rfl, HR⟩ := hrel
      have hz := HR.out.size
      by_cases hlt : k' < q.length
      · obtain ⟨bq, offq, hbo, hcell⟩ := HK0.out.cells hlt
        obtain ⟨rfl, rfl⟩ : b = bq ∧ off = offq := by simpa using hbo
        obtain ⟨d0, d1⟩ := hcell wr _ (HK0.out.later HR.out)
        have hsn : belowP (q.take (k' + 1)) key = if (q[k']).1 < key then belowP (q.take k') key + 1 else belowP (q.take k') key := by
          rw [List.take_succ_eq_append_getElem hlt, belowP_snoc2]
        have hle := belowP_le (q.take k') key
        rw [List.length_take] at hle
        generalize belowP (q.take k') key = m at hsn hle ⊢
        generalize q[k'] = x at hsn d0 d1
        obtain ⟨xk, xv⟩ := x
        simp only [] at hsn d0 d1
        have hbl : b < wr.heap.size := World.block_lt_of_cell? wr _ d0
        have B2 := Lib.hid (HR.out.alloc hz (.cells #[.int .i64 xk, .int .i64 xv] 25))
        clear hcell
        by_cases h1 : xk < key
        · rw [if_pos h1] at hsn
          have E2 := Lib.hid hsn; clear hsn
          go_wp2_with fail
          go_roundw
          case rel => exact ⟨k' + 1, by omega, by go_num, by rw [E2.out]; go_num, B2⟩
          case measure => simp [intOf]; omega
        · rw [if_neg h1] at hsn
          have E2 := Lib.hid hsn; clear hsn
          go_wp2_with fail
          go_roundw
          case rel => exact ⟨k' + 1, by omega, by go_num, by rw [E2.out], B2⟩
          case measure => simp [intOf]; omega
      · have hkl : k' = q.length := by omega
        subst hkl
        rw [List.take_length]
        have SR := Lib.hid (HS0.out.later HR.out)
        have KR := Lib.hid (HK0.out.later HR.out)
        have e1 := lbF_tr TR.out HQ.out key (fuel t) 0 (lt_fuel t) (by omega)
        rw [Nat.zero_add, show ((0 : Nat) : Int) = 0 from rfl] at e1
        have c := lookBelow_any SR.out.arena (fuel t) t key (lt_fuel t)
        rw [e1] at c
        have C := Lib.hid c; clear c e1
        have qb := beq_self_eq_true ((belowP q key : Nat) : Int)
        go_wp2_with fail
        refine (C.out).mono ?_
        rintro e w51 ⟨rfl, b51⟩
        have S51 := Lib.hid (SR.out.later b51)
        have K51 := Lib.hid (KR.out.later b51)
        clear b51
        clear C
        go_wp2_with (go_at_call 26; refine (awake4_any W _ S51.out.below).mono ?_; rintro e wz ⟨rfl, bz⟩)
        go_ret
        exact ⟨rfl, bz⟩
  · have hg1 : decide ((0 : Int) ≤ i) = true := decide_eq_true (by omega)
    have hg2 : decide (i < (q.length : Int)) = false := decide_eq_false (by omega)
    have hg4 : (0 : Int) ≤ i := by omega
    have hg5 : ¬ (i < (q.length : Int)) := by omega
    go_wp2_with fail
    go_quiet (fail)
    have HS0 := Lib.hid S14.out
    have HK0 := Lib.hid K14.out
    clear p14c0_14 p14c1_14
    go_wp2_with fail
    go_loopw [20, 188] (fun nv iv wr => ∃ k' : Nat, k' ≤ q.length ∧ iv = .int .i64 k' ∧ nv = .int .i64 (belowP (q.take k') key) ∧ Hid (Below (w13.alloc (.cells #[.int .i64 0, .int .i64 0] 25)).heap.size (w13.alloc (.cells #[.int .i64 0, .int .i64 0] 25)) wr)) (fun _ iv _ => q.length - (intOf iv).toNat)
    case atStart => exact ⟨0, Nat.zero_le _, rfl, rfl, Lib.hid (by exact ⟨rfl, rfl, rfl, Nat.le_refl _, fun _ _ => rfl⟩)⟩
    case round =>
      obtain ⟨k', hk', rfl, rfl, HR⟩ := hrel
      have hz := HR.out.size
      by_cases hlt : k' < q.length
      · obtain ⟨bq, offq, hbo, hcell⟩ := HK0.out.cells hlt
        obtain ⟨rfl, rfl⟩ : b = bq ∧ off = offq := by simpa using hbo
        obtain ⟨d0, d1⟩ := hcell wr _ (HK0.out.later HR.out)
        have hsn : belowP (q.take (k' + 1)) key = if (q[k']).1 < key then belowP (q.take k') key + 1 else belowP (q.take k') key := by
          rw [List.take_succ_eq_append_getElem hlt, belowP_snoc2]
        have hle := belowP_le (q.take k') key
        rw [List.length_take] at hle
        generalize belowP (q.take k') key = m at hsn hle ⊢
        generalize q[k'] = x at hsn d0 d1
        obtain ⟨xk, xv⟩ := x
        simp only [] at hsn d0 d1
        have hbl : b < wr.heap.size := World.block_lt_of_cell? wr _ d0
        have B2 := Lib.hid (HR.out.alloc hz (.cells #[.int .i64 xk, .int .i64 xv] 25))
        clear hcell
        by_cases h1 : xk < key
        · rw [if_pos h1] at hsn
          have E2 := Lib.hid hsn; clear hsn
          go_wp2_with fail
          go_roundw
          case rel => exact ⟨k' + 1, by omega, by go_num, by rw [E2.out]; go_num, B2⟩
          case measure => simp [intOf]; omega
        · rw [if_neg h1] at hsn
          have E2 := Lib.hid hsn; clear hsn
          go_wp2_with fail
          go_roundw
          case rel => exact ⟨k' + 1, by omega, by go_num, by rw [E2.out], B2⟩
          case measure => simp [intOf]; omega
      · have hkl : k' = q.length := by omega
        subst hkl
        rw [List.take_length]
        have SR := Lib.hid (HS0.out.later HR.out)
        have KR := Lib.hid (HK0.out.later HR.out)
        have e1 := lbF_tr TR.out HQ.out key (fuel t) 0 (lt_fuel t) (by omega)
        rw [Nat.zero_add, show ((0 : Nat) : Int) = 0 from rfl] at e1
        have c := lookBelow_any SR.out.arena (fuel t) t key (lt_fuel t)
        rw [e1] at c
        have C := Lib.hid c; clear c e1
        have qb := beq_self_eq_true ((belowP q key : Nat) : Int)
        go_wp2_with fail
        refine (C.out).mono ?_
        rintro e w51 ⟨rfl, b51⟩
        have S51 := Lib.hid (SR.out.later b51)
        have K51 := Lib.hid (KR.out.later b51)
        clear b51
        clear C
        go_wp2_with (go_at_call 26; refine (awake4_any W _ S51.out.below).mono ?_; rintro e wz ⟨rfl, bz⟩)
        go_ret
        exact ⟨rfl, bz⟩

set_option maxRecDepth 100000 in
set_option maxHeartbeats 4000000 in
theorem lookForms_5 (W : World) {ad : Option Addr} {c : Nat} {l : List Pr} (hl : PIn W ad c l) (key i : Int) (q : List Pr) (hq : pairs l 60 = q) (hemp : q = []) (hfi : findI q key = -1) (hfg : gotP q key = (0, false)) (hin : ¬ (0 ≤ i ∧ i < q.length)) :
    Calls Try.prog 10 #[.slice ad l.length c, .int .i64 key, .int .i64 i] W fun e w' => e = .returned (.bool true) ∧ Below W.heap.size W w' := by
  have hp := pairs_any W hl 60 (by decide) (by decide)
  have hpl := (pairsB_len l 60 (by decide) l.length).1
  have hs := pairs_sorted l 60
  rw [show pairsB l 60 l.length = pairs l 60 from rfl] at hpl
  rw [hq] at hp hpl hs
  have HP := Lib.hid hp; clear hp hl
  have HQ := Lib.hid hs; clear hs hq
  subst hemp
  go_enter Try.func10, Try.ntmps10
  go_wp2_with fail
  refine HP.out.mono ?_
  rintro e w1 ⟨ad1, c1, rfl, p1, n1, b1⟩
  have P1 := Lib.hid p1; clear p1 n1
  have B1 := Lib.hid b1; clear b1
  go_wp2_with fail
  refine (new_any 100 w1).mono ?_
  rintro e w2 ⟨rfl, o2, b2⟩
  have S2 := Lib.hid (St.begin B1.out o2 b2)
  have K2 := Lib.hid (PK.begin P1.out b2)
  clear o2 b2
  have la := laid_any ([] : List Pr).length w2 w1.heap.size _ _ ad1 c1 [] (Nat.le_refl _) (by omega) S2.out.arena K2.out (by rw [newA_room (by omega) (by omega), newA_slots]; simp)
  have LA := Lib.hid la; clear la
  go_wp2_with fail
  refine LA.out.mono ?_
  rintro e w3 ⟨t, a3, rfl, ⟨F3, o3, g3⟩, x3, l3, t3, al3⟩
  have H3 := Lib.hid (Has.mk (S2.out.grow g3 o3) t3 (x3.1.trans (newA_room (by omega) (by omega))) (by rw [l3, newA_slots]; simp) x3.2.1 : Has W w3 w1.heap.size a3 F3 t [] (100))
  have K3 := Lib.hid (K2.out.grow g3)
  clear o3 g3 x3 l3 t3 al3
  have hlen64 : ([] : List Pr).length ≤ 1000 := by simp
  have tr3 := H3.out.tr
  have TR := Lib.hid tr3
  have S3 := Lib.hid H3.out.st
  have eg := lgF_tr tr3 HQ.out key (fuel t) (lt_fuel t)
  rw [hfg] at eg
  have c := lookGet_any S3.out.arena (fuel t) t key (lt_fuel t)
  rw [eg] at c
  have C := Lib.hid c; clear c eg
  go_wp2_with fail
  refine (C.out).mono ?_
  rintro e w4 ⟨rfl, b4⟩
  have S4 := Lib.hid (S3.out.later b4)
  have K4 := Lib.hid (K3.out.later b4)
  clear b4
  clear C
  have c := find_any _ K4.out.pin key
  rw [hfi] at c
  have C := Lib.hid c; clear c
  go_wp2_with fail
  refine (C.out).mono ?_
  rintro e w5 ⟨rfl, b5⟩
  have S5 := Lib.hid (S4.out.later b5)
  have K5 := Lib.hid (K4.out.later b5)
  clear b5
  clear C
  have es := tr3.size.1
  have eh := tr3.size.2
  have c := lsize_any S5.out.arena t
  rw [es] at c
  have C := Lib.hid c; clear c es
  have ql : ((([] : List Pr).length : Int) != (([] : List Pr).length : Int)) = false := by simp
  go_wp2_with fail
  refine (C.out).mono ?_
  rintro e w6 ⟨rfl, b6⟩
  have S6 := Lib.hid (S5.out.later b6)
  have K6 := Lib.hid (K5.out.later b6)
  clear b6
  clear C
  have c := lhigh_any S6.out.arena t
  rw [eh] at c
  have C := Lib.hid c; clear c eh
  go_wp2_with fail
  refine (C.out).mono ?_
  rintro e w7 ⟨rfl, b7⟩
  have S7 := Lib.hid (S6.out.later b7)
  have K7 := Lib.hid (K6.out.later b7)
  clear b7
  clear C
  have c := high_any _ _ _ c1 ([] : List Pr) (Nat.le_refl _) (by omega) K7.out.pin
  have C := Lib.hid c; clear c
  have qh : ((hgt ([] : List Pr) : Int) != (hgt ([] : List Pr) : Int)) = false := by simp
  go_wp2_with fail
  refine (C.out).mono ?_
  rintro e w8 ⟨rfl, b8⟩
  have S8 := Lib.hid (S7.out.later b8)
  have K8 := Lib.hid (K7.out.later b8)
  clear b8
  clear C
  have em := minF_nil tr3 (fuel t) (lt_fuel t)
  have eM := maxF_nil tr3 (fuel t) (lt_fuel t)
  have c := lookMin_any S8.out.arena (fuel t) t (lt_fuel t)
  rw [em] at c
  have C := Lib.hid c; clear c
  go_wp2_with fail
  refine (C.out).mono ?_
  rintro e w9 ⟨rfl, b9⟩
  have S9 := Lib.hid (S8.out.later b9)
  have K9 := Lib.hid (K8.out.later b9)
  clear b9
  clear C
  have S10 := Lib.hid (S9.out.alloc (.cells #[.int .i64 0, .int .i64 0] 25))
  have K10 := Lib.hid (K9.out.alloc (.cells #[.int .i64 0, .int .i64 0] 25))
  have A10 := Lib.hid (S9.out.new (.cells #[.int .i64 0, .int .i64 0] 25))
  have c := lookMax_any S10.out.arena (fuel t) t (lt_fuel t)
  rw [eM] at c
  have C := Lib.hid c; clear c
  go_wp2_with fail
  refine (C.out).mono ?_
  rintro e w11 ⟨rfl, b11⟩
  have S11 := Lib.hid (S10.out.later b11)
  have K11 := Lib.hid (K10.out.later b11)
  have A11 := Lib.hid (A10.out.below b11)
  clear b11
  clear C
  have S12 := Lib.hid (S11.out.alloc (.cells #[.int .i64 0, .int .i64 0] 25))
  have K12 := Lib.hid (K11.out.alloc (.cells #[.int .i64 0, .int .i64 0] 25))
  have A12 := Lib.hid (A11.out.alloc (.cells #[.int .i64 0, .int .i64 0] 25))
  have B12 := Lib.hid (S11.out.new (.cells #[.int .i64 0, .int .i64 0] 25))
  clear em eM
  have a12c0_12 := cell_blk (i := 0) A12.out.at_ rfl
  have a12c1_12 := cell_blk (i := 1) A12.out.at_ rfl
  have b12c0_12 := cell_blk (i := 0) B12.out.at_ rfl
  have b12c1_12 := cell_blk (i := 1) B12.out.at_ rfl
  go_wp2_with fail
  go_quiet (fail)
  have en := nthO_tr tr3 (fuel t) i (lt_fuel t) (by omega)
  rw [dif_neg hin] at en
  have cq := fun w' (hb : Below (w11.alloc (.cells #[.int .i64 0, .int .i64 0] 25)).heap.size (w11.alloc (.cells #[.int .i64 0, .int .i64 0] 25)) w') => lookNth_any (S12.out.later hb).arena (fuel t) t i (lt_fuel t)
  rw [en] at cq
  have CQ := Lib.hid cq; clear cq
  go_wp2_with fail
  refine (CQ.out _ (by exact ⟨rfl, rfl, rfl, Nat.le_refl _, fun _ _ => rfl⟩)).mono ?_
  rintro e w13 ⟨rfl, b13⟩
  clear CQ
  clear a12c0_12 a12c1_12 b12c0_12 b12c1_12
  have b13 := undrewN b13
  have S13 := Lib.hid (S12.out.later b13)
  have K13 := Lib.hid (K12.out.later b13)
  have A13 := Lib.hid (A12.out.below b13)
  have B13 := Lib.hid (B12.out.below b13)
  clear b13
  clear en
  have S14 := Lib.hid (S13.out.alloc (.cells #[.int .i64 0, .int .i64 0] 25))
  have K14 := Lib.hid (K13.out.alloc (.cells #[.int .i64 0, .int .i64 0] 25))
  have A14 := Lib.hid (A13.out.alloc (.cells #[.int .i64 0, .int .i64 0] 25))
  have B14 := Lib.hid (B13.out.alloc (.cells #[.int .i64 0, .int .i64 0] 25))
  have P14 := Lib.hid (S13.out.new (.cells #[.int .i64 0, .int .i64 0] 25))
  have p14c0_14 := cell_blk (i := 0) P14.out.at_ rfl
  have p14c1_14 := cell_blk (i := 1) P14.out.at_ rfl
  have hg0 : (decide ((0 : Int) ≤ i) && decide (i < (([] : List Pr).length : Int))) = false := by simp <;> omega
  by_cases hneg : i < 0
  · have hg1 : decide ((0 : Int) ≤ i) = false := decide_eq_false (by omega)
    have hg4 : ¬ ((0 : Int) ≤ i) := by omega
    clear hin hg0 hneg
    go_wp2_with fail
    go_quiet (fail)
    have HS0 := Lib.hid S14.out
    have HK0 := Lib.hid K14.out
    clear p14c0_14 p14c1_14
    go_wp2_with fail
    go_loopw [20, 188] (fun nv iv wr => iv = .int .i64 0 ∧ nv = .int .i64 0 ∧ Hid (Below (w13.alloc (.cells #[.int .i64 0, .int .i64 0] 25)).heap.size (w13.alloc (.cells #[.int .i64 0, .int .i64 0] 25)) wr)) (fun _ _ _ => 0)
    case atStart => exact ⟨rfl, rfl, Lib.hid (by exact ⟨rfl, rfl, rfl, Nat.le_refl _, fun _ _ => rfl⟩)⟩
    case round =>
      obtain ⟨rfl, rfl, HR⟩ := hrel
      have SR := Lib.hid (HS0.out.later HR.out)
      have KR := Lib.hid (HK0.out.later HR.out)
      have e1 := lbF_tr TR.out HQ.out key (fuel t) 0 (lt_fuel t) (by decide)
      rw [show belowP ([] : List Pr) key = 0 from rfl, show ((0 + 0 : Nat) : Int) = 0 from rfl] at e1
      have c := lookBelow_any SR.out.arena (fuel t) t key (lt_fuel t)
      rw [e1] at c
      have C := Lib.hid c; clear c e1
      go_wp2_with fail
      refine (C.out).mono ?_
      rintro e w51 ⟨rfl, b51⟩
      have S51 := Lib.hid (SR.out.later b51)
      have K51 := Lib.hid (KR.out.later b51)
      clear b51
      clear C
      go_wp2_with (go_at_call 26; refine (awake4_any W _ S51.out.below).mono ?_; rintro e wz ⟨rfl, bz⟩)
      go_ret
      exact ⟨rfl, bz⟩
  · have hg1 : decide ((0 : Int) ≤ i) = true := decide_eq_true (by omega)
    have hg2 : decide (i < (0 : Int)) = false := decide_eq_false (by omega)
    have hg4 : (0 : Int) ≤ i := by omega
    have hg5 : ¬ (i < (0 : Int)) := by omega
    clear hin hg0 hneg
    go_wp2_with fail
    go_quiet (fail)
    have HS0 := Lib.hid S14.out
    have HK0 := Lib.hid K14.out
    clear p14c0_14 p14c1_14
    go_wp2_with fail
    go_loopw [20, 188] (fun nv iv wr => iv = .int .i64 0 ∧ nv = .int .i64 0 ∧ Hid (Below (w13.alloc (.cells #[.int .i64 0, .int .i64 0] 25)).heap.size (w13.alloc (.cells #[.int .i64 0, .int .i64 0] 25)) wr)) (fun _ _ _ => 0)
    case atStart => exact ⟨rfl, rfl, Lib.hid (by exact ⟨rfl, rfl, rfl, Nat.le_refl _, fun _ _ => rfl⟩)⟩
    case round =>
      obtain ⟨rfl, rfl, HR⟩ := hrel
      have SR := Lib.hid (HS0.out.later HR.out)
      have KR := Lib.hid (HK0.out.later HR.out)
      have e1 := lbF_tr TR.out HQ.out key (fuel t) 0 (lt_fuel t) (by decide)
      rw [show belowP ([] : List Pr) key = 0 from rfl, show ((0 + 0 : Nat) : Int) = 0 from rfl] at e1
      have c := lookBelow_any SR.out.arena (fuel t) t key (lt_fuel t)
      rw [e1] at c
      have C := Lib.hid c; clear c e1
      go_wp2_with fail
      refine (C.out).mono ?_
      rintro e w51 ⟨rfl, b51⟩
      have S51 := Lib.hid (SR.out.later b51)
      have K51 := Lib.hid (KR.out.later b51)
      clear b51
      clear C
      go_wp2_with (go_at_call 26; refine (awake4_any W _ S51.out.below).mono ?_; rintro e wz ⟨rfl, bz⟩)
      go_ret
      exact ⟨rfl, bz⟩


end Go.Proofs.Ytabiiggoledipaa
