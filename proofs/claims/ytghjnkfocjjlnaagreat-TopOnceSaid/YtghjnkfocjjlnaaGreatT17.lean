/- A new base for an update. -/
import Derived.Test.YtghjnkfocjjlnaaGreatT00
import Derived.Test.YtghjnkfocjjlnaaGreatT12
import Derived.Test.YtghjnkfocjjlnaaGreatT14
import Derived.Test.YtghjnkfocjjlnaaGreatT15
import Derived.Test.YtghjnkfocjjlnaaGreatT16
set_option linter.unusedSimpArgs false
set_option linter.unusedVariables false
namespace Go.Proofs.YtghjnkfocjjlnaaGreat
set_option maxRecDepth 100000
open Go.RowKit Go.Proofs.YtghjnkfocjjlnaaGreatW.PrintWords Go.Proofs.YtghjnkfocjjlnaaGreatW.PrintLast
set_option linter.unusedVariables false
set_option linter.unusedSimpArgs false
set_option maxRecDepth 100000 in
set_option maxHeartbeats 4000000 in
theorem xmade2 {W w : World} {P : Pl} {own : Own} {S : Ix} (h : IS W w P own S) {i p : Nat} (hp : P.pts[i]? = some p) (b : BaseR) (pressed : Int) (hk : (S.th i).op.kind = 2) :
    Calls Tryz.prog 78 #[pt_ p, .agg #[.int .i64 b.id, .int .i64 b.kind, .int .i64 b.treap, .int .i64 b.stat, .int .i64 b.home], .int .i64 pressed] w fun e w' => e = .returned (.tuple #[.int .i64 (S.made i b pressed).1, .agg #[.int .i64 (S.made i b pressed).2.1.err, .bool (S.made i b pressed).2.1.ok, .int .i64 (S.made i b pressed).2.1.key, .int .i64 (S.made i b pressed).2.1.val, .int .i64 (S.made i b pressed).2.1.n, .slice none 0 0], .int .i64 (S.made i b pressed).2.2.1]) ∧ ∃ own', Run W P w own (S.made i b pressed).2.2.2 w' own' ∧ KA i w own w' own' := by
  have R0 := Lib.hid (Run.begin h)
  clear h
  have HKD := Lib.hid hk
  clear hk
  have hsW := R0.out.is.below.size
  obtain ⟨MD, hMD⟩ : ∃ M, M = S.made i b pressed := ⟨_, rfl⟩
  rw [← hMD]
  have HMD := Lib.hid hMD
  clear hMD
  have R1 := Lib.hid (R0.out.box (b := w.heap.size) rfl (o := .ro) (by simp) #[.int .i64 b.id, .int .i64 b.kind, .int .i64 b.treap, .int .i64 b.stat, .int .i64 b.home] 120)
  have K1 := Lib.hid (R0.out.box_ka (b := w.heap.size) rfl (.ro) (.cells #[.int .i64 b.id, .int .i64 b.kind, .int .i64 b.treap, .int .i64 b.stat, .int .i64 b.home] 120) i)
  have R2 := Lib.hid (R1.out.alloc (.cells #[.int .i64 0, .bool false, .int .i64 0, .int .i64 0, .int .i64 0, .slice none 0 0] 45))
  have K2 := Lib.hid (R1.out.alloc_ka (.cells #[.int .i64 0, .bool false, .int .i64 0, .int .i64 0, .int .i64 0, .slice none 0 0] 45) i)
  have HZ := Lib.hid (R1.out.alloc_fx (b := w.heap.size + 1) (by simp) #[.int .i64 0, .bool false, .int .i64 0, .int .i64 0, .int .i64 0, .slice none 0 0] 45)
  go_enter Tryz.func78, Tryz.ntmps78
  go_wp2_with fail
  have R3 := Lib.hid R2.out.drew
  have K3 := Lib.hid (R2.out.drew_ka i)
  refine start_ (n := 21) (S := fun w' => w'.cell? ⟨p, 0, none⟩ = some (pt_ P.px) ∧ w'.cell? ⟨P.px, 0, none⟩ = some (pt_ P.pa) ∧ w'.cell? ⟨p, 3, none⟩ = some (.int .i64 (S.th i).op.key) ∧ w'.cell? ⟨p, 5, none⟩ = some (.int .i64 (S.th i).op.val)) (ds := [20]) (bz 21 0).toArray (by kernel_rfl) rfl rfl ⟨(R3.out.is.thx hp), (R3.out.is.xa), (R3.out.is.thc hp (k := 3) (fun _ _ => rfl)), (R3.out.is.thc hp (k := 5) (fun _ _ => rfl))⟩ (fun hHeld => ?_)
  refine pure_ (i := 0) (N := some 17) (v := ?_) (a' := ?_) (bz 21 1).toArray rfl rfl (by kernel_rfl) (fun _ _ _ h => h) (Or.inl ⟨by rfl, ?_⟩) ?_ ?_
  rotate_left
  · intro w'
    go_simp
    with_reducible rfl
  rotate_left
  · simp only [Act.put, sqA, sqZ, sqS, i64_w, i32_w]
    rfl
  refine pure_ (i := 1) (N := some 18) (v := ?_) (a' := ?_) (bz 21 3).toArray rfl rfl (by kernel_rfl) (fun _ _ _ h => h) (Or.inl ⟨by rfl, ?_⟩) ?_ ?_
  rotate_left
  · intro w'
    go_simp
    with_reducible rfl
  rotate_left
  · simp only [Act.put, sqA, sqZ, sqS, i64_w, i32_w]
    rfl
  refine pure_ (i := 2) (N := some 19) (v := ?_) (a' := ?_) (bz 21 7).toArray rfl rfl (by kernel_rfl) (fun _ _ _ h => h) (Or.inl ⟨by rfl, ?_⟩) ?_ ?_
  rotate_left
  · intro w'
    go_simp
    with_reducible rfl
  rotate_left
  · simp only [Act.put, sqA, sqZ, sqS, i64_w, i32_w]
    rfl
  refine pure_ (i := 7) (N := some 24) (v := ?_) (a' := ?_) (bz 21 135).toArray rfl rfl (by kernel_rfl) (fun _ _ _ h => h) (Or.inl ⟨by rfl, ?_⟩) ?_ ?_
  rotate_left
  · intro w'
    go_simp
    with_reducible rfl
  rotate_left
  · simp only [Act.put, sqA, sqZ, sqS, i64_w, i32_w]
    rfl
  refine pure_ (i := 8) (N := some 25) (v := ?_) (a' := ?_) (bz 21 391).toArray rfl rfl (by kernel_rfl) (fun _ _ _ h => h) (Or.inl ⟨by rfl, ?_⟩) ?_ ?_
  rotate_left
  · intro w'
    go_simp
    with_reducible rfl
  rotate_left
  · simp only [Act.put, sqA, sqZ, sqS, i64_w, i32_w]
    rfl
  refine pure_ (i := 9) (N := some 26) (v := ?_) (a' := ?_) (bz 21 903).toArray rfl rfl (by kernel_rfl) (fun _ _ _ h => h) (Or.inl ⟨by rfl, ?_⟩) ?_ ?_
  rotate_left
  · intro w'
    go_simp
    with_reducible rfl
  rotate_left
  · simp only [Act.put, sqA, sqZ, sqS, i64_w, i32_w]
    rfl
  refine pure_ (i := 10) (N := some 27) (v := ?_) (a' := ?_) (bz 21 1927).toArray rfl rfl (by kernel_rfl) (fun _ _ _ h => h) (Or.inl ⟨by rfl, ?_⟩) ?_ ?_
  rotate_left
  · intro w'
    go_simp
    with_reducible rfl
  rotate_left
  · simp only [Act.put, sqA, sqZ, sqS, i64_w, i32_w]
    rfl
  refine pure_ (i := 12) (N := some 29) (v := ?_) (a' := ?_) (bz 21 6023).toArray rfl rfl (by kernel_rfl) (fun _ _ _ h => h) (Or.inl ⟨by rfl, ?_⟩) ?_ ?_
  rotate_left
  · intro w'
    go_simp
    with_reducible rfl
  rotate_left
  · simp only [Act.put, sqA, sqZ, sqS, i64_w, i32_w]
    rfl
  refine pure_ (i := 13) (N := some 30) (v := ?_) (a' := ?_) (bz 21 14215).toArray rfl rfl (by kernel_rfl) (fun _ _ _ h => h) (Or.inl ⟨by rfl, ?_⟩) ?_ ?_
  rotate_left
  · intro w'
    go_simp
    with_reducible rfl
  rotate_left
  · simp only [Act.put, sqA, sqZ, sqS, i64_w, i32_w]
    rfl
  refine pure_ (i := 14) (N := some 31) (v := ?_) (a' := ?_) (bz 21 30599).toArray rfl rfl (by kernel_rfl) (fun _ _ _ h => h) (Or.inl ⟨by rfl, ?_⟩) ?_ ?_
  rotate_left
  · intro w'
    go_simp
    with_reducible rfl
  rotate_left
  · simp only [Act.put, sqA, sqZ, sqS, i64_w, i32_w]
    rfl
  refine pure_ (i := 15) (N := some 32) (v := ?_) (a' := ?_) (bz 21 63367).toArray rfl rfl (by kernel_rfl) (fun _ _ _ h => h) (Or.inl ⟨by rfl, ?_⟩) ?_ ?_
  rotate_left
  · intro w'
    go_simp
    with_reducible rfl
  rotate_left
  · simp only [Act.put, sqA, sqZ, sqS, i64_w, i32_w]
    rfl
  refine take_ (i := 3) (N := some 20) (v := ?_) (a' := ?_) (bz 21 63375).toArray rfl rfl (by kernel_rfl) (fun _ _ _ h => h) (Or.inl ⟨by rfl, ?_⟩) hHeld ?_ ?_
  rotate_left
  · rintro w' ⟨s0, s1, s2, s3⟩
    go_simp
    with_reducible rfl
  rotate_left
  · simp only [Act.put, sqA, sqZ, sqS, i64_w, i32_w]
    rfl
  refine pure_ (i := 4) (N := some 21) (v := ?_) (a' := ?_) (bz 21 63391).toArray rfl rfl (by kernel_rfl) (fun _ _ _ h => h) (Or.inl ⟨by rfl, ?_⟩) ?_ ?_
  rotate_left
  · intro w'
    go_simp
    with_reducible rfl
  rotate_left
  · simp only [Act.put, sqA, sqZ, sqS, i64_w, i32_w]
    rfl
  refine pure_ (i := 5) (N := some 22) (v := ?_) (a' := ?_) (bz 21 63423).toArray rfl rfl (by kernel_rfl) (fun _ _ _ h => h) (Or.inl ⟨by rfl, ?_⟩) ?_ ?_
  rotate_left
  · intro w'
    go_simp
    with_reducible rfl
  rotate_left
  · simp only [Act.put, sqA, sqZ, sqS, i64_w, i32_w]
    rfl
  refine take_ (i := 6) (N := some 23) (v := ?_) (a' := ?_) (bz 21 63487).toArray rfl rfl (by kernel_rfl) (fun _ _ _ h => h) (Or.inl ⟨by rfl, ?_⟩) hHeld ?_ ?_
  rotate_left
  · rintro w' ⟨s0, s1, s2, s3⟩
    go_simp
    with_reducible rfl
  rotate_left
  · simp only [Act.put, sqA, sqZ, sqS, i64_w, i32_w]
    rfl
  refine take_ (i := 11) (N := some 28) (v := ?_) (a' := ?_) (bz 21 65535).toArray rfl rfl (by kernel_rfl) (fun _ _ _ h => h) (Or.inl ⟨by rfl, ?_⟩) hHeld ?_ ?_
  rotate_left
  · rintro w' ⟨s0, s1, s2, s3⟩
    go_simp
    with_reducible rfl
  rotate_left
  · simp only [Act.put, sqA, sqZ, sqS, i64_w, i32_w]
    rfl
  refine take_ (i := 16) (N := some 33) (v := ?_) (a' := ?_) (bz 21 131071).toArray rfl rfl (by kernel_rfl) (fun _ _ _ h => h) (Or.inl ⟨by rfl, ?_⟩) hHeld ?_ ?_
  rotate_left
  · rintro w' ⟨s0, s1, s2, s3⟩
    go_simp
    with_reducible rfl
  rotate_left
  · simp only [Act.put, sqA, sqZ, sqS, i64_w, i32_w]
    rfl
  refine pure_ (i := 17) (N := some 34) (v := ?_) (a' := ?_) (bz 21 262143).toArray rfl rfl (by kernel_rfl) (fun _ _ _ h => h) (Or.inl ⟨by rfl, ?_⟩) ?_ ?_
  rotate_left
  · intro w'
    go_simp
    with_reducible rfl
  rotate_left
  · simp only [Act.put, sqA, sqZ, sqS, i64_w, i32_w]
    rfl
  refine one_ (i := 18) (N := some 10) (bz 21 524287).toArray rfl rfl (by kernel_rfl) (by decide) (fun K hK => ?_)
  refine value_ (w1 := ?_) (v := ?_) (by rfl) rfl ?_ ?_
  rotate_left 2
  · go_simp
    constructor
    · rfl
    · rfl
  have R4 := Lib.hid (R3.out.alloc (.cells #[.int .i64 0, .int .i64 0] 43))
  have K4 := Lib.hid (R3.out.alloc_ka (.cells #[.int .i64 0, .int .i64 0] 43) i)
  have HQ0 := Lib.hid (R3.out.alloc_fx (b := w.heap.size + 1 + 1) (by simp) #[.int .i64 0, .int .i64 0] 43)
  refine hK.out _ _ ⟨(R4.out.is.thx hp), (R4.out.is.xa), (R4.out.is.thc hp (k := 3) (fun _ _ => rfl)), (R4.out.is.thc hp (k := 5) (fun _ _ => rfl))⟩ (fun hHeld => ?_)
  clear hK K
  refine norm_ (a' := ?_) ?_ ?_
  rotate_left
  · show Act.put _ (some 10) _ = _
    simp only [Act.put, sqA, sqZ, sqS, i64_w, i32_w]
    rfl
  refine pure_ (i := 19) (N := some 9) (v := ?_) (a' := ?_) (bz 21 1048575).toArray rfl rfl (by kernel_rfl) (fun _ _ _ h => h) (Or.inl ⟨by rfl, ?_⟩) ?_ ?_
  rotate_left
  · intro w'
    go_simp
    with_reducible rfl
  rotate_left
  · simp only [Act.put, sqA, sqZ, sqS, i64_w, i32_w]
    rfl
  refine last_ (i := 20) (N := none) (bz 21 2097151).toArray rfl rfl (by kernel_rfl) (by decide) (fun K hK => ?_)
  refine skip_ (w1 := ?_) (by rfl) rfl ?_ ?_
  rotate_left
  · go_simp
    rfl
  refine hK.out _ _ ?_
  clear hK K
  refine done_ (by kernel_rfl) ?_
  clear hHeld
  have R3 := Lib.hid (R2.out.alloc (.cells #[.int .i64 (S.th i).op.key, .int .i64 (S.th i).op.val] 43))
  have K3 := Lib.hid (R2.out.alloc_ka (.cells #[.int .i64 (S.th i).op.key, .int .i64 (S.th i).op.val] 43) i)
  have HQ := Lib.hid (R2.out.alloc_fx (b := w.heap.size + 1 + 1) (by simp) #[.int .i64 (S.th i).op.key, .int .i64 (S.th i).op.val] 43)
  have R4 := Lib.hid R3.out.drew
  have K4 := Lib.hid (R3.out.drew_ka i)
  have ct2 : (((w.alloc (.cells #[.int .i64 b.id, .int .i64 b.kind, .int .i64 b.treap, .int .i64 b.stat, .int .i64 b.home] 120)).alloc (.cells #[.int .i64 0, .bool false, .int .i64 0, .int .i64 0, .int .i64 0, .slice none 0 0] 45)).alloc (.cells #[.int .i64 (S.th i).op.key, .int .i64 (S.th i).op.val] 43)).drew.cell? ⟨p, 2, none⟩ = some (.int .i64 2) := by have h2 := R4.out.is.thc hp (k := 2) (fun _ _ => rfl); rw [HKD.out] at h2; exact h2
  have cb0_2 := cell_blk (i := 2) ((((Run.box_bx (b := w.heap.size) rfl _ _).keep K2.out.k).keep K3.out.k).keep K4.out.k).2 rfl
  have cq_0 := cell_blk (i := 0) ((HQ.out).keep K4.out.f).2 rfl
  have cq_1 := cell_blk (i := 1) ((HQ.out).keep K4.out.f).2 rfl
  have cc := addO_any R4.out.is.arena b.treap (S.th i).op.key (S.th i).op.val
  rw [show addO (some S.a) b.treap (S.th i).op.key (S.th i).op.val = S.treapOf i b.treap by unfold Ix.treapOf; rw [if_neg (by rw [HKD.out]; decide), if_pos HKD.out]] at cc
  have hMD := HMD.out
  clear HMD
  unfold Ix.made at hMD
  generalize S.treapOf i b.treap = TR at cc hMD
  obtain ⟨nt, nv, nok, ne, NA⟩ := TR
  simp only [] at cc hMD
  have CC := Lib.hid cc
  have HM := Lib.hid hMD
  clear cc hMD
  go_wp2_with fail
  refine (CC.out).mono ?_
  rintro e w5 ⟨rfl, m5⟩
  clear ct2 cb0_2 cq_0 cq_1
  obtain ⟨o5, r5, k5⟩ := R4.out.madeO m5 i
  have R5 := Lib.hid r5
  have K5 := Lib.hid k5
  clear m5 r5 k5
  clear CC
  by_cases h0 : ne ≠ 0
  · have hq := HM.out
    rw [if_pos h0] at hq
    subst hq
    have q0 : (ne == 0) = false := beq_eq_false_iff_ne.2 h0
    have q1 : (ne != 0) = true := by rw [bne, q0]; rfl
    clear h0 HM
    have cz_0 := cell_blk (i := 0) ((((HZ.out).keep K3.out.f).keep K4.out.f).keep K5.out.f).2 rfl
    have cz_1 := cell_blk (i := 1) ((((HZ.out).keep K3.out.f).keep K4.out.f).keep K5.out.f).2 rfl
    have cz_2 := cell_blk (i := 2) ((((HZ.out).keep K3.out.f).keep K4.out.f).keep K5.out.f).2 rfl
    have cz_3 := cell_blk (i := 3) ((((HZ.out).keep K3.out.f).keep K4.out.f).keep K5.out.f).2 rfl
    have cz_4 := cell_blk (i := 4) ((((HZ.out).keep K3.out.f).keep K4.out.f).keep K5.out.f).2 rfl
    have cz_5 := cell_blk (i := 5) ((((HZ.out).keep K3.out.f).keep K4.out.f).keep K5.out.f).2 rfl
    have fz_0 := free_blk (i := 0) ((((HZ.out).keep K3.out.f).keep K4.out.f).keep K5.out.f).2
    have fz_1 := free_blk (i := 1) ((((HZ.out).keep K3.out.f).keep K4.out.f).keep K5.out.f).2
    have fz_2 := free_blk (i := 2) ((((HZ.out).keep K3.out.f).keep K4.out.f).keep K5.out.f).2
    have fz_3 := free_blk (i := 3) ((((HZ.out).keep K3.out.f).keep K4.out.f).keep K5.out.f).2
    have fz_4 := free_blk (i := 4) ((((HZ.out).keep K3.out.f).keep K4.out.f).keep K5.out.f).2
    have fz_5 := free_blk (i := 5) ((((HZ.out).keep K3.out.f).keep K4.out.f).keep K5.out.f).2
    have hlz := ((((HZ.out).keep K3.out.f).keep K4.out.f).keep K5.out.f).lt
    go_wp2_with fail
    refine bodyPost_ret (v := .tuple #[.int .i64 0, .agg #[.int .i64 0, .bool false, .int .i64 0, .int .i64 0, .int .i64 0, .slice none 0 0], .int .i64 ne]) (by simp [results, Tryz.results78, go_sem, hlz, cz_0, cz_1, cz_2, cz_3, cz_4, cz_5]) rfl ⟨rfl, ?_⟩
    exact ⟨_, R5.out.set6 ((((HZ.out).keep K3.out.f).keep K4.out.f).keep K5.out.f).1 (by omega) (by omega) _ _ _ _ _ _, (((((K1.out).trans K2.out).trans K3.out).trans K4.out).trans K5.out).set6 ((((HZ.out).keep K3.out.f).keep K4.out.f).keep K5.out.f).1 (by omega) _ _ _ _ _ _⟩
  · by_cases hl : (S.th i).late = true
    · have hq := HM.out
      rw [if_neg h0, if_pos hl] at hq
      clear HM
      have ct7 : w5.cell? ⟨p, 7, none⟩ = some (.bool true) := by have h2 := R5.out.is.thc hp (k := 7) (fun _ _ => rfl); rw [show ((S.ofA NA).th i).late = true by show (S.th i).late = _; exact hl] at h2; exact h2
      have q0 : (ne == 0) = true := beq_iff_eq.2 (by simpa using h0)
      have q1 : (ne != 0) = false := by rw [bne, q0]; rfl
      obtain ⟨NT, hNT⟩ : ∃ x, x = nextS S.p pressed 1 := ⟨_, rfl⟩
      rw [← hNT] at hq
      have HNT := Lib.hid hNT
      have HEQ := Lib.hid hq
      clear hq hNT h0 hl
      go_wp2_with fail
      have R6 := Lib.hid R5.out.drew
      have K6 := Lib.hid (R5.out.drew_ka i)
      clear ct7
      refine start_ (n := 21) (S := fun w' => w'.cell? ⟨p, 0, none⟩ = some (pt_ P.px) ∧ w'.cell? ⟨P.px, 1, none⟩ = some (.int .i64 S.p.high) ∧ w'.cell? ⟨P.px, 2, none⟩ = some (.int .i64 S.p.low) ∧ w'.cell? ⟨P.px, 3, none⟩ = some (.int .i64 S.p.cont) ∧ w'.cell? ⟨P.px, 4, none⟩ = some (.int .i64 S.p.uncont) ∧ w'.cell? ⟨P.px, 5, none⟩ = some (.int .i64 S.p.multi) ∧ w'.cell? ⟨w.heap.size, 4, none⟩ = some (.int .i64 b.home)) (ds := [15]) (bz 21 0).toArray (by kernel_rfl) rfl rfl ⟨(R6.out.is.thx hp), (R6.out.is.ixc (k := 1) (fun _ _ => rfl)), (R6.out.is.ixc (k := 2) (fun _ _ => rfl)), (R6.out.is.ixc (k := 3) (fun _ _ => rfl)), (R6.out.is.ixc (k := 4) (fun _ _ => rfl)), (R6.out.is.ixc (k := 5) (fun _ _ => rfl)), (cell_blk (i := 4) ((((((Run.box_bx (b := w.heap.size) rfl _ _).keep K2.out.k).keep K3.out.k).keep K4.out.k).keep K5.out.k).keep K6.out.k).2 rfl)⟩ (fun hHeld => ?_)
      refine pure_ (i := 0) (N := some 84) (v := ?_) (a' := ?_) (bz 21 1).toArray rfl rfl (by kernel_rfl) (fun _ _ _ h => h) (Or.inl ⟨by rfl, ?_⟩) ?_ ?_
      rotate_left
      · intro w'
        go_simp
        with_reducible rfl
      rotate_left
      · simp only [Act.put, sqA, sqZ, sqS, i64_w, i32_w]
        rfl
      refine pure_ (i := 1) (N := some 85) (v := ?_) (a' := ?_) (bz 21 3).toArray rfl rfl (by kernel_rfl) (fun _ _ _ h => h) (Or.inl ⟨by rfl, ?_⟩) ?_ ?_
      rotate_left
      · intro w'
        go_simp
        with_reducible rfl
      rotate_left
      · simp only [Act.put, sqA, sqZ, sqS, i64_w, i32_w]
        rfl
      refine pure_ (i := 2) (N := some 86) (v := ?_) (a' := ?_) (bz 21 7).toArray rfl rfl (by kernel_rfl) (fun _ _ _ h => h) (Or.inl ⟨by rfl, ?_⟩) ?_ ?_
      rotate_left
      · intro w'
        go_simp
        with_reducible rfl
      rotate_left
      · simp only [Act.put, sqA, sqZ, sqS, i64_w, i32_w]
        rfl
      refine pure_ (i := 3) (N := some 87) (v := ?_) (a' := ?_) (bz 21 15).toArray rfl rfl (by kernel_rfl) (fun _ _ _ h => h) (Or.inl ⟨by rfl, ?_⟩) ?_ ?_
      rotate_left
      · intro w'
        go_simp
        with_reducible rfl
      rotate_left
      · simp only [Act.put, sqA, sqZ, sqS, i64_w, i32_w]
        rfl
      refine pure_ (i := 4) (N := some 88) (v := ?_) (a' := ?_) (bz 21 31).toArray rfl rfl (by kernel_rfl) (fun _ _ _ h => h) (Or.inl ⟨by rfl, ?_⟩) ?_ ?_
      rotate_left
      · intro w'
        go_simp
        with_reducible rfl
      rotate_left
      · simp only [Act.put, sqA, sqZ, sqS, i64_w, i32_w]
        rfl
      refine pure_ (i := 9) (N := some 93) (v := ?_) (a' := ?_) (bz 21 543).toArray rfl rfl (by kernel_rfl) (fun _ _ _ h => h) (Or.inl ⟨by rfl, ?_⟩) ?_ ?_
      rotate_left
      · intro w'
        go_simp
        with_reducible rfl
      rotate_left
      · simp only [Act.put, sqA, sqZ, sqS, i64_w, i32_w]
        rfl
      refine pure_ (i := 10) (N := some 94) (v := ?_) (a' := ?_) (bz 21 1567).toArray rfl rfl (by kernel_rfl) (fun _ _ _ h => h) (Or.inl ⟨by rfl, ?_⟩) ?_ ?_
      rotate_left
      · intro w'
        go_simp
        with_reducible rfl
      rotate_left
      · simp only [Act.put, sqA, sqZ, sqS, i64_w, i32_w]
        rfl
      refine pure_ (i := 12) (N := some 96) (v := ?_) (a' := ?_) (bz 21 5663).toArray rfl rfl (by kernel_rfl) (fun _ _ _ h => h) (Or.inl ⟨by rfl, ?_⟩) ?_ ?_
      rotate_left
      · intro w'
        go_simp
        with_reducible rfl
      rotate_left
      · simp only [Act.put, sqA, sqZ, sqS, i64_w, i32_w]
        rfl
      refine take_ (i := 5) (N := some 89) (v := ?_) (a' := ?_) (bz 21 5695).toArray rfl rfl (by kernel_rfl) (fun _ _ _ h => h) (Or.inl ⟨by rfl, ?_⟩) hHeld ?_ ?_
      rotate_left
      · rintro w' ⟨s0, s1, s2, s3, s4, s5, s6⟩
        go_simp
        with_reducible rfl
      rotate_left
      · simp only [Act.put, sqA, sqZ, sqS, i64_w, i32_w]
        rfl
      refine pure_ (i := 6) (N := some 90) (v := ?_) (a' := ?_) (bz 21 5759).toArray rfl rfl (by kernel_rfl) (fun _ _ _ h => h) (Or.inl ⟨by rfl, ?_⟩) ?_ ?_
      rotate_left
      · intro w'
        go_simp
        with_reducible rfl
      rotate_left
      · simp only [Act.put, sqA, sqZ, sqS, i64_w, i32_w]
        rfl
      refine pure_ (i := 7) (N := some 91) (v := ?_) (a' := ?_) (bz 21 5887).toArray rfl rfl (by kernel_rfl) (fun _ _ _ h => h) (Or.inl ⟨by rfl, ?_⟩) ?_ ?_
      rotate_left
      · intro w'
        go_simp
        with_reducible rfl
      rotate_left
      · simp only [Act.put, sqA, sqZ, sqS, i64_w, i32_w]
        rfl
      refine take_ (i := 8) (N := some 92) (v := ?_) (a' := ?_) (bz 21 6143).toArray rfl rfl (by kernel_rfl) (fun _ _ _ h => h) (Or.inl ⟨by rfl, ?_⟩) hHeld ?_ ?_
      rotate_left
      · rintro w' ⟨s0, s1, s2, s3, s4, s5, s6⟩
        go_simp
        with_reducible rfl
      rotate_left
      · simp only [Act.put, sqA, sqZ, sqS, i64_w, i32_w]
        rfl
      refine take_ (i := 13) (N := some 97) (v := ?_) (a' := ?_) (bz 21 14335).toArray rfl rfl (by kernel_rfl) (fun _ _ _ h => h) (Or.inl ⟨by rfl, ?_⟩) hHeld ?_ ?_
      rotate_left
      · rintro w' ⟨s0, s1, s2, s3, s4, s5, s6⟩
        go_simp
        with_reducible rfl
      rotate_left
      · simp only [Act.put, sqA, sqZ, sqS, i64_w, i32_w]
        rfl
      refine one_ (i := 11) (N := some 95) (bz 21 16383).toArray rfl rfl (by kernel_rfl) (by decide) (fun K hK => ?_)
      refine goes_ Tryz.func130 (by kernel_rfl) rfl #[.agg #[.int .i64 S.p.high, .int .i64 S.p.low, .int .i64 S.p.cont, .int .i64 S.p.uncont, .int .i64 S.p.multi], .int .i64 pressed, .int .i64 1] (by rfl) rfl rfl (by simp only [List.map_toArray, List.map_cons, List.map_nil]; rfl) ?_
      with_reducible refine (xnext1 S.p pressed _).mono ?_
      rintro e w7 ⟨rfl, x7⟩
      have b7 := x7
      clear x7
      have R7 := Lib.hid (R6.out.later b7)
      have K7 := Lib.hid (R6.out.below_ka b7 i)
      clear b7
      rw [← HNT.out]
      refine ⟨_, rfl, ?_⟩
      refine hK.out _ _ ⟨(R7.out.is.thx hp), (R7.out.is.ixc (k := 1) (fun _ _ => rfl)), (R7.out.is.ixc (k := 2) (fun _ _ => rfl)), (R7.out.is.ixc (k := 3) (fun _ _ => rfl)), (R7.out.is.ixc (k := 4) (fun _ _ => rfl)), (R7.out.is.ixc (k := 5) (fun _ _ => rfl)), (cell_blk (i := 4) (((((((Run.box_bx (b := w.heap.size) rfl _ _).keep K2.out.k).keep K3.out.k).keep K4.out.k).keep K5.out.k).keep K6.out.k).keep K7.out.k).2 rfl)⟩ (fun hHeld => ?_)
      clear hK K
      refine norm_ (a' := ?_) ?_ ?_
      rotate_left
      · show Act.put _ (some 95) _ = _
        simp only [Act.put, sqA, sqZ, sqS, i64_w, i32_w]
        rfl
      refine one_ (i := 14) (N := some 98) (bz 21 32767).toArray rfl rfl (by kernel_rfl) (by decide) (fun K hK => ?_)
      refine value_ (w1 := ?_) (v := ?_) (by rfl) rfl ?_ ?_
      rotate_left 2
      · go_simp
        constructor
        · rfl
        · rfl
      have HI := Lib.hid (ints_new w7 (w7.heap.size) #[.int .i64 nt, .int .i64 NT, .int .i64 b.home] (l := [nt, NT, b.home]) rfl rfl)
      have R8 := Lib.hid (R7.out.alloc (.cells #[.int .i64 nt, .int .i64 NT, .int .i64 b.home] 3))
      have K8 := Lib.hid (R7.out.alloc_ka (.cells #[.int .i64 nt, .int .i64 NT, .int .i64 b.home] 3) i)
      have HSL := Lib.hid (R7.out.alloc_fx (b := w7.heap.size) rfl #[.int .i64 nt, .int .i64 NT, .int .i64 b.home] 3)
      refine hK.out _ _ ⟨(R8.out.is.thx hp), (R8.out.is.ixc (k := 1) (fun _ _ => rfl)), (R8.out.is.ixc (k := 2) (fun _ _ => rfl)), (R8.out.is.ixc (k := 3) (fun _ _ => rfl)), (R8.out.is.ixc (k := 4) (fun _ _ => rfl)), (R8.out.is.ixc (k := 5) (fun _ _ => rfl)), (cell_blk (i := 4) ((((((((Run.box_bx (b := w.heap.size) rfl _ _).keep K2.out.k).keep K3.out.k).keep K4.out.k).keep K5.out.k).keep K6.out.k).keep K7.out.k).keep K8.out.k).2 rfl)⟩ (fun hHeld => ?_)
      clear hK K
      refine norm_ (a' := ?_) ?_ ?_
      rotate_left
      · show Act.put _ (some 98) _ = _
        simp only [Act.put, sqA, sqZ, sqS, i64_w, i32_w]
        rfl
      refine last_ (i := 15) (N := some 99) (bz 21 65535).toArray rfl rfl (by kernel_rfl) (by decide) (fun K hK => ?_)
      have cm := make_any R8.out.is.arena 3 HI.out
      rw [show [nt, NT, b.home].length = 3 from rfl] at cm
      have hq := HEQ.out
      generalize makeO (some (S.ofA NA).a) 3 [nt, NT, b.home] = MK at cm hq
      obtain ⟨mi, me, MA⟩ := MK
      simp only [] at cm hq
      have CM := Lib.hid cm
      have HEQ2 := Lib.hid hq
      clear cm hq
      refine goes_ Tryz.func69 (by kernel_rfl) rfl #[pt_ P.pa, .int .i64 3, .slice (some ⟨w7.heap.size, 0, none⟩) 3 3] (by rfl) rfl rfl (by simp only [List.map_toArray, List.map_cons, List.map_nil]; rfl) ?_
      with_reducible refine (CM.out).mono ?_
      rintro e w9 ⟨rfl, x9⟩
      have m9 := x9
      clear x9
      obtain ⟨o9, r9, k9⟩ := R8.out.madeO m9 i
      have R9 := Lib.hid r9
      have K9 := Lib.hid k9
      clear m9 r9 k9
      refine ⟨_, rfl, ?_⟩
      refine hK.out _ _ ?_
      clear hK K
      refine norm_ (a' := ?_) ?_ ?_
      rotate_left
      · show Act.put _ (some 99) _ = _
        simp only [Act.put, sqA, sqZ, sqS, i64_w, i32_w]
        rfl
      refine pure_ (i := 16) (N := some 83) (v := ?_) (a' := ?_) (bz 21 131071).toArray rfl rfl (by kernel_rfl) (fun _ _ _ h => h) (Or.inl ⟨by rfl, ?_⟩) ?_ ?_
      rotate_left
      · intro w'
        go_simp
        with_reducible rfl
      rotate_left
      · simp only [Act.put, sqA, sqZ, sqS, i64_w, i32_w]
        rfl
      refine pure_ (i := 17) (N := some 100) (v := ?_) (a' := ?_) (bz 21 262143).toArray rfl rfl (by kernel_rfl) (fun _ _ _ h => h) (Or.inl ⟨by rfl, ?_⟩) ?_ ?_
      rotate_left
      · intro w'
        go_simp
        with_reducible rfl
      rotate_left
      · simp only [Act.put, sqA, sqZ, sqS, i64_w, i32_w]
        rfl
      refine pure_ (i := 18) (N := some 101) (v := ?_) (a' := ?_) (bz 21 524287).toArray rfl rfl (by kernel_rfl) (fun _ _ _ h => h) (Or.inl ⟨by rfl, ?_⟩) ?_ ?_
      rotate_left
      · intro w'
        go_simp
        with_reducible rfl
      rotate_left
      · simp only [Act.put, sqA, sqZ, sqS, i64_w, i32_w]
        rfl
      refine pure_ (i := 19) (N := some 16) (v := ?_) (a' := ?_) (bz 21 1048575).toArray rfl rfl (by kernel_rfl) (fun _ _ _ h => h) (Or.inl ⟨by rfl, ?_⟩) ?_ ?_
      rotate_left
      · intro w'
        go_simp
        with_reducible rfl
      rotate_left
      · simp only [Act.put, sqA, sqZ, sqS, i64_w, i32_w]
        rfl
      refine pure_ (i := 20) (N := some 14) (v := ?_) (a' := ?_) (bz 21 2097151).toArray rfl rfl (by kernel_rfl) (fun _ _ _ h => h) (Or.inl ⟨by rfl, ?_⟩) ?_ ?_
      rotate_left
      · intro w'
        go_simp
        with_reducible rfl
      rotate_left
      · simp only [Act.put, sqA, sqZ, sqS, i64_w, i32_w]
        rfl
      refine done_ (by kernel_rfl) ?_
      have cq_0 := cell_blk (i := 0) (((((((HQ.out).keep K4.out.f).keep K5.out.f).keep K6.out.f).keep K7.out.f).keep K8.out.f).keep K9.out.f).2 rfl
      go_wp2_with fail
      refine (xhad_any (S.th i).op.key nv nok _).mono ?_
      rintro e w10 ⟨rfl, b10⟩
      clear cq_0
      have R10 := Lib.hid (R9.out.later b10)
      have K10 := Lib.hid (R9.out.below_ka b10 i)
      clear b10
      have cz_0 := cell_blk (i := 0) (((((((((HZ.out).keep K3.out.f).keep K4.out.f).keep K5.out.f).keep K6.out.f).keep K7.out.f).keep K8.out.f).keep K9.out.f).keep K10.out.f).2 rfl
      have cz_1 := cell_blk (i := 1) (((((((((HZ.out).keep K3.out.f).keep K4.out.f).keep K5.out.f).keep K6.out.f).keep K7.out.f).keep K8.out.f).keep K9.out.f).keep K10.out.f).2 rfl
      have cz_2 := cell_blk (i := 2) (((((((((HZ.out).keep K3.out.f).keep K4.out.f).keep K5.out.f).keep K6.out.f).keep K7.out.f).keep K8.out.f).keep K9.out.f).keep K10.out.f).2 rfl
      have cz_3 := cell_blk (i := 3) (((((((((HZ.out).keep K3.out.f).keep K4.out.f).keep K5.out.f).keep K6.out.f).keep K7.out.f).keep K8.out.f).keep K9.out.f).keep K10.out.f).2 rfl
      have cz_4 := cell_blk (i := 4) (((((((((HZ.out).keep K3.out.f).keep K4.out.f).keep K5.out.f).keep K6.out.f).keep K7.out.f).keep K8.out.f).keep K9.out.f).keep K10.out.f).2 rfl
      have cz_5 := cell_blk (i := 5) (((((((((HZ.out).keep K3.out.f).keep K4.out.f).keep K5.out.f).keep K6.out.f).keep K7.out.f).keep K8.out.f).keep K9.out.f).keep K10.out.f).2 rfl
      have fz_0 := free_blk (i := 0) (((((((((HZ.out).keep K3.out.f).keep K4.out.f).keep K5.out.f).keep K6.out.f).keep K7.out.f).keep K8.out.f).keep K9.out.f).keep K10.out.f).2
      have fz_1 := free_blk (i := 1) (((((((((HZ.out).keep K3.out.f).keep K4.out.f).keep K5.out.f).keep K6.out.f).keep K7.out.f).keep K8.out.f).keep K9.out.f).keep K10.out.f).2
      have fz_2 := free_blk (i := 2) (((((((((HZ.out).keep K3.out.f).keep K4.out.f).keep K5.out.f).keep K6.out.f).keep K7.out.f).keep K8.out.f).keep K9.out.f).keep K10.out.f).2
      have fz_3 := free_blk (i := 3) (((((((((HZ.out).keep K3.out.f).keep K4.out.f).keep K5.out.f).keep K6.out.f).keep K7.out.f).keep K8.out.f).keep K9.out.f).keep K10.out.f).2
      have fz_4 := free_blk (i := 4) (((((((((HZ.out).keep K3.out.f).keep K4.out.f).keep K5.out.f).keep K6.out.f).keep K7.out.f).keep K8.out.f).keep K9.out.f).keep K10.out.f).2
      have fz_5 := free_blk (i := 5) (((((((((HZ.out).keep K3.out.f).keep K4.out.f).keep K5.out.f).keep K6.out.f).keep K7.out.f).keep K8.out.f).keep K9.out.f).keep K10.out.f).2
      have hlz := (((((((((HZ.out).keep K3.out.f).keep K4.out.f).keep K5.out.f).keep K6.out.f).keep K7.out.f).keep K8.out.f).keep K9.out.f).keep K10.out.f).lt
      go_wp2_with fail
      have hq := HEQ2.out
      subst hq
      refine bodyPost_ret (v := .tuple #[.int .i64 mi, .agg #[.int .i64 (had (S.th i).op.key nv nok).err, .bool (had (S.th i).op.key nv nok).ok, .int .i64 (had (S.th i).op.key nv nok).key, .int .i64 (had (S.th i).op.key nv nok).val, .int .i64 (had (S.th i).op.key nv nok).n, .slice none 0 0], .int .i64 me]) (by simp [results, Tryz.results78, go_sem, hlz, cz_0, cz_1, cz_2, cz_3, cz_4, cz_5]) rfl ⟨rfl, ?_⟩
      exact ⟨_, R10.out.set6 (((((((((HZ.out).keep K3.out.f).keep K4.out.f).keep K5.out.f).keep K6.out.f).keep K7.out.f).keep K8.out.f).keep K9.out.f).keep K10.out.f).1 (by omega) (by omega) _ _ _ _ _ _, ((((((((((K1.out).trans K2.out).trans K3.out).trans K4.out).trans K5.out).trans K6.out).trans K7.out).trans K8.out).trans K9.out).trans K10.out).set6 (((((((((HZ.out).keep K3.out.f).keep K4.out.f).keep K5.out.f).keep K6.out.f).keep K7.out.f).keep K8.out.f).keep K9.out.f).keep K10.out.f).1 (by omega) _ _ _ _ _ _⟩
    · have hq := HM.out
      rw [if_neg h0, if_neg hl] at hq
      clear HM
      have ct7 : w5.cell? ⟨p, 7, none⟩ = some (.bool false) := by have h2 := R5.out.is.thc hp (k := 7) (fun _ _ => rfl); rw [show ((S.ofA NA).th i).late = false by show (S.th i).late = _; simpa using hl] at h2; exact h2
      have q0 : (ne == 0) = true := beq_iff_eq.2 (by simpa using h0)
      have q1 : (ne != 0) = false := by rw [bne, q0]; rfl
      obtain ⟨NT, hNT⟩ : ∃ x, x = nextS S.p pressed 2 := ⟨_, rfl⟩
      rw [← hNT] at hq
      have HNT := Lib.hid hNT
      have HEQ := Lib.hid hq
      clear hq hNT h0 hl
      go_wp2_with fail
      have R6 := Lib.hid R5.out.drew
      have K6 := Lib.hid (R5.out.drew_ka i)
      clear ct7
      refine start_ (n := 21) (S := fun w' => w'.cell? ⟨p, 0, none⟩ = some (pt_ P.px) ∧ w'.cell? ⟨P.px, 1, none⟩ = some (.int .i64 S.p.high) ∧ w'.cell? ⟨P.px, 2, none⟩ = some (.int .i64 S.p.low) ∧ w'.cell? ⟨P.px, 3, none⟩ = some (.int .i64 S.p.cont) ∧ w'.cell? ⟨P.px, 4, none⟩ = some (.int .i64 S.p.uncont) ∧ w'.cell? ⟨P.px, 5, none⟩ = some (.int .i64 S.p.multi) ∧ w'.cell? ⟨w.heap.size, 4, none⟩ = some (.int .i64 b.home)) (ds := [15]) (bz 21 0).toArray (by kernel_rfl) rfl rfl ⟨(R6.out.is.thx hp), (R6.out.is.ixc (k := 1) (fun _ _ => rfl)), (R6.out.is.ixc (k := 2) (fun _ _ => rfl)), (R6.out.is.ixc (k := 3) (fun _ _ => rfl)), (R6.out.is.ixc (k := 4) (fun _ _ => rfl)), (R6.out.is.ixc (k := 5) (fun _ _ => rfl)), (cell_blk (i := 4) ((((((Run.box_bx (b := w.heap.size) rfl _ _).keep K2.out.k).keep K3.out.k).keep K4.out.k).keep K5.out.k).keep K6.out.k).2 rfl)⟩ (fun hHeld => ?_)
      refine pure_ (i := 0) (N := some 84) (v := ?_) (a' := ?_) (bz 21 1).toArray rfl rfl (by kernel_rfl) (fun _ _ _ h => h) (Or.inl ⟨by rfl, ?_⟩) ?_ ?_
      rotate_left
      · intro w'
        go_simp
        with_reducible rfl
      rotate_left
      · simp only [Act.put, sqA, sqZ, sqS, i64_w, i32_w]
        rfl
      refine pure_ (i := 1) (N := some 85) (v := ?_) (a' := ?_) (bz 21 3).toArray rfl rfl (by kernel_rfl) (fun _ _ _ h => h) (Or.inl ⟨by rfl, ?_⟩) ?_ ?_
      rotate_left
      · intro w'
        go_simp
        with_reducible rfl
      rotate_left
      · simp only [Act.put, sqA, sqZ, sqS, i64_w, i32_w]
        rfl
      refine pure_ (i := 2) (N := some 86) (v := ?_) (a' := ?_) (bz 21 7).toArray rfl rfl (by kernel_rfl) (fun _ _ _ h => h) (Or.inl ⟨by rfl, ?_⟩) ?_ ?_
      rotate_left
      · intro w'
        go_simp
        with_reducible rfl
      rotate_left
      · simp only [Act.put, sqA, sqZ, sqS, i64_w, i32_w]
        rfl
      refine pure_ (i := 3) (N := some 87) (v := ?_) (a' := ?_) (bz 21 15).toArray rfl rfl (by kernel_rfl) (fun _ _ _ h => h) (Or.inl ⟨by rfl, ?_⟩) ?_ ?_
      rotate_left
      · intro w'
        go_simp
        with_reducible rfl
      rotate_left
      · simp only [Act.put, sqA, sqZ, sqS, i64_w, i32_w]
        rfl
      refine pure_ (i := 4) (N := some 88) (v := ?_) (a' := ?_) (bz 21 31).toArray rfl rfl (by kernel_rfl) (fun _ _ _ h => h) (Or.inl ⟨by rfl, ?_⟩) ?_ ?_
      rotate_left
      · intro w'
        go_simp
        with_reducible rfl
      rotate_left
      · simp only [Act.put, sqA, sqZ, sqS, i64_w, i32_w]
        rfl
      refine pure_ (i := 9) (N := some 93) (v := ?_) (a' := ?_) (bz 21 543).toArray rfl rfl (by kernel_rfl) (fun _ _ _ h => h) (Or.inl ⟨by rfl, ?_⟩) ?_ ?_
      rotate_left
      · intro w'
        go_simp
        with_reducible rfl
      rotate_left
      · simp only [Act.put, sqA, sqZ, sqS, i64_w, i32_w]
        rfl
      refine pure_ (i := 10) (N := some 94) (v := ?_) (a' := ?_) (bz 21 1567).toArray rfl rfl (by kernel_rfl) (fun _ _ _ h => h) (Or.inl ⟨by rfl, ?_⟩) ?_ ?_
      rotate_left
      · intro w'
        go_simp
        with_reducible rfl
      rotate_left
      · simp only [Act.put, sqA, sqZ, sqS, i64_w, i32_w]
        rfl
      refine pure_ (i := 12) (N := some 96) (v := ?_) (a' := ?_) (bz 21 5663).toArray rfl rfl (by kernel_rfl) (fun _ _ _ h => h) (Or.inl ⟨by rfl, ?_⟩) ?_ ?_
      rotate_left
      · intro w'
        go_simp
        with_reducible rfl
      rotate_left
      · simp only [Act.put, sqA, sqZ, sqS, i64_w, i32_w]
        rfl
      refine take_ (i := 5) (N := some 89) (v := ?_) (a' := ?_) (bz 21 5695).toArray rfl rfl (by kernel_rfl) (fun _ _ _ h => h) (Or.inl ⟨by rfl, ?_⟩) hHeld ?_ ?_
      rotate_left
      · rintro w' ⟨s0, s1, s2, s3, s4, s5, s6⟩
        go_simp
        with_reducible rfl
      rotate_left
      · simp only [Act.put, sqA, sqZ, sqS, i64_w, i32_w]
        rfl
      refine pure_ (i := 6) (N := some 90) (v := ?_) (a' := ?_) (bz 21 5759).toArray rfl rfl (by kernel_rfl) (fun _ _ _ h => h) (Or.inl ⟨by rfl, ?_⟩) ?_ ?_
      rotate_left
      · intro w'
        go_simp
        with_reducible rfl
      rotate_left
      · simp only [Act.put, sqA, sqZ, sqS, i64_w, i32_w]
        rfl
      refine pure_ (i := 7) (N := some 91) (v := ?_) (a' := ?_) (bz 21 5887).toArray rfl rfl (by kernel_rfl) (fun _ _ _ h => h) (Or.inl ⟨by rfl, ?_⟩) ?_ ?_
      rotate_left
      · intro w'
        go_simp
        with_reducible rfl
      rotate_left
      · simp only [Act.put, sqA, sqZ, sqS, i64_w, i32_w]
        rfl
      refine take_ (i := 8) (N := some 92) (v := ?_) (a' := ?_) (bz 21 6143).toArray rfl rfl (by kernel_rfl) (fun _ _ _ h => h) (Or.inl ⟨by rfl, ?_⟩) hHeld ?_ ?_
      rotate_left
      · rintro w' ⟨s0, s1, s2, s3, s4, s5, s6⟩
        go_simp
        with_reducible rfl
      rotate_left
      · simp only [Act.put, sqA, sqZ, sqS, i64_w, i32_w]
        rfl
      refine take_ (i := 13) (N := some 97) (v := ?_) (a' := ?_) (bz 21 14335).toArray rfl rfl (by kernel_rfl) (fun _ _ _ h => h) (Or.inl ⟨by rfl, ?_⟩) hHeld ?_ ?_
      rotate_left
      · rintro w' ⟨s0, s1, s2, s3, s4, s5, s6⟩
        go_simp
        with_reducible rfl
      rotate_left
      · simp only [Act.put, sqA, sqZ, sqS, i64_w, i32_w]
        rfl
      refine one_ (i := 11) (N := some 95) (bz 21 16383).toArray rfl rfl (by kernel_rfl) (by decide) (fun K hK => ?_)
      refine goes_ Tryz.func130 (by kernel_rfl) rfl #[.agg #[.int .i64 S.p.high, .int .i64 S.p.low, .int .i64 S.p.cont, .int .i64 S.p.uncont, .int .i64 S.p.multi], .int .i64 pressed, .int .i64 2] (by rfl) rfl rfl (by simp only [List.map_toArray, List.map_cons, List.map_nil]; rfl) ?_
      with_reducible refine (xnext2 S.p pressed _).mono ?_
      rintro e w7 ⟨rfl, x7⟩
      have b7 := x7
      clear x7
      have R7 := Lib.hid (R6.out.later b7)
      have K7 := Lib.hid (R6.out.below_ka b7 i)
      clear b7
      rw [← HNT.out]
      refine ⟨_, rfl, ?_⟩
      refine hK.out _ _ ⟨(R7.out.is.thx hp), (R7.out.is.ixc (k := 1) (fun _ _ => rfl)), (R7.out.is.ixc (k := 2) (fun _ _ => rfl)), (R7.out.is.ixc (k := 3) (fun _ _ => rfl)), (R7.out.is.ixc (k := 4) (fun _ _ => rfl)), (R7.out.is.ixc (k := 5) (fun _ _ => rfl)), (cell_blk (i := 4) (((((((Run.box_bx (b := w.heap.size) rfl _ _).keep K2.out.k).keep K3.out.k).keep K4.out.k).keep K5.out.k).keep K6.out.k).keep K7.out.k).2 rfl)⟩ (fun hHeld => ?_)
      clear hK K
      refine norm_ (a' := ?_) ?_ ?_
      rotate_left
      · show Act.put _ (some 95) _ = _
        simp only [Act.put, sqA, sqZ, sqS, i64_w, i32_w]
        rfl
      refine one_ (i := 14) (N := some 98) (bz 21 32767).toArray rfl rfl (by kernel_rfl) (by decide) (fun K hK => ?_)
      refine value_ (w1 := ?_) (v := ?_) (by rfl) rfl ?_ ?_
      rotate_left 2
      · go_simp
        constructor
        · rfl
        · rfl
      have HI := Lib.hid (ints_new w7 (w7.heap.size) #[.int .i64 nt, .int .i64 NT, .int .i64 b.home] (l := [nt, NT, b.home]) rfl rfl)
      have R8 := Lib.hid (R7.out.alloc (.cells #[.int .i64 nt, .int .i64 NT, .int .i64 b.home] 3))
      have K8 := Lib.hid (R7.out.alloc_ka (.cells #[.int .i64 nt, .int .i64 NT, .int .i64 b.home] 3) i)
      have HSL := Lib.hid (R7.out.alloc_fx (b := w7.heap.size) rfl #[.int .i64 nt, .int .i64 NT, .int .i64 b.home] 3)
      refine hK.out _ _ ⟨(R8.out.is.thx hp), (R8.out.is.ixc (k := 1) (fun _ _ => rfl)), (R8.out.is.ixc (k := 2) (fun _ _ => rfl)), (R8.out.is.ixc (k := 3) (fun _ _ => rfl)), (R8.out.is.ixc (k := 4) (fun _ _ => rfl)), (R8.out.is.ixc (k := 5) (fun _ _ => rfl)), (cell_blk (i := 4) ((((((((Run.box_bx (b := w.heap.size) rfl _ _).keep K2.out.k).keep K3.out.k).keep K4.out.k).keep K5.out.k).keep K6.out.k).keep K7.out.k).keep K8.out.k).2 rfl)⟩ (fun hHeld => ?_)
      clear hK K
      refine norm_ (a' := ?_) ?_ ?_
      rotate_left
      · show Act.put _ (some 98) _ = _
        simp only [Act.put, sqA, sqZ, sqS, i64_w, i32_w]
        rfl
      refine last_ (i := 15) (N := some 99) (bz 21 65535).toArray rfl rfl (by kernel_rfl) (by decide) (fun K hK => ?_)
      have cm := make_any R8.out.is.arena 3 HI.out
      rw [show [nt, NT, b.home].length = 3 from rfl] at cm
      have hq := HEQ.out
      generalize makeO (some (S.ofA NA).a) 3 [nt, NT, b.home] = MK at cm hq
      obtain ⟨mi, me, MA⟩ := MK
      simp only [] at cm hq
      have CM := Lib.hid cm
      have HEQ2 := Lib.hid hq
      clear cm hq
      refine goes_ Tryz.func69 (by kernel_rfl) rfl #[pt_ P.pa, .int .i64 3, .slice (some ⟨w7.heap.size, 0, none⟩) 3 3] (by rfl) rfl rfl (by simp only [List.map_toArray, List.map_cons, List.map_nil]; rfl) ?_
      with_reducible refine (CM.out).mono ?_
      rintro e w9 ⟨rfl, x9⟩
      have m9 := x9
      clear x9
      obtain ⟨o9, r9, k9⟩ := R8.out.madeO m9 i
      have R9 := Lib.hid r9
      have K9 := Lib.hid k9
      clear m9 r9 k9
      refine ⟨_, rfl, ?_⟩
      refine hK.out _ _ ?_
      clear hK K
      refine norm_ (a' := ?_) ?_ ?_
      rotate_left
      · show Act.put _ (some 99) _ = _
        simp only [Act.put, sqA, sqZ, sqS, i64_w, i32_w]
        rfl
      refine pure_ (i := 16) (N := some 83) (v := ?_) (a' := ?_) (bz 21 131071).toArray rfl rfl (by kernel_rfl) (fun _ _ _ h => h) (Or.inl ⟨by rfl, ?_⟩) ?_ ?_
      rotate_left
      · intro w'
        go_simp
        with_reducible rfl
      rotate_left
      · simp only [Act.put, sqA, sqZ, sqS, i64_w, i32_w]
        rfl
      refine pure_ (i := 17) (N := some 100) (v := ?_) (a' := ?_) (bz 21 262143).toArray rfl rfl (by kernel_rfl) (fun _ _ _ h => h) (Or.inl ⟨by rfl, ?_⟩) ?_ ?_
      rotate_left
      · intro w'
        go_simp
        with_reducible rfl
      rotate_left
      · simp only [Act.put, sqA, sqZ, sqS, i64_w, i32_w]
        rfl
      refine pure_ (i := 18) (N := some 101) (v := ?_) (a' := ?_) (bz 21 524287).toArray rfl rfl (by kernel_rfl) (fun _ _ _ h => h) (Or.inl ⟨by rfl, ?_⟩) ?_ ?_
      rotate_left
      · intro w'
        go_simp
        with_reducible rfl
      rotate_left
      · simp only [Act.put, sqA, sqZ, sqS, i64_w, i32_w]
        rfl
      refine pure_ (i := 19) (N := some 16) (v := ?_) (a' := ?_) (bz 21 1048575).toArray rfl rfl (by kernel_rfl) (fun _ _ _ h => h) (Or.inl ⟨by rfl, ?_⟩) ?_ ?_
      rotate_left
      · intro w'
        go_simp
        with_reducible rfl
      rotate_left
      · simp only [Act.put, sqA, sqZ, sqS, i64_w, i32_w]
        rfl
      refine pure_ (i := 20) (N := some 14) (v := ?_) (a' := ?_) (bz 21 2097151).toArray rfl rfl (by kernel_rfl) (fun _ _ _ h => h) (Or.inl ⟨by rfl, ?_⟩) ?_ ?_
      rotate_left
      · intro w'
        go_simp
        with_reducible rfl
      rotate_left
      · simp only [Act.put, sqA, sqZ, sqS, i64_w, i32_w]
        rfl
      refine done_ (by kernel_rfl) ?_
      have cq_0 := cell_blk (i := 0) (((((((HQ.out).keep K4.out.f).keep K5.out.f).keep K6.out.f).keep K7.out.f).keep K8.out.f).keep K9.out.f).2 rfl
      go_wp2_with fail
      refine (xhad_any (S.th i).op.key nv nok _).mono ?_
      rintro e w10 ⟨rfl, b10⟩
      clear cq_0
      have R10 := Lib.hid (R9.out.later b10)
      have K10 := Lib.hid (R9.out.below_ka b10 i)
      clear b10
      have cz_0 := cell_blk (i := 0) (((((((((HZ.out).keep K3.out.f).keep K4.out.f).keep K5.out.f).keep K6.out.f).keep K7.out.f).keep K8.out.f).keep K9.out.f).keep K10.out.f).2 rfl
      have cz_1 := cell_blk (i := 1) (((((((((HZ.out).keep K3.out.f).keep K4.out.f).keep K5.out.f).keep K6.out.f).keep K7.out.f).keep K8.out.f).keep K9.out.f).keep K10.out.f).2 rfl
      have cz_2 := cell_blk (i := 2) (((((((((HZ.out).keep K3.out.f).keep K4.out.f).keep K5.out.f).keep K6.out.f).keep K7.out.f).keep K8.out.f).keep K9.out.f).keep K10.out.f).2 rfl
      have cz_3 := cell_blk (i := 3) (((((((((HZ.out).keep K3.out.f).keep K4.out.f).keep K5.out.f).keep K6.out.f).keep K7.out.f).keep K8.out.f).keep K9.out.f).keep K10.out.f).2 rfl
      have cz_4 := cell_blk (i := 4) (((((((((HZ.out).keep K3.out.f).keep K4.out.f).keep K5.out.f).keep K6.out.f).keep K7.out.f).keep K8.out.f).keep K9.out.f).keep K10.out.f).2 rfl
      have cz_5 := cell_blk (i := 5) (((((((((HZ.out).keep K3.out.f).keep K4.out.f).keep K5.out.f).keep K6.out.f).keep K7.out.f).keep K8.out.f).keep K9.out.f).keep K10.out.f).2 rfl
      have fz_0 := free_blk (i := 0) (((((((((HZ.out).keep K3.out.f).keep K4.out.f).keep K5.out.f).keep K6.out.f).keep K7.out.f).keep K8.out.f).keep K9.out.f).keep K10.out.f).2
      have fz_1 := free_blk (i := 1) (((((((((HZ.out).keep K3.out.f).keep K4.out.f).keep K5.out.f).keep K6.out.f).keep K7.out.f).keep K8.out.f).keep K9.out.f).keep K10.out.f).2
      have fz_2 := free_blk (i := 2) (((((((((HZ.out).keep K3.out.f).keep K4.out.f).keep K5.out.f).keep K6.out.f).keep K7.out.f).keep K8.out.f).keep K9.out.f).keep K10.out.f).2
      have fz_3 := free_blk (i := 3) (((((((((HZ.out).keep K3.out.f).keep K4.out.f).keep K5.out.f).keep K6.out.f).keep K7.out.f).keep K8.out.f).keep K9.out.f).keep K10.out.f).2
      have fz_4 := free_blk (i := 4) (((((((((HZ.out).keep K3.out.f).keep K4.out.f).keep K5.out.f).keep K6.out.f).keep K7.out.f).keep K8.out.f).keep K9.out.f).keep K10.out.f).2
      have fz_5 := free_blk (i := 5) (((((((((HZ.out).keep K3.out.f).keep K4.out.f).keep K5.out.f).keep K6.out.f).keep K7.out.f).keep K8.out.f).keep K9.out.f).keep K10.out.f).2
      have hlz := (((((((((HZ.out).keep K3.out.f).keep K4.out.f).keep K5.out.f).keep K6.out.f).keep K7.out.f).keep K8.out.f).keep K9.out.f).keep K10.out.f).lt
      go_wp2_with fail
      have hq := HEQ2.out
      subst hq
      refine bodyPost_ret (v := .tuple #[.int .i64 mi, .agg #[.int .i64 (had (S.th i).op.key nv nok).err, .bool (had (S.th i).op.key nv nok).ok, .int .i64 (had (S.th i).op.key nv nok).key, .int .i64 (had (S.th i).op.key nv nok).val, .int .i64 (had (S.th i).op.key nv nok).n, .slice none 0 0], .int .i64 me]) (by simp [results, Tryz.results78, go_sem, hlz, cz_0, cz_1, cz_2, cz_3, cz_4, cz_5]) rfl ⟨rfl, ?_⟩
      exact ⟨_, R10.out.set6 (((((((((HZ.out).keep K3.out.f).keep K4.out.f).keep K5.out.f).keep K6.out.f).keep K7.out.f).keep K8.out.f).keep K9.out.f).keep K10.out.f).1 (by omega) (by omega) _ _ _ _ _ _, ((((((((((K1.out).trans K2.out).trans K3.out).trans K4.out).trans K5.out).trans K6.out).trans K7.out).trans K8.out).trans K9.out).trans K10.out).set6 (((((((((HZ.out).keep K3.out.f).keep K4.out.f).keep K5.out.f).keep K6.out.f).keep K7.out.f).keep K8.out.f).keep K9.out.f).keep K10.out.f).1 (by omega) _ _ _ _ _ _⟩
set_option maxRecDepth 100000 in
set_option maxHeartbeats 4000000 in
theorem xmade1 {W w : World} {P : Pl} {own : Own} {S : Ix} (h : IS W w P own S) {i p : Nat} (hp : P.pts[i]? = some p) (b : BaseR) (pressed : Int) (hk : (S.th i).op.kind = 1) :
    Calls Tryz.prog 78 #[pt_ p, .agg #[.int .i64 b.id, .int .i64 b.kind, .int .i64 b.treap, .int .i64 b.stat, .int .i64 b.home], .int .i64 pressed] w fun e w' => e = .returned (.tuple #[.int .i64 (S.made i b pressed).1, .agg #[.int .i64 (S.made i b pressed).2.1.err, .bool (S.made i b pressed).2.1.ok, .int .i64 (S.made i b pressed).2.1.key, .int .i64 (S.made i b pressed).2.1.val, .int .i64 (S.made i b pressed).2.1.n, .slice none 0 0], .int .i64 (S.made i b pressed).2.2.1]) ∧ ∃ own', Run W P w own (S.made i b pressed).2.2.2 w' own' ∧ KA i w own w' own' := by
  have R0 := Lib.hid (Run.begin h)
  clear h
  have HKD := Lib.hid hk
  clear hk
  have hsW := R0.out.is.below.size
  obtain ⟨MD, hMD⟩ : ∃ M, M = S.made i b pressed := ⟨_, rfl⟩
  rw [← hMD]
  have HMD := Lib.hid hMD
  clear hMD
  have R1 := Lib.hid (R0.out.box (b := w.heap.size) rfl (o := .ro) (by simp) #[.int .i64 b.id, .int .i64 b.kind, .int .i64 b.treap, .int .i64 b.stat, .int .i64 b.home] 120)
  have K1 := Lib.hid (R0.out.box_ka (b := w.heap.size) rfl (.ro) (.cells #[.int .i64 b.id, .int .i64 b.kind, .int .i64 b.treap, .int .i64 b.stat, .int .i64 b.home] 120) i)
  have R2 := Lib.hid (R1.out.alloc (.cells #[.int .i64 0, .bool false, .int .i64 0, .int .i64 0, .int .i64 0, .slice none 0 0] 45))
  have K2 := Lib.hid (R1.out.alloc_ka (.cells #[.int .i64 0, .bool false, .int .i64 0, .int .i64 0, .int .i64 0, .slice none 0 0] 45) i)
  have HZ := Lib.hid (R1.out.alloc_fx (b := w.heap.size + 1) (by simp) #[.int .i64 0, .bool false, .int .i64 0, .int .i64 0, .int .i64 0, .slice none 0 0] 45)
  go_enter Tryz.func78, Tryz.ntmps78
  go_wp2_with fail
  have R3 := Lib.hid R2.out.drew
  have K3 := Lib.hid (R2.out.drew_ka i)
  refine start_ (n := 21) (S := fun w' => w'.cell? ⟨p, 0, none⟩ = some (pt_ P.px) ∧ w'.cell? ⟨P.px, 0, none⟩ = some (pt_ P.pa) ∧ w'.cell? ⟨p, 3, none⟩ = some (.int .i64 (S.th i).op.key) ∧ w'.cell? ⟨p, 5, none⟩ = some (.int .i64 (S.th i).op.val)) (ds := [20]) (bz 21 0).toArray (by kernel_rfl) rfl rfl ⟨(R3.out.is.thx hp), (R3.out.is.xa), (R3.out.is.thc hp (k := 3) (fun _ _ => rfl)), (R3.out.is.thc hp (k := 5) (fun _ _ => rfl))⟩ (fun hHeld => ?_)
  refine pure_ (i := 0) (N := some 17) (v := ?_) (a' := ?_) (bz 21 1).toArray rfl rfl (by kernel_rfl) (fun _ _ _ h => h) (Or.inl ⟨by rfl, ?_⟩) ?_ ?_
  rotate_left
  · intro w'
    go_simp
    with_reducible rfl
  rotate_left
  · simp only [Act.put, sqA, sqZ, sqS, i64_w, i32_w]
    rfl
  refine pure_ (i := 1) (N := some 18) (v := ?_) (a' := ?_) (bz 21 3).toArray rfl rfl (by kernel_rfl) (fun _ _ _ h => h) (Or.inl ⟨by rfl, ?_⟩) ?_ ?_
  rotate_left
  · intro w'
    go_simp
    with_reducible rfl
  rotate_left
  · simp only [Act.put, sqA, sqZ, sqS, i64_w, i32_w]
    rfl
  refine pure_ (i := 2) (N := some 19) (v := ?_) (a' := ?_) (bz 21 7).toArray rfl rfl (by kernel_rfl) (fun _ _ _ h => h) (Or.inl ⟨by rfl, ?_⟩) ?_ ?_
  rotate_left
  · intro w'
    go_simp
    with_reducible rfl
  rotate_left
  · simp only [Act.put, sqA, sqZ, sqS, i64_w, i32_w]
    rfl
  refine pure_ (i := 7) (N := some 24) (v := ?_) (a' := ?_) (bz 21 135).toArray rfl rfl (by kernel_rfl) (fun _ _ _ h => h) (Or.inl ⟨by rfl, ?_⟩) ?_ ?_
  rotate_left
  · intro w'
    go_simp
    with_reducible rfl
  rotate_left
  · simp only [Act.put, sqA, sqZ, sqS, i64_w, i32_w]
    rfl
  refine pure_ (i := 8) (N := some 25) (v := ?_) (a' := ?_) (bz 21 391).toArray rfl rfl (by kernel_rfl) (fun _ _ _ h => h) (Or.inl ⟨by rfl, ?_⟩) ?_ ?_
  rotate_left
  · intro w'
    go_simp
    with_reducible rfl
  rotate_left
  · simp only [Act.put, sqA, sqZ, sqS, i64_w, i32_w]
    rfl
  refine pure_ (i := 9) (N := some 26) (v := ?_) (a' := ?_) (bz 21 903).toArray rfl rfl (by kernel_rfl) (fun _ _ _ h => h) (Or.inl ⟨by rfl, ?_⟩) ?_ ?_
  rotate_left
  · intro w'
    go_simp
    with_reducible rfl
  rotate_left
  · simp only [Act.put, sqA, sqZ, sqS, i64_w, i32_w]
    rfl
  refine pure_ (i := 10) (N := some 27) (v := ?_) (a' := ?_) (bz 21 1927).toArray rfl rfl (by kernel_rfl) (fun _ _ _ h => h) (Or.inl ⟨by rfl, ?_⟩) ?_ ?_
  rotate_left
  · intro w'
    go_simp
    with_reducible rfl
  rotate_left
  · simp only [Act.put, sqA, sqZ, sqS, i64_w, i32_w]
    rfl
  refine pure_ (i := 12) (N := some 29) (v := ?_) (a' := ?_) (bz 21 6023).toArray rfl rfl (by kernel_rfl) (fun _ _ _ h => h) (Or.inl ⟨by rfl, ?_⟩) ?_ ?_
  rotate_left
  · intro w'
    go_simp
    with_reducible rfl
  rotate_left
  · simp only [Act.put, sqA, sqZ, sqS, i64_w, i32_w]
    rfl
  refine pure_ (i := 13) (N := some 30) (v := ?_) (a' := ?_) (bz 21 14215).toArray rfl rfl (by kernel_rfl) (fun _ _ _ h => h) (Or.inl ⟨by rfl, ?_⟩) ?_ ?_
  rotate_left
  · intro w'
    go_simp
    with_reducible rfl
  rotate_left
  · simp only [Act.put, sqA, sqZ, sqS, i64_w, i32_w]
    rfl
  refine pure_ (i := 14) (N := some 31) (v := ?_) (a' := ?_) (bz 21 30599).toArray rfl rfl (by kernel_rfl) (fun _ _ _ h => h) (Or.inl ⟨by rfl, ?_⟩) ?_ ?_
  rotate_left
  · intro w'
    go_simp
    with_reducible rfl
  rotate_left
  · simp only [Act.put, sqA, sqZ, sqS, i64_w, i32_w]
    rfl
  refine pure_ (i := 15) (N := some 32) (v := ?_) (a' := ?_) (bz 21 63367).toArray rfl rfl (by kernel_rfl) (fun _ _ _ h => h) (Or.inl ⟨by rfl, ?_⟩) ?_ ?_
  rotate_left
  · intro w'
    go_simp
    with_reducible rfl
  rotate_left
  · simp only [Act.put, sqA, sqZ, sqS, i64_w, i32_w]
    rfl
  refine take_ (i := 3) (N := some 20) (v := ?_) (a' := ?_) (bz 21 63375).toArray rfl rfl (by kernel_rfl) (fun _ _ _ h => h) (Or.inl ⟨by rfl, ?_⟩) hHeld ?_ ?_
  rotate_left
  · rintro w' ⟨s0, s1, s2, s3⟩
    go_simp
    with_reducible rfl
  rotate_left
  · simp only [Act.put, sqA, sqZ, sqS, i64_w, i32_w]
    rfl
  refine pure_ (i := 4) (N := some 21) (v := ?_) (a' := ?_) (bz 21 63391).toArray rfl rfl (by kernel_rfl) (fun _ _ _ h => h) (Or.inl ⟨by rfl, ?_⟩) ?_ ?_
  rotate_left
  · intro w'
    go_simp
    with_reducible rfl
  rotate_left
  · simp only [Act.put, sqA, sqZ, sqS, i64_w, i32_w]
    rfl
  refine pure_ (i := 5) (N := some 22) (v := ?_) (a' := ?_) (bz 21 63423).toArray rfl rfl (by kernel_rfl) (fun _ _ _ h => h) (Or.inl ⟨by rfl, ?_⟩) ?_ ?_
  rotate_left
  · intro w'
    go_simp
    with_reducible rfl
  rotate_left
  · simp only [Act.put, sqA, sqZ, sqS, i64_w, i32_w]
    rfl
  refine take_ (i := 6) (N := some 23) (v := ?_) (a' := ?_) (bz 21 63487).toArray rfl rfl (by kernel_rfl) (fun _ _ _ h => h) (Or.inl ⟨by rfl, ?_⟩) hHeld ?_ ?_
  rotate_left
  · rintro w' ⟨s0, s1, s2, s3⟩
    go_simp
    with_reducible rfl
  rotate_left
  · simp only [Act.put, sqA, sqZ, sqS, i64_w, i32_w]
    rfl
  refine take_ (i := 11) (N := some 28) (v := ?_) (a' := ?_) (bz 21 65535).toArray rfl rfl (by kernel_rfl) (fun _ _ _ h => h) (Or.inl ⟨by rfl, ?_⟩) hHeld ?_ ?_
  rotate_left
  · rintro w' ⟨s0, s1, s2, s3⟩
    go_simp
    with_reducible rfl
  rotate_left
  · simp only [Act.put, sqA, sqZ, sqS, i64_w, i32_w]
    rfl
  refine take_ (i := 16) (N := some 33) (v := ?_) (a' := ?_) (bz 21 131071).toArray rfl rfl (by kernel_rfl) (fun _ _ _ h => h) (Or.inl ⟨by rfl, ?_⟩) hHeld ?_ ?_
  rotate_left
  · rintro w' ⟨s0, s1, s2, s3⟩
    go_simp
    with_reducible rfl
  rotate_left
  · simp only [Act.put, sqA, sqZ, sqS, i64_w, i32_w]
    rfl
  refine pure_ (i := 17) (N := some 34) (v := ?_) (a' := ?_) (bz 21 262143).toArray rfl rfl (by kernel_rfl) (fun _ _ _ h => h) (Or.inl ⟨by rfl, ?_⟩) ?_ ?_
  rotate_left
  · intro w'
    go_simp
    with_reducible rfl
  rotate_left
  · simp only [Act.put, sqA, sqZ, sqS, i64_w, i32_w]
    rfl
  refine one_ (i := 18) (N := some 10) (bz 21 524287).toArray rfl rfl (by kernel_rfl) (by decide) (fun K hK => ?_)
  refine value_ (w1 := ?_) (v := ?_) (by rfl) rfl ?_ ?_
  rotate_left 2
  · go_simp
    constructor
    · rfl
    · rfl
  have R4 := Lib.hid (R3.out.alloc (.cells #[.int .i64 0, .int .i64 0] 43))
  have K4 := Lib.hid (R3.out.alloc_ka (.cells #[.int .i64 0, .int .i64 0] 43) i)
  have HQ0 := Lib.hid (R3.out.alloc_fx (b := w.heap.size + 1 + 1) (by simp) #[.int .i64 0, .int .i64 0] 43)
  refine hK.out _ _ ⟨(R4.out.is.thx hp), (R4.out.is.xa), (R4.out.is.thc hp (k := 3) (fun _ _ => rfl)), (R4.out.is.thc hp (k := 5) (fun _ _ => rfl))⟩ (fun hHeld => ?_)
  clear hK K
  refine norm_ (a' := ?_) ?_ ?_
  rotate_left
  · show Act.put _ (some 10) _ = _
    simp only [Act.put, sqA, sqZ, sqS, i64_w, i32_w]
    rfl
  refine pure_ (i := 19) (N := some 9) (v := ?_) (a' := ?_) (bz 21 1048575).toArray rfl rfl (by kernel_rfl) (fun _ _ _ h => h) (Or.inl ⟨by rfl, ?_⟩) ?_ ?_
  rotate_left
  · intro w'
    go_simp
    with_reducible rfl
  rotate_left
  · simp only [Act.put, sqA, sqZ, sqS, i64_w, i32_w]
    rfl
  refine last_ (i := 20) (N := none) (bz 21 2097151).toArray rfl rfl (by kernel_rfl) (by decide) (fun K hK => ?_)
  refine skip_ (w1 := ?_) (by rfl) rfl ?_ ?_
  rotate_left
  · go_simp
    rfl
  refine hK.out _ _ ?_
  clear hK K
  refine done_ (by kernel_rfl) ?_
  clear hHeld
  have R3 := Lib.hid (R2.out.alloc (.cells #[.int .i64 (S.th i).op.key, .int .i64 (S.th i).op.val] 43))
  have K3 := Lib.hid (R2.out.alloc_ka (.cells #[.int .i64 (S.th i).op.key, .int .i64 (S.th i).op.val] 43) i)
  have HQ := Lib.hid (R2.out.alloc_fx (b := w.heap.size + 1 + 1) (by simp) #[.int .i64 (S.th i).op.key, .int .i64 (S.th i).op.val] 43)
  have R4 := Lib.hid R3.out.drew
  have K4 := Lib.hid (R3.out.drew_ka i)
  have ct2 : (((w.alloc (.cells #[.int .i64 b.id, .int .i64 b.kind, .int .i64 b.treap, .int .i64 b.stat, .int .i64 b.home] 120)).alloc (.cells #[.int .i64 0, .bool false, .int .i64 0, .int .i64 0, .int .i64 0, .slice none 0 0] 45)).alloc (.cells #[.int .i64 (S.th i).op.key, .int .i64 (S.th i).op.val] 43)).drew.cell? ⟨p, 2, none⟩ = some (.int .i64 1) := by have h2 := R4.out.is.thc hp (k := 2) (fun _ _ => rfl); rw [HKD.out] at h2; exact h2
  have cb0_2 := cell_blk (i := 2) ((((Run.box_bx (b := w.heap.size) rfl _ _).keep K2.out.k).keep K3.out.k).keep K4.out.k).2 rfl
  have cq_0 := cell_blk (i := 0) ((HQ.out).keep K4.out.f).2 rfl
  have cq_1 := cell_blk (i := 1) ((HQ.out).keep K4.out.f).2 rfl
  have cc := putO_any R4.out.is.arena b.treap (S.th i).op.key (S.th i).op.val
  rw [show putO (some S.a) b.treap (S.th i).op.key (S.th i).op.val = S.treapOf i b.treap by unfold Ix.treapOf; rw [if_pos HKD.out]] at cc
  have hMD := HMD.out
  clear HMD
  unfold Ix.made at hMD
  generalize S.treapOf i b.treap = TR at cc hMD
  obtain ⟨nt, nv, nok, ne, NA⟩ := TR
  simp only [] at cc hMD
  have CC := Lib.hid cc
  have HM := Lib.hid hMD
  clear cc hMD
  go_wp2_with fail
  refine (CC.out).mono ?_
  rintro e w5 ⟨rfl, m5⟩
  clear ct2 cb0_2 cq_0 cq_1
  obtain ⟨o5, r5, k5⟩ := R4.out.madeO m5 i
  have R5 := Lib.hid r5
  have K5 := Lib.hid k5
  clear m5 r5 k5
  clear CC
  by_cases h0 : ne ≠ 0
  · have hq := HM.out
    rw [if_pos h0] at hq
    subst hq
    have q0 : (ne == 0) = false := beq_eq_false_iff_ne.2 h0
    have q1 : (ne != 0) = true := by rw [bne, q0]; rfl
    clear h0 HM
    have cz_0 := cell_blk (i := 0) ((((HZ.out).keep K3.out.f).keep K4.out.f).keep K5.out.f).2 rfl
    have cz_1 := cell_blk (i := 1) ((((HZ.out).keep K3.out.f).keep K4.out.f).keep K5.out.f).2 rfl
    have cz_2 := cell_blk (i := 2) ((((HZ.out).keep K3.out.f).keep K4.out.f).keep K5.out.f).2 rfl
    have cz_3 := cell_blk (i := 3) ((((HZ.out).keep K3.out.f).keep K4.out.f).keep K5.out.f).2 rfl
    have cz_4 := cell_blk (i := 4) ((((HZ.out).keep K3.out.f).keep K4.out.f).keep K5.out.f).2 rfl
    have cz_5 := cell_blk (i := 5) ((((HZ.out).keep K3.out.f).keep K4.out.f).keep K5.out.f).2 rfl
    have fz_0 := free_blk (i := 0) ((((HZ.out).keep K3.out.f).keep K4.out.f).keep K5.out.f).2
    have fz_1 := free_blk (i := 1) ((((HZ.out).keep K3.out.f).keep K4.out.f).keep K5.out.f).2
    have fz_2 := free_blk (i := 2) ((((HZ.out).keep K3.out.f).keep K4.out.f).keep K5.out.f).2
    have fz_3 := free_blk (i := 3) ((((HZ.out).keep K3.out.f).keep K4.out.f).keep K5.out.f).2
    have fz_4 := free_blk (i := 4) ((((HZ.out).keep K3.out.f).keep K4.out.f).keep K5.out.f).2
    have fz_5 := free_blk (i := 5) ((((HZ.out).keep K3.out.f).keep K4.out.f).keep K5.out.f).2
    have hlz := ((((HZ.out).keep K3.out.f).keep K4.out.f).keep K5.out.f).lt
    go_wp2_with fail
    refine bodyPost_ret (v := .tuple #[.int .i64 0, .agg #[.int .i64 0, .bool false, .int .i64 0, .int .i64 0, .int .i64 0, .slice none 0 0], .int .i64 ne]) (by simp [results, Tryz.results78, go_sem, hlz, cz_0, cz_1, cz_2, cz_3, cz_4, cz_5]) rfl ⟨rfl, ?_⟩
    exact ⟨_, R5.out.set6 ((((HZ.out).keep K3.out.f).keep K4.out.f).keep K5.out.f).1 (by omega) (by omega) _ _ _ _ _ _, (((((K1.out).trans K2.out).trans K3.out).trans K4.out).trans K5.out).set6 ((((HZ.out).keep K3.out.f).keep K4.out.f).keep K5.out.f).1 (by omega) _ _ _ _ _ _⟩
  · by_cases hl : (S.th i).late = true
    · have hq := HM.out
      rw [if_neg h0, if_pos hl] at hq
      clear HM
      have ct7 : w5.cell? ⟨p, 7, none⟩ = some (.bool true) := by have h2 := R5.out.is.thc hp (k := 7) (fun _ _ => rfl); rw [show ((S.ofA NA).th i).late = true by show (S.th i).late = _; exact hl] at h2; exact h2
      have q0 : (ne == 0) = true := beq_iff_eq.2 (by simpa using h0)
      have q1 : (ne != 0) = false := by rw [bne, q0]; rfl
      obtain ⟨NT, hNT⟩ : ∃ x, x = nextS S.p pressed 1 := ⟨_, rfl⟩
      rw [← hNT] at hq
      have HNT := Lib.hid hNT
      have HEQ := Lib.hid hq
      clear hq hNT h0 hl
      go_wp2_with fail
      have R6 := Lib.hid R5.out.drew
      have K6 := Lib.hid (R5.out.drew_ka i)
      clear ct7
      refine start_ (n := 21) (S := fun w' => w'.cell? ⟨p, 0, none⟩ = some (pt_ P.px) ∧ w'.cell? ⟨P.px, 1, none⟩ = some (.int .i64 S.p.high) ∧ w'.cell? ⟨P.px, 2, none⟩ = some (.int .i64 S.p.low) ∧ w'.cell? ⟨P.px, 3, none⟩ = some (.int .i64 S.p.cont) ∧ w'.cell? ⟨P.px, 4, none⟩ = some (.int .i64 S.p.uncont) ∧ w'.cell? ⟨P.px, 5, none⟩ = some (.int .i64 S.p.multi) ∧ w'.cell? ⟨w.heap.size, 4, none⟩ = some (.int .i64 b.home)) (ds := [15]) (bz 21 0).toArray (by kernel_rfl) rfl rfl ⟨(R6.out.is.thx hp), (R6.out.is.ixc (k := 1) (fun _ _ => rfl)), (R6.out.is.ixc (k := 2) (fun _ _ => rfl)), (R6.out.is.ixc (k := 3) (fun _ _ => rfl)), (R6.out.is.ixc (k := 4) (fun _ _ => rfl)), (R6.out.is.ixc (k := 5) (fun _ _ => rfl)), (cell_blk (i := 4) ((((((Run.box_bx (b := w.heap.size) rfl _ _).keep K2.out.k).keep K3.out.k).keep K4.out.k).keep K5.out.k).keep K6.out.k).2 rfl)⟩ (fun hHeld => ?_)
      refine pure_ (i := 0) (N := some 84) (v := ?_) (a' := ?_) (bz 21 1).toArray rfl rfl (by kernel_rfl) (fun _ _ _ h => h) (Or.inl ⟨by rfl, ?_⟩) ?_ ?_
      rotate_left
      · intro w'
        go_simp
        with_reducible rfl
      rotate_left
      · simp only [Act.put, sqA, sqZ, sqS, i64_w, i32_w]
        rfl
      refine pure_ (i := 1) (N := some 85) (v := ?_) (a' := ?_) (bz 21 3).toArray rfl rfl (by kernel_rfl) (fun _ _ _ h => h) (Or.inl ⟨by rfl, ?_⟩) ?_ ?_
      rotate_left
      · intro w'
        go_simp
        with_reducible rfl
      rotate_left
      · simp only [Act.put, sqA, sqZ, sqS, i64_w, i32_w]
        rfl
      refine pure_ (i := 2) (N := some 86) (v := ?_) (a' := ?_) (bz 21 7).toArray rfl rfl (by kernel_rfl) (fun _ _ _ h => h) (Or.inl ⟨by rfl, ?_⟩) ?_ ?_
      rotate_left
      · intro w'
        go_simp
        with_reducible rfl
      rotate_left
      · simp only [Act.put, sqA, sqZ, sqS, i64_w, i32_w]
        rfl
      refine pure_ (i := 3) (N := some 87) (v := ?_) (a' := ?_) (bz 21 15).toArray rfl rfl (by kernel_rfl) (fun _ _ _ h => h) (Or.inl ⟨by rfl, ?_⟩) ?_ ?_
      rotate_left
      · intro w'
        go_simp
        with_reducible rfl
      rotate_left
      · simp only [Act.put, sqA, sqZ, sqS, i64_w, i32_w]
        rfl
      refine pure_ (i := 4) (N := some 88) (v := ?_) (a' := ?_) (bz 21 31).toArray rfl rfl (by kernel_rfl) (fun _ _ _ h => h) (Or.inl ⟨by rfl, ?_⟩) ?_ ?_
      rotate_left
      · intro w'
        go_simp
        with_reducible rfl
      rotate_left
      · simp only [Act.put, sqA, sqZ, sqS, i64_w, i32_w]
        rfl
      refine pure_ (i := 9) (N := some 93) (v := ?_) (a' := ?_) (bz 21 543).toArray rfl rfl (by kernel_rfl) (fun _ _ _ h => h) (Or.inl ⟨by rfl, ?_⟩) ?_ ?_
      rotate_left
      · intro w'
        go_simp
        with_reducible rfl
      rotate_left
      · simp only [Act.put, sqA, sqZ, sqS, i64_w, i32_w]
        rfl
      refine pure_ (i := 10) (N := some 94) (v := ?_) (a' := ?_) (bz 21 1567).toArray rfl rfl (by kernel_rfl) (fun _ _ _ h => h) (Or.inl ⟨by rfl, ?_⟩) ?_ ?_
      rotate_left
      · intro w'
        go_simp
        with_reducible rfl
      rotate_left
      · simp only [Act.put, sqA, sqZ, sqS, i64_w, i32_w]
        rfl
      refine pure_ (i := 12) (N := some 96) (v := ?_) (a' := ?_) (bz 21 5663).toArray rfl rfl (by kernel_rfl) (fun _ _ _ h => h) (Or.inl ⟨by rfl, ?_⟩) ?_ ?_
      rotate_left
      · intro w'
        go_simp
        with_reducible rfl
      rotate_left
      · simp only [Act.put, sqA, sqZ, sqS, i64_w, i32_w]
        rfl
      refine take_ (i := 5) (N := some 89) (v := ?_) (a' := ?_) (bz 21 5695).toArray rfl rfl (by kernel_rfl) (fun _ _ _ h => h) (Or.inl ⟨by rfl, ?_⟩) hHeld ?_ ?_
      rotate_left
      · rintro w' ⟨s0, s1, s2, s3, s4, s5, s6⟩
        go_simp
        with_reducible rfl
      rotate_left
      · simp only [Act.put, sqA, sqZ, sqS, i64_w, i32_w]
        rfl
      refine pure_ (i := 6) (N := some 90) (v := ?_) (a' := ?_) (bz 21 5759).toArray rfl rfl (by kernel_rfl) (fun _ _ _ h => h) (Or.inl ⟨by rfl, ?_⟩) ?_ ?_
      rotate_left
      · intro w'
        go_simp
        with_reducible rfl
      rotate_left
      · simp only [Act.put, sqA, sqZ, sqS, i64_w, i32_w]
        rfl
      refine pure_ (i := 7) (N := some 91) (v := ?_) (a' := ?_) (bz 21 5887).toArray rfl rfl (by kernel_rfl) (fun _ _ _ h => h) (Or.inl ⟨by rfl, ?_⟩) ?_ ?_
      rotate_left
      · intro w'
        go_simp
        with_reducible rfl
      rotate_left
      · simp only [Act.put, sqA, sqZ, sqS, i64_w, i32_w]
        rfl
      refine take_ (i := 8) (N := some 92) (v := ?_) (a' := ?_) (bz 21 6143).toArray rfl rfl (by kernel_rfl) (fun _ _ _ h => h) (Or.inl ⟨by rfl, ?_⟩) hHeld ?_ ?_
      rotate_left
      · rintro w' ⟨s0, s1, s2, s3, s4, s5, s6⟩
        go_simp
        with_reducible rfl
      rotate_left
      · simp only [Act.put, sqA, sqZ, sqS, i64_w, i32_w]
        rfl
      refine take_ (i := 13) (N := some 97) (v := ?_) (a' := ?_) (bz 21 14335).toArray rfl rfl (by kernel_rfl) (fun _ _ _ h => h) (Or.inl ⟨by rfl, ?_⟩) hHeld ?_ ?_
      rotate_left
      · rintro w' ⟨s0, s1, s2, s3, s4, s5, s6⟩
        go_simp
        with_reducible rfl
      rotate_left
      · simp only [Act.put, sqA, sqZ, sqS, i64_w, i32_w]
        rfl
      refine one_ (i := 11) (N := some 95) (bz 21 16383).toArray rfl rfl (by kernel_rfl) (by decide) (fun K hK => ?_)
      refine goes_ Tryz.func130 (by kernel_rfl) rfl #[.agg #[.int .i64 S.p.high, .int .i64 S.p.low, .int .i64 S.p.cont, .int .i64 S.p.uncont, .int .i64 S.p.multi], .int .i64 pressed, .int .i64 1] (by rfl) rfl rfl (by simp only [List.map_toArray, List.map_cons, List.map_nil]; rfl) ?_
      with_reducible refine (xnext1 S.p pressed _).mono ?_
      rintro e w7 ⟨rfl, x7⟩
      have b7 := x7
      clear x7
      have R7 := Lib.hid (R6.out.later b7)
      have K7 := Lib.hid (R6.out.below_ka b7 i)
      clear b7
      rw [← HNT.out]
      refine ⟨_, rfl, ?_⟩
      refine hK.out _ _ ⟨(R7.out.is.thx hp), (R7.out.is.ixc (k := 1) (fun _ _ => rfl)), (R7.out.is.ixc (k := 2) (fun _ _ => rfl)), (R7.out.is.ixc (k := 3) (fun _ _ => rfl)), (R7.out.is.ixc (k := 4) (fun _ _ => rfl)), (R7.out.is.ixc (k := 5) (fun _ _ => rfl)), (cell_blk (i := 4) (((((((Run.box_bx (b := w.heap.size) rfl _ _).keep K2.out.k).keep K3.out.k).keep K4.out.k).keep K5.out.k).keep K6.out.k).keep K7.out.k).2 rfl)⟩ (fun hHeld => ?_)
      clear hK K
      refine norm_ (a' := ?_) ?_ ?_
      rotate_left
      · show Act.put _ (some 95) _ = _
        simp only [Act.put, sqA, sqZ, sqS, i64_w, i32_w]
        rfl
      refine one_ (i := 14) (N := some 98) (bz 21 32767).toArray rfl rfl (by kernel_rfl) (by decide) (fun K hK => ?_)
      refine value_ (w1 := ?_) (v := ?_) (by rfl) rfl ?_ ?_
      rotate_left 2
      · go_simp
        constructor
        · rfl
        · rfl
      have HI := Lib.hid (ints_new w7 (w7.heap.size) #[.int .i64 nt, .int .i64 NT, .int .i64 b.home] (l := [nt, NT, b.home]) rfl rfl)
      have R8 := Lib.hid (R7.out.alloc (.cells #[.int .i64 nt, .int .i64 NT, .int .i64 b.home] 3))
      have K8 := Lib.hid (R7.out.alloc_ka (.cells #[.int .i64 nt, .int .i64 NT, .int .i64 b.home] 3) i)
      have HSL := Lib.hid (R7.out.alloc_fx (b := w7.heap.size) rfl #[.int .i64 nt, .int .i64 NT, .int .i64 b.home] 3)
      refine hK.out _ _ ⟨(R8.out.is.thx hp), (R8.out.is.ixc (k := 1) (fun _ _ => rfl)), (R8.out.is.ixc (k := 2) (fun _ _ => rfl)), (R8.out.is.ixc (k := 3) (fun _ _ => rfl)), (R8.out.is.ixc (k := 4) (fun _ _ => rfl)), (R8.out.is.ixc (k := 5) (fun _ _ => rfl)), (cell_blk (i := 4) ((((((((Run.box_bx (b := w.heap.size) rfl _ _).keep K2.out.k).keep K3.out.k).keep K4.out.k).keep K5.out.k).keep K6.out.k).keep K7.out.k).keep K8.out.k).2 rfl)⟩ (fun hHeld => ?_)
      clear hK K
      refine norm_ (a' := ?_) ?_ ?_
      rotate_left
      · show Act.put _ (some 98) _ = _
        simp only [Act.put, sqA, sqZ, sqS, i64_w, i32_w]
        rfl
      refine last_ (i := 15) (N := some 99) (bz 21 65535).toArray rfl rfl (by kernel_rfl) (by decide) (fun K hK => ?_)
      have cm := make_any R8.out.is.arena 3 HI.out
      rw [show [nt, NT, b.home].length = 3 from rfl] at cm
      have hq := HEQ.out
      generalize makeO (some (S.ofA NA).a) 3 [nt, NT, b.home] = MK at cm hq
      obtain ⟨mi, me, MA⟩ := MK
      simp only [] at cm hq
      have CM := Lib.hid cm
      have HEQ2 := Lib.hid hq
      clear cm hq
      refine goes_ Tryz.func69 (by kernel_rfl) rfl #[pt_ P.pa, .int .i64 3, .slice (some ⟨w7.heap.size, 0, none⟩) 3 3] (by rfl) rfl rfl (by simp only [List.map_toArray, List.map_cons, List.map_nil]; rfl) ?_
      with_reducible refine (CM.out).mono ?_
      rintro e w9 ⟨rfl, x9⟩
      have m9 := x9
      clear x9
      obtain ⟨o9, r9, k9⟩ := R8.out.madeO m9 i
      have R9 := Lib.hid r9
      have K9 := Lib.hid k9
      clear m9 r9 k9
      refine ⟨_, rfl, ?_⟩
      refine hK.out _ _ ?_
      clear hK K
      refine norm_ (a' := ?_) ?_ ?_
      rotate_left
      · show Act.put _ (some 99) _ = _
        simp only [Act.put, sqA, sqZ, sqS, i64_w, i32_w]
        rfl
      refine pure_ (i := 16) (N := some 83) (v := ?_) (a' := ?_) (bz 21 131071).toArray rfl rfl (by kernel_rfl) (fun _ _ _ h => h) (Or.inl ⟨by rfl, ?_⟩) ?_ ?_
      rotate_left
      · intro w'
        go_simp
        with_reducible rfl
      rotate_left
      · simp only [Act.put, sqA, sqZ, sqS, i64_w, i32_w]
        rfl
      refine pure_ (i := 17) (N := some 100) (v := ?_) (a' := ?_) (bz 21 262143).toArray rfl rfl (by kernel_rfl) (fun _ _ _ h => h) (Or.inl ⟨by rfl, ?_⟩) ?_ ?_
      rotate_left
      · intro w'
        go_simp
        with_reducible rfl
      rotate_left
      · simp only [Act.put, sqA, sqZ, sqS, i64_w, i32_w]
        rfl
      refine pure_ (i := 18) (N := some 101) (v := ?_) (a' := ?_) (bz 21 524287).toArray rfl rfl (by kernel_rfl) (fun _ _ _ h => h) (Or.inl ⟨by rfl, ?_⟩) ?_ ?_
      rotate_left
      · intro w'
        go_simp
        with_reducible rfl
      rotate_left
      · simp only [Act.put, sqA, sqZ, sqS, i64_w, i32_w]
        rfl
      refine pure_ (i := 19) (N := some 16) (v := ?_) (a' := ?_) (bz 21 1048575).toArray rfl rfl (by kernel_rfl) (fun _ _ _ h => h) (Or.inl ⟨by rfl, ?_⟩) ?_ ?_
      rotate_left
      · intro w'
        go_simp
        with_reducible rfl
      rotate_left
      · simp only [Act.put, sqA, sqZ, sqS, i64_w, i32_w]
        rfl
      refine pure_ (i := 20) (N := some 14) (v := ?_) (a' := ?_) (bz 21 2097151).toArray rfl rfl (by kernel_rfl) (fun _ _ _ h => h) (Or.inl ⟨by rfl, ?_⟩) ?_ ?_
      rotate_left
      · intro w'
        go_simp
        with_reducible rfl
      rotate_left
      · simp only [Act.put, sqA, sqZ, sqS, i64_w, i32_w]
        rfl
      refine done_ (by kernel_rfl) ?_
      have cq_0 := cell_blk (i := 0) (((((((HQ.out).keep K4.out.f).keep K5.out.f).keep K6.out.f).keep K7.out.f).keep K8.out.f).keep K9.out.f).2 rfl
      go_wp2_with fail
      refine (xhad_any (S.th i).op.key nv nok _).mono ?_
      rintro e w10 ⟨rfl, b10⟩
      clear cq_0
      have R10 := Lib.hid (R9.out.later b10)
      have K10 := Lib.hid (R9.out.below_ka b10 i)
      clear b10
      have cz_0 := cell_blk (i := 0) (((((((((HZ.out).keep K3.out.f).keep K4.out.f).keep K5.out.f).keep K6.out.f).keep K7.out.f).keep K8.out.f).keep K9.out.f).keep K10.out.f).2 rfl
      have cz_1 := cell_blk (i := 1) (((((((((HZ.out).keep K3.out.f).keep K4.out.f).keep K5.out.f).keep K6.out.f).keep K7.out.f).keep K8.out.f).keep K9.out.f).keep K10.out.f).2 rfl
      have cz_2 := cell_blk (i := 2) (((((((((HZ.out).keep K3.out.f).keep K4.out.f).keep K5.out.f).keep K6.out.f).keep K7.out.f).keep K8.out.f).keep K9.out.f).keep K10.out.f).2 rfl
      have cz_3 := cell_blk (i := 3) (((((((((HZ.out).keep K3.out.f).keep K4.out.f).keep K5.out.f).keep K6.out.f).keep K7.out.f).keep K8.out.f).keep K9.out.f).keep K10.out.f).2 rfl
      have cz_4 := cell_blk (i := 4) (((((((((HZ.out).keep K3.out.f).keep K4.out.f).keep K5.out.f).keep K6.out.f).keep K7.out.f).keep K8.out.f).keep K9.out.f).keep K10.out.f).2 rfl
      have cz_5 := cell_blk (i := 5) (((((((((HZ.out).keep K3.out.f).keep K4.out.f).keep K5.out.f).keep K6.out.f).keep K7.out.f).keep K8.out.f).keep K9.out.f).keep K10.out.f).2 rfl
      have fz_0 := free_blk (i := 0) (((((((((HZ.out).keep K3.out.f).keep K4.out.f).keep K5.out.f).keep K6.out.f).keep K7.out.f).keep K8.out.f).keep K9.out.f).keep K10.out.f).2
      have fz_1 := free_blk (i := 1) (((((((((HZ.out).keep K3.out.f).keep K4.out.f).keep K5.out.f).keep K6.out.f).keep K7.out.f).keep K8.out.f).keep K9.out.f).keep K10.out.f).2
      have fz_2 := free_blk (i := 2) (((((((((HZ.out).keep K3.out.f).keep K4.out.f).keep K5.out.f).keep K6.out.f).keep K7.out.f).keep K8.out.f).keep K9.out.f).keep K10.out.f).2
      have fz_3 := free_blk (i := 3) (((((((((HZ.out).keep K3.out.f).keep K4.out.f).keep K5.out.f).keep K6.out.f).keep K7.out.f).keep K8.out.f).keep K9.out.f).keep K10.out.f).2
      have fz_4 := free_blk (i := 4) (((((((((HZ.out).keep K3.out.f).keep K4.out.f).keep K5.out.f).keep K6.out.f).keep K7.out.f).keep K8.out.f).keep K9.out.f).keep K10.out.f).2
      have fz_5 := free_blk (i := 5) (((((((((HZ.out).keep K3.out.f).keep K4.out.f).keep K5.out.f).keep K6.out.f).keep K7.out.f).keep K8.out.f).keep K9.out.f).keep K10.out.f).2
      have hlz := (((((((((HZ.out).keep K3.out.f).keep K4.out.f).keep K5.out.f).keep K6.out.f).keep K7.out.f).keep K8.out.f).keep K9.out.f).keep K10.out.f).lt
      go_wp2_with fail
      have hq := HEQ2.out
      subst hq
      refine bodyPost_ret (v := .tuple #[.int .i64 mi, .agg #[.int .i64 (had (S.th i).op.key nv nok).err, .bool (had (S.th i).op.key nv nok).ok, .int .i64 (had (S.th i).op.key nv nok).key, .int .i64 (had (S.th i).op.key nv nok).val, .int .i64 (had (S.th i).op.key nv nok).n, .slice none 0 0], .int .i64 me]) (by simp [results, Tryz.results78, go_sem, hlz, cz_0, cz_1, cz_2, cz_3, cz_4, cz_5]) rfl ⟨rfl, ?_⟩
      exact ⟨_, R10.out.set6 (((((((((HZ.out).keep K3.out.f).keep K4.out.f).keep K5.out.f).keep K6.out.f).keep K7.out.f).keep K8.out.f).keep K9.out.f).keep K10.out.f).1 (by omega) (by omega) _ _ _ _ _ _, ((((((((((K1.out).trans K2.out).trans K3.out).trans K4.out).trans K5.out).trans K6.out).trans K7.out).trans K8.out).trans K9.out).trans K10.out).set6 (((((((((HZ.out).keep K3.out.f).keep K4.out.f).keep K5.out.f).keep K6.out.f).keep K7.out.f).keep K8.out.f).keep K9.out.f).keep K10.out.f).1 (by omega) _ _ _ _ _ _⟩
    · have hq := HM.out
      rw [if_neg h0, if_neg hl] at hq
      clear HM
      have ct7 : w5.cell? ⟨p, 7, none⟩ = some (.bool false) := by have h2 := R5.out.is.thc hp (k := 7) (fun _ _ => rfl); rw [show ((S.ofA NA).th i).late = false by show (S.th i).late = _; simpa using hl] at h2; exact h2
      have q0 : (ne == 0) = true := beq_iff_eq.2 (by simpa using h0)
      have q1 : (ne != 0) = false := by rw [bne, q0]; rfl
      obtain ⟨NT, hNT⟩ : ∃ x, x = nextS S.p pressed 2 := ⟨_, rfl⟩
      rw [← hNT] at hq
      have HNT := Lib.hid hNT
      have HEQ := Lib.hid hq
      clear hq hNT h0 hl
      go_wp2_with fail
      have R6 := Lib.hid R5.out.drew
      have K6 := Lib.hid (R5.out.drew_ka i)
      clear ct7
      refine start_ (n := 21) (S := fun w' => w'.cell? ⟨p, 0, none⟩ = some (pt_ P.px) ∧ w'.cell? ⟨P.px, 1, none⟩ = some (.int .i64 S.p.high) ∧ w'.cell? ⟨P.px, 2, none⟩ = some (.int .i64 S.p.low) ∧ w'.cell? ⟨P.px, 3, none⟩ = some (.int .i64 S.p.cont) ∧ w'.cell? ⟨P.px, 4, none⟩ = some (.int .i64 S.p.uncont) ∧ w'.cell? ⟨P.px, 5, none⟩ = some (.int .i64 S.p.multi) ∧ w'.cell? ⟨w.heap.size, 4, none⟩ = some (.int .i64 b.home)) (ds := [15]) (bz 21 0).toArray (by kernel_rfl) rfl rfl ⟨(R6.out.is.thx hp), (R6.out.is.ixc (k := 1) (fun _ _ => rfl)), (R6.out.is.ixc (k := 2) (fun _ _ => rfl)), (R6.out.is.ixc (k := 3) (fun _ _ => rfl)), (R6.out.is.ixc (k := 4) (fun _ _ => rfl)), (R6.out.is.ixc (k := 5) (fun _ _ => rfl)), (cell_blk (i := 4) ((((((Run.box_bx (b := w.heap.size) rfl _ _).keep K2.out.k).keep K3.out.k).keep K4.out.k).keep K5.out.k).keep K6.out.k).2 rfl)⟩ (fun hHeld => ?_)
      refine pure_ (i := 0) (N := some 84) (v := ?_) (a' := ?_) (bz 21 1).toArray rfl rfl (by kernel_rfl) (fun _ _ _ h => h) (Or.inl ⟨by rfl, ?_⟩) ?_ ?_
      rotate_left
      · intro w'
        go_simp
        with_reducible rfl
      rotate_left
      · simp only [Act.put, sqA, sqZ, sqS, i64_w, i32_w]
        rfl
      refine pure_ (i := 1) (N := some 85) (v := ?_) (a' := ?_) (bz 21 3).toArray rfl rfl (by kernel_rfl) (fun _ _ _ h => h) (Or.inl ⟨by rfl, ?_⟩) ?_ ?_
      rotate_left
      · intro w'
        go_simp
        with_reducible rfl
      rotate_left
      · simp only [Act.put, sqA, sqZ, sqS, i64_w, i32_w]
        rfl
      refine pure_ (i := 2) (N := some 86) (v := ?_) (a' := ?_) (bz 21 7).toArray rfl rfl (by kernel_rfl) (fun _ _ _ h => h) (Or.inl ⟨by rfl, ?_⟩) ?_ ?_
      rotate_left
      · intro w'
        go_simp
        with_reducible rfl
      rotate_left
      · simp only [Act.put, sqA, sqZ, sqS, i64_w, i32_w]
        rfl
      refine pure_ (i := 3) (N := some 87) (v := ?_) (a' := ?_) (bz 21 15).toArray rfl rfl (by kernel_rfl) (fun _ _ _ h => h) (Or.inl ⟨by rfl, ?_⟩) ?_ ?_
      rotate_left
      · intro w'
        go_simp
        with_reducible rfl
      rotate_left
      · simp only [Act.put, sqA, sqZ, sqS, i64_w, i32_w]
        rfl
      refine pure_ (i := 4) (N := some 88) (v := ?_) (a' := ?_) (bz 21 31).toArray rfl rfl (by kernel_rfl) (fun _ _ _ h => h) (Or.inl ⟨by rfl, ?_⟩) ?_ ?_
      rotate_left
      · intro w'
        go_simp
        with_reducible rfl
      rotate_left
      · simp only [Act.put, sqA, sqZ, sqS, i64_w, i32_w]
        rfl
      refine pure_ (i := 9) (N := some 93) (v := ?_) (a' := ?_) (bz 21 543).toArray rfl rfl (by kernel_rfl) (fun _ _ _ h => h) (Or.inl ⟨by rfl, ?_⟩) ?_ ?_
      rotate_left
      · intro w'
        go_simp
        with_reducible rfl
      rotate_left
      · simp only [Act.put, sqA, sqZ, sqS, i64_w, i32_w]
        rfl
      refine pure_ (i := 10) (N := some 94) (v := ?_) (a' := ?_) (bz 21 1567).toArray rfl rfl (by kernel_rfl) (fun _ _ _ h => h) (Or.inl ⟨by rfl, ?_⟩) ?_ ?_
      rotate_left
      · intro w'
        go_simp
        with_reducible rfl
      rotate_left
      · simp only [Act.put, sqA, sqZ, sqS, i64_w, i32_w]
        rfl
      refine pure_ (i := 12) (N := some 96) (v := ?_) (a' := ?_) (bz 21 5663).toArray rfl rfl (by kernel_rfl) (fun _ _ _ h => h) (Or.inl ⟨by rfl, ?_⟩) ?_ ?_
      rotate_left
      · intro w'
        go_simp
        with_reducible rfl
      rotate_left
      · simp only [Act.put, sqA, sqZ, sqS, i64_w, i32_w]
        rfl
      refine take_ (i := 5) (N := some 89) (v := ?_) (a' := ?_) (bz 21 5695).toArray rfl rfl (by kernel_rfl) (fun _ _ _ h => h) (Or.inl ⟨by rfl, ?_⟩) hHeld ?_ ?_
      rotate_left
      · rintro w' ⟨s0, s1, s2, s3, s4, s5, s6⟩
        go_simp
        with_reducible rfl
      rotate_left
      · simp only [Act.put, sqA, sqZ, sqS, i64_w, i32_w]
        rfl
      refine pure_ (i := 6) (N := some 90) (v := ?_) (a' := ?_) (bz 21 5759).toArray rfl rfl (by kernel_rfl) (fun _ _ _ h => h) (Or.inl ⟨by rfl, ?_⟩) ?_ ?_
      rotate_left
      · intro w'
        go_simp
        with_reducible rfl
      rotate_left
      · simp only [Act.put, sqA, sqZ, sqS, i64_w, i32_w]
        rfl
      refine pure_ (i := 7) (N := some 91) (v := ?_) (a' := ?_) (bz 21 5887).toArray rfl rfl (by kernel_rfl) (fun _ _ _ h => h) (Or.inl ⟨by rfl, ?_⟩) ?_ ?_
      rotate_left
      · intro w'
        go_simp
        with_reducible rfl
      rotate_left
      · simp only [Act.put, sqA, sqZ, sqS, i64_w, i32_w]
        rfl
      refine take_ (i := 8) (N := some 92) (v := ?_) (a' := ?_) (bz 21 6143).toArray rfl rfl (by kernel_rfl) (fun _ _ _ h => h) (Or.inl ⟨by rfl, ?_⟩) hHeld ?_ ?_
      rotate_left
      · rintro w' ⟨s0, s1, s2, s3, s4, s5, s6⟩
        go_simp
        with_reducible rfl
      rotate_left
      · simp only [Act.put, sqA, sqZ, sqS, i64_w, i32_w]
        rfl
      refine take_ (i := 13) (N := some 97) (v := ?_) (a' := ?_) (bz 21 14335).toArray rfl rfl (by kernel_rfl) (fun _ _ _ h => h) (Or.inl ⟨by rfl, ?_⟩) hHeld ?_ ?_
      rotate_left
      · rintro w' ⟨s0, s1, s2, s3, s4, s5, s6⟩
        go_simp
        with_reducible rfl
      rotate_left
      · simp only [Act.put, sqA, sqZ, sqS, i64_w, i32_w]
        rfl
      refine one_ (i := 11) (N := some 95) (bz 21 16383).toArray rfl rfl (by kernel_rfl) (by decide) (fun K hK => ?_)
      refine goes_ Tryz.func130 (by kernel_rfl) rfl #[.agg #[.int .i64 S.p.high, .int .i64 S.p.low, .int .i64 S.p.cont, .int .i64 S.p.uncont, .int .i64 S.p.multi], .int .i64 pressed, .int .i64 2] (by rfl) rfl rfl (by simp only [List.map_toArray, List.map_cons, List.map_nil]; rfl) ?_
      with_reducible refine (xnext2 S.p pressed _).mono ?_
      rintro e w7 ⟨rfl, x7⟩
      have b7 := x7
      clear x7
      have R7 := Lib.hid (R6.out.later b7)
      have K7 := Lib.hid (R6.out.below_ka b7 i)
      clear b7
      rw [← HNT.out]
      refine ⟨_, rfl, ?_⟩
      refine hK.out _ _ ⟨(R7.out.is.thx hp), (R7.out.is.ixc (k := 1) (fun _ _ => rfl)), (R7.out.is.ixc (k := 2) (fun _ _ => rfl)), (R7.out.is.ixc (k := 3) (fun _ _ => rfl)), (R7.out.is.ixc (k := 4) (fun _ _ => rfl)), (R7.out.is.ixc (k := 5) (fun _ _ => rfl)), (cell_blk (i := 4) (((((((Run.box_bx (b := w.heap.size) rfl _ _).keep K2.out.k).keep K3.out.k).keep K4.out.k).keep K5.out.k).keep K6.out.k).keep K7.out.k).2 rfl)⟩ (fun hHeld => ?_)
      clear hK K
      refine norm_ (a' := ?_) ?_ ?_
      rotate_left
      · show Act.put _ (some 95) _ = _
        simp only [Act.put, sqA, sqZ, sqS, i64_w, i32_w]
        rfl
      refine one_ (i := 14) (N := some 98) (bz 21 32767).toArray rfl rfl (by kernel_rfl) (by decide) (fun K hK => ?_)
      refine value_ (w1 := ?_) (v := ?_) (by rfl) rfl ?_ ?_
      rotate_left 2
      · go_simp
        constructor
        · rfl
        · rfl
      have HI := Lib.hid (ints_new w7 (w7.heap.size) #[.int .i64 nt, .int .i64 NT, .int .i64 b.home] (l := [nt, NT, b.home]) rfl rfl)
      have R8 := Lib.hid (R7.out.alloc (.cells #[.int .i64 nt, .int .i64 NT, .int .i64 b.home] 3))
      have K8 := Lib.hid (R7.out.alloc_ka (.cells #[.int .i64 nt, .int .i64 NT, .int .i64 b.home] 3) i)
      have HSL := Lib.hid (R7.out.alloc_fx (b := w7.heap.size) rfl #[.int .i64 nt, .int .i64 NT, .int .i64 b.home] 3)
      refine hK.out _ _ ⟨(R8.out.is.thx hp), (R8.out.is.ixc (k := 1) (fun _ _ => rfl)), (R8.out.is.ixc (k := 2) (fun _ _ => rfl)), (R8.out.is.ixc (k := 3) (fun _ _ => rfl)), (R8.out.is.ixc (k := 4) (fun _ _ => rfl)), (R8.out.is.ixc (k := 5) (fun _ _ => rfl)), (cell_blk (i := 4) ((((((((Run.box_bx (b := w.heap.size) rfl _ _).keep K2.out.k).keep K3.out.k).keep K4.out.k).keep K5.out.k).keep K6.out.k).keep K7.out.k).keep K8.out.k).2 rfl)⟩ (fun hHeld => ?_)
      clear hK K
      refine norm_ (a' := ?_) ?_ ?_
      rotate_left
      · show Act.put _ (some 98) _ = _
        simp only [Act.put, sqA, sqZ, sqS, i64_w, i32_w]
        rfl
      refine last_ (i := 15) (N := some 99) (bz 21 65535).toArray rfl rfl (by kernel_rfl) (by decide) (fun K hK => ?_)
      have cm := make_any R8.out.is.arena 3 HI.out
      rw [show [nt, NT, b.home].length = 3 from rfl] at cm
      have hq := HEQ.out
      generalize makeO (some (S.ofA NA).a) 3 [nt, NT, b.home] = MK at cm hq
      obtain ⟨mi, me, MA⟩ := MK
      simp only [] at cm hq
      have CM := Lib.hid cm
      have HEQ2 := Lib.hid hq
      clear cm hq
      refine goes_ Tryz.func69 (by kernel_rfl) rfl #[pt_ P.pa, .int .i64 3, .slice (some ⟨w7.heap.size, 0, none⟩) 3 3] (by rfl) rfl rfl (by simp only [List.map_toArray, List.map_cons, List.map_nil]; rfl) ?_
      with_reducible refine (CM.out).mono ?_
      rintro e w9 ⟨rfl, x9⟩
      have m9 := x9
      clear x9
      obtain ⟨o9, r9, k9⟩ := R8.out.madeO m9 i
      have R9 := Lib.hid r9
      have K9 := Lib.hid k9
      clear m9 r9 k9
      refine ⟨_, rfl, ?_⟩
      refine hK.out _ _ ?_
      clear hK K
      refine norm_ (a' := ?_) ?_ ?_
      rotate_left
      · show Act.put _ (some 99) _ = _
        simp only [Act.put, sqA, sqZ, sqS, i64_w, i32_w]
        rfl
      refine pure_ (i := 16) (N := some 83) (v := ?_) (a' := ?_) (bz 21 131071).toArray rfl rfl (by kernel_rfl) (fun _ _ _ h => h) (Or.inl ⟨by rfl, ?_⟩) ?_ ?_
      rotate_left
      · intro w'
        go_simp
        with_reducible rfl
      rotate_left
      · simp only [Act.put, sqA, sqZ, sqS, i64_w, i32_w]
        rfl
      refine pure_ (i := 17) (N := some 100) (v := ?_) (a' := ?_) (bz 21 262143).toArray rfl rfl (by kernel_rfl) (fun _ _ _ h => h) (Or.inl ⟨by rfl, ?_⟩) ?_ ?_
      rotate_left
      · intro w'
        go_simp
        with_reducible rfl
      rotate_left
      · simp only [Act.put, sqA, sqZ, sqS, i64_w, i32_w]
        rfl
      refine pure_ (i := 18) (N := some 101) (v := ?_) (a' := ?_) (bz 21 524287).toArray rfl rfl (by kernel_rfl) (fun _ _ _ h => h) (Or.inl ⟨by rfl, ?_⟩) ?_ ?_
      rotate_left
      · intro w'
        go_simp
        with_reducible rfl
      rotate_left
      · simp only [Act.put, sqA, sqZ, sqS, i64_w, i32_w]
        rfl
      refine pure_ (i := 19) (N := some 16) (v := ?_) (a' := ?_) (bz 21 1048575).toArray rfl rfl (by kernel_rfl) (fun _ _ _ h => h) (Or.inl ⟨by rfl, ?_⟩) ?_ ?_
      rotate_left
      · intro w'
        go_simp
        with_reducible rfl
      rotate_left
      · simp only [Act.put, sqA, sqZ, sqS, i64_w, i32_w]
        rfl
      refine pure_ (i := 20) (N := some 14) (v := ?_) (a' := ?_) (bz 21 2097151).toArray rfl rfl (by kernel_rfl) (fun _ _ _ h => h) (Or.inl ⟨by rfl, ?_⟩) ?_ ?_
      rotate_left
      · intro w'
        go_simp
        with_reducible rfl
      rotate_left
      · simp only [Act.put, sqA, sqZ, sqS, i64_w, i32_w]
        rfl
      refine done_ (by kernel_rfl) ?_
      have cq_0 := cell_blk (i := 0) (((((((HQ.out).keep K4.out.f).keep K5.out.f).keep K6.out.f).keep K7.out.f).keep K8.out.f).keep K9.out.f).2 rfl
      go_wp2_with fail
      refine (xhad_any (S.th i).op.key nv nok _).mono ?_
      rintro e w10 ⟨rfl, b10⟩
      clear cq_0
      have R10 := Lib.hid (R9.out.later b10)
      have K10 := Lib.hid (R9.out.below_ka b10 i)
      clear b10
      have cz_0 := cell_blk (i := 0) (((((((((HZ.out).keep K3.out.f).keep K4.out.f).keep K5.out.f).keep K6.out.f).keep K7.out.f).keep K8.out.f).keep K9.out.f).keep K10.out.f).2 rfl
      have cz_1 := cell_blk (i := 1) (((((((((HZ.out).keep K3.out.f).keep K4.out.f).keep K5.out.f).keep K6.out.f).keep K7.out.f).keep K8.out.f).keep K9.out.f).keep K10.out.f).2 rfl
      have cz_2 := cell_blk (i := 2) (((((((((HZ.out).keep K3.out.f).keep K4.out.f).keep K5.out.f).keep K6.out.f).keep K7.out.f).keep K8.out.f).keep K9.out.f).keep K10.out.f).2 rfl
      have cz_3 := cell_blk (i := 3) (((((((((HZ.out).keep K3.out.f).keep K4.out.f).keep K5.out.f).keep K6.out.f).keep K7.out.f).keep K8.out.f).keep K9.out.f).keep K10.out.f).2 rfl
      have cz_4 := cell_blk (i := 4) (((((((((HZ.out).keep K3.out.f).keep K4.out.f).keep K5.out.f).keep K6.out.f).keep K7.out.f).keep K8.out.f).keep K9.out.f).keep K10.out.f).2 rfl
      have cz_5 := cell_blk (i := 5) (((((((((HZ.out).keep K3.out.f).keep K4.out.f).keep K5.out.f).keep K6.out.f).keep K7.out.f).keep K8.out.f).keep K9.out.f).keep K10.out.f).2 rfl
      have fz_0 := free_blk (i := 0) (((((((((HZ.out).keep K3.out.f).keep K4.out.f).keep K5.out.f).keep K6.out.f).keep K7.out.f).keep K8.out.f).keep K9.out.f).keep K10.out.f).2
      have fz_1 := free_blk (i := 1) (((((((((HZ.out).keep K3.out.f).keep K4.out.f).keep K5.out.f).keep K6.out.f).keep K7.out.f).keep K8.out.f).keep K9.out.f).keep K10.out.f).2
      have fz_2 := free_blk (i := 2) (((((((((HZ.out).keep K3.out.f).keep K4.out.f).keep K5.out.f).keep K6.out.f).keep K7.out.f).keep K8.out.f).keep K9.out.f).keep K10.out.f).2
      have fz_3 := free_blk (i := 3) (((((((((HZ.out).keep K3.out.f).keep K4.out.f).keep K5.out.f).keep K6.out.f).keep K7.out.f).keep K8.out.f).keep K9.out.f).keep K10.out.f).2
      have fz_4 := free_blk (i := 4) (((((((((HZ.out).keep K3.out.f).keep K4.out.f).keep K5.out.f).keep K6.out.f).keep K7.out.f).keep K8.out.f).keep K9.out.f).keep K10.out.f).2
      have fz_5 := free_blk (i := 5) (((((((((HZ.out).keep K3.out.f).keep K4.out.f).keep K5.out.f).keep K6.out.f).keep K7.out.f).keep K8.out.f).keep K9.out.f).keep K10.out.f).2
      have hlz := (((((((((HZ.out).keep K3.out.f).keep K4.out.f).keep K5.out.f).keep K6.out.f).keep K7.out.f).keep K8.out.f).keep K9.out.f).keep K10.out.f).lt
      go_wp2_with fail
      have hq := HEQ2.out
      subst hq
      refine bodyPost_ret (v := .tuple #[.int .i64 mi, .agg #[.int .i64 (had (S.th i).op.key nv nok).err, .bool (had (S.th i).op.key nv nok).ok, .int .i64 (had (S.th i).op.key nv nok).key, .int .i64 (had (S.th i).op.key nv nok).val, .int .i64 (had (S.th i).op.key nv nok).n, .slice none 0 0], .int .i64 me]) (by simp [results, Tryz.results78, go_sem, hlz, cz_0, cz_1, cz_2, cz_3, cz_4, cz_5]) rfl ⟨rfl, ?_⟩
      exact ⟨_, R10.out.set6 (((((((((HZ.out).keep K3.out.f).keep K4.out.f).keep K5.out.f).keep K6.out.f).keep K7.out.f).keep K8.out.f).keep K9.out.f).keep K10.out.f).1 (by omega) (by omega) _ _ _ _ _ _, ((((((((((K1.out).trans K2.out).trans K3.out).trans K4.out).trans K5.out).trans K6.out).trans K7.out).trans K8.out).trans K9.out).trans K10.out).set6 (((((((((HZ.out).keep K3.out.f).keep K4.out.f).keep K5.out.f).keep K6.out.f).keep K7.out.f).keep K8.out.f).keep K9.out.f).keep K10.out.f).1 (by omega) _ _ _ _ _ _⟩
set_option maxRecDepth 100000 in
set_option maxHeartbeats 4000000 in
theorem xmade3 {W w : World} {P : Pl} {own : Own} {S : Ix} (h : IS W w P own S) {i p : Nat} (hp : P.pts[i]? = some p) (b : BaseR) (pressed : Int) (hk : (S.th i).op.kind = 3) :
    Calls Tryz.prog 78 #[pt_ p, .agg #[.int .i64 b.id, .int .i64 b.kind, .int .i64 b.treap, .int .i64 b.stat, .int .i64 b.home], .int .i64 pressed] w fun e w' => e = .returned (.tuple #[.int .i64 (S.made i b pressed).1, .agg #[.int .i64 (S.made i b pressed).2.1.err, .bool (S.made i b pressed).2.1.ok, .int .i64 (S.made i b pressed).2.1.key, .int .i64 (S.made i b pressed).2.1.val, .int .i64 (S.made i b pressed).2.1.n, .slice none 0 0], .int .i64 (S.made i b pressed).2.2.1]) ∧ ∃ own', Run W P w own (S.made i b pressed).2.2.2 w' own' ∧ KA i w own w' own' := by
  have R0 := Lib.hid (Run.begin h)
  clear h
  have HKD := Lib.hid hk
  clear hk
  have hsW := R0.out.is.below.size
  obtain ⟨MD, hMD⟩ : ∃ M, M = S.made i b pressed := ⟨_, rfl⟩
  rw [← hMD]
  have HMD := Lib.hid hMD
  clear hMD
  have R1 := Lib.hid (R0.out.box (b := w.heap.size) rfl (o := .ro) (by simp) #[.int .i64 b.id, .int .i64 b.kind, .int .i64 b.treap, .int .i64 b.stat, .int .i64 b.home] 120)
  have K1 := Lib.hid (R0.out.box_ka (b := w.heap.size) rfl (.ro) (.cells #[.int .i64 b.id, .int .i64 b.kind, .int .i64 b.treap, .int .i64 b.stat, .int .i64 b.home] 120) i)
  have R2 := Lib.hid (R1.out.alloc (.cells #[.int .i64 0, .bool false, .int .i64 0, .int .i64 0, .int .i64 0, .slice none 0 0] 45))
  have K2 := Lib.hid (R1.out.alloc_ka (.cells #[.int .i64 0, .bool false, .int .i64 0, .int .i64 0, .int .i64 0, .slice none 0 0] 45) i)
  have HZ := Lib.hid (R1.out.alloc_fx (b := w.heap.size + 1) (by simp) #[.int .i64 0, .bool false, .int .i64 0, .int .i64 0, .int .i64 0, .slice none 0 0] 45)
  go_enter Tryz.func78, Tryz.ntmps78
  go_wp2_with fail
  have R3 := Lib.hid R2.out.drew
  have K3 := Lib.hid (R2.out.drew_ka i)
  refine start_ (n := 21) (S := fun w' => w'.cell? ⟨p, 0, none⟩ = some (pt_ P.px) ∧ w'.cell? ⟨P.px, 0, none⟩ = some (pt_ P.pa) ∧ w'.cell? ⟨p, 3, none⟩ = some (.int .i64 (S.th i).op.key) ∧ w'.cell? ⟨p, 5, none⟩ = some (.int .i64 (S.th i).op.val)) (ds := [20]) (bz 21 0).toArray (by kernel_rfl) rfl rfl ⟨(R3.out.is.thx hp), (R3.out.is.xa), (R3.out.is.thc hp (k := 3) (fun _ _ => rfl)), (R3.out.is.thc hp (k := 5) (fun _ _ => rfl))⟩ (fun hHeld => ?_)
  refine pure_ (i := 0) (N := some 17) (v := ?_) (a' := ?_) (bz 21 1).toArray rfl rfl (by kernel_rfl) (fun _ _ _ h => h) (Or.inl ⟨by rfl, ?_⟩) ?_ ?_
  rotate_left
  · intro w'
    go_simp
    with_reducible rfl
  rotate_left
  · simp only [Act.put, sqA, sqZ, sqS, i64_w, i32_w]
    rfl
  refine pure_ (i := 1) (N := some 18) (v := ?_) (a' := ?_) (bz 21 3).toArray rfl rfl (by kernel_rfl) (fun _ _ _ h => h) (Or.inl ⟨by rfl, ?_⟩) ?_ ?_
  rotate_left
  · intro w'
    go_simp
    with_reducible rfl
  rotate_left
  · simp only [Act.put, sqA, sqZ, sqS, i64_w, i32_w]
    rfl
  refine pure_ (i := 2) (N := some 19) (v := ?_) (a' := ?_) (bz 21 7).toArray rfl rfl (by kernel_rfl) (fun _ _ _ h => h) (Or.inl ⟨by rfl, ?_⟩) ?_ ?_
  rotate_left
  · intro w'
    go_simp
    with_reducible rfl
  rotate_left
  · simp only [Act.put, sqA, sqZ, sqS, i64_w, i32_w]
    rfl
  refine pure_ (i := 7) (N := some 24) (v := ?_) (a' := ?_) (bz 21 135).toArray rfl rfl (by kernel_rfl) (fun _ _ _ h => h) (Or.inl ⟨by rfl, ?_⟩) ?_ ?_
  rotate_left
  · intro w'
    go_simp
    with_reducible rfl
  rotate_left
  · simp only [Act.put, sqA, sqZ, sqS, i64_w, i32_w]
    rfl
  refine pure_ (i := 8) (N := some 25) (v := ?_) (a' := ?_) (bz 21 391).toArray rfl rfl (by kernel_rfl) (fun _ _ _ h => h) (Or.inl ⟨by rfl, ?_⟩) ?_ ?_
  rotate_left
  · intro w'
    go_simp
    with_reducible rfl
  rotate_left
  · simp only [Act.put, sqA, sqZ, sqS, i64_w, i32_w]
    rfl
  refine pure_ (i := 9) (N := some 26) (v := ?_) (a' := ?_) (bz 21 903).toArray rfl rfl (by kernel_rfl) (fun _ _ _ h => h) (Or.inl ⟨by rfl, ?_⟩) ?_ ?_
  rotate_left
  · intro w'
    go_simp
    with_reducible rfl
  rotate_left
  · simp only [Act.put, sqA, sqZ, sqS, i64_w, i32_w]
    rfl
  refine pure_ (i := 10) (N := some 27) (v := ?_) (a' := ?_) (bz 21 1927).toArray rfl rfl (by kernel_rfl) (fun _ _ _ h => h) (Or.inl ⟨by rfl, ?_⟩) ?_ ?_
  rotate_left
  · intro w'
    go_simp
    with_reducible rfl
  rotate_left
  · simp only [Act.put, sqA, sqZ, sqS, i64_w, i32_w]
    rfl
  refine pure_ (i := 12) (N := some 29) (v := ?_) (a' := ?_) (bz 21 6023).toArray rfl rfl (by kernel_rfl) (fun _ _ _ h => h) (Or.inl ⟨by rfl, ?_⟩) ?_ ?_
  rotate_left
  · intro w'
    go_simp
    with_reducible rfl
  rotate_left
  · simp only [Act.put, sqA, sqZ, sqS, i64_w, i32_w]
    rfl
  refine pure_ (i := 13) (N := some 30) (v := ?_) (a' := ?_) (bz 21 14215).toArray rfl rfl (by kernel_rfl) (fun _ _ _ h => h) (Or.inl ⟨by rfl, ?_⟩) ?_ ?_
  rotate_left
  · intro w'
    go_simp
    with_reducible rfl
  rotate_left
  · simp only [Act.put, sqA, sqZ, sqS, i64_w, i32_w]
    rfl
  refine pure_ (i := 14) (N := some 31) (v := ?_) (a' := ?_) (bz 21 30599).toArray rfl rfl (by kernel_rfl) (fun _ _ _ h => h) (Or.inl ⟨by rfl, ?_⟩) ?_ ?_
  rotate_left
  · intro w'
    go_simp
    with_reducible rfl
  rotate_left
  · simp only [Act.put, sqA, sqZ, sqS, i64_w, i32_w]
    rfl
  refine pure_ (i := 15) (N := some 32) (v := ?_) (a' := ?_) (bz 21 63367).toArray rfl rfl (by kernel_rfl) (fun _ _ _ h => h) (Or.inl ⟨by rfl, ?_⟩) ?_ ?_
  rotate_left
  · intro w'
    go_simp
    with_reducible rfl
  rotate_left
  · simp only [Act.put, sqA, sqZ, sqS, i64_w, i32_w]
    rfl
  refine take_ (i := 3) (N := some 20) (v := ?_) (a' := ?_) (bz 21 63375).toArray rfl rfl (by kernel_rfl) (fun _ _ _ h => h) (Or.inl ⟨by rfl, ?_⟩) hHeld ?_ ?_
  rotate_left
  · rintro w' ⟨s0, s1, s2, s3⟩
    go_simp
    with_reducible rfl
  rotate_left
  · simp only [Act.put, sqA, sqZ, sqS, i64_w, i32_w]
    rfl
  refine pure_ (i := 4) (N := some 21) (v := ?_) (a' := ?_) (bz 21 63391).toArray rfl rfl (by kernel_rfl) (fun _ _ _ h => h) (Or.inl ⟨by rfl, ?_⟩) ?_ ?_
  rotate_left
  · intro w'
    go_simp
    with_reducible rfl
  rotate_left
  · simp only [Act.put, sqA, sqZ, sqS, i64_w, i32_w]
    rfl
  refine pure_ (i := 5) (N := some 22) (v := ?_) (a' := ?_) (bz 21 63423).toArray rfl rfl (by kernel_rfl) (fun _ _ _ h => h) (Or.inl ⟨by rfl, ?_⟩) ?_ ?_
  rotate_left
  · intro w'
    go_simp
    with_reducible rfl
  rotate_left
  · simp only [Act.put, sqA, sqZ, sqS, i64_w, i32_w]
    rfl
  refine take_ (i := 6) (N := some 23) (v := ?_) (a' := ?_) (bz 21 63487).toArray rfl rfl (by kernel_rfl) (fun _ _ _ h => h) (Or.inl ⟨by rfl, ?_⟩) hHeld ?_ ?_
  rotate_left
  · rintro w' ⟨s0, s1, s2, s3⟩
    go_simp
    with_reducible rfl
  rotate_left
  · simp only [Act.put, sqA, sqZ, sqS, i64_w, i32_w]
    rfl
  refine take_ (i := 11) (N := some 28) (v := ?_) (a' := ?_) (bz 21 65535).toArray rfl rfl (by kernel_rfl) (fun _ _ _ h => h) (Or.inl ⟨by rfl, ?_⟩) hHeld ?_ ?_
  rotate_left
  · rintro w' ⟨s0, s1, s2, s3⟩
    go_simp
    with_reducible rfl
  rotate_left
  · simp only [Act.put, sqA, sqZ, sqS, i64_w, i32_w]
    rfl
  refine take_ (i := 16) (N := some 33) (v := ?_) (a' := ?_) (bz 21 131071).toArray rfl rfl (by kernel_rfl) (fun _ _ _ h => h) (Or.inl ⟨by rfl, ?_⟩) hHeld ?_ ?_
  rotate_left
  · rintro w' ⟨s0, s1, s2, s3⟩
    go_simp
    with_reducible rfl
  rotate_left
  · simp only [Act.put, sqA, sqZ, sqS, i64_w, i32_w]
    rfl
  refine pure_ (i := 17) (N := some 34) (v := ?_) (a' := ?_) (bz 21 262143).toArray rfl rfl (by kernel_rfl) (fun _ _ _ h => h) (Or.inl ⟨by rfl, ?_⟩) ?_ ?_
  rotate_left
  · intro w'
    go_simp
    with_reducible rfl
  rotate_left
  · simp only [Act.put, sqA, sqZ, sqS, i64_w, i32_w]
    rfl
  refine one_ (i := 18) (N := some 10) (bz 21 524287).toArray rfl rfl (by kernel_rfl) (by decide) (fun K hK => ?_)
  refine value_ (w1 := ?_) (v := ?_) (by rfl) rfl ?_ ?_
  rotate_left 2
  · go_simp
    constructor
    · rfl
    · rfl
  have R4 := Lib.hid (R3.out.alloc (.cells #[.int .i64 0, .int .i64 0] 43))
  have K4 := Lib.hid (R3.out.alloc_ka (.cells #[.int .i64 0, .int .i64 0] 43) i)
  have HQ0 := Lib.hid (R3.out.alloc_fx (b := w.heap.size + 1 + 1) (by simp) #[.int .i64 0, .int .i64 0] 43)
  refine hK.out _ _ ⟨(R4.out.is.thx hp), (R4.out.is.xa), (R4.out.is.thc hp (k := 3) (fun _ _ => rfl)), (R4.out.is.thc hp (k := 5) (fun _ _ => rfl))⟩ (fun hHeld => ?_)
  clear hK K
  refine norm_ (a' := ?_) ?_ ?_
  rotate_left
  · show Act.put _ (some 10) _ = _
    simp only [Act.put, sqA, sqZ, sqS, i64_w, i32_w]
    rfl
  refine pure_ (i := 19) (N := some 9) (v := ?_) (a' := ?_) (bz 21 1048575).toArray rfl rfl (by kernel_rfl) (fun _ _ _ h => h) (Or.inl ⟨by rfl, ?_⟩) ?_ ?_
  rotate_left
  · intro w'
    go_simp
    with_reducible rfl
  rotate_left
  · simp only [Act.put, sqA, sqZ, sqS, i64_w, i32_w]
    rfl
  refine last_ (i := 20) (N := none) (bz 21 2097151).toArray rfl rfl (by kernel_rfl) (by decide) (fun K hK => ?_)
  refine skip_ (w1 := ?_) (by rfl) rfl ?_ ?_
  rotate_left
  · go_simp
    rfl
  refine hK.out _ _ ?_
  clear hK K
  refine done_ (by kernel_rfl) ?_
  clear hHeld
  have R3 := Lib.hid (R2.out.alloc (.cells #[.int .i64 (S.th i).op.key, .int .i64 (S.th i).op.val] 43))
  have K3 := Lib.hid (R2.out.alloc_ka (.cells #[.int .i64 (S.th i).op.key, .int .i64 (S.th i).op.val] 43) i)
  have HQ := Lib.hid (R2.out.alloc_fx (b := w.heap.size + 1 + 1) (by simp) #[.int .i64 (S.th i).op.key, .int .i64 (S.th i).op.val] 43)
  have R4 := Lib.hid R3.out.drew
  have K4 := Lib.hid (R3.out.drew_ka i)
  have ct2 : (((w.alloc (.cells #[.int .i64 b.id, .int .i64 b.kind, .int .i64 b.treap, .int .i64 b.stat, .int .i64 b.home] 120)).alloc (.cells #[.int .i64 0, .bool false, .int .i64 0, .int .i64 0, .int .i64 0, .slice none 0 0] 45)).alloc (.cells #[.int .i64 (S.th i).op.key, .int .i64 (S.th i).op.val] 43)).drew.cell? ⟨p, 2, none⟩ = some (.int .i64 3) := by have h2 := R4.out.is.thc hp (k := 2) (fun _ _ => rfl); rw [HKD.out] at h2; exact h2
  have cb0_2 := cell_blk (i := 2) ((((Run.box_bx (b := w.heap.size) rfl _ _).keep K2.out.k).keep K3.out.k).keep K4.out.k).2 rfl
  have cq_0 := cell_blk (i := 0) ((HQ.out).keep K4.out.f).2 rfl
  have cc := cutO_any R4.out.is.arena b.treap (S.th i).op.key
  rw [show cutO (some S.a) b.treap (S.th i).op.key = S.treapOf i b.treap by unfold Ix.treapOf; rw [if_neg (by rw [HKD.out]; decide), if_neg (by rw [HKD.out]; decide)]] at cc
  have hMD := HMD.out
  clear HMD
  unfold Ix.made at hMD
  generalize S.treapOf i b.treap = TR at cc hMD
  obtain ⟨nt, nv, nok, ne, NA⟩ := TR
  simp only [] at cc hMD
  have CC := Lib.hid cc
  have HM := Lib.hid hMD
  clear cc hMD
  go_wp2_with fail
  refine (CC.out).mono ?_
  rintro e w5 ⟨rfl, m5⟩
  clear ct2 cb0_2 cq_0
  obtain ⟨o5, r5, k5⟩ := R4.out.madeO m5 i
  have R5 := Lib.hid r5
  have K5 := Lib.hid k5
  clear m5 r5 k5
  clear CC
  by_cases h0 : ne ≠ 0
  · have hq := HM.out
    rw [if_pos h0] at hq
    subst hq
    have q0 : (ne == 0) = false := beq_eq_false_iff_ne.2 h0
    have q1 : (ne != 0) = true := by rw [bne, q0]; rfl
    clear h0 HM
    have cz_0 := cell_blk (i := 0) ((((HZ.out).keep K3.out.f).keep K4.out.f).keep K5.out.f).2 rfl
    have cz_1 := cell_blk (i := 1) ((((HZ.out).keep K3.out.f).keep K4.out.f).keep K5.out.f).2 rfl
    have cz_2 := cell_blk (i := 2) ((((HZ.out).keep K3.out.f).keep K4.out.f).keep K5.out.f).2 rfl
    have cz_3 := cell_blk (i := 3) ((((HZ.out).keep K3.out.f).keep K4.out.f).keep K5.out.f).2 rfl
    have cz_4 := cell_blk (i := 4) ((((HZ.out).keep K3.out.f).keep K4.out.f).keep K5.out.f).2 rfl
    have cz_5 := cell_blk (i := 5) ((((HZ.out).keep K3.out.f).keep K4.out.f).keep K5.out.f).2 rfl
    have fz_0 := free_blk (i := 0) ((((HZ.out).keep K3.out.f).keep K4.out.f).keep K5.out.f).2
    have fz_1 := free_blk (i := 1) ((((HZ.out).keep K3.out.f).keep K4.out.f).keep K5.out.f).2
    have fz_2 := free_blk (i := 2) ((((HZ.out).keep K3.out.f).keep K4.out.f).keep K5.out.f).2
    have fz_3 := free_blk (i := 3) ((((HZ.out).keep K3.out.f).keep K4.out.f).keep K5.out.f).2
    have fz_4 := free_blk (i := 4) ((((HZ.out).keep K3.out.f).keep K4.out.f).keep K5.out.f).2
    have fz_5 := free_blk (i := 5) ((((HZ.out).keep K3.out.f).keep K4.out.f).keep K5.out.f).2
    have hlz := ((((HZ.out).keep K3.out.f).keep K4.out.f).keep K5.out.f).lt
    go_wp2_with fail
    refine bodyPost_ret (v := .tuple #[.int .i64 0, .agg #[.int .i64 0, .bool false, .int .i64 0, .int .i64 0, .int .i64 0, .slice none 0 0], .int .i64 ne]) (by simp [results, Tryz.results78, go_sem, hlz, cz_0, cz_1, cz_2, cz_3, cz_4, cz_5]) rfl ⟨rfl, ?_⟩
    exact ⟨_, R5.out.set6 ((((HZ.out).keep K3.out.f).keep K4.out.f).keep K5.out.f).1 (by omega) (by omega) _ _ _ _ _ _, (((((K1.out).trans K2.out).trans K3.out).trans K4.out).trans K5.out).set6 ((((HZ.out).keep K3.out.f).keep K4.out.f).keep K5.out.f).1 (by omega) _ _ _ _ _ _⟩
  · by_cases hl : (S.th i).late = true
    · have hq := HM.out
      rw [if_neg h0, if_pos hl] at hq
      clear HM
      have ct7 : w5.cell? ⟨p, 7, none⟩ = some (.bool true) := by have h2 := R5.out.is.thc hp (k := 7) (fun _ _ => rfl); rw [show ((S.ofA NA).th i).late = true by show (S.th i).late = _; exact hl] at h2; exact h2
      have q0 : (ne == 0) = true := beq_iff_eq.2 (by simpa using h0)
      have q1 : (ne != 0) = false := by rw [bne, q0]; rfl
      obtain ⟨NT, hNT⟩ : ∃ x, x = nextS S.p pressed 1 := ⟨_, rfl⟩
      rw [← hNT] at hq
      have HNT := Lib.hid hNT
      have HEQ := Lib.hid hq
      clear hq hNT h0 hl
      go_wp2_with fail
      have R6 := Lib.hid R5.out.drew
      have K6 := Lib.hid (R5.out.drew_ka i)
      clear ct7
      refine start_ (n := 21) (S := fun w' => w'.cell? ⟨p, 0, none⟩ = some (pt_ P.px) ∧ w'.cell? ⟨P.px, 1, none⟩ = some (.int .i64 S.p.high) ∧ w'.cell? ⟨P.px, 2, none⟩ = some (.int .i64 S.p.low) ∧ w'.cell? ⟨P.px, 3, none⟩ = some (.int .i64 S.p.cont) ∧ w'.cell? ⟨P.px, 4, none⟩ = some (.int .i64 S.p.uncont) ∧ w'.cell? ⟨P.px, 5, none⟩ = some (.int .i64 S.p.multi) ∧ w'.cell? ⟨w.heap.size, 4, none⟩ = some (.int .i64 b.home)) (ds := [15]) (bz 21 0).toArray (by kernel_rfl) rfl rfl ⟨(R6.out.is.thx hp), (R6.out.is.ixc (k := 1) (fun _ _ => rfl)), (R6.out.is.ixc (k := 2) (fun _ _ => rfl)), (R6.out.is.ixc (k := 3) (fun _ _ => rfl)), (R6.out.is.ixc (k := 4) (fun _ _ => rfl)), (R6.out.is.ixc (k := 5) (fun _ _ => rfl)), (cell_blk (i := 4) ((((((Run.box_bx (b := w.heap.size) rfl _ _).keep K2.out.k).keep K3.out.k).keep K4.out.k).keep K5.out.k).keep K6.out.k).2 rfl)⟩ (fun hHeld => ?_)
      refine pure_ (i := 0) (N := some 84) (v := ?_) (a' := ?_) (bz 21 1).toArray rfl rfl (by kernel_rfl) (fun _ _ _ h => h) (Or.inl ⟨by rfl, ?_⟩) ?_ ?_
      rotate_left
      · intro w'
        go_simp
        with_reducible rfl
      rotate_left
      · simp only [Act.put, sqA, sqZ, sqS, i64_w, i32_w]
        rfl
      refine pure_ (i := 1) (N := some 85) (v := ?_) (a' := ?_) (bz 21 3).toArray rfl rfl (by kernel_rfl) (fun _ _ _ h => h) (Or.inl ⟨by rfl, ?_⟩) ?_ ?_
      rotate_left
      · intro w'
        go_simp
        with_reducible rfl
      rotate_left
      · simp only [Act.put, sqA, sqZ, sqS, i64_w, i32_w]
        rfl
      refine pure_ (i := 2) (N := some 86) (v := ?_) (a' := ?_) (bz 21 7).toArray rfl rfl (by kernel_rfl) (fun _ _ _ h => h) (Or.inl ⟨by rfl, ?_⟩) ?_ ?_
      rotate_left
      · intro w'
        go_simp
        with_reducible rfl
      rotate_left
      · simp only [Act.put, sqA, sqZ, sqS, i64_w, i32_w]
        rfl
      refine pure_ (i := 3) (N := some 87) (v := ?_) (a' := ?_) (bz 21 15).toArray rfl rfl (by kernel_rfl) (fun _ _ _ h => h) (Or.inl ⟨by rfl, ?_⟩) ?_ ?_
      rotate_left
      · intro w'
        go_simp
        with_reducible rfl
      rotate_left
      · simp only [Act.put, sqA, sqZ, sqS, i64_w, i32_w]
        rfl
      refine pure_ (i := 4) (N := some 88) (v := ?_) (a' := ?_) (bz 21 31).toArray rfl rfl (by kernel_rfl) (fun _ _ _ h => h) (Or.inl ⟨by rfl, ?_⟩) ?_ ?_
      rotate_left
      · intro w'
        go_simp
        with_reducible rfl
      rotate_left
      · simp only [Act.put, sqA, sqZ, sqS, i64_w, i32_w]
        rfl
      refine pure_ (i := 9) (N := some 93) (v := ?_) (a' := ?_) (bz 21 543).toArray rfl rfl (by kernel_rfl) (fun _ _ _ h => h) (Or.inl ⟨by rfl, ?_⟩) ?_ ?_
      rotate_left
      · intro w'
        go_simp
        with_reducible rfl
      rotate_left
      · simp only [Act.put, sqA, sqZ, sqS, i64_w, i32_w]
        rfl
      refine pure_ (i := 10) (N := some 94) (v := ?_) (a' := ?_) (bz 21 1567).toArray rfl rfl (by kernel_rfl) (fun _ _ _ h => h) (Or.inl ⟨by rfl, ?_⟩) ?_ ?_
      rotate_left
      · intro w'
        go_simp
        with_reducible rfl
      rotate_left
      · simp only [Act.put, sqA, sqZ, sqS, i64_w, i32_w]
        rfl
      refine pure_ (i := 12) (N := some 96) (v := ?_) (a' := ?_) (bz 21 5663).toArray rfl rfl (by kernel_rfl) (fun _ _ _ h => h) (Or.inl ⟨by rfl, ?_⟩) ?_ ?_
      rotate_left
      · intro w'
        go_simp
        with_reducible rfl
      rotate_left
      · simp only [Act.put, sqA, sqZ, sqS, i64_w, i32_w]
        rfl
      refine take_ (i := 5) (N := some 89) (v := ?_) (a' := ?_) (bz 21 5695).toArray rfl rfl (by kernel_rfl) (fun _ _ _ h => h) (Or.inl ⟨by rfl, ?_⟩) hHeld ?_ ?_
      rotate_left
      · rintro w' ⟨s0, s1, s2, s3, s4, s5, s6⟩
        go_simp
        with_reducible rfl
      rotate_left
      · simp only [Act.put, sqA, sqZ, sqS, i64_w, i32_w]
        rfl
      refine pure_ (i := 6) (N := some 90) (v := ?_) (a' := ?_) (bz 21 5759).toArray rfl rfl (by kernel_rfl) (fun _ _ _ h => h) (Or.inl ⟨by rfl, ?_⟩) ?_ ?_
      rotate_left
      · intro w'
        go_simp
        with_reducible rfl
      rotate_left
      · simp only [Act.put, sqA, sqZ, sqS, i64_w, i32_w]
        rfl
      refine pure_ (i := 7) (N := some 91) (v := ?_) (a' := ?_) (bz 21 5887).toArray rfl rfl (by kernel_rfl) (fun _ _ _ h => h) (Or.inl ⟨by rfl, ?_⟩) ?_ ?_
      rotate_left
      · intro w'
        go_simp
        with_reducible rfl
      rotate_left
      · simp only [Act.put, sqA, sqZ, sqS, i64_w, i32_w]
        rfl
      refine take_ (i := 8) (N := some 92) (v := ?_) (a' := ?_) (bz 21 6143).toArray rfl rfl (by kernel_rfl) (fun _ _ _ h => h) (Or.inl ⟨by rfl, ?_⟩) hHeld ?_ ?_
      rotate_left
      · rintro w' ⟨s0, s1, s2, s3, s4, s5, s6⟩
        go_simp
        with_reducible rfl
      rotate_left
      · simp only [Act.put, sqA, sqZ, sqS, i64_w, i32_w]
        rfl
      refine take_ (i := 13) (N := some 97) (v := ?_) (a' := ?_) (bz 21 14335).toArray rfl rfl (by kernel_rfl) (fun _ _ _ h => h) (Or.inl ⟨by rfl, ?_⟩) hHeld ?_ ?_
      rotate_left
      · rintro w' ⟨s0, s1, s2, s3, s4, s5, s6⟩
        go_simp
        with_reducible rfl
      rotate_left
      · simp only [Act.put, sqA, sqZ, sqS, i64_w, i32_w]
        rfl
      refine one_ (i := 11) (N := some 95) (bz 21 16383).toArray rfl rfl (by kernel_rfl) (by decide) (fun K hK => ?_)
      refine goes_ Tryz.func130 (by kernel_rfl) rfl #[.agg #[.int .i64 S.p.high, .int .i64 S.p.low, .int .i64 S.p.cont, .int .i64 S.p.uncont, .int .i64 S.p.multi], .int .i64 pressed, .int .i64 1] (by rfl) rfl rfl (by simp only [List.map_toArray, List.map_cons, List.map_nil]; rfl) ?_
      with_reducible refine (xnext1 S.p pressed _).mono ?_
      rintro e w7 ⟨rfl, x7⟩
      have b7 := x7
      clear x7
      have R7 := Lib.hid (R6.out.later b7)
      have K7 := Lib.hid (R6.out.below_ka b7 i)
      clear b7
      rw [← HNT.out]
      refine ⟨_, rfl, ?_⟩
      refine hK.out _ _ ⟨(R7.out.is.thx hp), (R7.out.is.ixc (k := 1) (fun _ _ => rfl)), (R7.out.is.ixc (k := 2) (fun _ _ => rfl)), (R7.out.is.ixc (k := 3) (fun _ _ => rfl)), (R7.out.is.ixc (k := 4) (fun _ _ => rfl)), (R7.out.is.ixc (k := 5) (fun _ _ => rfl)), (cell_blk (i := 4) (((((((Run.box_bx (b := w.heap.size) rfl _ _).keep K2.out.k).keep K3.out.k).keep K4.out.k).keep K5.out.k).keep K6.out.k).keep K7.out.k).2 rfl)⟩ (fun hHeld => ?_)
      clear hK K
      refine norm_ (a' := ?_) ?_ ?_
      rotate_left
      · show Act.put _ (some 95) _ = _
        simp only [Act.put, sqA, sqZ, sqS, i64_w, i32_w]
        rfl
      refine one_ (i := 14) (N := some 98) (bz 21 32767).toArray rfl rfl (by kernel_rfl) (by decide) (fun K hK => ?_)
      refine value_ (w1 := ?_) (v := ?_) (by rfl) rfl ?_ ?_
      rotate_left 2
      · go_simp
        constructor
        · rfl
        · rfl
      have HI := Lib.hid (ints_new w7 (w7.heap.size) #[.int .i64 nt, .int .i64 NT, .int .i64 b.home] (l := [nt, NT, b.home]) rfl rfl)
      have R8 := Lib.hid (R7.out.alloc (.cells #[.int .i64 nt, .int .i64 NT, .int .i64 b.home] 3))
      have K8 := Lib.hid (R7.out.alloc_ka (.cells #[.int .i64 nt, .int .i64 NT, .int .i64 b.home] 3) i)
      have HSL := Lib.hid (R7.out.alloc_fx (b := w7.heap.size) rfl #[.int .i64 nt, .int .i64 NT, .int .i64 b.home] 3)
      refine hK.out _ _ ⟨(R8.out.is.thx hp), (R8.out.is.ixc (k := 1) (fun _ _ => rfl)), (R8.out.is.ixc (k := 2) (fun _ _ => rfl)), (R8.out.is.ixc (k := 3) (fun _ _ => rfl)), (R8.out.is.ixc (k := 4) (fun _ _ => rfl)), (R8.out.is.ixc (k := 5) (fun _ _ => rfl)), (cell_blk (i := 4) ((((((((Run.box_bx (b := w.heap.size) rfl _ _).keep K2.out.k).keep K3.out.k).keep K4.out.k).keep K5.out.k).keep K6.out.k).keep K7.out.k).keep K8.out.k).2 rfl)⟩ (fun hHeld => ?_)
      clear hK K
      refine norm_ (a' := ?_) ?_ ?_
      rotate_left
      · show Act.put _ (some 98) _ = _
        simp only [Act.put, sqA, sqZ, sqS, i64_w, i32_w]
        rfl
      refine last_ (i := 15) (N := some 99) (bz 21 65535).toArray rfl rfl (by kernel_rfl) (by decide) (fun K hK => ?_)
      have cm := make_any R8.out.is.arena 3 HI.out
      rw [show [nt, NT, b.home].length = 3 from rfl] at cm
      have hq := HEQ.out
      generalize makeO (some (S.ofA NA).a) 3 [nt, NT, b.home] = MK at cm hq
      obtain ⟨mi, me, MA⟩ := MK
      simp only [] at cm hq
      have CM := Lib.hid cm
      have HEQ2 := Lib.hid hq
      clear cm hq
      refine goes_ Tryz.func69 (by kernel_rfl) rfl #[pt_ P.pa, .int .i64 3, .slice (some ⟨w7.heap.size, 0, none⟩) 3 3] (by rfl) rfl rfl (by simp only [List.map_toArray, List.map_cons, List.map_nil]; rfl) ?_
      with_reducible refine (CM.out).mono ?_
      rintro e w9 ⟨rfl, x9⟩
      have m9 := x9
      clear x9
      obtain ⟨o9, r9, k9⟩ := R8.out.madeO m9 i
      have R9 := Lib.hid r9
      have K9 := Lib.hid k9
      clear m9 r9 k9
      refine ⟨_, rfl, ?_⟩
      refine hK.out _ _ ?_
      clear hK K
      refine norm_ (a' := ?_) ?_ ?_
      rotate_left
      · show Act.put _ (some 99) _ = _
        simp only [Act.put, sqA, sqZ, sqS, i64_w, i32_w]
        rfl
      refine pure_ (i := 16) (N := some 83) (v := ?_) (a' := ?_) (bz 21 131071).toArray rfl rfl (by kernel_rfl) (fun _ _ _ h => h) (Or.inl ⟨by rfl, ?_⟩) ?_ ?_
      rotate_left
      · intro w'
        go_simp
        with_reducible rfl
      rotate_left
      · simp only [Act.put, sqA, sqZ, sqS, i64_w, i32_w]
        rfl
      refine pure_ (i := 17) (N := some 100) (v := ?_) (a' := ?_) (bz 21 262143).toArray rfl rfl (by kernel_rfl) (fun _ _ _ h => h) (Or.inl ⟨by rfl, ?_⟩) ?_ ?_
      rotate_left
      · intro w'
        go_simp
        with_reducible rfl
      rotate_left
      · simp only [Act.put, sqA, sqZ, sqS, i64_w, i32_w]
        rfl
      refine pure_ (i := 18) (N := some 101) (v := ?_) (a' := ?_) (bz 21 524287).toArray rfl rfl (by kernel_rfl) (fun _ _ _ h => h) (Or.inl ⟨by rfl, ?_⟩) ?_ ?_
      rotate_left
      · intro w'
        go_simp
        with_reducible rfl
      rotate_left
      · simp only [Act.put, sqA, sqZ, sqS, i64_w, i32_w]
        rfl
      refine pure_ (i := 19) (N := some 16) (v := ?_) (a' := ?_) (bz 21 1048575).toArray rfl rfl (by kernel_rfl) (fun _ _ _ h => h) (Or.inl ⟨by rfl, ?_⟩) ?_ ?_
      rotate_left
      · intro w'
        go_simp
        with_reducible rfl
      rotate_left
      · simp only [Act.put, sqA, sqZ, sqS, i64_w, i32_w]
        rfl
      refine pure_ (i := 20) (N := some 14) (v := ?_) (a' := ?_) (bz 21 2097151).toArray rfl rfl (by kernel_rfl) (fun _ _ _ h => h) (Or.inl ⟨by rfl, ?_⟩) ?_ ?_
      rotate_left
      · intro w'
        go_simp
        with_reducible rfl
      rotate_left
      · simp only [Act.put, sqA, sqZ, sqS, i64_w, i32_w]
        rfl
      refine done_ (by kernel_rfl) ?_
      have cq_0 := cell_blk (i := 0) (((((((HQ.out).keep K4.out.f).keep K5.out.f).keep K6.out.f).keep K7.out.f).keep K8.out.f).keep K9.out.f).2 rfl
      go_wp2_with fail
      refine (xhad_any (S.th i).op.key nv nok _).mono ?_
      rintro e w10 ⟨rfl, b10⟩
      clear cq_0
      have R10 := Lib.hid (R9.out.later b10)
      have K10 := Lib.hid (R9.out.below_ka b10 i)
      clear b10
      have cz_0 := cell_blk (i := 0) (((((((((HZ.out).keep K3.out.f).keep K4.out.f).keep K5.out.f).keep K6.out.f).keep K7.out.f).keep K8.out.f).keep K9.out.f).keep K10.out.f).2 rfl
      have cz_1 := cell_blk (i := 1) (((((((((HZ.out).keep K3.out.f).keep K4.out.f).keep K5.out.f).keep K6.out.f).keep K7.out.f).keep K8.out.f).keep K9.out.f).keep K10.out.f).2 rfl
      have cz_2 := cell_blk (i := 2) (((((((((HZ.out).keep K3.out.f).keep K4.out.f).keep K5.out.f).keep K6.out.f).keep K7.out.f).keep K8.out.f).keep K9.out.f).keep K10.out.f).2 rfl
      have cz_3 := cell_blk (i := 3) (((((((((HZ.out).keep K3.out.f).keep K4.out.f).keep K5.out.f).keep K6.out.f).keep K7.out.f).keep K8.out.f).keep K9.out.f).keep K10.out.f).2 rfl
      have cz_4 := cell_blk (i := 4) (((((((((HZ.out).keep K3.out.f).keep K4.out.f).keep K5.out.f).keep K6.out.f).keep K7.out.f).keep K8.out.f).keep K9.out.f).keep K10.out.f).2 rfl
      have cz_5 := cell_blk (i := 5) (((((((((HZ.out).keep K3.out.f).keep K4.out.f).keep K5.out.f).keep K6.out.f).keep K7.out.f).keep K8.out.f).keep K9.out.f).keep K10.out.f).2 rfl
      have fz_0 := free_blk (i := 0) (((((((((HZ.out).keep K3.out.f).keep K4.out.f).keep K5.out.f).keep K6.out.f).keep K7.out.f).keep K8.out.f).keep K9.out.f).keep K10.out.f).2
      have fz_1 := free_blk (i := 1) (((((((((HZ.out).keep K3.out.f).keep K4.out.f).keep K5.out.f).keep K6.out.f).keep K7.out.f).keep K8.out.f).keep K9.out.f).keep K10.out.f).2
      have fz_2 := free_blk (i := 2) (((((((((HZ.out).keep K3.out.f).keep K4.out.f).keep K5.out.f).keep K6.out.f).keep K7.out.f).keep K8.out.f).keep K9.out.f).keep K10.out.f).2
      have fz_3 := free_blk (i := 3) (((((((((HZ.out).keep K3.out.f).keep K4.out.f).keep K5.out.f).keep K6.out.f).keep K7.out.f).keep K8.out.f).keep K9.out.f).keep K10.out.f).2
      have fz_4 := free_blk (i := 4) (((((((((HZ.out).keep K3.out.f).keep K4.out.f).keep K5.out.f).keep K6.out.f).keep K7.out.f).keep K8.out.f).keep K9.out.f).keep K10.out.f).2
      have fz_5 := free_blk (i := 5) (((((((((HZ.out).keep K3.out.f).keep K4.out.f).keep K5.out.f).keep K6.out.f).keep K7.out.f).keep K8.out.f).keep K9.out.f).keep K10.out.f).2
      have hlz := (((((((((HZ.out).keep K3.out.f).keep K4.out.f).keep K5.out.f).keep K6.out.f).keep K7.out.f).keep K8.out.f).keep K9.out.f).keep K10.out.f).lt
      go_wp2_with fail
      have hq := HEQ2.out
      subst hq
      refine bodyPost_ret (v := .tuple #[.int .i64 mi, .agg #[.int .i64 (had (S.th i).op.key nv nok).err, .bool (had (S.th i).op.key nv nok).ok, .int .i64 (had (S.th i).op.key nv nok).key, .int .i64 (had (S.th i).op.key nv nok).val, .int .i64 (had (S.th i).op.key nv nok).n, .slice none 0 0], .int .i64 me]) (by simp [results, Tryz.results78, go_sem, hlz, cz_0, cz_1, cz_2, cz_3, cz_4, cz_5]) rfl ⟨rfl, ?_⟩
      exact ⟨_, R10.out.set6 (((((((((HZ.out).keep K3.out.f).keep K4.out.f).keep K5.out.f).keep K6.out.f).keep K7.out.f).keep K8.out.f).keep K9.out.f).keep K10.out.f).1 (by omega) (by omega) _ _ _ _ _ _, ((((((((((K1.out).trans K2.out).trans K3.out).trans K4.out).trans K5.out).trans K6.out).trans K7.out).trans K8.out).trans K9.out).trans K10.out).set6 (((((((((HZ.out).keep K3.out.f).keep K4.out.f).keep K5.out.f).keep K6.out.f).keep K7.out.f).keep K8.out.f).keep K9.out.f).keep K10.out.f).1 (by omega) _ _ _ _ _ _⟩
    · have hq := HM.out
      rw [if_neg h0, if_neg hl] at hq
      clear HM
      have ct7 : w5.cell? ⟨p, 7, none⟩ = some (.bool false) := by have h2 := R5.out.is.thc hp (k := 7) (fun _ _ => rfl); rw [show ((S.ofA NA).th i).late = false by show (S.th i).late = _; simpa using hl] at h2; exact h2
      have q0 : (ne == 0) = true := beq_iff_eq.2 (by simpa using h0)
      have q1 : (ne != 0) = false := by rw [bne, q0]; rfl
      obtain ⟨NT, hNT⟩ : ∃ x, x = nextS S.p pressed 2 := ⟨_, rfl⟩
      rw [← hNT] at hq
      have HNT := Lib.hid hNT
      have HEQ := Lib.hid hq
      clear hq hNT h0 hl
      go_wp2_with fail
      have R6 := Lib.hid R5.out.drew
      have K6 := Lib.hid (R5.out.drew_ka i)
      clear ct7
      refine start_ (n := 21) (S := fun w' => w'.cell? ⟨p, 0, none⟩ = some (pt_ P.px) ∧ w'.cell? ⟨P.px, 1, none⟩ = some (.int .i64 S.p.high) ∧ w'.cell? ⟨P.px, 2, none⟩ = some (.int .i64 S.p.low) ∧ w'.cell? ⟨P.px, 3, none⟩ = some (.int .i64 S.p.cont) ∧ w'.cell? ⟨P.px, 4, none⟩ = some (.int .i64 S.p.uncont) ∧ w'.cell? ⟨P.px, 5, none⟩ = some (.int .i64 S.p.multi) ∧ w'.cell? ⟨w.heap.size, 4, none⟩ = some (.int .i64 b.home)) (ds := [15]) (bz 21 0).toArray (by kernel_rfl) rfl rfl ⟨(R6.out.is.thx hp), (R6.out.is.ixc (k := 1) (fun _ _ => rfl)), (R6.out.is.ixc (k := 2) (fun _ _ => rfl)), (R6.out.is.ixc (k := 3) (fun _ _ => rfl)), (R6.out.is.ixc (k := 4) (fun _ _ => rfl)), (R6.out.is.ixc (k := 5) (fun _ _ => rfl)), (cell_blk (i := 4) ((((((Run.box_bx (b := w.heap.size) rfl _ _).keep K2.out.k).keep K3.out.k).keep K4.out.k).keep K5.out.k).keep K6.out.k).2 rfl)⟩ (fun hHeld => ?_)
      refine pure_ (i := 0) (N := some 84) (v := ?_) (a' := ?_) (bz 21 1).toArray rfl rfl (by kernel_rfl) (fun _ _ _ h => h) (Or.inl ⟨by rfl, ?_⟩) ?_ ?_
      rotate_left
      · intro w'
        go_simp
        with_reducible rfl
      rotate_left
      · simp only [Act.put, sqA, sqZ, sqS, i64_w, i32_w]
        rfl
      refine pure_ (i := 1) (N := some 85) (v := ?_) (a' := ?_) (bz 21 3).toArray rfl rfl (by kernel_rfl) (fun _ _ _ h => h) (Or.inl ⟨by rfl, ?_⟩) ?_ ?_
      rotate_left
      · intro w'
        go_simp
        with_reducible rfl
      rotate_left
      · simp only [Act.put, sqA, sqZ, sqS, i64_w, i32_w]
        rfl
      refine pure_ (i := 2) (N := some 86) (v := ?_) (a' := ?_) (bz 21 7).toArray rfl rfl (by kernel_rfl) (fun _ _ _ h => h) (Or.inl ⟨by rfl, ?_⟩) ?_ ?_
      rotate_left
      · intro w'
        go_simp
        with_reducible rfl
      rotate_left
      · simp only [Act.put, sqA, sqZ, sqS, i64_w, i32_w]
        rfl
      refine pure_ (i := 3) (N := some 87) (v := ?_) (a' := ?_) (bz 21 15).toArray rfl rfl (by kernel_rfl) (fun _ _ _ h => h) (Or.inl ⟨by rfl, ?_⟩) ?_ ?_
      rotate_left
      · intro w'
        go_simp
        with_reducible rfl
      rotate_left
      · simp only [Act.put, sqA, sqZ, sqS, i64_w, i32_w]
        rfl
      refine pure_ (i := 4) (N := some 88) (v := ?_) (a' := ?_) (bz 21 31).toArray rfl rfl (by kernel_rfl) (fun _ _ _ h => h) (Or.inl ⟨by rfl, ?_⟩) ?_ ?_
      rotate_left
      · intro w'
        go_simp
        with_reducible rfl
      rotate_left
      · simp only [Act.put, sqA, sqZ, sqS, i64_w, i32_w]
        rfl
      refine pure_ (i := 9) (N := some 93) (v := ?_) (a' := ?_) (bz 21 543).toArray rfl rfl (by kernel_rfl) (fun _ _ _ h => h) (Or.inl ⟨by rfl, ?_⟩) ?_ ?_
      rotate_left
      · intro w'
        go_simp
        with_reducible rfl
      rotate_left
      · simp only [Act.put, sqA, sqZ, sqS, i64_w, i32_w]
        rfl
      refine pure_ (i := 10) (N := some 94) (v := ?_) (a' := ?_) (bz 21 1567).toArray rfl rfl (by kernel_rfl) (fun _ _ _ h => h) (Or.inl ⟨by rfl, ?_⟩) ?_ ?_
      rotate_left
      · intro w'
        go_simp
        with_reducible rfl
      rotate_left
      · simp only [Act.put, sqA, sqZ, sqS, i64_w, i32_w]
        rfl
      refine pure_ (i := 12) (N := some 96) (v := ?_) (a' := ?_) (bz 21 5663).toArray rfl rfl (by kernel_rfl) (fun _ _ _ h => h) (Or.inl ⟨by rfl, ?_⟩) ?_ ?_
      rotate_left
      · intro w'
        go_simp
        with_reducible rfl
      rotate_left
      · simp only [Act.put, sqA, sqZ, sqS, i64_w, i32_w]
        rfl
      refine take_ (i := 5) (N := some 89) (v := ?_) (a' := ?_) (bz 21 5695).toArray rfl rfl (by kernel_rfl) (fun _ _ _ h => h) (Or.inl ⟨by rfl, ?_⟩) hHeld ?_ ?_
      rotate_left
      · rintro w' ⟨s0, s1, s2, s3, s4, s5, s6⟩
        go_simp
        with_reducible rfl
      rotate_left
      · simp only [Act.put, sqA, sqZ, sqS, i64_w, i32_w]
        rfl
      refine pure_ (i := 6) (N := some 90) (v := ?_) (a' := ?_) (bz 21 5759).toArray rfl rfl (by kernel_rfl) (fun _ _ _ h => h) (Or.inl ⟨by rfl, ?_⟩) ?_ ?_
      rotate_left
      · intro w'
        go_simp
        with_reducible rfl
      rotate_left
      · simp only [Act.put, sqA, sqZ, sqS, i64_w, i32_w]
        rfl
      refine pure_ (i := 7) (N := some 91) (v := ?_) (a' := ?_) (bz 21 5887).toArray rfl rfl (by kernel_rfl) (fun _ _ _ h => h) (Or.inl ⟨by rfl, ?_⟩) ?_ ?_
      rotate_left
      · intro w'
        go_simp
        with_reducible rfl
      rotate_left
      · simp only [Act.put, sqA, sqZ, sqS, i64_w, i32_w]
        rfl
      refine take_ (i := 8) (N := some 92) (v := ?_) (a' := ?_) (bz 21 6143).toArray rfl rfl (by kernel_rfl) (fun _ _ _ h => h) (Or.inl ⟨by rfl, ?_⟩) hHeld ?_ ?_
      rotate_left
      · rintro w' ⟨s0, s1, s2, s3, s4, s5, s6⟩
        go_simp
        with_reducible rfl
      rotate_left
      · simp only [Act.put, sqA, sqZ, sqS, i64_w, i32_w]
        rfl
      refine take_ (i := 13) (N := some 97) (v := ?_) (a' := ?_) (bz 21 14335).toArray rfl rfl (by kernel_rfl) (fun _ _ _ h => h) (Or.inl ⟨by rfl, ?_⟩) hHeld ?_ ?_
      rotate_left
      · rintro w' ⟨s0, s1, s2, s3, s4, s5, s6⟩
        go_simp
        with_reducible rfl
      rotate_left
      · simp only [Act.put, sqA, sqZ, sqS, i64_w, i32_w]
        rfl
      refine one_ (i := 11) (N := some 95) (bz 21 16383).toArray rfl rfl (by kernel_rfl) (by decide) (fun K hK => ?_)
      refine goes_ Tryz.func130 (by kernel_rfl) rfl #[.agg #[.int .i64 S.p.high, .int .i64 S.p.low, .int .i64 S.p.cont, .int .i64 S.p.uncont, .int .i64 S.p.multi], .int .i64 pressed, .int .i64 2] (by rfl) rfl rfl (by simp only [List.map_toArray, List.map_cons, List.map_nil]; rfl) ?_
      with_reducible refine (xnext2 S.p pressed _).mono ?_
      rintro e w7 ⟨rfl, x7⟩
      have b7 := x7
      clear x7
      have R7 := Lib.hid (R6.out.later b7)
      have K7 := Lib.hid (R6.out.below_ka b7 i)
      clear b7
      rw [← HNT.out]
      refine ⟨_, rfl, ?_⟩
      refine hK.out _ _ ⟨(R7.out.is.thx hp), (R7.out.is.ixc (k := 1) (fun _ _ => rfl)), (R7.out.is.ixc (k := 2) (fun _ _ => rfl)), (R7.out.is.ixc (k := 3) (fun _ _ => rfl)), (R7.out.is.ixc (k := 4) (fun _ _ => rfl)), (R7.out.is.ixc (k := 5) (fun _ _ => rfl)), (cell_blk (i := 4) (((((((Run.box_bx (b := w.heap.size) rfl _ _).keep K2.out.k).keep K3.out.k).keep K4.out.k).keep K5.out.k).keep K6.out.k).keep K7.out.k).2 rfl)⟩ (fun hHeld => ?_)
      clear hK K
      refine norm_ (a' := ?_) ?_ ?_
      rotate_left
      · show Act.put _ (some 95) _ = _
        simp only [Act.put, sqA, sqZ, sqS, i64_w, i32_w]
        rfl
      refine one_ (i := 14) (N := some 98) (bz 21 32767).toArray rfl rfl (by kernel_rfl) (by decide) (fun K hK => ?_)
      refine value_ (w1 := ?_) (v := ?_) (by rfl) rfl ?_ ?_
      rotate_left 2
      · go_simp
        constructor
        · rfl
        · rfl
      have HI := Lib.hid (ints_new w7 (w7.heap.size) #[.int .i64 nt, .int .i64 NT, .int .i64 b.home] (l := [nt, NT, b.home]) rfl rfl)
      have R8 := Lib.hid (R7.out.alloc (.cells #[.int .i64 nt, .int .i64 NT, .int .i64 b.home] 3))
      have K8 := Lib.hid (R7.out.alloc_ka (.cells #[.int .i64 nt, .int .i64 NT, .int .i64 b.home] 3) i)
      have HSL := Lib.hid (R7.out.alloc_fx (b := w7.heap.size) rfl #[.int .i64 nt, .int .i64 NT, .int .i64 b.home] 3)
      refine hK.out _ _ ⟨(R8.out.is.thx hp), (R8.out.is.ixc (k := 1) (fun _ _ => rfl)), (R8.out.is.ixc (k := 2) (fun _ _ => rfl)), (R8.out.is.ixc (k := 3) (fun _ _ => rfl)), (R8.out.is.ixc (k := 4) (fun _ _ => rfl)), (R8.out.is.ixc (k := 5) (fun _ _ => rfl)), (cell_blk (i := 4) ((((((((Run.box_bx (b := w.heap.size) rfl _ _).keep K2.out.k).keep K3.out.k).keep K4.out.k).keep K5.out.k).keep K6.out.k).keep K7.out.k).keep K8.out.k).2 rfl)⟩ (fun hHeld => ?_)
      clear hK K
      refine norm_ (a' := ?_) ?_ ?_
      rotate_left
      · show Act.put _ (some 98) _ = _
        simp only [Act.put, sqA, sqZ, sqS, i64_w, i32_w]
        rfl
      refine last_ (i := 15) (N := some 99) (bz 21 65535).toArray rfl rfl (by kernel_rfl) (by decide) (fun K hK => ?_)
      have cm := make_any R8.out.is.arena 3 HI.out
      rw [show [nt, NT, b.home].length = 3 from rfl] at cm
      have hq := HEQ.out
      generalize makeO (some (S.ofA NA).a) 3 [nt, NT, b.home] = MK at cm hq
      obtain ⟨mi, me, MA⟩ := MK
      simp only [] at cm hq
      have CM := Lib.hid cm
      have HEQ2 := Lib.hid hq
      clear cm hq
      refine goes_ Tryz.func69 (by kernel_rfl) rfl #[pt_ P.pa, .int .i64 3, .slice (some ⟨w7.heap.size, 0, none⟩) 3 3] (by rfl) rfl rfl (by simp only [List.map_toArray, List.map_cons, List.map_nil]; rfl) ?_
      with_reducible refine (CM.out).mono ?_
      rintro e w9 ⟨rfl, x9⟩
      have m9 := x9
      clear x9
      obtain ⟨o9, r9, k9⟩ := R8.out.madeO m9 i
      have R9 := Lib.hid r9
      have K9 := Lib.hid k9
      clear m9 r9 k9
      refine ⟨_, rfl, ?_⟩
      refine hK.out _ _ ?_
      clear hK K
      refine norm_ (a' := ?_) ?_ ?_
      rotate_left
      · show Act.put _ (some 99) _ = _
        simp only [Act.put, sqA, sqZ, sqS, i64_w, i32_w]
        rfl
      refine pure_ (i := 16) (N := some 83) (v := ?_) (a' := ?_) (bz 21 131071).toArray rfl rfl (by kernel_rfl) (fun _ _ _ h => h) (Or.inl ⟨by rfl, ?_⟩) ?_ ?_
      rotate_left
      · intro w'
        go_simp
        with_reducible rfl
      rotate_left
      · simp only [Act.put, sqA, sqZ, sqS, i64_w, i32_w]
        rfl
      refine pure_ (i := 17) (N := some 100) (v := ?_) (a' := ?_) (bz 21 262143).toArray rfl rfl (by kernel_rfl) (fun _ _ _ h => h) (Or.inl ⟨by rfl, ?_⟩) ?_ ?_
      rotate_left
      · intro w'
        go_simp
        with_reducible rfl
      rotate_left
      · simp only [Act.put, sqA, sqZ, sqS, i64_w, i32_w]
        rfl
      refine pure_ (i := 18) (N := some 101) (v := ?_) (a' := ?_) (bz 21 524287).toArray rfl rfl (by kernel_rfl) (fun _ _ _ h => h) (Or.inl ⟨by rfl, ?_⟩) ?_ ?_
      rotate_left
      · intro w'
        go_simp
        with_reducible rfl
      rotate_left
      · simp only [Act.put, sqA, sqZ, sqS, i64_w, i32_w]
        rfl
      refine pure_ (i := 19) (N := some 16) (v := ?_) (a' := ?_) (bz 21 1048575).toArray rfl rfl (by kernel_rfl) (fun _ _ _ h => h) (Or.inl ⟨by rfl, ?_⟩) ?_ ?_
      rotate_left
      · intro w'
        go_simp
        with_reducible rfl
      rotate_left
      · simp only [Act.put, sqA, sqZ, sqS, i64_w, i32_w]
        rfl
      refine pure_ (i := 20) (N := some 14) (v := ?_) (a' := ?_) (bz 21 2097151).toArray rfl rfl (by kernel_rfl) (fun _ _ _ h => h) (Or.inl ⟨by rfl, ?_⟩) ?_ ?_
      rotate_left
      · intro w'
        go_simp
        with_reducible rfl
      rotate_left
      · simp only [Act.put, sqA, sqZ, sqS, i64_w, i32_w]
        rfl
      refine done_ (by kernel_rfl) ?_
      have cq_0 := cell_blk (i := 0) (((((((HQ.out).keep K4.out.f).keep K5.out.f).keep K6.out.f).keep K7.out.f).keep K8.out.f).keep K9.out.f).2 rfl
      go_wp2_with fail
      refine (xhad_any (S.th i).op.key nv nok _).mono ?_
      rintro e w10 ⟨rfl, b10⟩
      clear cq_0
      have R10 := Lib.hid (R9.out.later b10)
      have K10 := Lib.hid (R9.out.below_ka b10 i)
      clear b10
      have cz_0 := cell_blk (i := 0) (((((((((HZ.out).keep K3.out.f).keep K4.out.f).keep K5.out.f).keep K6.out.f).keep K7.out.f).keep K8.out.f).keep K9.out.f).keep K10.out.f).2 rfl
      have cz_1 := cell_blk (i := 1) (((((((((HZ.out).keep K3.out.f).keep K4.out.f).keep K5.out.f).keep K6.out.f).keep K7.out.f).keep K8.out.f).keep K9.out.f).keep K10.out.f).2 rfl
      have cz_2 := cell_blk (i := 2) (((((((((HZ.out).keep K3.out.f).keep K4.out.f).keep K5.out.f).keep K6.out.f).keep K7.out.f).keep K8.out.f).keep K9.out.f).keep K10.out.f).2 rfl
      have cz_3 := cell_blk (i := 3) (((((((((HZ.out).keep K3.out.f).keep K4.out.f).keep K5.out.f).keep K6.out.f).keep K7.out.f).keep K8.out.f).keep K9.out.f).keep K10.out.f).2 rfl
      have cz_4 := cell_blk (i := 4) (((((((((HZ.out).keep K3.out.f).keep K4.out.f).keep K5.out.f).keep K6.out.f).keep K7.out.f).keep K8.out.f).keep K9.out.f).keep K10.out.f).2 rfl
      have cz_5 := cell_blk (i := 5) (((((((((HZ.out).keep K3.out.f).keep K4.out.f).keep K5.out.f).keep K6.out.f).keep K7.out.f).keep K8.out.f).keep K9.out.f).keep K10.out.f).2 rfl
      have fz_0 := free_blk (i := 0) (((((((((HZ.out).keep K3.out.f).keep K4.out.f).keep K5.out.f).keep K6.out.f).keep K7.out.f).keep K8.out.f).keep K9.out.f).keep K10.out.f).2
      have fz_1 := free_blk (i := 1) (((((((((HZ.out).keep K3.out.f).keep K4.out.f).keep K5.out.f).keep K6.out.f).keep K7.out.f).keep K8.out.f).keep K9.out.f).keep K10.out.f).2
      have fz_2 := free_blk (i := 2) (((((((((HZ.out).keep K3.out.f).keep K4.out.f).keep K5.out.f).keep K6.out.f).keep K7.out.f).keep K8.out.f).keep K9.out.f).keep K10.out.f).2
      have fz_3 := free_blk (i := 3) (((((((((HZ.out).keep K3.out.f).keep K4.out.f).keep K5.out.f).keep K6.out.f).keep K7.out.f).keep K8.out.f).keep K9.out.f).keep K10.out.f).2
      have fz_4 := free_blk (i := 4) (((((((((HZ.out).keep K3.out.f).keep K4.out.f).keep K5.out.f).keep K6.out.f).keep K7.out.f).keep K8.out.f).keep K9.out.f).keep K10.out.f).2
      have fz_5 := free_blk (i := 5) (((((((((HZ.out).keep K3.out.f).keep K4.out.f).keep K5.out.f).keep K6.out.f).keep K7.out.f).keep K8.out.f).keep K9.out.f).keep K10.out.f).2
      have hlz := (((((((((HZ.out).keep K3.out.f).keep K4.out.f).keep K5.out.f).keep K6.out.f).keep K7.out.f).keep K8.out.f).keep K9.out.f).keep K10.out.f).lt
      go_wp2_with fail
      have hq := HEQ2.out
      subst hq
      refine bodyPost_ret (v := .tuple #[.int .i64 mi, .agg #[.int .i64 (had (S.th i).op.key nv nok).err, .bool (had (S.th i).op.key nv nok).ok, .int .i64 (had (S.th i).op.key nv nok).key, .int .i64 (had (S.th i).op.key nv nok).val, .int .i64 (had (S.th i).op.key nv nok).n, .slice none 0 0], .int .i64 me]) (by simp [results, Tryz.results78, go_sem, hlz, cz_0, cz_1, cz_2, cz_3, cz_4, cz_5]) rfl ⟨rfl, ?_⟩
      exact ⟨_, R10.out.set6 (((((((((HZ.out).keep K3.out.f).keep K4.out.f).keep K5.out.f).keep K6.out.f).keep K7.out.f).keep K8.out.f).keep K9.out.f).keep K10.out.f).1 (by omega) (by omega) _ _ _ _ _ _, ((((((((((K1.out).trans K2.out).trans K3.out).trans K4.out).trans K5.out).trans K6.out).trans K7.out).trans K8.out).trans K9.out).trans K10.out).set6 (((((((((HZ.out).keep K3.out.f).keep K4.out.f).keep K5.out.f).keep K6.out.f).keep K7.out.f).keep K8.out.f).keep K9.out.f).keep K10.out.f).1 (by omega) _ _ _ _ _ _⟩
end Go.Proofs.YtghjnkfocjjlnaaGreat
