/- A player's pick of a thread that is at work; any pick. -/
import Derived.Test.YtghjnkfocjjlnaaGreatT00
import Derived.Test.YtghjnkfocjjlnaaGreatT28
set_option linter.unusedSimpArgs false
set_option linter.unusedVariables false
namespace Go.Proofs.YtghjnkfocjjlnaaGreat
set_option maxRecDepth 100000
open Go.RowKit Go.Proofs.YtghjnkfocjjlnaaGreatW.PrintWords Go.Proofs.YtghjnkfocjjlnaaGreatW.PrintLast
set_option linter.unusedVariables false
set_option linter.unusedSimpArgs false
set_option maxRecDepth 100000 in
set_option maxHeartbeats 4000000 in
theorem pick_busy {W w : World} {P : Pl} {own : Own} {q : Pq} {o2 : Nat → Option Po} {Y : Py} (h : PI W w P own q o2 Y) {t p : Nat} (hp : P.pts[t]? = some p) (hb : (Y.S.th t).busy = true) (ok : PickOK Y t) :
    Calls Tryz.prog 10 #[pt_ q.pp, .int .i64 (t : Int)] w fun e w' => e = .returned (.bool (Y.any t)) ∧ ∃ own' o2', PI W w' P own' q o2' (Y.pick t) ∧ FP w own o2 w' own' o2' := by
  have OK := Lib.hid ok
  clear ok
  have H := Lib.hid h
  have HP := Lib.hid hp
  obtain ⟨lcs, ocs, lcap, ocap, hv, hs, hpy⟩ := h.at_
  have c0 : w.cell? ⟨q.pp, 0, none⟩ = some (pt_ P.px) := cell_blk (i := 0) hpy.blk rfl
  clear h hp hpy
  go_enter Tryz.func10, Tryz.ntmps10
  go_wp2_with fail
  refine (xbusy_any H.out.is HP.out).mono ?_
  rintro e w' ⟨rfl, rfl⟩
  rw [hb]
  clear c0
  obtain ⟨w10, hw10⟩ : ∃ w10, w10 = w := ⟨_, rfl⟩
  obtain ⟨Y1, hY1⟩ : ∃ Y1, Y1 = Y.begun t := ⟨_, rfl⟩
  have HYE := Lib.hid hY1
  have H11 := Lib.hid (show PI W w10 P own q o2 Y1 from by rw [hY1, begun_busy hb, hw10]; exact H.out)
  have F10 := Lib.hid (show FP w own o2 w10 own o2 from by rw [hw10]; exact FP.refl _ _ _)
  rw [← hw10]
  clear hY1 hw10
  have hb1 : (Y1.S.th t).busy = true := by rw [HYE.out]; exact OK.out.busy (show Y.any t = true from by unfold Py.any; rw [hb]; rfl)
  obtain ⟨lcsa, ocsa, lcapa, ocapa, hva, hsa, pya⟩ := H11.out.at_
  have ca0 : w10.cell? ⟨q.pp, 0, none⟩ = some (pt_ P.px) := cell_blk (i := 0) pya.blk rfl
  clear pya
  go_wp2_with fail
  refine (xbusy_any H11.out.is HP.out).mono ?_
  rintro e w' ⟨rfl, rfl⟩
  rw [hb1]
  obtain ⟨k1, hk1, hok1⟩ := OK.out.next (show Y.any t = true from by unfold Py.any; rw [hb]; rfl)
  rw [← HYE.out] at hk1 hok1
  have STP := Lib.hid (xstep_any H11.out.is HP.out hb1 hk1 hok1)
  clear hk1 hok1
  go_wp2_with fail
  refine STP.out.mono ?_
  rintro e w11 ⟨rfl, e11⟩
  clear ca0
  obtain ⟨own11, is11, fk11⟩ := ends_fk e11
  have H12 := Lib.hid (H11.out.ends2 is11 fk11)
  have F12 := Lib.hid (F10.out.trans (FP.fk fk11))
  clear e11 is11 fk11
  have HY2 := Lib.hid (stepped_busy hb1)
  obtain ⟨Y2, hY2⟩ : ∃ Y2, Y2 = Y1.stepped t := ⟨_, rfl⟩
  have HY2E := Lib.hid hY2
  have H13 := Lib.hid (show PI W w11 P own11 q o2 Y2 from by rw [hY2, HY2.out]; exact H12.out)
  clear hY2 H12 hb1
  obtain ⟨lcsb, ocsb, lcapb, ocapb, hvb, hsb, pyb⟩ := H13.out.at_
  have PYB := Lib.hid pyb
  have cb0 : w11.cell? ⟨q.pp, 0, none⟩ = some (pt_ P.px) := cell_blk (i := 0) pyb.blk rfl
  clear pyb
  go_wp2_with fail
  refine (xbusy_any H13.out.is HP.out).mono ?_
  rintro e w' ⟨rfl, rfl⟩
  have HPK := Lib.hid (show Y.pick t = Y2.told t from by unfold Py.pick; rw [if_pos (show Y.any t = true from by unfold Py.any; rw [hb]; rfl), HY2E.out, HYE.out])
  cases hb2 : (Y2.S.th t).busy with
  | true =>
    go_wp2_with fail
    go_ret
    refine ⟨by rw [show Y.any t = true from by unfold Py.any; rw [hb]; rfl]; rfl, own11, o2, ?_, F12.out⟩
    rw [HPK.out, told_busy hb2]
    exact H13.out
  | false =>
    obtain ⟨hov, hps⟩ := OK.out.over (show Y.any t = true from by unfold Py.any; rw [hb]; rfl) (by rw [← HYE.out, ← HY2E.out]; exact hb2)
    rw [← HYE.out, ← HY2E.out] at hov hps
    have ANS := Lib.hid (xanswer_any H13.out.is HP.out hov hps)
    clear hov hps
    go_wp2_with fail
    refine ANS.out.mono ?_
    rintro e w12 ⟨ad, c, rfl, ho12, hf12, b12⟩
    clear ANS cb0
    obtain ⟨o14, h14, f14, ev14, m14⟩ := H13.out.gift b12 ho12 hf12
    obtain ⟨np, hnp⟩ : ∃ np, np = (Y2.S.th t).ans.pairs.length := ⟨_, rfl⟩
    rw [← hnp] at ev14
    have HNP := Lib.hid hnp
    rw [← HNP.out]
    clear hnp
    have PYC := Lib.hid ((PYB.out.keep Y2.S (fun b o ho => b12.block b (H13.out.free b o ho).2.2)).more m14)
    have F14 := Lib.hid (F12.out.trans f14)
    have H14 := Lib.hid h14
    have EV14 := Lib.hid ev14
    clear h14 f14 ev14 m14 ho12 hf12 b12
    have HN2 := Lib.hid (Nat.lt_of_lt_of_le (List.getElem?_eq_some_iff.1 HP.out).1 (Nat.le_refl _))
    obtain ⟨nn, hnn⟩ : ∃ nn, nn = P.pts.length := ⟨_, rfl⟩
    have htn2 : t < nn := by rw [hnn]; exact HN2.out
    have HNN := Lib.hid hnn
    clear hnn
    have q02 : ¬ ((t : Int) < 0) := by omega
    have q12 : ¬ ((nn : Int) ≤ (t : Int)) := by omega
    have B15 := Lib.hid ((Below.refl w12.heap.size w12).alloc (Nat.le_refl _) (.cells #[.int .i64 (Y2.S.th t).ans.err, .bool (Y2.S.th t).ans.ok, .int .i64 (Y2.S.th t).ans.key, .int .i64 (Y2.S.th t).ans.val, .int .i64 (Y2.S.th t).ans.n, .slice ad np c] 45))
    have A15 := Lib.hid (heap_alloc_new w12 (.cells #[.int .i64 (Y2.S.th t).ans.err, .bool (Y2.S.th t).ans.ok, .int .i64 (Y2.S.th t).ans.key, .int .i64 (Y2.S.th t).ans.val, .int .i64 (Y2.S.th t).ans.n, .slice ad np c] 45))
    have H15 := Lib.hid (H14.out.later B15.out)
    have PY15 := Lib.hid (PYC.out.keep Y2.S (fun b o ho => B15.out.block b (H14.out.free b o ho).2.2))
    have EV15 := Lib.hid (EV14.out.keep (fun b ho => ⟨ho, B15.out.block b (H14.out.free b _ ho).2.2⟩))
    have lt15 : w12.heap.size < (w12.alloc (.cells #[.int .i64 (Y2.S.th t).ans.err, .bool (Y2.S.th t).ans.ok, .int .i64 (Y2.S.th t).ans.key, .int .i64 (Y2.S.th t).ans.val, .int .i64 (Y2.S.th t).ans.n, .slice ad np c] 45)).heap.size := by simp
    go_wp2_with fail
    generalize w12.alloc (.cells #[.int .i64 (Y2.S.th t).ans.err, .bool (Y2.S.th t).ans.ok, .int .i64 (Y2.S.th t).ans.key, .int .i64 (Y2.S.th t).ans.val, .int .i64 (Y2.S.th t).ans.n, .slice ad np c] 45) = w15 at B15 A15 H15 PY15 EV15 lt15 ⊢
    obtain ⟨opv, hopv⟩ : ∃ x, x = Y2.ops.getD t op0 := ⟨_, rfl⟩
    have HOPV := Lib.hid hopv
    clear hopv
    have cd0 : w15.cell? ⟨q.pp, 3, none⟩ = some hvb := cell_blk (i := 3) PY15.out.blk rfl
    have cd1 : w15.cell? ⟨q.pp, 2, none⟩ = some (.slice (some ⟨q.ob, 0, none⟩) nn ocapb) := by rw [HNN.out]; exact cell_blk (i := 2) PY15.out.blk rfl
    have ce0 : w15.cell? ⟨q.ob, t * 4, none⟩ = some (.int .i64 opv.kind) := cell_blk (i := t * 4) PY15.out.oblk (by rw [HOPV.out]; exact PY15.out.ops t HN2.out 0 (by decide))
    have ce1 : w15.cell? ⟨q.ob, t * 4 + 1, none⟩ = some (.int .i64 opv.key) := cell_blk (i := t * 4 + 1) PY15.out.oblk (by rw [HOPV.out]; exact PY15.out.ops t HN2.out 1 (by decide))
    have ce2 : w15.cell? ⟨q.ob, t * 4 + 2, none⟩ = some (.int .i64 opv.hi) := cell_blk (i := t * 4 + 2) PY15.out.oblk (by rw [HOPV.out]; exact PY15.out.ops t HN2.out 2 (by decide))
    have ce3 : w15.cell? ⟨q.ob, t * 4 + 3, none⟩ = some (.int .i64 opv.val) := cell_blk (i := t * 4 + 3) PY15.out.oblk (by rw [HOPV.out]; exact PY15.out.ops t HN2.out 3 (by decide))
    have cf0 : w15.cell? ⟨w12.heap.size, 0, none⟩ = some (.int .i64 (Y2.S.th t).ans.err) := cell_blk (i := 0) A15.out rfl
    have cf1 : w15.cell? ⟨w12.heap.size, 1, none⟩ = some (.bool (Y2.S.th t).ans.ok) := cell_blk (i := 1) A15.out rfl
    have cf2 : w15.cell? ⟨w12.heap.size, 2, none⟩ = some (.int .i64 (Y2.S.th t).ans.key) := cell_blk (i := 2) A15.out rfl
    have cf3 : w15.cell? ⟨w12.heap.size, 3, none⟩ = some (.int .i64 (Y2.S.th t).ans.val) := cell_blk (i := 3) A15.out rfl
    have cf4 : w15.cell? ⟨w12.heap.size, 4, none⟩ = some (.int .i64 (Y2.S.th t).ans.n) := cell_blk (i := 4) A15.out rfl
    have cf5 : w15.cell? ⟨w12.heap.size, 5, none⟩ = some (.slice ad np c) := cell_blk (i := 5) A15.out rfl
    have B16 := Lib.hid (((Below.refl w15.heap.size w15).drew).alloc (Nat.le_refl _) (.cells #[.int .i64 (t : Int), .bool true, .int .i64 opv.kind, .int .i64 opv.key, .int .i64 opv.hi, .int .i64 opv.val, .int .i64 (Y2.S.th t).ans.err, .bool (Y2.S.th t).ans.ok, .int .i64 (Y2.S.th t).ans.key, .int .i64 (Y2.S.th t).ans.val, .int .i64 (Y2.S.th t).ans.n, .slice ad np c] 47))
    have H16 := Lib.hid (H15.out.later B16.out)
    have PY16 := Lib.hid (PY15.out.keep Y2.S (fun b o ho => B16.out.block b (H15.out.free b o ho).2.2))
    have EV16 := Lib.hid (EV15.out.keep (fun b ho => ⟨ho, B16.out.block b (H15.out.free b _ ho).2.2⟩))
    have E16 := Lib.hid (heap_alloc_new w15.drew (.cells #[.int .i64 (t : Int), .bool true, .int .i64 opv.kind, .int .i64 opv.key, .int .i64 opv.hi, .int .i64 opv.val, .int .i64 (Y2.S.th t).ans.err, .bool (Y2.S.th t).ans.ok, .int .i64 (Y2.S.th t).ans.key, .int .i64 (Y2.S.th t).ans.val, .int .i64 (Y2.S.th t).ans.n, .slice ad np c] 47))
    have hle2 : Y2.h.length ≤ 1000000 := by rw [HY2E.out, (stepped_h _ _).1, HYE.out]; have h1 := begun_len Y t; have h2 := OK.out.len; omega
    have LE2 := Lib.hid hle2
    clear hle2
    go_wp2_with fail
    refine start_ (n := 20) (S := fun w' => w'.cell? ⟨q.pp, 3, none⟩ = some hvb ∧ w'.cell? ⟨q.pp, 2, none⟩ = some (.slice (some ⟨q.ob, 0, none⟩) nn ocapb) ∧ w'.cell? ⟨q.ob, t * 4, none⟩ = some (.int .i64 opv.kind) ∧ w'.cell? ⟨q.ob, t * 4 + 1, none⟩ = some (.int .i64 opv.key) ∧ w'.cell? ⟨q.ob, t * 4 + 2, none⟩ = some (.int .i64 opv.hi) ∧ w'.cell? ⟨q.ob, t * 4 + 3, none⟩ = some (.int .i64 opv.val) ∧ w'.cell? ⟨w12.heap.size, 0, none⟩ = some (.int .i64 (Y2.S.th t).ans.err) ∧ w'.cell? ⟨w12.heap.size, 1, none⟩ = some (.bool (Y2.S.th t).ans.ok) ∧ w'.cell? ⟨w12.heap.size, 2, none⟩ = some (.int .i64 (Y2.S.th t).ans.key) ∧ w'.cell? ⟨w12.heap.size, 3, none⟩ = some (.int .i64 (Y2.S.th t).ans.val) ∧ w'.cell? ⟨w12.heap.size, 4, none⟩ = some (.int .i64 (Y2.S.th t).ans.n) ∧ w'.cell? ⟨w12.heap.size, 5, none⟩ = some (.slice ad np c)) (ds := [16, 19]) (bz 20 0).toArray (by kernel_rfl) rfl rfl ⟨(drew_cell cd0), (drew_cell cd1), (drew_cell ce0), (drew_cell ce1), (drew_cell ce2), (drew_cell ce3), (drew_cell cf0), (drew_cell cf1), (drew_cell cf2), (drew_cell cf3), (drew_cell cf4), (drew_cell cf5)⟩ (fun hHeld => ?_)
    refine pure_ (i := 0) (N := some 101) (v := ?_) (a' := ?_) (bz 20 1).toArray rfl rfl (by kernel_rfl) (fun _ _ _ h => h) (Or.inl ⟨by rfl, ?_⟩) ?_ ?_
    rotate_left
    · intro w'
      go_simp
      with_reducible rfl
    rotate_left
    · simp only [Act.put, sqA, sqZ, sqS, i64_w, i32_w]
      rfl
    refine pure_ (i := 1) (N := some 102) (v := ?_) (a' := ?_) (bz 20 3).toArray rfl rfl (by kernel_rfl) (fun _ _ _ h => h) (Or.inl ⟨by rfl, ?_⟩) ?_ ?_
    rotate_left
    · intro w'
      go_simp
      with_reducible rfl
    rotate_left
    · simp only [Act.put, sqA, sqZ, sqS, i64_w, i32_w]
      rfl
    refine pure_ (i := 2) (N := some 103) (v := ?_) (a' := ?_) (bz 20 7).toArray rfl rfl (by kernel_rfl) (fun _ _ _ h => h) (Or.inl ⟨by rfl, ?_⟩) ?_ ?_
    rotate_left
    · intro w'
      go_simp
      with_reducible rfl
    rotate_left
    · simp only [Act.put, sqA, sqZ, sqS, i64_w, i32_w]
      rfl
    refine pure_ (i := 3) (N := some 104) (v := ?_) (a' := ?_) (bz 20 15).toArray rfl rfl (by kernel_rfl) (fun _ _ _ h => h) (Or.inl ⟨by rfl, ?_⟩) ?_ ?_
    rotate_left
    · intro w'
      go_simp
      with_reducible rfl
    rotate_left
    · simp only [Act.put, sqA, sqZ, sqS, i64_w, i32_w]
      rfl
    refine pure_ (i := 5) (N := some 106) (v := ?_) (a' := ?_) (bz 20 47).toArray rfl rfl (by kernel_rfl) (fun _ _ _ h => h) (Or.inl ⟨by rfl, ?_⟩) ?_ ?_
    rotate_left
    · intro w'
      go_simp
      with_reducible rfl
    rotate_left
    · simp only [Act.put, sqA, sqZ, sqS, i64_w, i32_w]
      rfl
    refine pure_ (i := 6) (N := some 107) (v := ?_) (a' := ?_) (bz 20 111).toArray rfl rfl (by kernel_rfl) (fun _ _ _ h => h) (Or.inl ⟨by rfl, ?_⟩) ?_ ?_
    rotate_left
    · intro w'
      go_simp
      with_reducible rfl
    rotate_left
    · simp only [Act.put, sqA, sqZ, sqS, i64_w, i32_w]
      rfl
    refine pure_ (i := 7) (N := some 108) (v := ?_) (a' := ?_) (bz 20 239).toArray rfl rfl (by kernel_rfl) (fun _ _ _ h => h) (Or.inl ⟨by rfl, ?_⟩) ?_ ?_
    rotate_left
    · intro w'
      go_simp
      with_reducible rfl
    rotate_left
    · simp only [Act.put, sqA, sqZ, sqS, i64_w, i32_w]
      rfl
    refine pure_ (i := 8) (N := some 109) (v := ?_) (a' := ?_) (bz 20 495).toArray rfl rfl (by kernel_rfl) (fun _ _ _ h => h) (Or.inl ⟨by rfl, ?_⟩) ?_ ?_
    rotate_left
    · intro w'
      go_simp
      with_reducible rfl
    rotate_left
    · simp only [Act.put, sqA, sqZ, sqS, i64_w, i32_w]
      rfl
    refine pure_ (i := 10) (N := some 111) (v := ?_) (a' := ?_) (bz 20 1519).toArray rfl rfl (by kernel_rfl) (fun _ _ _ h => h) (Or.inl ⟨by rfl, ?_⟩) ?_ ?_
    rotate_left
    · intro w'
      go_simp
      with_reducible rfl
    rotate_left
    · simp only [Act.put, sqA, sqZ, sqS, i64_w, i32_w]
      rfl
    refine take_ (i := 4) (N := some 105) (v := ?_) (a' := ?_) (bz 20 1535).toArray rfl rfl (by kernel_rfl) (fun _ _ _ h => h) (Or.inl ⟨by rfl, ?_⟩) hHeld ?_ ?_
    rotate_left
    · rintro w' ⟨s0, s1, s2, s3, s4, s5, s6, s7, s8, s9, s10, s11⟩
      go_simp
      with_reducible rfl
    rotate_left
    · simp only [Act.put, sqA, sqZ, sqS, i64_w, i32_w]
      rfl
    refine take_ (i := 9) (N := some 110) (v := ?_) (a' := ?_) (bz 20 2047).toArray rfl rfl (by kernel_rfl) (fun _ _ _ h => h) (Or.inl ⟨by rfl, ?_⟩) hHeld ?_ ?_
    rotate_left
    · rintro w' ⟨s0, s1, s2, s3, s4, s5, s6, s7, s8, s9, s10, s11⟩
      go_simp
      with_reducible rfl
    rotate_left
    · simp only [Act.put, sqA, sqZ, sqS, i64_w, i32_w]
      rfl
    refine pure_ (i := 11) (N := some 112) (v := ?_) (a' := ?_) (bz 20 4095).toArray rfl rfl (by kernel_rfl) (fun _ _ _ h => h) (Or.inl ⟨by rfl, ?_⟩) ?_ ?_
    rotate_left
    · intro w'
      go_simp
      with_reducible rfl
    rotate_left
    · simp only [Act.put, sqA, sqZ, sqS, i64_w, i32_w]
      rfl
    refine take_ (i := 12) (N := some 113) (v := ?_) (a' := ?_) (bz 20 8191).toArray rfl rfl (by kernel_rfl) (fun _ _ _ h => h) (Or.inl ⟨by rfl, ?_⟩) hHeld ?_ ?_
    rotate_left
    · rintro w' ⟨s0, s1, s2, s3, s4, s5, s6, s7, s8, s9, s10, s11⟩
      go_simp
      with_reducible rfl
    rotate_left
    · simp only [Act.put, sqA, sqZ, sqS, i64_w, i32_w]
      rfl
    refine take_ (i := 13) (N := some 114) (v := ?_) (a' := ?_) (bz 20 16383).toArray rfl rfl (by kernel_rfl) (fun _ _ _ h => h) (Or.inl ⟨by rfl, ?_⟩) hHeld ?_ ?_
    rotate_left
    · rintro w' ⟨s0, s1, s2, s3, s4, s5, s6, s7, s8, s9, s10, s11⟩
      go_simp
      with_reducible rfl
    rotate_left
    · simp only [Act.put, sqA, sqZ, sqS, i64_w, i32_w]
      rfl
    refine pure_ (i := 14) (N := some 115) (v := ?_) (a' := ?_) (bz 20 32767).toArray rfl rfl (by kernel_rfl) (fun _ _ _ h => h) (Or.inl ⟨by rfl, ?_⟩) ?_ ?_
    rotate_left
    · intro w'
      go_simp
      with_reducible rfl
    rotate_left
    · simp only [Act.put, sqA, sqZ, sqS, i64_w, i32_w]
      rfl
    refine one_ (i := 15) (N := some 116) (bz 20 65535).toArray rfl rfl (by kernel_rfl) (by decide) (fun K hK => ?_)
    refine value_ (w1 := ?_) (v := ?_) (by rfl) rfl ?_ ?_
    rotate_left 2
    · go_simp
      constructor
      · rfl
      · rfl
    refine hK.out _ _ ⟨(cell_blk (i := 3) PY16.out.blk rfl), (by rw [HNN.out]; exact cell_blk (i := 2) PY16.out.blk rfl), (cell_blk (i := t * 4) PY16.out.oblk (by rw [HOPV.out]; exact PY16.out.ops t HN2.out 0 (by decide))), (cell_blk (i := t * 4 + 1) PY16.out.oblk (by rw [HOPV.out]; exact PY16.out.ops t HN2.out 1 (by decide))), (cell_blk (i := t * 4 + 2) PY16.out.oblk (by rw [HOPV.out]; exact PY16.out.ops t HN2.out 2 (by decide))), (cell_blk (i := t * 4 + 3) PY16.out.oblk (by rw [HOPV.out]; exact PY16.out.ops t HN2.out 3 (by decide))), (cell_blk (i := 0) ((B16.out.block w12.heap.size lt15).trans A15.out) rfl), (cell_blk (i := 1) ((B16.out.block w12.heap.size lt15).trans A15.out) rfl), (cell_blk (i := 2) ((B16.out.block w12.heap.size lt15).trans A15.out) rfl), (cell_blk (i := 3) ((B16.out.block w12.heap.size lt15).trans A15.out) rfl), (cell_blk (i := 4) ((B16.out.block w12.heap.size lt15).trans A15.out) rfl), (cell_blk (i := 5) ((B16.out.block w12.heap.size lt15).trans A15.out) rfl)⟩ ?_
    clear hHeld
    intro hHeld
    clear hK K
    refine norm_ (a' := ?_) ?_ ?_
    rotate_left
    · show Act.put _ (some 116) _ = _
      simp only [Act.put, sqA, sqZ, sqS, i64_w, i32_w]
      rfl
    refine last_ (i := 16) (N := some 117) (bz 20 131071).toArray rfl rfl (by kernel_rfl) (by decide) (fun K hK => ?_)
    refine step_app1 (v := hvb) (by rfl) rfl (.tmp 105) (.tmp 116) rfl Tryz.underlying35 info_event rfl (by decide) (by decide) rfl rfl PY16.out.hrow E16.out rfl (fun u hu => by have hu : u ∈ [.int .i64 (t : Int), .bool true, .int .i64 opv.kind, .int .i64 opv.key, .int .i64 opv.hi, .int .i64 opv.val, .int .i64 (Y2.S.th t).ans.err, .bool (Y2.S.th t).ans.ok, .int .i64 (Y2.S.th t).ans.key, .int .i64 (Y2.S.th t).ans.val, .int .i64 (Y2.S.th t).ans.n, .slice ad np c] := hu; simp only [List.mem_cons, List.not_mem_nil, or_false] at hu; rcases hu with rfl | rfl | rfl | rfl | rfl | rfl | rfl | rfl | rfl | rfl | rfl | rfl <;> rfl) LE2.out ?_
    intro g9 cap9 w9 ho9 hg9 hl9
    have HO9 := Lib.hid ho9
    have HG9 := Lib.hid hg9
    have HL9 := Lib.hid hl9
    have hb9 := Lib.hid ((hg9.block q.pp (H16.out.free _ _ PY16.out.opp).2.2 (fun e => by have h1 := PY16.out.hown _ e.symm; rw [PY16.out.opp] at h1; cases h1)).trans PY16.out.blk)
    have fx9 := free_blk (i := 3) hb9.out
    have cx9 := cell_blk (i := 3) hb9.out rfl
    have lx9 := (Array.getElem?_eq_some_iff.1 hb9.out).1
    clear ho9 hg9 hl9
    refine hK.out _ _ ?_
    clear hK K
    refine norm_ (a' := ?_) ?_ ?_
    rotate_left
    · show Act.put _ (some 117) _ = _
      simp only [Act.put, sqA, sqZ, sqS, i64_w, i32_w]
      rfl
    refine pure_ (i := 17) (N := some 118) (v := ?_) (a' := ?_) (bz 20 262143).toArray rfl rfl (by kernel_rfl) (fun _ _ _ h => h) (Or.inl ⟨by rfl, ?_⟩) ?_ ?_
    rotate_left
    · intro w'
      go_simp
      with_reducible rfl
    rotate_left
    · simp only [Act.put, sqA, sqZ, sqS, i64_w, i32_w]
      rfl
    refine pure_ (i := 18) (N := some 119) (v := ?_) (a' := ?_) (bz 20 524287).toArray rfl rfl (by kernel_rfl) (fun _ _ _ h => h) (Or.inl ⟨by rfl, ?_⟩) ?_ ?_
    rotate_left
    · intro w'
      go_simp
      with_reducible rfl
    rotate_left
    · simp only [Act.put, sqA, sqZ, sqS, i64_w, i32_w]
      rfl
    refine lastdone_ (i := 19) (N := none) (bz 20 1048575).toArray rfl rfl (by kernel_rfl) (by decide) (by kernel_rfl) (fun K hK => ?_)
    refine skip_ (w1 := ?_) (by rfl) rfl ?_ ?_
    rotate_left
    · go_simp
      rfl
    refine hK.out _ _ ?_
    clear hK K
    obtain ⟨o17, h17, f17⟩ := H16.out.said PY16.out (e := ⟨(t : Int), true, opv, (Y2.S.th t).ans⟩) (pv := .slice ad np c) EV16.out HO9.out HG9.out HL9.out
    have F17 := Lib.hid (((F14.out.trans (FP.below B15.out)).trans (FP.below B16.out)).trans f17)
    have H17 := Lib.hid h17
    clear h17 f17
    go_wp2_with fail
    go_ret
    refine ⟨by rw [show Y.any t = true from by unfold Py.any; rw [hb]; rfl]; rfl, own11, o17, ?_, F17.out⟩
    rw [HPK.out, told_idle hb2, ← HOPV.out]
    exact H17.out
theorem pick_any {W w : World} {P : Pl} {own : Own} {q : Pq} {o2 : Nat → Option Po} {Y : Py} (h : PI W w P own q o2 Y) {t p : Nat} (hp : P.pts[t]? = some p) (ok : PickOK Y t) :
    Calls Tryz.prog 10 #[pt_ q.pp, .int .i64 (t : Int)] w fun e w' => e = .returned (.bool (Y.any t)) ∧ ∃ own' o2', PI W w' P own' q o2' (Y.pick t) ∧ FP w own o2 w' own' o2' := by
  cases hb : (Y.S.th t).busy with
  | true => exact pick_busy h hp hb ok
  | false =>
    cases hl : Y.left.getD t [] with
    | nil =>
      have ha : Y.any t = false := by unfold Py.any; rw [hb, hl]; rfl
      refine (pick_none h hp hb hl).mono ?_
      rintro e w' ⟨rfl, rfl⟩
      refine ⟨by rw [ha], own, o2, ?_, FP.refl _ _ _⟩
      unfold Py.pick
      rw [if_neg (by rw [ha]; decide)]
      exact h
    | cons op l => exact pick_begin h hp hb hl ok
end Go.Proofs.YtghjnkfocjjlnaaGreat
