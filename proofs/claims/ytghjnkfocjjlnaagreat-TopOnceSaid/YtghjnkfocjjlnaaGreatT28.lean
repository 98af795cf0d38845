/- A player's pick. -/
import Derived.Test.YtghjnkfocjjlnaaGreatT00
import Derived.Test.YtghjnkfocjjlnaaGreatT27
set_option linter.unusedSimpArgs false
set_option linter.unusedVariables false
namespace Go.Proofs.YtghjnkfocjjlnaaGreat
set_option maxRecDepth 100000
open Go.RowKit Go.Proofs.YtghjnkfocjjlnaaGreatW.PrintWords Go.Proofs.YtghjnkfocjjlnaaGreatW.PrintLast
set_option linter.unusedVariables false
set_option linter.unusedSimpArgs false
theorem LeftAt.form {w : World} {o2 : Nat → Option Po} {v : Value} {l : List OpR} (h : LeftAt w o2 v l) : ∃ ad cap, v = .slice ad l.length cap := by
  rcases h with ⟨rfl, rfl⟩ | ⟨b, off, cap, cs, rest, rfl, _⟩
  · exact ⟨_, _, rfl⟩
  · exact ⟨_, _, rfl⟩
theorem info_event : (Tryz.prog.info? 47).map (fun i => (i.zero, i.size, i.bytes)) = some (some (.agg #[.int .i64 0, .bool false, .int .i64 0, .int .i64 0, .int .i64 0, .int .i64 0, .int .i64 0, .bool false, .int .i64 0, .int .i64 0, .int .i64 0, .slice none 0 0]), 12, 112) := by kernel_rfl
/-- Region 5 of pick: the world behind it. -/
def taken (w : World) (q : Pq) (t : Nat) (v : Value) (op : OpR) : World :=
  ((((w.setCell ⟨q.lb, t, none⟩ v).setCell ⟨q.ob, t * 4, none⟩ (.int .i64 op.kind)).setCell ⟨q.ob, t * 4 + 1, none⟩ (.int .i64 op.key)).setCell ⟨q.ob, t * 4 + 2, none⟩ (.int .i64 op.hi)).setCell ⟨q.ob, t * 4 + 3, none⟩ (.int .i64 op.val)
theorem taken_other (w : World) {q : Pq} (t : Nat) (v : Value) (op : OpR) {b : Nat} (h1 : b ≠ q.lb) (h2 : b ≠ q.ob) : (taken w q t v op).heap[b]? = w.heap[b]? := by
  unfold taken
  rw [setCell_other _ h2, setCell_other _ h2, setCell_other _ h2, setCell_other _ h2, setCell_other _ h1]
theorem taken_size (w : World) (q : Pq) (t : Nat) (v : Value) (op : OpR) : (taken w q t v op).heap.size = w.heap.size := by
  unfold taken; simp [World.setCell]
theorem PI.taken {W w : World} {P : Pl} {own : Own} {q : Pq} {o2 : Nat → Option Po} {Y : Py} {lcs ocs : Array Value} {lcap ocap : Nat} {hv : Value} {hs : List Value} (h : PI W w P own q o2 Y) (hp : PyAt w P.px P.pts.length q o2 Y lcs ocs lcap ocap hv hs) {t : Nat} (ht : t < P.pts.length) {op : OpR} {l : List OpR} {v : Value} (hv' : LeftAt w o2 v l) :
    PI W (Go.Proofs.YtghjnkfocjjlnaaGreat.taken w q t v op) P own q o2 { Y with left := Y.left.set t l, ops := Y.ops.set t op } := by
  have hlo : q.lb ≠ q.ob := by intro e; have h1 := hp.olb; rw [e, hp.oob] at h1; cases h1
  have f1 := (h.free _ _ hp.olb).2
  have f2 := (h.free _ _ hp.oob).2
  refine h.take hp ht hv' (op := op) ?_ ?_ (fun b => taken_other w t v op) ?_ (taken_size w q t v op)
  · unfold Go.Proofs.YtghjnkfocjjlnaaGreat.taken
    rw [setCell_other _ hlo, setCell_other _ hlo, setCell_other _ hlo, setCell_other _ hlo]
    exact heap_setCell_same w q.lb t _ _ _ hp.lblk
  · unfold Go.Proofs.YtghjnkfocjjlnaaGreat.taken
    exact heap_setCell_same _ q.ob _ _ _ _ (heap_setCell_same _ q.ob _ _ _ _ (heap_setCell_same _ q.ob _ _ _ _ (heap_setCell_same _ q.ob _ _ _ _ ((setCell_other _ hlo.symm).trans hp.oblk))))
  · unfold Go.Proofs.YtghjnkfocjjlnaaGreat.taken
    exact ((((h.is.below.setCell f1.1 _).setCell f2.1 _).setCell f2.1 _).setCell f2.1 _).setCell f2.1 _
theorem FP.taken {w : World} {px n : Nat} {own : Own} {q : Pq} {o2 : Nat → Option Po} {Y : Py} {lcs ocs : Array Value} {lcap ocap : Nat} {hv : Value} {hs : List Value} (hp : PyAt w px n q o2 Y lcs ocs lcap ocap hv hs) (t : Nat) (op : OpR) (v : Value) : FP w own o2 (Go.Proofs.YtghjnkfocjjlnaaGreat.taken w q t v op) own o2 :=
  ⟨Nat.le_of_eq (taken_size w q t v op).symm, fun b hb h1 h2 => ⟨h1, rfl, taken_other w t v op (by rintro rfl; rcases h2 with h2 | h2 <;> rw [hp.olb] at h2 <;> cases h2) (by rintro rfl; rcases h2 with h2 | h2 <;> rw [hp.oob] at h2 <;> cases h2)⟩⟩
theorem begun_idle {Y : Py} {t : Nat} {op : OpR} {l : List OpR} (hb : (Y.S.th t).busy = false) (hl : Y.left.getD t [] = op :: l) : Y.begun t = { S := Y.S.callAt t op, left := Y.left.set t l, ops := Y.ops.set t op, h := Y.h ++ [⟨(t : Int), false, op, ans0⟩] } := by
  unfold Py.begun; rw [if_neg (by rw [hb]; decide), hl]
theorem begun_busy {Y : Py} {t : Nat} (hb : (Y.S.th t).busy = true) : Y.begun t = Y := by unfold Py.begun; rw [if_pos hb]
/-- What a pick asks. -/
structure PickOK (Y : Py) (t : Nat) : Prop where
  op : ∀ op l, (Y.S.th t).busy = false → Y.left.getD t [] = op :: l → OpK op
  busy : Y.any t = true → ((Y.begun t).S.th t).busy = true
  next : Y.any t = true → ∃ k, ((Y.begun t).S.th t).next = some k ∧ OKN ((Y.begun t).S.rest t) t k
  over : Y.any t = true → (((Y.begun t).stepped t).S.th t).busy = false → (((Y.begun t).stepped t).S.th t).over = true ∧ (((Y.begun t).stepped t).S.th t).ans.pairs.length ≤ 1000000
  len : Y.h.length ≤ 999998
theorem ends_fk {W w : World} {P : Pl} {own : Own} {S : Ix} {w' : World} (h : Ends W P w own S w') : ∃ own', IS W w' P own' S ∧ FK w own w' own' := h
theorem begun_len (Y : Py) (t : Nat) : (Y.begun t).h.length ≤ Y.h.length + 1 := by
  unfold Py.begun
  split
  · omega
  · split <;> simp
theorem stepped_h (Y : Py) (t : Nat) : (Y.stepped t).h = Y.h ∧ (Y.stepped t).ops = Y.ops := by
  unfold Py.stepped; split <;> exact ⟨rfl, rfl⟩
theorem stepped_busy {Y : Py} {t : Nat} (h : (Y.S.th t).busy = true) : Y.stepped t = { Y with S := Y.S.step t } := by unfold Py.stepped; rw [if_pos h]
theorem ownsRow_form {w : World} {B : Nat} {e : TypeId} {size : Nat} {v : Value} {n : Nat} {xs : List Value} (h : w.ownsRow B e size v n xs) : ∃ ad c, v = .slice ad n c := by
  rcases h.2 with ⟨rfl, rfl, _⟩ | ⟨g, cap, cur, rfl, _⟩
  · exact ⟨_, _, rfl⟩
  · exact ⟨_, _, rfl⟩
set_option maxRecDepth 100000 in
set_option maxHeartbeats 4000000 in
theorem pick_none {W w : World} {P : Pl} {own : Own} {q : Pq} {o2 : Nat → Option Po} {Y : Py} (h : PI W w P own q o2 Y) {t p : Nat} (hp : P.pts[t]? = some p) (hb : (Y.S.th t).busy = false) (hl : Y.left.getD t [] = []) :
    Calls Tryz.prog 10 #[pt_ q.pp, .int .i64 (t : Int)] w fun e w' => e = .returned (.bool false) ∧ w = w' := by
  obtain ⟨lcs, ocs, lcap, ocap, hv, hs, hpy⟩ := h.at_
  have PY := Lib.hid hpy
  have H := Lib.hid h
  have HP := Lib.hid hp
  have htn : t < P.pts.length := (List.getElem?_eq_some_iff.1 hp).1
  have c0 : w.cell? ⟨q.pp, 0, none⟩ = some (pt_ P.px) := cell_blk (i := 0) hpy.blk rfl
  have c1 : w.cell? ⟨q.pp, 1, none⟩ = some (.slice (some ⟨q.lb, 0, none⟩) P.pts.length lcap) := cell_blk (i := 1) hpy.blk rfl
  have c2 : w.cell? ⟨q.pp, 2, none⟩ = some (.slice (some ⟨q.ob, 0, none⟩) P.pts.length ocap) := cell_blk (i := 2) hpy.blk rfl
  have c3 : w.cell? ⟨q.pp, 3, none⟩ = some hv := cell_blk (i := 3) hpy.blk rfl
  obtain ⟨v, hv1, hv2⟩ := hpy.left t htn
  rw [hl] at hv2
  obtain ⟨ad, cap, rfl⟩ := hv2.form
  have cl : w.cell? ⟨q.lb, t, none⟩ = some (.slice ad 0 cap) := cell_blk (i := t) hpy.lblk hv1
  obtain ⟨n, hn⟩ : ∃ n, n = P.pts.length := ⟨_, rfl⟩
  rw [← hn] at c1 c2 htn
  have q0 : ¬ ((t : Int) < 0) := by omega
  have q1 : ¬ ((n : Int) ≤ (t : Int)) := by omega
  clear h hp hpy hv1 hv2
  go_enter Tryz.func10, Tryz.ntmps10
  go_wp2_with fail
  refine (xbusy_any H.out.is HP.out).mono ?_
  rintro e w' ⟨rfl, rfl⟩
  rw [hb]
  go_wp2_with fail
  go_ret
  exact ⟨rfl, rfl⟩
set_option maxRecDepth 100000 in
set_option maxHeartbeats 4000000 in
theorem pick_begin {W w : World} {P : Pl} {own : Own} {q : Pq} {o2 : Nat → Option Po} {Y : Py} (h : PI W w P own q o2 Y) {t p : Nat} (hp : P.pts[t]? = some p) (hb : (Y.S.th t).busy = false) {op : OpR} {l : List OpR} (hl : Y.left.getD t [] = op :: l) (ok : PickOK Y t) :
    Calls Tryz.prog 10 #[pt_ q.pp, .int .i64 (t : Int)] w fun e w' => e = .returned (.bool (Y.any t)) ∧ ∃ own' o2', PI W w' P own' q o2' (Y.pick t) ∧ FP w own o2 w' own' o2' := by
  have hk := ok.op _ _ hb hl
  have hlen : Y.h.length ≤ 1000000 := by have := ok.len; omega
  have OK := Lib.hid ok
  clear ok
  obtain ⟨lcs, ocs, lcap, ocap, hv, hs, hpy⟩ := h.at_
  have PY := Lib.hid hpy
  have H := Lib.hid h
  have HP := Lib.hid hp
  have htn : t < P.pts.length := (List.getElem?_eq_some_iff.1 hp).1
  have c0 : w.cell? ⟨q.pp, 0, none⟩ = some (pt_ P.px) := cell_blk (i := 0) hpy.blk rfl
  have c1 : w.cell? ⟨q.pp, 1, none⟩ = some (.slice (some ⟨q.lb, 0, none⟩) P.pts.length lcap) := cell_blk (i := 1) hpy.blk rfl
  have c2 : w.cell? ⟨q.pp, 2, none⟩ = some (.slice (some ⟨q.ob, 0, none⟩) P.pts.length ocap) := cell_blk (i := 2) hpy.blk rfl
  have c3 : w.cell? ⟨q.pp, 3, none⟩ = some hv := cell_blk (i := 3) hpy.blk rfl
  obtain ⟨v, hv1, hv2⟩ := hpy.left t htn
  rw [hl] at hv2
  obtain ⟨b, off, cap, cs, rest, rfl, hcl, hcm, hbo, hbb, hdr⟩ : ∃ b off cap cs rest, v = .slice (some ⟨b, off, none⟩) (l.length + 1) cap ∧ l.length + 1 ≤ cap ∧ cap ≤ maxLen ∧ o2 b = some .ro ∧ w.heap[b]? = some (.cells cs 32 (0, 0)) ∧ cs.toList.drop off = opL op ++ l.flatMap opL ++ rest := by
    rcases hv2 with ⟨_, h2⟩ | ⟨b, off, cap, cs, rest, h1, h2, h3, h4, h5, h6⟩
    · cases h2
    · exact ⟨b, off, cap, cs, rest, h1, h2, h3, h4, h5, by rw [h6]; simp [List.append_assoc]⟩
  have cl : w.cell? ⟨q.lb, t, none⟩ = some (.slice (some ⟨b, off, none⟩) (l.length + 1) cap) := cell_blk (i := t) hpy.lblk hv1
  have hcs : ∀ k, k < 4 → cs[off + k]? = (opL op)[k]? := fun k hk => by
    rw [← Array.getElem?_toList, ← List.getElem?_drop, hdr, List.append_assoc, List.getElem?_append_left (by simpa [opL] using hk)]
  have o0 : w.cell? ⟨b, off, none⟩ = some (.int .i64 op.kind) := cell_blk (i := off) hbb (hcs 0 (by omega))
  have o1 : w.cell? ⟨b, off + 1, none⟩ = some (.int .i64 op.key) := cell_blk (i := off + 1) hbb (hcs 1 (by omega))
  have o2_ : w.cell? ⟨b, off + 2, none⟩ = some (.int .i64 op.hi) := cell_blk (i := off + 2) hbb (hcs 2 (by omega))
  have o3 : w.cell? ⟨b, off + 3, none⟩ = some (.int .i64 op.val) := cell_blk (i := off + 3) hbb (hcs 3 (by omega))
  obtain ⟨n, hn⟩ : ∃ n, n = P.pts.length := ⟨_, rfl⟩
  rw [← hn] at c1 c2 htn
  have q0 : ¬ ((t : Int) < 0) := by omega
  have q1 : ¬ ((n : Int) ≤ (t : Int)) := by omega
  have q2 : ¬ (((l.length + 1 : Nat) : Int) = 0) := by omega
  have q3 : ¬ (((l.length + 1 : Nat) : Int) ≤ 0) := by omega
  have q4 : (1 : Int) ≤ (l.length : Int) + 1 := by omega
  obtain ⟨off2, hoff⟩ : ∃ off2, off2 = if cap = 1 then off else off + 4 := ⟨_, rfl⟩
  have q5 : (if cap = 1 then some (⟨b, off, none⟩ : Addr) else some ⟨b, off + 4, none⟩) = some ⟨b, off2, none⟩ := by rw [hoff]; split <;> rfl
  have HOFF := Lib.hid hoff
  clear hoff
  have HN := Lib.hid hn
  have HV := Lib.hid hv1
  have HV2 := Lib.hid (show LeftAt w o2 (.slice (some ⟨b, if cap = 1 then off else off + 4, none⟩) l.length (cap - 1)) l from .inr ⟨b, _, _, cs, if cap = 1 then opL op ++ rest else rest, rfl, by omega, by omega, hbo, hbb, by
    by_cases e : cap = 1
    · have hl0 : l = [] := List.eq_nil_of_length_eq_zero (by omega)
      subst hl0
      rw [if_pos e, if_pos e, hdr]; simp
    · rw [if_neg e, if_neg e, show off + 4 = off + 4 from rfl, ← List.drop_drop, hdr]; simp [opL]⟩)
  clear h hp hpy hv1 hv2 hcs hn
  go_enter Tryz.func10, Tryz.ntmps10
  go_wp2_with fail
  refine (xbusy_any H.out.is HP.out).mono ?_
  rintro e w' ⟨rfl, rfl⟩
  rw [hb]
  go_wp2_with fail
  have A5 := Lib.hid (heap_alloc_new w (.cells #[.int .i64 op.kind, .int .i64 op.key, .int .i64 op.hi, .int .i64 op.val] 32))
  have B5 := Lib.hid ((Below.refl w.heap.size w).alloc (Nat.le_refl _) (.cells #[.int .i64 op.kind, .int .i64 op.key, .int .i64 op.hi, .int .i64 op.val] 32))
  have H5 := Lib.hid (H.out.later B5.out)
  have SZ5 : (w.alloc (.cells #[.int .i64 op.kind, .int .i64 op.key, .int .i64 op.hi, .int .i64 op.val] 32)).heap.size = w.heap.size + 1 := by simp
  generalize (w.alloc (.cells #[.int .i64 op.kind, .int .i64 op.key, .int .i64 op.hi, .int .i64 op.val] 32)) = w5 at A5 B5 H5 SZ5 ⊢
  have bp5 := Lib.hid ((B5.out.block q.pp (H.out.free _ _ PY.out.opp).2.2).trans PY.out.blk)
  have bl5 := Lib.hid ((B5.out.block q.lb (H.out.free _ _ PY.out.olb).2.2).trans PY.out.lblk)
  have bo5 := Lib.hid ((B5.out.block q.ob (H.out.free _ _ PY.out.oob).2.2).trans PY.out.oblk)
  have hlo : q.lb ≠ q.ob := by intro e; have h1 := PY.out.olb; rw [e, PY.out.oob] at h1; cases h1
  have hlp : q.lb ≠ q.pp := by intro e; have h1 := PY.out.olb; rw [e, PY.out.opp] at h1; cases h1
  have hop : q.ob ≠ q.pp := by intro e; have h1 := PY.out.oob; rw [e, PY.out.opp] at h1; cases h1
  have hlw : q.lb < w.heap.size := (H.out.free _ _ PY.out.olb).2.2
  have how : q.ob < w.heap.size := (H.out.free _ _ PY.out.oob).2.2
  have fl5 := free_blk (i := t) bl5.out
  have cl5 := cell_blk (i := t) bl5.out HV.out
  have fo5_0 := free_blk (i := t * 4) bo5.out
  have fo5_1 := free_blk (i := t * 4 + 1) bo5.out
  have fo5_2 := free_blk (i := t * 4 + 2) bo5.out
  have fo5_3 := free_blk (i := t * 4 + 3) bo5.out
  have co5_0 : w5.cell? ⟨q.ob, t * 4, none⟩ = some (.int .i64 (Y.ops.getD t op0).kind) := cell_blk (i := t * 4 + 0) bo5.out (PY.out.ops t (by rw [← HN.out]; exact htn) 0 (by decide))
  have co5_1 : w5.cell? ⟨q.ob, t * 4 + 1, none⟩ = some (.int .i64 (Y.ops.getD t op0).key) := cell_blk (i := t * 4 + 1) bo5.out (PY.out.ops t (by rw [← HN.out]; exact htn) 1 (by decide))
  have co5_2 : w5.cell? ⟨q.ob, t * 4 + 2, none⟩ = some (.int .i64 (Y.ops.getD t op0).hi) := cell_blk (i := t * 4 + 2) bo5.out (PY.out.ops t (by rw [← HN.out]; exact htn) 2 (by decide))
  have co5_3 : w5.cell? ⟨q.ob, t * 4 + 3, none⟩ = some (.int .i64 (Y.ops.getD t op0).val) := cell_blk (i := t * 4 + 3) bo5.out (PY.out.ops t (by rw [← HN.out]; exact htn) 3 (by decide))
  have HC1 := Lib.hid (show w5.cell? ⟨q.pp, 1, none⟩ = some (.slice (some ⟨q.lb, 0, none⟩) n lcap) from by rw [HN.out]; exact cell_blk (i := 1) bp5.out rfl)
  have HC2 := Lib.hid (show w5.cell? ⟨q.pp, 2, none⟩ = some (.slice (some ⟨q.ob, 0, none⟩) n ocap) from by rw [HN.out]; exact cell_blk (i := 2) bp5.out rfl)
  have cl5d := drew_cell cl5
  refine start_ (n := 23) (S := fun w' => w'.cell? ⟨q.pp, 1, none⟩ = some (.slice (some ⟨q.lb, 0, none⟩) n lcap) ∧ w'.cell? ⟨q.pp, 2, none⟩ = some (.slice (some ⟨q.ob, 0, none⟩) n ocap) ∧ w'.cell? ⟨w.heap.size, 0, none⟩ = some (.int .i64 op.kind) ∧ w'.cell? ⟨w.heap.size, 1, none⟩ = some (.int .i64 op.key) ∧ w'.cell? ⟨w.heap.size, 2, none⟩ = some (.int .i64 op.hi) ∧ w'.cell? ⟨w.heap.size, 3, none⟩ = some (.int .i64 op.val)) (ds := [22]) (bz 23 0).toArray (by kernel_rfl) rfl rfl ⟨(drew_cell HC1.out), (drew_cell HC2.out), (drew_cell (cell_blk (i := 0) A5.out rfl)), (drew_cell (cell_blk (i := 1) A5.out rfl)), (drew_cell (cell_blk (i := 2) A5.out rfl)), (drew_cell (cell_blk (i := 3) A5.out rfl))⟩ (fun hHeld => ?_)
  refine pure_ (i := 0) (N := some 33) (v := ?_) (a' := ?_) (bz 23 1).toArray rfl rfl (by kernel_rfl) (fun _ _ _ h => h) (Or.inl ⟨by rfl, ?_⟩) ?_ ?_
  rotate_left
  · intro w'
    go_simp
    with_reducible rfl
  rotate_left
  · simp only [Act.put, sqA, sqZ, sqS, i64_w, i32_w]
    rfl
  refine pure_ (i := 1) (N := some 34) (v := ?_) (a' := ?_) (bz 23 3).toArray rfl rfl (by kernel_rfl) (fun _ _ _ h => h) (Or.inl ⟨by rfl, ?_⟩) ?_ ?_
  rotate_left
  · intro w'
    go_simp
    with_reducible rfl
  rotate_left
  · simp only [Act.put, sqA, sqZ, sqS, i64_w, i32_w]
    rfl
  refine pure_ (i := 2) (N := some 35) (v := ?_) (a' := ?_) (bz 23 7).toArray rfl rfl (by kernel_rfl) (fun _ _ _ h => h) (Or.inl ⟨by rfl, ?_⟩) ?_ ?_
  rotate_left
  · intro w'
    go_simp
    with_reducible rfl
  rotate_left
  · simp only [Act.put, sqA, sqZ, sqS, i64_w, i32_w]
    rfl
  refine pure_ (i := 4) (N := some 37) (v := ?_) (a' := ?_) (bz 23 23).toArray rfl rfl (by kernel_rfl) (fun _ _ _ h => h) (Or.inl ⟨by rfl, ?_⟩) ?_ ?_
  rotate_left
  · intro w'
    go_simp
    with_reducible rfl
  rotate_left
  · simp only [Act.put, sqA, sqZ, sqS, i64_w, i32_w]
    rfl
  refine pure_ (i := 5) (N := some 38) (v := ?_) (a' := ?_) (bz 23 55).toArray rfl rfl (by kernel_rfl) (fun _ _ _ h => h) (Or.inl ⟨by rfl, ?_⟩) ?_ ?_
  rotate_left
  · intro w'
    go_simp
    with_reducible rfl
  rotate_left
  · simp only [Act.put, sqA, sqZ, sqS, i64_w, i32_w]
    rfl
  refine pure_ (i := 6) (N := some 39) (v := ?_) (a' := ?_) (bz 23 119).toArray rfl rfl (by kernel_rfl) (fun _ _ _ h => h) (Or.inl ⟨by rfl, ?_⟩) ?_ ?_
  rotate_left
  · intro w'
    go_simp
    with_reducible rfl
  rotate_left
  · simp only [Act.put, sqA, sqZ, sqS, i64_w, i32_w]
    rfl
  refine pure_ (i := 7) (N := some 40) (v := ?_) (a' := ?_) (bz 23 247).toArray rfl rfl (by kernel_rfl) (fun _ _ _ h => h) (Or.inl ⟨by rfl, ?_⟩) ?_ ?_
  rotate_left
  · intro w'
    go_simp
    with_reducible rfl
  rotate_left
  · simp only [Act.put, sqA, sqZ, sqS, i64_w, i32_w]
    rfl
  refine pure_ (i := 9) (N := some 42) (v := ?_) (a' := ?_) (bz 23 759).toArray rfl rfl (by kernel_rfl) (fun _ _ _ h => h) (Or.inl ⟨by rfl, ?_⟩) ?_ ?_
  rotate_left
  · intro w'
    go_simp
    with_reducible rfl
  rotate_left
  · simp only [Act.put, sqA, sqZ, sqS, i64_w, i32_w]
    rfl
  refine pure_ (i := 10) (N := some 43) (v := ?_) (a' := ?_) (bz 23 1783).toArray rfl rfl (by kernel_rfl) (fun _ _ _ h => h) (Or.inl ⟨by rfl, ?_⟩) ?_ ?_
  rotate_left
  · intro w'
    go_simp
    with_reducible rfl
  rotate_left
  · simp only [Act.put, sqA, sqZ, sqS, i64_w, i32_w]
    rfl
  refine pure_ (i := 11) (N := some 44) (v := ?_) (a' := ?_) (bz 23 3831).toArray rfl rfl (by kernel_rfl) (fun _ _ _ h => h) (Or.inl ⟨by rfl, ?_⟩) ?_ ?_
  rotate_left
  · intro w'
    go_simp
    with_reducible rfl
  rotate_left
  · simp only [Act.put, sqA, sqZ, sqS, i64_w, i32_w]
    rfl
  refine pure_ (i := 12) (N := some 45) (v := ?_) (a' := ?_) (bz 23 7927).toArray rfl rfl (by kernel_rfl) (fun _ _ _ h => h) (Or.inl ⟨by rfl, ?_⟩) ?_ ?_
  rotate_left
  · intro w'
    go_simp
    with_reducible rfl
  rotate_left
  · simp only [Act.put, sqA, sqZ, sqS, i64_w, i32_w]
    rfl
  refine pure_ (i := 14) (N := some 47) (v := ?_) (a' := ?_) (bz 23 24311).toArray rfl rfl (by kernel_rfl) (fun _ _ _ h => h) (Or.inl ⟨by rfl, ?_⟩) ?_ ?_
  rotate_left
  · intro w'
    go_simp
    with_reducible rfl
  rotate_left
  · simp only [Act.put, sqA, sqZ, sqS, i64_w, i32_w]
    rfl
  refine take_ (i := 3) (N := some 36) (v := ?_) (a' := ?_) (bz 23 24319).toArray rfl rfl (by kernel_rfl) (fun _ _ _ h => h) (Or.inl ⟨by rfl, ?_⟩) hHeld ?_ ?_
  rotate_left
  · rintro w' ⟨s0, s1, s2, s3, s4, s5⟩
    go_simp
    with_reducible rfl
  rotate_left
  · simp only [Act.put, sqA, sqZ, sqS, i64_w, i32_w]
    rfl
  refine take_ (i := 8) (N := some 41) (v := ?_) (a' := ?_) (bz 23 24575).toArray rfl rfl (by kernel_rfl) (fun _ _ _ h => h) (Or.inl ⟨by rfl, ?_⟩) hHeld ?_ ?_
  rotate_left
  · rintro w' ⟨s0, s1, s2, s3, s4, s5⟩
    go_simp
    with_reducible rfl
  rotate_left
  · simp only [Act.put, sqA, sqZ, sqS, i64_w, i32_w]
    rfl
  refine take_ (i := 13) (N := some 46) (v := ?_) (a' := ?_) (bz 23 32767).toArray rfl rfl (by kernel_rfl) (fun _ _ _ h => h) (Or.inl ⟨by rfl, ?_⟩) hHeld ?_ ?_
  rotate_left
  · rintro w' ⟨s0, s1, s2, s3, s4, s5⟩
    go_simp
    with_reducible rfl
  rotate_left
  · simp only [Act.put, sqA, sqZ, sqS, i64_w, i32_w]
    rfl
  refine pure_ (i := 15) (N := some 48) (v := ?_) (a' := ?_) (bz 23 65535).toArray rfl rfl (by kernel_rfl) (fun _ _ _ h => h) (Or.inl ⟨by rfl, ?_⟩) ?_ ?_
  rotate_left
  · intro w'
    go_simp
    with_reducible rfl
  rotate_left
  · simp only [Act.put, sqA, sqZ, sqS, i64_w, i32_w]
    rfl
  refine take_ (i := 18) (N := some 51) (v := ?_) (a' := ?_) (bz 23 327679).toArray rfl rfl (by kernel_rfl) (fun _ _ _ h => h) (Or.inl ⟨by rfl, ?_⟩) hHeld ?_ ?_
  rotate_left
  · rintro w' ⟨s0, s1, s2, s3, s4, s5⟩
    go_simp
    with_reducible rfl
  rotate_left
  · simp only [Act.put, sqA, sqZ, sqS, i64_w, i32_w]
    rfl
  refine one_ (i := 16) (N := some 49) (bz 23 393215).toArray rfl rfl (by kernel_rfl) (by decide) (fun K hK => ?_)
  refine value_ (w1 := ?_) (v := ?_) (by rfl) rfl ?_ ?_
  rotate_left 2
  · go_simp
    constructor
    · rfl
    · rfl
  refine hK.out _ _ ⟨(drew_cell HC1.out), (drew_cell HC2.out), (drew_cell (cell_blk (i := 0) A5.out rfl)), (drew_cell (cell_blk (i := 1) A5.out rfl)), (drew_cell (cell_blk (i := 2) A5.out rfl)), (drew_cell (cell_blk (i := 3) A5.out rfl))⟩ ?_
  clear hHeld
  intro hHeld
  clear hK K
  refine norm_ (a' := ?_) ?_ ?_
  rotate_left
  · show Act.put _ (some 49) _ = _
    simp only [Act.put, sqA, sqZ, sqS, i64_w, i32_w]
    rfl
  refine pure_ (i := 17) (N := some 50) (v := ?_) (a' := ?_) (bz 23 524287).toArray rfl rfl (by kernel_rfl) (fun _ _ _ h => h) (Or.inl ⟨by rfl, ?_⟩) ?_ ?_
  rotate_left
  · intro w'
    go_simp
    with_reducible rfl
  rotate_left
  · simp only [Act.put, sqA, sqZ, sqS, i64_w, i32_w]
    rfl
  refine pure_ (i := 19) (N := some 52) (v := ?_) (a' := ?_) (bz 23 1048575).toArray rfl rfl (by kernel_rfl) (fun _ _ _ h => h) (Or.inl ⟨by rfl, ?_⟩) ?_ ?_
  rotate_left
  · intro w'
    go_simp
    with_reducible rfl
  rotate_left
  · simp only [Act.put, sqA, sqZ, sqS, i64_w, i32_w]
    rfl
  refine one_ (i := 20) (N := none) (bz 23 2097151).toArray rfl rfl (by kernel_rfl) (by decide) (fun K hK => ?_)
  refine skip_ (w1 := ?_) (by rfl) rfl ?_ ?_
  rotate_left
  · go_simp
    rfl
  refine hK.out _ _ ⟨((cell_set_other hlp.symm).trans (drew_cell HC1.out)), ((cell_set_other hlp.symm).trans (drew_cell HC2.out)), ((cell_set_other (by omega)).trans (drew_cell (cell_blk (i := 0) A5.out rfl))), ((cell_set_other (by omega)).trans (drew_cell (cell_blk (i := 1) A5.out rfl))), ((cell_set_other (by omega)).trans (drew_cell (cell_blk (i := 2) A5.out rfl))), ((cell_set_other (by omega)).trans (drew_cell (cell_blk (i := 3) A5.out rfl)))⟩ ?_
  clear hHeld
  intro hHeld
  clear hK K
  refine pure_ (i := 21) (N := some 53) (v := ?_) (a' := ?_) (bz 23 4194303).toArray rfl rfl (by kernel_rfl) (fun _ _ _ h => h) (Or.inl ⟨by rfl, ?_⟩) ?_ ?_
  rotate_left
  · intro w'
    go_simp
    with_reducible rfl
  rotate_left
  · simp only [Act.put, sqA, sqZ, sqS, i64_w, i32_w]
    rfl
  refine lastdone_ (i := 22) (N := none) (bz 23 8388607).toArray rfl rfl (by kernel_rfl) (by decide) (by kernel_rfl) (fun K hK => ?_)
  refine skip_ (w1 := ?_) (by rfl) rfl ?_ ?_
  rotate_left
  · go_simp
    rfl
  refine hK.out _ _ ?_
  clear hK K
  have PY5 := Lib.hid (PY.out.keep Y.S (fun b o ho => B5.out.block b (H.out.free b o ho).2.2))
  have F5 := Lib.hid (((FP.below (own := own) (o2 := o2) B5.out).trans (FP.taken PY5.out t op (.slice (some ⟨b, off2, none⟩) l.length (cap - 1)))).trans (FP.below (Below.refl _ _).drew))
  have hv2 := (show LeftAt w o2 (.slice (some ⟨b, off2, none⟩) l.length (cap - 1)) l from by rw [HOFF.out]; exact HV2.out).keep (fun b hb => ⟨hb, B5.out.block b (H.out.free b _ hb).2.2⟩)
  have H6 := Lib.hid ((H5.out.taken PY5.out (by rw [← HN.out]; exact htn) (op := op) (l := l) (v := (.slice (some ⟨b, off2, none⟩) l.length (cap - 1))) hv2).later (Below.refl _ _).drew)
  have A6 := Lib.hid (show (taken w5 q t (.slice (some ⟨b, off2, none⟩) l.length (cap - 1)) op).drew.heap[w.heap.size]? = _ from (taken_other w5 t _ op (by omega) (by omega)).trans A5.out)
  have FR6 := Lib.hid (H.out.is.none_new (Nat.le_refl w.heap.size))
  change Exit.then _ _ _ _ (taken w5 q t (.slice (some ⟨b, off2, none⟩) l.length (cap - 1)) op).drew
  have SZ6 : w.heap.size < (taken w5 q t (.slice (some ⟨b, off2, none⟩) l.length (cap - 1)) op).drew.heap.size := by show _ < (taken w5 q t (.slice (some ⟨b, off2, none⟩) l.length (cap - 1)) op).heap.size; rw [taken_size]; omega
  generalize (taken w5 q t (.slice (some ⟨b, off2, none⟩) l.length (cap - 1)) op).drew = w6 at H6 A6 SZ6 F5 ⊢
  clear fl5 cl5 cl5d HC1 HC2 bp5 bl5 bo5 hlo hlp hop hlw how fo5_0 co5_0 fo5_1 co5_1 fo5_2 co5_2 fo5_3 co5_3
  clear c0 c1 c2 c3 cl o0 o1 o2_ o3 q0 q1 q2 q3 q4 q5
  go_wp2_with fail
  have H6d := Lib.hid (H6.out.later (Below.refl _ _).drew)
  obtain ⟨lcs6, ocs6, lcap6, ocap6, hv6, hs6, py6⟩ := H6.out.at_
  have PY6 := Lib.hid py6
  clear py6
  have cc := xcall_any H6d.out.is HP.out (op := op) hb hk
  have CC := Lib.hid cc
  clear cc
  refine start_ (n := 7) (S := fun w' => w'.cell? ⟨q.pp, 0, none⟩ = some (pt_ P.px) ∧ w'.cell? ⟨w.heap.size, 0, none⟩ = some (.int .i64 op.kind) ∧ w'.cell? ⟨w.heap.size, 1, none⟩ = some (.int .i64 op.key) ∧ w'.cell? ⟨w.heap.size, 2, none⟩ = some (.int .i64 op.hi) ∧ w'.cell? ⟨w.heap.size, 3, none⟩ = some (.int .i64 op.val)) (ds := [6]) (bz 7 0).toArray (by kernel_rfl) rfl rfl ⟨(drew_cell (cell_blk (i := 0) PY6.out.blk rfl)), (drew_cell (cell_blk (i := 0) A6.out rfl)), (drew_cell (cell_blk (i := 1) A6.out rfl)), (drew_cell (cell_blk (i := 2) A6.out rfl)), (drew_cell (cell_blk (i := 3) A6.out rfl))⟩ (fun hHeld => ?_)
  refine pure_ (i := 0) (N := some 54) (v := ?_) (a' := ?_) (bz 7 1).toArray rfl rfl (by kernel_rfl) (fun _ _ _ h => h) (Or.inl ⟨by rfl, ?_⟩) ?_ ?_
  rotate_left
  · intro w'
    go_simp
    with_reducible rfl
  rotate_left
  · simp only [Act.put, sqA, sqZ, sqS, i64_w, i32_w]
    rfl
  refine pure_ (i := 1) (N := some 55) (v := ?_) (a' := ?_) (bz 7 3).toArray rfl rfl (by kernel_rfl) (fun _ _ _ h => h) (Or.inl ⟨by rfl, ?_⟩) ?_ ?_
  rotate_left
  · intro w'
    go_simp
    with_reducible rfl
  rotate_left
  · simp only [Act.put, sqA, sqZ, sqS, i64_w, i32_w]
    rfl
  refine pure_ (i := 2) (N := some 56) (v := ?_) (a' := ?_) (bz 7 7).toArray rfl rfl (by kernel_rfl) (fun _ _ _ h => h) (Or.inl ⟨by rfl, ?_⟩) ?_ ?_
  rotate_left
  · intro w'
    go_simp
    with_reducible rfl
  rotate_left
  · simp only [Act.put, sqA, sqZ, sqS, i64_w, i32_w]
    rfl
  refine pure_ (i := 4) (N := some 58) (v := ?_) (a' := ?_) (bz 7 23).toArray rfl rfl (by kernel_rfl) (fun _ _ _ h => h) (Or.inl ⟨by rfl, ?_⟩) ?_ ?_
  rotate_left
  · intro w'
    go_simp
    with_reducible rfl
  rotate_left
  · simp only [Act.put, sqA, sqZ, sqS, i64_w, i32_w]
    rfl
  refine take_ (i := 3) (N := some 57) (v := ?_) (a' := ?_) (bz 7 31).toArray rfl rfl (by kernel_rfl) (fun _ _ _ h => h) (Or.inl ⟨by rfl, ?_⟩) hHeld ?_ ?_
  rotate_left
  · rintro w' ⟨s0, s1, s2, s3, s4⟩
    go_simp
    with_reducible rfl
  rotate_left
  · simp only [Act.put, sqA, sqZ, sqS, i64_w, i32_w]
    rfl
  refine take_ (i := 5) (N := some 59) (v := ?_) (a' := ?_) (bz 7 63).toArray rfl rfl (by kernel_rfl) (fun _ _ _ h => h) (Or.inl ⟨by rfl, ?_⟩) hHeld ?_ ?_
  rotate_left
  · rintro w' ⟨s0, s1, s2, s3, s4⟩
    go_simp
    with_reducible rfl
  rotate_left
  · simp only [Act.put, sqA, sqZ, sqS, i64_w, i32_w]
    rfl
  refine last_ (i := 6) (N := some 60) (bz 7 127).toArray rfl rfl (by kernel_rfl) (by decide) (fun K hK => ?_)
  refine goes_ Tryz.func25 (by kernel_rfl) rfl #[pt_ P.px, .int .i64 (t : Int), .agg #[.int .i64 op.kind, .int .i64 op.key, .int .i64 op.hi, .int .i64 op.val]] (by rfl) rfl rfl (by simp only [List.map_toArray, List.map_cons, List.map_nil]; rfl) ?_
  with_reducible refine (CC.out).mono ?_
  rintro e w7 ⟨rfl, e7⟩
  refine ⟨_, rfl, ?_⟩
  refine hK.out _ _ ?_
  clear hK K
  refine norm_ (a' := ?_) ?_ ?_
  rotate_left
  · show Act.put _ (some 60) _ = _
    simp only [Act.put, sqA, sqZ, sqS, i64_w, i32_w]
    rfl
  refine done_ (by kernel_rfl) ?_
  obtain ⟨own7, is7, fk7⟩ := e7
  have A7 := Lib.hid ((fk7.2 w.heap.size SZ6 FR6.out).2.trans A6.out)
  have SZ7 : w.heap.size < w7.heap.size := Nat.lt_of_lt_of_le SZ6 fk7.1
  have h7 := H6d.out.ends2 is7 fk7
  have H7 := Lib.hid h7
  have F7 := Lib.hid ((F5.out.trans (FP.below (Below.refl _ _).drew)).trans (FP.fk fk7))
  obtain ⟨lcs7, ocs7, lcap7, ocap7, hv7, hs7, py7⟩ := h7.at_
  have PY7 := Lib.hid py7
  clear is7 fk7 h7 py7
  have B8 := Lib.hid (((Below.refl w7.heap.size w7).drew).alloc (Nat.le_refl _) (.cells #[.int .i64 (t : Int), .bool false, .int .i64 op.kind, .int .i64 op.key, .int .i64 op.hi, .int .i64 op.val, .int .i64 0, .bool false, .int .i64 0, .int .i64 0, .int .i64 0, .slice none 0 0] 47))
  have H8 := Lib.hid (H7.out.later B8.out)
  have PY8 := Lib.hid (PY7.out.keep (Y.S.callAt t op) (fun b o ho => B8.out.block b (H7.out.free b o ho).2.2))
  have E8 := Lib.hid (heap_alloc_new w7.drew (.cells #[.int .i64 (t : Int), .bool false, .int .i64 op.kind, .int .i64 op.key, .int .i64 op.hi, .int .i64 op.val, .int .i64 0, .bool false, .int .i64 0, .int .i64 0, .int .i64 0, .slice none 0 0] 47))
  go_wp2_with fail
  refine start_ (n := 13) (S := fun w' => w'.cell? ⟨q.pp, 3, none⟩ = some hv7 ∧ w'.cell? ⟨w.heap.size, 0, none⟩ = some (.int .i64 op.kind) ∧ w'.cell? ⟨w.heap.size, 1, none⟩ = some (.int .i64 op.key) ∧ w'.cell? ⟨w.heap.size, 2, none⟩ = some (.int .i64 op.hi) ∧ w'.cell? ⟨w.heap.size, 3, none⟩ = some (.int .i64 op.val)) (ds := [9, 12]) (bz 13 0).toArray (by kernel_rfl) rfl rfl ⟨(drew_cell (cell_blk (i := 3) PY7.out.blk rfl)), (drew_cell (cell_blk (i := 0) A7.out rfl)), (drew_cell (cell_blk (i := 1) A7.out rfl)), (drew_cell (cell_blk (i := 2) A7.out rfl)), (drew_cell (cell_blk (i := 3) A7.out rfl))⟩ (fun hHeld => ?_)
  refine pure_ (i := 0) (N := some 61) (v := ?_) (a' := ?_) (bz 13 1).toArray rfl rfl (by kernel_rfl) (fun _ _ _ h => h) (Or.inl ⟨by rfl, ?_⟩) ?_ ?_
  rotate_left
  · intro w'
    go_simp
    with_reducible rfl
  rotate_left
  · simp only [Act.put, sqA, sqZ, sqS, i64_w, i32_w]
    rfl
  refine pure_ (i := 1) (N := some 62) (v := ?_) (a' := ?_) (bz 13 3).toArray rfl rfl (by kernel_rfl) (fun _ _ _ h => h) (Or.inl ⟨by rfl, ?_⟩) ?_ ?_
  rotate_left
  · intro w'
    go_simp
    with_reducible rfl
  rotate_left
  · simp only [Act.put, sqA, sqZ, sqS, i64_w, i32_w]
    rfl
  refine pure_ (i := 2) (N := some 63) (v := ?_) (a' := ?_) (bz 13 7).toArray rfl rfl (by kernel_rfl) (fun _ _ _ h => h) (Or.inl ⟨by rfl, ?_⟩) ?_ ?_
  rotate_left
  · intro w'
    go_simp
    with_reducible rfl
  rotate_left
  · simp only [Act.put, sqA, sqZ, sqS, i64_w, i32_w]
    rfl
  refine pure_ (i := 3) (N := some 64) (v := ?_) (a' := ?_) (bz 13 15).toArray rfl rfl (by kernel_rfl) (fun _ _ _ h => h) (Or.inl ⟨by rfl, ?_⟩) ?_ ?_
  rotate_left
  · intro w'
    go_simp
    with_reducible rfl
  rotate_left
  · simp only [Act.put, sqA, sqZ, sqS, i64_w, i32_w]
    rfl
  refine pure_ (i := 5) (N := some 66) (v := ?_) (a' := ?_) (bz 13 47).toArray rfl rfl (by kernel_rfl) (fun _ _ _ h => h) (Or.inl ⟨by rfl, ?_⟩) ?_ ?_
  rotate_left
  · intro w'
    go_simp
    with_reducible rfl
  rotate_left
  · simp only [Act.put, sqA, sqZ, sqS, i64_w, i32_w]
    rfl
  refine take_ (i := 4) (N := some 65) (v := ?_) (a' := ?_) (bz 13 63).toArray rfl rfl (by kernel_rfl) (fun _ _ _ h => h) (Or.inl ⟨by rfl, ?_⟩) hHeld ?_ ?_
  rotate_left
  · rintro w' ⟨s0, s1, s2, s3, s4⟩
    go_simp
    with_reducible rfl
  rotate_left
  · simp only [Act.put, sqA, sqZ, sqS, i64_w, i32_w]
    rfl
  refine take_ (i := 6) (N := some 67) (v := ?_) (a' := ?_) (bz 13 127).toArray rfl rfl (by kernel_rfl) (fun _ _ _ h => h) (Or.inl ⟨by rfl, ?_⟩) hHeld ?_ ?_
  rotate_left
  · rintro w' ⟨s0, s1, s2, s3, s4⟩
    go_simp
    with_reducible rfl
  rotate_left
  · simp only [Act.put, sqA, sqZ, sqS, i64_w, i32_w]
    rfl
  refine pure_ (i := 7) (N := some 68) (v := ?_) (a' := ?_) (bz 13 255).toArray rfl rfl (by kernel_rfl) (fun _ _ _ h => h) (Or.inl ⟨by rfl, ?_⟩) ?_ ?_
  rotate_left
  · intro w'
    go_simp
    with_reducible rfl
  rotate_left
  · simp only [Act.put, sqA, sqZ, sqS, i64_w, i32_w]
    rfl
  refine one_ (i := 8) (N := some 69) (bz 13 511).toArray rfl rfl (by kernel_rfl) (by decide) (fun K hK => ?_)
  refine value_ (w1 := ?_) (v := ?_) (by rfl) rfl ?_ ?_
  rotate_left 2
  · go_simp
    constructor
    · rfl
    · rfl
  refine hK.out _ _ ⟨(cell_blk (i := 3) PY8.out.blk rfl), (cell_blk (i := 0) ((B8.out.block w.heap.size SZ7).trans A7.out) rfl), (cell_blk (i := 1) ((B8.out.block w.heap.size SZ7).trans A7.out) rfl), (cell_blk (i := 2) ((B8.out.block w.heap.size SZ7).trans A7.out) rfl), (cell_blk (i := 3) ((B8.out.block w.heap.size SZ7).trans A7.out) rfl)⟩ ?_
  clear hHeld
  intro hHeld
  clear hK K
  refine norm_ (a' := ?_) ?_ ?_
  rotate_left
  · show Act.put _ (some 69) _ = _
    simp only [Act.put, sqA, sqZ, sqS, i64_w, i32_w]
    rfl
  refine last_ (i := 9) (N := some 70) (bz 13 1023).toArray rfl rfl (by kernel_rfl) (by decide) (fun K hK => ?_)
  refine step_app1 (v := hv7) (by rfl) rfl (.tmp 65) (.tmp 69) rfl Tryz.underlying35 info_event rfl (by decide) (by decide) rfl rfl PY8.out.hrow E8.out rfl (fun u hu => by have hu : u ∈ [.int .i64 (t : Int), .bool false, .int .i64 op.kind, .int .i64 op.key, .int .i64 op.hi, .int .i64 op.val, .int .i64 0, .bool false, .int .i64 0, .int .i64 0, .int .i64 0, .slice none 0 0] := hu; simp only [List.mem_cons, List.not_mem_nil, or_false] at hu; rcases hu with rfl | rfl | rfl | rfl | rfl | rfl | rfl | rfl | rfl | rfl | rfl | rfl <;> rfl) hlen ?_
  intro g9 cap9 w9 ho9 hg9 hl9
  have HO9 := Lib.hid ho9
  have HG9 := Lib.hid hg9
  have HL9 := Lib.hid hl9
  have hb9 := Lib.hid ((hg9.block q.pp (H8.out.free _ _ PY8.out.opp).2.2 (fun e => by have h1 := PY8.out.hown _ e.symm; rw [PY8.out.opp] at h1; cases h1)).trans PY8.out.blk)
  have fx9 := free_blk (i := 3) hb9.out
  have cx9 := cell_blk (i := 3) hb9.out rfl
  have lx9 := (Array.getElem?_eq_some_iff.1 hb9.out).1
  clear ho9 hg9 hl9
  refine hK.out _ _ ?_
  clear hK K
  refine norm_ (a' := ?_) ?_ ?_
  rotate_left
  · show Act.put _ (some 70) _ = _
    simp only [Act.put, sqA, sqZ, sqS, i64_w, i32_w]
    rfl
  refine pure_ (i := 10) (N := some 71) (v := ?_) (a' := ?_) (bz 13 2047).toArray rfl rfl (by kernel_rfl) (fun _ _ _ h => h) (Or.inl ⟨by rfl, ?_⟩) ?_ ?_
  rotate_left
  · intro w'
    go_simp
    with_reducible rfl
  rotate_left
  · simp only [Act.put, sqA, sqZ, sqS, i64_w, i32_w]
    rfl
  refine pure_ (i := 11) (N := some 72) (v := ?_) (a' := ?_) (bz 13 4095).toArray rfl rfl (by kernel_rfl) (fun _ _ _ h => h) (Or.inl ⟨by rfl, ?_⟩) ?_ ?_
  rotate_left
  · intro w'
    go_simp
    with_reducible rfl
  rotate_left
  · simp only [Act.put, sqA, sqZ, sqS, i64_w, i32_w]
    rfl
  refine lastdone_ (i := 12) (N := none) (bz 13 8191).toArray rfl rfl (by kernel_rfl) (by decide) (by kernel_rfl) (fun K hK => ?_)
  refine skip_ (w1 := ?_) (by rfl) rfl ?_ ?_
  rotate_left
  · go_simp
    rfl
  refine hK.out _ _ ?_
  clear hK K
  obtain ⟨o10, h10, f10⟩ := H8.out.said PY8.out (e := ⟨(t : Int), false, op, ans0⟩) (pv := .slice none 0 0) ⟨World.ownsRow_nil _ _ _ _, by simp [Value.ownBlock]⟩ HO9.out HG9.out HL9.out
  have F10 := Lib.hid ((F7.out.trans (FP.below B8.out)).trans f10)
  have H10 := Lib.hid h10
  clear h10 f10 hb9 fx9 cx9 lx9 HO9 HG9 HL9 E8 PY8 H8 B8
  have HY1 := Lib.hid (begun_idle hb hl)
  obtain ⟨Y1, hY1⟩ : ∃ Y1, Y1 = Y.begun t := ⟨_, rfl⟩
  have HYE := Lib.hid hY1
  have H11 := Lib.hid (show PI W _ P own7 q o10 Y1 from by rw [hY1, HY1.out]; exact H10.out)
  clear hY1 H10
  generalize w9.setCell ⟨q.pp, 3, none⟩ (.slice (some ⟨g9, 0, none⟩) (Y.h.length + 1) cap9) = w10 at H11 F10 ⊢
  have hb1 : (Y1.S.th t).busy = true := by rw [HYE.out]; exact OK.out.busy (show Y.any t = true from by unfold Py.any; rw [hl]; simp)
  obtain ⟨lcsa, ocsa, lcapa, ocapa, hva, hsa, pya⟩ := H11.out.at_
  have ca0 : w10.cell? ⟨q.pp, 0, none⟩ = some (pt_ P.px) := cell_blk (i := 0) pya.blk rfl
  clear pya
  go_wp2_with fail
  refine (xbusy_any H11.out.is HP.out).mono ?_
  rintro e w' ⟨rfl, rfl⟩
  rw [hb1]
  obtain ⟨k1, hk1, hok1⟩ := OK.out.next (show Y.any t = true from by unfold Py.any; rw [hl]; simp)
  rw [← HYE.out] at hk1 hok1
  have STP := Lib.hid (xstep_any H11.out.is HP.out hb1 hk1 hok1)
  clear hk1 hok1
  go_wp2_with fail
  refine STP.out.mono ?_
  rintro e w11 ⟨rfl, e11⟩
  clear ca0
  obtain ⟨own11, is11, fk11⟩ := ends_fk e11
  have H12 := Lib.hid (H11.out.ends2 is11 fk11)
  have F12 := Lib.hid (F10.out.trans (FP.fk fk11))
  clear e11 is11 fk11
  have HY2 := Lib.hid (stepped_busy hb1)
  obtain ⟨Y2, hY2⟩ : ∃ Y2, Y2 = Y1.stepped t := ⟨_, rfl⟩
  have HY2E := Lib.hid hY2
  have H13 := Lib.hid (show PI W w11 P own11 q o10 Y2 from by rw [hY2, HY2.out]; exact H12.out)
  clear hY2 H12 hb1
  obtain ⟨lcsb, ocsb, lcapb, ocapb, hvb, hsb, pyb⟩ := H13.out.at_
  have PYB := Lib.hid pyb
  have cb0 : w11.cell? ⟨q.pp, 0, none⟩ = some (pt_ P.px) := cell_blk (i := 0) pyb.blk rfl
  clear pyb
  go_wp2_with fail
  refine (xbusy_any H13.out.is HP.out).mono ?_
  rintro e w' ⟨rfl, rfl⟩
  have HPK := Lib.hid (show Y.pick t = Y2.told t from by unfold Py.pick; rw [if_pos (show Y.any t = true from by unfold Py.any; rw [hl]; simp), HY2E.out, HYE.out])
  cases hb2 : (Y2.S.th t).busy with
  | true =>
    go_wp2_with fail
    go_ret
    refine ⟨by rw [show Y.any t = true from by unfold Py.any; rw [hl]; simp]; rfl, own11, o10, ?_, F12.out⟩
    rw [HPK.out, told_busy hb2]
    exact H13.out
  | false =>
    obtain ⟨hov, hps⟩ := OK.out.over (show Y.any t = true from by unfold Py.any; rw [hl]; simp) (by rw [← HYE.out, ← HY2E.out]; exact hb2)
    rw [← HYE.out, ← HY2E.out] at hov hps
    have ANS := Lib.hid (xanswer_any H13.out.is HP.out hov hps)
    clear hov hps
    go_wp2_with fail
    refine ANS.out.mono ?_
    rintro e w12 ⟨ad, c, rfl, ho12, hf12, b12⟩
    clear ANS cb0
    obtain ⟨o14, h14, f14, ev14, m14⟩ := H13.out.gift b12 ho12 hf12
    obtain ⟨np, hnp⟩ : ∃ np, np = (Y2.S.th t).ans.pairs.length := ⟨_, rfl⟩
    rw [← hnp] at ev14
    have HNP := Lib.hid hnp
    rw [← HNP.out]
    clear hnp
    have PYC := Lib.hid ((PYB.out.keep Y2.S (fun b o ho => b12.block b (H13.out.free b o ho).2.2)).more m14)
    have F14 := Lib.hid (F12.out.trans f14)
    have H14 := Lib.hid h14
    have EV14 := Lib.hid ev14
    clear h14 f14 ev14 m14 ho12 hf12 b12
    have HN2 := Lib.hid (Nat.lt_of_lt_of_le (List.getElem?_eq_some_iff.1 HP.out).1 (Nat.le_refl _))
    obtain ⟨nn, hnn⟩ : ∃ nn, nn = P.pts.length := ⟨_, rfl⟩
    have htn2 : t < nn := by rw [hnn]; exact HN2.out
    have HNN := Lib.hid hnn
    clear hnn
    have q02 : ¬ ((t : Int) < 0) := by omega
    have q12 : ¬ ((nn : Int) ≤ (t : Int)) := by omega
    have B15 := Lib.hid ((Below.refl w12.heap.size w12).alloc (Nat.le_refl _) (.cells #[.int .i64 (Y2.S.th t).ans.err, .bool (Y2.S.th t).ans.ok, .int .i64 (Y2.S.th t).ans.key, .int .i64 (Y2.S.th t).ans.val, .int .i64 (Y2.S.th t).ans.n, .slice ad np c] 45))
    have A15 := Lib.hid (heap_alloc_new w12 (.cells #[.int .i64 (Y2.S.th t).ans.err, .bool (Y2.S.th t).ans.ok, .int .i64 (Y2.S.th t).ans.key, .int .i64 (Y2.S.th t).ans.val, .int .i64 (Y2.S.th t).ans.n, .slice ad np c] 45))
    have H15 := Lib.hid (H14.out.later B15.out)
    have PY15 := Lib.hid (PYC.out.keep Y2.S (fun b o ho => B15.out.block b (H14.out.free b o ho).2.2))
    have EV15 := Lib.hid (EV14.out.keep (fun b ho => ⟨ho, B15.out.block b (H14.out.free b _ ho).2.2⟩))
    have lt15 : w12.heap.size < (w12.alloc (.cells #[.int .i64 (Y2.S.th t).ans.err, .bool (Y2.S.th t).ans.ok, .int .i64 (Y2.S.th t).ans.key, .int .i64 (Y2.S.th t).ans.val, .int .i64 (Y2.S.th t).ans.n, .slice ad np c] 45)).heap.size := by simp
    go_wp2_with fail
    generalize w12.alloc (.cells #[.int .i64 (Y2.S.th t).ans.err, .bool (Y2.S.th t).ans.ok, .int .i64 (Y2.S.th t).ans.key, .int .i64 (Y2.S.th t).ans.val, .int .i64 (Y2.S.th t).ans.n, .slice ad np c] 45) = w15 at B15 A15 H15 PY15 EV15 lt15 ⊢
    obtain ⟨opv, hopv⟩ : ∃ x, x = Y2.ops.getD t op0 := ⟨_, rfl⟩
    have HOPV := Lib.hid hopv
    clear hopv
    have cd0 : w15.cell? ⟨q.pp, 3, none⟩ = some hvb := cell_blk (i := 3) PY15.out.blk rfl
    have cd1 : w15.cell? ⟨q.pp, 2, none⟩ = some (.slice (some ⟨q.ob, 0, none⟩) nn ocapb) := by rw [HNN.out]; exact cell_blk (i := 2) PY15.out.blk rfl
    have ce0 : w15.cell? ⟨q.ob, t * 4, none⟩ = some (.int .i64 opv.kind) := cell_blk (i := t * 4) PY15.out.oblk (by rw [HOPV.out]; exact PY15.out.ops t HN2.out 0 (by decide))
    have ce1 : w15.cell? ⟨q.ob, t * 4 + 1, none⟩ = some (.int .i64 opv.key) := cell_blk (i := t * 4 + 1) PY15.out.oblk (by rw [HOPV.out]; exact PY15.out.ops t HN2.out 1 (by decide))
    have ce2 : w15.cell? ⟨q.ob, t * 4 + 2, none⟩ = some (.int .i64 opv.hi) := cell_blk (i := t * 4 + 2) PY15.out.oblk (by rw [HOPV.out]; exact PY15.out.ops t HN2.out 2 (by decide))
    have ce3 : w15.cell? ⟨q.ob, t * 4 + 3, none⟩ = some (.int .i64 opv.val) := cell_blk (i := t * 4 + 3) PY15.out.oblk (by rw [HOPV.out]; exact PY15.out.ops t HN2.out 3 (by decide))
    have cf0 : w15.cell? ⟨w12.heap.size, 0, none⟩ = some (.int .i64 (Y2.S.th t).ans.err) := cell_blk (i := 0) A15.out rfl
    have cf1 : w15.cell? ⟨w12.heap.size, 1, none⟩ = some (.bool (Y2.S.th t).ans.ok) := cell_blk (i := 1) A15.out rfl
    have cf2 : w15.cell? ⟨w12.heap.size, 2, none⟩ = some (.int .i64 (Y2.S.th t).ans.key) := cell_blk (i := 2) A15.out rfl
    have cf3 : w15.cell? ⟨w12.heap.size, 3, none⟩ = some (.int .i64 (Y2.S.th t).ans.val) := cell_blk (i := 3) A15.out rfl
    have cf4 : w15.cell? ⟨w12.heap.size, 4, none⟩ = some (.int .i64 (Y2.S.th t).ans.n) := cell_blk (i := 4) A15.out rfl
    have cf5 : w15.cell? ⟨w12.heap.size, 5, none⟩ = some (.slice ad np c) := cell_blk (i := 5) A15.out rfl
    have B16 := Lib.hid (((Below.refl w15.heap.size w15).drew).alloc (Nat.le_refl _) (.cells #[.int .i64 (t : Int), .bool true, .int .i64 opv.kind, .int .i64 opv.key, .int .i64 opv.hi, .int .i64 opv.val, .int .i64 (Y2.S.th t).ans.err, .bool (Y2.S.th t).ans.ok, .int .i64 (Y2.S.th t).ans.key, .int .i64 (Y2.S.th t).ans.val, .int .i64 (Y2.S.th t).ans.n, .slice ad np c] 47))
    have H16 := Lib.hid (H15.out.later B16.out)
    have PY16 := Lib.hid (PY15.out.keep Y2.S (fun b o ho => B16.out.block b (H15.out.free b o ho).2.2))
    have EV16 := Lib.hid (EV15.out.keep (fun b ho => ⟨ho, B16.out.block b (H15.out.free b _ ho).2.2⟩))
    have E16 := Lib.hid (heap_alloc_new w15.drew (.cells #[.int .i64 (t : Int), .bool true, .int .i64 opv.kind, .int .i64 opv.key, .int .i64 opv.hi, .int .i64 opv.val, .int .i64 (Y2.S.th t).ans.err, .bool (Y2.S.th t).ans.ok, .int .i64 (Y2.S.th t).ans.key, .int .i64 (Y2.S.th t).ans.val, .int .i64 (Y2.S.th t).ans.n, .slice ad np c] 47))
    have hle2 : Y2.h.length ≤ 1000000 := by rw [HY2E.out, (stepped_h _ _).1, HYE.out]; have h1 := begun_len Y t; have h2 := OK.out.len; omega
    have LE2 := Lib.hid hle2
    clear hle2
    go_wp2_with fail
    refine start_ (n := 20) (S := fun w' => w'.cell? ⟨q.pp, 3, none⟩ = some hvb ∧ w'.cell? ⟨q.pp, 2, none⟩ = some (.slice (some ⟨q.ob, 0, none⟩) nn ocapb) ∧ w'.cell? ⟨q.ob, t * 4, none⟩ = some (.int .i64 opv.kind) ∧ w'.cell? ⟨q.ob, t * 4 + 1, none⟩ = some (.int .i64 opv.key) ∧ w'.cell? ⟨q.ob, t * 4 + 2, none⟩ = some (.int .i64 opv.hi) ∧ w'.cell? ⟨q.ob, t * 4 + 3, none⟩ = some (.int .i64 opv.val) ∧ w'.cell? ⟨w12.heap.size, 0, none⟩ = some (.int .i64 (Y2.S.th t).ans.err) ∧ w'.cell? ⟨w12.heap.size, 1, none⟩ = some (.bool (Y2.S.th t).ans.ok) ∧ w'.cell? ⟨w12.heap.size, 2, none⟩ = some (.int .i64 (Y2.S.th t).ans.key) ∧ w'.cell? ⟨w12.heap.size, 3, none⟩ = some (.int .i64 (Y2.S.th t).ans.val) ∧ w'.cell? ⟨w12.heap.size, 4, none⟩ = some (.int .i64 (Y2.S.th t).ans.n) ∧ w'.cell? ⟨w12.heap.size, 5, none⟩ = some (.slice ad np c)) (ds := [16, 19]) (bz 20 0).toArray (by kernel_rfl) rfl rfl ⟨(drew_cell cd0), (drew_cell cd1), (drew_cell ce0), (drew_cell ce1), (drew_cell ce2), (drew_cell ce3), (drew_cell cf0), (drew_cell cf1), (drew_cell cf2), (drew_cell cf3), (drew_cell cf4), (drew_cell cf5)⟩ (fun hHeld => ?_)
    refine pure_ (i := 0) (N := some 101) (v := ?_) (a' := ?_) (bz 20 1).toArray rfl rfl (by kernel_rfl) (fun _ _ _ h => h) (Or.inl ⟨by rfl, ?_⟩) ?_ ?_
    rotate_left
    · intro w'
      go_simp
      with_reducible rfl
    rotate_left
    · simp only [Act.put, sqA, sqZ, sqS, i64_w, i32_w]
      rfl
    refine pure_ (i := 1) (N := some 102) (v := ?_) (a' := ?_) (bz 20 3).toArray rfl rfl (by kernel_rfl) (fun _ _ _ h => h) (Or.inl ⟨by rfl, ?_⟩) ?_ ?_
    rotate_left
    · intro w'
      go_simp
      with_reducible rfl
    rotate_left
    · simp only [Act.put, sqA, sqZ, sqS, i64_w, i32_w]
      rfl
    refine pure_ (i := 2) (N := some 103) (v := ?_) (a' := ?_) (bz 20 7).toArray rfl rfl (by kernel_rfl) (fun _ _ _ h => h) (Or.inl ⟨by rfl, ?_⟩) ?_ ?_
    rotate_left
    · intro w'
      go_simp
      with_reducible rfl
    rotate_left
    · simp only [Act.put, sqA, sqZ, sqS, i64_w, i32_w]
      rfl
    refine pure_ (i := 3) (N := some 104) (v := ?_) (a' := ?_) (bz 20 15).toArray rfl rfl (by kernel_rfl) (fun _ _ _ h => h) (Or.inl ⟨by rfl, ?_⟩) ?_ ?_
    rotate_left
    · intro w'
      go_simp
      with_reducible rfl
    rotate_left
    · simp only [Act.put, sqA, sqZ, sqS, i64_w, i32_w]
      rfl
    refine pure_ (i := 5) (N := some 106) (v := ?_) (a' := ?_) (bz 20 47).toArray rfl rfl (by kernel_rfl) (fun _ _ _ h => h) (Or.inl ⟨by rfl, ?_⟩) ?_ ?_
    rotate_left
    · intro w'
      go_simp
      with_reducible rfl
    rotate_left
    · simp only [Act.put, sqA, sqZ, sqS, i64_w, i32_w]
      rfl
    refine pure_ (i := 6) (N := some 107) (v := ?_) (a' := ?_) (bz 20 111).toArray rfl rfl (by kernel_rfl) (fun _ _ _ h => h) (Or.inl ⟨by rfl, ?_⟩) ?_ ?_
    rotate_left
    · intro w'
      go_simp
      with_reducible rfl
    rotate_left
    · simp only [Act.put, sqA, sqZ, sqS, i64_w, i32_w]
      rfl
    refine pure_ (i := 7) (N := some 108) (v := ?_) (a' := ?_) (bz 20 239).toArray rfl rfl (by kernel_rfl) (fun _ _ _ h => h) (Or.inl ⟨by rfl, ?_⟩) ?_ ?_
    rotate_left
    · intro w'
      go_simp
      with_reducible rfl
    rotate_left
    · simp only [Act.put, sqA, sqZ, sqS, i64_w, i32_w]
      rfl
    refine pure_ (i := 8) (N := some 109) (v := ?_) (a' := ?_) (bz 20 495).toArray rfl rfl (by kernel_rfl) (fun _ _ _ h => h) (Or.inl ⟨by rfl, ?_⟩) ?_ ?_
    rotate_left
    · intro w'
      go_simp
      with_reducible rfl
    rotate_left
    · simp only [Act.put, sqA, sqZ, sqS, i64_w, i32_w]
      rfl
    refine pure_ (i := 10) (N := some 111) (v := ?_) (a' := ?_) (bz 20 1519).toArray rfl rfl (by kernel_rfl) (fun _ _ _ h => h) (Or.inl ⟨by rfl, ?_⟩) ?_ ?_
    rotate_left
    · intro w'
      go_simp
      with_reducible rfl
    rotate_left
    · simp only [Act.put, sqA, sqZ, sqS, i64_w, i32_w]
      rfl
    refine take_ (i := 4) (N := some 105) (v := ?_) (a' := ?_) (bz 20 1535).toArray rfl rfl (by kernel_rfl) (fun _ _ _ h => h) (Or.inl ⟨by rfl, ?_⟩) hHeld ?_ ?_
    rotate_left
    · rintro w' ⟨s0, s1, s2, s3, s4, s5, s6, s7, s8, s9, s10, s11⟩
      go_simp
      with_reducible rfl
    rotate_left
    · simp only [Act.put, sqA, sqZ, sqS, i64_w, i32_w]
      rfl
    refine take_ (i := 9) (N := some 110) (v := ?_) (a' := ?_) (bz 20 2047).toArray rfl rfl (by kernel_rfl) (fun _ _ _ h => h) (Or.inl ⟨by rfl, ?_⟩) hHeld ?_ ?_
    rotate_left
    · rintro w' ⟨s0, s1, s2, s3, s4, s5, s6, s7, s8, s9, s10, s11⟩
      go_simp
      with_reducible rfl
    rotate_left
    · simp only [Act.put, sqA, sqZ, sqS, i64_w, i32_w]
      rfl
    refine pure_ (i := 11) (N := some 112) (v := ?_) (a' := ?_) (bz 20 4095).toArray rfl rfl (by kernel_rfl) (fun _ _ _ h => h) (Or.inl ⟨by rfl, ?_⟩) ?_ ?_
    rotate_left
    · intro w'
      go_simp
      with_reducible rfl
    rotate_left
    · simp only [Act.put, sqA, sqZ, sqS, i64_w, i32_w]
      rfl
    refine take_ (i := 12) (N := some 113) (v := ?_) (a' := ?_) (bz 20 8191).toArray rfl rfl (by kernel_rfl) (fun _ _ _ h => h) (Or.inl ⟨by rfl, ?_⟩) hHeld ?_ ?_
    rotate_left
    · rintro w' ⟨s0, s1, s2, s3, s4, s5, s6, s7, s8, s9, s10, s11⟩
      go_simp
      with_reducible rfl
    rotate_left
    · simp only [Act.put, sqA, sqZ, sqS, i64_w, i32_w]
      rfl
    refine take_ (i := 13) (N := some 114) (v := ?_) (a' := ?_) (bz 20 16383).toArray rfl rfl (by kernel_rfl) (fun _ _ _ h => h) (Or.inl ⟨by rfl, ?_⟩) hHeld ?_ ?_
    rotate_left
    · rintro w' ⟨s0, s1, s2, s3, s4, s5, s6, s7, s8, s9, s10, s11⟩
      go_simp
      with_reducible rfl
    rotate_left
    · simp only [Act.put, sqA, sqZ, sqS, i64_w, i32_w]
      rfl
    refine pure_ (i := 14) (N := some 115) (v := ?_) (a' := ?_) (bz 20 32767).toArray rfl rfl (by kernel_rfl) (fun _ _ _ h => h) (Or.inl ⟨by rfl, ?_⟩) ?_ ?_
    rotate_left
    · intro w'
      go_simp
      with_reducible rfl
    rotate_left
    · simp only [Act.put, sqA, sqZ, sqS, i64_w, i32_w]
      rfl
    refine one_ (i := 15) (N := some 116) (bz 20 65535).toArray rfl rfl (by kernel_rfl) (by decide) (fun K hK => ?_)
    refine value_ (w1 := ?_) (v := ?_) (by rfl) rfl ?_ ?_
    rotate_left 2
    · go_simp
      constructor
      · rfl
      · rfl
    refine hK.out _ _ ⟨(cell_blk (i := 3) PY16.out.blk rfl), (by rw [HNN.out]; exact cell_blk (i := 2) PY16.out.blk rfl), (cell_blk (i := t * 4) PY16.out.oblk (by rw [HOPV.out]; exact PY16.out.ops t HN2.out 0 (by decide))), (cell_blk (i := t * 4 + 1) PY16.out.oblk (by rw [HOPV.out]; exact PY16.out.ops t HN2.out 1 (by decide))), (cell_blk (i := t * 4 + 2) PY16.out.oblk (by rw [HOPV.out]; exact PY16.out.ops t HN2.out 2 (by decide))), (cell_blk (i := t * 4 + 3) PY16.out.oblk (by rw [HOPV.out]; exact PY16.out.ops t HN2.out 3 (by decide))), (cell_blk (i := 0) ((B16.out.block w12.heap.size lt15).trans A15.out) rfl), (cell_blk (i := 1) ((B16.out.block w12.heap.size lt15).trans A15.out) rfl), (cell_blk (i := 2) ((B16.out.block w12.heap.size lt15).trans A15.out) rfl), (cell_blk (i := 3) ((B16.out.block w12.heap.size lt15).trans A15.out) rfl), (cell_blk (i := 4) ((B16.out.block w12.heap.size lt15).trans A15.out) rfl), (cell_blk (i := 5) ((B16.out.block w12.heap.size lt15).trans A15.out) rfl)⟩ ?_
    clear hHeld
    intro hHeld
    clear hK K
    refine norm_ (a' := ?_) ?_ ?_
    rotate_left
    · show Act.put _ (some 116) _ = _
      simp only [Act.put, sqA, sqZ, sqS, i64_w, i32_w]
      rfl
    refine last_ (i := 16) (N := some 117) (bz 20 131071).toArray rfl rfl (by kernel_rfl) (by decide) (fun K hK => ?_)
    refine step_app1 (v := hvb) (by rfl) rfl (.tmp 105) (.tmp 116) rfl Tryz.underlying35 info_event rfl (by decide) (by decide) rfl rfl PY16.out.hrow E16.out rfl (fun u hu => by have hu : u ∈ [.int .i64 (t : Int), .bool true, .int .i64 opv.kind, .int .i64 opv.key, .int .i64 opv.hi, .int .i64 opv.val, .int .i64 (Y2.S.th t).ans.err, .bool (Y2.S.th t).ans.ok, .int .i64 (Y2.S.th t).ans.key, .int .i64 (Y2.S.th t).ans.val, .int .i64 (Y2.S.th t).ans.n, .slice ad np c] := hu; simp only [List.mem_cons, List.not_mem_nil, or_false] at hu; rcases hu with rfl | rfl | rfl | rfl | rfl | rfl | rfl | rfl | rfl | rfl | rfl | rfl <;> rfl) LE2.out ?_
    intro g9 cap9 w9 ho9 hg9 hl9
    have HO9 := Lib.hid ho9
    have HG9 := Lib.hid hg9
    have HL9 := Lib.hid hl9
    have hb9 := Lib.hid ((hg9.block q.pp (H16.out.free _ _ PY16.out.opp).2.2 (fun e => by have h1 := PY16.out.hown _ e.symm; rw [PY16.out.opp] at h1; cases h1)).trans PY16.out.blk)
    have fx9 := free_blk (i := 3) hb9.out
    have cx9 := cell_blk (i := 3) hb9.out rfl
    have lx9 := (Array.getElem?_eq_some_iff.1 hb9.out).1
    clear ho9 hg9 hl9
    refine hK.out _ _ ?_
    clear hK K
    refine norm_ (a' := ?_) ?_ ?_
    rotate_left
    · show Act.put _ (some 117) _ = _
      simp only [Act.put, sqA, sqZ, sqS, i64_w, i32_w]
      rfl
    refine pure_ (i := 17) (N := some 118) (v := ?_) (a' := ?_) (bz 20 262143).toArray rfl rfl (by kernel_rfl) (fun _ _ _ h => h) (Or.inl ⟨by rfl, ?_⟩) ?_ ?_
    rotate_left
    · intro w'
      go_simp
      with_reducible rfl
    rotate_left
    · simp only [Act.put, sqA, sqZ, sqS, i64_w, i32_w]
      rfl
    refine pure_ (i := 18) (N := some 119) (v := ?_) (a' := ?_) (bz 20 524287).toArray rfl rfl (by kernel_rfl) (fun _ _ _ h => h) (Or.inl ⟨by rfl, ?_⟩) ?_ ?_
    rotate_left
    · intro w'
      go_simp
      with_reducible rfl
    rotate_left
    · simp only [Act.put, sqA, sqZ, sqS, i64_w, i32_w]
      rfl
    refine lastdone_ (i := 19) (N := none) (bz 20 1048575).toArray rfl rfl (by kernel_rfl) (by decide) (by kernel_rfl) (fun K hK => ?_)
    refine skip_ (w1 := ?_) (by rfl) rfl ?_ ?_
    rotate_left
    · go_simp
      rfl
    refine hK.out _ _ ?_
    clear hK K
    obtain ⟨o17, h17, f17⟩ := H16.out.said PY16.out (e := ⟨(t : Int), true, opv, (Y2.S.th t).ans⟩) (pv := .slice ad np c) EV16.out HO9.out HG9.out HL9.out
    have F17 := Lib.hid (((F14.out.trans (FP.below B15.out)).trans (FP.below B16.out)).trans f17)
    have H17 := Lib.hid h17
    clear h17 f17
    go_wp2_with fail
    go_ret
    refine ⟨by rw [show Y.any t = true from by unfold Py.any; rw [hl]; simp]; rfl, own11, o17, ?_, F17.out⟩
    rw [HPK.out, told_idle hb2, ← HOPV.out]
    exact H17.out
end Go.Proofs.YtghjnkfocjjlnaaGreat
