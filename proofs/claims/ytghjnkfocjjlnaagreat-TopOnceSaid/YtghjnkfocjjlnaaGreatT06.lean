/- The walks of package look. -/
/- What package look's loops tell, as plain functions, and their walks. -/
/- The walks of look's Nth, Min, Max. -/
import Derived.Test.YtghjnkfocjjlnaaGreatT00
import Derived.Test.YtghjnkfocjjlnaaGreatT05
set_option linter.unusedSimpArgs false
set_option linter.unusedVariables false
section
namespace Go.Proofs.YtghjnkfocjjlnaaGreat
set_option maxRecDepth 100000
open Go.RowKit Go.Proofs.YtghjnkfocjjlnaaGreatW.PrintWords Go.Proofs.YtghjnkfocjjlnaaGreatW.PrintLast
set_option linter.unusedSimpArgs false
set_option linter.unusedVariables false
/-- What look's get tells: a node whose children hang below. -/
def getH (A : OA) (t : Int) : Nd := ⟨(getN A t).key, (getN A t).val, hangO A t (getN A t).left, hangO A t (getN A t).right, (getN A t).size, (getN A t).high⟩
theorem free_blk {w : World} {b i : Nat} {cs : Array Value} {t : TypeId} (hb : w.heap[b]? = some (.cells cs t (0, 0))) : w.frozen? ⟨b, i, none⟩ = false := by
  simp [World.frozen?, hb]
def set6 (w : World) (b : Nat) (v0 v1 v2 v3 v4 v5 : Value) : World := (((((w.setCell ⟨b, 0, none⟩ v0).setCell ⟨b, 1, none⟩ v1).setCell ⟨b, 2, none⟩ v2).setCell ⟨b, 3, none⟩ v3).setCell ⟨b, 4, none⟩ v4).setCell ⟨b, 5, none⟩ v5
theorem set6_heap {w : World} {b : Nat} {c0 c1 c2 c3 c4 c5 : Value} {t : TypeId} (v0 v1 v2 v3 v4 v5 : Value) (h : w.heap[b]? = some (.cells #[c0, c1, c2, c3, c4, c5] t (0, 0))) : (set6 w b v0 v1 v2 v3 v4 v5).heap[b]? = some (.cells #[v0, v1, v2, v3, v4, v5] t (0, 0)) := by
  have h0 := heap_setCell_same w b 0 _ _ v0 h
  have h1 := heap_setCell_same _ b 1 _ _ v1 h0
  have h2 := heap_setCell_same _ b 2 _ _ v2 h1
  have h3 := heap_setCell_same _ b 3 _ _ v3 h2
  have h4 := heap_setCell_same _ b 4 _ _ v4 h3
  exact heap_setCell_same _ b 5 _ _ v5 h4
set_option maxRecDepth 100000 in
set_option maxHeartbeats 4000000 in
theorem lget_any {w : World} {po : Option Addr} {A : OA} {F : Nat → Prop} (h : OAt w po A F) (t : Int) :
    Calls Tryz.prog 138 #[.pointer po, .int .i64 t] w fun e w' =>
      e = .returned (.tuple #[.agg #[.int .i64 (getH A t).key, .int .i64 (getH A t).val, .int .i64 (getH A t).left, .int .i64 (getH A t).right, .int .i64 (getH A t).size, .int .i64 (getH A t).high], .bool (isN A t)]) ∧ Below w.heap.size w w' := by
  have hb0 : Below w.heap.size w (w.alloc (.cells #[.int .i64 0, .int .i64 0, .int .i64 0, .int .i64 0, .int .i64 0, .int .i64 0] 177)) := (Below.refl _ _).alloc (Nat.le_refl _) _
  have hg := get_any (h.below hb0) t
  have hh1 := fun w' (hb : Below w.heap.size w w') => hang_look (h.below hb) t (getN A t).left
  have hh2 := fun w' (hb : Below w.heap.size w w') => hang_look (h.below hb) t (getN A t).right
  unfold getH
  generalize hL : hangO A t (getN A t).left = L at hh1
  generalize hR : hangO A t (getN A t).right = R at hh2
  clear hL hR
  generalize getN A t = nd at hg hh1 hh2
  obtain ⟨k, v, l, r, s, g⟩ := nd
  simp only [] at hg hh1 hh2 ⊢
  generalize isN A t = ok at hg
  have HB0 := Lib.hid hb0
  have HG := Lib.hid hg
  have HH1 := Lib.hid hh1
  have HH2 := Lib.hid hh2
  have e0 := Lib.hid (heap_alloc_new w (.cells #[.int .i64 0, .int .i64 0, .int .i64 0, .int .i64 0, .int .i64 0, .int .i64 0] 177))
  clear hb0 hg hh1 hh2 h
  go_enter Tryz.func138, Tryz.ntmps138
  go_wp2_with fail
  refine HG.out.mono ?_
  rintro e w1 ⟨rfl, b1⟩
  have B1 := Lib.hid (HB0.out.trans (b1.mono HB0.out.size))
  have z1 := b1.size
  simp at z1
  have E1 := Lib.hid ((b1.block w.heap.size (by simp)).trans e0.out)
  clear b1
  go_wp2_with fail
  have B1d := Lib.hid ((B1.out.alloc B1.out.size (.cells #[.int .i64 k, .int .i64 v, .int .i64 l, .int .i64 r, .int .i64 s, .int .i64 g] 177)).drew)
  have H0 := Lib.hid (heap_alloc_new w1 (.cells #[.int .i64 k, .int .i64 v, .int .i64 l, .int .i64 r, .int .i64 s, .int .i64 g] 177))
  have E1b := Lib.hid ((heap_alloc_old w1 (.cells #[.int .i64 k, .int .i64 v, .int .i64 l, .int .i64 r, .int .i64 s, .int .i64 g] 177) (show w.heap.size < w1.heap.size by omega)).trans E1.out)
  refine start_ (n := 14) (S := fun w' => w'.cell? ⟨w1.heap.size, 2, none⟩ = some (.int .i64 l) ∧ w'.cell? ⟨w1.heap.size, 3, none⟩ = some (.int .i64 r)) (ds := [11, 13]) (bz 14 0).toArray (by kernel_rfl) rfl rfl ⟨(cell_blk (i := 2) (w := (w1.alloc _).drew) H0.out rfl), (cell_blk (i := 3) (w := (w1.alloc _).drew) H0.out rfl)⟩ (fun hHeld => ?_)
  refine pure_ (i := 0) (N := some 14) (v := ?_) (a' := ?_) (bz 14 1).toArray rfl rfl (by kernel_rfl) (fun _ _ _ h => h) (Or.inl ⟨by rfl, ?_⟩) ?_ ?_
  rotate_left
  · intro w'
    go_simp
    with_reducible rfl
  rotate_left
  · simp only [Act.put, sqA, sqZ, sqS, i64_w, i32_w]
    rfl
  refine pure_ (i := 1) (N := some 15) (v := ?_) (a' := ?_) (bz 14 3).toArray rfl rfl (by kernel_rfl) (fun _ _ _ h => h) (Or.inl ⟨by rfl, ?_⟩) ?_ ?_
  rotate_left
  · intro w'
    go_simp
    with_reducible rfl
  rotate_left
  · simp only [Act.put, sqA, sqZ, sqS, i64_w, i32_w]
    rfl
  refine pure_ (i := 2) (N := some 16) (v := ?_) (a' := ?_) (bz 14 7).toArray rfl rfl (by kernel_rfl) (fun _ _ _ h => h) (Or.inl ⟨by rfl, ?_⟩) ?_ ?_
  rotate_left
  · intro w'
    go_simp
    with_reducible rfl
  rotate_left
  · simp only [Act.put, sqA, sqZ, sqS, i64_w, i32_w]
    rfl
  refine pure_ (i := 5) (N := some 19) (v := ?_) (a' := ?_) (bz 14 39).toArray rfl rfl (by kernel_rfl) (fun _ _ _ h => h) (Or.inl ⟨by rfl, ?_⟩) ?_ ?_
  rotate_left
  · intro w'
    go_simp
    with_reducible rfl
  rotate_left
  · simp only [Act.put, sqA, sqZ, sqS, i64_w, i32_w]
    rfl
  refine pure_ (i := 6) (N := some 20) (v := ?_) (a' := ?_) (bz 14 103).toArray rfl rfl (by kernel_rfl) (fun _ _ _ h => h) (Or.inl ⟨by rfl, ?_⟩) ?_ ?_
  rotate_left
  · intro w'
    go_simp
    with_reducible rfl
  rotate_left
  · simp only [Act.put, sqA, sqZ, sqS, i64_w, i32_w]
    rfl
  refine pure_ (i := 7) (N := some 21) (v := ?_) (a' := ?_) (bz 14 231).toArray rfl rfl (by kernel_rfl) (fun _ _ _ h => h) (Or.inl ⟨by rfl, ?_⟩) ?_ ?_
  rotate_left
  · intro w'
    go_simp
    with_reducible rfl
  rotate_left
  · simp only [Act.put, sqA, sqZ, sqS, i64_w, i32_w]
    rfl
  refine take_ (i := 3) (N := some 17) (v := ?_) (a' := ?_) (bz 14 239).toArray rfl rfl (by kernel_rfl) (fun _ _ _ h => h) (Or.inl ⟨by rfl, ?_⟩) hHeld ?_ ?_
  rotate_left
  · rintro w' ⟨s0, s1⟩
    go_simp
    with_reducible rfl
  rotate_left
  · simp only [Act.put, sqA, sqZ, sqS, i64_w, i32_w]
    rfl
  refine take_ (i := 8) (N := some 22) (v := ?_) (a' := ?_) (bz 14 495).toArray rfl rfl (by kernel_rfl) (fun _ _ _ h => h) (Or.inl ⟨by rfl, ?_⟩) hHeld ?_ ?_
  rotate_left
  · rintro w' ⟨s0, s1⟩
    go_simp
    with_reducible rfl
  rotate_left
  · simp only [Act.put, sqA, sqZ, sqS, i64_w, i32_w]
    rfl
  refine one_ (i := 4) (N := some 18) (bz 14 511).toArray rfl rfl (by kernel_rfl) (by decide) (fun K hK => ?_)
  refine goes_ Tryz.func174 (by kernel_rfl) rfl #[.pointer po, .int .i64 t, .int .i64 l] (by rfl) rfl rfl (by simp only [List.map_toArray, List.map_cons, List.map_nil]; rfl) ?_
  with_reducible refine (HH1.out _ B1d.out).mono ?_
  rintro e w2 ⟨rfl, b2⟩
  refine ⟨_, rfl, ?_⟩
  have z2 := b2.size
  simp at z2
  have H2 := Lib.hid ((b2.block w1.heap.size (by simp)).trans H0.out)
  have G2 := Lib.hid ((b2.block w.heap.size (by simp <;> omega)).trans E1b.out)
  have B2 := Lib.hid (B1d.out.trans (b2.mono B1d.out.size))
  refine hK.out _ _ ⟨((b2.cell (by simp <;> omega)).trans hHeld.1), ((b2.cell (by simp <;> omega)).trans hHeld.2)⟩ (fun hHeld => ?_)
  clear hK K
  refine norm_ (a' := ?_) ?_ ?_
  rotate_left
  · show Act.put _ (some 18) _ = _
    simp only [Act.put, sqA, sqZ, sqS, i64_w, i32_w]
    rfl
  refine pure_ (i := 10) (N := some 24) (v := ?_) (a' := ?_) (bz 14 1535).toArray rfl rfl (by kernel_rfl) (fun _ _ _ h => h) (Or.inl ⟨by rfl, ?_⟩) ?_ ?_
  rotate_left
  · intro w'
    go_simp
    with_reducible rfl
  rotate_left
  · simp only [Act.put, sqA, sqZ, sqS, i64_w, i32_w]
    rfl
  refine one_ (i := 9) (N := some 23) (bz 14 2047).toArray rfl rfl (by kernel_rfl) (by decide) (fun K hK => ?_)
  refine goes_ Tryz.func174 (by kernel_rfl) rfl #[.pointer po, .int .i64 t, .int .i64 r] (by rfl) rfl rfl (by simp only [List.map_toArray, List.map_cons, List.map_nil]; rfl) ?_
  with_reducible refine (HH2.out _ B2.out).mono ?_
  rintro e w3 ⟨rfl, b3⟩
  refine ⟨_, rfl, ?_⟩
  have z3 := b3.size
  have H3 := Lib.hid ((b3.block w1.heap.size (by omega)).trans H2.out)
  have G3 := Lib.hid ((b3.block w.heap.size (by omega)).trans G2.out)
  have B3 := Lib.hid (B2.out.trans (b3.mono B2.out.size))
  refine hK.out _ _ ⟨((b3.cell (by simp <;> omega)).trans hHeld.1), ((b3.cell (by simp <;> omega)).trans hHeld.2)⟩ (fun hHeld => ?_)
  clear hK K
  refine norm_ (a' := ?_) ?_ ?_
  rotate_left
  · show Act.put _ (some 23) _ = _
    simp only [Act.put, sqA, sqZ, sqS, i64_w, i32_w]
    rfl
  refine last_ (i := 11) (N := none) (bz 14 4095).toArray rfl rfl (by kernel_rfl) (by decide) (fun K hK => ?_)
  have x2 := cell_blk (i := 2) H3.out rfl
  have f2 := free_blk (i := 2) H3.out
  refine skip_ (w1 := ?_) (by rfl) rfl ?_ ?_
  rotate_left
  · go_simp
    rfl
  have H4 := Lib.hid (heap_setCell_same w3 w1.heap.size 2 _ _ (.int .i64 L) H3.out)
  refine hK.out _ _ ?_
  clear hK K
  refine pure_ (i := 12) (N := some 25) (v := ?_) (a' := ?_) (bz 14 8191).toArray rfl rfl (by kernel_rfl) (fun _ _ _ h => h) (Or.inl ⟨by rfl, ?_⟩) ?_ ?_
  rotate_left
  · intro w'
    go_simp
    with_reducible rfl
  rotate_left
  · simp only [Act.put, sqA, sqZ, sqS, i64_w, i32_w]
    rfl
  refine last_ (i := 13) (N := none) (bz 14 16383).toArray rfl rfl (by kernel_rfl) (by decide) (fun K hK => ?_)
  have x3 := cell_blk (i := 3) H4.out rfl
  have f3 := free_blk (i := 3) H4.out
  refine skip_ (w1 := ?_) (by rfl) rfl ?_ ?_
  rotate_left
  · go_simp
    rfl
  have H5 := Lib.hid (heap_setCell_same _ w1.heap.size 3 _ _ (.int .i64 R) H4.out)
  refine hK.out _ _ ?_
  clear hK K
  refine done_ (by kernel_rfl) ?_
  have x0 := cell_blk (i := 0) H5.out rfl
  have x1 := cell_blk (i := 1) H5.out rfl
  have x2 := cell_blk (i := 2) H5.out rfl
  have x3 := cell_blk (i := 3) H5.out rfl
  have x4 := cell_blk (i := 4) H5.out rfl
  have x5 := cell_blk (i := 5) H5.out rfl
  have G4 := Lib.hid ((heap_setCell_other w3 ⟨w1.heap.size, 2, none⟩ w.heap.size (.int .i64 L) (show w.heap.size ≠ w1.heap.size by omega)).trans G3.out)
  have G5 := Lib.hid ((heap_setCell_other (w3.setCell ⟨w1.heap.size, 2, none⟩ (.int .i64 L)) ⟨w1.heap.size, 3, none⟩ w.heap.size (.int .i64 R) (show w.heap.size ≠ w1.heap.size by omega)).trans G4.out)
  have B5 := Lib.hid ((B3.out.setCell (p := ⟨w1.heap.size, 2, none⟩) (show w.heap.size ≤ w1.heap.size by omega) (.int .i64 L)).setCell (p := ⟨w1.heap.size, 3, none⟩) (show w.heap.size ≤ w1.heap.size by omega) (.int .i64 R))
  have z5 : w.heap.size < ((w3.setCell ⟨w1.heap.size, 2, none⟩ (.int .i64 L)).setCell ⟨w1.heap.size, 3, none⟩ (.int .i64 R)).heap.size := by simp <;> omega
  generalize (w3.setCell ⟨w1.heap.size, 2, none⟩ (.int .i64 L)).setCell ⟨w1.heap.size, 3, none⟩ (.int .i64 R) = w5 at *
  have y0 := cell_blk (i := 0) G5.out rfl
  have y1 := cell_blk (i := 1) G5.out rfl
  have y2 := cell_blk (i := 2) G5.out rfl
  have y3 := cell_blk (i := 3) G5.out rfl
  have y4 := cell_blk (i := 4) G5.out rfl
  have y5 := cell_blk (i := 5) G5.out rfl
  have f0 := free_blk (i := 0) G5.out
  have f1 := free_blk (i := 1) G5.out
  have f2 := free_blk (i := 2) G5.out
  have f3 := free_blk (i := 3) G5.out
  have f4 := free_blk (i := 4) G5.out
  have f5 := free_blk (i := 5) G5.out
  have K6 := Lib.hid (set6_heap (.int .i64 k) (.int .i64 v) (.int .i64 L) (.int .i64 R) (.int .i64 s) (.int .i64 g) G5.out)
  go_wp2_with fail
  have k0 := cell_blk (i := 0) K6.out rfl
  have k1 := cell_blk (i := 1) K6.out rfl
  have k2 := cell_blk (i := 2) K6.out rfl
  have k3 := cell_blk (i := 3) K6.out rfl
  have k4 := cell_blk (i := 4) K6.out rfl
  have k5 := cell_blk (i := 5) K6.out rfl
  unfold set6 at k0 k1 k2 k3 k4 k5
  refine bodyPost_ret (v := .tuple #[.agg #[.int .i64 k, .int .i64 v, .int .i64 L, .int .i64 R, .int .i64 s, .int .i64 g], .bool ok]) (by simp [results, Tryz.results138, go_sem, k0, k1, k2, k3, k4, k5]) rfl ⟨rfl, ?_⟩
  exact ((((((B5.out.setCell (p := ⟨w.heap.size, 0, none⟩) (Nat.le_refl _) _).setCell (p := ⟨w.heap.size, 1, none⟩) (Nat.le_refl _) _).setCell (p := ⟨w.heap.size, 2, none⟩) (Nat.le_refl _) _).setCell (p := ⟨w.heap.size, 3, none⟩) (Nat.le_refl _) _).setCell (p := ⟨w.heap.size, 4, none⟩) (Nat.le_refl _) _).setCell (p := ⟨w.heap.size, 5, none⟩) (Nat.le_refl _) _)
end Go.Proofs.YtghjnkfocjjlnaaGreat
end
section
namespace Go.Proofs.YtghjnkfocjjlnaaGreat
set_option maxRecDepth 100000
open Go.RowKit
set_option linter.unusedSimpArgs false
set_option linter.unusedVariables false
def sizeO (A : OA) (t : Int) : Int := (getN A t).size
def lgF : Nat → OA → Int → Int → Int × Bool
  | 0, _, _, _ => (0, false)
  | n + 1, A, t, key => if isN A t = false then (0, false) else if (getH A t).key = key then ((getH A t).val, true) else if key < (getH A t).key then lgF n A (getH A t).left key else lgF n A (getH A t).right key
def lbF : Nat → OA → Int → Int → Int → Int
  | 0, _, _, _, out => out
  | n + 1, A, t, key, out => if isN A t = false then out else if (getH A t).key = key then wrap64 (out + sizeO A (getH A t).left) else if key < (getH A t).key then lbF n A (getH A t).left key out else lbF n A (getH A t).right key (wrap64 (out + wrap64 (sizeO A (getH A t).left + 1)))
def lnF : Nat → OA → Int → Int → Int × Int × Bool
  | 0, _, _, _ => (0, 0, false)
  | n + 1, A, t, i => if isN A t = false then (0, 0, false) else if i = sizeO A (getH A t).left then ((getH A t).key, (getH A t).val, true) else if i < sizeO A (getH A t).left then lnF n A (getH A t).left i else lnF n A (getH A t).right (wrap64 (wrap64 (i - sizeO A (getH A t).left) - 1))
theorem isN_pos {A : OA} {t : Int} (h : isN A t = true) : 1 ≤ t := by
  cases A with
  | none => exact absurd h (by simp [isN, kindO])
  | some a => exact (isN_in h).1
theorem hang_lt (A : OA) {t : Int} (x : Int) (ht : 1 ≤ t) : 0 ≤ hangO A t x ∧ hangO A t x < t := by
  unfold hangO
  split
  · rename_i hh
    have := isN_pos hh.1
    omega
  · omega
theorem getH_lt {A : OA} {t : Int} (h : isN A t = true) : (0 ≤ (getH A t).left ∧ (getH A t).left < t) ∧ 0 ≤ (getH A t).right ∧ (getH A t).right < t := ⟨hang_lt A _ (isN_pos h), hang_lt A _ (isN_pos h)⟩
theorem lgF_no {n : Nat} {A : OA} {t key : Int} (h : isN A t = false) : lgF n A t key = (0, false) := by
  cases n with
  | zero => rfl
  | succ n => simp only [lgF]; rw [if_pos h]
theorem lbF_no {n : Nat} {A : OA} {t key out : Int} (h : isN A t = false) : lbF n A t key out = out := by
  cases n with
  | zero => rfl
  | succ n => simp only [lbF]; rw [if_pos h]
theorem lnF_no {n : Nat} {A : OA} {t i : Int} (h : isN A t = false) : lnF n A t i = (0, 0, false) := by
  cases n with
  | zero => rfl
  | succ n => simp only [lnF]; rw [if_pos h]
theorem lgF_yes {n : Nat} {A : OA} {t key : Int} (h : isN A t = true) : lgF (n + 1) A t key = if (getH A t).key = key then ((getH A t).val, true) else if key < (getH A t).key then lgF n A (getH A t).left key else lgF n A (getH A t).right key := by
  simp only [lgF]; rw [if_neg (by rw [h]; decide)]
theorem lbF_yes {n : Nat} {A : OA} {t key out : Int} (h : isN A t = true) : lbF (n + 1) A t key out = if (getH A t).key = key then wrap64 (out + sizeO A (getH A t).left) else if key < (getH A t).key then lbF n A (getH A t).left key out else lbF n A (getH A t).right key (wrap64 (out + wrap64 (sizeO A (getH A t).left + 1))) := by
  simp only [lbF]; rw [if_neg (by rw [h]; decide)]
theorem lnF_yes {n : Nat} {A : OA} {t i : Int} (h : isN A t = true) : lnF (n + 1) A t i = if i = sizeO A (getH A t).left then ((getH A t).key, (getH A t).val, true) else if i < sizeO A (getH A t).left then lnF n A (getH A t).left i else lnF n A (getH A t).right (wrap64 (wrap64 (i - sizeO A (getH A t).left) - 1)) := by
  simp only [lnF]; rw [if_neg (by rw [h]; decide)]
set_option maxHeartbeats 1000000 in
theorem lsize_any {w : World} {po : Option Addr} {A : OA} {F : Nat → Prop} (h : OAt w po A F) (t : Int) :
    Calls Tryz.prog 197 #[.pointer po, .int .i64 t] w fun e w' => e = .returned (.int .i64 (getN A t).size) ∧ Below w.heap.size w w' := by
  have HG := Lib.hid (get_any h t); clear h
  go_enter Tryz.func197, Tryz.ntmps197
  go_wp2_with fail
  refine HG.out.mono ?_
  rintro e w1 ⟨rfl, b1⟩
  have B1 := Lib.hid b1; clear b1
  go_wp2_with fail
  go_ret
  exact ⟨rfl, B1.out.alloc B1.out.size _⟩
set_option maxRecDepth 100000 in
set_option maxHeartbeats 4000000 in
theorem lookGet_any {w : World} {po : Option Addr} {A : OA} {F : Nat → Prop} (h : OAt w po A F) (N : Nat) (t key : Int) (hN : t < N) :
    Calls Tryz.prog 90 #[.pointer po, .int .i64 t, .int .i64 key] w fun e w' => e = .returned (.tuple #[.int .i64 (lgF N A t key).1, .bool (lgF N A t key).2]) ∧ Below w.heap.size w w' := by
  have HH := Lib.hid h; clear h
  go_enter Tryz.func90, Tryz.ntmps90
  go_wp2_with fail
  go_loopw [1] (fun tv wr => ∃ (t' : Int) (n' : Nat), tv = .int .i64 t' ∧ Hid (t' < n' ∧ lgF N A t key = lgF n' A t' key ∧ Below w.heap.size w wr)) (fun tv _ => (intOf tv).toNat)
  case atStart => exact ⟨t, N, rfl, Lib.hid ⟨hN, rfl, Below.refl _ _⟩⟩
  case round =>
    obtain ⟨t', n', rfl, HR⟩ := hrel
    obtain ⟨hlt, heq, hbel⟩ := HR.out
    have hg := lget_any (HH.out.below hbel) t'
    have hz := hbel.size
    by_cases hn : isN A t' = true
    · have hp := isN_pos hn
      obtain ⟨m, rfl⟩ : ∃ m, n' = m + 1 := ⟨n' - 1, by omega⟩
      rw [lgF_yes hn] at heq
      have hch := getH_lt hn
      rw [hn] at hg
      generalize getH A t' = nd at hg heq hch
      obtain ⟨k, v, l, r, s, g⟩ := nd
      simp only [] at hg heq hch
      have HG := Lib.hid hg
      have HB := Lib.hid hbel
      have HC := Lib.hid hch
      have HL := Lib.hid hlt
      have HP := Lib.hid hp
      clear hg hbel hch hlt HR hn hp
      by_cases hk : k = key
      · subst hk
        rw [if_pos rfl] at heq
        have HE := Lib.hid heq; clear heq
        have q := beq_self_eq_true k
        go_wp2_with fail
        refine HG.out.mono ?_
        rintro e w1 ⟨rfl, b1⟩
        have B1 := Lib.hid ((HB.out.trans (b1.mono HB.out.size)).alloc (by have := b1.size; omega) (.cells #[.int .i64 k, .int .i64 v, .int .i64 l, .int .i64 r, .int .i64 s, .int .i64 g] 177)); clear b1
        have D1 := Lib.hid (heap_alloc_new w1 (.cells #[.int .i64 k, .int .i64 v, .int .i64 l, .int .i64 r, .int .i64 s, .int .i64 g] 177))
        go_wp2_with fail
        refine (holds_any k v l r s g k _).mono ?_
        rintro e w2 ⟨rfl, b2⟩
        have D2 := Lib.hid ((b2.block w1.heap.size (by simp)).trans D1.out)
        have B2 := Lib.hid (B1.out.trans (b2.mono B1.out.size)); clear b2
        have x0 := cell_blk (i := 0) D2.out rfl
        have x1 := cell_blk (i := 1) D2.out rfl
        have x2 := cell_blk (i := 2) D2.out rfl
        have x3 := cell_blk (i := 3) D2.out rfl
        go_wp2_with fail
        go_ret2
        exact ⟨by rw [HE.out]; rfl, B2.out⟩
      · rw [if_neg hk] at heq
        have q : (k == key) = false := beq_eq_false_iff_ne.2 hk
        by_cases hlk : key < k
        · rw [if_pos hlk] at heq
          have HE := Lib.hid heq; clear heq
          clear hk
          go_wp2_with fail
          refine HG.out.mono ?_
          rintro e w1 ⟨rfl, b1⟩
          have B1 := Lib.hid ((HB.out.trans (b1.mono HB.out.size)).alloc (by have := b1.size; omega) (.cells #[.int .i64 k, .int .i64 v, .int .i64 l, .int .i64 r, .int .i64 s, .int .i64 g] 177)); clear b1
          have D1 := Lib.hid (heap_alloc_new w1 (.cells #[.int .i64 k, .int .i64 v, .int .i64 l, .int .i64 r, .int .i64 s, .int .i64 g] 177))
          go_wp2_with fail
          refine (holds_any k v l r s g key _).mono ?_
          rintro e w2 ⟨rfl, b2⟩
          have D2 := Lib.hid ((b2.block w1.heap.size (by simp)).trans D1.out)
          have B2 := Lib.hid (B1.out.trans (b2.mono B1.out.size)); clear b2
          have x0 := cell_blk (i := 0) D2.out rfl
          have x1 := cell_blk (i := 1) D2.out rfl
          have x2 := cell_blk (i := 2) D2.out rfl
          have x3 := cell_blk (i := 3) D2.out rfl
          go_wp2_with fail
          go_roundw
          case rel => exact ⟨l, m, rfl, Lib.hid ⟨by have h1 := HC.out.1.2; have h2 := HL.out; omega, HE.out, B2.out⟩⟩
          case measure => have h1 := HC.out.1; have h2 := HP.out; simp [intOf]; omega
        · rw [if_neg hlk] at heq
          have HE := Lib.hid heq; clear heq
          clear hk
          go_wp2_with fail
          refine HG.out.mono ?_
          rintro e w1 ⟨rfl, b1⟩
          have B1 := Lib.hid ((HB.out.trans (b1.mono HB.out.size)).alloc (by have := b1.size; omega) (.cells #[.int .i64 k, .int .i64 v, .int .i64 l, .int .i64 r, .int .i64 s, .int .i64 g] 177)); clear b1
          have D1 := Lib.hid (heap_alloc_new w1 (.cells #[.int .i64 k, .int .i64 v, .int .i64 l, .int .i64 r, .int .i64 s, .int .i64 g] 177))
          go_wp2_with fail
          refine (holds_any k v l r s g key _).mono ?_
          rintro e w2 ⟨rfl, b2⟩
          have D2 := Lib.hid ((b2.block w1.heap.size (by simp)).trans D1.out)
          have B2 := Lib.hid (B1.out.trans (b2.mono B1.out.size)); clear b2
          have x0 := cell_blk (i := 0) D2.out rfl
          have x1 := cell_blk (i := 1) D2.out rfl
          have x2 := cell_blk (i := 2) D2.out rfl
          have x3 := cell_blk (i := 3) D2.out rfl
          go_wp2_with fail
          go_roundw
          case rel => exact ⟨r, m, rfl, Lib.hid ⟨by have h1 := HC.out.2.2; have h2 := HL.out; omega, HE.out, B2.out⟩⟩
          case measure => have h1 := HC.out.2; have h2 := HP.out; simp [intOf]; omega
    · have hn2 : isN A t' = false := by simpa using hn
      rw [lgF_no hn2] at heq
      rw [hn2] at hg
      generalize getH A t' = nd at hg
      have HG := Lib.hid hg
      have HB := Lib.hid hbel
      have HE := Lib.hid heq
      clear hg hbel hn hn2 HR heq
      go_wp2_with fail
      refine HG.out.mono ?_
      rintro e w1 ⟨rfl, b1⟩
      have B1 := Lib.hid (HB.out.trans (b1.mono HB.out.size)); clear b1
      go_wp2_with fail
      go_ret2
      exact ⟨by rw [HE.out]; rfl, B1.out.alloc B1.out.size _⟩
end Go.Proofs.YtghjnkfocjjlnaaGreat
end
section
namespace Go.Proofs.YtghjnkfocjjlnaaGreat
set_option maxRecDepth 100000
open Go.RowKit
set_option linter.unusedSimpArgs false
set_option linter.unusedVariables false
def nthO (N : Nat) (A : OA) (t i : Int) : Int × Int × Bool := if i < 0 ∨ (getN A t).size ≤ i then (0, 0, false) else lnF N A t i
def set2 (w : World) (b : Nat) (v0 v1 : Value) : World := (w.setCell ⟨b, 0, none⟩ v0).setCell ⟨b, 1, none⟩ v1
theorem set2_heap {w : World} {b : Nat} {c0 c1 : Value} {t : TypeId} (v0 v1 : Value) (h : w.heap[b]? = some (.cells #[c0, c1] t (0, 0))) : (set2 w b v0 v1).heap[b]? = some (.cells #[v0, v1] t (0, 0)) := by
  have h0 := heap_setCell_same w b 0 _ _ v0 h
  exact heap_setCell_same _ b 1 _ _ v1 h0
set_option maxRecDepth 100000 in
set_option maxHeartbeats 4000000 in
theorem lookNth_any {w : World} {po : Option Addr} {A : OA} {F : Nat → Prop} (h : OAt w po A F) (N : Nat) (t i : Int) (hN : t < N) :
    Calls Tryz.prog 198 #[.pointer po, .int .i64 t, .int .i64 i] w fun e w' => e = .returned (.tuple #[.agg #[.int .i64 (nthO N A t i).1, .int .i64 (nthO N A t i).2.1], .bool (nthO N A t i).2.2]) ∧ Below w.heap.size w w' := by
  have HH := Lib.hid h
  have HS := Lib.hid (fun w' (hb : Below w.heap.size w w') (x : Int) => lsize_any (h.below hb) x)
  clear h
  have B0 := Lib.hid ((Below.refl w.heap.size w).alloc (Nat.le_refl _) (.cells #[.int .i64 0, .int .i64 0] 43))
  have D0 := Lib.hid (heap_alloc_new w (.cells #[.int .i64 0, .int .i64 0] 43))
  by_cases hneg : i < 0
  · have HE := Lib.hid (show nthO N A t i = (0, 0, false) by unfold nthO; rw [if_pos (.inl hneg)])
    have y0 := cell_blk (i := 0) D0.out rfl
    have y1 := cell_blk (i := 1) D0.out rfl
    have f0 := free_blk (i := 0) D0.out
    have f1 := free_blk (i := 1) D0.out
    have K2 := Lib.hid (set2_heap (.int .i64 0) (.int .i64 0) D0.out)
    go_enter Tryz.func198, Tryz.ntmps198
    go_wp2_with fail
    have k0 := cell_blk (i := 0) K2.out rfl
    have k1 := cell_blk (i := 1) K2.out rfl
    unfold set2 at k0 k1
    refine bodyPost_ret (v := .tuple #[.agg #[.int .i64 0, .int .i64 0], .bool false]) (by simp [results, Tryz.results198, go_sem, k0, k1]) rfl ⟨by rw [HE.out], ?_⟩
    first | exact ((B0.out.setCell (p := ⟨w.heap.size, 0, none⟩) (Nat.le_refl _) _).setCell (p := ⟨w.heap.size, 1, none⟩) (Nat.le_refl _) _) | exact B0.out | exact (Below.refl w.heap.size w).alloc (Nat.le_refl _) _
  · go_enter Tryz.func198, Tryz.ntmps198
    go_wp2_with fail
    refine (HS.out _ B0.out t).mono ?_
    rintro e w0 ⟨rfl, b0⟩
    have D := Lib.hid ((b0.block w.heap.size (by simp)).trans D0.out)
    have B := Lib.hid (B0.out.trans (b0.mono B0.out.size)); clear b0
    by_cases hbig : (getN A t).size ≤ i
    · have HE := Lib.hid (show nthO N A t i = (0, 0, false) by unfold nthO; rw [if_pos (.inr hbig)])
      have y0 := cell_blk (i := 0) D.out rfl
      have y1 := cell_blk (i := 1) D.out rfl
      have f0 := free_blk (i := 0) D.out
      have f1 := free_blk (i := 1) D.out
      have K2 := Lib.hid (set2_heap (.int .i64 0) (.int .i64 0) D.out)
      go_wp2_with fail
      have k0 := cell_blk (i := 0) K2.out rfl
      have k1 := cell_blk (i := 1) K2.out rfl
      unfold set2 at k0 k1
      refine bodyPost_ret (v := .tuple #[.agg #[.int .i64 0, .int .i64 0], .bool false]) (by simp [results, Tryz.results198, go_sem, k0, k1]) rfl ⟨by rw [HE.out], ?_⟩
      exact ((B.out.setCell (p := ⟨w.heap.size, 0, none⟩) (Nat.le_refl _) _).setCell (p := ⟨w.heap.size, 1, none⟩) (Nat.le_refl _) _)
    · have HE0 := Lib.hid (show nthO N A t i = lnF N A t i by unfold nthO; rw [if_neg (by omega)])
      go_wp2_with fail
      go_loopw [1, 2] (fun tv iv wr => ∃ (t' i' : Int) (n' : Nat), tv = .int .i64 t' ∧ iv = .int .i64 i' ∧ Hid (t' < n' ∧ lnF N A t i = lnF n' A t' i' ∧ Below w.heap.size w wr ∧ wr.heap[w.heap.size]? = some (.cells #[.int .i64 0, .int .i64 0] 43 (0, 0)))) (fun tv _ _ => (intOf tv).toNat)
      case atStart => exact ⟨t, i, N, rfl, rfl, Lib.hid ⟨hN, rfl, B.out, D.out⟩⟩
      case round =>
        clear hneg hbig hN
        obtain ⟨t', i', n', rfl, rfl, HR⟩ := hrel
        obtain ⟨hlt, heq, hbel, hblk⟩ := HR.out
        have hg := lget_any (HH.out.below hbel) t'
        have hz := hbel.size
        have hwz : w.heap.size < wr.heap.size := (Array.getElem?_eq_some_iff.1 hblk).1
        by_cases hn : isN A t' = true
        · have hp := isN_pos hn
          obtain ⟨m, rfl⟩ : ∃ m, n' = m + 1 := ⟨n' - 1, by omega⟩
          rw [lnF_yes hn] at heq
          have hch := getH_lt hn
          rw [hn] at hg
          generalize getH A t' = nd at hg heq hch
          obtain ⟨k, v, l, r, s, g⟩ := nd
          simp only [] at hg heq hch
          have hsz := fun w' (hb : Below w.heap.size w w') => HS.out w' hb l
          rw [show (getN A l).size = sizeO A l from rfl] at hsz
          generalize sizeO A l = sl at hsz heq
          have HZ := Lib.hid hsz
          have HG := Lib.hid hg
          have HB := Lib.hid hbel
          have HK := Lib.hid hblk
          have HC := Lib.hid hch
          have HL := Lib.hid hlt
          have HP := Lib.hid hp
          clear hg hbel hch hlt HR hn hp hsz hblk
          by_cases hk : i' = sl
          · subst hk
            rw [if_pos rfl] at heq
            have HE := Lib.hid heq; clear heq
            have q := beq_self_eq_true i'
            go_wp2_with fail
            refine HG.out.mono ?_
            rintro e w1 ⟨rfl, b1⟩
            have z1 := b1.size
            have B1 := Lib.hid ((HB.out.trans (b1.mono HB.out.size)).alloc (by omega) (.cells #[.int .i64 k, .int .i64 v, .int .i64 l, .int .i64 r, .int .i64 s, .int .i64 g] 177))
            have D1 := Lib.hid (heap_alloc_new w1 (.cells #[.int .i64 k, .int .i64 v, .int .i64 l, .int .i64 r, .int .i64 s, .int .i64 g] 177))
            have K1 := Lib.hid ((heap_alloc_old w1 (.cells #[.int .i64 k, .int .i64 v, .int .i64 l, .int .i64 r, .int .i64 s, .int .i64 g] 177) (show w.heap.size < w1.heap.size by omega)).trans ((b1.block w.heap.size hwz).trans HK.out))
            clear b1
            go_wp2_with fail
            refine (HZ.out _ B1.out).mono ?_
            rintro e w3 ⟨rfl, b3⟩
            have z3 := b3.size
            simp at z3
            have D3 := Lib.hid ((b3.block w1.heap.size (by simp)).trans D1.out)
            have K3 := Lib.hid ((b3.block w.heap.size (by simp <;> omega)).trans K1.out)
            have B3 := Lib.hid (B1.out.trans (b3.mono B1.out.size)); clear b3
            have x0 := cell_blk (i := 0) D3.out rfl
            have x1 := cell_blk (i := 1) D3.out rfl
            have x2 := cell_blk (i := 2) D3.out rfl
            have x3 := cell_blk (i := 3) D3.out rfl
            have hw3 : w.heap.size < w3.heap.size := by omega
            have y0 := cell_blk (i := 0) K3.out rfl
            have y1 := cell_blk (i := 1) K3.out rfl
            have f0 := free_blk (i := 0) K3.out
            have f1 := free_blk (i := 1) K3.out
            have K2 := Lib.hid (set2_heap (.int .i64 k) (.int .i64 v) K3.out)
            go_wp2_with fail
            have k0 := cell_blk (i := 0) K2.out rfl
            have k1 := cell_blk (i := 1) K2.out rfl
            unfold set2 at k0 k1
            refine bodyPost_ret (v := .tuple #[.agg #[.int .i64 k, .int .i64 v], .bool true]) (by simp [results, Tryz.results198, go_sem, k0, k1]) rfl ⟨by rw [HE0.out, HE.out], ?_⟩
            exact ((B3.out.setCell (p := ⟨w.heap.size, 0, none⟩) (Nat.le_refl _) _).setCell (p := ⟨w.heap.size, 1, none⟩) (Nat.le_refl _) _)
          · rw [if_neg hk] at heq
            have q : (i' == sl) = false := beq_eq_false_iff_ne.2 hk
            by_cases hlk : i' < sl
            · rw [if_pos hlk] at heq
              have HE := Lib.hid heq; clear heq
              clear hk
              go_wp2_with fail
              refine HG.out.mono ?_
              rintro e w1 ⟨rfl, b1⟩
              have z1 := b1.size
              have B1 := Lib.hid ((HB.out.trans (b1.mono HB.out.size)).alloc (by omega) (.cells #[.int .i64 k, .int .i64 v, .int .i64 l, .int .i64 r, .int .i64 s, .int .i64 g] 177))
              have D1 := Lib.hid (heap_alloc_new w1 (.cells #[.int .i64 k, .int .i64 v, .int .i64 l, .int .i64 r, .int .i64 s, .int .i64 g] 177))
              have K1 := Lib.hid ((heap_alloc_old w1 (.cells #[.int .i64 k, .int .i64 v, .int .i64 l, .int .i64 r, .int .i64 s, .int .i64 g] 177) (show w.heap.size < w1.heap.size by omega)).trans ((b1.block w.heap.size hwz).trans HK.out))
              clear b1
              go_wp2_with fail
              refine (HZ.out _ B1.out).mono ?_
              rintro e w3 ⟨rfl, b3⟩
              have z3 := b3.size
              simp at z3
              have D3 := Lib.hid ((b3.block w1.heap.size (by simp)).trans D1.out)
              have K3 := Lib.hid ((b3.block w.heap.size (by simp <;> omega)).trans K1.out)
              have B3 := Lib.hid (B1.out.trans (b3.mono B1.out.size)); clear b3
              have x0 := cell_blk (i := 0) D3.out rfl
              have x1 := cell_blk (i := 1) D3.out rfl
              have x2 := cell_blk (i := 2) D3.out rfl
              have x3 := cell_blk (i := 3) D3.out rfl
              have hw3 : w.heap.size < w3.heap.size := by omega
              go_wp2_with fail
              go_roundw
              case rel => exact ⟨l, i', m, rfl, rfl, Lib.hid ⟨by have h1 := HC.out.1.2; have h2 := HL.out; omega, HE.out, B3.out, K3.out⟩⟩
              case measure => have h1 := HC.out.1; have h2 := HP.out; simp [intOf]; omega
            · rw [if_neg hlk] at heq
              have HE := Lib.hid heq; clear heq
              clear hk
              go_wp2_with fail
              refine HG.out.mono ?_
              rintro e w1 ⟨rfl, b1⟩
              have z1 := b1.size
              have B1 := Lib.hid ((HB.out.trans (b1.mono HB.out.size)).alloc (by omega) (.cells #[.int .i64 k, .int .i64 v, .int .i64 l, .int .i64 r, .int .i64 s, .int .i64 g] 177))
              have D1 := Lib.hid (heap_alloc_new w1 (.cells #[.int .i64 k, .int .i64 v, .int .i64 l, .int .i64 r, .int .i64 s, .int .i64 g] 177))
              have K1 := Lib.hid ((heap_alloc_old w1 (.cells #[.int .i64 k, .int .i64 v, .int .i64 l, .int .i64 r, .int .i64 s, .int .i64 g] 177) (show w.heap.size < w1.heap.size by omega)).trans ((b1.block w.heap.size hwz).trans HK.out))
              clear b1
              go_wp2_with fail
              refine (HZ.out _ B1.out).mono ?_
              rintro e w3 ⟨rfl, b3⟩
              have z3 := b3.size
              simp at z3
              have D3 := Lib.hid ((b3.block w1.heap.size (by simp)).trans D1.out)
              have K3 := Lib.hid ((b3.block w.heap.size (by simp <;> omega)).trans K1.out)
              have B3 := Lib.hid (B1.out.trans (b3.mono B1.out.size)); clear b3
              have x0 := cell_blk (i := 0) D3.out rfl
              have x1 := cell_blk (i := 1) D3.out rfl
              have x2 := cell_blk (i := 2) D3.out rfl
              have x3 := cell_blk (i := 3) D3.out rfl
              have hw3 : w.heap.size < w3.heap.size := by omega
              go_wp2_with fail
              go_roundw
              case rel => exact ⟨r, _, m, rfl, rfl, Lib.hid ⟨by have h1 := HC.out.2.2; have h2 := HL.out; omega, HE.out, B3.out, K3.out⟩⟩
              case measure => have h1 := HC.out.2; have h2 := HP.out; simp [intOf]; omega
        · have hn2 : isN A t' = false := by simpa using hn
          rw [lnF_no hn2] at heq
          rw [hn2] at hg
          generalize getH A t' = nd at hg
          obtain ⟨k, v, l, r, s, g⟩ := nd
          simp only [] at hg
          have HZ := Lib.hid (fun w' (hb : Below w.heap.size w w') => HS.out w' hb l)
          have HG := Lib.hid hg
          have HB := Lib.hid hbel
          have HK := Lib.hid hblk
          have HE := Lib.hid heq
          clear hg hbel hn hn2 HR heq hblk hlt
          go_wp2_with fail
          refine HG.out.mono ?_
          rintro e w1 ⟨rfl, b1⟩
          have z1 := b1.size
          have B1 := Lib.hid ((HB.out.trans (b1.mono HB.out.size)).alloc (by omega) (.cells #[.int .i64 k, .int .i64 v, .int .i64 l, .int .i64 r, .int .i64 s, .int .i64 g] 177))
          have D1 := Lib.hid (heap_alloc_new w1 (.cells #[.int .i64 k, .int .i64 v, .int .i64 l, .int .i64 r, .int .i64 s, .int .i64 g] 177))
          have K1 := Lib.hid ((heap_alloc_old w1 (.cells #[.int .i64 k, .int .i64 v, .int .i64 l, .int .i64 r, .int .i64 s, .int .i64 g] 177) (show w.heap.size < w1.heap.size by omega)).trans ((b1.block w.heap.size hwz).trans HK.out))
          clear b1
          go_wp2_with fail
          refine (HZ.out _ B1.out).mono ?_
          rintro e w3 ⟨rfl, b3⟩
          have z3 := b3.size
          simp at z3
          have D3 := Lib.hid ((b3.block w1.heap.size (by simp)).trans D1.out)
          have K3 := Lib.hid ((b3.block w.heap.size (by simp <;> omega)).trans K1.out)
          have B3 := Lib.hid (B1.out.trans (b3.mono B1.out.size)); clear b3
          have x0 := cell_blk (i := 0) D3.out rfl
          have x1 := cell_blk (i := 1) D3.out rfl
          have x2 := cell_blk (i := 2) D3.out rfl
          have x3 := cell_blk (i := 3) D3.out rfl
          have hw3 : w.heap.size < w3.heap.size := by omega
          have y0 := cell_blk (i := 0) K3.out rfl
          have y1 := cell_blk (i := 1) K3.out rfl
          have f0 := free_blk (i := 0) K3.out
          have f1 := free_blk (i := 1) K3.out
          have K2 := Lib.hid (set2_heap (.int .i64 0) (.int .i64 0) K3.out)
          go_wp2_with fail
          have k0 := cell_blk (i := 0) K2.out rfl
          have k1 := cell_blk (i := 1) K2.out rfl
          unfold set2 at k0 k1
          refine bodyPost_ret (v := .tuple #[.agg #[.int .i64 0, .int .i64 0], .bool false]) (by simp [results, Tryz.results198, go_sem, k0, k1]) rfl ⟨by rw [HE0.out, HE.out], ?_⟩
          exact ((B3.out.setCell (p := ⟨w.heap.size, 0, none⟩) (Nat.le_refl _) _).setCell (p := ⟨w.heap.size, 1, none⟩) (Nat.le_refl _) _)
end Go.Proofs.YtghjnkfocjjlnaaGreat
end
