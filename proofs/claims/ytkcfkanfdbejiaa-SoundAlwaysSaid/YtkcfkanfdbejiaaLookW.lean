/- The walks of package look. -/
import Derived.Test.YtkcfkanfdbejiaaHangW
import Derived.Test.YtkcfkanfdbejiaaSorted
namespace Go.Proofs.Ytkcfkanfdbejiaa
set_option maxRecDepth 100000
open Go.RowKit Go.Proofs.YtkcfkanfdbejiaaW.PrintWords Go.Proofs.YtkcfkanfdbejiaaW.PrintLast
set_option linter.unusedSimpArgs false
set_option linter.unusedVariables false

/-- What look's get tells: a node whose children hang below. -/
def getH (A : OA) (t : Int) : Nd := ⟨(getN A t).key, (getN A t).val, hangO A t (getN A t).left, hangO A t (getN A t).right, (getN A t).size, (getN A t).high⟩
theorem free_blk {w : World} {b i : Nat} {cs : Array Value} {t : TypeId} (hb : w.heap[b]? = some (.cells cs t (0, 0))) : w.frozen? ⟨b, i, none⟩ = false := by
  simp [World.frozen?, hb]

def set6 (w : World) (b : Nat) (v0 v1 v2 v3 v4 v5 : Value) : World := (((((w.setCell ⟨b, 0, none⟩ v0).setCell ⟨b, 1, none⟩ v1).setCell ⟨b, 2, none⟩ v2).setCell ⟨b, 3, none⟩ v3).setCell ⟨b, 4, none⟩ v4).setCell ⟨b, 5, none⟩ v5
theorem set6_heap {w : World} {b : Nat} {c0 c1 c2 c3 c4 c5 : Value} {t : TypeId} (v0 v1 v2 v3 v4 v5 : Value) (h : w.heap[b]? = some (.cells #[c0, c1, c2, c3, c4, c5] t (0, 0))) : (set6 w b v0 v1 v2 v3 v4 v5).heap[b]? = some (.cells #[v0, v1, v2, v3, v4, v5] t (0, 0)) := by
  have h0 := heap_setCell_same w b 0 _ _ v0 h
  have h1 := heap_setCell_same _ b 1 _ _ v1 h0
  have h2 := heap_setCell_same _ b 2 _ _ v2 h1
  have h3 := heap_setCell_same _ b 3 _ _ v3 h2
  have h4 := heap_setCell_same _ b 4 _ _ v4 h3
  exact heap_setCell_same _ b 5 _ _ v5 h4

set_option maxRecDepth 100000 in
set_option maxHeartbeats 4000000 in
theorem lget_any {w : World} {po : Option Addr} {A : OA} {F : Nat → Prop} (h : OAt w po A F) (t : Int) :
    Calls Try.prog 66 #[.pointer po, .int .i64 t] w fun e w' =>
      e = .returned (.tuple #[.agg #[.int .i64 (getH A t).key, .int .i64 (getH A t).val, .int .i64 (getH A t).left, .int .i64 (getH A t).right, .int .i64 (getH A t).size, .int .i64 (getH A t).high], .bool (isN A t)]) ∧ Below w.heap.size w w' := by
  have hb0 : Below w.heap.size w (w.alloc (.cells #[.int .i64 0, .int .i64 0, .int .i64 0, .int .i64 0, .int .i64 0, .int .i64 0] 41)) := (Below.refl _ _).alloc (Nat.le_refl _) _
  have hg := get_any (h.below hb0) t
  have hh1 := fun w' (hb : Below w.heap.size w w') => hang_look (h.below hb) t (getN A t).left
  have hh2 := fun w' (hb : Below w.heap.size w w') => hang_look (h.below hb) t (getN A t).right
  unfold getH
  generalize hL : hangO A t (getN A t).left = L at hh1
  generalize hR : hangO A t (getN A t).right = R at hh2
  clear hL hR
  generalize getN A t = nd at hg hh1 hh2
  obtain ⟨k, v, l, r, s, g⟩ := nd
  simp only [] at hg hh1 hh2 ⊢
  generalize isN A t = ok at hg
  have HB0 := Lib.hid hb0
  have HG := Lib.hid hg
  have HH1 := Lib.hid hh1
  have HH2 := Lib.hid hh2
  have e0 := Lib.hid (heap_alloc_new w (.cells #[.int .i64 0, .int .i64 0, .int .i64 0, .int .i64 0, .int .i64 0, .int .i64 0] 41))
  clear hb0 hg hh1 hh2 h
  go_enter Try.func66, Try.ntmps66
  go_wp2_with fail
  refine HG.out.mono ?_
  rintro e w1 ⟨rfl, b1⟩
  have B1 := Lib.hid (HB0.out.trans (b1.mono HB0.out.size))
  have z1 := b1.size
  simp at z1
  have E1 := Lib.hid ((b1.block w.heap.size (by simp)).trans e0.out)
  clear b1
  go_wp2_with fail
  have B1d := Lib.hid ((B1.out.alloc B1.out.size (.cells #[.int .i64 k, .int .i64 v, .int .i64 l, .int .i64 r, .int .i64 s, .int .i64 g] 41)).drew)
  have H0 := Lib.hid (heap_alloc_new w1 (.cells #[.int .i64 k, .int .i64 v, .int .i64 l, .int .i64 r, .int .i64 s, .int .i64 g] 41))
  have E1b := Lib.hid ((heap_alloc_old w1 (.cells #[.int .i64 k, .int .i64 v, .int .i64 l, .int .i64 r, .int .i64 s, .int .i64 g] 41) (show w.heap.size < w1.heap.size by omega)).trans E1.out)
  refine start_ (n := 14) (S := fun w' => w'.cell? ⟨w1.heap.size, 2, none⟩ = some (.int .i64 l) ∧ w'.cell? ⟨w1.heap.size, 3, none⟩ = some (.int .i64 r)) (ds := [11, 13]) #[false, false, false, false, false, false, false, false, false, false, false, false, false, false] (by kernel_rfl) rfl rfl ⟨(cell_blk (i := 2) (w := (w1.alloc _).drew) H0.out rfl), (cell_blk (i := 3) (w := (w1.alloc _).drew) H0.out rfl)⟩ (fun hHeld => ?_)
  refine pure_ (i := 0) (N := some 14) (v := ?_) (a' := ?_) #[true, false, false, false, false, false, false, false, false, false, false, false, false, false] rfl rfl (by kernel_rfl) (fun _ _ _ h => h) (Or.inl ⟨by rfl, ?_⟩) ?_ ?_
  rotate_left
  · intro w'
    go_simp
    with_reducible rfl
  rotate_left
  · simp only [Act.put, List.setIfInBounds_toArray, List.set_cons_zero, List.set_cons_succ, i64_w, i32_w]
    rfl
  refine pure_ (i := 1) (N := some 15) (v := ?_) (a' := ?_) #[true, true, false, false, false, false, false, false, false, false, false, false, false, false] rfl rfl (by kernel_rfl) (fun _ _ _ h => h) (Or.inl ⟨by rfl, ?_⟩) ?_ ?_
  rotate_left
  · intro w'
    go_simp
    with_reducible rfl
  rotate_left
  · simp only [Act.put, List.setIfInBounds_toArray, List.set_cons_zero, List.set_cons_succ, i64_w, i32_w]
    rfl
  refine pure_ (i := 2) (N := some 16) (v := ?_) (a' := ?_) #[true, true, true, false, false, false, false, false, false, false, false, false, false, false] rfl rfl (by kernel_rfl) (fun _ _ _ h => h) (Or.inl ⟨by rfl, ?_⟩) ?_ ?_
  rotate_left
  · intro w'
    go_simp
    with_reducible rfl
  rotate_left
  · simp only [Act.put, List.setIfInBounds_toArray, List.set_cons_zero, List.set_cons_succ, i64_w, i32_w]
    rfl
  refine pure_ (i := 5) (N := some 19) (v := ?_) (a' := ?_) #[true, true, true, false, false, true, false, false, false, false, false, false, false, false] rfl rfl (by kernel_rfl) (fun _ _ _ h => h) (Or.inl ⟨by rfl, ?_⟩) ?_ ?_
  rotate_left
  · intro w'
    go_simp
    with_reducible rfl
  rotate_left
  · simp only [Act.put, List.setIfInBounds_toArray, List.set_cons_zero, List.set_cons_succ, i64_w, i32_w]
    rfl
  refine pure_ (i := 6) (N := some 20) (v := ?_) (a' := ?_) #[true, true, true, false, false, true, true, false, false, false, false, false, false, false] rfl rfl (by kernel_rfl) (fun _ _ _ h => h) (Or.inl ⟨by rfl, ?_⟩) ?_ ?_
  rotate_left
  · intro w'
    go_simp
    with_reducible rfl
  rotate_left
  · simp only [Act.put, List.setIfInBounds_toArray, List.set_cons_zero, List.set_cons_succ, i64_w, i32_w]
    rfl
  refine pure_ (i := 7) (N := some 21) (v := ?_) (a' := ?_) #[true, true, true, false, false, true, true, true, false, false, false, false, false, false] rfl rfl (by kernel_rfl) (fun _ _ _ h => h) (Or.inl ⟨by rfl, ?_⟩) ?_ ?_
  rotate_left
  · intro w'
    go_simp
    with_reducible rfl
  rotate_left
  · simp only [Act.put, List.setIfInBounds_toArray, List.set_cons_zero, List.set_cons_succ, i64_w, i32_w]
    rfl
  refine take_ (i := 3) (N := some 17) (v := ?_) (a' := ?_) #[true, true, true, true, false, true, true, true, false, false, false, false, false, false] rfl rfl (by kernel_rfl) (fun _ _ _ h => h) (Or.inl ⟨by rfl, ?_⟩) hHeld ?_ ?_
  rotate_left
  · rintro w' ⟨s0, s1⟩
    go_simp
    with_reducible rfl
  rotate_left
  · simp only [Act.put, List.setIfInBounds_toArray, List.set_cons_zero, List.set_cons_succ, i64_w, i32_w]
    rfl
  refine take_ (i := 8) (N := some 22) (v := ?_) (a' := ?_) #[true, true, true, true, false, true, true, true, true, false, false, false, false, false] rfl rfl (by kernel_rfl) (fun _ _ _ h => h) (Or.inl ⟨by rfl, ?_⟩) hHeld ?_ ?_
  rotate_left
  · rintro w' ⟨s0, s1⟩
    go_simp
    with_reducible rfl
  rotate_left
  · simp only [Act.put, List.setIfInBounds_toArray, List.set_cons_zero, List.set_cons_succ, i64_w, i32_w]
    rfl
  refine one_ (i := 4) (N := some 18) #[true, true, true, true, true, true, true, true, true, false, false, false, false, false] rfl rfl (by kernel_rfl) (by decide) (fun K hK => ?_)
  refine goes_ Try.func77 (by kernel_rfl) rfl #[.pointer po, .int .i64 t, .int .i64 l] (by rfl) rfl rfl (by simp only [List.map_toArray, List.map_cons, List.map_nil]; rfl) ?_
  with_reducible refine (HH1.out _ B1d.out).mono ?_
  rintro e w2 ⟨rfl, b2⟩
  refine ⟨_, rfl, ?_⟩
  have z2 := b2.size
  simp at z2
  have H2 := Lib.hid ((b2.block w1.heap.size (by simp)).trans H0.out)
  have G2 := Lib.hid ((b2.block w.heap.size (by simp <;> omega)).trans E1b.out)
  have B2 := Lib.hid (B1d.out.trans (b2.mono B1d.out.size))
  refine hK.out _ _ ⟨((b2.cell (by simp <;> omega)).trans hHeld.1), ((b2.cell (by simp <;> omega)).trans hHeld.2)⟩ (fun hHeld => ?_)
  clear hK K
  refine norm_ (a' := ?_) ?_ ?_
  rotate_left
  · show Act.put _ (some 18) _ = _
    simp only [Act.put, List.setIfInBounds_toArray, List.set_cons_zero, List.set_cons_succ, i64_w, i32_w]
    rfl
  refine pure_ (i := 10) (N := some 24) (v := ?_) (a' := ?_) #[true, true, true, true, true, true, true, true, true, false, true, false, false, false] rfl rfl (by kernel_rfl) (fun _ _ _ h => h) (Or.inl ⟨by rfl, ?_⟩) ?_ ?_
  rotate_left
  · intro w'
    go_simp
    with_reducible rfl
  rotate_left
  · simp only [Act.put, List.setIfInBounds_toArray, List.set_cons_zero, List.set_cons_succ, i64_w, i32_w]
    rfl
  refine one_ (i := 9) (N := some 23) #[true, true, true, true, true, true, true, true, true, true, true, false, false, false] rfl rfl (by kernel_rfl) (by decide) (fun K hK => ?_)
  refine goes_ Try.func77 (by kernel_rfl) rfl #[.pointer po, .int .i64 t, .int .i64 r] (by rfl) rfl rfl (by simp only [List.map_toArray, List.map_cons, List.map_nil]; rfl) ?_
  with_reducible refine (HH2.out _ B2.out).mono ?_
  rintro e w3 ⟨rfl, b3⟩
  refine ⟨_, rfl, ?_⟩
  have z3 := b3.size
  have H3 := Lib.hid ((b3.block w1.heap.size (by omega)).trans H2.out)
  have G3 := Lib.hid ((b3.block w.heap.size (by omega)).trans G2.out)
  have B3 := Lib.hid (B2.out.trans (b3.mono B2.out.size))
  refine hK.out _ _ ⟨((b3.cell (by simp <;> omega)).trans hHeld.1), ((b3.cell (by simp <;> omega)).trans hHeld.2)⟩ (fun hHeld => ?_)
  clear hK K
  refine norm_ (a' := ?_) ?_ ?_
  rotate_left
  · show Act.put _ (some 23) _ = _
    simp only [Act.put, List.setIfInBounds_toArray, List.set_cons_zero, List.set_cons_succ, i64_w, i32_w]
    rfl
  refine last_ (i := 11) (N := none) #[true, true, true, true, true, true, true, true, true, true, true, true, false, false] rfl rfl (by kernel_rfl) (by decide) (fun K hK => ?_)
  have x2 := cell_blk (i := 2) H3.out rfl
  have f2 := free_blk (i := 2) H3.out
  refine skip_ (w1 := ?_) (by rfl) rfl ?_ ?_
  rotate_left
  · go_simp
    rfl
  have H4 := Lib.hid (heap_setCell_same w3 w1.heap.size 2 _ _ (.int .i64 L) H3.out)
  refine hK.out _ _ ?_
  clear hK K
  refine pure_ (i := 12) (N := some 25) (v := ?_) (a' := ?_) #[true, true, true, true, true, true, true, true, true, true, true, true, true, false] rfl rfl (by kernel_rfl) (fun _ _ _ h => h) (Or.inl ⟨by rfl, ?_⟩) ?_ ?_
  rotate_left
  · intro w'
    go_simp
    with_reducible rfl
  rotate_left
  · simp only [Act.put, List.setIfInBounds_toArray, List.set_cons_zero, List.set_cons_succ, i64_w, i32_w]
    rfl
  refine last_ (i := 13) (N := none) #[true, true, true, true, true, true, true, true, true, true, true, true, true, true] rfl rfl (by kernel_rfl) (by decide) (fun K hK => ?_)
  have x3 := cell_blk (i := 3) H4.out rfl
  have f3 := free_blk (i := 3) H4.out
  refine skip_ (w1 := ?_) (by rfl) rfl ?_ ?_
  rotate_left
  · go_simp
    rfl
  have H5 := Lib.hid (heap_setCell_same _ w1.heap.size 3 _ _ (.int .i64 R) H4.out)
  refine hK.out _ _ ?_
  clear hK K
  refine done_ (by kernel_rfl) ?_

  have x0 := cell_blk (i := 0) H5.out rfl
  have x1 := cell_blk (i := 1) H5.out rfl
  have x2 := cell_blk (i := 2) H5.out rfl
  have x3 := cell_blk (i := 3) H5.out rfl
  have x4 := cell_blk (i := 4) H5.out rfl
  have x5 := cell_blk (i := 5) H5.out rfl
  have G4 := Lib.hid ((heap_setCell_other w3 ⟨w1.heap.size, 2, none⟩ w.heap.size (.int .i64 L) (show w.heap.size ≠ w1.heap.size by omega)).trans G3.out)
  have G5 := Lib.hid ((heap_setCell_other (w3.setCell ⟨w1.heap.size, 2, none⟩ (.int .i64 L)) ⟨w1.heap.size, 3, none⟩ w.heap.size (.int .i64 R) (show w.heap.size ≠ w1.heap.size by omega)).trans G4.out)
  have B5 := Lib.hid ((B3.out.setCell (p := ⟨w1.heap.size, 2, none⟩) (show w.heap.size ≤ w1.heap.size by omega) (.int .i64 L)).setCell (p := ⟨w1.heap.size, 3, none⟩) (show w.heap.size ≤ w1.heap.size by omega) (.int .i64 R))
  have z5 : w.heap.size < ((w3.setCell ⟨w1.heap.size, 2, none⟩ (.int .i64 L)).setCell ⟨w1.heap.size, 3, none⟩ (.int .i64 R)).heap.size := by simp <;> omega
  generalize (w3.setCell ⟨w1.heap.size, 2, none⟩ (.int .i64 L)).setCell ⟨w1.heap.size, 3, none⟩ (.int .i64 R) = w5 at *
  have y0 := cell_blk (i := 0) G5.out rfl
  have y1 := cell_blk (i := 1) G5.out rfl
  have y2 := cell_blk (i := 2) G5.out rfl
  have y3 := cell_blk (i := 3) G5.out rfl
  have y4 := cell_blk (i := 4) G5.out rfl
  have y5 := cell_blk (i := 5) G5.out rfl
  have f0 := free_blk (i := 0) G5.out
  have f1 := free_blk (i := 1) G5.out
  have f2 := free_blk (i := 2) G5.out
  have f3 := free_blk (i := 3) G5.out
  have f4 := free_blk (i := 4) G5.out
  have f5 := free_blk (i := 5) G5.out
  have K6 := Lib.hid (set6_heap (.int .i64 k) (.int .i64 v) (.int .i64 L) (.int .i64 R) (.int .i64 s) (.int .i64 g) G5.out)
  go_wp2_with fail
  have k0 := cell_blk (i := 0) K6.out rfl
  have k1 := cell_blk (i := 1) K6.out rfl
  have k2 := cell_blk (i := 2) K6.out rfl
  have k3 := cell_blk (i := 3) K6.out rfl
  have k4 := cell_blk (i := 4) K6.out rfl
  have k5 := cell_blk (i := 5) K6.out rfl
  unfold set6 at k0 k1 k2 k3 k4 k5
  refine bodyPost_ret (v := .tuple #[.agg #[.int .i64 k, .int .i64 v, .int .i64 L, .int .i64 R, .int .i64 s, .int .i64 g], .bool ok]) (by simp [results, Try.results66, go_sem, k0, k1, k2, k3, k4, k5]) rfl ⟨rfl, ?_⟩
  exact ((((((B5.out.setCell (p := ⟨w.heap.size, 0, none⟩) (Nat.le_refl _) _).setCell (p := ⟨w.heap.size, 1, none⟩) (Nat.le_refl _) _).setCell (p := ⟨w.heap.size, 2, none⟩) (Nat.le_refl _) _).setCell (p := ⟨w.heap.size, 3, none⟩) (Nat.le_refl _) _).setCell (p := ⟨w.heap.size, 4, none⟩) (Nat.le_refl _) _).setCell (p := ⟨w.heap.size, 5, none⟩) (Nat.le_refl _) _)

end Go.Proofs.Ytkcfkanfdbejiaa
