/- The walk of node.Make. -/
import Derived.Test.YtghjnkfocjjlnaaGreatT01
set_option linter.unusedSimpArgs false
set_option linter.unusedVariables false
namespace Go.Proofs.YtghjnkfocjjlnaaGreat
set_option maxRecDepth 100000
open Go.RowKit
/-- A new block of numbers is read as a slice. -/
theorem ints_new (w : World) (b : Nat) (cs : Array Value) {l : List Int} (hb : b = w.heap.size) (hl : cs.toList = l.map (Value.int .i64)) : IntsIn (w.alloc (.cells cs 3)) (some ⟨b, 0, none⟩) l.length l := by
  refine .inr ⟨_, rfl, fun j hj => ?_⟩
  subst hb
  have : (⟨w.heap.size, 0, none⟩ : Addr).add j = ⟨w.heap.size, j, none⟩ := by unfold Addr.add; split <;> simp_all
  rw [this]
  refine cell_blk (heap_alloc_new w _) ?_
  rw [← Array.getElem?_toList, hl, List.getElem?_map, List.getElem?_eq_getElem hj]
  rfl
set_option maxHeartbeats 2000000 in
theorem nmake_none {w : World} {F : Nat → Prop} (h : OAt w none none F) (k v l r : Int) :
    Calls Tryz.prog 67 #[.pointer none, .agg #[.int .i64 k, .int .i64 v], .int .i64 l, .int .i64 r] w fun e w' =>
      e = .returned (.tuple #[.int .i64 (makeN none k v l r).1, .int .i64 (makeN none k v l r).2.1]) ∧ Made F w none (makeN none k v l r).2.2 w' := by
  have hr : makeN none k v l r = (0, 1, none) := by unfold makeN badArg; simp
  rw [hr]
  have H0 := Lib.hid h; clear h hr
  go_enter Tryz.func67, Tryz.ntmps67
  go_wp2_with fail
  refine (get_any (H0.out.alloc _) _).mono ?_
  rintro e w1 ⟨rfl, hb1⟩
  have bx : w1.heap[w.heap.size]? = some (.cells #[.int .i64 k, .int .i64 v] 43 (0, 0)) := (hb1.block _ (by simp)).trans (heap_alloc_new w _)
  have hz1 := hb1.size
  have HA1 := Lib.hid (((H0.out.alloc _).below hb1).alloc (.cells #[.int .i64 (getN none l).key, .int .i64 (getN none l).val, .int .i64 (getN none l).left, .int .i64 (getN none l).right, .int .i64 (getN none l).size, .int .i64 (getN none l).high] 177))
  have HB1 := Lib.hid ((((Below.refl w.heap.size w).alloc (Nat.le_refl _) _).trans (hb1.mono (by simp))).alloc (by simp at hz1; omega) (.cells #[.int .i64 (getN none l).key, .int .i64 (getN none l).val, .int .i64 (getN none l).left, .int .i64 (getN none l).right, .int .i64 (getN none l).size, .int .i64 (getN none l).high] 177))
  have HX1 := Lib.hid bx; clear bx hb1
  have HZ1 := Lib.hid hz1; clear hz1
  go_wp2_with fail
  refine (get_any HA1.out _).mono ?_
  rintro e w2 ⟨rfl, hb2⟩
  have hz2 := hb2.size
  have hz1 := HZ1.out
  simp at hz1 hz2
  have bx := blk_below ((heap_alloc_old w1 (.cells #[.int .i64 (getN none l).key, .int .i64 (getN none l).val, .int .i64 (getN none l).left, .int .i64 (getN none l).right, .int .i64 (getN none l).size, .int .i64 (getN none l).high] 177) (show w.heap.size < w1.heap.size by omega)).trans HX1.out) hb2 (by simp; omega)
  have by1 := (hb2.block _ (by simp)).trans (heap_alloc_new w1 (.cells #[.int .i64 (getN none l).key, .int .i64 (getN none l).val, .int .i64 (getN none l).left, .int .i64 (getN none l).right, .int .i64 (getN none l).size, .int .i64 (getN none l).high] 177))
  have x0 := cell_blk (i := 0) bx rfl
  have x1 := cell_blk (i := 1) bx rfl
  have y3 := cell_blk (i := 4) by1 rfl
  have y4 := cell_blk (i := 5) by1 rfl
  have HA2 := Lib.hid (HA1.out.below hb2)
  have HB2 := Lib.hid (HB1.out.trans (hb2.mono (by simp; omega)))
  clear hb2 bx by1
  have lt0 : w.heap.size < w2.heap.size := by omega
  have lt1 : w1.heap.size < w2.heap.size := by omega
  go_wp2_with fail
  go_ret2
  exact ⟨rfl, Made.of_below H0.out ((HB2.out.alloc (by omega) _))⟩
set_option maxHeartbeats 2000000 in
theorem nmake_badl {w : World} {p : Nat} {a : Ar} {F : Nat → Prop} (h : OAt w (some ⟨p, 0, none⟩) (some a) F) (k v l r : Int) (hl : l ≠ 0) (hl1 : isN (some a) l = false) :
    Calls Tryz.prog 67 #[.pointer (some ⟨p, 0, none⟩), .agg #[.int .i64 k, .int .i64 v], .int .i64 l, .int .i64 r] w fun e w' =>
      e = .returned (.tuple #[.int .i64 (makeN (some a) k v l r).1, .int .i64 (makeN (some a) k v l r).2.1]) ∧ Made F w (some ⟨p, 0, none⟩) (makeN (some a) k v l r).2.2 w' := by
  have hr : makeN (some a) k v l r = (0, 1, some a) := by unfold makeN badArg; simp [hl, hl1]
  rw [hr]
  have hl2 : (l == 0) = false := beq_eq_false_iff_ne.2 hl
  have hl3 : (l != 0) = true := by rw [bne, hl2]; rfl
  have H0 := Lib.hid h; clear h hr hl
  go_enter Tryz.func67, Tryz.ntmps67
  go_wp2_with fail
  refine (get_any (H0.out.alloc _) _).mono ?_
  rintro e w1 ⟨rfl, hb1⟩
  have bx : w1.heap[w.heap.size]? = some (.cells #[.int .i64 k, .int .i64 v] 43 (0, 0)) := (hb1.block _ (by simp)).trans (heap_alloc_new w _)
  have hz1 := hb1.size
  have HA1 := Lib.hid (((H0.out.alloc _).below hb1).alloc (.cells #[.int .i64 (getN (some a) l).key, .int .i64 (getN (some a) l).val, .int .i64 (getN (some a) l).left, .int .i64 (getN (some a) l).right, .int .i64 (getN (some a) l).size, .int .i64 (getN (some a) l).high] 177))
  have HB1 := Lib.hid ((((Below.refl w.heap.size w).alloc (Nat.le_refl _) _).trans (hb1.mono (by simp))).alloc (by simp at hz1; omega) (.cells #[.int .i64 (getN (some a) l).key, .int .i64 (getN (some a) l).val, .int .i64 (getN (some a) l).left, .int .i64 (getN (some a) l).right, .int .i64 (getN (some a) l).size, .int .i64 (getN (some a) l).high] 177))
  have HX1 := Lib.hid bx; clear bx hb1
  have HZ1 := Lib.hid hz1; clear hz1
  go_wp2_with fail
  refine (get_any HA1.out _).mono ?_
  rintro e w2 ⟨rfl, hb2⟩
  have hz2 := hb2.size
  have hz1 := HZ1.out
  simp at hz1 hz2
  have bx := blk_below ((heap_alloc_old w1 (.cells #[.int .i64 (getN (some a) l).key, .int .i64 (getN (some a) l).val, .int .i64 (getN (some a) l).left, .int .i64 (getN (some a) l).right, .int .i64 (getN (some a) l).size, .int .i64 (getN (some a) l).high] 177) (show w.heap.size < w1.heap.size by omega)).trans HX1.out) hb2 (by simp; omega)
  have by1 := (hb2.block _ (by simp)).trans (heap_alloc_new w1 (.cells #[.int .i64 (getN (some a) l).key, .int .i64 (getN (some a) l).val, .int .i64 (getN (some a) l).left, .int .i64 (getN (some a) l).right, .int .i64 (getN (some a) l).size, .int .i64 (getN (some a) l).high] 177))
  have x0 := cell_blk (i := 0) bx rfl
  have x1 := cell_blk (i := 1) bx rfl
  have y3 := cell_blk (i := 4) by1 rfl
  have y4 := cell_blk (i := 5) by1 rfl
  have HA2 := Lib.hid (HA1.out.below hb2)
  have HB2 := Lib.hid (HB1.out.trans (hb2.mono (by simp; omega)))
  clear hb2 bx by1
  have lt0 : w.heap.size < w2.heap.size := by omega
  have lt1 : w1.heap.size < w2.heap.size := by omega
  go_wp2_with fail
  go_ret2
  exact ⟨rfl, Made.of_below H0.out ((HB2.out.alloc (by omega) _))⟩
set_option maxHeartbeats 2000000 in
theorem nmake_badr0 {w : World} {p : Nat} {a : Ar} {F : Nat → Prop} (h : OAt w (some ⟨p, 0, none⟩) (some a) F) (k v l r : Int) (hl : l ≠ 0) (hl1 : isN (some a) l = true) (hr : r ≠ 0) (hr1 : isN (some a) r = false) :
    Calls Tryz.prog 67 #[.pointer (some ⟨p, 0, none⟩), .agg #[.int .i64 k, .int .i64 v], .int .i64 l, .int .i64 r] w fun e w' =>
      e = .returned (.tuple #[.int .i64 (makeN (some a) k v l r).1, .int .i64 (makeN (some a) k v l r).2.1]) ∧ Made F w (some ⟨p, 0, none⟩) (makeN (some a) k v l r).2.2 w' := by
  have he : makeN (some a) k v l r = (0, 1, some a) := by unfold makeN badArg; simp [hr, hr1]
  rw [he]
  have hr2 : (r == 0) = false := beq_eq_false_iff_ne.2 hr
  have hr3 : (r != 0) = true := by rw [bne, hr2]; rfl
  have hl2 : (l == 0) = false := beq_eq_false_iff_ne.2 hl
  have hl3 : (l != 0) = true := by rw [bne, hl2]; rfl
  have H0 := Lib.hid h; clear h hr he hl
  go_enter Tryz.func67, Tryz.ntmps67
  go_wp2_with fail
  refine (get_any (H0.out.alloc _) _).mono ?_
  rintro e w1 ⟨rfl, hb1⟩
  have bx : w1.heap[w.heap.size]? = some (.cells #[.int .i64 k, .int .i64 v] 43 (0, 0)) := (hb1.block _ (by simp)).trans (heap_alloc_new w _)
  have hz1 := hb1.size
  have HA1 := Lib.hid (((H0.out.alloc _).below hb1).alloc (.cells #[.int .i64 (getN (some a) l).key, .int .i64 (getN (some a) l).val, .int .i64 (getN (some a) l).left, .int .i64 (getN (some a) l).right, .int .i64 (getN (some a) l).size, .int .i64 (getN (some a) l).high] 177))
  have HB1 := Lib.hid ((((Below.refl w.heap.size w).alloc (Nat.le_refl _) _).trans (hb1.mono (by simp))).alloc (by simp at hz1; omega) (.cells #[.int .i64 (getN (some a) l).key, .int .i64 (getN (some a) l).val, .int .i64 (getN (some a) l).left, .int .i64 (getN (some a) l).right, .int .i64 (getN (some a) l).size, .int .i64 (getN (some a) l).high] 177))
  have HX1 := Lib.hid bx; clear bx hb1
  have HZ1 := Lib.hid hz1; clear hz1
  go_wp2_with fail
  refine (get_any HA1.out _).mono ?_
  rintro e w2 ⟨rfl, hb2⟩
  have hz2 := hb2.size
  have hz1 := HZ1.out
  simp at hz1 hz2
  have bx := blk_below ((heap_alloc_old w1 (.cells #[.int .i64 (getN (some a) l).key, .int .i64 (getN (some a) l).val, .int .i64 (getN (some a) l).left, .int .i64 (getN (some a) l).right, .int .i64 (getN (some a) l).size, .int .i64 (getN (some a) l).high] 177) (show w.heap.size < w1.heap.size by omega)).trans HX1.out) hb2 (by simp; omega)
  have by1 := (hb2.block _ (by simp)).trans (heap_alloc_new w1 (.cells #[.int .i64 (getN (some a) l).key, .int .i64 (getN (some a) l).val, .int .i64 (getN (some a) l).left, .int .i64 (getN (some a) l).right, .int .i64 (getN (some a) l).size, .int .i64 (getN (some a) l).high] 177))
  have x0 := cell_blk (i := 0) bx rfl
  have x1 := cell_blk (i := 1) bx rfl
  have y3 := cell_blk (i := 4) by1 rfl
  have y4 := cell_blk (i := 5) by1 rfl
  have HA2 := Lib.hid (HA1.out.below hb2)
  have HB2 := Lib.hid (HB1.out.trans (hb2.mono (by simp; omega)))
  clear hb2 bx by1
  have lt0 : w.heap.size < w2.heap.size := by omega
  have lt1 : w1.heap.size < w2.heap.size := by omega
  go_wp2_with fail
  go_ret2
  exact ⟨rfl, Made.of_below H0.out ((HB2.out.alloc (by omega) _))⟩
set_option maxHeartbeats 2000000 in
theorem nmake_ok000 {w : World} {p : Nat} {a : Ar} {F : Nat → Prop} (h : OAt w (some ⟨p, 0, none⟩) (some a) F) (k v l r : Int) (hl : l ≠ 0) (hl1 : isN (some a) l = true) (hr : r ≠ 0) (hr1 : isN (some a) r = true) (hm : ¬ (getN (some a) l).high < (getN (some a) r).high) :
    Calls Tryz.prog 67 #[.pointer (some ⟨p, 0, none⟩), .agg #[.int .i64 k, .int .i64 v], .int .i64 l, .int .i64 r] w fun e w' =>
      e = .returned (.tuple #[.int .i64 (makeN (some a) k v l r).1, .int .i64 (makeN (some a) k v l r).2.1]) ∧ Made F w (some ⟨p, 0, none⟩) (makeN (some a) k v l r).2.2 w' := by
  have he : makeN (some a) k v l r = makeO (some a) 1 [k, v, l, r, wrap64 (wrap64 ((getN (some a) l).size + (getN (some a) r).size) + 1), wrap64 ((getN (some a) l).high + 1)] := by
    unfold makeN badArg nodeVals
    rw [if_neg hm]
    rw [if_neg (by simp [hl1, hr1])]
  rw [he]
  have hl2 : (l == 0) = false := beq_eq_false_iff_ne.2 hl
  have hl3 : (l != 0) = true := by rw [bne, hl2]; rfl
  have hr2 : (r == 0) = false := beq_eq_false_iff_ne.2 hr
  have hr3 : (r != 0) = true := by rw [bne, hr2]; rfl
  have H0 := Lib.hid h; clear h he hl hr
  go_enter Tryz.func67, Tryz.ntmps67
  go_wp2_with fail
  refine (get_any (H0.out.alloc _) _).mono ?_
  rintro e w1 ⟨rfl, hb1⟩
  have bx : w1.heap[w.heap.size]? = some (.cells #[.int .i64 k, .int .i64 v] 43 (0, 0)) := (hb1.block _ (by simp)).trans (heap_alloc_new w _)
  have hz1 := hb1.size
  have HA1 := Lib.hid (((H0.out.alloc _).below hb1).alloc (.cells #[.int .i64 (getN (some a) l).key, .int .i64 (getN (some a) l).val, .int .i64 (getN (some a) l).left, .int .i64 (getN (some a) l).right, .int .i64 (getN (some a) l).size, .int .i64 (getN (some a) l).high] 177))
  have HB1 := Lib.hid ((((Below.refl w.heap.size w).alloc (Nat.le_refl _) _).trans (hb1.mono (by simp))).alloc (by simp at hz1; omega) (.cells #[.int .i64 (getN (some a) l).key, .int .i64 (getN (some a) l).val, .int .i64 (getN (some a) l).left, .int .i64 (getN (some a) l).right, .int .i64 (getN (some a) l).size, .int .i64 (getN (some a) l).high] 177))
  have HX1 := Lib.hid bx; clear bx hb1
  have HZ1 := Lib.hid hz1; clear hz1
  go_wp2_with fail
  refine (get_any HA1.out _).mono ?_
  rintro e w2 ⟨rfl, hb2⟩
  have hz2 := hb2.size
  have hz1 := HZ1.out
  simp at hz1 hz2
  have bx := blk_below ((heap_alloc_old w1 (.cells #[.int .i64 (getN (some a) l).key, .int .i64 (getN (some a) l).val, .int .i64 (getN (some a) l).left, .int .i64 (getN (some a) l).right, .int .i64 (getN (some a) l).size, .int .i64 (getN (some a) l).high] 177) (show w.heap.size < w1.heap.size by omega)).trans HX1.out) hb2 (by simp; omega)
  have by1 := (hb2.block _ (by simp)).trans (heap_alloc_new w1 (.cells #[.int .i64 (getN (some a) l).key, .int .i64 (getN (some a) l).val, .int .i64 (getN (some a) l).left, .int .i64 (getN (some a) l).right, .int .i64 (getN (some a) l).size, .int .i64 (getN (some a) l).high] 177))
  have x0 := cell_blk (i := 0) bx rfl
  have x1 := cell_blk (i := 1) bx rfl
  have y3 := cell_blk (i := 4) by1 rfl
  have y4 := cell_blk (i := 5) by1 rfl
  have HA2 := Lib.hid (HA1.out.below hb2)
  have HB2 := Lib.hid (HB1.out.trans (hb2.mono (by simp; omega)))
  clear hb2 bx by1
  have lt0 : w.heap.size < w2.heap.size := by omega
  have lt1 : w1.heap.size < w2.heap.size := by omega
  go_wp2_with fail
  have hb3 : Below w2.heap.size w2 ((w2.alloc (.cells #[.int .i64 (getN (some a) r).key, .int .i64 (getN (some a) r).val, .int .i64 (getN (some a) r).left, .int .i64 (getN (some a) r).right, .int .i64 (getN (some a) r).size, .int .i64 (getN (some a) r).high] 177)).alloc (.cells #[.int .i64 k, .int .i64 v, .int .i64 l, .int .i64 r, .int .i64 (wrap64 (wrap64 ((getN (some a) l).size + (getN (some a) r).size) + 1)), .int .i64 (wrap64 ((getN (some a) l).high + 1))] 3)) := ((Below.refl _ _).alloc (Nat.le_refl _) _).alloc (by simp) _
  have hin : IntsIn ((w2.alloc (.cells #[.int .i64 (getN (some a) r).key, .int .i64 (getN (some a) r).val, .int .i64 (getN (some a) r).left, .int .i64 (getN (some a) r).right, .int .i64 (getN (some a) r).size, .int .i64 (getN (some a) r).high] 177)).alloc (.cells #[.int .i64 k, .int .i64 v, .int .i64 l, .int .i64 r, .int .i64 (wrap64 (wrap64 ((getN (some a) l).size + (getN (some a) r).size) + 1)), .int .i64 (wrap64 ((getN (some a) l).high + 1))] 3)) (some ⟨w2.heap.size + 1, 0, none⟩) 6 [k, v, l, r, wrap64 (wrap64 ((getN (some a) l).size + (getN (some a) r).size) + 1), wrap64 ((getN (some a) l).high + 1)] := ints_new (l := [k, v, l, r, wrap64 (wrap64 ((getN (some a) l).size + (getN (some a) r).size) + 1), wrap64 ((getN (some a) l).high + 1)]) (w2.alloc _) (w2.heap.size + 1) _ (by simp) rfl
  have HM := Lib.hid (make_any (HA2.out.below hb3) 1 hin)
  have HF := Lib.hid ((Frame.of_below (F := F) HB2.out).trans (Frame.of_below (F := F) hb3) (fun _ _ h => h))
  have hz3 := hb3.size
  clear hb3 hin
  refine HM.out.mono ?_
  rintro e w3 ⟨rfl, hm3⟩
  have HM3 := Lib.hid hm3; clear hm3
  go_wp2_with fail
  go_ret2
  exact ⟨rfl, HM3.out.trans HF.out (fun _ hb => .inl hb)⟩
set_option maxHeartbeats 2000000 in
theorem nmake_ok001 {w : World} {p : Nat} {a : Ar} {F : Nat → Prop} (h : OAt w (some ⟨p, 0, none⟩) (some a) F) (k v l r : Int) (hl : l ≠ 0) (hl1 : isN (some a) l = true) (hr : r ≠ 0) (hr1 : isN (some a) r = true) (hm : (getN (some a) l).high < (getN (some a) r).high) :
    Calls Tryz.prog 67 #[.pointer (some ⟨p, 0, none⟩), .agg #[.int .i64 k, .int .i64 v], .int .i64 l, .int .i64 r] w fun e w' =>
      e = .returned (.tuple #[.int .i64 (makeN (some a) k v l r).1, .int .i64 (makeN (some a) k v l r).2.1]) ∧ Made F w (some ⟨p, 0, none⟩) (makeN (some a) k v l r).2.2 w' := by
  have he : makeN (some a) k v l r = makeO (some a) 1 [k, v, l, r, wrap64 (wrap64 ((getN (some a) l).size + (getN (some a) r).size) + 1), wrap64 ((getN (some a) r).high + 1)] := by
    unfold makeN badArg nodeVals
    rw [if_pos hm]
    rw [if_neg (by simp [hl1, hr1])]
  rw [he]
  have hl2 : (l == 0) = false := beq_eq_false_iff_ne.2 hl
  have hl3 : (l != 0) = true := by rw [bne, hl2]; rfl
  have hr2 : (r == 0) = false := beq_eq_false_iff_ne.2 hr
  have hr3 : (r != 0) = true := by rw [bne, hr2]; rfl
  have H0 := Lib.hid h; clear h he hl hr
  go_enter Tryz.func67, Tryz.ntmps67
  go_wp2_with fail
  refine (get_any (H0.out.alloc _) _).mono ?_
  rintro e w1 ⟨rfl, hb1⟩
  have bx : w1.heap[w.heap.size]? = some (.cells #[.int .i64 k, .int .i64 v] 43 (0, 0)) := (hb1.block _ (by simp)).trans (heap_alloc_new w _)
  have hz1 := hb1.size
  have HA1 := Lib.hid (((H0.out.alloc _).below hb1).alloc (.cells #[.int .i64 (getN (some a) l).key, .int .i64 (getN (some a) l).val, .int .i64 (getN (some a) l).left, .int .i64 (getN (some a) l).right, .int .i64 (getN (some a) l).size, .int .i64 (getN (some a) l).high] 177))
  have HB1 := Lib.hid ((((Below.refl w.heap.size w).alloc (Nat.le_refl _) _).trans (hb1.mono (by simp))).alloc (by simp at hz1; omega) (.cells #[.int .i64 (getN (some a) l).key, .int .i64 (getN (some a) l).val, .int .i64 (getN (some a) l).left, .int .i64 (getN (some a) l).right, .int .i64 (getN (some a) l).size, .int .i64 (getN (some a) l).high] 177))
  have HX1 := Lib.hid bx; clear bx hb1
  have HZ1 := Lib.hid hz1; clear hz1
  go_wp2_with fail
  refine (get_any HA1.out _).mono ?_
  rintro e w2 ⟨rfl, hb2⟩
  have hz2 := hb2.size
  have hz1 := HZ1.out
  simp at hz1 hz2
  have bx := blk_below ((heap_alloc_old w1 (.cells #[.int .i64 (getN (some a) l).key, .int .i64 (getN (some a) l).val, .int .i64 (getN (some a) l).left, .int .i64 (getN (some a) l).right, .int .i64 (getN (some a) l).size, .int .i64 (getN (some a) l).high] 177) (show w.heap.size < w1.heap.size by omega)).trans HX1.out) hb2 (by simp; omega)
  have by1 := (hb2.block _ (by simp)).trans (heap_alloc_new w1 (.cells #[.int .i64 (getN (some a) l).key, .int .i64 (getN (some a) l).val, .int .i64 (getN (some a) l).left, .int .i64 (getN (some a) l).right, .int .i64 (getN (some a) l).size, .int .i64 (getN (some a) l).high] 177))
  have x0 := cell_blk (i := 0) bx rfl
  have x1 := cell_blk (i := 1) bx rfl
  have y3 := cell_blk (i := 4) by1 rfl
  have y4 := cell_blk (i := 5) by1 rfl
  have HA2 := Lib.hid (HA1.out.below hb2)
  have HB2 := Lib.hid (HB1.out.trans (hb2.mono (by simp; omega)))
  clear hb2 bx by1
  have lt0 : w.heap.size < w2.heap.size := by omega
  have lt1 : w1.heap.size < w2.heap.size := by omega
  go_wp2_with fail
  have hb3 : Below w2.heap.size w2 ((w2.alloc (.cells #[.int .i64 (getN (some a) r).key, .int .i64 (getN (some a) r).val, .int .i64 (getN (some a) r).left, .int .i64 (getN (some a) r).right, .int .i64 (getN (some a) r).size, .int .i64 (getN (some a) r).high] 177)).alloc (.cells #[.int .i64 k, .int .i64 v, .int .i64 l, .int .i64 r, .int .i64 (wrap64 (wrap64 ((getN (some a) l).size + (getN (some a) r).size) + 1)), .int .i64 (wrap64 ((getN (some a) r).high + 1))] 3)) := ((Below.refl _ _).alloc (Nat.le_refl _) _).alloc (by simp) _
  have hin : IntsIn ((w2.alloc (.cells #[.int .i64 (getN (some a) r).key, .int .i64 (getN (some a) r).val, .int .i64 (getN (some a) r).left, .int .i64 (getN (some a) r).right, .int .i64 (getN (some a) r).size, .int .i64 (getN (some a) r).high] 177)).alloc (.cells #[.int .i64 k, .int .i64 v, .int .i64 l, .int .i64 r, .int .i64 (wrap64 (wrap64 ((getN (some a) l).size + (getN (some a) r).size) + 1)), .int .i64 (wrap64 ((getN (some a) r).high + 1))] 3)) (some ⟨w2.heap.size + 1, 0, none⟩) 6 [k, v, l, r, wrap64 (wrap64 ((getN (some a) l).size + (getN (some a) r).size) + 1), wrap64 ((getN (some a) r).high + 1)] := ints_new (l := [k, v, l, r, wrap64 (wrap64 ((getN (some a) l).size + (getN (some a) r).size) + 1), wrap64 ((getN (some a) r).high + 1)]) (w2.alloc _) (w2.heap.size + 1) _ (by simp) rfl
  have HM := Lib.hid (make_any (HA2.out.below hb3) 1 hin)
  have HF := Lib.hid ((Frame.of_below (F := F) HB2.out).trans (Frame.of_below (F := F) hb3) (fun _ _ h => h))
  have hz3 := hb3.size
  clear hb3 hin
  refine HM.out.mono ?_
  rintro e w3 ⟨rfl, hm3⟩
  have HM3 := Lib.hid hm3; clear hm3
  go_wp2_with fail
  go_ret2
  exact ⟨rfl, HM3.out.trans HF.out (fun _ hb => .inl hb)⟩
set_option maxHeartbeats 2000000 in
theorem nmake_ok010 {w : World} {p : Nat} {a : Ar} {F : Nat → Prop} (h : OAt w (some ⟨p, 0, none⟩) (some a) F) (k v l : Int) (hl : l ≠ 0) (hl1 : isN (some a) l = true) (hm : ¬ (getN (some a) l).high < (getN (some a) 0).high) :
    Calls Tryz.prog 67 #[.pointer (some ⟨p, 0, none⟩), .agg #[.int .i64 k, .int .i64 v], .int .i64 l, .int .i64 0] w fun e w' =>
      e = .returned (.tuple #[.int .i64 (makeN (some a) k v l 0).1, .int .i64 (makeN (some a) k v l 0).2.1]) ∧ Made F w (some ⟨p, 0, none⟩) (makeN (some a) k v l 0).2.2 w' := by
  have he : makeN (some a) k v l 0 = makeO (some a) 1 [k, v, l, 0, wrap64 (wrap64 ((getN (some a) l).size + (getN (some a) 0).size) + 1), wrap64 ((getN (some a) l).high + 1)] := by
    unfold makeN badArg nodeVals
    rw [if_neg hm]
    rw [if_neg (by simp [hl1])]
  rw [he]
  have hl2 : (l == 0) = false := beq_eq_false_iff_ne.2 hl
  have hl3 : (l != 0) = true := by rw [bne, hl2]; rfl
  have H0 := Lib.hid h; clear h he hl
  go_enter Tryz.func67, Tryz.ntmps67
  go_wp2_with fail
  refine (get_any (H0.out.alloc _) _).mono ?_
  rintro e w1 ⟨rfl, hb1⟩
  have bx : w1.heap[w.heap.size]? = some (.cells #[.int .i64 k, .int .i64 v] 43 (0, 0)) := (hb1.block _ (by simp)).trans (heap_alloc_new w _)
  have hz1 := hb1.size
  have HA1 := Lib.hid (((H0.out.alloc _).below hb1).alloc (.cells #[.int .i64 (getN (some a) l).key, .int .i64 (getN (some a) l).val, .int .i64 (getN (some a) l).left, .int .i64 (getN (some a) l).right, .int .i64 (getN (some a) l).size, .int .i64 (getN (some a) l).high] 177))
  have HB1 := Lib.hid ((((Below.refl w.heap.size w).alloc (Nat.le_refl _) _).trans (hb1.mono (by simp))).alloc (by simp at hz1; omega) (.cells #[.int .i64 (getN (some a) l).key, .int .i64 (getN (some a) l).val, .int .i64 (getN (some a) l).left, .int .i64 (getN (some a) l).right, .int .i64 (getN (some a) l).size, .int .i64 (getN (some a) l).high] 177))
  have HX1 := Lib.hid bx; clear bx hb1
  have HZ1 := Lib.hid hz1; clear hz1
  go_wp2_with fail
  refine (get_any HA1.out _).mono ?_
  rintro e w2 ⟨rfl, hb2⟩
  have hz2 := hb2.size
  have hz1 := HZ1.out
  simp at hz1 hz2
  have bx := blk_below ((heap_alloc_old w1 (.cells #[.int .i64 (getN (some a) l).key, .int .i64 (getN (some a) l).val, .int .i64 (getN (some a) l).left, .int .i64 (getN (some a) l).right, .int .i64 (getN (some a) l).size, .int .i64 (getN (some a) l).high] 177) (show w.heap.size < w1.heap.size by omega)).trans HX1.out) hb2 (by simp; omega)
  have by1 := (hb2.block _ (by simp)).trans (heap_alloc_new w1 (.cells #[.int .i64 (getN (some a) l).key, .int .i64 (getN (some a) l).val, .int .i64 (getN (some a) l).left, .int .i64 (getN (some a) l).right, .int .i64 (getN (some a) l).size, .int .i64 (getN (some a) l).high] 177))
  have x0 := cell_blk (i := 0) bx rfl
  have x1 := cell_blk (i := 1) bx rfl
  have y3 := cell_blk (i := 4) by1 rfl
  have y4 := cell_blk (i := 5) by1 rfl
  have HA2 := Lib.hid (HA1.out.below hb2)
  have HB2 := Lib.hid (HB1.out.trans (hb2.mono (by simp; omega)))
  clear hb2 bx by1
  have lt0 : w.heap.size < w2.heap.size := by omega
  have lt1 : w1.heap.size < w2.heap.size := by omega
  go_wp2_with fail
  have hb3 : Below w2.heap.size w2 ((w2.alloc (.cells #[.int .i64 (getN (some a) 0).key, .int .i64 (getN (some a) 0).val, .int .i64 (getN (some a) 0).left, .int .i64 (getN (some a) 0).right, .int .i64 (getN (some a) 0).size, .int .i64 (getN (some a) 0).high] 177)).alloc (.cells #[.int .i64 k, .int .i64 v, .int .i64 l, .int .i64 0, .int .i64 (wrap64 (wrap64 ((getN (some a) l).size + (getN (some a) 0).size) + 1)), .int .i64 (wrap64 ((getN (some a) l).high + 1))] 3)) := ((Below.refl _ _).alloc (Nat.le_refl _) _).alloc (by simp) _
  have hin : IntsIn ((w2.alloc (.cells #[.int .i64 (getN (some a) 0).key, .int .i64 (getN (some a) 0).val, .int .i64 (getN (some a) 0).left, .int .i64 (getN (some a) 0).right, .int .i64 (getN (some a) 0).size, .int .i64 (getN (some a) 0).high] 177)).alloc (.cells #[.int .i64 k, .int .i64 v, .int .i64 l, .int .i64 0, .int .i64 (wrap64 (wrap64 ((getN (some a) l).size + (getN (some a) 0).size) + 1)), .int .i64 (wrap64 ((getN (some a) l).high + 1))] 3)) (some ⟨w2.heap.size + 1, 0, none⟩) 6 [k, v, l, 0, wrap64 (wrap64 ((getN (some a) l).size + (getN (some a) 0).size) + 1), wrap64 ((getN (some a) l).high + 1)] := ints_new (l := [k, v, l, 0, wrap64 (wrap64 ((getN (some a) l).size + (getN (some a) 0).size) + 1), wrap64 ((getN (some a) l).high + 1)]) (w2.alloc _) (w2.heap.size + 1) _ (by simp) rfl
  have HM := Lib.hid (make_any (HA2.out.below hb3) 1 hin)
  have HF := Lib.hid ((Frame.of_below (F := F) HB2.out).trans (Frame.of_below (F := F) hb3) (fun _ _ h => h))
  have hz3 := hb3.size
  clear hb3 hin
  refine HM.out.mono ?_
  rintro e w3 ⟨rfl, hm3⟩
  have HM3 := Lib.hid hm3; clear hm3
  go_wp2_with fail
  go_ret2
  exact ⟨rfl, HM3.out.trans HF.out (fun _ hb => .inl hb)⟩
set_option maxHeartbeats 2000000 in
theorem nmake_ok011 {w : World} {p : Nat} {a : Ar} {F : Nat → Prop} (h : OAt w (some ⟨p, 0, none⟩) (some a) F) (k v l : Int) (hl : l ≠ 0) (hl1 : isN (some a) l = true) (hm : (getN (some a) l).high < (getN (some a) 0).high) :
    Calls Tryz.prog 67 #[.pointer (some ⟨p, 0, none⟩), .agg #[.int .i64 k, .int .i64 v], .int .i64 l, .int .i64 0] w fun e w' =>
      e = .returned (.tuple #[.int .i64 (makeN (some a) k v l 0).1, .int .i64 (makeN (some a) k v l 0).2.1]) ∧ Made F w (some ⟨p, 0, none⟩) (makeN (some a) k v l 0).2.2 w' := by
  have he : makeN (some a) k v l 0 = makeO (some a) 1 [k, v, l, 0, wrap64 (wrap64 ((getN (some a) l).size + (getN (some a) 0).size) + 1), wrap64 ((getN (some a) 0).high + 1)] := by
    unfold makeN badArg nodeVals
    rw [if_pos hm]
    rw [if_neg (by simp [hl1])]
  rw [he]
  have hl2 : (l == 0) = false := beq_eq_false_iff_ne.2 hl
  have hl3 : (l != 0) = true := by rw [bne, hl2]; rfl
  have H0 := Lib.hid h; clear h he hl
  go_enter Tryz.func67, Tryz.ntmps67
  go_wp2_with fail
  refine (get_any (H0.out.alloc _) _).mono ?_
  rintro e w1 ⟨rfl, hb1⟩
  have bx : w1.heap[w.heap.size]? = some (.cells #[.int .i64 k, .int .i64 v] 43 (0, 0)) := (hb1.block _ (by simp)).trans (heap_alloc_new w _)
  have hz1 := hb1.size
  have HA1 := Lib.hid (((H0.out.alloc _).below hb1).alloc (.cells #[.int .i64 (getN (some a) l).key, .int .i64 (getN (some a) l).val, .int .i64 (getN (some a) l).left, .int .i64 (getN (some a) l).right, .int .i64 (getN (some a) l).size, .int .i64 (getN (some a) l).high] 177))
  have HB1 := Lib.hid ((((Below.refl w.heap.size w).alloc (Nat.le_refl _) _).trans (hb1.mono (by simp))).alloc (by simp at hz1; omega) (.cells #[.int .i64 (getN (some a) l).key, .int .i64 (getN (some a) l).val, .int .i64 (getN (some a) l).left, .int .i64 (getN (some a) l).right, .int .i64 (getN (some a) l).size, .int .i64 (getN (some a) l).high] 177))
  have HX1 := Lib.hid bx; clear bx hb1
  have HZ1 := Lib.hid hz1; clear hz1
  go_wp2_with fail
  refine (get_any HA1.out _).mono ?_
  rintro e w2 ⟨rfl, hb2⟩
  have hz2 := hb2.size
  have hz1 := HZ1.out
  simp at hz1 hz2
  have bx := blk_below ((heap_alloc_old w1 (.cells #[.int .i64 (getN (some a) l).key, .int .i64 (getN (some a) l).val, .int .i64 (getN (some a) l).left, .int .i64 (getN (some a) l).right, .int .i64 (getN (some a) l).size, .int .i64 (getN (some a) l).high] 177) (show w.heap.size < w1.heap.size by omega)).trans HX1.out) hb2 (by simp; omega)
  have by1 := (hb2.block _ (by simp)).trans (heap_alloc_new w1 (.cells #[.int .i64 (getN (some a) l).key, .int .i64 (getN (some a) l).val, .int .i64 (getN (some a) l).left, .int .i64 (getN (some a) l).right, .int .i64 (getN (some a) l).size, .int .i64 (getN (some a) l).high] 177))
  have x0 := cell_blk (i := 0) bx rfl
  have x1 := cell_blk (i := 1) bx rfl
  have y3 := cell_blk (i := 4) by1 rfl
  have y4 := cell_blk (i := 5) by1 rfl
  have HA2 := Lib.hid (HA1.out.below hb2)
  have HB2 := Lib.hid (HB1.out.trans (hb2.mono (by simp; omega)))
  clear hb2 bx by1
  have lt0 : w.heap.size < w2.heap.size := by omega
  have lt1 : w1.heap.size < w2.heap.size := by omega
  go_wp2_with fail
  have hb3 : Below w2.heap.size w2 ((w2.alloc (.cells #[.int .i64 (getN (some a) 0).key, .int .i64 (getN (some a) 0).val, .int .i64 (getN (some a) 0).left, .int .i64 (getN (some a) 0).right, .int .i64 (getN (some a) 0).size, .int .i64 (getN (some a) 0).high] 177)).alloc (.cells #[.int .i64 k, .int .i64 v, .int .i64 l, .int .i64 0, .int .i64 (wrap64 (wrap64 ((getN (some a) l).size + (getN (some a) 0).size) + 1)), .int .i64 (wrap64 ((getN (some a) 0).high + 1))] 3)) := ((Below.refl _ _).alloc (Nat.le_refl _) _).alloc (by simp) _
  have hin : IntsIn ((w2.alloc (.cells #[.int .i64 (getN (some a) 0).key, .int .i64 (getN (some a) 0).val, .int .i64 (getN (some a) 0).left, .int .i64 (getN (some a) 0).right, .int .i64 (getN (some a) 0).size, .int .i64 (getN (some a) 0).high] 177)).alloc (.cells #[.int .i64 k, .int .i64 v, .int .i64 l, .int .i64 0, .int .i64 (wrap64 (wrap64 ((getN (some a) l).size + (getN (some a) 0).size) + 1)), .int .i64 (wrap64 ((getN (some a) 0).high + 1))] 3)) (some ⟨w2.heap.size + 1, 0, none⟩) 6 [k, v, l, 0, wrap64 (wrap64 ((getN (some a) l).size + (getN (some a) 0).size) + 1), wrap64 ((getN (some a) 0).high + 1)] := ints_new (l := [k, v, l, 0, wrap64 (wrap64 ((getN (some a) l).size + (getN (some a) 0).size) + 1), wrap64 ((getN (some a) 0).high + 1)]) (w2.alloc _) (w2.heap.size + 1) _ (by simp) rfl
  have HM := Lib.hid (make_any (HA2.out.below hb3) 1 hin)
  have HF := Lib.hid ((Frame.of_below (F := F) HB2.out).trans (Frame.of_below (F := F) hb3) (fun _ _ h => h))
  have hz3 := hb3.size
  clear hb3 hin
  refine HM.out.mono ?_
  rintro e w3 ⟨rfl, hm3⟩
  have HM3 := Lib.hid hm3; clear hm3
  go_wp2_with fail
  go_ret2
  exact ⟨rfl, HM3.out.trans HF.out (fun _ hb => .inl hb)⟩
set_option maxHeartbeats 2000000 in
theorem nmake_badr1 {w : World} {p : Nat} {a : Ar} {F : Nat → Prop} (h : OAt w (some ⟨p, 0, none⟩) (some a) F) (k v r : Int) (hr : r ≠ 0) (hr1 : isN (some a) r = false) :
    Calls Tryz.prog 67 #[.pointer (some ⟨p, 0, none⟩), .agg #[.int .i64 k, .int .i64 v], .int .i64 0, .int .i64 r] w fun e w' =>
      e = .returned (.tuple #[.int .i64 (makeN (some a) k v 0 r).1, .int .i64 (makeN (some a) k v 0 r).2.1]) ∧ Made F w (some ⟨p, 0, none⟩) (makeN (some a) k v 0 r).2.2 w' := by
  have he : makeN (some a) k v 0 r = (0, 1, some a) := by unfold makeN badArg; simp [hr, hr1]
  rw [he]
  have hr2 : (r == 0) = false := beq_eq_false_iff_ne.2 hr
  have hr3 : (r != 0) = true := by rw [bne, hr2]; rfl
  have H0 := Lib.hid h; clear h hr he
  go_enter Tryz.func67, Tryz.ntmps67
  go_wp2_with fail
  refine (get_any (H0.out.alloc _) _).mono ?_
  rintro e w1 ⟨rfl, hb1⟩
  have bx : w1.heap[w.heap.size]? = some (.cells #[.int .i64 k, .int .i64 v] 43 (0, 0)) := (hb1.block _ (by simp)).trans (heap_alloc_new w _)
  have hz1 := hb1.size
  have HA1 := Lib.hid (((H0.out.alloc _).below hb1).alloc (.cells #[.int .i64 (getN (some a) 0).key, .int .i64 (getN (some a) 0).val, .int .i64 (getN (some a) 0).left, .int .i64 (getN (some a) 0).right, .int .i64 (getN (some a) 0).size, .int .i64 (getN (some a) 0).high] 177))
  have HB1 := Lib.hid ((((Below.refl w.heap.size w).alloc (Nat.le_refl _) _).trans (hb1.mono (by simp))).alloc (by simp at hz1; omega) (.cells #[.int .i64 (getN (some a) 0).key, .int .i64 (getN (some a) 0).val, .int .i64 (getN (some a) 0).left, .int .i64 (getN (some a) 0).right, .int .i64 (getN (some a) 0).size, .int .i64 (getN (some a) 0).high] 177))
  have HX1 := Lib.hid bx; clear bx hb1
  have HZ1 := Lib.hid hz1; clear hz1
  go_wp2_with fail
  refine (get_any HA1.out _).mono ?_
  rintro e w2 ⟨rfl, hb2⟩
  have hz2 := hb2.size
  have hz1 := HZ1.out
  simp at hz1 hz2
  have bx := blk_below ((heap_alloc_old w1 (.cells #[.int .i64 (getN (some a) 0).key, .int .i64 (getN (some a) 0).val, .int .i64 (getN (some a) 0).left, .int .i64 (getN (some a) 0).right, .int .i64 (getN (some a) 0).size, .int .i64 (getN (some a) 0).high] 177) (show w.heap.size < w1.heap.size by omega)).trans HX1.out) hb2 (by simp; omega)
  have by1 := (hb2.block _ (by simp)).trans (heap_alloc_new w1 (.cells #[.int .i64 (getN (some a) 0).key, .int .i64 (getN (some a) 0).val, .int .i64 (getN (some a) 0).left, .int .i64 (getN (some a) 0).right, .int .i64 (getN (some a) 0).size, .int .i64 (getN (some a) 0).high] 177))
  have x0 := cell_blk (i := 0) bx rfl
  have x1 := cell_blk (i := 1) bx rfl
  have y3 := cell_blk (i := 4) by1 rfl
  have y4 := cell_blk (i := 5) by1 rfl
  have HA2 := Lib.hid (HA1.out.below hb2)
  have HB2 := Lib.hid (HB1.out.trans (hb2.mono (by simp; omega)))
  clear hb2 bx by1
  have lt0 : w.heap.size < w2.heap.size := by omega
  have lt1 : w1.heap.size < w2.heap.size := by omega
  go_wp2_with fail
  go_ret2
  exact ⟨rfl, Made.of_below H0.out ((HB2.out.alloc (by omega) _))⟩
set_option maxHeartbeats 2000000 in
theorem nmake_ok100 {w : World} {p : Nat} {a : Ar} {F : Nat → Prop} (h : OAt w (some ⟨p, 0, none⟩) (some a) F) (k v r : Int) (hr : r ≠ 0) (hr1 : isN (some a) r = true) (hm : ¬ (getN (some a) 0).high < (getN (some a) r).high) :
    Calls Tryz.prog 67 #[.pointer (some ⟨p, 0, none⟩), .agg #[.int .i64 k, .int .i64 v], .int .i64 0, .int .i64 r] w fun e w' =>
      e = .returned (.tuple #[.int .i64 (makeN (some a) k v 0 r).1, .int .i64 (makeN (some a) k v 0 r).2.1]) ∧ Made F w (some ⟨p, 0, none⟩) (makeN (some a) k v 0 r).2.2 w' := by
  have he : makeN (some a) k v 0 r = makeO (some a) 1 [k, v, 0, r, wrap64 (wrap64 ((getN (some a) 0).size + (getN (some a) r).size) + 1), wrap64 ((getN (some a) 0).high + 1)] := by
    unfold makeN badArg nodeVals
    rw [if_neg hm]
    rw [if_neg (by simp [hr1])]
  rw [he]
  have hr2 : (r == 0) = false := beq_eq_false_iff_ne.2 hr
  have hr3 : (r != 0) = true := by rw [bne, hr2]; rfl
  have H0 := Lib.hid h; clear h he hr
  go_enter Tryz.func67, Tryz.ntmps67
  go_wp2_with fail
  refine (get_any (H0.out.alloc _) _).mono ?_
  rintro e w1 ⟨rfl, hb1⟩
  have bx : w1.heap[w.heap.size]? = some (.cells #[.int .i64 k, .int .i64 v] 43 (0, 0)) := (hb1.block _ (by simp)).trans (heap_alloc_new w _)
  have hz1 := hb1.size
  have HA1 := Lib.hid (((H0.out.alloc _).below hb1).alloc (.cells #[.int .i64 (getN (some a) 0).key, .int .i64 (getN (some a) 0).val, .int .i64 (getN (some a) 0).left, .int .i64 (getN (some a) 0).right, .int .i64 (getN (some a) 0).size, .int .i64 (getN (some a) 0).high] 177))
  have HB1 := Lib.hid ((((Below.refl w.heap.size w).alloc (Nat.le_refl _) _).trans (hb1.mono (by simp))).alloc (by simp at hz1; omega) (.cells #[.int .i64 (getN (some a) 0).key, .int .i64 (getN (some a) 0).val, .int .i64 (getN (some a) 0).left, .int .i64 (getN (some a) 0).right, .int .i64 (getN (some a) 0).size, .int .i64 (getN (some a) 0).high] 177))
  have HX1 := Lib.hid bx; clear bx hb1
  have HZ1 := Lib.hid hz1; clear hz1
  go_wp2_with fail
  refine (get_any HA1.out _).mono ?_
  rintro e w2 ⟨rfl, hb2⟩
  have hz2 := hb2.size
  have hz1 := HZ1.out
  simp at hz1 hz2
  have bx := blk_below ((heap_alloc_old w1 (.cells #[.int .i64 (getN (some a) 0).key, .int .i64 (getN (some a) 0).val, .int .i64 (getN (some a) 0).left, .int .i64 (getN (some a) 0).right, .int .i64 (getN (some a) 0).size, .int .i64 (getN (some a) 0).high] 177) (show w.heap.size < w1.heap.size by omega)).trans HX1.out) hb2 (by simp; omega)
  have by1 := (hb2.block _ (by simp)).trans (heap_alloc_new w1 (.cells #[.int .i64 (getN (some a) 0).key, .int .i64 (getN (some a) 0).val, .int .i64 (getN (some a) 0).left, .int .i64 (getN (some a) 0).right, .int .i64 (getN (some a) 0).size, .int .i64 (getN (some a) 0).high] 177))
  have x0 := cell_blk (i := 0) bx rfl
  have x1 := cell_blk (i := 1) bx rfl
  have y3 := cell_blk (i := 4) by1 rfl
  have y4 := cell_blk (i := 5) by1 rfl
  have HA2 := Lib.hid (HA1.out.below hb2)
  have HB2 := Lib.hid (HB1.out.trans (hb2.mono (by simp; omega)))
  clear hb2 bx by1
  have lt0 : w.heap.size < w2.heap.size := by omega
  have lt1 : w1.heap.size < w2.heap.size := by omega
  go_wp2_with fail
  have hb3 : Below w2.heap.size w2 ((w2.alloc (.cells #[.int .i64 (getN (some a) r).key, .int .i64 (getN (some a) r).val, .int .i64 (getN (some a) r).left, .int .i64 (getN (some a) r).right, .int .i64 (getN (some a) r).size, .int .i64 (getN (some a) r).high] 177)).alloc (.cells #[.int .i64 k, .int .i64 v, .int .i64 0, .int .i64 r, .int .i64 (wrap64 (wrap64 ((getN (some a) 0).size + (getN (some a) r).size) + 1)), .int .i64 (wrap64 ((getN (some a) 0).high + 1))] 3)) := ((Below.refl _ _).alloc (Nat.le_refl _) _).alloc (by simp) _
  have hin : IntsIn ((w2.alloc (.cells #[.int .i64 (getN (some a) r).key, .int .i64 (getN (some a) r).val, .int .i64 (getN (some a) r).left, .int .i64 (getN (some a) r).right, .int .i64 (getN (some a) r).size, .int .i64 (getN (some a) r).high] 177)).alloc (.cells #[.int .i64 k, .int .i64 v, .int .i64 0, .int .i64 r, .int .i64 (wrap64 (wrap64 ((getN (some a) 0).size + (getN (some a) r).size) + 1)), .int .i64 (wrap64 ((getN (some a) 0).high + 1))] 3)) (some ⟨w2.heap.size + 1, 0, none⟩) 6 [k, v, 0, r, wrap64 (wrap64 ((getN (some a) 0).size + (getN (some a) r).size) + 1), wrap64 ((getN (some a) 0).high + 1)] := ints_new (l := [k, v, 0, r, wrap64 (wrap64 ((getN (some a) 0).size + (getN (some a) r).size) + 1), wrap64 ((getN (some a) 0).high + 1)]) (w2.alloc _) (w2.heap.size + 1) _ (by simp) rfl
  have HM := Lib.hid (make_any (HA2.out.below hb3) 1 hin)
  have HF := Lib.hid ((Frame.of_below (F := F) HB2.out).trans (Frame.of_below (F := F) hb3) (fun _ _ h => h))
  have hz3 := hb3.size
  clear hb3 hin
  refine HM.out.mono ?_
  rintro e w3 ⟨rfl, hm3⟩
  have HM3 := Lib.hid hm3; clear hm3
  go_wp2_with fail
  go_ret2
  exact ⟨rfl, HM3.out.trans HF.out (fun _ hb => .inl hb)⟩
set_option maxHeartbeats 2000000 in
theorem nmake_ok101 {w : World} {p : Nat} {a : Ar} {F : Nat → Prop} (h : OAt w (some ⟨p, 0, none⟩) (some a) F) (k v r : Int) (hr : r ≠ 0) (hr1 : isN (some a) r = true) (hm : (getN (some a) 0).high < (getN (some a) r).high) :
    Calls Tryz.prog 67 #[.pointer (some ⟨p, 0, none⟩), .agg #[.int .i64 k, .int .i64 v], .int .i64 0, .int .i64 r] w fun e w' =>
      e = .returned (.tuple #[.int .i64 (makeN (some a) k v 0 r).1, .int .i64 (makeN (some a) k v 0 r).2.1]) ∧ Made F w (some ⟨p, 0, none⟩) (makeN (some a) k v 0 r).2.2 w' := by
  have he : makeN (some a) k v 0 r = makeO (some a) 1 [k, v, 0, r, wrap64 (wrap64 ((getN (some a) 0).size + (getN (some a) r).size) + 1), wrap64 ((getN (some a) r).high + 1)] := by
    unfold makeN badArg nodeVals
    rw [if_pos hm]
    rw [if_neg (by simp [hr1])]
  rw [he]
  have hr2 : (r == 0) = false := beq_eq_false_iff_ne.2 hr
  have hr3 : (r != 0) = true := by rw [bne, hr2]; rfl
  have H0 := Lib.hid h; clear h he hr
  go_enter Tryz.func67, Tryz.ntmps67
  go_wp2_with fail
  refine (get_any (H0.out.alloc _) _).mono ?_
  rintro e w1 ⟨rfl, hb1⟩
  have bx : w1.heap[w.heap.size]? = some (.cells #[.int .i64 k, .int .i64 v] 43 (0, 0)) := (hb1.block _ (by simp)).trans (heap_alloc_new w _)
  have hz1 := hb1.size
  have HA1 := Lib.hid (((H0.out.alloc _).below hb1).alloc (.cells #[.int .i64 (getN (some a) 0).key, .int .i64 (getN (some a) 0).val, .int .i64 (getN (some a) 0).left, .int .i64 (getN (some a) 0).right, .int .i64 (getN (some a) 0).size, .int .i64 (getN (some a) 0).high] 177))
  have HB1 := Lib.hid ((((Below.refl w.heap.size w).alloc (Nat.le_refl _) _).trans (hb1.mono (by simp))).alloc (by simp at hz1; omega) (.cells #[.int .i64 (getN (some a) 0).key, .int .i64 (getN (some a) 0).val, .int .i64 (getN (some a) 0).left, .int .i64 (getN (some a) 0).right, .int .i64 (getN (some a) 0).size, .int .i64 (getN (some a) 0).high] 177))
  have HX1 := Lib.hid bx; clear bx hb1
  have HZ1 := Lib.hid hz1; clear hz1
  go_wp2_with fail
  refine (get_any HA1.out _).mono ?_
  rintro e w2 ⟨rfl, hb2⟩
  have hz2 := hb2.size
  have hz1 := HZ1.out
  simp at hz1 hz2
  have bx := blk_below ((heap_alloc_old w1 (.cells #[.int .i64 (getN (some a) 0).key, .int .i64 (getN (some a) 0).val, .int .i64 (getN (some a) 0).left, .int .i64 (getN (some a) 0).right, .int .i64 (getN (some a) 0).size, .int .i64 (getN (some a) 0).high] 177) (show w.heap.size < w1.heap.size by omega)).trans HX1.out) hb2 (by simp; omega)
  have by1 := (hb2.block _ (by simp)).trans (heap_alloc_new w1 (.cells #[.int .i64 (getN (some a) 0).key, .int .i64 (getN (some a) 0).val, .int .i64 (getN (some a) 0).left, .int .i64 (getN (some a) 0).right, .int .i64 (getN (some a) 0).size, .int .i64 (getN (some a) 0).high] 177))
  have x0 := cell_blk (i := 0) bx rfl
  have x1 := cell_blk (i := 1) bx rfl
  have y3 := cell_blk (i := 4) by1 rfl
  have y4 := cell_blk (i := 5) by1 rfl
  have HA2 := Lib.hid (HA1.out.below hb2)
  have HB2 := Lib.hid (HB1.out.trans (hb2.mono (by simp; omega)))
  clear hb2 bx by1
  have lt0 : w.heap.size < w2.heap.size := by omega
  have lt1 : w1.heap.size < w2.heap.size := by omega
  go_wp2_with fail
  have hb3 : Below w2.heap.size w2 ((w2.alloc (.cells #[.int .i64 (getN (some a) r).key, .int .i64 (getN (some a) r).val, .int .i64 (getN (some a) r).left, .int .i64 (getN (some a) r).right, .int .i64 (getN (some a) r).size, .int .i64 (getN (some a) r).high] 177)).alloc (.cells #[.int .i64 k, .int .i64 v, .int .i64 0, .int .i64 r, .int .i64 (wrap64 (wrap64 ((getN (some a) 0).size + (getN (some a) r).size) + 1)), .int .i64 (wrap64 ((getN (some a) r).high + 1))] 3)) := ((Below.refl _ _).alloc (Nat.le_refl _) _).alloc (by simp) _
  have hin : IntsIn ((w2.alloc (.cells #[.int .i64 (getN (some a) r).key, .int .i64 (getN (some a) r).val, .int .i64 (getN (some a) r).left, .int .i64 (getN (some a) r).right, .int .i64 (getN (some a) r).size, .int .i64 (getN (some a) r).high] 177)).alloc (.cells #[.int .i64 k, .int .i64 v, .int .i64 0, .int .i64 r, .int .i64 (wrap64 (wrap64 ((getN (some a) 0).size + (getN (some a) r).size) + 1)), .int .i64 (wrap64 ((getN (some a) r).high + 1))] 3)) (some ⟨w2.heap.size + 1, 0, none⟩) 6 [k, v, 0, r, wrap64 (wrap64 ((getN (some a) 0).size + (getN (some a) r).size) + 1), wrap64 ((getN (some a) r).high + 1)] := ints_new (l := [k, v, 0, r, wrap64 (wrap64 ((getN (some a) 0).size + (getN (some a) r).size) + 1), wrap64 ((getN (some a) r).high + 1)]) (w2.alloc _) (w2.heap.size + 1) _ (by simp) rfl
  have HM := Lib.hid (make_any (HA2.out.below hb3) 1 hin)
  have HF := Lib.hid ((Frame.of_below (F := F) HB2.out).trans (Frame.of_below (F := F) hb3) (fun _ _ h => h))
  have hz3 := hb3.size
  clear hb3 hin
  refine HM.out.mono ?_
  rintro e w3 ⟨rfl, hm3⟩
  have HM3 := Lib.hid hm3; clear hm3
  go_wp2_with fail
  go_ret2
  exact ⟨rfl, HM3.out.trans HF.out (fun _ hb => .inl hb)⟩
set_option maxHeartbeats 2000000 in
theorem nmake_ok110 {w : World} {p : Nat} {a : Ar} {F : Nat → Prop} (h : OAt w (some ⟨p, 0, none⟩) (some a) F) (k v : Int) (hm : ¬ (getN (some a) 0).high < (getN (some a) 0).high) :
    Calls Tryz.prog 67 #[.pointer (some ⟨p, 0, none⟩), .agg #[.int .i64 k, .int .i64 v], .int .i64 0, .int .i64 0] w fun e w' =>
      e = .returned (.tuple #[.int .i64 (makeN (some a) k v 0 0).1, .int .i64 (makeN (some a) k v 0 0).2.1]) ∧ Made F w (some ⟨p, 0, none⟩) (makeN (some a) k v 0 0).2.2 w' := by
  have he : makeN (some a) k v 0 0 = makeO (some a) 1 [k, v, 0, 0, wrap64 (wrap64 ((getN (some a) 0).size + (getN (some a) 0).size) + 1), wrap64 ((getN (some a) 0).high + 1)] := by
    unfold makeN badArg nodeVals
    rw [if_neg hm]
    rw [if_neg (by simp)]
  rw [he]
  have H0 := Lib.hid h; clear h he
  go_enter Tryz.func67, Tryz.ntmps67
  go_wp2_with fail
  refine (get_any (H0.out.alloc _) _).mono ?_
  rintro e w1 ⟨rfl, hb1⟩
  have bx : w1.heap[w.heap.size]? = some (.cells #[.int .i64 k, .int .i64 v] 43 (0, 0)) := (hb1.block _ (by simp)).trans (heap_alloc_new w _)
  have hz1 := hb1.size
  have HA1 := Lib.hid (((H0.out.alloc _).below hb1).alloc (.cells #[.int .i64 (getN (some a) 0).key, .int .i64 (getN (some a) 0).val, .int .i64 (getN (some a) 0).left, .int .i64 (getN (some a) 0).right, .int .i64 (getN (some a) 0).size, .int .i64 (getN (some a) 0).high] 177))
  have HB1 := Lib.hid ((((Below.refl w.heap.size w).alloc (Nat.le_refl _) _).trans (hb1.mono (by simp))).alloc (by simp at hz1; omega) (.cells #[.int .i64 (getN (some a) 0).key, .int .i64 (getN (some a) 0).val, .int .i64 (getN (some a) 0).left, .int .i64 (getN (some a) 0).right, .int .i64 (getN (some a) 0).size, .int .i64 (getN (some a) 0).high] 177))
  have HX1 := Lib.hid bx; clear bx hb1
  have HZ1 := Lib.hid hz1; clear hz1
  go_wp2_with fail
  refine (get_any HA1.out _).mono ?_
  rintro e w2 ⟨rfl, hb2⟩
  have hz2 := hb2.size
  have hz1 := HZ1.out
  simp at hz1 hz2
  have bx := blk_below ((heap_alloc_old w1 (.cells #[.int .i64 (getN (some a) 0).key, .int .i64 (getN (some a) 0).val, .int .i64 (getN (some a) 0).left, .int .i64 (getN (some a) 0).right, .int .i64 (getN (some a) 0).size, .int .i64 (getN (some a) 0).high] 177) (show w.heap.size < w1.heap.size by omega)).trans HX1.out) hb2 (by simp; omega)
  have by1 := (hb2.block _ (by simp)).trans (heap_alloc_new w1 (.cells #[.int .i64 (getN (some a) 0).key, .int .i64 (getN (some a) 0).val, .int .i64 (getN (some a) 0).left, .int .i64 (getN (some a) 0).right, .int .i64 (getN (some a) 0).size, .int .i64 (getN (some a) 0).high] 177))
  have x0 := cell_blk (i := 0) bx rfl
  have x1 := cell_blk (i := 1) bx rfl
  have y3 := cell_blk (i := 4) by1 rfl
  have y4 := cell_blk (i := 5) by1 rfl
  have HA2 := Lib.hid (HA1.out.below hb2)
  have HB2 := Lib.hid (HB1.out.trans (hb2.mono (by simp; omega)))
  clear hb2 bx by1
  have lt0 : w.heap.size < w2.heap.size := by omega
  have lt1 : w1.heap.size < w2.heap.size := by omega
  go_wp2_with fail
  have hb3 : Below w2.heap.size w2 ((w2.alloc (.cells #[.int .i64 (getN (some a) 0).key, .int .i64 (getN (some a) 0).val, .int .i64 (getN (some a) 0).left, .int .i64 (getN (some a) 0).right, .int .i64 (getN (some a) 0).size, .int .i64 (getN (some a) 0).high] 177)).alloc (.cells #[.int .i64 k, .int .i64 v, .int .i64 0, .int .i64 0, .int .i64 (wrap64 (wrap64 ((getN (some a) 0).size + (getN (some a) 0).size) + 1)), .int .i64 (wrap64 ((getN (some a) 0).high + 1))] 3)) := ((Below.refl _ _).alloc (Nat.le_refl _) _).alloc (by simp) _
  have hin : IntsIn ((w2.alloc (.cells #[.int .i64 (getN (some a) 0).key, .int .i64 (getN (some a) 0).val, .int .i64 (getN (some a) 0).left, .int .i64 (getN (some a) 0).right, .int .i64 (getN (some a) 0).size, .int .i64 (getN (some a) 0).high] 177)).alloc (.cells #[.int .i64 k, .int .i64 v, .int .i64 0, .int .i64 0, .int .i64 (wrap64 (wrap64 ((getN (some a) 0).size + (getN (some a) 0).size) + 1)), .int .i64 (wrap64 ((getN (some a) 0).high + 1))] 3)) (some ⟨w2.heap.size + 1, 0, none⟩) 6 [k, v, 0, 0, wrap64 (wrap64 ((getN (some a) 0).size + (getN (some a) 0).size) + 1), wrap64 ((getN (some a) 0).high + 1)] := ints_new (l := [k, v, 0, 0, wrap64 (wrap64 ((getN (some a) 0).size + (getN (some a) 0).size) + 1), wrap64 ((getN (some a) 0).high + 1)]) (w2.alloc _) (w2.heap.size + 1) _ (by simp) rfl
  have HM := Lib.hid (make_any (HA2.out.below hb3) 1 hin)
  have HF := Lib.hid ((Frame.of_below (F := F) HB2.out).trans (Frame.of_below (F := F) hb3) (fun _ _ h => h))
  have hz3 := hb3.size
  clear hb3 hin
  refine HM.out.mono ?_
  rintro e w3 ⟨rfl, hm3⟩
  have HM3 := Lib.hid hm3; clear hm3
  go_wp2_with fail
  go_ret2
  exact ⟨rfl, HM3.out.trans HF.out (fun _ hb => .inl hb)⟩
theorem nmake_any {w : World} {po : Option Addr} {A : OA} {F : Nat → Prop} (h : OAt w po A F) (k v l r : Int) :
    Calls Tryz.prog 67 #[.pointer po, .agg #[.int .i64 k, .int .i64 v], .int .i64 l, .int .i64 r] w fun e w' =>
      e = .returned (.tuple #[.int .i64 (makeN A k v l r).1, .int .i64 (makeN A k v l r).2.1]) ∧ Made F w po (makeN A k v l r).2.2 w' := by
  have hh := h
  rcases h with ⟨rfl, rfl, _⟩ | ⟨a, p, sv, row, rfl, rfl, _⟩
  · exact nmake_none hh k v l r
  · by_cases l0 : l = 0
    · subst l0
      by_cases r0 : r = 0
      · subst r0
        by_cases hm : (getN (some a) 0).high < (getN (some a) 0).high
        · exact absurd hm (Int.lt_irrefl _)
        · exact nmake_ok110 hh k v hm
      · cases hr : isN (some a) r with
        | false => exact nmake_badr1 hh k v r r0 hr
        | true =>
          by_cases hm : (getN (some a) 0).high < (getN (some a) r).high
          · exact nmake_ok101 hh k v r r0 hr hm
          · exact nmake_ok100 hh k v r r0 hr hm
    · cases hl : isN (some a) l with
      | false => exact nmake_badl hh k v l r l0 hl
      | true =>
        by_cases r0 : r = 0
        · subst r0
          by_cases hm : (getN (some a) l).high < (getN (some a) 0).high
          · exact nmake_ok011 hh k v l l0 hl hm
          · exact nmake_ok010 hh k v l l0 hl hm
        · cases hr : isN (some a) r with
          | false => exact nmake_badr0 hh k v l r l0 hl r0 hr
          | true =>
            by_cases hm : (getN (some a) l).high < (getN (some a) r).high
            · exact nmake_ok001 hh k v l r l0 hl r0 hr hm
            · exact nmake_ok000 hh k v l r l0 hl r0 hr hm
end Go.Proofs.YtghjnkfocjjlnaaGreat
