/- The walk of sound.same, of treaps: the ways with calls of itself. -/
/- The walk of sound.same, of treaps: the ways with calls of itself, both alike. -/
import Derived.Test.YtkcfkanfdbejiaaSameH
namespace Go.Proofs.Ytkcfkanfdbejiaa
set_option maxRecDepth 100000
open Go.RowKit Go.Proofs.Ytkcfkanfdbejiaa.Mix Go.Proofs.YtkcfkanfdbejiaaW.PrintWords Go.Proofs.YtkcfkanfdbejiaaW.PrintLast
set_option linter.unusedSimpArgs false
set_option linter.unusedVariables false

set_option maxRecDepth 100000 in
set_option maxHeartbeats 4000000 in
theorem same_f {a : Ar} {w : World} {p : Nat} {F : Nat → Prop} {mb n : Nat} {D : DU} (ho : OAt w (some ⟨p, 0, none⟩) (some a) F) (hm : MapOf w mb n D) (hi : MInv a D) {t u : Int} (htu : t ≠ u) {l m : List Pr} (ht : Tr a t l) (hu : Tr a u m) (kl : Lit) (hkl : keyP t u = some kl) (hrun : (Instr.lookup 81 (.map (some mb)) (.agg #[.int .i64 t, .int .i64 u]) false).run Try.prog (w.alloc (.cells #[.int .i64 t, .int .i64 u] 80)) = .ok (.int .i64 0) (w.alloc (.cells #[.int .i64 t, .int .i64 u] 80))) {k v x y s1 g1 x2 y2 s2 g2 : Int} (hn1 : isN (some a) t = true) (hn2 : isN (some a) u = true) (hg1 : getN (some a) t = ⟨k, v, x, y, s1, g1⟩) (hg2 : getN (some a) u = ⟨k, v, x2, y2, s2, g2⟩) {l1 l2 m1 m2 : List Pr} (tx : Tr a x l1) (ty : Tr a y l2) (tx2 : Tr a x2 m1) (ty2 : Tr a y2 m2) (hx : x < t) (hy : y < t) (hx2 : x2 < u) (hy2 : y2 < u)
    (ih1 : ∀ (w : World) (p : Nat) (F : Nat → Prop) (mb n : Nat) (D : DU), OAt w (some ⟨p, 0, none⟩) (some a) F → MapOf w mb n D → ¬ F mb → MInv a D → n + (4 * l1.length + 2) ≤ 1000000 → Calls Try.prog 42 #[.pointer (some ⟨p, 0, none⟩), .agg #[.int .i64 x, .int .i64 x2], .map (some mb)] w (SamePost a w mb (n + (4 * l1.length + 2)) l1 m1))
    (ih2 : ∀ (w : World) (p : Nat) (F : Nat → Prop) (mb n : Nat) (D : DU), OAt w (some ⟨p, 0, none⟩) (some a) F → MapOf w mb n D → ¬ F mb → MInv a D → n + (4 * l2.length + 2) ≤ 1000000 → Calls Try.prog 42 #[.pointer (some ⟨p, 0, none⟩), .agg #[.int .i64 y, .int .i64 y2], .map (some mb)] w (SamePost a w mb (n + (4 * l2.length + 2)) l2 m2))
    (hck : ¬ F mb) (hb : n + (4 * l1.length + 2) + (4 * l2.length + 2) + 2 ≤ 1000000) (hd1 : decide (l1 = m1) = false) (hne : l ≠ m) :
    Calls Try.prog 42 #[.pointer (some ⟨p, 0, none⟩), .agg #[.int .i64 t, .int .i64 u], .map (some mb)] w (SamePost a w mb (n + (4 * l1.length + 2) + (4 * l2.length + 2) + 2) l m) := by
  have HDEC := Lib.hid (show decide (l = m) = false from decide_eq_false hne)
  have HC2 := Lib.hid (show (2 : Int) = 1 ↔ l = m from ⟨fun e => absurd e (by decide), fun e => absurd e hne⟩)
  clear hne
  have HG1 := Lib.hid hg1; have HG2 := Lib.hid hg2; have HN1 := Lib.hid hn1; have HN2 := Lib.hid hn2
  clear hg1 hg2 hn1 hn2
  have TX := Lib.hid tx; have TY := Lib.hid ty; have TX2 := Lib.hid tx2; have TY2 := Lib.hid ty2; have LX := Lib.hid hx; have LY := Lib.hid hy; have LX2 := Lib.hid hx2; have LY2 := Lib.hid hy2
  have IH1 := Lib.hid ih1; have IH2 := Lib.hid ih2; have HCK := Lib.hid hck; have HD1 := Lib.hid hd1
  clear tx ty tx2 ty2 hx hy hx2 hy2 ih1 ih2 hck hd1
  have qk := beq_self_eq_true k
  have qv := beq_self_eq_true v
  have HLM := Lib.hid (World.ownsMap.lt hm)
  have HKL := Lib.hid hkl; have HT := Lib.hid ht; have HU := Lib.hid hu; have HB := Lib.hid hb
  have q0 : (t == u) = false := beq_eq_false_iff_ne.2 htu
  clear htu hkl hb
  have PX0 : (w.alloc (.cells #[.int .i64 t, .int .i64 u] 80)).heap[w.heap.size]? = some (.cells #[.int .i64 t, .int .i64 u] 80 (0, 0)) := heap_alloc_new w (.cells #[.int .i64 t, .int .i64 u] 80)
  have P0 := Lib.hid PX0; clear PX0
  have B0 := Lib.hid ((Below.refl w.heap.size w).alloc (Nat.le_refl _) (.cells #[.int .i64 t, .int .i64 u] 80))
  have O0 := Lib.hid (ho.below B0.out)
  have M0 := Lib.hid (MapOf.below hm B0.out)
  have F0 := Lib.hid (Frame.of_below (F := Only mb) B0.out)
  have HMB := Lib.hid (show w.heap.size ≠ mb from fun e => by have := World.ownsMap.lt hm; omega)
  have HI := Lib.hid hi
  clear hm hi ho
  go_enter Try.func42, Try.ntmps42
  have hg1 := get_any O0.out t
  rw [HN1.out, HG1.out] at hg1
  have G1 := Lib.hid hg1; clear hg1
  go_wp2_with fail
  refine G1.out.mono ?_
  rintro e w2 ⟨rfl, b2⟩
  have z2 := b2.size
  simp at z2
  have P2 := Lib.hid ((b2.block w.heap.size (by simp)).trans P0.out)
  have B2a := Lib.hid (b2.trans (((Below.refl w2.heap.size w2).alloc (Nat.le_refl _) (.cells #[.int .i64 k, .int .i64 v, .int .i64 x, .int .i64 y, .int .i64 s1, .int .i64 g1] 41)).mono b2.size))
  have O2 := Lib.hid (O0.out.below B2a.out)
  have N2 := Lib.hid (heap_alloc_new w2 (.cells #[.int .i64 k, .int .i64 v, .int .i64 x, .int .i64 y, .int .i64 s1, .int .i64 g1] 41))
  clear b2
  have hg2 := get_any O2.out u
  rw [HN2.out, HG2.out] at hg2
  have G2 := Lib.hid hg2; clear hg2
  have q2 := cell_blk (i := 1) (w := w2) P2.out rfl
  have hlt2 : w.heap.size < w2.heap.size := by omega
  go_wp2_with fail
  refine G2.out.mono ?_
  rintro e w3 ⟨rfl, b3⟩
  have z3 := b3.size
  simp at z3
  have b3c := b3.trans (((Below.refl w3.heap.size w3).alloc (Nat.le_refl _) (.cells #[.int .i64 k, .int .i64 v, .int .i64 x2, .int .i64 y2, .int .i64 s2, .int .i64 g2] 41)).mono b3.size)
  have B3 := Lib.hid (B2a.out.trans (b3c.mono B2a.out.size))
  have O3 := Lib.hid (O0.out.below B3.out)
  have M3 := Lib.hid (MapOf.below M0.out B3.out)
  have F3 := Lib.hid (F0.out.next (Frame.of_below B3.out))
  have P3 := Lib.hid ((b3c.block w.heap.size (by simp; omega)).trans (((Below.refl w2.heap.size w2).alloc (Nat.le_refl _) (.cells #[.int .i64 k, .int .i64 v, .int .i64 x, .int .i64 y, .int .i64 s1, .int .i64 g1] 41)).block w.heap.size hlt2 |>.trans P2.out))
  have N3 := Lib.hid ((b3c.block w2.heap.size (by simp)).trans N2.out)
  have U3 := Lib.hid (heap_alloc_new w3 (.cells #[.int .i64 k, .int .i64 v, .int .i64 x2, .int .i64 y2, .int .i64 s2, .int .i64 g2] 41))
  have hlt3 : w2.heap.size < w3.heap.size := by omega
  clear b3 b3c q2
  have x0w := True.intro
  go_wp2_with fail
  have O3d := Lib.hid (show OAt (w3.alloc (.cells #[.int .i64 k, .int .i64 v, .int .i64 x2, .int .i64 y2, .int .i64 s2, .int .i64 g2] 41)).drew (some ⟨p, 0, none⟩) (some a) F from O3.out.below ⟨rfl, rfl, rfl, Nat.le_refl _, fun _ _ => rfl⟩)
  have M3d := Lib.hid (show MapOf (w3.alloc (.cells #[.int .i64 k, .int .i64 v, .int .i64 x2, .int .i64 y2, .int .i64 s2, .int .i64 g2] 41)).drew mb n D from M3.out)
  have F3d := Lib.hid (show Frame (Only mb) w (w3.alloc (.cells #[.int .i64 k, .int .i64 v, .int .i64 x2, .int .i64 y2, .int .i64 s2, .int .i64 g2] 41)).drew from F3.out.next ⟨rfl, rfl, rfl, Nat.le_refl _, fun _ _ _ => rfl⟩)
  have HM2 := Lib.hid (show w2.heap.size ≠ mb from by have := HLM.out; omega)
  have HM3 := Lib.hid (show w3.heap.size ≠ mb from by have := HLM.out; omega)
  refine start_ (n := 48) (S := fun w' => w'.cell? ⟨w.heap.size, 0, none⟩ = some (.int .i64 t) ∧ w'.cell? ⟨w.heap.size, 1, none⟩ = some (.int .i64 u) ∧ w'.cell? ⟨w2.heap.size, 0, none⟩ = some (.int .i64 k) ∧ w'.cell? ⟨w2.heap.size, 1, none⟩ = some (.int .i64 v) ∧ w'.cell? ⟨w2.heap.size, 2, none⟩ = some (.int .i64 x) ∧ w'.cell? ⟨w2.heap.size, 3, none⟩ = some (.int .i64 y) ∧ w'.cell? ⟨w3.heap.size, 0, none⟩ = some (.int .i64 k) ∧ w'.cell? ⟨w3.heap.size, 1, none⟩ = some (.int .i64 v) ∧ w'.cell? ⟨w3.heap.size, 2, none⟩ = some (.int .i64 x2) ∧ w'.cell? ⟨w3.heap.size, 3, none⟩ = some (.int .i64 y2)) (ds := []) #[false, false, false, false, false, false, false, false, false, false, false, false, false, false, false, false, false, false, false, false, false, false, false, false, false, false, false, false, false, false, false, false, false, false, false, false, false, false, false, false, false, false, false, false, false, false, false, false] (by kernel_rfl) rfl rfl ⟨(cell_blk (i := 0) (w := (w3.alloc (.cells #[.int .i64 k, .int .i64 v, .int .i64 x2, .int .i64 y2, .int .i64 s2, .int .i64 g2] 41)).drew) P3.out rfl), (cell_blk (i := 1) (w := (w3.alloc (.cells #[.int .i64 k, .int .i64 v, .int .i64 x2, .int .i64 y2, .int .i64 s2, .int .i64 g2] 41)).drew) P3.out rfl), (cell_blk (i := 0) (w := (w3.alloc (.cells #[.int .i64 k, .int .i64 v, .int .i64 x2, .int .i64 y2, .int .i64 s2, .int .i64 g2] 41)).drew) N3.out rfl), (cell_blk (i := 1) (w := (w3.alloc (.cells #[.int .i64 k, .int .i64 v, .int .i64 x2, .int .i64 y2, .int .i64 s2, .int .i64 g2] 41)).drew) N3.out rfl), (cell_blk (i := 2) (w := (w3.alloc (.cells #[.int .i64 k, .int .i64 v, .int .i64 x2, .int .i64 y2, .int .i64 s2, .int .i64 g2] 41)).drew) N3.out rfl), (cell_blk (i := 3) (w := (w3.alloc (.cells #[.int .i64 k, .int .i64 v, .int .i64 x2, .int .i64 y2, .int .i64 s2, .int .i64 g2] 41)).drew) N3.out rfl), (cell_blk (i := 0) (w := (w3.alloc (.cells #[.int .i64 k, .int .i64 v, .int .i64 x2, .int .i64 y2, .int .i64 s2, .int .i64 g2] 41)).drew) U3.out rfl), (cell_blk (i := 1) (w := (w3.alloc (.cells #[.int .i64 k, .int .i64 v, .int .i64 x2, .int .i64 y2, .int .i64 s2, .int .i64 g2] 41)).drew) U3.out rfl), (cell_blk (i := 2) (w := (w3.alloc (.cells #[.int .i64 k, .int .i64 v, .int .i64 x2, .int .i64 y2, .int .i64 s2, .int .i64 g2] 41)).drew) U3.out rfl), (cell_blk (i := 3) (w := (w3.alloc (.cells #[.int .i64 k, .int .i64 v, .int .i64 x2, .int .i64 y2, .int .i64 s2, .int .i64 g2] 41)).drew) U3.out rfl)⟩ (fun hHeld => ?_)
  refine pure_ (i := 0) (N := some 39) (v := ?_) (a' := ?_) #[true, false, false, false, false, false, false, false, false, false, false, false, false, false, false, false, false, false, false, false, false, false, false, false, false, false, false, false, false, false, false, false, false, false, false, false, false, false, false, false, false, false, false, false, false, false, false, false] rfl rfl (by kernel_rfl) (fun _ _ _ h => h) (Or.inl ⟨by rfl, ?_⟩) ?_ ?_
  rotate_left
  · intro w'
    go_simp
    with_reducible rfl
  rotate_left
  · simp only [Act.put, List.setIfInBounds_toArray, List.set_cons_zero, List.set_cons_succ, i64_w, i32_w]
    rfl
  refine pure_ (i := 1) (N := some 40) (v := ?_) (a' := ?_) #[true, true, false, false, false, false, false, false, false, false, false, false, false, false, false, false, false, false, false, false, false, false, false, false, false, false, false, false, false, false, false, false, false, false, false, false, false, false, false, false, false, false, false, false, false, false, false, false] rfl rfl (by kernel_rfl) (fun _ _ _ h => h) (Or.inl ⟨by rfl, ?_⟩) ?_ ?_
  rotate_left
  · intro w'
    go_simp
    with_reducible rfl
  rotate_left
  · simp only [Act.put, List.setIfInBounds_toArray, List.set_cons_zero, List.set_cons_succ, i64_w, i32_w]
    rfl
  refine pure_ (i := 2) (N := some 41) (v := ?_) (a' := ?_) #[true, true, true, false, false, false, false, false, false, false, false, false, false, false, false, false, false, false, false, false, false, false, false, false, false, false, false, false, false, false, false, false, false, false, false, false, false, false, false, false, false, false, false, false, false, false, false, false] rfl rfl (by kernel_rfl) (fun _ _ _ h => h) (Or.inl ⟨by rfl, ?_⟩) ?_ ?_
  rotate_left
  · intro w'
    go_simp
    with_reducible rfl
  rotate_left
  · simp only [Act.put, List.setIfInBounds_toArray, List.set_cons_zero, List.set_cons_succ, i64_w, i32_w]
    rfl
  refine pure_ (i := 3) (N := some 42) (v := ?_) (a' := ?_) #[true, true, true, true, false, false, false, false, false, false, false, false, false, false, false, false, false, false, false, false, false, false, false, false, false, false, false, false, false, false, false, false, false, false, false, false, false, false, false, false, false, false, false, false, false, false, false, false] rfl rfl (by kernel_rfl) (fun _ _ _ h => h) (Or.inl ⟨by rfl, ?_⟩) ?_ ?_
  rotate_left
  · intro w'
    go_simp
    with_reducible rfl
  rotate_left
  · simp only [Act.put, List.setIfInBounds_toArray, List.set_cons_zero, List.set_cons_succ, i64_w, i32_w]
    rfl
  refine pure_ (i := 4) (N := some 43) (v := ?_) (a' := ?_) #[true, true, true, true, true, false, false, false, false, false, false, false, false, false, false, false, false, false, false, false, false, false, false, false, false, false, false, false, false, false, false, false, false, false, false, false, false, false, false, false, false, false, false, false, false, false, false, false] rfl rfl (by kernel_rfl) (fun _ _ _ h => h) (Or.inl ⟨by rfl, ?_⟩) ?_ ?_
  rotate_left
  · intro w'
    go_simp
    with_reducible rfl
  rotate_left
  · simp only [Act.put, List.setIfInBounds_toArray, List.set_cons_zero, List.set_cons_succ, i64_w, i32_w]
    rfl
  refine pure_ (i := 5) (N := some 44) (v := ?_) (a' := ?_) #[true, true, true, true, true, true, false, false, false, false, false, false, false, false, false, false, false, false, false, false, false, false, false, false, false, false, false, false, false, false, false, false, false, false, false, false, false, false, false, false, false, false, false, false, false, false, false, false] rfl rfl (by kernel_rfl) (fun _ _ _ h => h) (Or.inl ⟨by rfl, ?_⟩) ?_ ?_
  rotate_left
  · intro w'
    go_simp
    with_reducible rfl
  rotate_left
  · simp only [Act.put, List.setIfInBounds_toArray, List.set_cons_zero, List.set_cons_succ, i64_w, i32_w]
    rfl
  refine pure_ (i := 7) (N := some 46) (v := ?_) (a' := ?_) #[true, true, true, true, true, true, false, true, false, false, false, false, false, false, false, false, false, false, false, false, false, false, false, false, false, false, false, false, false, false, false, false, false, false, false, false, false, false, false, false, false, false, false, false, false, false, false, false] rfl rfl (by kernel_rfl) (fun _ _ _ h => h) (Or.inl ⟨by rfl, ?_⟩) ?_ ?_
  rotate_left
  · intro w'
    go_simp
    with_reducible rfl
  rotate_left
  · simp only [Act.put, List.setIfInBounds_toArray, List.set_cons_zero, List.set_cons_succ, i64_w, i32_w]
    rfl
  refine take_ (i := 6) (N := some 45) (v := ?_) (a' := ?_) #[true, true, true, true, true, true, true, true, false, false, false, false, false, false, false, false, false, false, false, false, false, false, false, false, false, false, false, false, false, false, false, false, false, false, false, false, false, false, false, false, false, false, false, false, false, false, false, false] rfl rfl (by kernel_rfl) (fun _ _ _ h => h) (Or.inl ⟨by rfl, ?_⟩) hHeld ?_ ?_
  rotate_left
  · rintro w' ⟨s0, s1, s2, s3, s4, s5, s6, s7, s8, s9⟩
    go_simp
    with_reducible rfl
  rotate_left
  · simp only [Act.put, List.setIfInBounds_toArray, List.set_cons_zero, List.set_cons_succ, i64_w, i32_w]
    rfl
  refine take_ (i := 8) (N := some 47) (v := ?_) (a' := ?_) #[true, true, true, true, true, true, true, true, true, false, false, false, false, false, false, false, false, false, false, false, false, false, false, false, false, false, false, false, false, false, false, false, false, false, false, false, false, false, false, false, false, false, false, false, false, false, false, false] rfl rfl (by kernel_rfl) (fun _ _ _ h => h) (Or.inl ⟨by rfl, ?_⟩) hHeld ?_ ?_
  rotate_left
  · rintro w' ⟨s0, s1, s2, s3, s4, s5, s6, s7, s8, s9⟩
    go_simp
    with_reducible rfl
  rotate_left
  · simp only [Act.put, List.setIfInBounds_toArray, List.set_cons_zero, List.set_cons_succ, i64_w, i32_w]
    rfl
  refine pure_ (i := 9) (N := some 48) (v := ?_) (a' := ?_) #[true, true, true, true, true, true, true, true, true, true, false, false, false, false, false, false, false, false, false, false, false, false, false, false, false, false, false, false, false, false, false, false, false, false, false, false, false, false, false, false, false, false, false, false, false, false, false, false] rfl rfl (by kernel_rfl) (fun _ _ _ h => h) (Or.inl ⟨by rfl, ?_⟩) ?_ ?_
  rotate_left
  · intro w'
    go_simp
    with_reducible rfl
  rotate_left
  · simp only [Act.put, List.setIfInBounds_toArray, List.set_cons_zero, List.set_cons_succ, i64_w, i32_w]
    rfl
  refine pure_ (i := 10) (N := some 49) (v := ?_) (a' := ?_) #[true, true, true, true, true, true, true, true, true, true, true, false, false, false, false, false, false, false, false, false, false, false, false, false, false, false, false, false, false, false, false, false, false, false, false, false, false, false, false, false, false, false, false, false, false, false, false, false] rfl rfl (by kernel_rfl) (fun _ _ _ h => h) (Or.inl ⟨by rfl, ?_⟩) ?_ ?_
  rotate_left
  · intro w'
    go_simp
    with_reducible rfl
  rotate_left
  · simp only [Act.put, List.setIfInBounds_toArray, List.set_cons_zero, List.set_cons_succ, i64_w, i32_w]
    rfl
  refine pure_ (i := 11) (N := some 50) (v := ?_) (a' := ?_) #[true, true, true, true, true, true, true, true, true, true, true, true, false, false, false, false, false, false, false, false, false, false, false, false, false, false, false, false, false, false, false, false, false, false, false, false, false, false, false, false, false, false, false, false, false, false, false, false] rfl rfl (by kernel_rfl) (fun _ _ _ h => h) (Or.inl ⟨by rfl, ?_⟩) ?_ ?_
  rotate_left
  · intro w'
    go_simp
    with_reducible rfl
  rotate_left
  · simp only [Act.put, List.setIfInBounds_toArray, List.set_cons_zero, List.set_cons_succ, i64_w, i32_w]
    rfl
  refine pure_ (i := 12) (N := some 51) (v := ?_) (a' := ?_) #[true, true, true, true, true, true, true, true, true, true, true, true, true, false, false, false, false, false, false, false, false, false, false, false, false, false, false, false, false, false, false, false, false, false, false, false, false, false, false, false, false, false, false, false, false, false, false, false] rfl rfl (by kernel_rfl) (fun _ _ _ h => h) (Or.inl ⟨by rfl, ?_⟩) ?_ ?_
  rotate_left
  · intro w'
    go_simp
    with_reducible rfl
  rotate_left
  · simp only [Act.put, List.setIfInBounds_toArray, List.set_cons_zero, List.set_cons_succ, i64_w, i32_w]
    rfl
  refine pure_ (i := 13) (N := some 52) (v := ?_) (a' := ?_) #[true, true, true, true, true, true, true, true, true, true, true, true, true, true, false, false, false, false, false, false, false, false, false, false, false, false, false, false, false, false, false, false, false, false, false, false, false, false, false, false, false, false, false, false, false, false, false, false] rfl rfl (by kernel_rfl) (fun _ _ _ h => h) (Or.inl ⟨by rfl, ?_⟩) ?_ ?_
  rotate_left
  · intro w'
    go_simp
    with_reducible rfl
  rotate_left
  · simp only [Act.put, List.setIfInBounds_toArray, List.set_cons_zero, List.set_cons_succ, i64_w, i32_w]
    rfl
  refine pure_ (i := 14) (N := some 53) (v := ?_) (a' := ?_) #[true, true, true, true, true, true, true, true, true, true, true, true, true, true, true, false, false, false, false, false, false, false, false, false, false, false, false, false, false, false, false, false, false, false, false, false, false, false, false, false, false, false, false, false, false, false, false, false] rfl rfl (by kernel_rfl) (fun _ _ _ h => h) (Or.inl ⟨by rfl, ?_⟩) ?_ ?_
  rotate_left
  · intro w'
    go_simp
    with_reducible rfl
  rotate_left
  · simp only [Act.put, List.setIfInBounds_toArray, List.set_cons_zero, List.set_cons_succ, i64_w, i32_w]
    rfl
  refine pure_ (i := 16) (N := some 55) (v := ?_) (a' := ?_) #[true, true, true, true, true, true, true, true, true, true, true, true, true, true, true, false, true, false, false, false, false, false, false, false, false, false, false, false, false, false, false, false, false, false, false, false, false, false, false, false, false, false, false, false, false, false, false, false] rfl rfl (by kernel_rfl) (fun _ _ _ h => h) (Or.inl ⟨by rfl, ?_⟩) ?_ ?_
  rotate_left
  · intro w'
    go_simp
    with_reducible rfl
  rotate_left
  · simp only [Act.put, List.setIfInBounds_toArray, List.set_cons_zero, List.set_cons_succ, i64_w, i32_w]
    rfl
  refine pure_ (i := 19) (N := some 58) (v := ?_) (a' := ?_) #[true, true, true, true, true, true, true, true, true, true, true, true, true, true, true, false, true, false, false, true, false, false, false, false, false, false, false, false, false, false, false, false, false, false, false, false, false, false, false, false, false, false, false, false, false, false, false, false] rfl rfl (by kernel_rfl) (fun _ _ _ h => h) (Or.inl ⟨by rfl, ?_⟩) ?_ ?_
  rotate_left
  · intro w'
    go_simp
    with_reducible rfl
  rotate_left
  · simp only [Act.put, List.setIfInBounds_toArray, List.set_cons_zero, List.set_cons_succ, i64_w, i32_w]
    rfl
  refine pure_ (i := 20) (N := some 59) (v := ?_) (a' := ?_) #[true, true, true, true, true, true, true, true, true, true, true, true, true, true, true, false, true, false, false, true, true, false, false, false, false, false, false, false, false, false, false, false, false, false, false, false, false, false, false, false, false, false, false, false, false, false, false, false] rfl rfl (by kernel_rfl) (fun _ _ _ h => h) (Or.inl ⟨by rfl, ?_⟩) ?_ ?_
  rotate_left
  · intro w'
    go_simp
    with_reducible rfl
  rotate_left
  · simp only [Act.put, List.setIfInBounds_toArray, List.set_cons_zero, List.set_cons_succ, i64_w, i32_w]
    rfl
  refine pure_ (i := 22) (N := some 61) (v := ?_) (a' := ?_) #[true, true, true, true, true, true, true, true, true, true, true, true, true, true, true, false, true, false, false, true, true, false, true, false, false, false, false, false, false, false, false, false, false, false, false, false, false, false, false, false, false, false, false, false, false, false, false, false] rfl rfl (by kernel_rfl) (fun _ _ _ h => h) (Or.inl ⟨by rfl, ?_⟩) ?_ ?_
  rotate_left
  · intro w'
    go_simp
    with_reducible rfl
  rotate_left
  · simp only [Act.put, List.setIfInBounds_toArray, List.set_cons_zero, List.set_cons_succ, i64_w, i32_w]
    rfl
  refine pure_ (i := 26) (N := some 65) (v := ?_) (a' := ?_) #[true, true, true, true, true, true, true, true, true, true, true, true, true, true, true, false, true, false, false, true, true, false, true, false, false, false, true, false, false, false, false, false, false, false, false, false, false, false, false, false, false, false, false, false, false, false, false, false] rfl rfl (by kernel_rfl) (fun _ _ _ h => h) (Or.inl ⟨by rfl, ?_⟩) ?_ ?_
  rotate_left
  · intro w'
    go_simp
    with_reducible rfl
  rotate_left
  · simp only [Act.put, List.setIfInBounds_toArray, List.set_cons_zero, List.set_cons_succ, i64_w, i32_w]
    rfl
  refine take_ (i := 15) (N := some 54) (v := ?_) (a' := ?_) #[true, true, true, true, true, true, true, true, true, true, true, true, true, true, true, true, true, false, false, true, true, false, true, false, false, false, true, false, false, false, false, false, false, false, false, false, false, false, false, false, false, false, false, false, false, false, false, false] rfl rfl (by kernel_rfl) (fun _ _ _ h => h) (Or.inl ⟨by rfl, ?_⟩) hHeld ?_ ?_
  rotate_left
  · rintro w' ⟨s0, s1, s2, s3, s4, s5, s6, s7, s8, s9⟩
    go_simp
    with_reducible rfl
  rotate_left
  · simp only [Act.put, List.setIfInBounds_toArray, List.set_cons_zero, List.set_cons_succ, i64_w, i32_w]
    rfl
  refine take_ (i := 17) (N := some 56) (v := ?_) (a' := ?_) #[true, true, true, true, true, true, true, true, true, true, true, true, true, true, true, true, true, true, false, true, true, false, true, false, false, false, true, false, false, false, false, false, false, false, false, false, false, false, false, false, false, false, false, false, false, false, false, false] rfl rfl (by kernel_rfl) (fun _ _ _ h => h) (Or.inl ⟨by rfl, ?_⟩) hHeld ?_ ?_
  rotate_left
  · rintro w' ⟨s0, s1, s2, s3, s4, s5, s6, s7, s8, s9⟩
    go_simp
    with_reducible rfl
  rotate_left
  · simp only [Act.put, List.setIfInBounds_toArray, List.set_cons_zero, List.set_cons_succ, i64_w, i32_w]
    rfl
  refine take_ (i := 21) (N := some 60) (v := ?_) (a' := ?_) #[true, true, true, true, true, true, true, true, true, true, true, true, true, true, true, true, true, true, false, true, true, true, true, false, false, false, true, false, false, false, false, false, false, false, false, false, false, false, false, false, false, false, false, false, false, false, false, false] rfl rfl (by kernel_rfl) (fun _ _ _ h => h) (Or.inl ⟨by rfl, ?_⟩) hHeld ?_ ?_
  rotate_left
  · rintro w' ⟨s0, s1, s2, s3, s4, s5, s6, s7, s8, s9⟩
    go_simp
    with_reducible rfl
  rotate_left
  · simp only [Act.put, List.setIfInBounds_toArray, List.set_cons_zero, List.set_cons_succ, i64_w, i32_w]
    rfl
  refine take_ (i := 23) (N := some 62) (v := ?_) (a' := ?_) #[true, true, true, true, true, true, true, true, true, true, true, true, true, true, true, true, true, true, false, true, true, true, true, true, false, false, true, false, false, false, false, false, false, false, false, false, false, false, false, false, false, false, false, false, false, false, false, false] rfl rfl (by kernel_rfl) (fun _ _ _ h => h) (Or.inl ⟨by rfl, ?_⟩) hHeld ?_ ?_
  rotate_left
  · rintro w' ⟨s0, s1, s2, s3, s4, s5, s6, s7, s8, s9⟩
    go_simp
    with_reducible rfl
  rotate_left
  · simp only [Act.put, List.setIfInBounds_toArray, List.set_cons_zero, List.set_cons_succ, i64_w, i32_w]
    rfl
  refine one_ (i := 18) (N := some 57) #[true, true, true, true, true, true, true, true, true, true, true, true, true, true, true, true, true, true, true, true, true, true, true, true, false, false, true, false, false, false, false, false, false, false, false, false, false, false, false, false, false, false, false, false, false, false, false, false] rfl rfl (by kernel_rfl) (by decide) (fun K hK => ?_)
  have ch := hang_sound O3d.out t x
  rw [hang_tr TX.out LX.out] at ch
  have CH := Lib.hid ch; clear ch
  refine goes_ Try.func63 (by kernel_rfl) rfl #[.pointer (some ⟨p, 0, none⟩), .int .i64 t, .int .i64 x] (by rfl) rfl rfl (by simp only [List.map_toArray, List.map_cons, List.map_nil]; rfl) ?_
  with_reducible refine (CH.out).mono ?_
  rintro e w4 ⟨rfl, b4⟩
  refine ⟨_, rfl, ?_⟩
  have z4 := b4.size
  try simp at z4
  have O4 := Lib.hid (O3d.out.below b4)
  have M4 := Lib.hid (MapOf.below M3d.out b4)
  have F4 := Lib.hid (F3d.out.next (Frame.of_below b4))
  refine hK.out _ _ ⟨((b4.cell (by first | omega | (simp; done) | (simp; omega))).trans hHeld.1), ((b4.cell (by first | omega | (simp; done) | (simp; omega))).trans hHeld.2.1), ((b4.cell (by first | omega | (simp; done) | (simp; omega))).trans hHeld.2.2.1), ((b4.cell (by first | omega | (simp; done) | (simp; omega))).trans hHeld.2.2.2.1), ((b4.cell (by first | omega | (simp; done) | (simp; omega))).trans hHeld.2.2.2.2.1), ((b4.cell (by first | omega | (simp; done) | (simp; omega))).trans hHeld.2.2.2.2.2.1), ((b4.cell (by first | omega | (simp; done) | (simp; omega))).trans hHeld.2.2.2.2.2.2.1), ((b4.cell (by first | omega | (simp; done) | (simp; omega))).trans hHeld.2.2.2.2.2.2.2.1), ((b4.cell (by first | omega | (simp; done) | (simp; omega))).trans hHeld.2.2.2.2.2.2.2.2.1), ((b4.cell (by first | omega | (simp; done) | (simp; omega))).trans hHeld.2.2.2.2.2.2.2.2.2)⟩ (fun hHeld => ?_)
  clear hK K
  refine norm_ (a' := ?_) ?_ ?_
  rotate_left
  · show Act.put _ (some 57) _ = _
    simp only [Act.put, List.setIfInBounds_toArray, List.set_cons_zero, List.set_cons_succ, i64_w, i32_w]
    rfl
  refine one_ (i := 24) (N := some 63) #[true, true, true, true, true, true, true, true, true, true, true, true, true, true, true, true, true, true, true, true, true, true, true, true, true, false, true, false, false, false, false, false, false, false, false, false, false, false, false, false, false, false, false, false, false, false, false, false] rfl rfl (by kernel_rfl) (by decide) (fun K hK => ?_)
  have ch := hang_sound O4.out u x2
  rw [hang_tr TX2.out LX2.out] at ch
  have CH := Lib.hid ch; clear ch
  refine goes_ Try.func63 (by kernel_rfl) rfl #[.pointer (some ⟨p, 0, none⟩), .int .i64 u, .int .i64 x2] (by rfl) rfl rfl (by simp only [List.map_toArray, List.map_cons, List.map_nil]; rfl) ?_
  with_reducible refine (CH.out).mono ?_
  rintro e w5 ⟨rfl, b5⟩
  refine ⟨_, rfl, ?_⟩
  have z5 := b5.size
  try simp at z5
  have O5 := Lib.hid (O4.out.below b5)
  have M5 := Lib.hid (MapOf.below M4.out b5)
  have F5 := Lib.hid (F4.out.next (Frame.of_below b5))
  refine hK.out _ _ ⟨((b5.cell (by first | omega | (simp; done) | (simp; omega))).trans hHeld.1), ((b5.cell (by first | omega | (simp; done) | (simp; omega))).trans hHeld.2.1), ((b5.cell (by first | omega | (simp; done) | (simp; omega))).trans hHeld.2.2.1), ((b5.cell (by first | omega | (simp; done) | (simp; omega))).trans hHeld.2.2.2.1), ((b5.cell (by first | omega | (simp; done) | (simp; omega))).trans hHeld.2.2.2.2.1), ((b5.cell (by first | omega | (simp; done) | (simp; omega))).trans hHeld.2.2.2.2.2.1), ((b5.cell (by first | omega | (simp; done) | (simp; omega))).trans hHeld.2.2.2.2.2.2.1), ((b5.cell (by first | omega | (simp; done) | (simp; omega))).trans hHeld.2.2.2.2.2.2.2.1), ((b5.cell (by first | omega | (simp; done) | (simp; omega))).trans hHeld.2.2.2.2.2.2.2.2.1), ((b5.cell (by first | omega | (simp; done) | (simp; omega))).trans hHeld.2.2.2.2.2.2.2.2.2)⟩ (fun hHeld => ?_)
  clear hK K
  refine norm_ (a' := ?_) ?_ ?_
  rotate_left
  · show Act.put _ (some 63) _ = _
    simp only [Act.put, List.setIfInBounds_toArray, List.set_cons_zero, List.set_cons_succ, i64_w, i32_w]
    rfl
  refine pure_ (i := 25) (N := some 64) (v := ?_) (a' := ?_) #[true, true, true, true, true, true, true, true, true, true, true, true, true, true, true, true, true, true, true, true, true, true, true, true, true, true, true, false, false, false, false, false, false, false, false, false, false, false, false, false, false, false, false, false, false, false, false, false] rfl rfl (by kernel_rfl) (fun _ _ _ h => h) (Or.inl ⟨by rfl, ?_⟩) ?_ ?_
  rotate_left
  · intro w'
    go_simp
    with_reducible rfl
  rotate_left
  · simp only [Act.put, List.setIfInBounds_toArray, List.set_cons_zero, List.set_cons_succ, i64_w, i32_w]
    rfl
  refine one_ (i := 27) (N := some 66) #[true, true, true, true, true, true, true, true, true, true, true, true, true, true, true, true, true, true, true, true, true, true, true, true, true, true, true, true, false, false, false, false, false, false, false, false, false, false, false, false, false, false, false, false, false, false, false, false] rfl rfl (by kernel_rfl) (by decide) (fun K hK => ?_)
  have cs := IH1.out _ _ _ _ _ _ O5.out M5.out HCK.out HI.out (by have := HB.out; omega)
  unfold SamePost at cs
  rw [HD1.out] at cs
  have CS := Lib.hid cs; clear cs
  refine goes_ Try.func42 (by kernel_rfl) rfl #[.pointer (some ⟨p, 0, none⟩), .agg #[.int .i64 x, .int .i64 x2], .map (some mb)] (by rfl) rfl rfl (by simp only [List.map_toArray, List.map_cons, List.map_nil]; rfl) ?_
  with_reducible refine (CS.out).mono ?_
  rintro e w6 ⟨rfl, ⟨n6, D6, hm6, hi6, hn6⟩, fr6⟩
  refine ⟨_, rfl, ?_⟩
  have z6 := fr6.size
  have M6 := Lib.hid hm6; have I6 := Lib.hid hi6; have FRR6 := Lib.hid fr6
  have O6 := Lib.hid (O5.out.frame fr6 (fun b hb e => HCK.out (e ▸ hb)))
  have F6 := Lib.hid (F5.out.next fr6)
  clear hm6 hi6 fr6
  refine hK.out _ _ ⟨((FRR6.out.cellO (by first | omega | (simp; done) | (simp; omega)) HMB.out).trans hHeld.1), ((FRR6.out.cellO (by first | omega | (simp; done) | (simp; omega)) HMB.out).trans hHeld.2.1), ((FRR6.out.cellO (by first | omega | (simp; done) | (simp; omega)) HM2.out).trans hHeld.2.2.1), ((FRR6.out.cellO (by first | omega | (simp; done) | (simp; omega)) HM2.out).trans hHeld.2.2.2.1), ((FRR6.out.cellO (by first | omega | (simp; done) | (simp; omega)) HM2.out).trans hHeld.2.2.2.2.1), ((FRR6.out.cellO (by first | omega | (simp; done) | (simp; omega)) HM2.out).trans hHeld.2.2.2.2.2.1), ((FRR6.out.cellO (by first | omega | (simp; done) | (simp; omega)) HM3.out).trans hHeld.2.2.2.2.2.2.1), ((FRR6.out.cellO (by first | omega | (simp; done) | (simp; omega)) HM3.out).trans hHeld.2.2.2.2.2.2.2.1), ((FRR6.out.cellO (by first | omega | (simp; done) | (simp; omega)) HM3.out).trans hHeld.2.2.2.2.2.2.2.2.1), ((FRR6.out.cellO (by first | omega | (simp; done) | (simp; omega)) HM3.out).trans hHeld.2.2.2.2.2.2.2.2.2)⟩ (fun hHeld => ?_)
  clear hK K
  refine norm_ (a' := ?_) ?_ ?_
  rotate_left
  · show Act.put _ (some 66) _ = _
    simp only [Act.put, List.setIfInBounds_toArray, List.set_cons_zero, List.set_cons_succ, i64_w, i32_w]
    rfl
  refine pure_ (i := 28) (N := some 67) (v := ?_) (a' := ?_) #[true, true, true, true, true, true, true, true, true, true, true, true, true, true, true, true, true, true, true, true, true, true, true, true, true, true, true, true, true, false, false, false, false, false, false, false, false, false, false, false, false, false, false, false, false, false, false, false] rfl rfl (by kernel_rfl) (fun _ _ _ h => h) (Or.inl ⟨by rfl, ?_⟩) ?_ ?_
  rotate_left
  · intro w'
    go_simp
    with_reducible rfl
  rotate_left
  · simp only [Act.put, List.setIfInBounds_toArray, List.set_cons_zero, List.set_cons_succ, i64_w, i32_w]
    rfl
  refine pure_ (i := 29) (N := some 68) (v := ?_) (a' := ?_) #[true, true, true, true, true, true, true, true, true, true, true, true, true, true, true, true, true, true, true, true, true, true, true, true, true, true, true, true, true, true, false, false, false, false, false, false, false, false, false, false, false, false, false, false, false, false, false, false] rfl rfl (by kernel_rfl) (fun _ _ _ h => h) (Or.inl ⟨by rfl, ?_⟩) ?_ ?_
  rotate_left
  · intro w'
    go_simp
    with_reducible rfl
  rotate_left
  · simp only [Act.put, List.setIfInBounds_toArray, List.set_cons_zero, List.set_cons_succ, i64_w, i32_w]
    rfl
  refine pure_ (i := 30) (N := some 69) (v := undef) (a' := ?_) #[true, true, true, true, true, true, true, true, true, true, true, true, true, true, true, true, true, true, true, true, true, true, true, true, true, true, true, true, true, true, true, false, false, false, false, false, false, false, false, false, false, false, false, false, false, false, false, false] rfl rfl (by kernel_rfl) (fun _ _ _ h => h) (Or.inr ⟨by rfl, rfl⟩) ?_ ?_
  rotate_left
  · simp only [Act.put, List.setIfInBounds_toArray, List.set_cons_zero, List.set_cons_succ, i64_w, i32_w]
    rfl
  refine pure_ (i := 31) (N := some 70) (v := undef) (a' := ?_) #[true, true, true, true, true, true, true, true, true, true, true, true, true, true, true, true, true, true, true, true, true, true, true, true, true, true, true, true, true, true, true, true, false, false, false, false, false, false, false, false, false, false, false, false, false, false, false, false] rfl rfl (by kernel_rfl) (fun _ _ _ h => h) (Or.inr ⟨by rfl, rfl⟩) ?_ ?_
  rotate_left
  · simp only [Act.put, List.setIfInBounds_toArray, List.set_cons_zero, List.set_cons_succ, i64_w, i32_w]
    rfl
  refine pure_ (i := 32) (N := some 71) (v := undef) (a' := ?_) #[true, true, true, true, true, true, true, true, true, true, true, true, true, true, true, true, true, true, true, true, true, true, true, true, true, true, true, true, true, true, true, true, true, false, false, false, false, false, false, false, false, false, false, false, false, false, false, false] rfl rfl (by kernel_rfl) (fun _ _ _ h => h) (Or.inr ⟨by rfl, rfl⟩) ?_ ?_
  rotate_left
  · simp only [Act.put, List.setIfInBounds_toArray, List.set_cons_zero, List.set_cons_succ, i64_w, i32_w]
    rfl
  refine pure_ (i := 33) (N := some 72) (v := undef) (a' := ?_) #[true, true, true, true, true, true, true, true, true, true, true, true, true, true, true, true, true, true, true, true, true, true, true, true, true, true, true, true, true, true, true, true, true, true, false, false, false, false, false, false, false, false, false, false, false, false, false, false] rfl rfl (by kernel_rfl) (fun _ _ _ h => h) (Or.inr ⟨by rfl, rfl⟩) ?_ ?_
  rotate_left
  · simp only [Act.put, List.setIfInBounds_toArray, List.set_cons_zero, List.set_cons_succ, i64_w, i32_w]
    rfl
  refine pure_ (i := 34) (N := some 73) (v := undef) (a' := ?_) #[true, true, true, true, true, true, true, true, true, true, true, true, true, true, true, true, true, true, true, true, true, true, true, true, true, true, true, true, true, true, true, true, true, true, true, false, false, false, false, false, false, false, false, false, false, false, false, false] rfl rfl (by kernel_rfl) (fun _ _ _ h => h) (Or.inr ⟨by rfl, rfl⟩) ?_ ?_
  rotate_left
  · simp only [Act.put, List.setIfInBounds_toArray, List.set_cons_zero, List.set_cons_succ, i64_w, i32_w]
    rfl
  refine pure_ (i := 35) (N := some 74) (v := undef) (a' := ?_) #[true, true, true, true, true, true, true, true, true, true, true, true, true, true, true, true, true, true, true, true, true, true, true, true, true, true, true, true, true, true, true, true, true, true, true, true, false, false, false, false, false, false, false, false, false, false, false, false] rfl rfl (by kernel_rfl) (fun _ _ _ h => h) (Or.inr ⟨by rfl, rfl⟩) ?_ ?_
  rotate_left
  · simp only [Act.put, List.setIfInBounds_toArray, List.set_cons_zero, List.set_cons_succ, i64_w, i32_w]
    rfl
  refine pure_ (i := 36) (N := some 75) (v := undef) (a' := ?_) #[true, true, true, true, true, true, true, true, true, true, true, true, true, true, true, true, true, true, true, true, true, true, true, true, true, true, true, true, true, true, true, true, true, true, true, true, true, false, false, false, false, false, false, false, false, false, false, false] rfl rfl (by kernel_rfl) (fun _ _ _ h => h) (Or.inr ⟨by rfl, rfl⟩) ?_ ?_
  rotate_left
  · simp only [Act.put, List.setIfInBounds_toArray, List.set_cons_zero, List.set_cons_succ, i64_w, i32_w]
    rfl
  refine pure_ (i := 37) (N := some 76) (v := undef) (a' := ?_) #[true, true, true, true, true, true, true, true, true, true, true, true, true, true, true, true, true, true, true, true, true, true, true, true, true, true, true, true, true, true, true, true, true, true, true, true, true, true, false, false, false, false, false, false, false, false, false, false] rfl rfl (by kernel_rfl) (fun _ _ _ h => h) (Or.inr ⟨by rfl, rfl⟩) ?_ ?_
  rotate_left
  · simp only [Act.put, List.setIfInBounds_toArray, List.set_cons_zero, List.set_cons_succ, i64_w, i32_w]
    rfl
  refine pure_ (i := 38) (N := some 77) (v := undef) (a' := ?_) #[true, true, true, true, true, true, true, true, true, true, true, true, true, true, true, true, true, true, true, true, true, true, true, true, true, true, true, true, true, true, true, true, true, true, true, true, true, true, true, false, false, false, false, false, false, false, false, false] rfl rfl (by kernel_rfl) (fun _ _ _ h => h) (Or.inr ⟨by rfl, rfl⟩) ?_ ?_
  rotate_left
  · simp only [Act.put, List.setIfInBounds_toArray, List.set_cons_zero, List.set_cons_succ, i64_w, i32_w]
    rfl
  refine pure_ (i := 39) (N := some 78) (v := undef) (a' := ?_) #[true, true, true, true, true, true, true, true, true, true, true, true, true, true, true, true, true, true, true, true, true, true, true, true, true, true, true, true, true, true, true, true, true, true, true, true, true, true, true, true, false, false, false, false, false, false, false, false] rfl rfl (by kernel_rfl) (fun _ _ _ h => h) (Or.inr ⟨by rfl, rfl⟩) ?_ ?_
  rotate_left
  · simp only [Act.put, List.setIfInBounds_toArray, List.set_cons_zero, List.set_cons_succ, i64_w, i32_w]
    rfl
  refine pure_ (i := 40) (N := some 79) (v := undef) (a' := ?_) #[true, true, true, true, true, true, true, true, true, true, true, true, true, true, true, true, true, true, true, true, true, true, true, true, true, true, true, true, true, true, true, true, true, true, true, true, true, true, true, true, true, false, false, false, false, false, false, false] rfl rfl (by kernel_rfl) (fun _ _ _ h => h) (Or.inr ⟨by rfl, rfl⟩) ?_ ?_
  rotate_left
  · simp only [Act.put, List.setIfInBounds_toArray, List.set_cons_zero, List.set_cons_succ, i64_w, i32_w]
    rfl
  refine pure_ (i := 41) (N := some 80) (v := undef) (a' := ?_) #[true, true, true, true, true, true, true, true, true, true, true, true, true, true, true, true, true, true, true, true, true, true, true, true, true, true, true, true, true, true, true, true, true, true, true, true, true, true, true, true, true, true, false, false, false, false, false, false] rfl rfl (by kernel_rfl) (fun _ _ _ h => h) (Or.inr ⟨by rfl, rfl⟩) ?_ ?_
  rotate_left
  · simp only [Act.put, List.setIfInBounds_toArray, List.set_cons_zero, List.set_cons_succ, i64_w, i32_w]
    rfl
  refine pure_ (i := 42) (N := some 81) (v := undef) (a' := ?_) #[true, true, true, true, true, true, true, true, true, true, true, true, true, true, true, true, true, true, true, true, true, true, true, true, true, true, true, true, true, true, true, true, true, true, true, true, true, true, true, true, true, true, true, false, false, false, false, false] rfl rfl (by kernel_rfl) (fun _ _ _ h => h) (Or.inr ⟨by rfl, rfl⟩) ?_ ?_
  rotate_left
  · simp only [Act.put, List.setIfInBounds_toArray, List.set_cons_zero, List.set_cons_succ, i64_w, i32_w]
    rfl
  refine pure_ (i := 43) (N := some 82) (v := undef) (a' := ?_) #[true, true, true, true, true, true, true, true, true, true, true, true, true, true, true, true, true, true, true, true, true, true, true, true, true, true, true, true, true, true, true, true, true, true, true, true, true, true, true, true, true, true, true, true, false, false, false, false] rfl rfl (by kernel_rfl) (fun _ _ _ h => h) (Or.inr ⟨by rfl, rfl⟩) ?_ ?_
  rotate_left
  · simp only [Act.put, List.setIfInBounds_toArray, List.set_cons_zero, List.set_cons_succ, i64_w, i32_w]
    rfl
  refine pure_ (i := 44) (N := some 83) (v := undef) (a' := ?_) #[true, true, true, true, true, true, true, true, true, true, true, true, true, true, true, true, true, true, true, true, true, true, true, true, true, true, true, true, true, true, true, true, true, true, true, true, true, true, true, true, true, true, true, true, true, false, false, false] rfl rfl (by kernel_rfl) (fun _ _ _ h => h) (Or.inr ⟨by rfl, rfl⟩) ?_ ?_
  rotate_left
  · simp only [Act.put, List.setIfInBounds_toArray, List.set_cons_zero, List.set_cons_succ, i64_w, i32_w]
    rfl
  refine pure_ (i := 45) (N := some 84) (v := undef) (a' := ?_) #[true, true, true, true, true, true, true, true, true, true, true, true, true, true, true, true, true, true, true, true, true, true, true, true, true, true, true, true, true, true, true, true, true, true, true, true, true, true, true, true, true, true, true, true, true, true, false, false] rfl rfl (by kernel_rfl) (fun _ _ _ h => h) (Or.inr ⟨by rfl, rfl⟩) ?_ ?_
  rotate_left
  · simp only [Act.put, List.setIfInBounds_toArray, List.set_cons_zero, List.set_cons_succ, i64_w, i32_w]
    rfl
  refine pure_ (i := 46) (N := some 85) (v := ?_) (a' := ?_) #[true, true, true, true, true, true, true, true, true, true, true, true, true, true, true, true, true, true, true, true, true, true, true, true, true, true, true, true, true, true, true, true, true, true, true, true, true, true, true, true, true, true, true, true, true, true, true, false] rfl rfl (by kernel_rfl) (fun _ _ _ h => h) (Or.inl ⟨by rfl, ?_⟩) ?_ ?_
  rotate_left
  · intro w'
    go_simp
    with_reducible rfl
  rotate_left
  · simp only [Act.put, List.setIfInBounds_toArray, List.set_cons_zero, List.set_cons_succ, i64_w, i32_w]
    rfl
  refine pure_ (i := 47) (N := some 12) (v := ?_) (a' := ?_) #[true, true, true, true, true, true, true, true, true, true, true, true, true, true, true, true, true, true, true, true, true, true, true, true, true, true, true, true, true, true, true, true, true, true, true, true, true, true, true, true, true, true, true, true, true, true, true, true] rfl rfl (by kernel_rfl) (fun _ _ _ h => h) (Or.inl ⟨by rfl, ?_⟩) ?_ ?_
  rotate_left
  · intro w'
    go_simp
    with_reducible rfl
  rotate_left
  · simp only [Act.put, List.setIfInBounds_toArray, List.set_cons_zero, List.set_cons_succ, i64_w, i32_w]
    rfl
  refine done_ (by kernel_rfl) ?_
  have P4x := (b4.block w.heap.size (by simp; omega)).trans (show (w3.alloc (.cells #[.int .i64 k, .int .i64 v, .int .i64 x2, .int .i64 y2, .int .i64 s2, .int .i64 g2] 41)).drew.heap[w.heap.size]? = some (.cells #[.int .i64 t, .int .i64 u] 80 (0, 0)) from P3.out)
  have P5x := (b5.block w.heap.size (by omega)).trans P4x
  have P6x := FRR6.out.keep P5x HMB.out
  have PZ := Lib.hid P6x
  have FZ := Lib.hid F6.out
  have x0 := cell_blk (i := 0) PZ.out rfl
  have x1 := cell_blk (i := 1) PZ.out rfl
  have hltz : w.heap.size < (w6).heap.size := (Array.getElem?_eq_some_iff.1 PZ.out).1
  go_wp2_with (at_mapUpdate; refine wpList_mapUpdate_own _ rfl _ _ _ 81 rfl 80 3 snd_law Try.underlying81 _ mb (n6) (D6) rfl M6.out (by have := HB.out; unfold maxLen; omega) _ _ kl rfl rfl HKL.out _ [] (plainElem_int Try.underlying3 (wf64 (t := 2) (by omega) (by omega))) ?_; intro w20 hm20 hg20; have M20 := Lib.hid (show MapOf w20 mb (n6 + 1) ((D6).put kl (.lit (.int .i64 2))) from hm20); have P20 := Lib.hid ((hg20.block w.heap.size (Array.getElem?_eq_some_iff.1 PZ.out).1 (fun e => absurd (Option.some.inj e) HMB.out)).trans PZ.out); have F20 := Lib.hid (FZ.out.next ⟨hg20.os, hg20.tape, hg20.output, hg20.size, fun b hb hn => hg20.block b hb (fun e => hn (Option.some.inj e))⟩); have hl20 : w.heap.size < w20.heap.size := (Array.getElem?_eq_some_iff.1 P20.out).1; have x0 := cell_blk (i := 0) P20.out rfl; have x1 := cell_blk (i := 1) P20.out rfl; clear hm20 hg20)
  go_ret
  exact ⟨by (rw [HDEC.out]; first | done | rfl), ⟨_, _, M20.out, (I6.out.x (some kl)).done (World.ownsMap.isMap M6.out) HKL.out HT.out HU.out HC2.out, by have := HB.out; omega⟩, F20.out⟩

set_option maxRecDepth 100000 in
set_option maxHeartbeats 4000000 in
theorem same_tf {a : Ar} {w : World} {p : Nat} {F : Nat → Prop} {mb n : Nat} {D : DU} (ho : OAt w (some ⟨p, 0, none⟩) (some a) F) (hm : MapOf w mb n D) (hi : MInv a D) {t u : Int} (htu : t ≠ u) {l m : List Pr} (ht : Tr a t l) (hu : Tr a u m) (kl : Lit) (hkl : keyP t u = some kl) (hrun : (Instr.lookup 81 (.map (some mb)) (.agg #[.int .i64 t, .int .i64 u]) false).run Try.prog (w.alloc (.cells #[.int .i64 t, .int .i64 u] 80)) = .ok (.int .i64 0) (w.alloc (.cells #[.int .i64 t, .int .i64 u] 80))) {k v x y s1 g1 x2 y2 s2 g2 : Int} (hn1 : isN (some a) t = true) (hn2 : isN (some a) u = true) (hg1 : getN (some a) t = ⟨k, v, x, y, s1, g1⟩) (hg2 : getN (some a) u = ⟨k, v, x2, y2, s2, g2⟩) {l1 l2 m1 m2 : List Pr} (tx : Tr a x l1) (ty : Tr a y l2) (tx2 : Tr a x2 m1) (ty2 : Tr a y2 m2) (hx : x < t) (hy : y < t) (hx2 : x2 < u) (hy2 : y2 < u)
    (ih1 : ∀ (w : World) (p : Nat) (F : Nat → Prop) (mb n : Nat) (D : DU), OAt w (some ⟨p, 0, none⟩) (some a) F → MapOf w mb n D → ¬ F mb → MInv a D → n + (4 * l1.length + 2) ≤ 1000000 → Calls Try.prog 42 #[.pointer (some ⟨p, 0, none⟩), .agg #[.int .i64 x, .int .i64 x2], .map (some mb)] w (SamePost a w mb (n + (4 * l1.length + 2)) l1 m1))
    (ih2 : ∀ (w : World) (p : Nat) (F : Nat → Prop) (mb n : Nat) (D : DU), OAt w (some ⟨p, 0, none⟩) (some a) F → MapOf w mb n D → ¬ F mb → MInv a D → n + (4 * l2.length + 2) ≤ 1000000 → Calls Try.prog 42 #[.pointer (some ⟨p, 0, none⟩), .agg #[.int .i64 y, .int .i64 y2], .map (some mb)] w (SamePost a w mb (n + (4 * l2.length + 2)) l2 m2))
    (hck : ¬ F mb) (hb : n + (4 * l1.length + 2) + (4 * l2.length + 2) + 2 ≤ 1000000) (hd1 : decide (l1 = m1) = true) (hd2 : decide (l2 = m2) = false) (hne : l ≠ m) :
    Calls Try.prog 42 #[.pointer (some ⟨p, 0, none⟩), .agg #[.int .i64 t, .int .i64 u], .map (some mb)] w (SamePost a w mb (n + (4 * l1.length + 2) + (4 * l2.length + 2) + 2) l m) := by
  have HDEC := Lib.hid (show decide (l = m) = false from decide_eq_false hne)
  have HC2 := Lib.hid (show (2 : Int) = 1 ↔ l = m from ⟨fun e => absurd e (by decide), fun e => absurd e hne⟩)
  clear hne
  have HG1 := Lib.hid hg1; have HG2 := Lib.hid hg2; have HN1 := Lib.hid hn1; have HN2 := Lib.hid hn2
  clear hg1 hg2 hn1 hn2
  have TX := Lib.hid tx; have TY := Lib.hid ty; have TX2 := Lib.hid tx2; have TY2 := Lib.hid ty2; have LX := Lib.hid hx; have LY := Lib.hid hy; have LX2 := Lib.hid hx2; have LY2 := Lib.hid hy2
  have IH1 := Lib.hid ih1; have IH2 := Lib.hid ih2; have HCK := Lib.hid hck; have HD1 := Lib.hid hd1
  clear tx ty tx2 ty2 hx hy hx2 hy2 ih1 ih2 hck hd1
  have qk := beq_self_eq_true k
  have qv := beq_self_eq_true v
  have HLM := Lib.hid (World.ownsMap.lt hm)
  have HD2 := Lib.hid hd2; clear hd2
  have HKL := Lib.hid hkl; have HT := Lib.hid ht; have HU := Lib.hid hu; have HB := Lib.hid hb
  have q0 : (t == u) = false := beq_eq_false_iff_ne.2 htu
  clear htu hkl hb
  have PX0 : (w.alloc (.cells #[.int .i64 t, .int .i64 u] 80)).heap[w.heap.size]? = some (.cells #[.int .i64 t, .int .i64 u] 80 (0, 0)) := heap_alloc_new w (.cells #[.int .i64 t, .int .i64 u] 80)
  have P0 := Lib.hid PX0; clear PX0
  have B0 := Lib.hid ((Below.refl w.heap.size w).alloc (Nat.le_refl _) (.cells #[.int .i64 t, .int .i64 u] 80))
  have O0 := Lib.hid (ho.below B0.out)
  have M0 := Lib.hid (MapOf.below hm B0.out)
  have F0 := Lib.hid (Frame.of_below (F := Only mb) B0.out)
  have HMB := Lib.hid (show w.heap.size ≠ mb from fun e => by have := World.ownsMap.lt hm; omega)
  have HI := Lib.hid hi
  clear hm hi ho
  go_enter Try.func42, Try.ntmps42
  have hg1 := get_any O0.out t
  rw [HN1.out, HG1.out] at hg1
  have G1 := Lib.hid hg1; clear hg1
  go_wp2_with fail
  refine G1.out.mono ?_
  rintro e w2 ⟨rfl, b2⟩
  have z2 := b2.size
  simp at z2
  have P2 := Lib.hid ((b2.block w.heap.size (by simp)).trans P0.out)
  have B2a := Lib.hid (b2.trans (((Below.refl w2.heap.size w2).alloc (Nat.le_refl _) (.cells #[.int .i64 k, .int .i64 v, .int .i64 x, .int .i64 y, .int .i64 s1, .int .i64 g1] 41)).mono b2.size))
  have O2 := Lib.hid (O0.out.below B2a.out)
  have N2 := Lib.hid (heap_alloc_new w2 (.cells #[.int .i64 k, .int .i64 v, .int .i64 x, .int .i64 y, .int .i64 s1, .int .i64 g1] 41))
  clear b2
  have hg2 := get_any O2.out u
  rw [HN2.out, HG2.out] at hg2
  have G2 := Lib.hid hg2; clear hg2
  have q2 := cell_blk (i := 1) (w := w2) P2.out rfl
  have hlt2 : w.heap.size < w2.heap.size := by omega
  go_wp2_with fail
  refine G2.out.mono ?_
  rintro e w3 ⟨rfl, b3⟩
  have z3 := b3.size
  simp at z3
  have b3c := b3.trans (((Below.refl w3.heap.size w3).alloc (Nat.le_refl _) (.cells #[.int .i64 k, .int .i64 v, .int .i64 x2, .int .i64 y2, .int .i64 s2, .int .i64 g2] 41)).mono b3.size)
  have B3 := Lib.hid (B2a.out.trans (b3c.mono B2a.out.size))
  have O3 := Lib.hid (O0.out.below B3.out)
  have M3 := Lib.hid (MapOf.below M0.out B3.out)
  have F3 := Lib.hid (F0.out.next (Frame.of_below B3.out))
  have P3 := Lib.hid ((b3c.block w.heap.size (by simp; omega)).trans (((Below.refl w2.heap.size w2).alloc (Nat.le_refl _) (.cells #[.int .i64 k, .int .i64 v, .int .i64 x, .int .i64 y, .int .i64 s1, .int .i64 g1] 41)).block w.heap.size hlt2 |>.trans P2.out))
  have N3 := Lib.hid ((b3c.block w2.heap.size (by simp)).trans N2.out)
  have U3 := Lib.hid (heap_alloc_new w3 (.cells #[.int .i64 k, .int .i64 v, .int .i64 x2, .int .i64 y2, .int .i64 s2, .int .i64 g2] 41))
  have hlt3 : w2.heap.size < w3.heap.size := by omega
  clear b3 b3c q2
  have x0w := True.intro
  go_wp2_with fail
  have O3d := Lib.hid (show OAt (w3.alloc (.cells #[.int .i64 k, .int .i64 v, .int .i64 x2, .int .i64 y2, .int .i64 s2, .int .i64 g2] 41)).drew (some ⟨p, 0, none⟩) (some a) F from O3.out.below ⟨rfl, rfl, rfl, Nat.le_refl _, fun _ _ => rfl⟩)
  have M3d := Lib.hid (show MapOf (w3.alloc (.cells #[.int .i64 k, .int .i64 v, .int .i64 x2, .int .i64 y2, .int .i64 s2, .int .i64 g2] 41)).drew mb n D from M3.out)
  have F3d := Lib.hid (show Frame (Only mb) w (w3.alloc (.cells #[.int .i64 k, .int .i64 v, .int .i64 x2, .int .i64 y2, .int .i64 s2, .int .i64 g2] 41)).drew from F3.out.next ⟨rfl, rfl, rfl, Nat.le_refl _, fun _ _ _ => rfl⟩)
  have HM2 := Lib.hid (show w2.heap.size ≠ mb from by have := HLM.out; omega)
  have HM3 := Lib.hid (show w3.heap.size ≠ mb from by have := HLM.out; omega)
  refine start_ (n := 48) (S := fun w' => w'.cell? ⟨w.heap.size, 0, none⟩ = some (.int .i64 t) ∧ w'.cell? ⟨w.heap.size, 1, none⟩ = some (.int .i64 u) ∧ w'.cell? ⟨w2.heap.size, 0, none⟩ = some (.int .i64 k) ∧ w'.cell? ⟨w2.heap.size, 1, none⟩ = some (.int .i64 v) ∧ w'.cell? ⟨w2.heap.size, 2, none⟩ = some (.int .i64 x) ∧ w'.cell? ⟨w2.heap.size, 3, none⟩ = some (.int .i64 y) ∧ w'.cell? ⟨w3.heap.size, 0, none⟩ = some (.int .i64 k) ∧ w'.cell? ⟨w3.heap.size, 1, none⟩ = some (.int .i64 v) ∧ w'.cell? ⟨w3.heap.size, 2, none⟩ = some (.int .i64 x2) ∧ w'.cell? ⟨w3.heap.size, 3, none⟩ = some (.int .i64 y2)) (ds := []) #[false, false, false, false, false, false, false, false, false, false, false, false, false, false, false, false, false, false, false, false, false, false, false, false, false, false, false, false, false, false, false, false, false, false, false, false, false, false, false, false, false, false, false, false, false, false, false, false] (by kernel_rfl) rfl rfl ⟨(cell_blk (i := 0) (w := (w3.alloc (.cells #[.int .i64 k, .int .i64 v, .int .i64 x2, .int .i64 y2, .int .i64 s2, .int .i64 g2] 41)).drew) P3.out rfl), (cell_blk (i := 1) (w := (w3.alloc (.cells #[.int .i64 k, .int .i64 v, .int .i64 x2, .int .i64 y2, .int .i64 s2, .int .i64 g2] 41)).drew) P3.out rfl), (cell_blk (i := 0) (w := (w3.alloc (.cells #[.int .i64 k, .int .i64 v, .int .i64 x2, .int .i64 y2, .int .i64 s2, .int .i64 g2] 41)).drew) N3.out rfl), (cell_blk (i := 1) (w := (w3.alloc (.cells #[.int .i64 k, .int .i64 v, .int .i64 x2, .int .i64 y2, .int .i64 s2, .int .i64 g2] 41)).drew) N3.out rfl), (cell_blk (i := 2) (w := (w3.alloc (.cells #[.int .i64 k, .int .i64 v, .int .i64 x2, .int .i64 y2, .int .i64 s2, .int .i64 g2] 41)).drew) N3.out rfl), (cell_blk (i := 3) (w := (w3.alloc (.cells #[.int .i64 k, .int .i64 v, .int .i64 x2, .int .i64 y2, .int .i64 s2, .int .i64 g2] 41)).drew) N3.out rfl), (cell_blk (i := 0) (w := (w3.alloc (.cells #[.int .i64 k, .int .i64 v, .int .i64 x2, .int .i64 y2, .int .i64 s2, .int .i64 g2] 41)).drew) U3.out rfl), (cell_blk (i := 1) (w := (w3.alloc (.cells #[.int .i64 k, .int .i64 v, .int .i64 x2, .int .i64 y2, .int .i64 s2, .int .i64 g2] 41)).drew) U3.out rfl), (cell_blk (i := 2) (w := (w3.alloc (.cells #[.int .i64 k, .int .i64 v, .int .i64 x2, .int .i64 y2, .int .i64 s2, .int .i64 g2] 41)).drew) U3.out rfl), (cell_blk (i := 3) (w := (w3.alloc (.cells #[.int .i64 k, .int .i64 v, .int .i64 x2, .int .i64 y2, .int .i64 s2, .int .i64 g2] 41)).drew) U3.out rfl)⟩ (fun hHeld => ?_)
  refine pure_ (i := 0) (N := some 39) (v := ?_) (a' := ?_) #[true, false, false, false, false, false, false, false, false, false, false, false, false, false, false, false, false, false, false, false, false, false, false, false, false, false, false, false, false, false, false, false, false, false, false, false, false, false, false, false, false, false, false, false, false, false, false, false] rfl rfl (by kernel_rfl) (fun _ _ _ h => h) (Or.inl ⟨by rfl, ?_⟩) ?_ ?_
  rotate_left
  · intro w'
    go_simp
    with_reducible rfl
  rotate_left
  · simp only [Act.put, List.setIfInBounds_toArray, List.set_cons_zero, List.set_cons_succ, i64_w, i32_w]
    rfl
  refine pure_ (i := 1) (N := some 40) (v := ?_) (a' := ?_) #[true, true, false, false, false, false, false, false, false, false, false, false, false, false, false, false, false, false, false, false, false, false, false, false, false, false, false, false, false, false, false, false, false, false, false, false, false, false, false, false, false, false, false, false, false, false, false, false] rfl rfl (by kernel_rfl) (fun _ _ _ h => h) (Or.inl ⟨by rfl, ?_⟩) ?_ ?_
  rotate_left
  · intro w'
    go_simp
    with_reducible rfl
  rotate_left
  · simp only [Act.put, List.setIfInBounds_toArray, List.set_cons_zero, List.set_cons_succ, i64_w, i32_w]
    rfl
  refine pure_ (i := 2) (N := some 41) (v := ?_) (a' := ?_) #[true, true, true, false, false, false, false, false, false, false, false, false, false, false, false, false, false, false, false, false, false, false, false, false, false, false, false, false, false, false, false, false, false, false, false, false, false, false, false, false, false, false, false, false, false, false, false, false] rfl rfl (by kernel_rfl) (fun _ _ _ h => h) (Or.inl ⟨by rfl, ?_⟩) ?_ ?_
  rotate_left
  · intro w'
    go_simp
    with_reducible rfl
  rotate_left
  · simp only [Act.put, List.setIfInBounds_toArray, List.set_cons_zero, List.set_cons_succ, i64_w, i32_w]
    rfl
  refine pure_ (i := 3) (N := some 42) (v := ?_) (a' := ?_) #[true, true, true, true, false, false, false, false, false, false, false, false, false, false, false, false, false, false, false, false, false, false, false, false, false, false, false, false, false, false, false, false, false, false, false, false, false, false, false, false, false, false, false, false, false, false, false, false] rfl rfl (by kernel_rfl) (fun _ _ _ h => h) (Or.inl ⟨by rfl, ?_⟩) ?_ ?_
  rotate_left
  · intro w'
    go_simp
    with_reducible rfl
  rotate_left
  · simp only [Act.put, List.setIfInBounds_toArray, List.set_cons_zero, List.set_cons_succ, i64_w, i32_w]
    rfl
  refine pure_ (i := 4) (N := some 43) (v := ?_) (a' := ?_) #[true, true, true, true, true, false, false, false, false, false, false, false, false, false, false, false, false, false, false, false, false, false, false, false, false, false, false, false, false, false, false, false, false, false, false, false, false, false, false, false, false, false, false, false, false, false, false, false] rfl rfl (by kernel_rfl) (fun _ _ _ h => h) (Or.inl ⟨by rfl, ?_⟩) ?_ ?_
  rotate_left
  · intro w'
    go_simp
    with_reducible rfl
  rotate_left
  · simp only [Act.put, List.setIfInBounds_toArray, List.set_cons_zero, List.set_cons_succ, i64_w, i32_w]
    rfl
  refine pure_ (i := 5) (N := some 44) (v := ?_) (a' := ?_) #[true, true, true, true, true, true, false, false, false, false, false, false, false, false, false, false, false, false, false, false, false, false, false, false, false, false, false, false, false, false, false, false, false, false, false, false, false, false, false, false, false, false, false, false, false, false, false, false] rfl rfl (by kernel_rfl) (fun _ _ _ h => h) (Or.inl ⟨by rfl, ?_⟩) ?_ ?_
  rotate_left
  · intro w'
    go_simp
    with_reducible rfl
  rotate_left
  · simp only [Act.put, List.setIfInBounds_toArray, List.set_cons_zero, List.set_cons_succ, i64_w, i32_w]
    rfl
  refine pure_ (i := 7) (N := some 46) (v := ?_) (a' := ?_) #[true, true, true, true, true, true, false, true, false, false, false, false, false, false, false, false, false, false, false, false, false, false, false, false, false, false, false, false, false, false, false, false, false, false, false, false, false, false, false, false, false, false, false, false, false, false, false, false] rfl rfl (by kernel_rfl) (fun _ _ _ h => h) (Or.inl ⟨by rfl, ?_⟩) ?_ ?_
  rotate_left
  · intro w'
    go_simp
    with_reducible rfl
  rotate_left
  · simp only [Act.put, List.setIfInBounds_toArray, List.set_cons_zero, List.set_cons_succ, i64_w, i32_w]
    rfl
  refine take_ (i := 6) (N := some 45) (v := ?_) (a' := ?_) #[true, true, true, true, true, true, true, true, false, false, false, false, false, false, false, false, false, false, false, false, false, false, false, false, false, false, false, false, false, false, false, false, false, false, false, false, false, false, false, false, false, false, false, false, false, false, false, false] rfl rfl (by kernel_rfl) (fun _ _ _ h => h) (Or.inl ⟨by rfl, ?_⟩) hHeld ?_ ?_
  rotate_left
  · rintro w' ⟨s0, s1, s2, s3, s4, s5, s6, s7, s8, s9⟩
    go_simp
    with_reducible rfl
  rotate_left
  · simp only [Act.put, List.setIfInBounds_toArray, List.set_cons_zero, List.set_cons_succ, i64_w, i32_w]
    rfl
  refine take_ (i := 8) (N := some 47) (v := ?_) (a' := ?_) #[true, true, true, true, true, true, true, true, true, false, false, false, false, false, false, false, false, false, false, false, false, false, false, false, false, false, false, false, false, false, false, false, false, false, false, false, false, false, false, false, false, false, false, false, false, false, false, false] rfl rfl (by kernel_rfl) (fun _ _ _ h => h) (Or.inl ⟨by rfl, ?_⟩) hHeld ?_ ?_
  rotate_left
  · rintro w' ⟨s0, s1, s2, s3, s4, s5, s6, s7, s8, s9⟩
    go_simp
    with_reducible rfl
  rotate_left
  · simp only [Act.put, List.setIfInBounds_toArray, List.set_cons_zero, List.set_cons_succ, i64_w, i32_w]
    rfl
  refine pure_ (i := 9) (N := some 48) (v := ?_) (a' := ?_) #[true, true, true, true, true, true, true, true, true, true, false, false, false, false, false, false, false, false, false, false, false, false, false, false, false, false, false, false, false, false, false, false, false, false, false, false, false, false, false, false, false, false, false, false, false, false, false, false] rfl rfl (by kernel_rfl) (fun _ _ _ h => h) (Or.inl ⟨by rfl, ?_⟩) ?_ ?_
  rotate_left
  · intro w'
    go_simp
    with_reducible rfl
  rotate_left
  · simp only [Act.put, List.setIfInBounds_toArray, List.set_cons_zero, List.set_cons_succ, i64_w, i32_w]
    rfl
  refine pure_ (i := 10) (N := some 49) (v := ?_) (a' := ?_) #[true, true, true, true, true, true, true, true, true, true, true, false, false, false, false, false, false, false, false, false, false, false, false, false, false, false, false, false, false, false, false, false, false, false, false, false, false, false, false, false, false, false, false, false, false, false, false, false] rfl rfl (by kernel_rfl) (fun _ _ _ h => h) (Or.inl ⟨by rfl, ?_⟩) ?_ ?_
  rotate_left
  · intro w'
    go_simp
    with_reducible rfl
  rotate_left
  · simp only [Act.put, List.setIfInBounds_toArray, List.set_cons_zero, List.set_cons_succ, i64_w, i32_w]
    rfl
  refine pure_ (i := 11) (N := some 50) (v := ?_) (a' := ?_) #[true, true, true, true, true, true, true, true, true, true, true, true, false, false, false, false, false, false, false, false, false, false, false, false, false, false, false, false, false, false, false, false, false, false, false, false, false, false, false, false, false, false, false, false, false, false, false, false] rfl rfl (by kernel_rfl) (fun _ _ _ h => h) (Or.inl ⟨by rfl, ?_⟩) ?_ ?_
  rotate_left
  · intro w'
    go_simp
    with_reducible rfl
  rotate_left
  · simp only [Act.put, List.setIfInBounds_toArray, List.set_cons_zero, List.set_cons_succ, i64_w, i32_w]
    rfl
  refine pure_ (i := 12) (N := some 51) (v := ?_) (a' := ?_) #[true, true, true, true, true, true, true, true, true, true, true, true, true, false, false, false, false, false, false, false, false, false, false, false, false, false, false, false, false, false, false, false, false, false, false, false, false, false, false, false, false, false, false, false, false, false, false, false] rfl rfl (by kernel_rfl) (fun _ _ _ h => h) (Or.inl ⟨by rfl, ?_⟩) ?_ ?_
  rotate_left
  · intro w'
    go_simp
    with_reducible rfl
  rotate_left
  · simp only [Act.put, List.setIfInBounds_toArray, List.set_cons_zero, List.set_cons_succ, i64_w, i32_w]
    rfl
  refine pure_ (i := 13) (N := some 52) (v := ?_) (a' := ?_) #[true, true, true, true, true, true, true, true, true, true, true, true, true, true, false, false, false, false, false, false, false, false, false, false, false, false, false, false, false, false, false, false, false, false, false, false, false, false, false, false, false, false, false, false, false, false, false, false] rfl rfl (by kernel_rfl) (fun _ _ _ h => h) (Or.inl ⟨by rfl, ?_⟩) ?_ ?_
  rotate_left
  · intro w'
    go_simp
    with_reducible rfl
  rotate_left
  · simp only [Act.put, List.setIfInBounds_toArray, List.set_cons_zero, List.set_cons_succ, i64_w, i32_w]
    rfl
  refine pure_ (i := 14) (N := some 53) (v := ?_) (a' := ?_) #[true, true, true, true, true, true, true, true, true, true, true, true, true, true, true, false, false, false, false, false, false, false, false, false, false, false, false, false, false, false, false, false, false, false, false, false, false, false, false, false, false, false, false, false, false, false, false, false] rfl rfl (by kernel_rfl) (fun _ _ _ h => h) (Or.inl ⟨by rfl, ?_⟩) ?_ ?_
  rotate_left
  · intro w'
    go_simp
    with_reducible rfl
  rotate_left
  · simp only [Act.put, List.setIfInBounds_toArray, List.set_cons_zero, List.set_cons_succ, i64_w, i32_w]
    rfl
  refine pure_ (i := 16) (N := some 55) (v := ?_) (a' := ?_) #[true, true, true, true, true, true, true, true, true, true, true, true, true, true, true, false, true, false, false, false, false, false, false, false, false, false, false, false, false, false, false, false, false, false, false, false, false, false, false, false, false, false, false, false, false, false, false, false] rfl rfl (by kernel_rfl) (fun _ _ _ h => h) (Or.inl ⟨by rfl, ?_⟩) ?_ ?_
  rotate_left
  · intro w'
    go_simp
    with_reducible rfl
  rotate_left
  · simp only [Act.put, List.setIfInBounds_toArray, List.set_cons_zero, List.set_cons_succ, i64_w, i32_w]
    rfl
  refine pure_ (i := 19) (N := some 58) (v := ?_) (a' := ?_) #[true, true, true, true, true, true, true, true, true, true, true, true, true, true, true, false, true, false, false, true, false, false, false, false, false, false, false, false, false, false, false, false, false, false, false, false, false, false, false, false, false, false, false, false, false, false, false, false] rfl rfl (by kernel_rfl) (fun _ _ _ h => h) (Or.inl ⟨by rfl, ?_⟩) ?_ ?_
  rotate_left
  · intro w'
    go_simp
    with_reducible rfl
  rotate_left
  · simp only [Act.put, List.setIfInBounds_toArray, List.set_cons_zero, List.set_cons_succ, i64_w, i32_w]
    rfl
  refine pure_ (i := 20) (N := some 59) (v := ?_) (a' := ?_) #[true, true, true, true, true, true, true, true, true, true, true, true, true, true, true, false, true, false, false, true, true, false, false, false, false, false, false, false, false, false, false, false, false, false, false, false, false, false, false, false, false, false, false, false, false, false, false, false] rfl rfl (by kernel_rfl) (fun _ _ _ h => h) (Or.inl ⟨by rfl, ?_⟩) ?_ ?_
  rotate_left
  · intro w'
    go_simp
    with_reducible rfl
  rotate_left
  · simp only [Act.put, List.setIfInBounds_toArray, List.set_cons_zero, List.set_cons_succ, i64_w, i32_w]
    rfl
  refine pure_ (i := 22) (N := some 61) (v := ?_) (a' := ?_) #[true, true, true, true, true, true, true, true, true, true, true, true, true, true, true, false, true, false, false, true, true, false, true, false, false, false, false, false, false, false, false, false, false, false, false, false, false, false, false, false, false, false, false, false, false, false, false, false] rfl rfl (by kernel_rfl) (fun _ _ _ h => h) (Or.inl ⟨by rfl, ?_⟩) ?_ ?_
  rotate_left
  · intro w'
    go_simp
    with_reducible rfl
  rotate_left
  · simp only [Act.put, List.setIfInBounds_toArray, List.set_cons_zero, List.set_cons_succ, i64_w, i32_w]
    rfl
  refine pure_ (i := 26) (N := some 65) (v := ?_) (a' := ?_) #[true, true, true, true, true, true, true, true, true, true, true, true, true, true, true, false, true, false, false, true, true, false, true, false, false, false, true, false, false, false, false, false, false, false, false, false, false, false, false, false, false, false, false, false, false, false, false, false] rfl rfl (by kernel_rfl) (fun _ _ _ h => h) (Or.inl ⟨by rfl, ?_⟩) ?_ ?_
  rotate_left
  · intro w'
    go_simp
    with_reducible rfl
  rotate_left
  · simp only [Act.put, List.setIfInBounds_toArray, List.set_cons_zero, List.set_cons_succ, i64_w, i32_w]
    rfl
  refine take_ (i := 15) (N := some 54) (v := ?_) (a' := ?_) #[true, true, true, true, true, true, true, true, true, true, true, true, true, true, true, true, true, false, false, true, true, false, true, false, false, false, true, false, false, false, false, false, false, false, false, false, false, false, false, false, false, false, false, false, false, false, false, false] rfl rfl (by kernel_rfl) (fun _ _ _ h => h) (Or.inl ⟨by rfl, ?_⟩) hHeld ?_ ?_
  rotate_left
  · rintro w' ⟨s0, s1, s2, s3, s4, s5, s6, s7, s8, s9⟩
    go_simp
    with_reducible rfl
  rotate_left
  · simp only [Act.put, List.setIfInBounds_toArray, List.set_cons_zero, List.set_cons_succ, i64_w, i32_w]
    rfl
  refine take_ (i := 17) (N := some 56) (v := ?_) (a' := ?_) #[true, true, true, true, true, true, true, true, true, true, true, true, true, true, true, true, true, true, false, true, true, false, true, false, false, false, true, false, false, false, false, false, false, false, false, false, false, false, false, false, false, false, false, false, false, false, false, false] rfl rfl (by kernel_rfl) (fun _ _ _ h => h) (Or.inl ⟨by rfl, ?_⟩) hHeld ?_ ?_
  rotate_left
  · rintro w' ⟨s0, s1, s2, s3, s4, s5, s6, s7, s8, s9⟩
    go_simp
    with_reducible rfl
  rotate_left
  · simp only [Act.put, List.setIfInBounds_toArray, List.set_cons_zero, List.set_cons_succ, i64_w, i32_w]
    rfl
  refine take_ (i := 21) (N := some 60) (v := ?_) (a' := ?_) #[true, true, true, true, true, true, true, true, true, true, true, true, true, true, true, true, true, true, false, true, true, true, true, false, false, false, true, false, false, false, false, false, false, false, false, false, false, false, false, false, false, false, false, false, false, false, false, false] rfl rfl (by kernel_rfl) (fun _ _ _ h => h) (Or.inl ⟨by rfl, ?_⟩) hHeld ?_ ?_
  rotate_left
  · rintro w' ⟨s0, s1, s2, s3, s4, s5, s6, s7, s8, s9⟩
    go_simp
    with_reducible rfl
  rotate_left
  · simp only [Act.put, List.setIfInBounds_toArray, List.set_cons_zero, List.set_cons_succ, i64_w, i32_w]
    rfl
  refine take_ (i := 23) (N := some 62) (v := ?_) (a' := ?_) #[true, true, true, true, true, true, true, true, true, true, true, true, true, true, true, true, true, true, false, true, true, true, true, true, false, false, true, false, false, false, false, false, false, false, false, false, false, false, false, false, false, false, false, false, false, false, false, false] rfl rfl (by kernel_rfl) (fun _ _ _ h => h) (Or.inl ⟨by rfl, ?_⟩) hHeld ?_ ?_
  rotate_left
  · rintro w' ⟨s0, s1, s2, s3, s4, s5, s6, s7, s8, s9⟩
    go_simp
    with_reducible rfl
  rotate_left
  · simp only [Act.put, List.setIfInBounds_toArray, List.set_cons_zero, List.set_cons_succ, i64_w, i32_w]
    rfl
  refine one_ (i := 18) (N := some 57) #[true, true, true, true, true, true, true, true, true, true, true, true, true, true, true, true, true, true, true, true, true, true, true, true, false, false, true, false, false, false, false, false, false, false, false, false, false, false, false, false, false, false, false, false, false, false, false, false] rfl rfl (by kernel_rfl) (by decide) (fun K hK => ?_)
  have ch := hang_sound O3d.out t x
  rw [hang_tr TX.out LX.out] at ch
  have CH := Lib.hid ch; clear ch
  refine goes_ Try.func63 (by kernel_rfl) rfl #[.pointer (some ⟨p, 0, none⟩), .int .i64 t, .int .i64 x] (by rfl) rfl rfl (by simp only [List.map_toArray, List.map_cons, List.map_nil]; rfl) ?_
  with_reducible refine (CH.out).mono ?_
  rintro e w4 ⟨rfl, b4⟩
  refine ⟨_, rfl, ?_⟩
  have z4 := b4.size
  try simp at z4
  have O4 := Lib.hid (O3d.out.below b4)
  have M4 := Lib.hid (MapOf.below M3d.out b4)
  have F4 := Lib.hid (F3d.out.next (Frame.of_below b4))
  refine hK.out _ _ ⟨((b4.cell (by first | omega | (simp; done) | (simp; omega))).trans hHeld.1), ((b4.cell (by first | omega | (simp; done) | (simp; omega))).trans hHeld.2.1), ((b4.cell (by first | omega | (simp; done) | (simp; omega))).trans hHeld.2.2.1), ((b4.cell (by first | omega | (simp; done) | (simp; omega))).trans hHeld.2.2.2.1), ((b4.cell (by first | omega | (simp; done) | (simp; omega))).trans hHeld.2.2.2.2.1), ((b4.cell (by first | omega | (simp; done) | (simp; omega))).trans hHeld.2.2.2.2.2.1), ((b4.cell (by first | omega | (simp; done) | (simp; omega))).trans hHeld.2.2.2.2.2.2.1), ((b4.cell (by first | omega | (simp; done) | (simp; omega))).trans hHeld.2.2.2.2.2.2.2.1), ((b4.cell (by first | omega | (simp; done) | (simp; omega))).trans hHeld.2.2.2.2.2.2.2.2.1), ((b4.cell (by first | omega | (simp; done) | (simp; omega))).trans hHeld.2.2.2.2.2.2.2.2.2)⟩ (fun hHeld => ?_)
  clear hK K
  refine norm_ (a' := ?_) ?_ ?_
  rotate_left
  · show Act.put _ (some 57) _ = _
    simp only [Act.put, List.setIfInBounds_toArray, List.set_cons_zero, List.set_cons_succ, i64_w, i32_w]
    rfl
  refine one_ (i := 24) (N := some 63) #[true, true, true, true, true, true, true, true, true, true, true, true, true, true, true, true, true, true, true, true, true, true, true, true, true, false, true, false, false, false, false, false, false, false, false, false, false, false, false, false, false, false, false, false, false, false, false, false] rfl rfl (by kernel_rfl) (by decide) (fun K hK => ?_)
  have ch := hang_sound O4.out u x2
  rw [hang_tr TX2.out LX2.out] at ch
  have CH := Lib.hid ch; clear ch
  refine goes_ Try.func63 (by kernel_rfl) rfl #[.pointer (some ⟨p, 0, none⟩), .int .i64 u, .int .i64 x2] (by rfl) rfl rfl (by simp only [List.map_toArray, List.map_cons, List.map_nil]; rfl) ?_
  with_reducible refine (CH.out).mono ?_
  rintro e w5 ⟨rfl, b5⟩
  refine ⟨_, rfl, ?_⟩
  have z5 := b5.size
  try simp at z5
  have O5 := Lib.hid (O4.out.below b5)
  have M5 := Lib.hid (MapOf.below M4.out b5)
  have F5 := Lib.hid (F4.out.next (Frame.of_below b5))
  refine hK.out _ _ ⟨((b5.cell (by first | omega | (simp; done) | (simp; omega))).trans hHeld.1), ((b5.cell (by first | omega | (simp; done) | (simp; omega))).trans hHeld.2.1), ((b5.cell (by first | omega | (simp; done) | (simp; omega))).trans hHeld.2.2.1), ((b5.cell (by first | omega | (simp; done) | (simp; omega))).trans hHeld.2.2.2.1), ((b5.cell (by first | omega | (simp; done) | (simp; omega))).trans hHeld.2.2.2.2.1), ((b5.cell (by first | omega | (simp; done) | (simp; omega))).trans hHeld.2.2.2.2.2.1), ((b5.cell (by first | omega | (simp; done) | (simp; omega))).trans hHeld.2.2.2.2.2.2.1), ((b5.cell (by first | omega | (simp; done) | (simp; omega))).trans hHeld.2.2.2.2.2.2.2.1), ((b5.cell (by first | omega | (simp; done) | (simp; omega))).trans hHeld.2.2.2.2.2.2.2.2.1), ((b5.cell (by first | omega | (simp; done) | (simp; omega))).trans hHeld.2.2.2.2.2.2.2.2.2)⟩ (fun hHeld => ?_)
  clear hK K
  refine norm_ (a' := ?_) ?_ ?_
  rotate_left
  · show Act.put _ (some 63) _ = _
    simp only [Act.put, List.setIfInBounds_toArray, List.set_cons_zero, List.set_cons_succ, i64_w, i32_w]
    rfl
  refine pure_ (i := 25) (N := some 64) (v := ?_) (a' := ?_) #[true, true, true, true, true, true, true, true, true, true, true, true, true, true, true, true, true, true, true, true, true, true, true, true, true, true, true, false, false, false, false, false, false, false, false, false, false, false, false, false, false, false, false, false, false, false, false, false] rfl rfl (by kernel_rfl) (fun _ _ _ h => h) (Or.inl ⟨by rfl, ?_⟩) ?_ ?_
  rotate_left
  · intro w'
    go_simp
    with_reducible rfl
  rotate_left
  · simp only [Act.put, List.setIfInBounds_toArray, List.set_cons_zero, List.set_cons_succ, i64_w, i32_w]
    rfl
  refine one_ (i := 27) (N := some 66) #[true, true, true, true, true, true, true, true, true, true, true, true, true, true, true, true, true, true, true, true, true, true, true, true, true, true, true, true, false, false, false, false, false, false, false, false, false, false, false, false, false, false, false, false, false, false, false, false] rfl rfl (by kernel_rfl) (by decide) (fun K hK => ?_)
  have cs := IH1.out _ _ _ _ _ _ O5.out M5.out HCK.out HI.out (by have := HB.out; omega)
  unfold SamePost at cs
  rw [HD1.out] at cs
  have CS := Lib.hid cs; clear cs
  refine goes_ Try.func42 (by kernel_rfl) rfl #[.pointer (some ⟨p, 0, none⟩), .agg #[.int .i64 x, .int .i64 x2], .map (some mb)] (by rfl) rfl rfl (by simp only [List.map_toArray, List.map_cons, List.map_nil]; rfl) ?_
  with_reducible refine (CS.out).mono ?_
  rintro e w6 ⟨rfl, ⟨n6, D6, hm6, hi6, hn6⟩, fr6⟩
  refine ⟨_, rfl, ?_⟩
  have z6 := fr6.size
  have M6 := Lib.hid hm6; have I6 := Lib.hid hi6; have FRR6 := Lib.hid fr6
  have O6 := Lib.hid (O5.out.frame fr6 (fun b hb e => HCK.out (e ▸ hb)))
  have F6 := Lib.hid (F5.out.next fr6)
  clear hm6 hi6 fr6
  refine hK.out _ _ ⟨((FRR6.out.cellO (by first | omega | (simp; done) | (simp; omega)) HMB.out).trans hHeld.1), ((FRR6.out.cellO (by first | omega | (simp; done) | (simp; omega)) HMB.out).trans hHeld.2.1), ((FRR6.out.cellO (by first | omega | (simp; done) | (simp; omega)) HM2.out).trans hHeld.2.2.1), ((FRR6.out.cellO (by first | omega | (simp; done) | (simp; omega)) HM2.out).trans hHeld.2.2.2.1), ((FRR6.out.cellO (by first | omega | (simp; done) | (simp; omega)) HM2.out).trans hHeld.2.2.2.2.1), ((FRR6.out.cellO (by first | omega | (simp; done) | (simp; omega)) HM2.out).trans hHeld.2.2.2.2.2.1), ((FRR6.out.cellO (by first | omega | (simp; done) | (simp; omega)) HM3.out).trans hHeld.2.2.2.2.2.2.1), ((FRR6.out.cellO (by first | omega | (simp; done) | (simp; omega)) HM3.out).trans hHeld.2.2.2.2.2.2.2.1), ((FRR6.out.cellO (by first | omega | (simp; done) | (simp; omega)) HM3.out).trans hHeld.2.2.2.2.2.2.2.2.1), ((FRR6.out.cellO (by first | omega | (simp; done) | (simp; omega)) HM3.out).trans hHeld.2.2.2.2.2.2.2.2.2)⟩ (fun hHeld => ?_)
  clear hK K
  refine norm_ (a' := ?_) ?_ ?_
  rotate_left
  · show Act.put _ (some 66) _ = _
    simp only [Act.put, List.setIfInBounds_toArray, List.set_cons_zero, List.set_cons_succ, i64_w, i32_w]
    rfl
  refine pure_ (i := 28) (N := some 67) (v := ?_) (a' := ?_) #[true, true, true, true, true, true, true, true, true, true, true, true, true, true, true, true, true, true, true, true, true, true, true, true, true, true, true, true, true, false, false, false, false, false, false, false, false, false, false, false, false, false, false, false, false, false, false, false] rfl rfl (by kernel_rfl) (fun _ _ _ h => h) (Or.inl ⟨by rfl, ?_⟩) ?_ ?_
  rotate_left
  · intro w'
    go_simp
    with_reducible rfl
  rotate_left
  · simp only [Act.put, List.setIfInBounds_toArray, List.set_cons_zero, List.set_cons_succ, i64_w, i32_w]
    rfl
  refine pure_ (i := 29) (N := some 68) (v := ?_) (a' := ?_) #[true, true, true, true, true, true, true, true, true, true, true, true, true, true, true, true, true, true, true, true, true, true, true, true, true, true, true, true, true, true, false, false, false, false, false, false, false, false, false, false, false, false, false, false, false, false, false, false] rfl rfl (by kernel_rfl) (fun _ _ _ h => h) (Or.inl ⟨by rfl, ?_⟩) ?_ ?_
  rotate_left
  · intro w'
    go_simp
    with_reducible rfl
  rotate_left
  · simp only [Act.put, List.setIfInBounds_toArray, List.set_cons_zero, List.set_cons_succ, i64_w, i32_w]
    rfl
  refine pure_ (i := 30) (N := some 69) (v := ?_) (a' := ?_) #[true, true, true, true, true, true, true, true, true, true, true, true, true, true, true, true, true, true, true, true, true, true, true, true, true, true, true, true, true, true, true, false, false, false, false, false, false, false, false, false, false, false, false, false, false, false, false, false] rfl rfl (by kernel_rfl) (fun _ _ _ h => h) (Or.inl ⟨by rfl, ?_⟩) ?_ ?_
  rotate_left
  · intro w'
    go_simp
    with_reducible rfl
  rotate_left
  · simp only [Act.put, List.setIfInBounds_toArray, List.set_cons_zero, List.set_cons_succ, i64_w, i32_w]
    rfl
  refine pure_ (i := 31) (N := some 70) (v := ?_) (a' := ?_) #[true, true, true, true, true, true, true, true, true, true, true, true, true, true, true, true, true, true, true, true, true, true, true, true, true, true, true, true, true, true, true, true, false, false, false, false, false, false, false, false, false, false, false, false, false, false, false, false] rfl rfl (by kernel_rfl) (fun _ _ _ h => h) (Or.inl ⟨by rfl, ?_⟩) ?_ ?_
  rotate_left
  · intro w'
    go_simp
    with_reducible rfl
  rotate_left
  · simp only [Act.put, List.setIfInBounds_toArray, List.set_cons_zero, List.set_cons_succ, i64_w, i32_w]
    rfl
  refine pure_ (i := 32) (N := some 71) (v := ?_) (a' := ?_) #[true, true, true, true, true, true, true, true, true, true, true, true, true, true, true, true, true, true, true, true, true, true, true, true, true, true, true, true, true, true, true, true, true, false, false, false, false, false, false, false, false, false, false, false, false, false, false, false] rfl rfl (by kernel_rfl) (fun _ _ _ h => h) (Or.inl ⟨by rfl, ?_⟩) ?_ ?_
  rotate_left
  · intro w'
    go_simp
    with_reducible rfl
  rotate_left
  · simp only [Act.put, List.setIfInBounds_toArray, List.set_cons_zero, List.set_cons_succ, i64_w, i32_w]
    rfl
  refine pure_ (i := 34) (N := some 73) (v := ?_) (a' := ?_) #[true, true, true, true, true, true, true, true, true, true, true, true, true, true, true, true, true, true, true, true, true, true, true, true, true, true, true, true, true, true, true, true, true, false, true, false, false, false, false, false, false, false, false, false, false, false, false, false] rfl rfl (by kernel_rfl) (fun _ _ _ h => h) (Or.inl ⟨by rfl, ?_⟩) ?_ ?_
  rotate_left
  · intro w'
    go_simp
    with_reducible rfl
  rotate_left
  · simp only [Act.put, List.setIfInBounds_toArray, List.set_cons_zero, List.set_cons_succ, i64_w, i32_w]
    rfl
  refine pure_ (i := 37) (N := some 76) (v := ?_) (a' := ?_) #[true, true, true, true, true, true, true, true, true, true, true, true, true, true, true, true, true, true, true, true, true, true, true, true, true, true, true, true, true, true, true, true, true, false, true, false, false, true, false, false, false, false, false, false, false, false, false, false] rfl rfl (by kernel_rfl) (fun _ _ _ h => h) (Or.inl ⟨by rfl, ?_⟩) ?_ ?_
  rotate_left
  · intro w'
    go_simp
    with_reducible rfl
  rotate_left
  · simp only [Act.put, List.setIfInBounds_toArray, List.set_cons_zero, List.set_cons_succ, i64_w, i32_w]
    rfl
  refine pure_ (i := 38) (N := some 77) (v := ?_) (a' := ?_) #[true, true, true, true, true, true, true, true, true, true, true, true, true, true, true, true, true, true, true, true, true, true, true, true, true, true, true, true, true, true, true, true, true, false, true, false, false, true, true, false, false, false, false, false, false, false, false, false] rfl rfl (by kernel_rfl) (fun _ _ _ h => h) (Or.inl ⟨by rfl, ?_⟩) ?_ ?_
  rotate_left
  · intro w'
    go_simp
    with_reducible rfl
  rotate_left
  · simp only [Act.put, List.setIfInBounds_toArray, List.set_cons_zero, List.set_cons_succ, i64_w, i32_w]
    rfl
  refine pure_ (i := 40) (N := some 79) (v := ?_) (a' := ?_) #[true, true, true, true, true, true, true, true, true, true, true, true, true, true, true, true, true, true, true, true, true, true, true, true, true, true, true, true, true, true, true, true, true, false, true, false, false, true, true, false, true, false, false, false, false, false, false, false] rfl rfl (by kernel_rfl) (fun _ _ _ h => h) (Or.inl ⟨by rfl, ?_⟩) ?_ ?_
  rotate_left
  · intro w'
    go_simp
    with_reducible rfl
  rotate_left
  · simp only [Act.put, List.setIfInBounds_toArray, List.set_cons_zero, List.set_cons_succ, i64_w, i32_w]
    rfl
  refine pure_ (i := 44) (N := some 83) (v := ?_) (a' := ?_) #[true, true, true, true, true, true, true, true, true, true, true, true, true, true, true, true, true, true, true, true, true, true, true, true, true, true, true, true, true, true, true, true, true, false, true, false, false, true, true, false, true, false, false, false, true, false, false, false] rfl rfl (by kernel_rfl) (fun _ _ _ h => h) (Or.inl ⟨by rfl, ?_⟩) ?_ ?_
  rotate_left
  · intro w'
    go_simp
    with_reducible rfl
  rotate_left
  · simp only [Act.put, List.setIfInBounds_toArray, List.set_cons_zero, List.set_cons_succ, i64_w, i32_w]
    rfl
  refine take_ (i := 33) (N := some 72) (v := ?_) (a' := ?_) #[true, true, true, true, true, true, true, true, true, true, true, true, true, true, true, true, true, true, true, true, true, true, true, true, true, true, true, true, true, true, true, true, true, true, true, false, false, true, true, false, true, false, false, false, true, false, false, false] rfl rfl (by kernel_rfl) (fun _ _ _ h => h) (Or.inl ⟨by rfl, ?_⟩) hHeld ?_ ?_
  rotate_left
  · rintro w' ⟨s0, s1, s2, s3, s4, s5, s6, s7, s8, s9⟩
    go_simp
    with_reducible rfl
  rotate_left
  · simp only [Act.put, List.setIfInBounds_toArray, List.set_cons_zero, List.set_cons_succ, i64_w, i32_w]
    rfl
  refine take_ (i := 35) (N := some 74) (v := ?_) (a' := ?_) #[true, true, true, true, true, true, true, true, true, true, true, true, true, true, true, true, true, true, true, true, true, true, true, true, true, true, true, true, true, true, true, true, true, true, true, true, false, true, true, false, true, false, false, false, true, false, false, false] rfl rfl (by kernel_rfl) (fun _ _ _ h => h) (Or.inl ⟨by rfl, ?_⟩) hHeld ?_ ?_
  rotate_left
  · rintro w' ⟨s0, s1, s2, s3, s4, s5, s6, s7, s8, s9⟩
    go_simp
    with_reducible rfl
  rotate_left
  · simp only [Act.put, List.setIfInBounds_toArray, List.set_cons_zero, List.set_cons_succ, i64_w, i32_w]
    rfl
  refine take_ (i := 39) (N := some 78) (v := ?_) (a' := ?_) #[true, true, true, true, true, true, true, true, true, true, true, true, true, true, true, true, true, true, true, true, true, true, true, true, true, true, true, true, true, true, true, true, true, true, true, true, false, true, true, true, true, false, false, false, true, false, false, false] rfl rfl (by kernel_rfl) (fun _ _ _ h => h) (Or.inl ⟨by rfl, ?_⟩) hHeld ?_ ?_
  rotate_left
  · rintro w' ⟨s0, s1, s2, s3, s4, s5, s6, s7, s8, s9⟩
    go_simp
    with_reducible rfl
  rotate_left
  · simp only [Act.put, List.setIfInBounds_toArray, List.set_cons_zero, List.set_cons_succ, i64_w, i32_w]
    rfl
  refine take_ (i := 41) (N := some 80) (v := ?_) (a' := ?_) #[true, true, true, true, true, true, true, true, true, true, true, true, true, true, true, true, true, true, true, true, true, true, true, true, true, true, true, true, true, true, true, true, true, true, true, true, false, true, true, true, true, true, false, false, true, false, false, false] rfl rfl (by kernel_rfl) (fun _ _ _ h => h) (Or.inl ⟨by rfl, ?_⟩) hHeld ?_ ?_
  rotate_left
  · rintro w' ⟨s0, s1, s2, s3, s4, s5, s6, s7, s8, s9⟩
    go_simp
    with_reducible rfl
  rotate_left
  · simp only [Act.put, List.setIfInBounds_toArray, List.set_cons_zero, List.set_cons_succ, i64_w, i32_w]
    rfl
  refine one_ (i := 36) (N := some 75) #[true, true, true, true, true, true, true, true, true, true, true, true, true, true, true, true, true, true, true, true, true, true, true, true, true, true, true, true, true, true, true, true, true, true, true, true, true, true, true, true, true, true, false, false, true, false, false, false] rfl rfl (by kernel_rfl) (by decide) (fun K hK => ?_)
  have ch := hang_sound O6.out t y
  rw [hang_tr TY.out LY.out] at ch
  have CH := Lib.hid ch; clear ch
  refine goes_ Try.func63 (by kernel_rfl) rfl #[.pointer (some ⟨p, 0, none⟩), .int .i64 t, .int .i64 y] (by rfl) rfl rfl (by simp only [List.map_toArray, List.map_cons, List.map_nil]; rfl) ?_
  with_reducible refine (CH.out).mono ?_
  rintro e w7 ⟨rfl, b7⟩
  refine ⟨_, rfl, ?_⟩
  have z7 := b7.size
  try simp at z7
  have O7 := Lib.hid (O6.out.below b7)
  have M7 := Lib.hid (MapOf.below M6.out b7)
  have F7 := Lib.hid (F6.out.next (Frame.of_below b7))
  refine hK.out _ _ ⟨((b7.cell (by first | omega | (simp; done) | (simp; omega))).trans hHeld.1), ((b7.cell (by first | omega | (simp; done) | (simp; omega))).trans hHeld.2.1), ((b7.cell (by first | omega | (simp; done) | (simp; omega))).trans hHeld.2.2.1), ((b7.cell (by first | omega | (simp; done) | (simp; omega))).trans hHeld.2.2.2.1), ((b7.cell (by first | omega | (simp; done) | (simp; omega))).trans hHeld.2.2.2.2.1), ((b7.cell (by first | omega | (simp; done) | (simp; omega))).trans hHeld.2.2.2.2.2.1), ((b7.cell (by first | omega | (simp; done) | (simp; omega))).trans hHeld.2.2.2.2.2.2.1), ((b7.cell (by first | omega | (simp; done) | (simp; omega))).trans hHeld.2.2.2.2.2.2.2.1), ((b7.cell (by first | omega | (simp; done) | (simp; omega))).trans hHeld.2.2.2.2.2.2.2.2.1), ((b7.cell (by first | omega | (simp; done) | (simp; omega))).trans hHeld.2.2.2.2.2.2.2.2.2)⟩ (fun hHeld => ?_)
  clear hK K
  refine norm_ (a' := ?_) ?_ ?_
  rotate_left
  · show Act.put _ (some 75) _ = _
    simp only [Act.put, List.setIfInBounds_toArray, List.set_cons_zero, List.set_cons_succ, i64_w, i32_w]
    rfl
  refine one_ (i := 42) (N := some 81) #[true, true, true, true, true, true, true, true, true, true, true, true, true, true, true, true, true, true, true, true, true, true, true, true, true, true, true, true, true, true, true, true, true, true, true, true, true, true, true, true, true, true, true, false, true, false, false, false] rfl rfl (by kernel_rfl) (by decide) (fun K hK => ?_)
  have ch := hang_sound O7.out u y2
  rw [hang_tr TY2.out LY2.out] at ch
  have CH := Lib.hid ch; clear ch
  refine goes_ Try.func63 (by kernel_rfl) rfl #[.pointer (some ⟨p, 0, none⟩), .int .i64 u, .int .i64 y2] (by rfl) rfl rfl (by simp only [List.map_toArray, List.map_cons, List.map_nil]; rfl) ?_
  with_reducible refine (CH.out).mono ?_
  rintro e w8 ⟨rfl, b8⟩
  refine ⟨_, rfl, ?_⟩
  have z8 := b8.size
  try simp at z8
  have O8 := Lib.hid (O7.out.below b8)
  have M8 := Lib.hid (MapOf.below M7.out b8)
  have F8 := Lib.hid (F7.out.next (Frame.of_below b8))
  refine hK.out _ _ ⟨((b8.cell (by first | omega | (simp; done) | (simp; omega))).trans hHeld.1), ((b8.cell (by first | omega | (simp; done) | (simp; omega))).trans hHeld.2.1), ((b8.cell (by first | omega | (simp; done) | (simp; omega))).trans hHeld.2.2.1), ((b8.cell (by first | omega | (simp; done) | (simp; omega))).trans hHeld.2.2.2.1), ((b8.cell (by first | omega | (simp; done) | (simp; omega))).trans hHeld.2.2.2.2.1), ((b8.cell (by first | omega | (simp; done) | (simp; omega))).trans hHeld.2.2.2.2.2.1), ((b8.cell (by first | omega | (simp; done) | (simp; omega))).trans hHeld.2.2.2.2.2.2.1), ((b8.cell (by first | omega | (simp; done) | (simp; omega))).trans hHeld.2.2.2.2.2.2.2.1), ((b8.cell (by first | omega | (simp; done) | (simp; omega))).trans hHeld.2.2.2.2.2.2.2.2.1), ((b8.cell (by first | omega | (simp; done) | (simp; omega))).trans hHeld.2.2.2.2.2.2.2.2.2)⟩ (fun hHeld => ?_)
  clear hK K
  refine norm_ (a' := ?_) ?_ ?_
  rotate_left
  · show Act.put _ (some 81) _ = _
    simp only [Act.put, List.setIfInBounds_toArray, List.set_cons_zero, List.set_cons_succ, i64_w, i32_w]
    rfl
  refine pure_ (i := 43) (N := some 82) (v := ?_) (a' := ?_) #[true, true, true, true, true, true, true, true, true, true, true, true, true, true, true, true, true, true, true, true, true, true, true, true, true, true, true, true, true, true, true, true, true, true, true, true, true, true, true, true, true, true, true, true, true, false, false, false] rfl rfl (by kernel_rfl) (fun _ _ _ h => h) (Or.inl ⟨by rfl, ?_⟩) ?_ ?_
  rotate_left
  · intro w'
    go_simp
    with_reducible rfl
  rotate_left
  · simp only [Act.put, List.setIfInBounds_toArray, List.set_cons_zero, List.set_cons_succ, i64_w, i32_w]
    rfl
  refine one_ (i := 45) (N := some 84) #[true, true, true, true, true, true, true, true, true, true, true, true, true, true, true, true, true, true, true, true, true, true, true, true, true, true, true, true, true, true, true, true, true, true, true, true, true, true, true, true, true, true, true, true, true, true, false, false] rfl rfl (by kernel_rfl) (by decide) (fun K hK => ?_)
  have cs := IH2.out _ _ _ _ _ _ O8.out M8.out HCK.out I6.out (by have := HB.out; omega)
  unfold SamePost at cs
  rw [HD2.out] at cs
  have CS := Lib.hid cs; clear cs
  refine goes_ Try.func42 (by kernel_rfl) rfl #[.pointer (some ⟨p, 0, none⟩), .agg #[.int .i64 y, .int .i64 y2], .map (some mb)] (by rfl) rfl rfl (by simp only [List.map_toArray, List.map_cons, List.map_nil]; rfl) ?_
  with_reducible refine (CS.out).mono ?_
  rintro e w9 ⟨rfl, ⟨n9, D9, hm9, hi9, hn9⟩, fr9⟩
  refine ⟨_, rfl, ?_⟩
  have z9 := fr9.size
  have M9 := Lib.hid hm9; have I9 := Lib.hid hi9; have FRR9 := Lib.hid fr9
  have O9 := Lib.hid (O8.out.frame fr9 (fun b hb e => HCK.out (e ▸ hb)))
  have F9 := Lib.hid (F8.out.next fr9)
  clear hm9 hi9 fr9
  refine hK.out _ _ ⟨((FRR9.out.cellO (by first | omega | (simp; done) | (simp; omega)) HMB.out).trans hHeld.1), ((FRR9.out.cellO (by first | omega | (simp; done) | (simp; omega)) HMB.out).trans hHeld.2.1), ((FRR9.out.cellO (by first | omega | (simp; done) | (simp; omega)) HM2.out).trans hHeld.2.2.1), ((FRR9.out.cellO (by first | omega | (simp; done) | (simp; omega)) HM2.out).trans hHeld.2.2.2.1), ((FRR9.out.cellO (by first | omega | (simp; done) | (simp; omega)) HM2.out).trans hHeld.2.2.2.2.1), ((FRR9.out.cellO (by first | omega | (simp; done) | (simp; omega)) HM2.out).trans hHeld.2.2.2.2.2.1), ((FRR9.out.cellO (by first | omega | (simp; done) | (simp; omega)) HM3.out).trans hHeld.2.2.2.2.2.2.1), ((FRR9.out.cellO (by first | omega | (simp; done) | (simp; omega)) HM3.out).trans hHeld.2.2.2.2.2.2.2.1), ((FRR9.out.cellO (by first | omega | (simp; done) | (simp; omega)) HM3.out).trans hHeld.2.2.2.2.2.2.2.2.1), ((FRR9.out.cellO (by first | omega | (simp; done) | (simp; omega)) HM3.out).trans hHeld.2.2.2.2.2.2.2.2.2)⟩ (fun hHeld => ?_)
  clear hK K
  refine norm_ (a' := ?_) ?_ ?_
  rotate_left
  · show Act.put _ (some 84) _ = _
    simp only [Act.put, List.setIfInBounds_toArray, List.set_cons_zero, List.set_cons_succ, i64_w, i32_w]
    rfl
  refine pure_ (i := 46) (N := some 85) (v := ?_) (a' := ?_) #[true, true, true, true, true, true, true, true, true, true, true, true, true, true, true, true, true, true, true, true, true, true, true, true, true, true, true, true, true, true, true, true, true, true, true, true, true, true, true, true, true, true, true, true, true, true, true, false] rfl rfl (by kernel_rfl) (fun _ _ _ h => h) (Or.inl ⟨by rfl, ?_⟩) ?_ ?_
  rotate_left
  · intro w'
    go_simp
    with_reducible rfl
  rotate_left
  · simp only [Act.put, List.setIfInBounds_toArray, List.set_cons_zero, List.set_cons_succ, i64_w, i32_w]
    rfl
  refine pure_ (i := 47) (N := some 12) (v := ?_) (a' := ?_) #[true, true, true, true, true, true, true, true, true, true, true, true, true, true, true, true, true, true, true, true, true, true, true, true, true, true, true, true, true, true, true, true, true, true, true, true, true, true, true, true, true, true, true, true, true, true, true, true] rfl rfl (by kernel_rfl) (fun _ _ _ h => h) (Or.inl ⟨by rfl, ?_⟩) ?_ ?_
  rotate_left
  · intro w'
    go_simp
    with_reducible rfl
  rotate_left
  · simp only [Act.put, List.setIfInBounds_toArray, List.set_cons_zero, List.set_cons_succ, i64_w, i32_w]
    rfl
  refine done_ (by kernel_rfl) ?_
  have P4x := (b4.block w.heap.size (by simp; omega)).trans (show (w3.alloc (.cells #[.int .i64 k, .int .i64 v, .int .i64 x2, .int .i64 y2, .int .i64 s2, .int .i64 g2] 41)).drew.heap[w.heap.size]? = some (.cells #[.int .i64 t, .int .i64 u] 80 (0, 0)) from P3.out)
  have P5x := (b5.block w.heap.size (by omega)).trans P4x
  have P6x := FRR6.out.keep P5x HMB.out
  have P7x := (b7.block w.heap.size (by omega)).trans P6x
  have P8x := (b8.block w.heap.size (by omega)).trans P7x
  have P9x := FRR9.out.keep P8x HMB.out
  have PZ := Lib.hid P9x
  have FZ := Lib.hid F9.out
  have x0 := cell_blk (i := 0) PZ.out rfl
  have x1 := cell_blk (i := 1) PZ.out rfl
  have hltz : w.heap.size < (w9).heap.size := (Array.getElem?_eq_some_iff.1 PZ.out).1
  go_wp2_with (at_mapUpdate; refine wpList_mapUpdate_own _ rfl _ _ _ 81 rfl 80 3 snd_law Try.underlying81 _ mb (n9) (D9) rfl M9.out (by have := HB.out; unfold maxLen; omega) _ _ kl rfl rfl HKL.out _ [] (plainElem_int Try.underlying3 (wf64 (t := 2) (by omega) (by omega))) ?_; intro w20 hm20 hg20; have M20 := Lib.hid (show MapOf w20 mb (n9 + 1) ((D9).put kl (.lit (.int .i64 2))) from hm20); have P20 := Lib.hid ((hg20.block w.heap.size (Array.getElem?_eq_some_iff.1 PZ.out).1 (fun e => absurd (Option.some.inj e) HMB.out)).trans PZ.out); have F20 := Lib.hid (FZ.out.next ⟨hg20.os, hg20.tape, hg20.output, hg20.size, fun b hb hn => hg20.block b hb (fun e => hn (Option.some.inj e))⟩); have hl20 : w.heap.size < w20.heap.size := (Array.getElem?_eq_some_iff.1 P20.out).1; have x0 := cell_blk (i := 0) P20.out rfl; have x1 := cell_blk (i := 1) P20.out rfl; clear hm20 hg20)
  go_ret
  exact ⟨by (rw [HDEC.out]; first | done | rfl), ⟨_, _, M20.out, (I9.out.x (some kl)).done (World.ownsMap.isMap M9.out) HKL.out HT.out HU.out HC2.out, by have := HB.out; omega⟩, F20.out⟩


end Go.Proofs.Ytkcfkanfdbejiaa

namespace Go.Proofs.Ytkcfkanfdbejiaa
set_option maxRecDepth 100000
open Go.RowKit Go.Proofs.Ytkcfkanfdbejiaa.Mix Go.Proofs.YtkcfkanfdbejiaaW.PrintWords Go.Proofs.YtkcfkanfdbejiaaW.PrintLast
set_option linter.unusedSimpArgs false
set_option linter.unusedVariables false

set_option maxRecDepth 100000 in
set_option maxHeartbeats 4000000 in
theorem same_tt {a : Ar} {w : World} {p : Nat} {F : Nat → Prop} {mb n : Nat} {D : DU} (ho : OAt w (some ⟨p, 0, none⟩) (some a) F) (hm : MapOf w mb n D) (hi : MInv a D) {t u : Int} (htu : t ≠ u) {l m : List Pr} (ht : Tr a t l) (hu : Tr a u m) (kl : Lit) (hkl : keyP t u = some kl) (hrun : (Instr.lookup 81 (.map (some mb)) (.agg #[.int .i64 t, .int .i64 u]) false).run Try.prog (w.alloc (.cells #[.int .i64 t, .int .i64 u] 80)) = .ok (.int .i64 0) (w.alloc (.cells #[.int .i64 t, .int .i64 u] 80))) {k v x y s1 g1 x2 y2 s2 g2 : Int} (hn1 : isN (some a) t = true) (hn2 : isN (some a) u = true) (hg1 : getN (some a) t = ⟨k, v, x, y, s1, g1⟩) (hg2 : getN (some a) u = ⟨k, v, x2, y2, s2, g2⟩) {l1 l2 m1 m2 : List Pr} (tx : Tr a x l1) (ty : Tr a y l2) (tx2 : Tr a x2 m1) (ty2 : Tr a y2 m2) (hx : x < t) (hy : y < t) (hx2 : x2 < u) (hy2 : y2 < u)
    (ih1 : ∀ (w : World) (p : Nat) (F : Nat → Prop) (mb n : Nat) (D : DU), OAt w (some ⟨p, 0, none⟩) (some a) F → MapOf w mb n D → ¬ F mb → MInv a D → n + (4 * l1.length + 2) ≤ 1000000 → Calls Try.prog 42 #[.pointer (some ⟨p, 0, none⟩), .agg #[.int .i64 x, .int .i64 x2], .map (some mb)] w (SamePost a w mb (n + (4 * l1.length + 2)) l1 m1))
    (ih2 : ∀ (w : World) (p : Nat) (F : Nat → Prop) (mb n : Nat) (D : DU), OAt w (some ⟨p, 0, none⟩) (some a) F → MapOf w mb n D → ¬ F mb → MInv a D → n + (4 * l2.length + 2) ≤ 1000000 → Calls Try.prog 42 #[.pointer (some ⟨p, 0, none⟩), .agg #[.int .i64 y, .int .i64 y2], .map (some mb)] w (SamePost a w mb (n + (4 * l2.length + 2)) l2 m2))
    (hck : ¬ F mb) (hb : n + (4 * l1.length + 2) + (4 * l2.length + 2) + 2 ≤ 1000000) (hd1 : decide (l1 = m1) = true) (hd2 : decide (l2 = m2) = true) (hlm : l = m) :
    Calls Try.prog 42 #[.pointer (some ⟨p, 0, none⟩), .agg #[.int .i64 t, .int .i64 u], .map (some mb)] w (SamePost a w mb (n + (4 * l1.length + 2) + (4 * l2.length + 2) + 2) l m) := by
  have HDEC := Lib.hid (show decide (l = m) = true from decide_eq_true hlm)
  have HEQ := Lib.hid hlm
  clear hlm
  have HG1 := Lib.hid hg1; have HG2 := Lib.hid hg2; have HN1 := Lib.hid hn1; have HN2 := Lib.hid hn2
  clear hg1 hg2 hn1 hn2
  have TX := Lib.hid tx; have TY := Lib.hid ty; have TX2 := Lib.hid tx2; have TY2 := Lib.hid ty2; have LX := Lib.hid hx; have LY := Lib.hid hy; have LX2 := Lib.hid hx2; have LY2 := Lib.hid hy2
  have IH1 := Lib.hid ih1; have IH2 := Lib.hid ih2; have HCK := Lib.hid hck; have HD1 := Lib.hid hd1
  have tok1 : True := trivial
  clear tx ty tx2 ty2 hx hy hx2 hy2 ih1 ih2 hck hd1
  have qk := beq_self_eq_true k
  have qv := beq_self_eq_true v
  have HLM := Lib.hid (World.ownsMap.lt hm)
  have HD2 := Lib.hid hd2; clear hd2
  have HKL := Lib.hid hkl; have HT := Lib.hid ht; have HU := Lib.hid hu; have HB := Lib.hid hb
  have q0 : (t == u) = false := beq_eq_false_iff_ne.2 htu
  clear htu hkl hb
  have PX0 : (w.alloc (.cells #[.int .i64 t, .int .i64 u] 80)).heap[w.heap.size]? = some (.cells #[.int .i64 t, .int .i64 u] 80 (0, 0)) := heap_alloc_new w (.cells #[.int .i64 t, .int .i64 u] 80)
  have P0 := Lib.hid PX0; clear PX0
  have B0 := Lib.hid ((Below.refl w.heap.size w).alloc (Nat.le_refl _) (.cells #[.int .i64 t, .int .i64 u] 80))
  have O0 := Lib.hid (ho.below B0.out)
  have M0 := Lib.hid (MapOf.below hm B0.out)
  have F0 := Lib.hid (Frame.of_below (F := Only mb) B0.out)
  have HMB := Lib.hid (show w.heap.size ≠ mb from fun e => by have := World.ownsMap.lt hm; omega)
  have HI := Lib.hid hi
  clear hm hi ho
  go_enter Try.func42, Try.ntmps42
  have hg1 := get_any O0.out t
  rw [HN1.out, HG1.out] at hg1
  have G1 := Lib.hid hg1; clear hg1
  go_wp2_with fail
  refine G1.out.mono ?_
  rintro e w2 ⟨rfl, b2⟩
  have z2 := b2.size
  simp at z2
  have P2 := Lib.hid ((b2.block w.heap.size (by simp)).trans P0.out)
  have B2a := Lib.hid (b2.trans (((Below.refl w2.heap.size w2).alloc (Nat.le_refl _) (.cells #[.int .i64 k, .int .i64 v, .int .i64 x, .int .i64 y, .int .i64 s1, .int .i64 g1] 41)).mono b2.size))
  have O2 := Lib.hid (O0.out.below B2a.out)
  have N2 := Lib.hid (heap_alloc_new w2 (.cells #[.int .i64 k, .int .i64 v, .int .i64 x, .int .i64 y, .int .i64 s1, .int .i64 g1] 41))
  clear b2
  have hg2 := get_any O2.out u
  rw [HN2.out, HG2.out] at hg2
  have G2 := Lib.hid hg2; clear hg2
  have q2 := cell_blk (i := 1) (w := w2) P2.out rfl
  have hlt2 : w.heap.size < w2.heap.size := by omega
  go_wp2_with fail
  refine G2.out.mono ?_
  rintro e w3 ⟨rfl, b3⟩
  have z3 := b3.size
  simp at z3
  have b3c := b3.trans (((Below.refl w3.heap.size w3).alloc (Nat.le_refl _) (.cells #[.int .i64 k, .int .i64 v, .int .i64 x2, .int .i64 y2, .int .i64 s2, .int .i64 g2] 41)).mono b3.size)
  have B3 := Lib.hid (B2a.out.trans (b3c.mono B2a.out.size))
  have O3 := Lib.hid (O0.out.below B3.out)
  have M3 := Lib.hid (MapOf.below M0.out B3.out)
  have F3 := Lib.hid (F0.out.next (Frame.of_below B3.out))
  have P3 := Lib.hid ((b3c.block w.heap.size (by simp; omega)).trans (((Below.refl w2.heap.size w2).alloc (Nat.le_refl _) (.cells #[.int .i64 k, .int .i64 v, .int .i64 x, .int .i64 y, .int .i64 s1, .int .i64 g1] 41)).block w.heap.size hlt2 |>.trans P2.out))
  have N3 := Lib.hid ((b3c.block w2.heap.size (by simp)).trans N2.out)
  have U3 := Lib.hid (heap_alloc_new w3 (.cells #[.int .i64 k, .int .i64 v, .int .i64 x2, .int .i64 y2, .int .i64 s2, .int .i64 g2] 41))
  have hlt3 : w2.heap.size < w3.heap.size := by omega
  clear b3 b3c q2
  have x0w := True.intro
  go_wp2_with fail
  have O3d := Lib.hid (show OAt (w3.alloc (.cells #[.int .i64 k, .int .i64 v, .int .i64 x2, .int .i64 y2, .int .i64 s2, .int .i64 g2] 41)).drew (some ⟨p, 0, none⟩) (some a) F from O3.out.below ⟨rfl, rfl, rfl, Nat.le_refl _, fun _ _ => rfl⟩)
  have M3d := Lib.hid (show MapOf (w3.alloc (.cells #[.int .i64 k, .int .i64 v, .int .i64 x2, .int .i64 y2, .int .i64 s2, .int .i64 g2] 41)).drew mb n D from M3.out)
  have F3d := Lib.hid (show Frame (Only mb) w (w3.alloc (.cells #[.int .i64 k, .int .i64 v, .int .i64 x2, .int .i64 y2, .int .i64 s2, .int .i64 g2] 41)).drew from F3.out.next ⟨rfl, rfl, rfl, Nat.le_refl _, fun _ _ _ => rfl⟩)
  have HM2 := Lib.hid (show w2.heap.size ≠ mb from by have := HLM.out; omega)
  have HM3 := Lib.hid (show w3.heap.size ≠ mb from by have := HLM.out; omega)
  refine start_ (n := 48) (S := fun w' => w'.cell? ⟨w.heap.size, 0, none⟩ = some (.int .i64 t) ∧ w'.cell? ⟨w.heap.size, 1, none⟩ = some (.int .i64 u) ∧ w'.cell? ⟨w2.heap.size, 0, none⟩ = some (.int .i64 k) ∧ w'.cell? ⟨w2.heap.size, 1, none⟩ = some (.int .i64 v) ∧ w'.cell? ⟨w2.heap.size, 2, none⟩ = some (.int .i64 x) ∧ w'.cell? ⟨w2.heap.size, 3, none⟩ = some (.int .i64 y) ∧ w'.cell? ⟨w3.heap.size, 0, none⟩ = some (.int .i64 k) ∧ w'.cell? ⟨w3.heap.size, 1, none⟩ = some (.int .i64 v) ∧ w'.cell? ⟨w3.heap.size, 2, none⟩ = some (.int .i64 x2) ∧ w'.cell? ⟨w3.heap.size, 3, none⟩ = some (.int .i64 y2)) (ds := []) #[false, false, false, false, false, false, false, false, false, false, false, false, false, false, false, false, false, false, false, false, false, false, false, false, false, false, false, false, false, false, false, false, false, false, false, false, false, false, false, false, false, false, false, false, false, false, false, false] (by kernel_rfl) rfl rfl ⟨(cell_blk (i := 0) (w := (w3.alloc (.cells #[.int .i64 k, .int .i64 v, .int .i64 x2, .int .i64 y2, .int .i64 s2, .int .i64 g2] 41)).drew) P3.out rfl), (cell_blk (i := 1) (w := (w3.alloc (.cells #[.int .i64 k, .int .i64 v, .int .i64 x2, .int .i64 y2, .int .i64 s2, .int .i64 g2] 41)).drew) P3.out rfl), (cell_blk (i := 0) (w := (w3.alloc (.cells #[.int .i64 k, .int .i64 v, .int .i64 x2, .int .i64 y2, .int .i64 s2, .int .i64 g2] 41)).drew) N3.out rfl), (cell_blk (i := 1) (w := (w3.alloc (.cells #[.int .i64 k, .int .i64 v, .int .i64 x2, .int .i64 y2, .int .i64 s2, .int .i64 g2] 41)).drew) N3.out rfl), (cell_blk (i := 2) (w := (w3.alloc (.cells #[.int .i64 k, .int .i64 v, .int .i64 x2, .int .i64 y2, .int .i64 s2, .int .i64 g2] 41)).drew) N3.out rfl), (cell_blk (i := 3) (w := (w3.alloc (.cells #[.int .i64 k, .int .i64 v, .int .i64 x2, .int .i64 y2, .int .i64 s2, .int .i64 g2] 41)).drew) N3.out rfl), (cell_blk (i := 0) (w := (w3.alloc (.cells #[.int .i64 k, .int .i64 v, .int .i64 x2, .int .i64 y2, .int .i64 s2, .int .i64 g2] 41)).drew) U3.out rfl), (cell_blk (i := 1) (w := (w3.alloc (.cells #[.int .i64 k, .int .i64 v, .int .i64 x2, .int .i64 y2, .int .i64 s2, .int .i64 g2] 41)).drew) U3.out rfl), (cell_blk (i := 2) (w := (w3.alloc (.cells #[.int .i64 k, .int .i64 v, .int .i64 x2, .int .i64 y2, .int .i64 s2, .int .i64 g2] 41)).drew) U3.out rfl), (cell_blk (i := 3) (w := (w3.alloc (.cells #[.int .i64 k, .int .i64 v, .int .i64 x2, .int .i64 y2, .int .i64 s2, .int .i64 g2] 41)).drew) U3.out rfl)⟩ (fun hHeld => ?_)
  refine pure_ (i := 0) (N := some 39) (v := ?_) (a' := ?_) #[true, false, false, false, false, false, false, false, false, false, false, false, false, false, false, false, false, false, false, false, false, false, false, false, false, false, false, false, false, false, false, false, false, false, false, false, false, false, false, false, false, false, false, false, false, false, false, false] rfl rfl (by kernel_rfl) (fun _ _ _ h => h) (Or.inl ⟨by rfl, ?_⟩) ?_ ?_
  rotate_left
  · intro w'
    go_simp
    with_reducible rfl
  rotate_left
  · simp only [Act.put, List.setIfInBounds_toArray, List.set_cons_zero, List.set_cons_succ, i64_w, i32_w]
    rfl
  refine pure_ (i := 1) (N := some 40) (v := ?_) (a' := ?_) #[true, true, false, false, false, false, false, false, false, false, false, false, false, false, false, false, false, false, false, false, false, false, false, false, false, false, false, false, false, false, false, false, false, false, false, false, false, false, false, false, false, false, false, false, false, false, false, false] rfl rfl (by kernel_rfl) (fun _ _ _ h => h) (Or.inl ⟨by rfl, ?_⟩) ?_ ?_
  rotate_left
  · intro w'
    go_simp
    with_reducible rfl
  rotate_left
  · simp only [Act.put, List.setIfInBounds_toArray, List.set_cons_zero, List.set_cons_succ, i64_w, i32_w]
    rfl
  refine pure_ (i := 2) (N := some 41) (v := ?_) (a' := ?_) #[true, true, true, false, false, false, false, false, false, false, false, false, false, false, false, false, false, false, false, false, false, false, false, false, false, false, false, false, false, false, false, false, false, false, false, false, false, false, false, false, false, false, false, false, false, false, false, false] rfl rfl (by kernel_rfl) (fun _ _ _ h => h) (Or.inl ⟨by rfl, ?_⟩) ?_ ?_
  rotate_left
  · intro w'
    go_simp
    with_reducible rfl
  rotate_left
  · simp only [Act.put, List.setIfInBounds_toArray, List.set_cons_zero, List.set_cons_succ, i64_w, i32_w]
    rfl
  refine pure_ (i := 3) (N := some 42) (v := ?_) (a' := ?_) #[true, true, true, true, false, false, false, false, false, false, false, false, false, false, false, false, false, false, false, false, false, false, false, false, false, false, false, false, false, false, false, false, false, false, false, false, false, false, false, false, false, false, false, false, false, false, false, false] rfl rfl (by kernel_rfl) (fun _ _ _ h => h) (Or.inl ⟨by rfl, ?_⟩) ?_ ?_
  rotate_left
  · intro w'
    go_simp
    with_reducible rfl
  rotate_left
  · simp only [Act.put, List.setIfInBounds_toArray, List.set_cons_zero, List.set_cons_succ, i64_w, i32_w]
    rfl
  refine pure_ (i := 4) (N := some 43) (v := ?_) (a' := ?_) #[true, true, true, true, true, false, false, false, false, false, false, false, false, false, false, false, false, false, false, false, false, false, false, false, false, false, false, false, false, false, false, false, false, false, false, false, false, false, false, false, false, false, false, false, false, false, false, false] rfl rfl (by kernel_rfl) (fun _ _ _ h => h) (Or.inl ⟨by rfl, ?_⟩) ?_ ?_
  rotate_left
  · intro w'
    go_simp
    with_reducible rfl
  rotate_left
  · simp only [Act.put, List.setIfInBounds_toArray, List.set_cons_zero, List.set_cons_succ, i64_w, i32_w]
    rfl
  refine pure_ (i := 5) (N := some 44) (v := ?_) (a' := ?_) #[true, true, true, true, true, true, false, false, false, false, false, false, false, false, false, false, false, false, false, false, false, false, false, false, false, false, false, false, false, false, false, false, false, false, false, false, false, false, false, false, false, false, false, false, false, false, false, false] rfl rfl (by kernel_rfl) (fun _ _ _ h => h) (Or.inl ⟨by rfl, ?_⟩) ?_ ?_
  rotate_left
  · intro w'
    go_simp
    with_reducible rfl
  rotate_left
  · simp only [Act.put, List.setIfInBounds_toArray, List.set_cons_zero, List.set_cons_succ, i64_w, i32_w]
    rfl
  refine pure_ (i := 7) (N := some 46) (v := ?_) (a' := ?_) #[true, true, true, true, true, true, false, true, false, false, false, false, false, false, false, false, false, false, false, false, false, false, false, false, false, false, false, false, false, false, false, false, false, false, false, false, false, false, false, false, false, false, false, false, false, false, false, false] rfl rfl (by kernel_rfl) (fun _ _ _ h => h) (Or.inl ⟨by rfl, ?_⟩) ?_ ?_
  rotate_left
  · intro w'
    go_simp
    with_reducible rfl
  rotate_left
  · simp only [Act.put, List.setIfInBounds_toArray, List.set_cons_zero, List.set_cons_succ, i64_w, i32_w]
    rfl
  refine take_ (i := 6) (N := some 45) (v := ?_) (a' := ?_) #[true, true, true, true, true, true, true, true, false, false, false, false, false, false, false, false, false, false, false, false, false, false, false, false, false, false, false, false, false, false, false, false, false, false, false, false, false, false, false, false, false, false, false, false, false, false, false, false] rfl rfl (by kernel_rfl) (fun _ _ _ h => h) (Or.inl ⟨by rfl, ?_⟩) hHeld ?_ ?_
  rotate_left
  · rintro w' ⟨s0, s1, s2, s3, s4, s5, s6, s7, s8, s9⟩
    go_simp
    with_reducible rfl
  rotate_left
  · simp only [Act.put, List.setIfInBounds_toArray, List.set_cons_zero, List.set_cons_succ, i64_w, i32_w]
    rfl
  refine take_ (i := 8) (N := some 47) (v := ?_) (a' := ?_) #[true, true, true, true, true, true, true, true, true, false, false, false, false, false, false, false, false, false, false, false, false, false, false, false, false, false, false, false, false, false, false, false, false, false, false, false, false, false, false, false, false, false, false, false, false, false, false, false] rfl rfl (by kernel_rfl) (fun _ _ _ h => h) (Or.inl ⟨by rfl, ?_⟩) hHeld ?_ ?_
  rotate_left
  · rintro w' ⟨s0, s1, s2, s3, s4, s5, s6, s7, s8, s9⟩
    go_simp
    with_reducible rfl
  rotate_left
  · simp only [Act.put, List.setIfInBounds_toArray, List.set_cons_zero, List.set_cons_succ, i64_w, i32_w]
    rfl
  refine pure_ (i := 9) (N := some 48) (v := ?_) (a' := ?_) #[true, true, true, true, true, true, true, true, true, true, false, false, false, false, false, false, false, false, false, false, false, false, false, false, false, false, false, false, false, false, false, false, false, false, false, false, false, false, false, false, false, false, false, false, false, false, false, false] rfl rfl (by kernel_rfl) (fun _ _ _ h => h) (Or.inl ⟨by rfl, ?_⟩) ?_ ?_
  rotate_left
  · intro w'
    go_simp
    with_reducible rfl
  rotate_left
  · simp only [Act.put, List.setIfInBounds_toArray, List.set_cons_zero, List.set_cons_succ, i64_w, i32_w]
    rfl
  refine pure_ (i := 10) (N := some 49) (v := ?_) (a' := ?_) #[true, true, true, true, true, true, true, true, true, true, true, false, false, false, false, false, false, false, false, false, false, false, false, false, false, false, false, false, false, false, false, false, false, false, false, false, false, false, false, false, false, false, false, false, false, false, false, false] rfl rfl (by kernel_rfl) (fun _ _ _ h => h) (Or.inl ⟨by rfl, ?_⟩) ?_ ?_
  rotate_left
  · intro w'
    go_simp
    with_reducible rfl
  rotate_left
  · simp only [Act.put, List.setIfInBounds_toArray, List.set_cons_zero, List.set_cons_succ, i64_w, i32_w]
    rfl
  refine pure_ (i := 11) (N := some 50) (v := ?_) (a' := ?_) #[true, true, true, true, true, true, true, true, true, true, true, true, false, false, false, false, false, false, false, false, false, false, false, false, false, false, false, false, false, false, false, false, false, false, false, false, false, false, false, false, false, false, false, false, false, false, false, false] rfl rfl (by kernel_rfl) (fun _ _ _ h => h) (Or.inl ⟨by rfl, ?_⟩) ?_ ?_
  rotate_left
  · intro w'
    go_simp
    with_reducible rfl
  rotate_left
  · simp only [Act.put, List.setIfInBounds_toArray, List.set_cons_zero, List.set_cons_succ, i64_w, i32_w]
    rfl
  refine pure_ (i := 12) (N := some 51) (v := ?_) (a' := ?_) #[true, true, true, true, true, true, true, true, true, true, true, true, true, false, false, false, false, false, false, false, false, false, false, false, false, false, false, false, false, false, false, false, false, false, false, false, false, false, false, false, false, false, false, false, false, false, false, false] rfl rfl (by kernel_rfl) (fun _ _ _ h => h) (Or.inl ⟨by rfl, ?_⟩) ?_ ?_
  rotate_left
  · intro w'
    go_simp
    with_reducible rfl
  rotate_left
  · simp only [Act.put, List.setIfInBounds_toArray, List.set_cons_zero, List.set_cons_succ, i64_w, i32_w]
    rfl
  refine pure_ (i := 13) (N := some 52) (v := ?_) (a' := ?_) #[true, true, true, true, true, true, true, true, true, true, true, true, true, true, false, false, false, false, false, false, false, false, false, false, false, false, false, false, false, false, false, false, false, false, false, false, false, false, false, false, false, false, false, false, false, false, false, false] rfl rfl (by kernel_rfl) (fun _ _ _ h => h) (Or.inl ⟨by rfl, ?_⟩) ?_ ?_
  rotate_left
  · intro w'
    go_simp
    with_reducible rfl
  rotate_left
  · simp only [Act.put, List.setIfInBounds_toArray, List.set_cons_zero, List.set_cons_succ, i64_w, i32_w]
    rfl
  refine pure_ (i := 14) (N := some 53) (v := ?_) (a' := ?_) #[true, true, true, true, true, true, true, true, true, true, true, true, true, true, true, false, false, false, false, false, false, false, false, false, false, false, false, false, false, false, false, false, false, false, false, false, false, false, false, false, false, false, false, false, false, false, false, false] rfl rfl (by kernel_rfl) (fun _ _ _ h => h) (Or.inl ⟨by rfl, ?_⟩) ?_ ?_
  rotate_left
  · intro w'
    go_simp
    with_reducible rfl
  rotate_left
  · simp only [Act.put, List.setIfInBounds_toArray, List.set_cons_zero, List.set_cons_succ, i64_w, i32_w]
    rfl
  refine pure_ (i := 16) (N := some 55) (v := ?_) (a' := ?_) #[true, true, true, true, true, true, true, true, true, true, true, true, true, true, true, false, true, false, false, false, false, false, false, false, false, false, false, false, false, false, false, false, false, false, false, false, false, false, false, false, false, false, false, false, false, false, false, false] rfl rfl (by kernel_rfl) (fun _ _ _ h => h) (Or.inl ⟨by rfl, ?_⟩) ?_ ?_
  rotate_left
  · intro w'
    go_simp
    with_reducible rfl
  rotate_left
  · simp only [Act.put, List.setIfInBounds_toArray, List.set_cons_zero, List.set_cons_succ, i64_w, i32_w]
    rfl
  refine pure_ (i := 19) (N := some 58) (v := ?_) (a' := ?_) #[true, true, true, true, true, true, true, true, true, true, true, true, true, true, true, false, true, false, false, true, false, false, false, false, false, false, false, false, false, false, false, false, false, false, false, false, false, false, false, false, false, false, false, false, false, false, false, false] rfl rfl (by kernel_rfl) (fun _ _ _ h => h) (Or.inl ⟨by rfl, ?_⟩) ?_ ?_
  rotate_left
  · intro w'
    go_simp
    with_reducible rfl
  rotate_left
  · simp only [Act.put, List.setIfInBounds_toArray, List.set_cons_zero, List.set_cons_succ, i64_w, i32_w]
    rfl
  refine pure_ (i := 20) (N := some 59) (v := ?_) (a' := ?_) #[true, true, true, true, true, true, true, true, true, true, true, true, true, true, true, false, true, false, false, true, true, false, false, false, false, false, false, false, false, false, false, false, false, false, false, false, false, false, false, false, false, false, false, false, false, false, false, false] rfl rfl (by kernel_rfl) (fun _ _ _ h => h) (Or.inl ⟨by rfl, ?_⟩) ?_ ?_
  rotate_left
  · intro w'
    go_simp
    with_reducible rfl
  rotate_left
  · simp only [Act.put, List.setIfInBounds_toArray, List.set_cons_zero, List.set_cons_succ, i64_w, i32_w]
    rfl
  refine pure_ (i := 22) (N := some 61) (v := ?_) (a' := ?_) #[true, true, true, true, true, true, true, true, true, true, true, true, true, true, true, false, true, false, false, true, true, false, true, false, false, false, false, false, false, false, false, false, false, false, false, false, false, false, false, false, false, false, false, false, false, false, false, false] rfl rfl (by kernel_rfl) (fun _ _ _ h => h) (Or.inl ⟨by rfl, ?_⟩) ?_ ?_
  rotate_left
  · intro w'
    go_simp
    with_reducible rfl
  rotate_left
  · simp only [Act.put, List.setIfInBounds_toArray, List.set_cons_zero, List.set_cons_succ, i64_w, i32_w]
    rfl
  refine pure_ (i := 26) (N := some 65) (v := ?_) (a' := ?_) #[true, true, true, true, true, true, true, true, true, true, true, true, true, true, true, false, true, false, false, true, true, false, true, false, false, false, true, false, false, false, false, false, false, false, false, false, false, false, false, false, false, false, false, false, false, false, false, false] rfl rfl (by kernel_rfl) (fun _ _ _ h => h) (Or.inl ⟨by rfl, ?_⟩) ?_ ?_
  rotate_left
  · intro w'
    go_simp
    with_reducible rfl
  rotate_left
  · simp only [Act.put, List.setIfInBounds_toArray, List.set_cons_zero, List.set_cons_succ, i64_w, i32_w]
    rfl
  refine take_ (i := 15) (N := some 54) (v := ?_) (a' := ?_) #[true, true, true, true, true, true, true, true, true, true, true, true, true, true, true, true, true, false, false, true, true, false, true, false, false, false, true, false, false, false, false, false, false, false, false, false, false, false, false, false, false, false, false, false, false, false, false, false] rfl rfl (by kernel_rfl) (fun _ _ _ h => h) (Or.inl ⟨by rfl, ?_⟩) hHeld ?_ ?_
  rotate_left
  · rintro w' ⟨s0, s1, s2, s3, s4, s5, s6, s7, s8, s9⟩
    go_simp
    with_reducible rfl
  rotate_left
  · simp only [Act.put, List.setIfInBounds_toArray, List.set_cons_zero, List.set_cons_succ, i64_w, i32_w]
    rfl
  refine take_ (i := 17) (N := some 56) (v := ?_) (a' := ?_) #[true, true, true, true, true, true, true, true, true, true, true, true, true, true, true, true, true, true, false, true, true, false, true, false, false, false, true, false, false, false, false, false, false, false, false, false, false, false, false, false, false, false, false, false, false, false, false, false] rfl rfl (by kernel_rfl) (fun _ _ _ h => h) (Or.inl ⟨by rfl, ?_⟩) hHeld ?_ ?_
  rotate_left
  · rintro w' ⟨s0, s1, s2, s3, s4, s5, s6, s7, s8, s9⟩
    go_simp
    with_reducible rfl
  rotate_left
  · simp only [Act.put, List.setIfInBounds_toArray, List.set_cons_zero, List.set_cons_succ, i64_w, i32_w]
    rfl
  refine take_ (i := 21) (N := some 60) (v := ?_) (a' := ?_) #[true, true, true, true, true, true, true, true, true, true, true, true, true, true, true, true, true, true, false, true, true, true, true, false, false, false, true, false, false, false, false, false, false, false, false, false, false, false, false, false, false, false, false, false, false, false, false, false] rfl rfl (by kernel_rfl) (fun _ _ _ h => h) (Or.inl ⟨by rfl, ?_⟩) hHeld ?_ ?_
  rotate_left
  · rintro w' ⟨s0, s1, s2, s3, s4, s5, s6, s7, s8, s9⟩
    go_simp
    with_reducible rfl
  rotate_left
  · simp only [Act.put, List.setIfInBounds_toArray, List.set_cons_zero, List.set_cons_succ, i64_w, i32_w]
    rfl
  refine take_ (i := 23) (N := some 62) (v := ?_) (a' := ?_) #[true, true, true, true, true, true, true, true, true, true, true, true, true, true, true, true, true, true, false, true, true, true, true, true, false, false, true, false, false, false, false, false, false, false, false, false, false, false, false, false, false, false, false, false, false, false, false, false] rfl rfl (by kernel_rfl) (fun _ _ _ h => h) (Or.inl ⟨by rfl, ?_⟩) hHeld ?_ ?_
  rotate_left
  · rintro w' ⟨s0, s1, s2, s3, s4, s5, s6, s7, s8, s9⟩
    go_simp
    with_reducible rfl
  rotate_left
  · simp only [Act.put, List.setIfInBounds_toArray, List.set_cons_zero, List.set_cons_succ, i64_w, i32_w]
    rfl
  refine one_ (i := 18) (N := some 57) #[true, true, true, true, true, true, true, true, true, true, true, true, true, true, true, true, true, true, true, true, true, true, true, true, false, false, true, false, false, false, false, false, false, false, false, false, false, false, false, false, false, false, false, false, false, false, false, false] rfl rfl (by kernel_rfl) (by decide) (fun K hK => ?_)
  have ch := hang_sound O3d.out t x
  rw [hang_tr TX.out LX.out] at ch
  have CH := Lib.hid ch; clear ch
  refine goes_ Try.func63 (by kernel_rfl) rfl #[.pointer (some ⟨p, 0, none⟩), .int .i64 t, .int .i64 x] (by rfl) rfl rfl (by simp only [List.map_toArray, List.map_cons, List.map_nil]; rfl) ?_
  with_reducible refine (CH.out).mono ?_
  rintro e w4 ⟨rfl, b4⟩
  refine ⟨_, rfl, ?_⟩
  have z4 := b4.size
  try simp at z4
  have O4 := Lib.hid (O3d.out.below b4)
  have M4 := Lib.hid (MapOf.below M3d.out b4)
  have F4 := Lib.hid (F3d.out.next (Frame.of_below b4))
  refine hK.out _ _ ⟨((b4.cell (by first | omega | (simp; done) | (simp; omega))).trans hHeld.1), ((b4.cell (by first | omega | (simp; done) | (simp; omega))).trans hHeld.2.1), ((b4.cell (by first | omega | (simp; done) | (simp; omega))).trans hHeld.2.2.1), ((b4.cell (by first | omega | (simp; done) | (simp; omega))).trans hHeld.2.2.2.1), ((b4.cell (by first | omega | (simp; done) | (simp; omega))).trans hHeld.2.2.2.2.1), ((b4.cell (by first | omega | (simp; done) | (simp; omega))).trans hHeld.2.2.2.2.2.1), ((b4.cell (by first | omega | (simp; done) | (simp; omega))).trans hHeld.2.2.2.2.2.2.1), ((b4.cell (by first | omega | (simp; done) | (simp; omega))).trans hHeld.2.2.2.2.2.2.2.1), ((b4.cell (by first | omega | (simp; done) | (simp; omega))).trans hHeld.2.2.2.2.2.2.2.2.1), ((b4.cell (by first | omega | (simp; done) | (simp; omega))).trans hHeld.2.2.2.2.2.2.2.2.2)⟩ (fun hHeld => ?_)
  clear hK K
  refine norm_ (a' := ?_) ?_ ?_
  rotate_left
  · show Act.put _ (some 57) _ = _
    simp only [Act.put, List.setIfInBounds_toArray, List.set_cons_zero, List.set_cons_succ, i64_w, i32_w]
    rfl
  refine one_ (i := 24) (N := some 63) #[true, true, true, true, true, true, true, true, true, true, true, true, true, true, true, true, true, true, true, true, true, true, true, true, true, false, true, false, false, false, false, false, false, false, false, false, false, false, false, false, false, false, false, false, false, false, false, false] rfl rfl (by kernel_rfl) (by decide) (fun K hK => ?_)
  have ch := hang_sound O4.out u x2
  rw [hang_tr TX2.out LX2.out] at ch
  have CH := Lib.hid ch; clear ch
  refine goes_ Try.func63 (by kernel_rfl) rfl #[.pointer (some ⟨p, 0, none⟩), .int .i64 u, .int .i64 x2] (by rfl) rfl rfl (by simp only [List.map_toArray, List.map_cons, List.map_nil]; rfl) ?_
  with_reducible refine (CH.out).mono ?_
  rintro e w5 ⟨rfl, b5⟩
  refine ⟨_, rfl, ?_⟩
  have z5 := b5.size
  try simp at z5
  have O5 := Lib.hid (O4.out.below b5)
  have M5 := Lib.hid (MapOf.below M4.out b5)
  have F5 := Lib.hid (F4.out.next (Frame.of_below b5))
  refine hK.out _ _ ⟨((b5.cell (by first | omega | (simp; done) | (simp; omega))).trans hHeld.1), ((b5.cell (by first | omega | (simp; done) | (simp; omega))).trans hHeld.2.1), ((b5.cell (by first | omega | (simp; done) | (simp; omega))).trans hHeld.2.2.1), ((b5.cell (by first | omega | (simp; done) | (simp; omega))).trans hHeld.2.2.2.1), ((b5.cell (by first | omega | (simp; done) | (simp; omega))).trans hHeld.2.2.2.2.1), ((b5.cell (by first | omega | (simp; done) | (simp; omega))).trans hHeld.2.2.2.2.2.1), ((b5.cell (by first | omega | (simp; done) | (simp; omega))).trans hHeld.2.2.2.2.2.2.1), ((b5.cell (by first | omega | (simp; done) | (simp; omega))).trans hHeld.2.2.2.2.2.2.2.1), ((b5.cell (by first | omega | (simp; done) | (simp; omega))).trans hHeld.2.2.2.2.2.2.2.2.1), ((b5.cell (by first | omega | (simp; done) | (simp; omega))).trans hHeld.2.2.2.2.2.2.2.2.2)⟩ (fun hHeld => ?_)
  clear hK K
  refine norm_ (a' := ?_) ?_ ?_
  rotate_left
  · show Act.put _ (some 63) _ = _
    simp only [Act.put, List.setIfInBounds_toArray, List.set_cons_zero, List.set_cons_succ, i64_w, i32_w]
    rfl
  refine pure_ (i := 25) (N := some 64) (v := ?_) (a' := ?_) #[true, true, true, true, true, true, true, true, true, true, true, true, true, true, true, true, true, true, true, true, true, true, true, true, true, true, true, false, false, false, false, false, false, false, false, false, false, false, false, false, false, false, false, false, false, false, false, false] rfl rfl (by kernel_rfl) (fun _ _ _ h => h) (Or.inl ⟨by rfl, ?_⟩) ?_ ?_
  rotate_left
  · intro w'
    go_simp
    with_reducible rfl
  rotate_left
  · simp only [Act.put, List.setIfInBounds_toArray, List.set_cons_zero, List.set_cons_succ, i64_w, i32_w]
    rfl
  refine one_ (i := 27) (N := some 66) #[true, true, true, true, true, true, true, true, true, true, true, true, true, true, true, true, true, true, true, true, true, true, true, true, true, true, true, true, false, false, false, false, false, false, false, false, false, false, false, false, false, false, false, false, false, false, false, false] rfl rfl (by kernel_rfl) (by decide) (fun K hK => ?_)
  have cs := IH1.out _ _ _ _ _ _ O5.out M5.out HCK.out HI.out (by have := HB.out; omega)
  unfold SamePost at cs
  rw [HD1.out] at cs
  have CS := Lib.hid cs; clear cs
  refine goes_ Try.func42 (by kernel_rfl) rfl #[.pointer (some ⟨p, 0, none⟩), .agg #[.int .i64 x, .int .i64 x2], .map (some mb)] (by rfl) rfl rfl (by simp only [List.map_toArray, List.map_cons, List.map_nil]; rfl) ?_
  with_reducible refine (CS.out).mono ?_
  rintro e w6 ⟨rfl, ⟨n6, D6, hm6, hi6, hn6⟩, fr6⟩
  refine ⟨_, rfl, ?_⟩
  have z6 := fr6.size
  have M6 := Lib.hid hm6; have I6 := Lib.hid hi6; have FRR6 := Lib.hid fr6
  have O6 := Lib.hid (O5.out.frame fr6 (fun b hb e => HCK.out (e ▸ hb)))
  have F6 := Lib.hid (F5.out.next fr6)
  clear hm6 hi6 fr6
  refine hK.out _ _ ⟨((FRR6.out.cellO (by first | omega | (simp; done) | (simp; omega)) HMB.out).trans hHeld.1), ((FRR6.out.cellO (by first | omega | (simp; done) | (simp; omega)) HMB.out).trans hHeld.2.1), ((FRR6.out.cellO (by first | omega | (simp; done) | (simp; omega)) HM2.out).trans hHeld.2.2.1), ((FRR6.out.cellO (by first | omega | (simp; done) | (simp; omega)) HM2.out).trans hHeld.2.2.2.1), ((FRR6.out.cellO (by first | omega | (simp; done) | (simp; omega)) HM2.out).trans hHeld.2.2.2.2.1), ((FRR6.out.cellO (by first | omega | (simp; done) | (simp; omega)) HM2.out).trans hHeld.2.2.2.2.2.1), ((FRR6.out.cellO (by first | omega | (simp; done) | (simp; omega)) HM3.out).trans hHeld.2.2.2.2.2.2.1), ((FRR6.out.cellO (by first | omega | (simp; done) | (simp; omega)) HM3.out).trans hHeld.2.2.2.2.2.2.2.1), ((FRR6.out.cellO (by first | omega | (simp; done) | (simp; omega)) HM3.out).trans hHeld.2.2.2.2.2.2.2.2.1), ((FRR6.out.cellO (by first | omega | (simp; done) | (simp; omega)) HM3.out).trans hHeld.2.2.2.2.2.2.2.2.2)⟩ (fun hHeld => ?_)
  clear hK K
  refine norm_ (a' := ?_) ?_ ?_
  rotate_left
  · show Act.put _ (some 66) _ = _
    simp only [Act.put, List.setIfInBounds_toArray, List.set_cons_zero, List.set_cons_succ, i64_w, i32_w]
    rfl
  refine pure_ (i := 28) (N := some 67) (v := ?_) (a' := ?_) #[true, true, true, true, true, true, true, true, true, true, true, true, true, true, true, true, true, true, true, true, true, true, true, true, true, true, true, true, true, false, false, false, false, false, false, false, false, false, false, false, false, false, false, false, false, false, false, false] rfl rfl (by kernel_rfl) (fun _ _ _ h => h) (Or.inl ⟨by rfl, ?_⟩) ?_ ?_
  rotate_left
  · intro w'
    go_simp
    with_reducible rfl
  rotate_left
  · simp only [Act.put, List.setIfInBounds_toArray, List.set_cons_zero, List.set_cons_succ, i64_w, i32_w]
    rfl
  refine pure_ (i := 29) (N := some 68) (v := ?_) (a' := ?_) #[true, true, true, true, true, true, true, true, true, true, true, true, true, true, true, true, true, true, true, true, true, true, true, true, true, true, true, true, true, true, false, false, false, false, false, false, false, false, false, false, false, false, false, false, false, false, false, false] rfl rfl (by kernel_rfl) (fun _ _ _ h => h) (Or.inl ⟨by rfl, ?_⟩) ?_ ?_
  rotate_left
  · intro w'
    go_simp
    with_reducible rfl
  rotate_left
  · simp only [Act.put, List.setIfInBounds_toArray, List.set_cons_zero, List.set_cons_succ, i64_w, i32_w]
    rfl
  refine pure_ (i := 30) (N := some 69) (v := ?_) (a' := ?_) #[true, true, true, true, true, true, true, true, true, true, true, true, true, true, true, true, true, true, true, true, true, true, true, true, true, true, true, true, true, true, true, false, false, false, false, false, false, false, false, false, false, false, false, false, false, false, false, false] rfl rfl (by kernel_rfl) (fun _ _ _ h => h) (Or.inl ⟨by rfl, ?_⟩) ?_ ?_
  rotate_left
  · intro w'
    go_simp
    with_reducible rfl
  rotate_left
  · simp only [Act.put, List.setIfInBounds_toArray, List.set_cons_zero, List.set_cons_succ, i64_w, i32_w]
    rfl
  refine pure_ (i := 31) (N := some 70) (v := ?_) (a' := ?_) #[true, true, true, true, true, true, true, true, true, true, true, true, true, true, true, true, true, true, true, true, true, true, true, true, true, true, true, true, true, true, true, true, false, false, false, false, false, false, false, false, false, false, false, false, false, false, false, false] rfl rfl (by kernel_rfl) (fun _ _ _ h => h) (Or.inl ⟨by rfl, ?_⟩) ?_ ?_
  rotate_left
  · intro w'
    go_simp
    with_reducible rfl
  rotate_left
  · simp only [Act.put, List.setIfInBounds_toArray, List.set_cons_zero, List.set_cons_succ, i64_w, i32_w]
    rfl
  refine pure_ (i := 32) (N := some 71) (v := ?_) (a' := ?_) #[true, true, true, true, true, true, true, true, true, true, true, true, true, true, true, true, true, true, true, true, true, true, true, true, true, true, true, true, true, true, true, true, true, false, false, false, false, false, false, false, false, false, false, false, false, false, false, false] rfl rfl (by kernel_rfl) (fun _ _ _ h => h) (Or.inl ⟨by rfl, ?_⟩) ?_ ?_
  rotate_left
  · intro w'
    go_simp
    with_reducible rfl
  rotate_left
  · simp only [Act.put, List.setIfInBounds_toArray, List.set_cons_zero, List.set_cons_succ, i64_w, i32_w]
    rfl
  refine pure_ (i := 34) (N := some 73) (v := ?_) (a' := ?_) #[true, true, true, true, true, true, true, true, true, true, true, true, true, true, true, true, true, true, true, true, true, true, true, true, true, true, true, true, true, true, true, true, true, false, true, false, false, false, false, false, false, false, false, false, false, false, false, false] rfl rfl (by kernel_rfl) (fun _ _ _ h => h) (Or.inl ⟨by rfl, ?_⟩) ?_ ?_
  rotate_left
  · intro w'
    go_simp
    with_reducible rfl
  rotate_left
  · simp only [Act.put, List.setIfInBounds_toArray, List.set_cons_zero, List.set_cons_succ, i64_w, i32_w]
    rfl
  refine pure_ (i := 37) (N := some 76) (v := ?_) (a' := ?_) #[true, true, true, true, true, true, true, true, true, true, true, true, true, true, true, true, true, true, true, true, true, true, true, true, true, true, true, true, true, true, true, true, true, false, true, false, false, true, false, false, false, false, false, false, false, false, false, false] rfl rfl (by kernel_rfl) (fun _ _ _ h => h) (Or.inl ⟨by rfl, ?_⟩) ?_ ?_
  rotate_left
  · intro w'
    go_simp
    with_reducible rfl
  rotate_left
  · simp only [Act.put, List.setIfInBounds_toArray, List.set_cons_zero, List.set_cons_succ, i64_w, i32_w]
    rfl
  refine pure_ (i := 38) (N := some 77) (v := ?_) (a' := ?_) #[true, true, true, true, true, true, true, true, true, true, true, true, true, true, true, true, true, true, true, true, true, true, true, true, true, true, true, true, true, true, true, true, true, false, true, false, false, true, true, false, false, false, false, false, false, false, false, false] rfl rfl (by kernel_rfl) (fun _ _ _ h => h) (Or.inl ⟨by rfl, ?_⟩) ?_ ?_
  rotate_left
  · intro w'
    go_simp
    with_reducible rfl
  rotate_left
  · simp only [Act.put, List.setIfInBounds_toArray, List.set_cons_zero, List.set_cons_succ, i64_w, i32_w]
    rfl
  refine pure_ (i := 40) (N := some 79) (v := ?_) (a' := ?_) #[true, true, true, true, true, true, true, true, true, true, true, true, true, true, true, true, true, true, true, true, true, true, true, true, true, true, true, true, true, true, true, true, true, false, true, false, false, true, true, false, true, false, false, false, false, false, false, false] rfl rfl (by kernel_rfl) (fun _ _ _ h => h) (Or.inl ⟨by rfl, ?_⟩) ?_ ?_
  rotate_left
  · intro w'
    go_simp
    with_reducible rfl
  rotate_left
  · simp only [Act.put, List.setIfInBounds_toArray, List.set_cons_zero, List.set_cons_succ, i64_w, i32_w]
    rfl
  refine pure_ (i := 44) (N := some 83) (v := ?_) (a' := ?_) #[true, true, true, true, true, true, true, true, true, true, true, true, true, true, true, true, true, true, true, true, true, true, true, true, true, true, true, true, true, true, true, true, true, false, true, false, false, true, true, false, true, false, false, false, true, false, false, false] rfl rfl (by kernel_rfl) (fun _ _ _ h => h) (Or.inl ⟨by rfl, ?_⟩) ?_ ?_
  rotate_left
  · intro w'
    go_simp
    with_reducible rfl
  rotate_left
  · simp only [Act.put, List.setIfInBounds_toArray, List.set_cons_zero, List.set_cons_succ, i64_w, i32_w]
    rfl
  refine take_ (i := 33) (N := some 72) (v := ?_) (a' := ?_) #[true, true, true, true, true, true, true, true, true, true, true, true, true, true, true, true, true, true, true, true, true, true, true, true, true, true, true, true, true, true, true, true, true, true, true, false, false, true, true, false, true, false, false, false, true, false, false, false] rfl rfl (by kernel_rfl) (fun _ _ _ h => h) (Or.inl ⟨by rfl, ?_⟩) hHeld ?_ ?_
  rotate_left
  · rintro w' ⟨s0, s1, s2, s3, s4, s5, s6, s7, s8, s9⟩
    go_simp
    with_reducible rfl
  rotate_left
  · simp only [Act.put, List.setIfInBounds_toArray, List.set_cons_zero, List.set_cons_succ, i64_w, i32_w]
    rfl
  refine take_ (i := 35) (N := some 74) (v := ?_) (a' := ?_) #[true, true, true, true, true, true, true, true, true, true, true, true, true, true, true, true, true, true, true, true, true, true, true, true, true, true, true, true, true, true, true, true, true, true, true, true, false, true, true, false, true, false, false, false, true, false, false, false] rfl rfl (by kernel_rfl) (fun _ _ _ h => h) (Or.inl ⟨by rfl, ?_⟩) hHeld ?_ ?_
  rotate_left
  · rintro w' ⟨s0, s1, s2, s3, s4, s5, s6, s7, s8, s9⟩
    go_simp
    with_reducible rfl
  rotate_left
  · simp only [Act.put, List.setIfInBounds_toArray, List.set_cons_zero, List.set_cons_succ, i64_w, i32_w]
    rfl
  refine take_ (i := 39) (N := some 78) (v := ?_) (a' := ?_) #[true, true, true, true, true, true, true, true, true, true, true, true, true, true, true, true, true, true, true, true, true, true, true, true, true, true, true, true, true, true, true, true, true, true, true, true, false, true, true, true, true, false, false, false, true, false, false, false] rfl rfl (by kernel_rfl) (fun _ _ _ h => h) (Or.inl ⟨by rfl, ?_⟩) hHeld ?_ ?_
  rotate_left
  · rintro w' ⟨s0, s1, s2, s3, s4, s5, s6, s7, s8, s9⟩
    go_simp
    with_reducible rfl
  rotate_left
  · simp only [Act.put, List.setIfInBounds_toArray, List.set_cons_zero, List.set_cons_succ, i64_w, i32_w]
    rfl
  refine take_ (i := 41) (N := some 80) (v := ?_) (a' := ?_) #[true, true, true, true, true, true, true, true, true, true, true, true, true, true, true, true, true, true, true, true, true, true, true, true, true, true, true, true, true, true, true, true, true, true, true, true, false, true, true, true, true, true, false, false, true, false, false, false] rfl rfl (by kernel_rfl) (fun _ _ _ h => h) (Or.inl ⟨by rfl, ?_⟩) hHeld ?_ ?_
  rotate_left
  · rintro w' ⟨s0, s1, s2, s3, s4, s5, s6, s7, s8, s9⟩
    go_simp
    with_reducible rfl
  rotate_left
  · simp only [Act.put, List.setIfInBounds_toArray, List.set_cons_zero, List.set_cons_succ, i64_w, i32_w]
    rfl
  refine one_ (i := 36) (N := some 75) #[true, true, true, true, true, true, true, true, true, true, true, true, true, true, true, true, true, true, true, true, true, true, true, true, true, true, true, true, true, true, true, true, true, true, true, true, true, true, true, true, true, true, false, false, true, false, false, false] rfl rfl (by kernel_rfl) (by decide) (fun K hK => ?_)
  have ch := hang_sound O6.out t y
  rw [hang_tr TY.out LY.out] at ch
  have CH := Lib.hid ch; clear ch
  refine goes_ Try.func63 (by kernel_rfl) rfl #[.pointer (some ⟨p, 0, none⟩), .int .i64 t, .int .i64 y] (by rfl) rfl rfl (by simp only [List.map_toArray, List.map_cons, List.map_nil]; rfl) ?_
  with_reducible refine (CH.out).mono ?_
  rintro e w7 ⟨rfl, b7⟩
  refine ⟨_, rfl, ?_⟩
  have z7 := b7.size
  try simp at z7
  have O7 := Lib.hid (O6.out.below b7)
  have M7 := Lib.hid (MapOf.below M6.out b7)
  have F7 := Lib.hid (F6.out.next (Frame.of_below b7))
  refine hK.out _ _ ⟨((b7.cell (by first | omega | (simp; done) | (simp; omega))).trans hHeld.1), ((b7.cell (by first | omega | (simp; done) | (simp; omega))).trans hHeld.2.1), ((b7.cell (by first | omega | (simp; done) | (simp; omega))).trans hHeld.2.2.1), ((b7.cell (by first | omega | (simp; done) | (simp; omega))).trans hHeld.2.2.2.1), ((b7.cell (by first | omega | (simp; done) | (simp; omega))).trans hHeld.2.2.2.2.1), ((b7.cell (by first | omega | (simp; done) | (simp; omega))).trans hHeld.2.2.2.2.2.1), ((b7.cell (by first | omega | (simp; done) | (simp; omega))).trans hHeld.2.2.2.2.2.2.1), ((b7.cell (by first | omega | (simp; done) | (simp; omega))).trans hHeld.2.2.2.2.2.2.2.1), ((b7.cell (by first | omega | (simp; done) | (simp; omega))).trans hHeld.2.2.2.2.2.2.2.2.1), ((b7.cell (by first | omega | (simp; done) | (simp; omega))).trans hHeld.2.2.2.2.2.2.2.2.2)⟩ (fun hHeld => ?_)
  clear hK K
  refine norm_ (a' := ?_) ?_ ?_
  rotate_left
  · show Act.put _ (some 75) _ = _
    simp only [Act.put, List.setIfInBounds_toArray, List.set_cons_zero, List.set_cons_succ, i64_w, i32_w]
    rfl
  refine one_ (i := 42) (N := some 81) #[true, true, true, true, true, true, true, true, true, true, true, true, true, true, true, true, true, true, true, true, true, true, true, true, true, true, true, true, true, true, true, true, true, true, true, true, true, true, true, true, true, true, true, false, true, false, false, false] rfl rfl (by kernel_rfl) (by decide) (fun K hK => ?_)
  have ch := hang_sound O7.out u y2
  rw [hang_tr TY2.out LY2.out] at ch
  have CH := Lib.hid ch; clear ch
  refine goes_ Try.func63 (by kernel_rfl) rfl #[.pointer (some ⟨p, 0, none⟩), .int .i64 u, .int .i64 y2] (by rfl) rfl rfl (by simp only [List.map_toArray, List.map_cons, List.map_nil]; rfl) ?_
  with_reducible refine (CH.out).mono ?_
  rintro e w8 ⟨rfl, b8⟩
  refine ⟨_, rfl, ?_⟩
  have z8 := b8.size
  try simp at z8
  have O8 := Lib.hid (O7.out.below b8)
  have M8 := Lib.hid (MapOf.below M7.out b8)
  have F8 := Lib.hid (F7.out.next (Frame.of_below b8))
  refine hK.out _ _ ⟨((b8.cell (by first | omega | (simp; done) | (simp; omega))).trans hHeld.1), ((b8.cell (by first | omega | (simp; done) | (simp; omega))).trans hHeld.2.1), ((b8.cell (by first | omega | (simp; done) | (simp; omega))).trans hHeld.2.2.1), ((b8.cell (by first | omega | (simp; done) | (simp; omega))).trans hHeld.2.2.2.1), ((b8.cell (by first | omega | (simp; done) | (simp; omega))).trans hHeld.2.2.2.2.1), ((b8.cell (by first | omega | (simp; done) | (simp; omega))).trans hHeld.2.2.2.2.2.1), ((b8.cell (by first | omega | (simp; done) | (simp; omega))).trans hHeld.2.2.2.2.2.2.1), ((b8.cell (by first | omega | (simp; done) | (simp; omega))).trans hHeld.2.2.2.2.2.2.2.1), ((b8.cell (by first | omega | (simp; done) | (simp; omega))).trans hHeld.2.2.2.2.2.2.2.2.1), ((b8.cell (by first | omega | (simp; done) | (simp; omega))).trans hHeld.2.2.2.2.2.2.2.2.2)⟩ (fun hHeld => ?_)
  clear hK K
  refine norm_ (a' := ?_) ?_ ?_
  rotate_left
  · show Act.put _ (some 81) _ = _
    simp only [Act.put, List.setIfInBounds_toArray, List.set_cons_zero, List.set_cons_succ, i64_w, i32_w]
    rfl
  refine pure_ (i := 43) (N := some 82) (v := ?_) (a' := ?_) #[true, true, true, true, true, true, true, true, true, true, true, true, true, true, true, true, true, true, true, true, true, true, true, true, true, true, true, true, true, true, true, true, true, true, true, true, true, true, true, true, true, true, true, true, true, false, false, false] rfl rfl (by kernel_rfl) (fun _ _ _ h => h) (Or.inl ⟨by rfl, ?_⟩) ?_ ?_
  rotate_left
  · intro w'
    go_simp
    with_reducible rfl
  rotate_left
  · simp only [Act.put, List.setIfInBounds_toArray, List.set_cons_zero, List.set_cons_succ, i64_w, i32_w]
    rfl
  refine one_ (i := 45) (N := some 84) #[true, true, true, true, true, true, true, true, true, true, true, true, true, true, true, true, true, true, true, true, true, true, true, true, true, true, true, true, true, true, true, true, true, true, true, true, true, true, true, true, true, true, true, true, true, true, false, false] rfl rfl (by kernel_rfl) (by decide) (fun K hK => ?_)
  have cs := IH2.out _ _ _ _ _ _ O8.out M8.out HCK.out I6.out (by have := HB.out; omega)
  unfold SamePost at cs
  rw [HD2.out] at cs
  have CS := Lib.hid cs; clear cs
  refine goes_ Try.func42 (by kernel_rfl) rfl #[.pointer (some ⟨p, 0, none⟩), .agg #[.int .i64 y, .int .i64 y2], .map (some mb)] (by rfl) rfl rfl (by simp only [List.map_toArray, List.map_cons, List.map_nil]; rfl) ?_
  with_reducible refine (CS.out).mono ?_
  rintro e w9 ⟨rfl, ⟨n9, D9, hm9, hi9, hn9⟩, fr9⟩
  refine ⟨_, rfl, ?_⟩
  have z9 := fr9.size
  have M9 := Lib.hid hm9; have I9 := Lib.hid hi9; have FRR9 := Lib.hid fr9
  have O9 := Lib.hid (O8.out.frame fr9 (fun b hb e => HCK.out (e ▸ hb)))
  have F9 := Lib.hid (F8.out.next fr9)
  clear hm9 hi9 fr9
  refine hK.out _ _ ⟨((FRR9.out.cellO (by first | omega | (simp; done) | (simp; omega)) HMB.out).trans hHeld.1), ((FRR9.out.cellO (by first | omega | (simp; done) | (simp; omega)) HMB.out).trans hHeld.2.1), ((FRR9.out.cellO (by first | omega | (simp; done) | (simp; omega)) HM2.out).trans hHeld.2.2.1), ((FRR9.out.cellO (by first | omega | (simp; done) | (simp; omega)) HM2.out).trans hHeld.2.2.2.1), ((FRR9.out.cellO (by first | omega | (simp; done) | (simp; omega)) HM2.out).trans hHeld.2.2.2.2.1), ((FRR9.out.cellO (by first | omega | (simp; done) | (simp; omega)) HM2.out).trans hHeld.2.2.2.2.2.1), ((FRR9.out.cellO (by first | omega | (simp; done) | (simp; omega)) HM3.out).trans hHeld.2.2.2.2.2.2.1), ((FRR9.out.cellO (by first | omega | (simp; done) | (simp; omega)) HM3.out).trans hHeld.2.2.2.2.2.2.2.1), ((FRR9.out.cellO (by first | omega | (simp; done) | (simp; omega)) HM3.out).trans hHeld.2.2.2.2.2.2.2.2.1), ((FRR9.out.cellO (by first | omega | (simp; done) | (simp; omega)) HM3.out).trans hHeld.2.2.2.2.2.2.2.2.2)⟩ (fun hHeld => ?_)
  clear hK K
  refine norm_ (a' := ?_) ?_ ?_
  rotate_left
  · show Act.put _ (some 84) _ = _
    simp only [Act.put, List.setIfInBounds_toArray, List.set_cons_zero, List.set_cons_succ, i64_w, i32_w]
    rfl
  refine pure_ (i := 46) (N := some 85) (v := ?_) (a' := ?_) #[true, true, true, true, true, true, true, true, true, true, true, true, true, true, true, true, true, true, true, true, true, true, true, true, true, true, true, true, true, true, true, true, true, true, true, true, true, true, true, true, true, true, true, true, true, true, true, false] rfl rfl (by kernel_rfl) (fun _ _ _ h => h) (Or.inl ⟨by rfl, ?_⟩) ?_ ?_
  rotate_left
  · intro w'
    go_simp
    with_reducible rfl
  rotate_left
  · simp only [Act.put, List.setIfInBounds_toArray, List.set_cons_zero, List.set_cons_succ, i64_w, i32_w]
    rfl
  refine pure_ (i := 47) (N := some 12) (v := ?_) (a' := ?_) #[true, true, true, true, true, true, true, true, true, true, true, true, true, true, true, true, true, true, true, true, true, true, true, true, true, true, true, true, true, true, true, true, true, true, true, true, true, true, true, true, true, true, true, true, true, true, true, true] rfl rfl (by kernel_rfl) (fun _ _ _ h => h) (Or.inl ⟨by rfl, ?_⟩) ?_ ?_
  rotate_left
  · intro w'
    go_simp
    with_reducible rfl
  rotate_left
  · simp only [Act.put, List.setIfInBounds_toArray, List.set_cons_zero, List.set_cons_succ, i64_w, i32_w]
    rfl
  refine done_ (by kernel_rfl) ?_
  have P4x := (b4.block w.heap.size (by simp; omega)).trans (show (w3.alloc (.cells #[.int .i64 k, .int .i64 v, .int .i64 x2, .int .i64 y2, .int .i64 s2, .int .i64 g2] 41)).drew.heap[w.heap.size]? = some (.cells #[.int .i64 t, .int .i64 u] 80 (0, 0)) from P3.out)
  have P5x := (b5.block w.heap.size (by omega)).trans P4x
  have P6x := FRR6.out.keep P5x HMB.out
  have P7x := (b7.block w.heap.size (by omega)).trans P6x
  have P8x := (b8.block w.heap.size (by omega)).trans P7x
  have P9x := FRR9.out.keep P8x HMB.out
  have PZ := Lib.hid P9x
  have FZ := Lib.hid F9.out
  have x0 := cell_blk (i := 0) PZ.out rfl
  have x1 := cell_blk (i := 1) PZ.out rfl
  have hltz : w.heap.size < (w9).heap.size := (Array.getElem?_eq_some_iff.1 PZ.out).1
  go_wp2_with (first | (at_mapUpdate; have _t := tok1; refine wpList_mapUpdate_own _ rfl _ _ _ 81 rfl 80 3 snd_law Try.underlying81 _ mb (n9) (D9) rfl M9.out (by have := HB.out; unfold maxLen; omega) _ _ kl rfl rfl HKL.out _ [] (plainElem_int Try.underlying3 (wf64 (t := 2) (by omega) (by omega))) ?_; intro w20 hm20 hg20; have M20 := Lib.hid (show MapOf w20 mb (n9 + 1) ((D9).put kl (.lit (.int .i64 2))) from hm20); have P20 := Lib.hid ((hg20.block w.heap.size (Array.getElem?_eq_some_iff.1 PZ.out).1 (fun e => absurd (Option.some.inj e) HMB.out)).trans PZ.out); have F20 := Lib.hid (FZ.out.next ⟨hg20.os, hg20.tape, hg20.output, hg20.size, fun b hb hn => hg20.block b hb (fun e => hn (Option.some.inj e))⟩); have hl20 : w.heap.size < w20.heap.size := (Array.getElem?_eq_some_iff.1 P20.out).1; have x0 := cell_blk (i := 0) P20.out rfl; have x1 := cell_blk (i := 1) P20.out rfl; clear hm20 hg20; clear tok1) | (at_mapUpdate; refine wpList_mapUpdate_own _ rfl _ _ _ 81 rfl 80 3 snd_law Try.underlying81 _ mb (n9 + 1) ((D9).put kl (.lit (.int .i64 2))) rfl M20.out (by have := HB.out; unfold maxLen; omega) _ _ kl rfl rfl HKL.out _ [] (plainElem_int Try.underlying3 (wf64 (t := 1) (by omega) (by omega))) ?_; intro w21 hm21 hg21; have M21 := Lib.hid (show MapOf w21 mb (n9 + 1 + 1) (((D9).put kl (.lit (.int .i64 2))).put kl (.lit (.int .i64 1))) from hm21); have P21 := Lib.hid ((hg21.block w.heap.size (Array.getElem?_eq_some_iff.1 P20.out).1 (fun e => absurd (Option.some.inj e) HMB.out)).trans P20.out); have F21 := Lib.hid (F20.out.next ⟨hg21.os, hg21.tape, hg21.output, hg21.size, fun b hb hn => hg21.block b hb (fun e => hn (Option.some.inj e))⟩); have hl21 : w.heap.size < w21.heap.size := (Array.getElem?_eq_some_iff.1 P21.out).1; have x0 := cell_blk (i := 0) P21.out rfl; have x1 := cell_blk (i := 1) P21.out rfl; clear hm21 hg21))
  go_ret
  exact ⟨by (rw [HDEC.out]; first | done | rfl), ⟨_, _, M21.out, ((I9.out.x (some kl)).put _).done (World.ownsMap.isMap M20.out) HKL.out HT.out HU.out ⟨fun _ => HEQ.out, fun _ => rfl⟩, by have := HB.out; omega⟩, F21.out⟩


end Go.Proofs.Ytkcfkanfdbejiaa

