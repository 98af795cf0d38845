/- A script made clean: one whose operations may all be, that begins with nothing. -/
import Derived.Test.YtghjnkfocjjlnaaGreatT00
import Derived.Test.YtghjnkfocjjlnaaGreatT32
set_option linter.unusedSimpArgs false
set_option linter.unusedVariables false
namespace Go.Proofs.YtghjnkfocjjlnaaGreat
set_option maxRecDepth 100000
open Go.RowKit Go.Proofs.YtghjnkfocjjlnaaGreatW.PrintWords Go.Proofs.YtghjnkfocjjlnaaGreatW.PrintLast
set_option linter.unusedVariables false
set_option linter.unusedSimpArgs false
set_option maxRecDepth 100000 in
set_option maxHeartbeats 4000000 in
theorem xmnew_nil (w : World) :
    Calls Tryz.prog 16 #[.slice none 0 0] w fun e w' => ∃ b, e = .returned (pt_ b) ∧ Below w.heap.size w w' ∧ w'.heap[b]? = some (.cells #[.slice none 0 0] 86 (0, 0)) := by
  have E0 := Lib.hid (heap_alloc_new w (.cells #[.slice none 0 0] 86))
  have B0 := Lib.hid ((Below.refl w.heap.size w).alloc (Nat.le_refl _) (.cells #[.slice none 0 0] 86))
  go_enter Tryz.func16, Tryz.ntmps16
  go_wp2_with fail
  go_loopw [10] (fun i wr => i = .int .i64 0 ∧ Hid (wr = w.alloc (.cells #[.slice none 0 0] 86))) (fun _ _ => 0)
  case atStart => exact ⟨rfl, Lib.hid rfl⟩
  case round =>
    obtain ⟨rfl, HW⟩ := hrel
    go_wp2_with fail
    go_ret
    exact ⟨w.heap.size, rfl, by rw [HW.out]; exact B0.out, by rw [HW.out]; exact E0.out⟩
set_option maxRecDepth 100000 in
set_option maxHeartbeats 4000000 in
theorem xclone_nil (w : World) :
    Calls Tryz.prog 39 #[.slice none 0 0] w fun e w' => e = .returned (.slice none 0 0) ∧ w = w' := by
  have hq : ∀ (w : World) (a : Option Addr) (n c n' c' : Nat), (binOp .eql 28 (.slice a n c) (.slice none n' c')).run Tryz.prog w = .ok (.bool a.isNone) w := fun w a n c n' c' => Lib.run_eql_slice_nil w _ _ a n c n' c' Tryz.underlying28
  go_enter Tryz.func39, Tryz.ntmps39
  go_wp2_with fail
  go_ret
  exact ⟨rfl, rfl⟩
set_option maxRecDepth 100000 in
set_option maxHeartbeats 4000000 in
theorem xmpairs_nil {w : World} {b : Nat} (h : w.heap[b]? = some (.cells #[.slice none 0 0] 86 (0, 0))) :
    Calls Tryz.prog 17 #[pt_ b] w fun e w' => e = .returned (.slice none 0 0) ∧ w = w' := by
  have c0 := cell_blk (i := 0) h rfl
  go_enter Tryz.func17, Tryz.ntmps17
  go_wp2_with fail
  refine (xclone_nil _).mono ?_
  rintro e w' ⟨rfl, rfl⟩
  go_wp2_with fail
  go_ret
  exact ⟨rfl, rfl⟩
theorem info_ops : (Tryz.prog.info? 33).map (fun i => (i.zero, i.size, i.bytes)) = some (some (.slice none 0 0), 1, 24) := by kernel_rfl
/-- The rows of a clean script, as far as they are made. -/
def RowsAt (B : Nat) (w : World) (v : Value) (k : Nat) (rows : List (List OpR)) : Prop :=
  ∃ vs, w.ownsRow B 33 1 v k vs ∧ ∀ t, t < k → ∃ u, vs[t]? = some u ∧ w.ownsRow B 32 4 u (rows.getD t []).length ((rows.getD t []).flatMap opL)
theorem RowsAt.keep {B : Nat} {w w' : World} {v : Value} {k : Nat} {rows : List (List OpR)} (h : RowsAt B w v k rows) (hk : ∀ (b : Nat) (cs : Array Value) (t : TypeId), w.heap[b]? = some (.cells cs t (0, 0)) → t = 33 ∨ t = 32 → w'.heap[b]? = w.heap[b]?) : RowsAt B w' v k rows := by
  obtain ⟨vs, h1, h2⟩ := h
  refine ⟨vs, ownsRow_same h1 (fun b hb => ?_), fun t ht => ?_⟩
  · rcases h1.2 with ⟨rfl, _⟩ | ⟨g, cap, cur, rfl, _, h3, _⟩
    · cases hb
    · have e : g = b := Option.some.inj hb
      subst e; exact hk _ _ _ h3 (.inl rfl)
  · obtain ⟨u, h3, h4⟩ := h2 t ht
    refine ⟨u, h3, ownsRow_same h4 (fun b hb => ?_)⟩
    rcases h4.2 with ⟨rfl, _⟩ | ⟨g, cap, cur, rfl, _, h5, _⟩
    · cases hb
    · have e : g = b := Option.some.inj hb
      subst e; exact hk _ _ _ h5 (.inr rfl)
theorem RowsAt.later {B : Nat} {w w' : World} {v : Value} {k : Nat} {rows : List (List OpR)} (h : RowsAt B w v k rows) (hb : Below w.heap.size w w') : RowsAt B w' v k rows := h.keep (fun b _ _ hx _ => hb.block b (lt_of_some hx))
/-- One row more. -/
theorem RowsAt.snoc {B : Nat} {w w9 : World} {v : Value} {k : Nat} {rows : List (List OpR)} {vs : List Value} {u : Value} (hu : w.ownsRow B 32 4 u (rows.getD k []).length ((rows.getD k []).flatMap opL)) {g cap : Nat} (hB : B ≤ w.heap.size)
    (hr : w9.ownsRow 0 33 1 (.slice (some ⟨g, 0, none⟩) (k + 1) cap) (k + 1) (vs ++ [u])) (hvs : w.ownsRow B 33 1 v k vs) (hvr : ∀ t, t < k → ∃ u, vs[t]? = some u ∧ w.ownsRow B 32 4 u (rows.getD t []).length ((rows.getD t []).flatMap opL)) (hg : w.grownBy w9 v.ownBlock) (hl : v.ownBlock = some g ∨ g = w.heap.size) : RowsAt B w9 (.slice (some ⟨g, 0, none⟩) (k + 1) cap) (k + 1) rows := by
  have hgB : B ≤ g := by
    rcases hl with hl | rfl
    · exact (hvs.lt g hl).1
    · exact hB
  have hop : ∀ u n xs, w.ownsRow B 32 4 u n xs → w9.ownsRow B 32 4 u n xs := fun u n xs hu => ownsRow_same hu (fun b hb => hg.block b (hu.lt b hb).2 (fun e => by
    have hv : ∃ cs, w.heap[b]? = some (.cells cs 33 (0, 0)) := by
      rcases hvs.2 with ⟨rfl, _⟩ | ⟨g, cap, cur, rfl, _, h3, _⟩
      · cases e
      · have e2 : b = g := Option.some.inj e
        subst e2; exact ⟨_, h3⟩
    obtain ⟨cs, h1⟩ := hv
    rcases hu.2 with ⟨rfl, _⟩ | ⟨g, cap, cur, rfl, _, h5, _⟩
    · cases hb
    · have e2 : g = b := Option.some.inj hb
      subst e2; rw [h1] at h5; injection h5 with h5; injection h5 with _ h5; cases h5))
  refine ⟨vs ++ [u], ⟨hr.1, ?_⟩, fun t ht => ?_⟩
  · rcases hr.2 with ⟨h1, _⟩ | ⟨g', cap', cur, h1, _, h3⟩
    · cases h1
    · injection h1 with h1 h4 h5
      injection h1 with h1
      injection h1 with h1
      subst h1; subst h5
      exact .inr ⟨g, cap, cur, rfl, hgB, h3⟩
  · by_cases e : t < k
    · obtain ⟨x, h1, h2⟩ := hvr t e
      exact ⟨x, by rw [List.getElem?_append_left (by rw [hvs.1]; omega)]; exact h1, hop _ _ _ h2⟩
    · have e2 : t = k := by omega
      subst e2
      exact ⟨u, by rw [List.getElem?_append_right (by rw [hvs.1]; omega), hvs.1]; simp, hop _ _ _ hu⟩
theorem ownsRow_ne {w : World} {B : Nat} {e : TypeId} {size : Nat} {v : Value} {n : Nat} {xs : List Value} (h : w.ownsRow B e size v n xs) {b : Nat} {cs : Array Value} {t : TypeId} (h2 : w.heap[b]? = some (.cells cs t (0, 0))) (hne : e ≠ t) : v.ownBlock ≠ some b := fun hb => by
  rcases h.2 with ⟨rfl, _⟩ | ⟨g, cap, cur, rfl, _, h3, _⟩
  · cases hb
  · have e2 : g = b := Option.some.inj hb
    subst e2
    rw [h2] at h3
    injection h3 with h3
    injection h3 with _ h3
    exact hne h3.symm
def IntIn (w : World) (ad : Option Addr) (l : List Int) : Prop := l = [] ∨ ∃ b off, ad = some ⟨b, off, none⟩ ∧ ∀ k (hk : k < l.length), w.cell? ⟨b, off + k, none⟩ = some (.int .i64 l[k])
/-- The clean script on its way. -/
structure CL1 (w : World) (C1 C3 : Array Value) (b3 : Nat) (v : Value) (k : Nat) (rows : List (List OpR)) (wr : World) : Prop where
  below : Below w.heap.size w wr
  a1 : wr.heap[w.heap.size]? = some (.cells C1 30 (0, 0))
  a2 : wr.heap[w.heap.size + 1]? = some (.cells #[.int .i64 0, .int .i64 0, .int .i64 0, .int .i64 0, .int .i64 0, .int .i64 0, .int .i64 0, .slice none 0 0, .slice none 0 0, .slice none 0 0] 30 (0, 0))
  a3 : wr.heap[b3]? = some (.cells C3 30 (0, 0))
  b3 : w.heap.size + 1 < b3
  rows : RowsAt w.heap.size wr v k rows
theorem CL1.later {w : World} {C1 C3 : Array Value} {b3 : Nat} {v : Value} {k : Nat} {rows : List (List OpR)} {wr w' : World} (h : CL1 w C1 C3 b3 v k rows wr) (hb : Below wr.heap.size wr w') : CL1 w C1 C3 b3 v k rows w' :=
  ⟨h.below.trans (hb.mono h.below.size), (hb.block _ (lt_of_some h.a1)).trans h.a1, (hb.block _ (lt_of_some h.a2)).trans h.a2, (hb.block _ (lt_of_some h.a3)).trans h.a3, h.b3, h.rows.later hb⟩
set_option maxRecDepth 100000 in
set_option maxHeartbeats 4000000 in
theorem xclean_any {w : World} {n : Nat} (hn1 : 1 ≤ n) (hn6 : n ≤ 6) (cells : Int) (hc : 0 ≤ cells) (hc2 : cells ≤ 60000) (p : PolR) {ob oc xn xc : Nat} {xad : Option Addr} {rows : List (List OpR)} (hrl : rows.length = n)
    (hrows : ∀ t, t < n → ∃ ad c, w.cell? ⟨ob, t, none⟩ = some (.slice ad (rows.getD t []).length c) ∧ OpIn w ad c (rows.getD t [])) (hok : ∀ t, t < n → (rows.getD t []).length ≤ 60 ∧ ∀ o ∈ rows.getD t [], OpK o)
    {xs : List Int} (hx : IntIn w xad xs) (hxn : xn = xs.length) (hxl : xn ≤ 100000) (hxc : xn ≤ xc) (hxb : ∀ x ∈ xs, -9223372036854775808 ≤ x ∧ x ≤ 9223372036854775807) :
    Calls Tryz.prog 9 #[.agg #[.int .i64 (n : Int), .int .i64 cells, .int .i64 p.high, .int .i64 p.low, .int .i64 p.cont, .int .i64 p.uncont, .int .i64 p.multi, .slice none 0 0, .slice (some ⟨ob, 0, none⟩) n oc, .slice xad xn xc]] w (CleanP n cells (clampP p) rows (xs.map fun x => (x % (n : Int)).toNat) w) := by
  have HROWS := Lib.hid hrows
  have HOK := Lib.hid hok
  have HX := Lib.hid hx
  have HXB := Lib.hid hxb
  have HXN := Lib.hid hxn
  have HRL := Lib.hid hrl
  clear hrows hok hx hxb hxn hrl
  have b1 : Below w.heap.size w ((w.alloc (.cells #[.int .i64 (n : Int), .int .i64 cells, .int .i64 p.high, .int .i64 p.low, .int .i64 p.cont, .int .i64 p.uncont, .int .i64 p.multi, .slice none 0 0, .slice (some ⟨ob, 0, none⟩) n oc, .slice xad xn xc] 30)).alloc (.cells #[.int .i64 0, .int .i64 0, .int .i64 0, .int .i64 0, .int .i64 0, .int .i64 0, .int .i64 0, .slice none 0 0, .slice none 0 0, .slice none 0 0] 30)) := ((Below.refl _ _).alloc (Nat.le_refl _) _).alloc (by simp) _
  have a1 : ((w.alloc (.cells #[.int .i64 (n : Int), .int .i64 cells, .int .i64 p.high, .int .i64 p.low, .int .i64 p.cont, .int .i64 p.uncont, .int .i64 p.multi, .slice none 0 0, .slice (some ⟨ob, 0, none⟩) n oc, .slice xad xn xc] 30)).alloc (.cells #[.int .i64 0, .int .i64 0, .int .i64 0, .int .i64 0, .int .i64 0, .int .i64 0, .int .i64 0, .slice none 0 0, .slice none 0 0, .slice none 0 0] 30)).heap[w.heap.size]? = some (.cells #[.int .i64 (n : Int), .int .i64 cells, .int .i64 p.high, .int .i64 p.low, .int .i64 p.cont, .int .i64 p.uncont, .int .i64 p.multi, .slice none 0 0, .slice (some ⟨ob, 0, none⟩) n oc, .slice xad xn xc] 30 (0, 0)) := (((Below.refl _ _).alloc (Nat.le_refl _) _).block w.heap.size (by simp)).trans (heap_alloc_new w _)
  have a2 : ((w.alloc (.cells #[.int .i64 (n : Int), .int .i64 cells, .int .i64 p.high, .int .i64 p.low, .int .i64 p.cont, .int .i64 p.uncont, .int .i64 p.multi, .slice none 0 0, .slice (some ⟨ob, 0, none⟩) n oc, .slice xad xn xc] 30)).alloc (.cells #[.int .i64 0, .int .i64 0, .int .i64 0, .int .i64 0, .int .i64 0, .int .i64 0, .int .i64 0, .slice none 0 0, .slice none 0 0, .slice none 0 0] 30)).heap[w.heap.size + 1]? = some (.cells #[.int .i64 0, .int .i64 0, .int .i64 0, .int .i64 0, .int .i64 0, .int .i64 0, .int .i64 0, .slice none 0 0, .slice none 0 0, .slice none 0 0] 30 (0, 0)) := by have h := heap_alloc_new (w.alloc (.cells #[.int .i64 (n : Int), .int .i64 cells, .int .i64 p.high, .int .i64 p.low, .int .i64 p.cont, .int .i64 p.uncont, .int .i64 p.multi, .slice none 0 0, .slice (some ⟨ob, 0, none⟩) n oc, .slice xad xn xc] 30)) (.cells #[.int .i64 0, .int .i64 0, .int .i64 0, .int .i64 0, .int .i64 0, .int .i64 0, .int .i64 0, .slice none 0 0, .slice none 0 0, .slice none 0 0] 30); rw [show (w.alloc (.cells #[.int .i64 (n : Int), .int .i64 cells, .int .i64 p.high, .int .i64 p.low, .int .i64 p.cont, .int .i64 p.uncont, .int .i64 p.multi, .slice none 0 0, .slice (some ⟨ob, 0, none⟩) n oc, .slice xad xn xc] 30)).heap.size = w.heap.size + 1 from by simp] at h; exact h
  have s1 : ((w.alloc (.cells #[.int .i64 (n : Int), .int .i64 cells, .int .i64 p.high, .int .i64 p.low, .int .i64 p.cont, .int .i64 p.uncont, .int .i64 p.multi, .slice none 0 0, .slice (some ⟨ob, 0, none⟩) n oc, .slice xad xn xc] 30)).alloc (.cells #[.int .i64 0, .int .i64 0, .int .i64 0, .int .i64 0, .int .i64 0, .int .i64 0, .int .i64 0, .slice none 0 0, .slice none 0 0, .slice none 0 0] 30)).heap.size = w.heap.size + 2 := by simp
  have B1 := Lib.hid b1
  have A1 := Lib.hid a1
  have A2 := Lib.hid a2
  have S1 := Lib.hid s1
  clear b1 a1 a2 s1
  have m0 : max (n : Int) 1 = n := by omega
  have m1 : min (n : Int) 6 = n := by omega
  have m2 : max cells 0 = cells := by omega
  have m3 : min cells 60000 = cells := by omega
  have n0 : ¬ ((n : Int) < 1) := by omega
  have n1 : ¬ (6 < (n : Int)) := by omega
  have n2 : ¬ (cells < 0) := by omega
  have n3 : ¬ (60000 < cells) := by omega
  go_enter Tryz.func9, Tryz.ntmps9
  go_wp2_with fail
  generalize ((w.alloc (.cells #[.int .i64 (n : Int), .int .i64 cells, .int .i64 p.high, .int .i64 p.low, .int .i64 p.cont, .int .i64 p.uncont, .int .i64 p.multi, .slice none 0 0, .slice (some ⟨ob, 0, none⟩) n oc, .slice xad xn xc] 30)).alloc (.cells #[.int .i64 0, .int .i64 0, .int .i64 0, .int .i64 0, .int .i64 0, .int .i64 0, .int .i64 0, .slice none 0 0, .slice none 0 0, .slice none 0 0] 30)) = w1 at B1 A1 A2 S1 ⊢
  have lt1 : w.heap.size < w1.heap.size := by have := S1.out; omega
  have Bs := Lib.hid (Below.refl w1.heap.size w1).drew
  refine start_ (n := 19) (S := fun w' => w'.cell? ⟨w.heap.size, 0, none⟩ = some (.int .i64 (n : Int)) ∧ w'.cell? ⟨w.heap.size, 1, none⟩ = some (.int .i64 cells) ∧ w'.cell? ⟨w.heap.size, 2, none⟩ = some (.int .i64 p.high) ∧ w'.cell? ⟨w.heap.size, 3, none⟩ = some (.int .i64 p.low) ∧ w'.cell? ⟨w.heap.size, 4, none⟩ = some (.int .i64 p.cont) ∧ w'.cell? ⟨w.heap.size, 5, none⟩ = some (.int .i64 p.uncont) ∧ w'.cell? ⟨w.heap.size, 6, none⟩ = some (.int .i64 p.multi) ∧ w'.cell? ⟨w.heap.size, 7, none⟩ = some (.slice none 0 0)) (ds := [18]) (bz 19 0).toArray (by kernel_rfl) rfl rfl ⟨(cell_blk (i := 0) ((Bs.out.block _ lt1).trans A1.out) rfl), (cell_blk (i := 1) ((Bs.out.block _ lt1).trans A1.out) rfl), (cell_blk (i := 2) ((Bs.out.block _ lt1).trans A1.out) rfl), (cell_blk (i := 3) ((Bs.out.block _ lt1).trans A1.out) rfl), (cell_blk (i := 4) ((Bs.out.block _ lt1).trans A1.out) rfl), (cell_blk (i := 5) ((Bs.out.block _ lt1).trans A1.out) rfl), (cell_blk (i := 6) ((Bs.out.block _ lt1).trans A1.out) rfl), (cell_blk (i := 7) ((Bs.out.block _ lt1).trans A1.out) rfl)⟩ (fun hHeld => ?_)
  refine pure_ (i := 0) (N := some 8) (v := ?_) (a' := ?_) (bz 19 1).toArray rfl rfl (by kernel_rfl) (fun _ _ _ h => h) (Or.inl ⟨by rfl, ?_⟩) ?_ ?_
  rotate_left
  · intro w'
    go_simp
    with_reducible rfl
  rotate_left
  · simp only [Act.put, sqA, sqZ, sqS, i64_w, i32_w]
    rfl
  refine pure_ (i := 4) (N := some 12) (v := ?_) (a' := ?_) (bz 19 17).toArray rfl rfl (by kernel_rfl) (fun _ _ _ h => h) (Or.inl ⟨by rfl, ?_⟩) ?_ ?_
  rotate_left
  · intro w'
    go_simp
    with_reducible rfl
  rotate_left
  · simp only [Act.put, sqA, sqZ, sqS, i64_w, i32_w]
    rfl
  refine pure_ (i := 8) (N := some 16) (v := ?_) (a' := ?_) (bz 19 273).toArray rfl rfl (by kernel_rfl) (fun _ _ _ h => h) (Or.inl ⟨by rfl, ?_⟩) ?_ ?_
  rotate_left
  · intro w'
    go_simp
    with_reducible rfl
  rotate_left
  · simp only [Act.put, sqA, sqZ, sqS, i64_w, i32_w]
    rfl
  refine pure_ (i := 11) (N := some 19) (v := ?_) (a' := ?_) (bz 19 2321).toArray rfl rfl (by kernel_rfl) (fun _ _ _ h => h) (Or.inl ⟨by rfl, ?_⟩) ?_ ?_
  rotate_left
  · intro w'
    go_simp
    with_reducible rfl
  rotate_left
  · simp only [Act.put, sqA, sqZ, sqS, i64_w, i32_w]
    rfl
  refine take_ (i := 1) (N := some 9) (v := ?_) (a' := ?_) (bz 19 2323).toArray rfl rfl (by kernel_rfl) (fun _ _ _ h => h) (Or.inl ⟨by rfl, ?_⟩) hHeld ?_ ?_
  rotate_left
  · rintro w' ⟨s0, s1, s2, s3, s4, s5, s6, s7⟩
    go_simp
    with_reducible rfl
  rotate_left
  · simp only [Act.put, sqA, sqZ, sqS, i64_w, i32_w]
    rfl
  refine pure_ (i := 2) (N := some 10) (v := ?_) (a' := ?_) (bz 19 2327).toArray rfl rfl (by kernel_rfl) (fun _ _ _ h => h) (Or.inl ⟨by rfl, ?_⟩) ?_ ?_
  rotate_left
  · intro w'
    go_simp
    with_reducible rfl
  rotate_left
  · simp only [Act.put, sqA, sqZ, sqS, i64_w, i32_w]
    rfl
  refine pure_ (i := 3) (N := some 11) (v := ?_) (a' := ?_) (bz 19 2335).toArray rfl rfl (by kernel_rfl) (fun _ _ _ h => h) (Or.inl ⟨by rfl, ?_⟩) ?_ ?_
  rotate_left
  · intro w'
    go_simp
    with_reducible rfl
  rotate_left
  · simp only [Act.put, sqA, sqZ, sqS, i64_w, i32_w]
    rfl
  refine take_ (i := 5) (N := some 13) (v := ?_) (a' := ?_) (bz 19 2367).toArray rfl rfl (by kernel_rfl) (fun _ _ _ h => h) (Or.inl ⟨by rfl, ?_⟩) hHeld ?_ ?_
  rotate_left
  · rintro w' ⟨s0, s1, s2, s3, s4, s5, s6, s7⟩
    go_simp
    with_reducible rfl
  rotate_left
  · simp only [Act.put, sqA, sqZ, sqS, i64_w, i32_w]
    rfl
  refine pure_ (i := 6) (N := some 14) (v := ?_) (a' := ?_) (bz 19 2431).toArray rfl rfl (by kernel_rfl) (fun _ _ _ h => h) (Or.inl ⟨by rfl, ?_⟩) ?_ ?_
  rotate_left
  · intro w'
    go_simp
    with_reducible rfl
  rotate_left
  · simp only [Act.put, sqA, sqZ, sqS, i64_w, i32_w]
    rfl
  refine pure_ (i := 7) (N := some 15) (v := ?_) (a' := ?_) (bz 19 2559).toArray rfl rfl (by kernel_rfl) (fun _ _ _ h => h) (Or.inl ⟨by rfl, ?_⟩) ?_ ?_
  rotate_left
  · intro w'
    go_simp
    with_reducible rfl
  rotate_left
  · simp only [Act.put, sqA, sqZ, sqS, i64_w, i32_w]
    rfl
  refine take_ (i := 9) (N := some 17) (v := ?_) (a' := ?_) (bz 19 3071).toArray rfl rfl (by kernel_rfl) (fun _ _ _ h => h) (Or.inl ⟨by rfl, ?_⟩) hHeld ?_ ?_
  rotate_left
  · rintro w' ⟨s0, s1, s2, s3, s4, s5, s6, s7⟩
    go_simp
    with_reducible rfl
  rotate_left
  · simp only [Act.put, sqA, sqZ, sqS, i64_w, i32_w]
    rfl
  refine take_ (i := 12) (N := some 20) (v := ?_) (a' := ?_) (bz 19 7167).toArray rfl rfl (by kernel_rfl) (fun _ _ _ h => h) (Or.inl ⟨by rfl, ?_⟩) hHeld ?_ ?_
  rotate_left
  · rintro w' ⟨s0, s1, s2, s3, s4, s5, s6, s7⟩
    go_simp
    with_reducible rfl
  rotate_left
  · simp only [Act.put, sqA, sqZ, sqS, i64_w, i32_w]
    rfl
  refine join_ (σ := Nat × Nat) 1 (bz 19 262143).toArray (fun s => [(18, .agg #[.int .i64 (clampP p).high, .int .i64 (clampP p).low, .int .i64 (clampP p).cont, .int .i64 (clampP p).uncont, .int .i64 (clampP p).multi]), (21, pt_ s.1), (22, .slice none 0 0), (23, .slice none 0 0), (24, .agg #[.int .i64 (if 6 < if (n : Int) < 1 then 1 else (n : Int) then 6 else if (n : Int) < 1 then 1 else (n : Int)), .int .i64 (if 60000 < if cells < 0 then 0 else cells then 60000 else if cells < 0 then 0 else cells), .int .i64 (clampP p).high, .int .i64 (clampP p).low, .int .i64 (clampP p).cont, .int .i64 (clampP p).uncont, .int .i64 (clampP p).multi, .slice none 0 0, .slice none 0 0, .slice none 0 0]), (3, .pointer (some ⟨s.2, 0, none⟩))]) (fun s w' => Below w1.heap.size w1 w' ∧ w'.heap[s.2]? = some (.cells #[.int .i64 0, .int .i64 0, .int .i64 0, .int .i64 0, .int .i64 0, .int .i64 0, .int .i64 0, .slice none 0 0, .slice none 0 0, .slice none 0 0] 30 (0, 0)) ∧ w1.heap.size ≤ s.2) ?_ ?_
  rotate_left
  · intro hCont
    refine two_ (i := 10) (j := 17) (Ni := some 18) (Nj := some 3) (bz 19 8191).toArray (bz 19 138239).toArray rfl rfl rfl rfl (by kernel_rfl) (by decide) (by decide) (fun K hK => ?_) (fun K hK => ?_)
    · skip
      refine goes_ Tryz.func14 (by kernel_rfl) rfl #[.agg #[.int .i64 p.high, .int .i64 p.low, .int .i64 p.cont, .int .i64 p.uncont, .int .i64 p.multi]] (by rfl) rfl rfl (by simp only [List.map_toArray, List.map_cons, List.map_nil]; rfl) ?_
      with_reducible refine (xclamp_any p _).mono ?_
      rintro e w10 ⟨rfl, b10⟩
      have B10 := Lib.hid (Bs.out.trans (b10.mono Bs.out.size))
      clear b10
      refine ⟨_, rfl, ?_⟩
      refine hK.out _ _ ⟨(cell_blk (i := 0) ((B10.out.block _ lt1).trans A1.out) rfl), (cell_blk (i := 1) ((B10.out.block _ lt1).trans A1.out) rfl), (cell_blk (i := 2) ((B10.out.block _ lt1).trans A1.out) rfl), (cell_blk (i := 3) ((B10.out.block _ lt1).trans A1.out) rfl), (cell_blk (i := 4) ((B10.out.block _ lt1).trans A1.out) rfl), (cell_blk (i := 5) ((B10.out.block _ lt1).trans A1.out) rfl), (cell_blk (i := 6) ((B10.out.block _ lt1).trans A1.out) rfl), (cell_blk (i := 7) ((B10.out.block _ lt1).trans A1.out) rfl)⟩ (fun hHeld => ?_)
      clear hK K
      refine norm_ (a' := ?_) ?_ ?_
      rotate_left
      · show Act.put _ (some 18) _ = _
        simp only [Act.put, sqA, sqZ, sqS, i64_w, i32_w]
        rfl
      refine two_ (i := 13) (j := 17) (Ni := some 21) (Nj := some 3) (bz 19 16383).toArray (bz 19 139263).toArray rfl rfl rfl rfl (by kernel_rfl) (by decide) (by decide) (fun K hK => ?_) (fun K hK => ?_)
      · skip
        refine goes_ Tryz.func16 (by kernel_rfl) rfl #[.slice none 0 0] (by rfl) rfl rfl (by simp only [List.map_toArray, List.map_cons, List.map_nil]; rfl) ?_
        with_reducible refine (xmnew_nil _).mono ?_
        rintro e w13 ⟨mb, rfl, b13, h13⟩
        have B13 := Lib.hid (B10.out.trans (b13.mono B10.out.size))
        have M13 := Lib.hid h13
        clear b13 h13
        refine ⟨_, rfl, ?_⟩
        refine hK.out _ _ ⟨(cell_blk (i := 0) ((B13.out.block _ lt1).trans A1.out) rfl), (cell_blk (i := 1) ((B13.out.block _ lt1).trans A1.out) rfl), (cell_blk (i := 2) ((B13.out.block _ lt1).trans A1.out) rfl), (cell_blk (i := 3) ((B13.out.block _ lt1).trans A1.out) rfl), (cell_blk (i := 4) ((B13.out.block _ lt1).trans A1.out) rfl), (cell_blk (i := 5) ((B13.out.block _ lt1).trans A1.out) rfl), (cell_blk (i := 6) ((B13.out.block _ lt1).trans A1.out) rfl), (cell_blk (i := 7) ((B13.out.block _ lt1).trans A1.out) rfl)⟩ (fun hHeld => ?_)
        clear hK K
        refine norm_ (a' := ?_) ?_ ?_
        rotate_left
        · show Act.put _ (some 21) _ = _
          simp only [Act.put, sqA, sqZ, sqS, i64_w, i32_w]
          rfl
        refine two_ (i := 14) (j := 17) (Ni := some 22) (Nj := some 3) (bz 19 32767).toArray (bz 19 147455).toArray rfl rfl rfl rfl (by kernel_rfl) (by decide) (by decide) (fun K hK => ?_) (fun K hK => ?_)
        · skip
          refine goes_ Tryz.func17 (by kernel_rfl) rfl #[pt_ mb] (by rfl) rfl rfl (by simp only [List.map_toArray, List.map_cons, List.map_nil]; rfl) ?_
          with_reducible refine (xmpairs_nil M13.out).mono ?_
          rintro e w9 ⟨rfl, rfl⟩
          refine ⟨_, rfl, ?_⟩
          refine hK.out _ _ ⟨(cell_blk (i := 0) ((B13.out.block _ lt1).trans A1.out) rfl), (cell_blk (i := 1) ((B13.out.block _ lt1).trans A1.out) rfl), (cell_blk (i := 2) ((B13.out.block _ lt1).trans A1.out) rfl), (cell_blk (i := 3) ((B13.out.block _ lt1).trans A1.out) rfl), (cell_blk (i := 4) ((B13.out.block _ lt1).trans A1.out) rfl), (cell_blk (i := 5) ((B13.out.block _ lt1).trans A1.out) rfl), (cell_blk (i := 6) ((B13.out.block _ lt1).trans A1.out) rfl), (cell_blk (i := 7) ((B13.out.block _ lt1).trans A1.out) rfl)⟩ (fun hHeld => ?_)
          clear hK K
          refine norm_ (a' := ?_) ?_ ?_
          rotate_left
          · show Act.put _ (some 22) _ = _
            simp only [Act.put, sqA, sqZ, sqS, i64_w, i32_w]
            rfl
          refine two_ (i := 15) (j := 17) (Ni := some 23) (Nj := some 3) (bz 19 65535).toArray (bz 19 163839).toArray rfl rfl rfl rfl (by kernel_rfl) (by decide) (by decide) (fun K hK => ?_) (fun K hK => ?_)
          · skip
            have F15 := Lib.hid (show Calls Tryz.prog 15 #[.slice none 0 0, .int .i64 200] w13 (fun e w' => e = .returned (.slice none 0 0) ∧ w13 = w') from xfirstP_all (w := w13) (ad := none) (n := 0) (c := 0) (m := 200) (by omega) (by omega) (by omega))
            refine goes_ Tryz.func15 (by kernel_rfl) rfl #[.slice none 0 0, .int .i64 200] (by rfl) rfl rfl (by simp only [List.map_toArray, List.map_cons, List.map_nil]; rfl) ?_
            with_reducible refine (F15.out).mono ?_
            rintro e w9 ⟨rfl, rfl⟩
            clear F15
            refine ⟨_, rfl, ?_⟩
            refine hK.out _ _ ⟨(cell_blk (i := 0) ((B13.out.block _ lt1).trans A1.out) rfl), (cell_blk (i := 1) ((B13.out.block _ lt1).trans A1.out) rfl), (cell_blk (i := 2) ((B13.out.block _ lt1).trans A1.out) rfl), (cell_blk (i := 3) ((B13.out.block _ lt1).trans A1.out) rfl), (cell_blk (i := 4) ((B13.out.block _ lt1).trans A1.out) rfl), (cell_blk (i := 5) ((B13.out.block _ lt1).trans A1.out) rfl), (cell_blk (i := 6) ((B13.out.block _ lt1).trans A1.out) rfl), (cell_blk (i := 7) ((B13.out.block _ lt1).trans A1.out) rfl)⟩ (fun hHeld => ?_)
            clear hK K
            refine norm_ (a' := ?_) ?_ ?_
            rotate_left
            · show Act.put _ (some 23) _ = _
              simp only [Act.put, sqA, sqZ, sqS, i64_w, i32_w]
              rfl
            refine pure_ (i := 16) (N := some 24) (v := ?_) (a' := ?_) (bz 19 131071).toArray rfl rfl (by kernel_rfl) (fun _ _ _ h => h) (Or.inl ⟨by rfl, ?_⟩) ?_ ?_
            rotate_left
            · intro w'
              go_simp
              with_reducible rfl
            rotate_left
            · simp only [Act.put, sqA, sqZ, sqS, i64_w, i32_w]
              rfl
            refine one_ (i := 17) (N := some 3) (bz 19 262143).toArray rfl rfl (by kernel_rfl) (by decide) (fun K hK => ?_)
            refine value_ (w1 := ?_) (v := ?_) (by rfl) rfl ?_ ?_
            rotate_left 2
            · go_simp
              constructor
              · rfl
              · rfl
            have B17 := Lib.hid (B13.out.alloc B13.out.size (.cells #[.int .i64 0, .int .i64 0, .int .i64 0, .int .i64 0, .int .i64 0, .int .i64 0, .int .i64 0, .slice none 0 0, .slice none 0 0, .slice none 0 0] 30))
            have E17 := Lib.hid (heap_alloc_new w13 (.cells #[.int .i64 0, .int .i64 0, .int .i64 0, .int .i64 0, .int .i64 0, .int .i64 0, .int .i64 0, .slice none 0 0, .slice none 0 0, .slice none 0 0] 30))
            have M13 := Lib.hid ((((Below.refl _ _).alloc (Nat.le_refl _) (.cells #[.int .i64 0, .int .i64 0, .int .i64 0, .int .i64 0, .int .i64 0, .int .i64 0, .int .i64 0, .slice none 0 0, .slice none 0 0, .slice none 0 0] 30)).block _ (lt_of_some M13.out)).trans M13.out)
            have L17 := Lib.hid B13.out.size
            refine hK.out _ _ ⟨(cell_blk (i := 0) ((B17.out.block _ lt1).trans A1.out) rfl), (cell_blk (i := 1) ((B17.out.block _ lt1).trans A1.out) rfl), (cell_blk (i := 2) ((B17.out.block _ lt1).trans A1.out) rfl), (cell_blk (i := 3) ((B17.out.block _ lt1).trans A1.out) rfl), (cell_blk (i := 4) ((B17.out.block _ lt1).trans A1.out) rfl), (cell_blk (i := 5) ((B17.out.block _ lt1).trans A1.out) rfl), (cell_blk (i := 6) ((B17.out.block _ lt1).trans A1.out) rfl), (cell_blk (i := 7) ((B17.out.block _ lt1).trans A1.out) rfl)⟩ (fun hHeld => ?_)
            clear hK K
            refine norm_ (a' := ?_) ?_ ?_
            rotate_left
            · show Act.put _ (some 3) _ = _
              simp only [Act.put, sqA, sqZ, sqS, i64_w, i32_w]
              rfl
            exact norm_ (by first | (simp only [putAll, Act.put, sqA, sqZ, sqS]; done) | (simp only [putAll, Act.put, sqA, sqZ, sqS]; rfl)) (hCont (mb, w13.heap.size) _ ⟨B17.out, E17.out, L17.out⟩)
          · skip
            refine value_ (w1 := ?_) (v := ?_) (by rfl) rfl ?_ ?_
            rotate_left 2
            · go_simp
              constructor
              · rfl
              · rfl
            have B17 := Lib.hid (B13.out.alloc B13.out.size (.cells #[.int .i64 0, .int .i64 0, .int .i64 0, .int .i64 0, .int .i64 0, .int .i64 0, .int .i64 0, .slice none 0 0, .slice none 0 0, .slice none 0 0] 30))
            have E17 := Lib.hid (heap_alloc_new w13 (.cells #[.int .i64 0, .int .i64 0, .int .i64 0, .int .i64 0, .int .i64 0, .int .i64 0, .int .i64 0, .slice none 0 0, .slice none 0 0, .slice none 0 0] 30))
            have M13 := Lib.hid ((((Below.refl _ _).alloc (Nat.le_refl _) (.cells #[.int .i64 0, .int .i64 0, .int .i64 0, .int .i64 0, .int .i64 0, .int .i64 0, .int .i64 0, .slice none 0 0, .slice none 0 0, .slice none 0 0] 30)).block _ (lt_of_some M13.out)).trans M13.out)
            have L17 := Lib.hid B13.out.size
            refine hK.out _ _ ⟨(cell_blk (i := 0) ((B17.out.block _ lt1).trans A1.out) rfl), (cell_blk (i := 1) ((B17.out.block _ lt1).trans A1.out) rfl), (cell_blk (i := 2) ((B17.out.block _ lt1).trans A1.out) rfl), (cell_blk (i := 3) ((B17.out.block _ lt1).trans A1.out) rfl), (cell_blk (i := 4) ((B17.out.block _ lt1).trans A1.out) rfl), (cell_blk (i := 5) ((B17.out.block _ lt1).trans A1.out) rfl), (cell_blk (i := 6) ((B17.out.block _ lt1).trans A1.out) rfl), (cell_blk (i := 7) ((B17.out.block _ lt1).trans A1.out) rfl)⟩ (fun hHeld => ?_)
            clear hK K
            refine norm_ (a' := ?_) ?_ ?_
            rotate_left
            · show Act.put _ (some 3) _ = _
              simp only [Act.put, sqA, sqZ, sqS, i64_w, i32_w]
              rfl
            refine one_ (i := 15) (N := some 23) (bz 19 196607).toArray rfl rfl (by kernel_rfl) (by decide) (fun K hK => ?_)
            have F15 := Lib.hid (show Calls Tryz.prog 15 #[.slice none 0 0, .int .i64 200] (w13.alloc (.cells #[.int .i64 0, .int .i64 0, .int .i64 0, .int .i64 0, .int .i64 0, .int .i64 0, .int .i64 0, .slice none 0 0, .slice none 0 0, .slice none 0 0] 30)) (fun e w' => e = .returned (.slice none 0 0) ∧ (w13.alloc (.cells #[.int .i64 0, .int .i64 0, .int .i64 0, .int .i64 0, .int .i64 0, .int .i64 0, .int .i64 0, .slice none 0 0, .slice none 0 0, .slice none 0 0] 30)) = w') from xfirstP_all (w := (w13.alloc (.cells #[.int .i64 0, .int .i64 0, .int .i64 0, .int .i64 0, .int .i64 0, .int .i64 0, .int .i64 0, .slice none 0 0, .slice none 0 0, .slice none 0 0] 30))) (ad := none) (n := 0) (c := 0) (m := 200) (by omega) (by omega) (by omega))
            refine goes_ Tryz.func15 (by kernel_rfl) rfl #[.slice none 0 0, .int .i64 200] (by rfl) rfl rfl (by simp only [List.map_toArray, List.map_cons, List.map_nil]; rfl) ?_
            with_reducible refine (F15.out).mono ?_
            rintro e w9 ⟨rfl, rfl⟩
            clear F15
            refine ⟨_, rfl, ?_⟩
            refine hK.out _ _ ⟨(cell_blk (i := 0) ((B17.out.block _ lt1).trans A1.out) rfl), (cell_blk (i := 1) ((B17.out.block _ lt1).trans A1.out) rfl), (cell_blk (i := 2) ((B17.out.block _ lt1).trans A1.out) rfl), (cell_blk (i := 3) ((B17.out.block _ lt1).trans A1.out) rfl), (cell_blk (i := 4) ((B17.out.block _ lt1).trans A1.out) rfl), (cell_blk (i := 5) ((B17.out.block _ lt1).trans A1.out) rfl), (cell_blk (i := 6) ((B17.out.block _ lt1).trans A1.out) rfl), (cell_blk (i := 7) ((B17.out.block _ lt1).trans A1.out) rfl)⟩ (fun hHeld => ?_)
            clear hK K
            refine norm_ (a' := ?_) ?_ ?_
            rotate_left
            · show Act.put _ (some 23) _ = _
              simp only [Act.put, sqA, sqZ, sqS, i64_w, i32_w]
              rfl
            refine pure_ (i := 16) (N := some 24) (v := ?_) (a' := ?_) (bz 19 262143).toArray rfl rfl (by kernel_rfl) (fun _ _ _ h => h) (Or.inl ⟨by rfl, ?_⟩) ?_ ?_
            rotate_left
            · intro w'
              go_simp
              with_reducible rfl
            rotate_left
            · simp only [Act.put, sqA, sqZ, sqS, i64_w, i32_w]
              rfl
            exact norm_ (by first | (simp only [putAll, Act.put, sqA, sqZ, sqS]; done) | (simp only [putAll, Act.put, sqA, sqZ, sqS]; rfl)) (hCont (mb, w13.heap.size) _ ⟨B17.out, E17.out, L17.out⟩)
        · skip
          refine value_ (w1 := ?_) (v := ?_) (by rfl) rfl ?_ ?_
          rotate_left 2
          · go_simp
            constructor
            · rfl
            · rfl
          have B17 := Lib.hid (B13.out.alloc B13.out.size (.cells #[.int .i64 0, .int .i64 0, .int .i64 0, .int .i64 0, .int .i64 0, .int .i64 0, .int .i64 0, .slice none 0 0, .slice none 0 0, .slice none 0 0] 30))
          have E17 := Lib.hid (heap_alloc_new w13 (.cells #[.int .i64 0, .int .i64 0, .int .i64 0, .int .i64 0, .int .i64 0, .int .i64 0, .int .i64 0, .slice none 0 0, .slice none 0 0, .slice none 0 0] 30))
          have M13 := Lib.hid ((((Below.refl _ _).alloc (Nat.le_refl _) (.cells #[.int .i64 0, .int .i64 0, .int .i64 0, .int .i64 0, .int .i64 0, .int .i64 0, .int .i64 0, .slice none 0 0, .slice none 0 0, .slice none 0 0] 30)).block _ (lt_of_some M13.out)).trans M13.out)
          have L17 := Lib.hid B13.out.size
          refine hK.out _ _ ⟨(cell_blk (i := 0) ((B17.out.block _ lt1).trans A1.out) rfl), (cell_blk (i := 1) ((B17.out.block _ lt1).trans A1.out) rfl), (cell_blk (i := 2) ((B17.out.block _ lt1).trans A1.out) rfl), (cell_blk (i := 3) ((B17.out.block _ lt1).trans A1.out) rfl), (cell_blk (i := 4) ((B17.out.block _ lt1).trans A1.out) rfl), (cell_blk (i := 5) ((B17.out.block _ lt1).trans A1.out) rfl), (cell_blk (i := 6) ((B17.out.block _ lt1).trans A1.out) rfl), (cell_blk (i := 7) ((B17.out.block _ lt1).trans A1.out) rfl)⟩ (fun hHeld => ?_)
          clear hK K
          refine norm_ (a' := ?_) ?_ ?_
          rotate_left
          · show Act.put _ (some 3) _ = _
            simp only [Act.put, sqA, sqZ, sqS, i64_w, i32_w]
            rfl
          refine one_ (i := 14) (N := some 22) (bz 19 163839).toArray rfl rfl (by kernel_rfl) (by decide) (fun K hK => ?_)
          refine goes_ Tryz.func17 (by kernel_rfl) rfl #[pt_ mb] (by rfl) rfl rfl (by simp only [List.map_toArray, List.map_cons, List.map_nil]; rfl) ?_
          with_reducible refine (xmpairs_nil M13.out).mono ?_
          rintro e w9 ⟨rfl, rfl⟩
          refine ⟨_, rfl, ?_⟩
          refine hK.out _ _ ⟨(cell_blk (i := 0) ((B17.out.block _ lt1).trans A1.out) rfl), (cell_blk (i := 1) ((B17.out.block _ lt1).trans A1.out) rfl), (cell_blk (i := 2) ((B17.out.block _ lt1).trans A1.out) rfl), (cell_blk (i := 3) ((B17.out.block _ lt1).trans A1.out) rfl), (cell_blk (i := 4) ((B17.out.block _ lt1).trans A1.out) rfl), (cell_blk (i := 5) ((B17.out.block _ lt1).trans A1.out) rfl), (cell_blk (i := 6) ((B17.out.block _ lt1).trans A1.out) rfl), (cell_blk (i := 7) ((B17.out.block _ lt1).trans A1.out) rfl)⟩ (fun hHeld => ?_)
          clear hK K
          refine norm_ (a' := ?_) ?_ ?_
          rotate_left
          · show Act.put _ (some 22) _ = _
            simp only [Act.put, sqA, sqZ, sqS, i64_w, i32_w]
            rfl
          refine one_ (i := 15) (N := some 23) (bz 19 196607).toArray rfl rfl (by kernel_rfl) (by decide) (fun K hK => ?_)
          have F15 := Lib.hid (show Calls Tryz.prog 15 #[.slice none 0 0, .int .i64 200] (w13.alloc (.cells #[.int .i64 0, .int .i64 0, .int .i64 0, .int .i64 0, .int .i64 0, .int .i64 0, .int .i64 0, .slice none 0 0, .slice none 0 0, .slice none 0 0] 30)) (fun e w' => e = .returned (.slice none 0 0) ∧ (w13.alloc (.cells #[.int .i64 0, .int .i64 0, .int .i64 0, .int .i64 0, .int .i64 0, .int .i64 0, .int .i64 0, .slice none 0 0, .slice none 0 0, .slice none 0 0] 30)) = w') from xfirstP_all (w := (w13.alloc (.cells #[.int .i64 0, .int .i64 0, .int .i64 0, .int .i64 0, .int .i64 0, .int .i64 0, .int .i64 0, .slice none 0 0, .slice none 0 0, .slice none 0 0] 30))) (ad := none) (n := 0) (c := 0) (m := 200) (by omega) (by omega) (by omega))
          refine goes_ Tryz.func15 (by kernel_rfl) rfl #[.slice none 0 0, .int .i64 200] (by rfl) rfl rfl (by simp only [List.map_toArray, List.map_cons, List.map_nil]; rfl) ?_
          with_reducible refine (F15.out).mono ?_
          rintro e w9 ⟨rfl, rfl⟩
          clear F15
          refine ⟨_, rfl, ?_⟩
          refine hK.out _ _ ⟨(cell_blk (i := 0) ((B17.out.block _ lt1).trans A1.out) rfl), (cell_blk (i := 1) ((B17.out.block _ lt1).trans A1.out) rfl), (cell_blk (i := 2) ((B17.out.block _ lt1).trans A1.out) rfl), (cell_blk (i := 3) ((B17.out.block _ lt1).trans A1.out) rfl), (cell_blk (i := 4) ((B17.out.block _ lt1).trans A1.out) rfl), (cell_blk (i := 5) ((B17.out.block _ lt1).trans A1.out) rfl), (cell_blk (i := 6) ((B17.out.block _ lt1).trans A1.out) rfl), (cell_blk (i := 7) ((B17.out.block _ lt1).trans A1.out) rfl)⟩ (fun hHeld => ?_)
          clear hK K
          refine norm_ (a' := ?_) ?_ ?_
          rotate_left
          · show Act.put _ (some 23) _ = _
            simp only [Act.put, sqA, sqZ, sqS, i64_w, i32_w]
            rfl
          refine pure_ (i := 16) (N := some 24) (v := ?_) (a' := ?_) (bz 19 262143).toArray rfl rfl (by kernel_rfl) (fun _ _ _ h => h) (Or.inl ⟨by rfl, ?_⟩) ?_ ?_
          rotate_left
          · intro w'
            go_simp
            with_reducible rfl
          rotate_left
          · simp only [Act.put, sqA, sqZ, sqS, i64_w, i32_w]
            rfl
          exact norm_ (by first | (simp only [putAll, Act.put, sqA, sqZ, sqS]; done) | (simp only [putAll, Act.put, sqA, sqZ, sqS]; rfl)) (hCont (mb, w13.heap.size) _ ⟨B17.out, E17.out, L17.out⟩)
      · skip
        refine value_ (w1 := ?_) (v := ?_) (by rfl) rfl ?_ ?_
        rotate_left 2
        · go_simp
          constructor
          · rfl
          · rfl
        have B17 := Lib.hid (B10.out.alloc B10.out.size (.cells #[.int .i64 0, .int .i64 0, .int .i64 0, .int .i64 0, .int .i64 0, .int .i64 0, .int .i64 0, .slice none 0 0, .slice none 0 0, .slice none 0 0] 30))
        have E17 := Lib.hid (heap_alloc_new w10 (.cells #[.int .i64 0, .int .i64 0, .int .i64 0, .int .i64 0, .int .i64 0, .int .i64 0, .int .i64 0, .slice none 0 0, .slice none 0 0, .slice none 0 0] 30))
        have L17 := Lib.hid B10.out.size
        refine hK.out _ _ ⟨(cell_blk (i := 0) ((B17.out.block _ lt1).trans A1.out) rfl), (cell_blk (i := 1) ((B17.out.block _ lt1).trans A1.out) rfl), (cell_blk (i := 2) ((B17.out.block _ lt1).trans A1.out) rfl), (cell_blk (i := 3) ((B17.out.block _ lt1).trans A1.out) rfl), (cell_blk (i := 4) ((B17.out.block _ lt1).trans A1.out) rfl), (cell_blk (i := 5) ((B17.out.block _ lt1).trans A1.out) rfl), (cell_blk (i := 6) ((B17.out.block _ lt1).trans A1.out) rfl), (cell_blk (i := 7) ((B17.out.block _ lt1).trans A1.out) rfl)⟩ (fun hHeld => ?_)
        clear hK K
        refine norm_ (a' := ?_) ?_ ?_
        rotate_left
        · show Act.put _ (some 3) _ = _
          simp only [Act.put, sqA, sqZ, sqS, i64_w, i32_w]
          rfl
        refine one_ (i := 13) (N := some 21) (bz 19 147455).toArray rfl rfl (by kernel_rfl) (by decide) (fun K hK => ?_)
        refine goes_ Tryz.func16 (by kernel_rfl) rfl #[.slice none 0 0] (by rfl) rfl rfl (by simp only [List.map_toArray, List.map_cons, List.map_nil]; rfl) ?_
        with_reducible refine (xmnew_nil _).mono ?_
        rintro e w13 ⟨mb, rfl, b13, h13⟩
        have B13 := Lib.hid (B17.out.trans (b13.mono B17.out.size))
        have M13 := Lib.hid h13
        have E17 := Lib.hid ((b13.block _ (lt_of_some E17.out)).trans E17.out)
        clear b13 h13
        refine ⟨_, rfl, ?_⟩
        refine hK.out _ _ ⟨(cell_blk (i := 0) ((B13.out.block _ lt1).trans A1.out) rfl), (cell_blk (i := 1) ((B13.out.block _ lt1).trans A1.out) rfl), (cell_blk (i := 2) ((B13.out.block _ lt1).trans A1.out) rfl), (cell_blk (i := 3) ((B13.out.block _ lt1).trans A1.out) rfl), (cell_blk (i := 4) ((B13.out.block _ lt1).trans A1.out) rfl), (cell_blk (i := 5) ((B13.out.block _ lt1).trans A1.out) rfl), (cell_blk (i := 6) ((B13.out.block _ lt1).trans A1.out) rfl), (cell_blk (i := 7) ((B13.out.block _ lt1).trans A1.out) rfl)⟩ (fun hHeld => ?_)
        clear hK K
        refine norm_ (a' := ?_) ?_ ?_
        rotate_left
        · show Act.put _ (some 21) _ = _
          simp only [Act.put, sqA, sqZ, sqS, i64_w, i32_w]
          rfl
        refine one_ (i := 14) (N := some 22) (bz 19 163839).toArray rfl rfl (by kernel_rfl) (by decide) (fun K hK => ?_)
        refine goes_ Tryz.func17 (by kernel_rfl) rfl #[pt_ mb] (by rfl) rfl rfl (by simp only [List.map_toArray, List.map_cons, List.map_nil]; rfl) ?_
        with_reducible refine (xmpairs_nil M13.out).mono ?_
        rintro e w9 ⟨rfl, rfl⟩
        refine ⟨_, rfl, ?_⟩
        refine hK.out _ _ ⟨(cell_blk (i := 0) ((B13.out.block _ lt1).trans A1.out) rfl), (cell_blk (i := 1) ((B13.out.block _ lt1).trans A1.out) rfl), (cell_blk (i := 2) ((B13.out.block _ lt1).trans A1.out) rfl), (cell_blk (i := 3) ((B13.out.block _ lt1).trans A1.out) rfl), (cell_blk (i := 4) ((B13.out.block _ lt1).trans A1.out) rfl), (cell_blk (i := 5) ((B13.out.block _ lt1).trans A1.out) rfl), (cell_blk (i := 6) ((B13.out.block _ lt1).trans A1.out) rfl), (cell_blk (i := 7) ((B13.out.block _ lt1).trans A1.out) rfl)⟩ (fun hHeld => ?_)
        clear hK K
        refine norm_ (a' := ?_) ?_ ?_
        rotate_left
        · show Act.put _ (some 22) _ = _
          simp only [Act.put, sqA, sqZ, sqS, i64_w, i32_w]
          rfl
        refine one_ (i := 15) (N := some 23) (bz 19 196607).toArray rfl rfl (by kernel_rfl) (by decide) (fun K hK => ?_)
        have F15 := Lib.hid (show Calls Tryz.prog 15 #[.slice none 0 0, .int .i64 200] w13 (fun e w' => e = .returned (.slice none 0 0) ∧ w13 = w') from xfirstP_all (w := w13) (ad := none) (n := 0) (c := 0) (m := 200) (by omega) (by omega) (by omega))
        refine goes_ Tryz.func15 (by kernel_rfl) rfl #[.slice none 0 0, .int .i64 200] (by rfl) rfl rfl (by simp only [List.map_toArray, List.map_cons, List.map_nil]; rfl) ?_
        with_reducible refine (F15.out).mono ?_
        rintro e w9 ⟨rfl, rfl⟩
        clear F15
        refine ⟨_, rfl, ?_⟩
        refine hK.out _ _ ⟨(cell_blk (i := 0) ((B13.out.block _ lt1).trans A1.out) rfl), (cell_blk (i := 1) ((B13.out.block _ lt1).trans A1.out) rfl), (cell_blk (i := 2) ((B13.out.block _ lt1).trans A1.out) rfl), (cell_blk (i := 3) ((B13.out.block _ lt1).trans A1.out) rfl), (cell_blk (i := 4) ((B13.out.block _ lt1).trans A1.out) rfl), (cell_blk (i := 5) ((B13.out.block _ lt1).trans A1.out) rfl), (cell_blk (i := 6) ((B13.out.block _ lt1).trans A1.out) rfl), (cell_blk (i := 7) ((B13.out.block _ lt1).trans A1.out) rfl)⟩ (fun hHeld => ?_)
        clear hK K
        refine norm_ (a' := ?_) ?_ ?_
        rotate_left
        · show Act.put _ (some 23) _ = _
          simp only [Act.put, sqA, sqZ, sqS, i64_w, i32_w]
          rfl
        refine pure_ (i := 16) (N := some 24) (v := ?_) (a' := ?_) (bz 19 262143).toArray rfl rfl (by kernel_rfl) (fun _ _ _ h => h) (Or.inl ⟨by rfl, ?_⟩) ?_ ?_
        rotate_left
        · intro w'
          go_simp
          with_reducible rfl
        rotate_left
        · simp only [Act.put, sqA, sqZ, sqS, i64_w, i32_w]
          rfl
        exact norm_ (by first | (simp only [putAll, Act.put, sqA, sqZ, sqS]; done) | (simp only [putAll, Act.put, sqA, sqZ, sqS]; rfl)) (hCont (mb, w10.heap.size) _ ⟨B13.out, E17.out, L17.out⟩)
    · skip
      refine value_ (w1 := ?_) (v := ?_) (by rfl) rfl ?_ ?_
      rotate_left 2
      · go_simp
        constructor
        · rfl
        · rfl
      have B17 := Lib.hid (Bs.out.alloc Bs.out.size (.cells #[.int .i64 0, .int .i64 0, .int .i64 0, .int .i64 0, .int .i64 0, .int .i64 0, .int .i64 0, .slice none 0 0, .slice none 0 0, .slice none 0 0] 30))
      have E17 := Lib.hid (heap_alloc_new w1.drew (.cells #[.int .i64 0, .int .i64 0, .int .i64 0, .int .i64 0, .int .i64 0, .int .i64 0, .int .i64 0, .slice none 0 0, .slice none 0 0, .slice none 0 0] 30))
      have L17 := Lib.hid Bs.out.size
      refine hK.out _ _ ⟨(cell_blk (i := 0) ((B17.out.block _ lt1).trans A1.out) rfl), (cell_blk (i := 1) ((B17.out.block _ lt1).trans A1.out) rfl), (cell_blk (i := 2) ((B17.out.block _ lt1).trans A1.out) rfl), (cell_blk (i := 3) ((B17.out.block _ lt1).trans A1.out) rfl), (cell_blk (i := 4) ((B17.out.block _ lt1).trans A1.out) rfl), (cell_blk (i := 5) ((B17.out.block _ lt1).trans A1.out) rfl), (cell_blk (i := 6) ((B17.out.block _ lt1).trans A1.out) rfl), (cell_blk (i := 7) ((B17.out.block _ lt1).trans A1.out) rfl)⟩ (fun hHeld => ?_)
      clear hK K
      refine norm_ (a' := ?_) ?_ ?_
      rotate_left
      · show Act.put _ (some 3) _ = _
        simp only [Act.put, sqA, sqZ, sqS, i64_w, i32_w]
        rfl
      refine one_ (i := 10) (N := some 18) (bz 19 139263).toArray rfl rfl (by kernel_rfl) (by decide) (fun K hK => ?_)
      refine goes_ Tryz.func14 (by kernel_rfl) rfl #[.agg #[.int .i64 p.high, .int .i64 p.low, .int .i64 p.cont, .int .i64 p.uncont, .int .i64 p.multi]] (by rfl) rfl rfl (by simp only [List.map_toArray, List.map_cons, List.map_nil]; rfl) ?_
      with_reducible refine (xclamp_any p _).mono ?_
      rintro e w10 ⟨rfl, b10⟩
      have B10 := Lib.hid (B17.out.trans (b10.mono B17.out.size))
      have E17 := Lib.hid ((b10.block _ (lt_of_some E17.out)).trans E17.out)
      clear b10
      refine ⟨_, rfl, ?_⟩
      refine hK.out _ _ ⟨(cell_blk (i := 0) ((B10.out.block _ lt1).trans A1.out) rfl), (cell_blk (i := 1) ((B10.out.block _ lt1).trans A1.out) rfl), (cell_blk (i := 2) ((B10.out.block _ lt1).trans A1.out) rfl), (cell_blk (i := 3) ((B10.out.block _ lt1).trans A1.out) rfl), (cell_blk (i := 4) ((B10.out.block _ lt1).trans A1.out) rfl), (cell_blk (i := 5) ((B10.out.block _ lt1).trans A1.out) rfl), (cell_blk (i := 6) ((B10.out.block _ lt1).trans A1.out) rfl), (cell_blk (i := 7) ((B10.out.block _ lt1).trans A1.out) rfl)⟩ (fun hHeld => ?_)
      clear hK K
      refine norm_ (a' := ?_) ?_ ?_
      rotate_left
      · show Act.put _ (some 18) _ = _
        simp only [Act.put, sqA, sqZ, sqS, i64_w, i32_w]
        rfl
      refine one_ (i := 13) (N := some 21) (bz 19 147455).toArray rfl rfl (by kernel_rfl) (by decide) (fun K hK => ?_)
      refine goes_ Tryz.func16 (by kernel_rfl) rfl #[.slice none 0 0] (by rfl) rfl rfl (by simp only [List.map_toArray, List.map_cons, List.map_nil]; rfl) ?_
      with_reducible refine (xmnew_nil _).mono ?_
      rintro e w13 ⟨mb, rfl, b13, h13⟩
      have B13 := Lib.hid (B10.out.trans (b13.mono B10.out.size))
      have M13 := Lib.hid h13
      have E17 := Lib.hid ((b13.block _ (lt_of_some E17.out)).trans E17.out)
      clear b13 h13
      refine ⟨_, rfl, ?_⟩
      refine hK.out _ _ ⟨(cell_blk (i := 0) ((B13.out.block _ lt1).trans A1.out) rfl), (cell_blk (i := 1) ((B13.out.block _ lt1).trans A1.out) rfl), (cell_blk (i := 2) ((B13.out.block _ lt1).trans A1.out) rfl), (cell_blk (i := 3) ((B13.out.block _ lt1).trans A1.out) rfl), (cell_blk (i := 4) ((B13.out.block _ lt1).trans A1.out) rfl), (cell_blk (i := 5) ((B13.out.block _ lt1).trans A1.out) rfl), (cell_blk (i := 6) ((B13.out.block _ lt1).trans A1.out) rfl), (cell_blk (i := 7) ((B13.out.block _ lt1).trans A1.out) rfl)⟩ (fun hHeld => ?_)
      clear hK K
      refine norm_ (a' := ?_) ?_ ?_
      rotate_left
      · show Act.put _ (some 21) _ = _
        simp only [Act.put, sqA, sqZ, sqS, i64_w, i32_w]
        rfl
      refine one_ (i := 14) (N := some 22) (bz 19 163839).toArray rfl rfl (by kernel_rfl) (by decide) (fun K hK => ?_)
      refine goes_ Tryz.func17 (by kernel_rfl) rfl #[pt_ mb] (by rfl) rfl rfl (by simp only [List.map_toArray, List.map_cons, List.map_nil]; rfl) ?_
      with_reducible refine (xmpairs_nil M13.out).mono ?_
      rintro e w9 ⟨rfl, rfl⟩
      refine ⟨_, rfl, ?_⟩
      refine hK.out _ _ ⟨(cell_blk (i := 0) ((B13.out.block _ lt1).trans A1.out) rfl), (cell_blk (i := 1) ((B13.out.block _ lt1).trans A1.out) rfl), (cell_blk (i := 2) ((B13.out.block _ lt1).trans A1.out) rfl), (cell_blk (i := 3) ((B13.out.block _ lt1).trans A1.out) rfl), (cell_blk (i := 4) ((B13.out.block _ lt1).trans A1.out) rfl), (cell_blk (i := 5) ((B13.out.block _ lt1).trans A1.out) rfl), (cell_blk (i := 6) ((B13.out.block _ lt1).trans A1.out) rfl), (cell_blk (i := 7) ((B13.out.block _ lt1).trans A1.out) rfl)⟩ (fun hHeld => ?_)
      clear hK K
      refine norm_ (a' := ?_) ?_ ?_
      rotate_left
      · show Act.put _ (some 22) _ = _
        simp only [Act.put, sqA, sqZ, sqS, i64_w, i32_w]
        rfl
      refine one_ (i := 15) (N := some 23) (bz 19 196607).toArray rfl rfl (by kernel_rfl) (by decide) (fun K hK => ?_)
      have F15 := Lib.hid (show Calls Tryz.prog 15 #[.slice none 0 0, .int .i64 200] w13 (fun e w' => e = .returned (.slice none 0 0) ∧ w13 = w') from xfirstP_all (w := w13) (ad := none) (n := 0) (c := 0) (m := 200) (by omega) (by omega) (by omega))
      refine goes_ Tryz.func15 (by kernel_rfl) rfl #[.slice none 0 0, .int .i64 200] (by rfl) rfl rfl (by simp only [List.map_toArray, List.map_cons, List.map_nil]; rfl) ?_
      with_reducible refine (F15.out).mono ?_
      rintro e w9 ⟨rfl, rfl⟩
      clear F15
      refine ⟨_, rfl, ?_⟩
      refine hK.out _ _ ⟨(cell_blk (i := 0) ((B13.out.block _ lt1).trans A1.out) rfl), (cell_blk (i := 1) ((B13.out.block _ lt1).trans A1.out) rfl), (cell_blk (i := 2) ((B13.out.block _ lt1).trans A1.out) rfl), (cell_blk (i := 3) ((B13.out.block _ lt1).trans A1.out) rfl), (cell_blk (i := 4) ((B13.out.block _ lt1).trans A1.out) rfl), (cell_blk (i := 5) ((B13.out.block _ lt1).trans A1.out) rfl), (cell_blk (i := 6) ((B13.out.block _ lt1).trans A1.out) rfl), (cell_blk (i := 7) ((B13.out.block _ lt1).trans A1.out) rfl)⟩ (fun hHeld => ?_)
      clear hK K
      refine norm_ (a' := ?_) ?_ ?_
      rotate_left
      · show Act.put _ (some 23) _ = _
        simp only [Act.put, sqA, sqZ, sqS, i64_w, i32_w]
        rfl
      refine pure_ (i := 16) (N := some 24) (v := ?_) (a' := ?_) (bz 19 262143).toArray rfl rfl (by kernel_rfl) (fun _ _ _ h => h) (Or.inl ⟨by rfl, ?_⟩) ?_ ?_
      rotate_left
      · intro w'
        go_simp
        with_reducible rfl
      rotate_left
      · simp only [Act.put, sqA, sqZ, sqS, i64_w, i32_w]
        rfl
      exact norm_ (by first | (simp only [putAll, Act.put, sqA, sqZ, sqS]; done) | (simp only [putAll, Act.put, sqA, sqZ, sqS]; rfl)) (hCont (mb, w1.heap.size) _ ⟨B13.out, E17.out, L17.out⟩)
  rintro ⟨mb, b3⟩ w4 ⟨b4, z4, l4⟩
  have B4 := Lib.hid b4
  have Z4 := Lib.hid z4
  have L4 := Lib.hid l4
  clear b4 z4 l4
  have hHeld : w4.cell? ⟨w.heap.size, 0, none⟩ = some (.int .i64 (n : Int)) ∧ w4.cell? ⟨w.heap.size, 1, none⟩ = some (.int .i64 cells) ∧ w4.cell? ⟨w.heap.size, 2, none⟩ = some (.int .i64 p.high) ∧ w4.cell? ⟨w.heap.size, 3, none⟩ = some (.int .i64 p.low) ∧ w4.cell? ⟨w.heap.size, 4, none⟩ = some (.int .i64 p.cont) ∧ w4.cell? ⟨w.heap.size, 5, none⟩ = some (.int .i64 p.uncont) ∧ w4.cell? ⟨w.heap.size, 6, none⟩ = some (.int .i64 p.multi) ∧ w4.cell? ⟨w.heap.size, 7, none⟩ = some (.slice none 0 0) := ⟨(cell_blk (i := 0) ((B4.out.block _ lt1).trans A1.out) rfl), (cell_blk (i := 1) ((B4.out.block _ lt1).trans A1.out) rfl), (cell_blk (i := 2) ((B4.out.block _ lt1).trans A1.out) rfl), (cell_blk (i := 3) ((B4.out.block _ lt1).trans A1.out) rfl), (cell_blk (i := 4) ((B4.out.block _ lt1).trans A1.out) rfl), (cell_blk (i := 5) ((B4.out.block _ lt1).trans A1.out) rfl), (cell_blk (i := 6) ((B4.out.block _ lt1).trans A1.out) rfl), (cell_blk (i := 7) ((B4.out.block _ lt1).trans A1.out) rfl)⟩
  have fz0 := free_blk (i := 0) Z4.out
  have fz1 := free_blk (i := 1) Z4.out
  have fz2 := free_blk (i := 2) Z4.out
  have fz3 := free_blk (i := 3) Z4.out
  have fz4 := free_blk (i := 4) Z4.out
  have fz5 := free_blk (i := 5) Z4.out
  have fz6 := free_blk (i := 6) Z4.out
  have fz7 := free_blk (i := 7) Z4.out
  have fz8 := free_blk (i := 8) Z4.out
  have fz9 := free_blk (i := 9) Z4.out
  have cz0 := cell_blk (i := 0) Z4.out rfl
  have cz1 := cell_blk (i := 1) Z4.out rfl
  have cz2 := cell_blk (i := 2) Z4.out rfl
  have cz3 := cell_blk (i := 3) Z4.out rfl
  have cz4 := cell_blk (i := 4) Z4.out rfl
  have cz5 := cell_blk (i := 5) Z4.out rfl
  have cz6 := cell_blk (i := 6) Z4.out rfl
  have cz7 := cell_blk (i := 7) Z4.out rfl
  have cz8 := cell_blk (i := 8) Z4.out rfl
  have cz9 := cell_blk (i := 9) Z4.out rfl
  have lz := lt_of_some Z4.out
  refine norm_ (a' := ?_) ?_ ?_
  rotate_left
  · simp only [putAll, Act.put, sqA, sqZ, sqS]
    rfl
  refine last_ (i := 18) (N := none) (bz 19 524287).toArray rfl rfl (by kernel_rfl) (by decide) (fun K hK => ?_)
  refine skip_ (w1 := ?_) (by rfl) rfl ?_ ?_
  rotate_left
  · go_simp
    rfl
  refine hK.out _ _ ?_
  clear hK K
  refine done_ (by kernel_rfl) ?_
  change Exit.then _ _ _ _ (set10 w4 b3 (.int .i64 (if 6 < if (n : Int) < 1 then 1 else (n : Int) then 6 else if (n : Int) < 1 then 1 else (n : Int))) (.int .i64 (if 60000 < if cells < 0 then 0 else cells then 60000 else if cells < 0 then 0 else cells)) (.int .i64 (clampP p).high) (.int .i64 (clampP p).low) (.int .i64 (clampP p).cont) (.int .i64 (clampP p).uncont) (.int .i64 (clampP p).multi) (.slice none 0 0) (.slice none 0 0) (.slice none 0 0))
  have h11 : (if 6 < if (n : Int) < 1 then 1 else (n : Int) then 6 else if (n : Int) < 1 then 1 else (n : Int)) = (n : Int) := by rw [if_neg (show ¬ ((n : Int) < 1) by omega)]; exact if_neg (by omega)
  have h15 : (if 60000 < if cells < 0 then 0 else cells then 60000 else if cells < 0 then 0 else cells) = cells := by rw [if_neg (show ¬ (cells < 0) by omega)]; exact if_neg (by omega)
  rw [h11, h15]
  clear h11 h15
  have B5 := Lib.hid (set10_below B4.out L4.out (.int .i64 (n : Int)) (.int .i64 cells) (.int .i64 (clampP p).high) (.int .i64 (clampP p).low) (.int .i64 (clampP p).cont) (.int .i64 (clampP p).uncont) (.int .i64 (clampP p).multi) (.slice none 0 0) (.slice none 0 0) (.slice none 0 0))
  have CLb := Lib.hid (show CL1 w #[.int .i64 (n : Int), .int .i64 cells, .int .i64 p.high, .int .i64 p.low, .int .i64 p.cont, .int .i64 p.uncont, .int .i64 p.multi, .slice none 0 0, .slice (some ⟨ob, 0, none⟩) n oc, .slice xad xn xc] #[.int .i64 (n : Int), .int .i64 cells, .int .i64 (clampP p).high, .int .i64 (clampP p).low, .int .i64 (clampP p).cont, .int .i64 (clampP p).uncont, .int .i64 (clampP p).multi, .slice none 0 0, .slice none 0 0, .slice none 0 0] b3 (.slice none 0 0) 0 rows (set10 w4 b3 (.int .i64 (n : Int)) (.int .i64 cells) (.int .i64 (clampP p).high) (.int .i64 (clampP p).low) (.int .i64 (clampP p).cont) (.int .i64 (clampP p).uncont) (.int .i64 (clampP p).multi) (.slice none 0 0) (.slice none 0 0) (.slice none 0 0)) from ⟨B1.out.trans (B5.out.mono B1.out.size), (set10_other (.int .i64 (n : Int)) (.int .i64 cells) (.int .i64 (clampP p).high) (.int .i64 (clampP p).low) (.int .i64 (clampP p).cont) (.int .i64 (clampP p).uncont) (.int .i64 (clampP p).multi) (.slice none 0 0) (.slice none 0 0) (.slice none 0 0) (by have := L4.out; omega)).trans ((B4.out.block _ lt1).trans A1.out), (set10_other (.int .i64 (n : Int)) (.int .i64 cells) (.int .i64 (clampP p).high) (.int .i64 (clampP p).low) (.int .i64 (clampP p).cont) (.int .i64 (clampP p).uncont) (.int .i64 (clampP p).multi) (.slice none 0 0) (.slice none 0 0) (.slice none 0 0) (by have := L4.out; have := S1.out; omega)).trans ((B4.out.block _ (by have := S1.out; omega)).trans A2.out), set10_heap (.int .i64 (n : Int)) (.int .i64 cells) (.int .i64 (clampP p).high) (.int .i64 (clampP p).low) (.int .i64 (clampP p).cont) (.int .i64 (clampP p).uncont) (.int .i64 (clampP p).multi) (.slice none 0 0) (.slice none 0 0) (.slice none 0 0) Z4.out, by have := L4.out; have := S1.out; omega, [], World.ownsRow_nil _ _ _ _, fun t ht => by omega⟩)
  generalize set10 w4 b3 (.int .i64 (n : Int)) (.int .i64 cells) (.int .i64 (clampP p).high) (.int .i64 (clampP p).low) (.int .i64 (clampP p).cont) (.int .i64 (clampP p).uncont) (.int .i64 (clampP p).multi) (.slice none 0 0) (.slice none 0 0) (.slice none 0 0) = w5 at CLb ⊢
  clear fz0 cz0 fz1 cz1 fz2 cz2 fz3 cz3 fz4 cz4 fz5 cz5 fz6 cz6 fz7 cz7 fz8 cz8 fz9 cz9 lz Z4 L4 B4 B5 B1 A1 A2 S1 Bs lt1 m0 m1 m2 m3 n0 n1 n2 n3
  have z0 : w5.cell? ⟨b3, 0, none⟩ = some (.int .i64 (n : Int)) := cell_blk (i := 0) CLb.out.a3 rfl
  go_wp2_with fail
  clear z0
  go_loopw [27] (fun i wr => ∃ k : Nat, k ≤ n ∧ i = .int .i64 k ∧ ∃ vad vc, Hid (CL1 w #[.int .i64 (n : Int), .int .i64 cells, .int .i64 p.high, .int .i64 p.low, .int .i64 p.cont, .int .i64 p.uncont, .int .i64 p.multi, .slice none 0 0, .slice (some ⟨ob, 0, none⟩) n oc, .slice xad xn xc] #[.int .i64 (n : Int), .int .i64 cells, .int .i64 (clampP p).high, .int .i64 (clampP p).low, .int .i64 (clampP p).cont, .int .i64 (clampP p).uncont, .int .i64 (clampP p).multi, .slice none 0 0, .slice vad k vc, .slice none 0 0] b3 (.slice vad k vc) k rows wr)) (fun i _ => n - (intOf i).toNat)
  case atStart => exact ⟨0, Nat.zero_le _, rfl, none, 0, CLb⟩
  case round =>
    obtain ⟨k, hk, rfl, vad, vc, HC⟩ := hrel
    by_cases hlt : k < n
    · obtain ⟨ad, c, hcell, hin⟩ := HROWS.out k hlt
      have hcr := (HC.out.below.cell (World.block_lt_of_cell? w _ hcell)).trans hcell
      have CO := xcloneO_any (hin.later HC.out.below) (by have := (HOK.out k hlt).1; omega)
      obtain ⟨m, hm⟩ : ∃ m, m = (rows.getD k []).length := ⟨_, rfl⟩
      rw [← hm] at hcr CO
      have HM := Lib.hid hm
      have HCO := Lib.hid CO
      clear hcell hin CO hm
      have hm60 : m ≤ 60 := by rw [HM.out]; exact (HOK.out k hlt).1
      have x8 : wr.cell? ⟨w.heap.size, 8, none⟩ = some (.slice (some ⟨ob, 0, none⟩) n oc) := cell_blk (i := 8) HC.out.a1 rfl
      have q0 : ¬ ((k : Int) < 0) := by omega
      have q1 : ¬ ((n : Int) ≤ (k : Int)) := by omega
      have q2 : (k : Int) < (n : Int) := by omega
      go_wp2_with fail
      refine HCO.out.mono ?_
      rintro e w6 ⟨ad1, c1, rfl, ho6, b6, hf6⟩
      clear HCO x8 hcr
      have hin6 := OpIn.own (w := w6) (ad := ad1) (c := c1) (l := rows.getD k []) (by rw [← HM.out]; exact ho6)
      have DO := xdeleteO_no hin6 (by have := HM.out; omega) (HOK.out k hlt).2
      rw [← HM.out] at DO
      have HDO := Lib.hid DO
      have HC6 := Lib.hid (HC.out.later b6)
      have HO6 := Lib.hid (show w6.ownsRow w.heap.size 32 4 (.slice ad1 m c1) m ((rows.getD k []).flatMap opL) from by
        rcases ho6 with ⟨h1, h2 | ⟨g, cap, cur, h2, h3⟩⟩
        · exact ⟨h1, .inl h2⟩
        · exact ⟨h1, .inr ⟨g, cap, cur, h2, Nat.le_trans HC.out.below.size (hf6 g (by rw [h2]; rfl)), h3.2⟩⟩)
      have hmc : m ≤ c1 := by have h1 := hin6.1; have h2 := HM.out; omega
      clear DO ho6 b6 hf6 hin6
      go_wp2_with fail
      refine HDO.out.mono ?_
      rintro e w7 ⟨rfl, b7⟩
      have HC7 := Lib.hid (HC6.out.later b7)
      have HO7 := Lib.hid (ownsRow_later HO6.out b7)
      clear b7 HDO HC6 HO6
      have FO := Lib.hid (show Calls Tryz.prog 18 #[.slice ad1 m c1, .int .i64 60] w7 (fun e w' => e = .returned (.slice ad1 m c1) ∧ w7 = w') from xfirstO_all (m := 60) hm60 (by omega) hmc)
      go_wp2_with fail
      refine FO.out.mono ?_
      rintro e w' ⟨rfl, rfl⟩
      clear FO
      have RB := Lib.hid (heap_alloc_new w7 (.cells #[.slice ad1 m c1] 33))
      have b8 : Below w7.heap.size w7 (w7.alloc (.cells #[.slice ad1 m c1] 33)) := (Below.refl _ _).alloc (Nat.le_refl _) _
      have HC8 := Lib.hid (HC7.out.later b8)
      have HO8 := Lib.hid (ownsRow_later HO7.out b8)
      clear b8
      have x3 : w7.cell? ⟨b3, 8, none⟩ = some (.slice vad k vc) := cell_blk (i := 8) HC7.out.a3 rfl
      obtain ⟨vs, hvs, hvr⟩ := HC8.out.rows
      have HVS := Lib.hid hvs
      have HVR := Lib.hid hvr
      clear hvs hvr
      go_wp2_with (at_builtin; refine wp_app1 (v := .slice vad k vc) (cs := #[.slice ad1 m c1]) rfl (.tmp 44) (.tmp 46) rfl Tryz.underlying27 info_ops rfl (by decide) (by decide) rfl rfl (ownsRow_zero HVS.out) RB.out rfl (fun u hu => by have hu : u ∈ [Value.slice ad1 m c1] := hu; rw [List.mem_singleton] at hu; subst hu; rfl) (by omega) ?_; intro g9 cap9 w9 ho9 hg9 hl9; have HO9 := Lib.hid ho9; have HG9 := Lib.hid hg9; have HL9 := Lib.hid hl9; have hb9 := Lib.hid ((hg9.block b3 (lt_of_some HC8.out.a3) (fun e => ownsRow_ne HVS.out HC8.out.a3 (by decide) e.symm)).trans HC8.out.a3); have fx7 := free_blk (i := 8) hb9.out; have cx7 := cell_blk (i := 8) hb9.out rfl; have lx7 := lt_of_some hb9.out; clear ho9 hg9 hl9)
      go_roundw
      case rel =>
        refine ⟨k + 1, by omega, by go_num, some ⟨g9, 0, none⟩, cap9, Lib.hid ⟨(HC8.out.below.grown HG9.out HC8.out.below.size (fun x hx => (HVS.out.lt x hx).1)).setCell (by show w.heap.size ≤ b3; have := HC.out.b3; omega) _, ?_, ?_, ?_, HC.out.b3, ?_⟩⟩
        · exact (setCell_other _ (by have := HC.out.b3; omega)).trans ((HG9.out.block _ (lt_of_some HC8.out.a1) (fun e => ownsRow_ne HVS.out HC8.out.a1 (by decide) e.symm)).trans HC8.out.a1)
        · exact (setCell_other _ (by have := HC.out.b3; omega)).trans ((HG9.out.block _ (lt_of_some HC8.out.a2) (fun e => ownsRow_ne HVS.out HC8.out.a2 (by decide) e.symm)).trans HC8.out.a2)
        · rw [heap_setCell_same w9 b3 8 _ _ _ hb9.out]; rfl
        · have hsn := RowsAt.snoc (rows := rows) (k := k) (u := .slice ad1 m c1) (by rw [← HM.out]; exact HO8.out) HC8.out.below.size HO9.out HVS.out HVR.out HG9.out HL9.out
          exact hsn.keep (fun b cs t hx ht => setCell_other _ (by rintro rfl; rw [hb9.out] at hx; injection hx with hx; injection hx with _ hx; subst hx; rcases ht with ht | ht <;> exact absurd ht (by decide)))
      case measure => simp [intOf]; omega
    · have hkn : k = n := by omega
      subst hkn
      have x9 : wr.cell? ⟨w.heap.size, 9, none⟩ = some (.slice xad xn xc) := cell_blk (i := 9) HC.out.a1 rfl
      have FO := Lib.hid (show Calls Tryz.prog 22 #[.slice xad xn xc, .int .i64 100000] wr (fun e w' => e = .returned (.slice xad xn xc) ∧ wr = w') from xfirstI_all (m := 100000) hxl (by omega) hxc)
      go_wp2_with fail
      refine FO.out.mono ?_
      rintro e w' ⟨rfl, rfl⟩
      clear FO x9
      go_wp2_with fail
      have HV := Lib.hid HC.out
      clear HC
      go_loopw [54] (fun i wr => ∃ j : Nat, j ≤ xn ∧ i = .int .i64 j ∧ ∃ pad pc, Hid (CL1 w #[.int .i64 (k : Int), .int .i64 cells, .int .i64 p.high, .int .i64 p.low, .int .i64 p.cont, .int .i64 p.uncont, .int .i64 p.multi, .slice none 0 0, .slice (some ⟨ob, 0, none⟩) k oc, .slice xad xn xc] #[.int .i64 (k : Int), .int .i64 cells, .int .i64 (clampP p).high, .int .i64 (clampP p).low, .int .i64 (clampP p).cont, .int .i64 (clampP p).uncont, .int .i64 (clampP p).multi, .slice none 0 0, .slice vad k vc, .slice pad j pc] b3 (.slice vad k vc) k rows wr ∧ wr.ownsRow w.heap.size 3 1 (.slice pad j pc) j (natsV ((xs.map fun x => (x % (k : Int)).toNat).take j)))) (fun i _ => xn - (intOf i).toNat)
      case atStart => exact ⟨0, Nat.zero_le _, rfl, none, 0, Lib.hid ⟨HV.out, World.ownsRow_nil _ _ _ _⟩⟩
      case round =>
        clear HV
        obtain ⟨j, hj, rfl, pad, pc, HC⟩ := hrel
        by_cases hlt2 : j < xn
        · have hjx : j < xs.length := by have := HXN.out; omega
          obtain ⟨b, off, rfl, hxc2⟩ : ∃ b off, xad = some ⟨b, off, none⟩ ∧ ∀ k (hk : k < xs.length), w.cell? ⟨b, off + k, none⟩ = some (.int .i64 xs[k]) := by
            rcases HX.out with h1 | h1
            · rw [h1] at hjx; simp at hjx
            · exact h1
          have hcell := hxc2 j hjx
          have hcr := (HC.out.1.below.cell (World.block_lt_of_cell? w _ hcell)).trans hcell
          have hxr := HXB.out _ (List.getElem_mem hjx)
          have htk : natsV ((xs.map fun x => (x % (k : Int)).toNat).take (j + 1)) = natsV ((xs.map fun x => (x % (k : Int)).toNat).take j) ++ [.int .i64 (((xs[j] % (k : Int)).toNat : Nat) : Int)] := by
            rw [List.take_add_one, List.getElem?_map, List.getElem?_eq_getElem hjx]; simp [natsV]
          obtain ⟨x, hxe⟩ : ∃ x, x = xs[j] := ⟨_, rfl⟩
          rw [← hxe] at hcr hxr htk
          obtain ⟨tv, htv⟩ : ∃ tv, tv = (x % (k : Int)).toNat := ⟨_, rfl⟩
          have mo := xmodulo_any wr.drew x k hn1 (by omega) hxr
          rw [← htv] at mo htk
          have MO := Lib.hid mo
          have HTK := Lib.hid htk
          clear mo htk hxe htv hcell hxc2
          have q0 : ¬ ((j : Int) < 0) := by omega
          have q1 : ¬ ((xn : Int) ≤ (j : Int)) := by omega
          have q2 : (j : Int) < (xn : Int) := by omega
          have y9 : wr.cell? ⟨b3, 9, none⟩ = some (.slice pad j pc) := cell_blk (i := 9) HC.out.1.a3 rfl
          have y0 : wr.cell? ⟨b3, 0, none⟩ = some (.int .i64 (k : Int)) := cell_blk (i := 0) HC.out.1.a3 rfl
          have RB := Lib.hid (heap_alloc_new wr.drew (.cells #[.int .i64 (tv : Int)] 3))
          have b8 : Below wr.heap.size wr (wr.drew.alloc (.cells #[.int .i64 (tv : Int)] 3)) := ((Below.refl _ _).drew).alloc (Nat.le_refl _) _
          have HC8 := Lib.hid (HC.out.1.later b8)
          have HR8 := Lib.hid (ownsRow_later HC.out.2 b8)
          clear b8
          go_wp2_with fail
          refine start_ (n := 10) (S := fun w' => w'.cell? ⟨b3, 9, none⟩ = some (.slice pad j pc) ∧ w'.cell? ⟨b3, 0, none⟩ = some (.int .i64 (k : Int))) (ds := [7, 9]) (bz 10 0).toArray (by kernel_rfl) rfl rfl ⟨(drew_cell y9), (drew_cell y0)⟩ (fun hHeld => ?_)
          refine pure_ (i := 0) (N := some 58) (v := ?_) (a' := ?_) (bz 10 1).toArray rfl rfl (by kernel_rfl) (fun _ _ _ h => h) (Or.inl ⟨by rfl, ?_⟩) ?_ ?_
          rotate_left
          · intro w'
            go_simp
            with_reducible rfl
          rotate_left
          · simp only [Act.put, sqA, sqZ, sqS, i64_w, i32_w]
            rfl
          refine pure_ (i := 2) (N := some 60) (v := ?_) (a' := ?_) (bz 10 5).toArray rfl rfl (by kernel_rfl) (fun _ _ _ h => h) (Or.inl ⟨by rfl, ?_⟩) ?_ ?_
          rotate_left
          · intro w'
            go_simp
            with_reducible rfl
          rotate_left
          · simp only [Act.put, sqA, sqZ, sqS, i64_w, i32_w]
            rfl
          refine pure_ (i := 3) (N := some 61) (v := ?_) (a' := ?_) (bz 10 13).toArray rfl rfl (by kernel_rfl) (fun _ _ _ h => h) (Or.inl ⟨by rfl, ?_⟩) ?_ ?_
          rotate_left
          · intro w'
            go_simp
            with_reducible rfl
          rotate_left
          · simp only [Act.put, sqA, sqZ, sqS, i64_w, i32_w]
            rfl
          refine take_ (i := 1) (N := some 59) (v := ?_) (a' := ?_) (bz 10 15).toArray rfl rfl (by kernel_rfl) (fun _ _ _ h => h) (Or.inl ⟨by rfl, ?_⟩) hHeld ?_ ?_
          rotate_left
          · rintro w' ⟨s0, s1⟩
            go_simp
            with_reducible rfl
          rotate_left
          · simp only [Act.put, sqA, sqZ, sqS, i64_w, i32_w]
            rfl
          refine take_ (i := 4) (N := some 62) (v := ?_) (a' := ?_) (bz 10 31).toArray rfl rfl (by kernel_rfl) (fun _ _ _ h => h) (Or.inl ⟨by rfl, ?_⟩) hHeld ?_ ?_
          rotate_left
          · rintro w' ⟨s0, s1⟩
            go_simp
            with_reducible rfl
          rotate_left
          · simp only [Act.put, sqA, sqZ, sqS, i64_w, i32_w]
            rfl
          refine one_ (i := 5) (N := some 63) (bz 10 63).toArray rfl rfl (by kernel_rfl) (by decide) (fun K hK => ?_)
          refine goes_ Tryz.func23 (by kernel_rfl) rfl #[.int .i64 x, .int .i64 (k : Int)] (by rfl) rfl rfl (by simp only [List.map_toArray, List.map_cons, List.map_nil]; rfl) ?_
          with_reducible refine (MO.out).mono ?_
          rintro e w9 ⟨rfl, rfl⟩
          refine ⟨_, rfl, ?_⟩
          refine hK.out _ _ ⟨(drew_cell y9), (drew_cell y0)⟩ ?_
          clear hHeld
          intro hHeld
          clear hK K
          refine norm_ (a' := ?_) ?_ ?_
          rotate_left
          · show Act.put _ (some 63) _ = _
            simp only [Act.put, sqA, sqZ, sqS, i64_w, i32_w]
            rfl
          refine one_ (i := 6) (N := some 64) (bz 10 127).toArray rfl rfl (by kernel_rfl) (by decide) (fun K hK => ?_)
          refine value_ (w1 := ?_) (v := ?_) (by rfl) rfl ?_ ?_
          rotate_left 2
          · go_simp
            constructor
            · rfl
            · rfl
          refine hK.out _ _ ⟨(cell_blk (i := 9) HC8.out.a3 rfl), (cell_blk (i := 0) HC8.out.a3 rfl)⟩ ?_
          clear hHeld
          intro hHeld
          clear hK K
          refine norm_ (a' := ?_) ?_ ?_
          rotate_left
          · show Act.put _ (some 64) _ = _
            simp only [Act.put, sqA, sqZ, sqS, i64_w, i32_w]
            rfl
          refine last_ (i := 7) (N := some 65) (bz 10 255).toArray rfl rfl (by kernel_rfl) (by decide) (fun K hK => ?_)
          refine step_app1 (v := .slice pad j pc) (cs := #[.int .i64 (tv : Int)]) (by rfl) rfl (.tmp 59) (.tmp 64) rfl Tryz.underlying22 info_int rfl (by decide) (by decide) rfl rfl (ownsRow_zero HR8.out) RB.out rfl (fun u hu => by have hu : u ∈ [Value.int .i64 (tv : Int)] := hu; rw [List.mem_singleton] at hu; subst hu; rfl) (by omega) ?_
          intro g9 cap9 w9 ho9 hg9 hl9
          have HO9 := Lib.hid ho9
          have HG9 := Lib.hid hg9
          have HL9 := Lib.hid hl9
          have hb9 := Lib.hid ((hg9.block b3 (lt_of_some HC8.out.a3) (fun e => ownsRow_ne HR8.out HC8.out.a3 (by decide) e.symm)).trans HC8.out.a3)
          have fx9 := free_blk (i := 9) hb9.out
          have cx9 := cell_blk (i := 9) hb9.out rfl
          have lx9 := lt_of_some hb9.out
          clear ho9 hg9 hl9
          refine hK.out _ _ ?_
          clear hK K
          refine norm_ (a' := ?_) ?_ ?_
          rotate_left
          · show Act.put _ (some 65) _ = _
            simp only [Act.put, sqA, sqZ, sqS, i64_w, i32_w]
            rfl
          refine pure_ (i := 8) (N := some 66) (v := ?_) (a' := ?_) (bz 10 511).toArray rfl rfl (by kernel_rfl) (fun _ _ _ h => h) (Or.inl ⟨by rfl, ?_⟩) ?_ ?_
          rotate_left
          · intro w'
            go_simp
            with_reducible rfl
          rotate_left
          · simp only [Act.put, sqA, sqZ, sqS, i64_w, i32_w]
            rfl
          refine lastdone_ (i := 9) (N := none) (bz 10 1023).toArray rfl rfl (by kernel_rfl) (by decide) (by kernel_rfl) (fun K hK => ?_)
          refine skip_ (w1 := ?_) (by rfl) rfl ?_ ?_
          rotate_left
          · go_simp
            rfl
          refine hK.out _ _ ?_
          clear hK K
          go_wp2_with fail
          go_roundw
          case rel =>
            have hro : w9.ownsRow w.heap.size 3 1 (.slice (some ⟨g9, 0, none⟩) (j + 1) cap9) (j + 1) (natsV ((xs.map fun x => (x % (k : Int)).toNat).take (j + 1))) := by
              rw [HTK.out]
              refine ⟨HO9.out.1, ?_⟩
              rcases HO9.out.2 with ⟨h1, _⟩ | ⟨g, cap, cur, h1, _, h3⟩
              · cases h1
              · have h4 := h1
                injection h4 with h4 _ h5
                injection h4 with h4
                injection h4 with h4
                subst h4; subst h5
                refine .inr ⟨g9, cap9, cur, rfl, ?_, h3⟩
                rcases HL9.out with hl | hl
                · exact (HR8.out.lt g9 hl).1
                · rw [hl]; exact HC8.out.below.size
            refine ⟨j + 1, by omega, by go_num, some ⟨g9, 0, none⟩, cap9, Lib.hid ⟨⟨(HC8.out.below.grown HG9.out HC8.out.below.size (fun x hx => (HR8.out.lt x hx).1)).setCell (by show w.heap.size ≤ b3; have := HC.out.1.b3; omega) _, ?_, ?_, ?_, HC.out.1.b3, ?_⟩, ?_⟩⟩
            · exact (setCell_other _ (by have := HC.out.1.b3; omega)).trans ((HG9.out.block _ (lt_of_some HC8.out.a1) (fun e => ownsRow_ne HR8.out HC8.out.a1 (by decide) e.symm)).trans HC8.out.a1)
            · exact (setCell_other _ (by have := HC.out.1.b3; omega)).trans ((HG9.out.block _ (lt_of_some HC8.out.a2) (fun e => ownsRow_ne HR8.out HC8.out.a2 (by decide) e.symm)).trans HC8.out.a2)
            · rw [heap_setCell_same w9 b3 9 _ _ _ hb9.out]; rfl
            · refine (HC8.out.rows.keep (w' := w9) (fun b cs t hx ht => HG9.out.block b (lt_of_some hx) (fun e => ownsRow_ne HR8.out hx (by rcases ht with rfl | rfl <;> decide) e.symm))).keep (fun b cs t hx ht => setCell_other _ (by rintro rfl; rw [hb9.out] at hx; injection hx with hx; injection hx with _ hx; subst hx; rcases ht with ht | ht <;> exact absurd ht (by decide)))
            · exact ownsRow_same hro (fun b hb => setCell_other _ (by rintro rfl; exact ownsRow_ne hro hb9.out (by decide) hb))
          case measure => simp [intOf]; omega
        · have hjn : j = xn := by omega
          subst hjn
          have H2 := Lib.hid HC.out.1.a2
          have H3 := Lib.hid HC.out.1.a3
          have cz0 := cell_blk (i := 0) H3.out rfl
          have cz1 := cell_blk (i := 1) H3.out rfl
          have cz2 := cell_blk (i := 2) H3.out rfl
          have cz3 := cell_blk (i := 3) H3.out rfl
          have cz4 := cell_blk (i := 4) H3.out rfl
          have cz5 := cell_blk (i := 5) H3.out rfl
          have cz6 := cell_blk (i := 6) H3.out rfl
          have cz7 := cell_blk (i := 7) H3.out rfl
          have cz8 := cell_blk (i := 8) H3.out rfl
          have cz9 := cell_blk (i := 9) H3.out rfl
          have cy0 := cell_blk (i := 0) H2.out rfl
          have cy1 := cell_blk (i := 1) H2.out rfl
          have cy2 := cell_blk (i := 2) H2.out rfl
          have cy3 := cell_blk (i := 3) H2.out rfl
          have cy4 := cell_blk (i := 4) H2.out rfl
          have cy5 := cell_blk (i := 5) H2.out rfl
          have cy6 := cell_blk (i := 6) H2.out rfl
          have cy7 := cell_blk (i := 7) H2.out rfl
          have cy8 := cell_blk (i := 8) H2.out rfl
          have cy9 := cell_blk (i := 9) H2.out rfl
          have fy0 := free_blk (i := 0) H2.out
          have fy1 := free_blk (i := 1) H2.out
          have fy2 := free_blk (i := 2) H2.out
          have fy3 := free_blk (i := 3) H2.out
          have fy4 := free_blk (i := 4) H2.out
          have fy5 := free_blk (i := 5) H2.out
          have fy6 := free_blk (i := 6) H2.out
          have fy7 := free_blk (i := 7) H2.out
          have fy8 := free_blk (i := 8) H2.out
          have fy9 := free_blk (i := 9) H2.out
          have lz := lt_of_some H3.out
          have ly := lt_of_some H2.out
          go_wp2_with fail
          refine bodyPost_ret (v := .agg #[.int .i64 (k : Int), .int .i64 cells, .int .i64 (clampP p).high, .int .i64 (clampP p).low, .int .i64 (clampP p).cont, .int .i64 (clampP p).uncont, .int .i64 (clampP p).multi, .slice none 0 0, .slice vad k vc, .slice pad j pc]) (by simp [results, Tryz.results9, go_sem, ly, cy0, fy0, cy1, fy1, cy2, fy2, cy3, fy3, cy4, fy4, cy5, fy5, cy6, fy6, cy7, fy7, cy8, fy8, cy9, fy9]) rfl ?_
          change CleanP k cells (clampP p) rows (xs.map fun x => (x % (k : Int)).toNat) w _ (set10 wr (w.heap.size + 1) (.int .i64 (k : Int)) (.int .i64 cells) (.int .i64 (clampP p).high) (.int .i64 (clampP p).low) (.int .i64 (clampP p).cont) (.int .i64 (clampP p).uncont) (.int .i64 (clampP p).multi) (.slice none 0 0) (.slice vad k vc) (.slice pad j pc))
          have B9 := set10_below HC.out.1.below (show w.heap.size ≤ w.heap.size + 1 by omega) (.int .i64 (k : Int)) (.int .i64 cells) (.int .i64 (clampP p).high) (.int .i64 (clampP p).low) (.int .i64 (clampP p).cont) (.int .i64 (clampP p).uncont) (.int .i64 (clampP p).multi) (.slice none 0 0) (.slice vad k vc) (.slice pad j pc)
          have hoth : ∀ b, b ≠ w.heap.size + 1 → (set10 wr (w.heap.size + 1) (.int .i64 (k : Int)) (.int .i64 cells) (.int .i64 (clampP p).high) (.int .i64 (clampP p).low) (.int .i64 (clampP p).cont) (.int .i64 (clampP p).uncont) (.int .i64 (clampP p).multi) (.slice none 0 0) (.slice vad k vc) (.slice pad j pc)).heap[b]? = wr.heap[b]? := fun b hb => set10_other (.int .i64 (k : Int)) (.int .i64 cells) (.int .i64 (clampP p).high) (.int .i64 (clampP p).low) (.int .i64 (clampP p).cont) (.int .i64 (clampP p).uncont) (.int .i64 (clampP p).multi) (.slice none 0 0) (.slice vad k vc) (.slice pad j pc) hb
          have hsz := set10_size wr (w.heap.size + 1) (.int .i64 (k : Int)) (.int .i64 cells) (.int .i64 (clampP p).high) (.int .i64 (clampP p).low) (.int .i64 (clampP p).cont) (.int .i64 (clampP p).uncont) (.int .i64 (clampP p).multi) (.slice none 0 0) (.slice vad k vc) (.slice pad j pc)
          generalize set10 wr (w.heap.size + 1) (.int .i64 (k : Int)) (.int .i64 cells) (.int .i64 (clampP p).high) (.int .i64 (clampP p).low) (.int .i64 (clampP p).cont) (.int .i64 (clampP p).uncont) (.int .i64 (clampP p).multi) (.slice none 0 0) (.slice vad k vc) (.slice pad j pc) = w9 at B9 hoth hsz ⊢
          obtain ⟨vs, hv1, hv2⟩ := HC.out.1.rows.keep (w' := w9) (fun b cs t hx ht => hoth b (by rintro rfl; rw [H2.out] at hx; injection hx with hx; injection hx with _ hx; subst hx; rcases ht with ht | ht <;> exact absurd ht (by decide)))
          have hpk : w9.ownsRow w.heap.size 3 1 (.slice pad j pc) j (natsV (xs.map fun x => (x % (k : Int)).toNat)) := by
            have h1 := HC.out.2
            rw [List.take_of_length_le (by rw [List.length_map]; exact Nat.le_of_eq HXN.out.symm)] at h1
            exact ownsRow_same h1 (fun b hb => hoth b (by rintro rfl; exact ownsRow_ne h1 H2.out (by decide) hb))
          rcases hv1.2 with ⟨_, h0⟩ | ⟨g, cap, cur, h1, h2, h3, h4, h5, h6, h7⟩
          · omega
          injection h1 with h1 _ h8
          subst h1; subst h8
          have hg9 := lt_of_some h3
          refine ⟨g, cur, vc, pad, j, pc, fun b => if b = g then some .lf else if w.heap.size ≤ b ∧ b < w9.heap.size then some .ro else none, rfl, ⟨if_pos rfl, h3, ⟨h4, h5⟩, HRL.out, fun t ht => ?_, fun b o ho => ?_⟩, ownsRow_zero hpk, fun b hb => ?_, by rw [List.length_map]; exact HXN.out, B9⟩
          · obtain ⟨u, hu1, hu2⟩ := hv2 t ht
            refine ⟨u, ?_, LeftAt.own hu2 (fun b hb => ?_)⟩
            · rw [← h7, List.getElem?_take] at hu1
              split at hu1
              · rw [← Array.getElem?_toList]; exact hu1
              · cases hu1
            · have h9 := hu2.lt b hb
              show (if b = g then _ else if w.heap.size ≤ b ∧ b < w9.heap.size then _ else _) = _
              rw [if_neg (by rintro rfl; exact ownsRow_ne hu2 h3 (by decide) hb), if_pos h9]
          · have ho : (if b = g then some Po.lf else if w.heap.size ≤ b ∧ b < w9.heap.size then some .ro else none) = some o := ho
            by_cases e1 : b = g
            · subst e1; exact ⟨h2, hg9⟩
            · rw [if_neg e1] at ho
              by_cases e2 : w.heap.size ≤ b ∧ b < w9.heap.size
              · exact e2
              · rw [if_neg e2] at ho; cases ho
          · have h9 := hpk.lt b hb
            show (if b = g then _ else if w.heap.size ≤ b ∧ b < w9.heap.size then _ else _) = _
            rw [if_neg (by rintro rfl; exact ownsRow_ne hpk h3 (by decide) hb), if_pos h9]
end Go.Proofs.YtghjnkfocjjlnaaGreat
