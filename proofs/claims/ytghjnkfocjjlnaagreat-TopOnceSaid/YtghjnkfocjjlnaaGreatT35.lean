/- A tree of one leaf: whether it may be, its pairs. -/
import Derived.Test.YtghjnkfocjjlnaaGreatT00
import Derived.Test.YtghjnkfocjjlnaaGreatT34
set_option linter.unusedSimpArgs false
set_option linter.unusedVariables false
namespace Go.Proofs.YtghjnkfocjjlnaaGreat
set_option maxRecDepth 100000
open Go.RowKit Go.Proofs.YtghjnkfocjjlnaaGreatW.PrintWords Go.Proofs.YtghjnkfocjjlnaaGreatW.PrintLast
set_option linter.unusedVariables false
set_option linter.unusedSimpArgs false
/-- One leaf, as it lies. -/
structure Leaf1 (w : World) (g cap : Nat) (pad : Option Addr) (pc n : Nat) (l : List Pr) (st : Int) : Prop where
  row : w.ownsRow 0 62 6 (.slice (some ⟨g, 0, none⟩) 1 cap) 1 (leafC (.slice pad n pc) st)
  ps : PIn w pad pc l
  len : n = l.length
theorem Leaf1.later {w w' : World} {g cap : Nat} {pad : Option Addr} {pc n : Nat} {l : List Pr} {st : Int} (h : Leaf1 w g cap pad pc n l st) (hb : Below w.heap.size w w') : Leaf1 w' g cap pad pc n l st :=
  ⟨ownsRow_later h.row hb, h.ps.later hb, h.len⟩
theorem Leaf1.cell {w : World} {g cap : Nat} {pad : Option Addr} {pc n : Nat} {l : List Pr} {st : Int} (h : Leaf1 w g cap pad pc n l st) {k : Nat} (hk : k < 6) {v : Value} (hv : (leafC (.slice pad n pc) st)[k]? = some v) : w.cell? ⟨g, k, none⟩ = some v := by
  rw [h.row.cellAt k (by omega)]; exact hv
theorem Leaf1.blk {w : World} {g cap : Nat} {pad : Option Addr} {pc n : Nat} {l : List Pr} {st : Int} (h : Leaf1 w g cap pad pc n l st) : ∃ gcs, w.heap[g]? = some (.cells gcs 62 (0, 0)) := by
  rcases h.row.2 with ⟨h1, _⟩ | ⟨g9, cap9, cur, h1, _, h3, _⟩
  · cases h1
  · injection h1 with h1
    injection h1 with h1
    injection h1 with h1
    subst h1
    exact ⟨_, h3⟩
theorem Leaf1.set {w : World} {g cap : Nat} {pad : Option Addr} {pc n : Nat} {l : List Pr} {st : Int} (h : Leaf1 w g cap pad pc n l st) {b : Nat} (hb : b ≠ g) (hp : ∀ x, pad = some x → l ≠ [] → x.block ≠ b) (k : Nat) (v : Value) : Leaf1 (w.setCell ⟨b, k, none⟩ v) g cap pad pc n l st := by
  refine ⟨ownsRow_same h.row (fun x hx => setCell_other _ (by have e : g = x := Option.some.inj hx; rw [← e]; exact fun e => hb e.symm)), ?_, h.len⟩
  by_cases hl : l = []
  · exact ⟨.inl hl, h.ps.room, h.ps.most⟩
  · exact PIn.set h.ps (fun x hx => hp x hx hl) k v
def keys0 : KeysR := ⟨0, 0, false, false⟩
theorem keys0_has (key : Int) : keys0.has key = true := by simp [keys0, KeysR.has]
/-- A checker on its way. -/
def chC (g cap mb : Nat) (n : Int) : Array Value := #[.int .i64 0, .slice (some ⟨g, 0, none⟩) 1 cap, .slice (some ⟨mb, 0, none⟩) 1 1, .int .i64 n]
set_option maxRecDepth 100000 in
set_option maxHeartbeats 4000000 in
theorem xcmay_one {w : World} {g cap mb cb : Nat} {pad : Option Addr} {pc n : Nat} {l : List Pr} {st : Int} (hl : Leaf1 w g cap pad pc n l st) (hc : w.heap[cb]? = some (.cells (chC g cap mb 0) 104 (0, 0))) (hm : w.heap[mb]? = some (.cells #[.bool false] 4 (0, 0))) (hp : ∀ x, pad = some x → l ≠ [] → x.block ≠ cb ∧ x.block ≠ mb)
    (hs : Sorted l) (hlen : l.length ≤ 1000000) (hst : -1000000 ≤ st ∧ st ≤ 1000000) :
    Calls Tryz.prog 47 #[pt_ cb, .int .i64 0, .agg #[.int .i64 0, .int .i64 0, .bool false, .bool false]] w fun e w' => e = .returned (.bool true) ∧ w'.heap[cb]? = some (.cells (chC g cap mb 1) 104 (0, 0)) ∧ ∀ B, B ≤ cb → B ≤ mb → Below B w w' := by
  have HL := Lib.hid hl
  have HC := Lib.hid hc
  have HM := Lib.hid hm
  have HP := Lib.hid hp
  have HS := Lib.hid hs
  have HLEN := Lib.hid hlen
  clear hl hc hm hp hs hlen
  have B0 := Lib.hid ((Below.refl w.heap.size w).alloc (Nat.le_refl _) (.cells #[.int .i64 0, .int .i64 0, .bool false, .bool false] 107))
  have E0 := Lib.hid (heap_alloc_new w (.cells #[.int .i64 0, .int .i64 0, .bool false, .bool false] 107))
  have lc : cb < w.heap.size := lt_of_some HC.out
  have lm : mb < w.heap.size := lt_of_some HM.out
  have C1 := Lib.hid ((B0.out.block cb lc).trans HC.out)
  have M1 := Lib.hid ((B0.out.block mb lm).trans HM.out)
  have L1 := Lib.hid (HL.out.later B0.out)
  have SZ : (w.alloc (.cells #[.int .i64 0, .int .i64 0, .bool false, .bool false] 107)).heap.size = w.heap.size + 1 := by simp
  have cc0 : (w.alloc (.cells #[.int .i64 0, .int .i64 0, .bool false, .bool false] 107)).cell? ⟨cb, 0, none⟩ = some (.int .i64 0) := cell_blk (i := 0) C1.out rfl
  have cc1 : (w.alloc (.cells #[.int .i64 0, .int .i64 0, .bool false, .bool false] 107)).cell? ⟨cb, 1, none⟩ = some (.slice (some ⟨g, 0, none⟩) 1 cap) := cell_blk (i := 1) C1.out rfl
  have cc2 : (w.alloc (.cells #[.int .i64 0, .int .i64 0, .bool false, .bool false] 107)).cell? ⟨cb, 2, none⟩ = some (.slice (some ⟨mb, 0, none⟩) 1 1) := cell_blk (i := 2) C1.out rfl
  have cc3 : (w.alloc (.cells #[.int .i64 0, .int .i64 0, .bool false, .bool false] 107)).cell? ⟨cb, 3, none⟩ = some (.int .i64 0) := cell_blk (i := 3) C1.out rfl
  have fc3 := free_blk (i := 3) C1.out
  have cm0 := cell_blk (i := 0) M1.out rfl
  have fm0 := free_blk (i := 0) M1.out
  have hne : cb ≠ mb := by rintro rfl; have h1 := HC.out; rw [HM.out] at h1; injection h1 with h1; injection h1 with _ h1; exact absurd h1 (by decide)
  obtain ⟨gcs, hg⟩ := HL.out.blk
  have hgm : mb ≠ g := by rintro rfl; rw [HM.out] at hg; injection hg with hg; injection hg with _ hg; exact absurd hg (by decide)
  have hgc : cb ≠ g := by rintro rfl; rw [HC.out] at hg; injection hg with hg; injection hg with _ hg; exact absurd hg (by decide)
  have CA := Lib.hid (show (w.setCell ⟨mb, 0, none⟩ (.bool true)).heap[cb]? = _ from (setCell_other _ hne).trans HC.out)
  have CB := Lib.hid (show ((w.setCell ⟨mb, 0, none⟩ (.bool true)).setCell ⟨cb, 3, none⟩ (.int .i64 1)).heap[cb]? = some (.cells (chC g cap mb 1) 104 (0, 0)) from heap_setCell_same _ cb 3 _ _ _ CA.out)
  have LB := Lib.hid ((HL.out.set hgm (fun x hx hl => (HP.out x hx hl).2) 0 (.bool true)).set hgc (fun x hx hl => (HP.out x hx hl).1) 3 (.int .i64 1))
  have BA := Lib.hid (show Below (w.setCell ⟨mb, 0, none⟩ (.bool true)).heap.size (w.setCell ⟨mb, 0, none⟩ (.bool true)) ((w.setCell ⟨mb, 0, none⟩ (.bool true)).alloc (.cells #[.int .i64 0, .int .i64 0, .bool false, .bool false] 107)) from (Below.refl _ _).alloc (Nat.le_refl _) _)
  have BB := Lib.hid (show Below ((w.setCell ⟨mb, 0, none⟩ (.bool true)).setCell ⟨cb, 3, none⟩ (.int .i64 1)).heap.size ((w.setCell ⟨mb, 0, none⟩ (.bool true)).setCell ⟨cb, 3, none⟩ (.int .i64 1)) (((w.setCell ⟨mb, 0, none⟩ (.bool true)).setCell ⟨cb, 3, none⟩ (.int .i64 1)).alloc (.cells #[.int .i64 0, .int .i64 0, .bool false, .bool false] 107)) from (Below.refl _ _).alloc (Nat.le_refl _) _)
  have sA : (w.setCell ⟨mb, 0, none⟩ (.bool true)).heap.size = w.heap.size := by simp [World.setCell]
  have sB : ((w.setCell ⟨mb, 0, none⟩ (.bool true)).setCell ⟨cb, 3, none⟩ (.int .i64 1)).heap.size = w.heap.size := by simp [World.setCell]
  have CA2 := Lib.hid ((BA.out.block cb (by rw [sA]; exact lc)).trans CA.out)
  have CB2 := Lib.hid ((BB.out.block cb (by rw [sB]; exact lc)).trans CB.out)
  have LB2 := Lib.hid (LB.out.later BB.out)
  have ca3 : ((w.setCell ⟨mb, 0, none⟩ (.bool true)).alloc (.cells #[.int .i64 0, .int .i64 0, .bool false, .bool false] 107)).cell? ⟨cb, 3, none⟩ = some (.int .i64 0) := cell_blk (i := 3) CA2.out rfl
  have fa3 := free_blk (i := 3) CA2.out
  have cb1 : (((w.setCell ⟨mb, 0, none⟩ (.bool true)).setCell ⟨cb, 3, none⟩ (.int .i64 1)).alloc (.cells #[.int .i64 0, .int .i64 0, .bool false, .bool false] 107)).cell? ⟨cb, 1, none⟩ = some (.slice (some ⟨g, 0, none⟩) 1 cap) := cell_blk (i := 1) CB2.out rfl
  have cg0 : (((w.setCell ⟨mb, 0, none⟩ (.bool true)).setCell ⟨cb, 3, none⟩ (.int .i64 1)).alloc (.cells #[.int .i64 0, .int .i64 0, .bool false, .bool false] 107)).cell? ⟨g, 0, none⟩ = some (.bool false) := LB2.out.cell (by decide) rfl
  have cg1 : (((w.setCell ⟨mb, 0, none⟩ (.bool true)).setCell ⟨cb, 3, none⟩ (.int .i64 1)).alloc (.cells #[.int .i64 0, .int .i64 0, .bool false, .bool false] 107)).cell? ⟨g, 1, none⟩ = some (.int .i64 0) := LB2.out.cell (by decide) rfl
  have cg2 : (((w.setCell ⟨mb, 0, none⟩ (.bool true)).setCell ⟨cb, 3, none⟩ (.int .i64 1)).alloc (.cells #[.int .i64 0, .int .i64 0, .bool false, .bool false] 107)).cell? ⟨g, 2, none⟩ = some (.int .i64 0) := LB2.out.cell (by decide) rfl
  have cg3 : (((w.setCell ⟨mb, 0, none⟩ (.bool true)).setCell ⟨cb, 3, none⟩ (.int .i64 1)).alloc (.cells #[.int .i64 0, .int .i64 0, .bool false, .bool false] 107)).cell? ⟨g, 3, none⟩ = some (.int .i64 0) := LB2.out.cell (by decide) rfl
  have cg4 : (((w.setCell ⟨mb, 0, none⟩ (.bool true)).setCell ⟨cb, 3, none⟩ (.int .i64 1)).alloc (.cells #[.int .i64 0, .int .i64 0, .bool false, .bool false] 107)).cell? ⟨g, 4, none⟩ = some (.slice pad n pc) := LB2.out.cell (by decide) rfl
  have cg5 : (((w.setCell ⟨mb, 0, none⟩ (.bool true)).setCell ⟨cb, 3, none⟩ (.int .i64 1)).alloc (.cells #[.int .i64 0, .int .i64 0, .bool false, .bool false] 107)).cell? ⟨g, 5, none⟩ = some (.int .i64 st) := LB2.out.cell (by decide) rfl
  have EK := Lib.hid (show (((w.setCell ⟨mb, 0, none⟩ (.bool true)).setCell ⟨cb, 3, none⟩ (.int .i64 1)).alloc (.cells #[.int .i64 0, .int .i64 0, .bool false, .bool false] 107)).heap[w.heap.size]? = some (.cells (keysC keys0) 107 (0, 0)) from by have h := heap_alloc_new ((w.setCell ⟨mb, 0, none⟩ (.bool true)).setCell ⟨cb, 3, none⟩ (.int .i64 1)) (.cells #[.int .i64 0, .int .i64 0, .bool false, .bool false] 107); rw [sB] at h; exact h)
  have EN := Lib.hid (show ((((w.setCell ⟨mb, 0, none⟩ (.bool true)).setCell ⟨cb, 3, none⟩ (.int .i64 1)).alloc (.cells #[.int .i64 0, .int .i64 0, .bool false, .bool false] 107)).alloc (.cells #[.bool false, .int .i64 0, .int .i64 0, .int .i64 0, .slice pad n pc, .int .i64 st] 62)).heap[w.heap.size + 1]? = some (.cells #[.bool false, .int .i64 0, .int .i64 0, .int .i64 0, .slice pad n pc, .int .i64 st] 62 (0, 0)) from by have h := heap_alloc_new (((w.setCell ⟨mb, 0, none⟩ (.bool true)).setCell ⟨cb, 3, none⟩ (.int .i64 1)).alloc (.cells #[.int .i64 0, .int .i64 0, .bool false, .bool false] 107)) (.cells #[.bool false, .int .i64 0, .int .i64 0, .int .i64 0, .slice pad n pc, .int .i64 st] 62); rw [show (((w.setCell ⟨mb, 0, none⟩ (.bool true)).setCell ⟨cb, 3, none⟩ (.int .i64 1)).alloc (.cells #[.int .i64 0, .int .i64 0, .bool false, .bool false] 107)).heap.size = w.heap.size + 1 from by simp [World.setCell]] at h; exact h)
  have BC := Lib.hid (show Below (((w.setCell ⟨mb, 0, none⟩ (.bool true)).setCell ⟨cb, 3, none⟩ (.int .i64 1)).alloc (.cells #[.int .i64 0, .int .i64 0, .bool false, .bool false] 107)).heap.size (((w.setCell ⟨mb, 0, none⟩ (.bool true)).setCell ⟨cb, 3, none⟩ (.int .i64 1)).alloc (.cells #[.int .i64 0, .int .i64 0, .bool false, .bool false] 107)) ((((w.setCell ⟨mb, 0, none⟩ (.bool true)).setCell ⟨cb, 3, none⟩ (.int .i64 1)).alloc (.cells #[.int .i64 0, .int .i64 0, .bool false, .bool false] 107)).alloc (.cells #[.bool false, .int .i64 0, .int .i64 0, .int .i64 0, .slice pad n pc, .int .i64 st] 62)) from (Below.refl _ _).alloc (Nat.le_refl _) _)
  have LC := Lib.hid (LB2.out.later BC.out)
  have lmx := xleafmay_any LC.out.ps HS.out HLEN.out
  rw [← LC.out.len] at lmx
  have LM := Lib.hid lmx
  clear lmx hne hg hgm hgc sA sB
  go_enter Tryz.func47, Tryz.ntmps47
  go_wp2_with fail
  refine LM.out.mono ?_
  rintro e w2 ⟨rfl, b2⟩
  clear ca3 fa3 cb1 cc0 cc1 cc2 cc3 fc3 cm0 fm0 cg0 cg1 cg2 cg3 cg4 cg5
  have x4 : w2.cell? ⟨w.heap.size + 1, 4, none⟩ = some (.slice pad n pc) := cell_blk (i := 4) ((b2.block _ (lt_of_some EN.out)).trans EN.out) rfl
  have x5 : w2.cell? ⟨w.heap.size + 1, 5, none⟩ = some (.int .i64 st) := cell_blk (i := 5) ((b2.block _ (lt_of_some EN.out)).trans EN.out) rfl
  have q0 : (-1000000 : Int) ≤ st := hst.1
  have q1 : st ≤ 1000000 := hst.2
  have L2 := LC.out.later b2
  have K2 : w2.heap[w.heap.size]? = some (.cells (keysC keys0) 107 (0, 0)) := (b2.block _ (Nat.lt_of_lt_of_le (lt_of_some EK.out) BC.out.size)).trans ((BC.out.block _ (lt_of_some EK.out)).trans EK.out)
  have ctx := xcontP_no L2.ps HLEN.out K2 (fun p _ => keys0_has p.1)
  rw [← L2.len] at ctx
  have CX := Lib.hid ctx
  have B2 := Lib.hid b2
  clear ctx L2 K2 b2
  go_wp2_with fail
  refine CX.out.mono ?_
  rintro e w3 ⟨rfl, b3⟩
  clear x4 x5
  have B3 := Lib.hid b3
  clear b3
  go_wp2_with fail
  go_ret
  refine ⟨rfl, (B3.out.block cb ?_).trans ((B2.out.block cb ?_).trans ((BC.out.block cb (lt_of_some CB2.out)).trans CB2.out)), fun B h1 h2 => ?_⟩
  · have h1 := lt_of_some CB2.out; have h2 := BC.out.size; have h3 := B2.out.size; omega
  · have h1 := lt_of_some CB2.out; have h2 := BC.out.size; omega
  · have s1 : ((w.setCell ⟨mb, 0, none⟩ (.bool true)).setCell ⟨cb, 3, none⟩ (.int .i64 1)).heap.size = w.heap.size := by simp [World.setCell]
    have h0 : Below B w ((w.setCell ⟨mb, 0, none⟩ (.bool true)).setCell ⟨cb, 3, none⟩ (.int .i64 1)) := ((Below.refl B w).setCell (p := ⟨mb, 0, none⟩) h2 _).setCell (p := ⟨cb, 3, none⟩) h1 _
    have h3 := BC.out.size
    have h4 := BB.out.size
    exact (((h0.trans (BB.out.mono (by omega))).trans (BC.out.mono (by omega))).trans (B2.out.mono (by omega))).trans (B3.out.mono (by have h5 := B2.out.size; omega))
theorem Leaf1.plt {w : World} {g cap : Nat} {pad : Option Addr} {pc n : Nat} {l : List Pr} {st : Int} (h : Leaf1 w g cap pad pc n l st) {x : Addr} (hx : pad = some x) (hl : l ≠ []) : x.block < w.heap.size := by
  have h0 : 0 < l.length := List.length_pos_iff.2 hl
  obtain ⟨b, off, h1, h2⟩ := h.ps.at2 h0
  rw [hx] at h1
  injection h1 with h1
  subst h1
  exact World.block_lt_of_cell? w _ (h2 0 h0).1
theorem Leaf1.glt {w : World} {g cap : Nat} {pad : Option Addr} {pc n : Nat} {l : List Pr} {st : Int} (h : Leaf1 w g cap pad pc n l st) : g < w.heap.size := by
  obtain ⟨gcs, h1⟩ := h.blk; exact lt_of_some h1
theorem made_b1 : madeCells (Value.bool false).cells (1 * 1) = #[.bool false] := by
  unfold madeCells
  simp [Value.cells]
  exact ⟨0, by decide, rfl⟩
theorem info_bool : (Tryz.prog.info? 4).map (fun i => (i.zero, i.size, i.bytes)) = some (some (.bool false), 1, 1) := by kernel_rfl
set_option maxRecDepth 100000 in
set_option maxHeartbeats 4000000 in
theorem xtmay_one {w : World} {g cap : Nat} {pad : Option Addr} {pc n : Nat} {l : List Pr} {st : Int} (hl : Leaf1 w g cap pad pc n l st) (hs : Sorted l) (hlen : l.length ≤ 1000000) (hst : -1000000 ≤ st ∧ st ≤ 1000000) :
    Calls Tryz.prog 34 #[.agg #[.int .i64 0, .slice (some ⟨g, 0, none⟩) 1 cap]] w fun e w' => e = .returned (.bool true) ∧ Below w.heap.size w w' := by
  have HL := Lib.hid hl
  have HS := Lib.hid hs
  have HLEN := Lib.hid hlen
  have HST := Lib.hid hst
  clear hl hs hlen hst
  have B1 := Lib.hid (show Below w.heap.size w (w.alloc (.cells #[.int .i64 0, .slice (some ⟨g, 0, none⟩) 1 cap] 38)) from (Below.refl _ _).alloc (Nat.le_refl _) _)
  have A1 := Lib.hid (heap_alloc_new w (.cells #[.int .i64 0, .slice (some ⟨g, 0, none⟩) 1 cap] 38))
  have x1 : (w.alloc (.cells #[.int .i64 0, .slice (some ⟨g, 0, none⟩) 1 cap] 38)).cell? ⟨w.heap.size, 1, none⟩ = some (.slice (some ⟨g, 0, none⟩) 1 cap) := cell_blk (i := 1) A1.out rfl
  go_enter Tryz.func34, Tryz.ntmps34
  go_wp2_with fail
  clear x1
  have lt1 : w.heap.size < (w.alloc (.cells #[.int .i64 0, .slice (some ⟨g, 0, none⟩) 1 cap] 38)).heap.size := by simp
  generalize w.alloc (.cells #[.int .i64 0, .slice (some ⟨g, 0, none⟩) 1 cap] 38) = w1 at B1 A1 lt1 ⊢
  have D1 := Lib.hid (show Below w1.heap.size w1 w1.drew from (Below.refl _ _).drew)
  refine start_ (n := 8) (S := fun w' => w'.cell? ⟨w.heap.size, 0, none⟩ = some (.int .i64 0) ∧ w'.cell? ⟨w.heap.size, 1, none⟩ = some (.slice (some ⟨g, 0, none⟩) 1 cap)) (ds := []) (bz 8 0).toArray (by kernel_rfl) rfl rfl ⟨(cell_blk (i := 0) ((D1.out.block _ lt1).trans A1.out) rfl), (cell_blk (i := 1) ((D1.out.block _ lt1).trans A1.out) rfl)⟩ (fun hHeld => ?_)
  refine pure_ (i := 1) (N := some 9) (v := ?_) (a' := ?_) (bz 8 2).toArray rfl rfl (by kernel_rfl) (fun _ _ _ h => h) (Or.inl ⟨by rfl, ?_⟩) ?_ ?_
  rotate_left
  · intro w'
    go_simp
    with_reducible rfl
  rotate_left
  · simp only [Act.put, sqA, sqZ, sqS, i64_w, i32_w]
    rfl
  refine take_ (i := 0) (N := some 8) (v := ?_) (a' := ?_) (bz 8 3).toArray rfl rfl (by kernel_rfl) (fun _ _ _ h => h) (Or.inl ⟨by rfl, ?_⟩) hHeld ?_ ?_
  rotate_left
  · rintro w' ⟨s0, s1⟩
    go_simp
    with_reducible rfl
  rotate_left
  · simp only [Act.put, sqA, sqZ, sqS, i64_w, i32_w]
    rfl
  refine take_ (i := 2) (N := some 10) (v := ?_) (a' := ?_) (bz 8 7).toArray rfl rfl (by kernel_rfl) (fun _ _ _ h => h) (Or.inl ⟨by rfl, ?_⟩) hHeld ?_ ?_
  rotate_left
  · rintro w' ⟨s0, s1⟩
    go_simp
    with_reducible rfl
  rotate_left
  · simp only [Act.put, sqA, sqZ, sqS, i64_w, i32_w]
    rfl
  refine pure_ (i := 3) (N := some 11) (v := ?_) (a' := ?_) (bz 8 15).toArray rfl rfl (by kernel_rfl) (fun _ _ _ h => h) (Or.inl ⟨by rfl, ?_⟩) ?_ ?_
  rotate_left
  · intro w'
    go_simp
    with_reducible rfl
  rotate_left
  · simp only [Act.put, sqA, sqZ, sqS, i64_w, i32_w]
    rfl
  refine one_ (i := 4) (N := some 12) (bz 8 31).toArray rfl rfl (by kernel_rfl) (by decide) (fun K hK => ?_)
  refine step_make (n := 1) (by rfl) rfl (.tmp 11) (.tmp 11) rfl Tryz.underlying102 info_bool (by decide) rfl rfl (by omega) ?_
  rw [made_b1]
  have D2 := Lib.hid (show Below w1.heap.size w1 (w1.drew.alloc (.cells #[.bool false] 4)) from D1.out.alloc (Nat.le_refl _) _)
  have M2 := Lib.hid (heap_alloc_new w1.drew (.cells #[.bool false] 4))
  refine hK.out _ _ ⟨(cell_blk (i := 0) ((D2.out.block _ lt1).trans A1.out) rfl), (cell_blk (i := 1) ((D2.out.block _ lt1).trans A1.out) rfl)⟩ ?_
  clear hHeld
  intro hHeld
  clear hK K
  refine norm_ (a' := ?_) ?_ ?_
  rotate_left
  · show Act.put _ (some 12) _ = _
    simp only [Act.put, sqA, sqZ, sqS, i64_w, i32_w]
    rfl
  refine pure_ (i := 5) (N := some 13) (v := ?_) (a' := ?_) (bz 8 63).toArray rfl rfl (by kernel_rfl) (fun _ _ _ h => h) (Or.inl ⟨by rfl, ?_⟩) ?_ ?_
  rotate_left
  · intro w'
    go_simp
    with_reducible rfl
  rotate_left
  · simp only [Act.put, sqA, sqZ, sqS, i64_w, i32_w]
    rfl
  refine one_ (i := 6) (N := some 14) (bz 8 127).toArray rfl rfl (by kernel_rfl) (by decide) (fun K hK => ?_)
  refine value_ (w1 := ?_) (v := ?_) (by rfl) rfl ?_ ?_
  rotate_left 2
  · go_simp
    constructor
    · rfl
    · rfl
  have D3 := Lib.hid (show Below w1.heap.size w1 ((w1.drew.alloc (.cells #[.bool false] 4)).alloc (.cells #[.int .i64 0, .slice (some ⟨g, 0, none⟩) 1 cap, .slice (some ⟨w1.heap.size, 0, none⟩) 1 1, .int .i64 0] 104)) from D2.out.alloc D2.out.size _)
  have C3 := Lib.hid (heap_alloc_new (w1.drew.alloc (.cells #[.bool false] 4)) (.cells #[.int .i64 0, .slice (some ⟨g, 0, none⟩) 1 cap, .slice (some ⟨w1.heap.size, 0, none⟩) 1 1, .int .i64 0] 104))
  have M3 := Lib.hid ((((Below.refl _ _).alloc (Nat.le_refl _) (.cells #[.int .i64 0, .slice (some ⟨g, 0, none⟩) 1 cap, .slice (some ⟨w1.heap.size, 0, none⟩) 1 1, .int .i64 0] 104)).block _ (lt_of_some M2.out)).trans M2.out)
  refine hK.out _ _ ⟨(cell_blk (i := 0) ((D3.out.block _ lt1).trans A1.out) rfl), (cell_blk (i := 1) ((D3.out.block _ lt1).trans A1.out) rfl)⟩ ?_
  clear hHeld
  intro hHeld
  clear hK K
  refine norm_ (a' := ?_) ?_ ?_
  rotate_left
  · show Act.put _ (some 14) _ = _
    simp only [Act.put, sqA, sqZ, sqS, i64_w, i32_w]
    rfl
  refine pure_ (i := 7) (N := some 3) (v := ?_) (a' := ?_) (bz 8 255).toArray rfl rfl (by kernel_rfl) (fun _ _ _ h => h) (Or.inl ⟨by rfl, ?_⟩) ?_ ?_
  rotate_left
  · intro w'
    go_simp
    with_reducible rfl
  rotate_left
  · simp only [Act.put, sqA, sqZ, sqS, i64_w, i32_w]
    rfl
  refine done_ (by kernel_rfl) ?_
  have B3 := Lib.hid (show Below w1.heap.size w1 (((w1.alloc (.cells #[.bool false] 4)).alloc (.cells #[.int .i64 0, .slice (some ⟨g, 0, none⟩) 1 cap, .slice (some ⟨w1.heap.size, 0, none⟩) 1 1, .int .i64 0] 104)).drew) from D3.out)
  have C3x := Lib.hid (show (((w1.alloc (.cells #[.bool false] 4)).alloc (.cells #[.int .i64 0, .slice (some ⟨g, 0, none⟩) 1 cap, .slice (some ⟨w1.heap.size, 0, none⟩) 1 1, .int .i64 0] 104)).drew).heap[w1.heap.size + 1]? = some (.cells (chC g cap w1.heap.size 0) 104 (0, 0)) from by have h := C3.out; rw [show (w1.drew.alloc (.cells #[.bool false] 4)).heap.size = w1.heap.size + 1 from by show (w1.alloc (.cells #[.bool false] 4)).heap.size = _; simp] at h; exact h)
  have M3x := Lib.hid (show (((w1.alloc (.cells #[.bool false] 4)).alloc (.cells #[.int .i64 0, .slice (some ⟨g, 0, none⟩) 1 cap, .slice (some ⟨w1.heap.size, 0, none⟩) 1 1, .int .i64 0] 104)).drew).heap[w1.heap.size]? = some (.cells #[.bool false] 4 (0, 0)) from M3.out)
  generalize (((w1.alloc (.cells #[.bool false] 4)).alloc (.cells #[.int .i64 0, .slice (some ⟨g, 0, none⟩) 1 cap, .slice (some ⟨w1.heap.size, 0, none⟩) 1 1, .int .i64 0] 104)).drew) = w3 at B3 C3x M3x ⊢
  clear D1 D2 D3 C3 M3 M2
  have BW3 := Lib.hid (B1.out.trans (B3.out.mono B1.out.size))
  have L3 := Lib.hid (HL.out.later BW3.out)
  have XC := Lib.hid (xcmay_one (w := w3.drew) (HL.out.later BW3.out.drew) C3x.out M3x.out (fun x hx hl => by have h1 := HL.out.plt hx hl; have h2 := B1.out.size; omega) HS.out HLEN.out HST.out)
  go_wp2_with fail
  refine start_ (n := 16) (S := fun w' => w'.cell? ⟨w.heap.size, 0, none⟩ = some (.int .i64 0) ∧ w'.cell? ⟨w.heap.size, 1, none⟩ = some (.slice (some ⟨g, 0, none⟩) 1 cap)) (ds := []) (bz 16 0).toArray (by kernel_rfl) rfl rfl ⟨(cell_blk (i := 0) ((B3.out.block _ lt1).trans A1.out) rfl), (cell_blk (i := 1) ((B3.out.block _ lt1).trans A1.out) rfl)⟩ (fun hHeld => ?_)
  refine pure_ (i := 0) (N := some 15) (v := ?_) (a' := ?_) (bz 16 1).toArray rfl rfl (by kernel_rfl) (fun _ _ _ h => h) (Or.inl ⟨by rfl, ?_⟩) ?_ ?_
  rotate_left
  · intro w'
    go_simp
    with_reducible rfl
  rotate_left
  · simp only [Act.put, sqA, sqZ, sqS, i64_w, i32_w]
    rfl
  refine pure_ (i := 1) (N := some 16) (v := ?_) (a' := ?_) (bz 16 3).toArray rfl rfl (by kernel_rfl) (fun _ _ _ h => h) (Or.inl ⟨by rfl, ?_⟩) ?_ ?_
  rotate_left
  · intro w'
    go_simp
    with_reducible rfl
  rotate_left
  · simp only [Act.put, sqA, sqZ, sqS, i64_w, i32_w]
    rfl
  refine pure_ (i := 3) (N := some 18) (v := ?_) (a' := ?_) (bz 16 11).toArray rfl rfl (by kernel_rfl) (fun _ _ _ h => h) (Or.inl ⟨by rfl, ?_⟩) ?_ ?_
  rotate_left
  · intro w'
    go_simp
    with_reducible rfl
  rotate_left
  · simp only [Act.put, sqA, sqZ, sqS, i64_w, i32_w]
    rfl
  refine take_ (i := 2) (N := some 17) (v := ?_) (a' := ?_) (bz 16 15).toArray rfl rfl (by kernel_rfl) (fun _ _ _ h => h) (Or.inl ⟨by rfl, ?_⟩) hHeld ?_ ?_
  rotate_left
  · rintro w' ⟨s0, s1⟩
    go_simp
    with_reducible rfl
  rotate_left
  · simp only [Act.put, sqA, sqZ, sqS, i64_w, i32_w]
    rfl
  refine one_ (i := 4) (N := some 19) (bz 16 31).toArray rfl rfl (by kernel_rfl) (by decide) (fun K hK => ?_)
  refine goes_ Tryz.func47 (by kernel_rfl) rfl #[pt_ (w1.heap.size + 1), .int .i64 0, .agg #[.int .i64 0, .int .i64 0, .bool false, .bool false]] (by rfl) rfl rfl (by simp only [List.map_toArray, List.map_cons, List.map_nil]; rfl) ?_
  with_reducible refine (XC.out).mono ?_
  rintro e w4 ⟨rfl, hc4, hb4⟩
  have B4 := Lib.hid (hb4 w1.heap.size (by omega) (Nat.le_refl _))
  have c43 : w4.cell? ⟨w1.heap.size + 1, 3, none⟩ = some (.int .i64 1) := cell_blk (i := 3) hc4 rfl
  clear hc4 hb4
  refine ⟨_, rfl, ?_⟩
  refine hK.out _ _ ⟨(cell_blk (i := 0) ((B4.out.block _ lt1).trans ((B3.out.block _ lt1).trans A1.out)) rfl), (cell_blk (i := 1) ((B4.out.block _ lt1).trans ((B3.out.block _ lt1).trans A1.out)) rfl)⟩ ?_
  clear hHeld
  intro hHeld
  clear hK K
  refine norm_ (a' := ?_) ?_ ?_
  rotate_left
  · show Act.put _ (some 19) _ = _
    simp only [Act.put, sqA, sqZ, sqS, i64_w, i32_w]
    rfl
  refine pure_ (i := 5) (N := some 20) (v := ?_) (a' := ?_) (bz 16 63).toArray rfl rfl (by kernel_rfl) (fun _ _ _ h => h) (Or.inl ⟨by rfl, ?_⟩) ?_ ?_
  rotate_left
  · intro w'
    go_simp
    with_reducible rfl
  rotate_left
  · simp only [Act.put, sqA, sqZ, sqS, i64_w, i32_w]
    rfl
  refine pure_ (i := 6) (N := some 21) (v := ?_) (a' := ?_) (bz 16 127).toArray rfl rfl (by kernel_rfl) (fun _ _ _ h => h) (Or.inl ⟨by rfl, ?_⟩) ?_ ?_
  rotate_left
  · intro w'
    go_simp
    with_reducible rfl
  rotate_left
  · simp only [Act.put, sqA, sqZ, sqS, i64_w, i32_w]
    rfl
  refine pure_ (i := 7) (N := some 22) (v := ?_) (a' := ?_) (bz 16 255).toArray rfl rfl (by kernel_rfl) (fun _ _ _ h => h) (Or.inl ⟨by rfl, ?_⟩) ?_ ?_
  rotate_left
  · intro w'
    go_simp
    with_reducible rfl
  rotate_left
  · simp only [Act.put, sqA, sqZ, sqS, i64_w, i32_w]
    rfl
  refine pure_ (i := 8) (N := some 23) (v := ?_) (a' := ?_) (bz 16 511).toArray rfl rfl (by kernel_rfl) (fun _ _ _ h => h) (Or.inl ⟨by rfl, ?_⟩) ?_ ?_
  rotate_left
  · intro w'
    go_simp
    with_reducible rfl
  rotate_left
  · simp only [Act.put, sqA, sqZ, sqS, i64_w, i32_w]
    rfl
  refine pure_ (i := 10) (N := some 25) (v := ?_) (a' := ?_) (bz 16 1535).toArray rfl rfl (by kernel_rfl) (fun _ _ _ h => h) (Or.inl ⟨by rfl, ?_⟩) ?_ ?_
  rotate_left
  · intro w'
    go_simp
    with_reducible rfl
  rotate_left
  · simp only [Act.put, sqA, sqZ, sqS, i64_w, i32_w]
    rfl
  refine take_ (i := 11) (N := some 26) (v := ?_) (a' := ?_) (bz 16 3583).toArray rfl rfl (by kernel_rfl) (fun _ _ _ h => h) (Or.inl ⟨by rfl, ?_⟩) hHeld ?_ ?_
  rotate_left
  · rintro w' ⟨s0, s1⟩
    go_simp
    with_reducible rfl
  rotate_left
  · simp only [Act.put, sqA, sqZ, sqS, i64_w, i32_w]
    rfl
  refine pure_ (i := 12) (N := some 27) (v := ?_) (a' := ?_) (bz 16 7679).toArray rfl rfl (by kernel_rfl) (fun _ _ _ h => h) (Or.inl ⟨by rfl, ?_⟩) ?_ ?_
  rotate_left
  · intro w'
    go_simp
    with_reducible rfl
  rotate_left
  · simp only [Act.put, sqA, sqZ, sqS, i64_w, i32_w]
    rfl
  refine one_ (i := 9) (N := some 24) (bz 16 8191).toArray rfl rfl (by kernel_rfl) (by decide) (fun K hK => ?_)
  refine value_ (w1 := ?_) (v := ?_) (by rfl) rfl ?_ ?_
  rotate_left 2
  · go_simp
    constructor
    · rfl
    · rfl
  refine hK.out _ _ ⟨(cell_blk (i := 0) ((B4.out.block _ lt1).trans ((B3.out.block _ lt1).trans A1.out)) rfl), (cell_blk (i := 1) ((B4.out.block _ lt1).trans ((B3.out.block _ lt1).trans A1.out)) rfl)⟩ ?_
  clear hHeld
  intro hHeld
  clear hK K
  refine norm_ (a' := ?_) ?_ ?_
  rotate_left
  · show Act.put _ (some 24) _ = _
    simp only [Act.put, sqA, sqZ, sqS, i64_w, i32_w]
    rfl
  refine pure_ (i := 13) (N := some 28) (v := ?_) (a' := ?_) (bz 16 16383).toArray rfl rfl (by kernel_rfl) (fun _ _ _ h => h) (Or.inl ⟨by rfl, ?_⟩) ?_ ?_
  rotate_left
  · intro w'
    go_simp
    with_reducible rfl
  rotate_left
  · simp only [Act.put, sqA, sqZ, sqS, i64_w, i32_w]
    rfl
  refine pure_ (i := 14) (N := some 29) (v := ?_) (a' := ?_) (bz 16 32767).toArray rfl rfl (by kernel_rfl) (fun _ _ _ h => h) (Or.inl ⟨by rfl, ?_⟩) ?_ ?_
  rotate_left
  · intro w'
    go_simp
    with_reducible rfl
  rotate_left
  · simp only [Act.put, sqA, sqZ, sqS, i64_w, i32_w]
    rfl
  refine pure_ (i := 15) (N := some 2) (v := ?_) (a' := ?_) (bz 16 65535).toArray rfl rfl (by kernel_rfl) (fun _ _ _ h => h) (Or.inl ⟨by rfl, ?_⟩) ?_ ?_
  rotate_left
  · intro w'
    go_simp
    with_reducible rfl
  rotate_left
  · simp only [Act.put, sqA, sqZ, sqS, i64_w, i32_w]
    rfl
  refine done_ (by kernel_rfl) ?_
  clear c43
  go_wp2_with fail
  go_ret
  exact ⟨rfl, BW3.out.drew.trans (Below.mono (B := w1.heap.size) B4.out B1.out.size)⟩
set_option maxRecDepth 100000 in
set_option maxHeartbeats 4000000 in
theorem xtleaves_one {w : World} {g cap : Nat} {pad : Option Addr} {pc n : Nat} {l : List Pr} {st : Int} (hl : Leaf1 w g cap pad pc n l st) :
    Calls Tryz.prog 35 #[.agg #[.int .i64 0, .slice (some ⟨g, 0, none⟩) 1 cap], .int .i64 0, .slice none 0 0] w fun e w' => ∃ g2 cap2, e = .returned (.slice (some ⟨g2, 0, none⟩) 1 cap2) ∧ w'.ownsRow 0 3 1 (.slice (some ⟨g2, 0, none⟩) 1 cap2) 1 [.int .i64 0] ∧ w.heap.size ≤ g2 ∧ Below w.heap.size w w' := by
  have HL := Lib.hid hl
  clear hl
  have b1 : Below w.heap.size w (w.alloc (.cells #[.int .i64 0, .slice (some ⟨g, 0, none⟩) 1 cap] 38)) := (Below.refl _ _).alloc (Nat.le_refl _) _
  have L1 := HL.out.later b1
  have b3 : Below w.heap.size w (((w.alloc (.cells #[.int .i64 0, .slice (some ⟨g, 0, none⟩) 1 cap] 38)).alloc (.cells #[.bool false, .int .i64 0, .int .i64 0, .int .i64 0, .slice pad n pc, .int .i64 st] 62)).alloc (.cells #[.int .i64 0] 3)) := (b1.alloc b1.size _).alloc (by simp; omega) _
  have B3 := Lib.hid b3
  have x1 : (w.alloc (.cells #[.int .i64 0, .slice (some ⟨g, 0, none⟩) 1 cap] 38)).cell? ⟨w.heap.size, 1, none⟩ = some (.slice (some ⟨g, 0, none⟩) 1 cap) := cell_blk (i := 1) (heap_alloc_new w (.cells #[.int .i64 0, .slice (some ⟨g, 0, none⟩) 1 cap] 38)) rfl
  have cg0 : (w.alloc (.cells #[.int .i64 0, .slice (some ⟨g, 0, none⟩) 1 cap] 38)).cell? ⟨g, 0, none⟩ = some (.bool false) := L1.cell (by decide) rfl
  have cg1 : (w.alloc (.cells #[.int .i64 0, .slice (some ⟨g, 0, none⟩) 1 cap] 38)).cell? ⟨g, 1, none⟩ = some (.int .i64 0) := L1.cell (by decide) rfl
  have cg2 : (w.alloc (.cells #[.int .i64 0, .slice (some ⟨g, 0, none⟩) 1 cap] 38)).cell? ⟨g, 2, none⟩ = some (.int .i64 0) := L1.cell (by decide) rfl
  have cg3 : (w.alloc (.cells #[.int .i64 0, .slice (some ⟨g, 0, none⟩) 1 cap] 38)).cell? ⟨g, 3, none⟩ = some (.int .i64 0) := L1.cell (by decide) rfl
  have cg4 : (w.alloc (.cells #[.int .i64 0, .slice (some ⟨g, 0, none⟩) 1 cap] 38)).cell? ⟨g, 4, none⟩ = some (.slice pad n pc) := L1.cell (by decide) rfl
  have cg5 : (w.alloc (.cells #[.int .i64 0, .slice (some ⟨g, 0, none⟩) 1 cap] 38)).cell? ⟨g, 5, none⟩ = some (.int .i64 st) := L1.cell (by decide) rfl
  have RB := Lib.hid (show (((w.alloc (.cells #[.int .i64 0, .slice (some ⟨g, 0, none⟩) 1 cap] 38)).alloc (.cells #[.bool false, .int .i64 0, .int .i64 0, .int .i64 0, .slice pad n pc, .int .i64 st] 62)).alloc (.cells #[.int .i64 0] 3)).heap[w.heap.size + 1 + 1]? = some (.cells #[.int .i64 0] 3 (0, 0)) from by have h := heap_alloc_new ((w.alloc (.cells #[.int .i64 0, .slice (some ⟨g, 0, none⟩) 1 cap] 38)).alloc (.cells #[.bool false, .int .i64 0, .int .i64 0, .int .i64 0, .slice pad n pc, .int .i64 st] 62)) (.cells #[.int .i64 0] 3); rw [show ((w.alloc (.cells #[.int .i64 0, .slice (some ⟨g, 0, none⟩) 1 cap] 38)).alloc (.cells #[.bool false, .int .i64 0, .int .i64 0, .int .i64 0, .slice pad n pc, .int .i64 st] 62)).heap.size = w.heap.size + 1 + 1 from by simp] at h; exact h)
  have sz2 : ((w.alloc (.cells #[.int .i64 0, .slice (some ⟨g, 0, none⟩) 1 cap] 38)).alloc (.cells #[.bool false, .int .i64 0, .int .i64 0, .int .i64 0, .slice pad n pc, .int .i64 st] 62)).heap.size = w.heap.size + 2 := by simp
  have SZ2 := Lib.hid sz2
  clear L1 b1 b3 sz2
  go_enter Tryz.func35, Tryz.ntmps35
  go_wp2_with (at_builtin; refine wp_app1 (v := .slice none 0 0) (cs := #[.int .i64 0]) rfl (.tmp 16) (.tmp 18) rfl Tryz.underlying22 info_int rfl (by decide) (by decide) rfl rfl (World.ownsRow_nil _ _ _ _) RB.out rfl (fun u hu => by have hu : u ∈ [Value.int .i64 0] := hu; rw [List.mem_singleton] at hu; subst hu; rfl) (by omega) ?_; intro g9 cap9 w9 ho9 hg9 hl9; have HO9 := Lib.hid ho9; have HG9 := Lib.hid hg9; have HL9 := Lib.hid hl9; clear ho9 hg9 hl9)
  go_ret
  have B9 : Below w.heap.size w w9 := B3.out.grown HG9.out B3.out.size (fun k hk => by cases hk)
  refine ⟨g9, cap9, rfl, HO9.out, ?_, B9⟩
  rcases HL9.out with h1 | h1
  · cases h1
  · rw [h1]; exact B3.out.size
set_option maxRecDepth 100000 in
set_option maxHeartbeats 4000000 in
theorem xtLeaves_one {w : World} {g cap : Nat} {pad : Option Addr} {pc n : Nat} {l : List Pr} {st : Int} (hl : Leaf1 w g cap pad pc n l st) (hs : Sorted l) (hlen : l.length ≤ 1000000) (hst : -1000000 ≤ st ∧ st ≤ 1000000) :
    Calls Tryz.prog 12 #[.agg #[.int .i64 0, .slice (some ⟨g, 0, none⟩) 1 cap]] w fun e w' => ∃ g2 cap2, e = .returned (.slice (some ⟨g2, 0, none⟩) 1 cap2) ∧ w'.ownsRow 0 3 1 (.slice (some ⟨g2, 0, none⟩) 1 cap2) 1 [.int .i64 0] ∧ w.heap.size ≤ g2 ∧ Below w.heap.size w w' := by
  have HL := Lib.hid hl
  have b1 : Below w.heap.size w (w.alloc (.cells #[.int .i64 0, .slice (some ⟨g, 0, none⟩) 1 cap] 38)) := (Below.refl _ _).alloc (Nat.le_refl _) _
  have B1 := Lib.hid b1
  have TM := Lib.hid (xtmay_one (hl.later b1) hs hlen hst)
  have A1 := Lib.hid (heap_alloc_new w (.cells #[.int .i64 0, .slice (some ⟨g, 0, none⟩) 1 cap] 38))
  have x0 := cell_blk (i := 0) A1.out rfl
  have x1 := cell_blk (i := 1) A1.out rfl
  clear hl hs hlen hst b1
  go_enter Tryz.func12, Tryz.ntmps12
  go_wp2_with fail
  refine TM.out.mono ?_
  rintro e w2 ⟨rfl, b2⟩
  clear x0 x1
  have B2 := Lib.hid (B1.out.trans (b2.mono B1.out.size))
  have A2 := Lib.hid ((b2.block _ (lt_of_some A1.out)).trans A1.out)
  have y0 : w2.cell? ⟨w.heap.size, 0, none⟩ = some (.int .i64 0) := cell_blk (i := 0) A2.out rfl
  have y1 : w2.cell? ⟨w.heap.size, 1, none⟩ = some (.slice (some ⟨g, 0, none⟩) 1 cap) := cell_blk (i := 1) A2.out rfl
  have TL := Lib.hid (xtleaves_one (HL.out.later B2.out))
  clear b2 TM
  go_wp2_with fail
  refine TL.out.mono ?_
  rintro e w3 ⟨g2, cap2, rfl, ho3, hg3, b3⟩
  have HO3 := Lib.hid ho3
  have HG3 := Lib.hid hg3
  have B3 := Lib.hid b3
  clear y0 y1 ho3 hg3 b3
  go_wp2_with fail
  go_ret
  exact ⟨g2, cap2, rfl, HO3.out, Nat.le_trans B2.out.size HG3.out, B2.out.trans (B3.out.mono B2.out.size)⟩
set_option maxRecDepth 100000 in
set_option maxHeartbeats 4000000 in
theorem xtAll_one {w : World} {g cap : Nat} {pad : Option Addr} {pc n : Nat} {l : List Pr} {st : Int} (hl : Leaf1 w g cap pad pc n l st) (hs : Sorted l) (hlen : l.length ≤ 1000000) (hst : -1000000 ≤ st ∧ st ≤ 1000000) :
    Calls Tryz.prog 6 #[.agg #[.int .i64 0, .slice (some ⟨g, 0, none⟩) 1 cap]] w fun e w' => ∃ ad c, e = .returned (.slice ad l.length c) ∧ PIn w' ad c l ∧ Below w.heap.size w w' := by
  have HL := Lib.hid hl
  have HLEN := Lib.hid hlen
  have b1 : Below w.heap.size w (w.alloc (.cells #[.int .i64 0, .slice (some ⟨g, 0, none⟩) 1 cap] 38)) := (Below.refl _ _).alloc (Nat.le_refl _) _
  have B1 := Lib.hid b1
  have TM := Lib.hid (xtLeaves_one (hl.later b1) hs hlen hst)
  have A1 := Lib.hid (heap_alloc_new w (.cells #[.int .i64 0, .slice (some ⟨g, 0, none⟩) 1 cap] 38))
  have x0 := cell_blk (i := 0) A1.out rfl
  have x1 := cell_blk (i := 1) A1.out rfl
  clear hl hs hlen hst b1
  go_enter Tryz.func6, Tryz.ntmps6
  go_wp2_with fail
  refine TM.out.mono ?_
  rintro e w2 ⟨g2, cap2, rfl, ho2, hg2, b2⟩
  clear x0 x1
  have B2 := Lib.hid (B1.out.trans (b2.mono B1.out.size))
  have A2 := Lib.hid ((b2.block _ (lt_of_some A1.out)).trans A1.out)
  have L2 := Lib.hid (HL.out.later B2.out)
  have HO2 := Lib.hid ho2
  clear b2 ho2 hg2 TM
  go_wp2_with fail
  go_loopw [3, 9] (fun v i wr => ∃ k : Nat, k ≤ 1 ∧ i = .int .i64 k ∧ Hid (FRel w2.heap.size wr v (if k = 0 then [] else l) ∧ Below w2.heap.size w2 wr)) (fun _ i _ => 1 - (intOf i).toNat)
  case atStart => exact ⟨0, by omega, rfl, Lib.hid ⟨FRel.start w2, Below.refl _ _⟩⟩
  case round =>
    obtain ⟨k, hk, rfl, HR⟩ := hrel
    by_cases hk0 : k = 0
    · subst hk0
      obtain ⟨r1, r2⟩ := HR.out
      have LR := Lib.hid (L2.out.later r2)
      have z0 : wr.cell? ⟨g2, 0, none⟩ = some (.int .i64 0) := by rw [(ownsRow_later HO2.out r2).cellAt 0 (by omega)]; rfl
      have z1 : wr.cell? ⟨w.heap.size, 1, none⟩ = some (.slice (some ⟨g, 0, none⟩) 1 cap) := cell_blk (i := 1) ((r2.block _ (lt_of_some A2.out)).trans A2.out) rfl
      have z4 : wr.cell? ⟨g, 4, none⟩ = some (.slice pad n pc) := LR.out.cell (by decide) rfl
      have R1 := Lib.hid r1
      have R2 := Lib.hid r2
      clear r1 r2 HR
      go_wp2_with (at_builtin; refine wp_appn (ys := l) (ad := pad) (c := pc) (B := w2.heap.size) (out := []) rfl (.tmp 13) (.tmp 19) rfl rfl (by rw [← LR.out.len]; rfl) R1.out LR.out.ps (by have := HLEN.out; simp; omega) ?_; intro v9 w9 hr9 hg9; have HR9 := Lib.hid hr9; have HG9 := Lib.hid hg9; clear hr9 hg9)
      go_roundw
      case rel => exact ⟨1, by omega, by go_num, Lib.hid ⟨HR9.out, Below.growB R2.out R1.out HG9.out⟩⟩
      case measure => simp [intOf]
    · have hk1 : k = 1 := by omega
      subst hk1
      go_wp2_with fail
      go_ret
      obtain ⟨r1, r2⟩ := HR.out
      obtain ⟨ad, c, h1, h2, h3⟩ := r1.gives
      exact ⟨ad, c, by rw [h1]; rfl, h2, B2.out.trans (r2.mono B2.out.size)⟩
end Go.Proofs.YtghjnkfocjjlnaaGreat
