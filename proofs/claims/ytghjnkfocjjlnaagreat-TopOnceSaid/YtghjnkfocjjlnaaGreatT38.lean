/- TopOnce: the walk. -/
import Derived.Test.YtghjnkfocjjlnaaGreatT00
import Derived.Test.YtghjnkfocjjlnaaGreatT37
set_option linter.unusedSimpArgs false
set_option linter.unusedVariables false
namespace Go.Proofs.YtghjnkfocjjlnaaGreat
set_option maxRecDepth 100000
open Go.RowKit Go.Proofs.YtghjnkfocjjlnaaGreatW.PrintWords Go.Proofs.YtghjnkfocjjlnaaGreatW.PrintLast
set_option linter.unusedVariables false
set_option linter.unusedSimpArgs false
theorem IntIn.arg {W : World} {ad : Option Addr} {c : Nat} {l : List Int} (h : IntsArg W ad c l) : IntIn W ad l := by
  rcases h.reads with ⟨_, _, rfl⟩ | ⟨x, rfl, hc⟩
  · exact .inl rfl
  · by_cases hl : l = []
    · exact .inl hl
    · refine .inr ?_
      have h0 := hc 0 (List.length_pos_iff.2 hl)
      obtain ⟨b, off, spot⟩ := x
      have hs : spot = none := by simpa [Addr.add] using World.cell?_spot h0
      subst hs
      refine ⟨b, off, rfl, fun k hk => ?_⟩
      have h1 := hc k hk
      have hadd : (⟨b, off, none⟩ : Addr).add k = ⟨b, off + k, none⟩ := by unfold Addr.add; split <;> simp_all
      rw [hadd] at h1; exact h1
/-- The threads' number, as it is reckoned. -/
theorem threads_eq (th : Int) : ∃ n : Nat, 2 ≤ n ∧ n ≤ 5 ∧ wrap64 (2 + wrap64 ((IntKind.u64.wrap th).tmod 4)) = (n : Int) := by
  have h1 : 0 ≤ IntKind.u64.wrap th := by rw [IntKind.wrap_u64]; omega
  have h2 : (IntKind.u64.wrap th).tmod 4 = IntKind.u64.wrap th % 4 := Int.tmod_eq_emod_of_nonneg h1
  have h3 : 0 ≤ IntKind.u64.wrap th % 4 ∧ IntKind.u64.wrap th % 4 < 4 := by omega
  rw [h2]
  generalize IntKind.u64.wrap th % 4 = x at h3
  refine ⟨(2 + x).toNat, by omega, by omega, ?_⟩
  have e1 : wrap64 x = x := by unfold wrap64; omega
  rw [e1]
  unfold wrap64; omega
def noRows (n : Nat) : Array Value := madeCells (Value.slice none 0 0).cells (n * 1)
theorem noRows_size (n : Nat) : (noRows n).size = n := by unfold noRows; rw [size_madeCells]; omega
theorem IntIn.later {w w' : World} {ad : Option Addr} {l : List Int} (h : IntIn w ad l) (hb : Below w.heap.size w w') : IntIn w' ad l :=
  h.imp id (fun ⟨b, off, h1, h2⟩ => ⟨b, off, h1, fun k hk => (hb.cell (World.block_lt_of_cell? w _ (h2 k hk))).trans (h2 k hk)⟩)
/-- A history's cells, event by event. -/
theorem EvsAt.at_ {w : World} {o2 : Nat → Option Po} {l : List Ev} {vs : List Value} (h : EvsAt w o2 l vs) : vs.length = l.length * 12 ∧ ∀ k (hk : k < l.length), ∃ a n c, ∀ j, j < 12 → vs[k * 12 + j]? = (evL l[k] (.slice a n c))[j]? := by
  induction h with
  | nil => exact ⟨rfl, fun k hk => by simp at hk⟩
  | snoc h1 h2 ih =>
    rename_i l vs e pv
    obtain ⟨i1, i2⟩ := ih
    refine ⟨by rw [List.length_append, List.length_append, i1]; simp [evL]; omega, fun k hk => ?_⟩
    by_cases hlt : k < l.length
    · obtain ⟨a, n, c, hj⟩ := i2 k hlt
      refine ⟨a, n, c, fun j hj12 => ?_⟩
      rw [List.getElem?_append_left (by omega), hj j hj12, List.getElem_append_left hlt]
    · have hkl : k = l.length := by simp at hk; omega
      subst hkl
      obtain ⟨a, c, hf⟩ := ownsRow_form h2.1
      refine ⟨a, e.ans.pairs.length, c, fun j hj12 => ?_⟩
      rw [List.getElem?_append_right (by omega), i1, show l.length * 12 + j - l.length * 12 = j by omega, List.getElem_append_right (by omega)]
      simp [hf]
def lastW (l : List Int) : Int := l.getLast?.getD (-1)
theorem take_snoc (l : List Ev) {k : Nat} (hk : k < l.length) : l.take (k + 1) = l.take k ++ [l[k]] := by
  rw [List.take_add_one, List.getElem?_eq_getElem hk]; rfl
theorem wins_take (l : List Ev) {k : Nat} (hk : k < l.length) : wins (l.take (k + 1)) = wins (l.take k) ++ (if isWin l[k] = true then [l[k].th] else []) := by
  rw [take_snoc l hk, wins_snoc]
theorem lastW_snoc (l : List Int) (x : Int) : lastW (l ++ [x]) = x := by unfold lastW; simp
theorem TQ1.same {l : List Pr} {st : Int} {w w' : World} {g nn cap : Nat} {TB : Nat → Prop} (h : TQ1 l st w g nn cap TB) (hk : ∀ b, TB b → w'.heap[b]? = w.heap[b]?) : TQ1 l st w' g nn cap TB := by
  obtain ⟨h1, pad, pc, hL, rfl⟩ := h
  refine ⟨h1, pad, pc, ⟨ownsRow_same hL.row (fun b hb => hk b (.inl (by have e : g = b := Option.some.inj hb; exact e.symm))), ?_, rfl⟩, rfl⟩
  by_cases hl : l = []
  · exact ⟨.inl hl, hL.ps.room, hL.ps.most⟩
  · refine ⟨.inr ?_, hL.ps.room, hL.ps.most⟩
    obtain ⟨b, off, e, hc⟩ := hL.ps.at2 (List.length_pos_iff.2 hl)
    have hb := hk b (.inr ⟨hl, _, e, rfl⟩)
    exact ⟨b, off, e, fun j hj => by rw [cell_same hb, cell_same hb]; exact hc j hj⟩
/-- The tree at the end of threads that add one key. -/
def TQo (n : Nat) (key : Int) (Y : Py) (w : World) (g nn cap : Nat) (TB : Nat → Prop) : Prop := ∃ l s, Inv n key 1 l Y ∧ RecB Y.S.a 1 (holds Y.S.a 1) l s ∧ StatOK s ∧ TQ1 l s w g nn cap TB
theorem treeC_once {n m : Nat} {key : Int} (hn : 1 ≤ n) (hkey : -9223372036854775808 ≤ key ∧ key ≤ 9223372036854775807) (W : World) (P : Pl) (Y : Py) (hJ : Jo n m key 1 n Y) : TreeC W P Y.S (Y.S.arena (stepA Y.S.a)) (TQo n key Y) := by
  obtain ⟨l, s, hi, hb, hs, _⟩ := end_once hn hJ
  obtain ⟨hso, hl2⟩ := lst_sorted hi.lst
  have hf := hi.fit
  have hr := hi.room
  unfold fits at hf
  have h1 : TreeC W P Y.S (Y.S.arena (stepA Y.S.a)) (TQ1 l s) := treeC_one (by rw [hi.root]; exact load_cell hi.cell) (hb.ek (Ek.step _)) hso (by omega) (show Y.S.a.slots.length ≤ 60000 by omega) (fun p hp => by
    rcases hi.lst with rfl | ⟨f, _, rfl⟩
    · cases hp
    · rw [List.mem_singleton] at hp; subst hp; exact hkey)
  refine ⟨fun w own is => (h1.call w own is).mono ?_, fun w w' g nn cap TB h hk => ?_, rfl⟩
  · rintro e w' ⟨own', g, nn, cap, TB, x1, x2, x3, x4, x5⟩
    exact ⟨own', g, nn, cap, TB, x1, x2, x3, ⟨l, s, hi, hb, hs, x4⟩, x5⟩
  · obtain ⟨l', s', y1, y2, y3, y4⟩ := h
    exact ⟨l', s', y1, y2, y3, y4.same hk⟩
def rowC (key : Int) (t : Nat) : Array Value := #[.int .i64 2, .int .i64 key, .int .i64 0, .int .i64 (t : Int), .int .i64 4, .int .i64 key, .int .i64 0, .int .i64 0]
theorem rowC_ops (key : Int) (t : Nat) : (rowC key t).toList = [addO1 key t, getO1 key].flatMap opL := rfl
/-- The script, while its rows are laid. -/
structure LW (W : World) (n : Nat) (key : Int) (SC : Array Value) (b1 b2 k : Nat) (wr : World) : Prop where
  below : Below W.heap.size W wr
  old1 : W.heap.size ≤ b1
  scr : wr.heap[b2]? = some (.cells SC 30 (0, 0))
  rows : ∃ lcs, lcs.size = n ∧ wr.heap[b1]? = some (.cells lcs 33 (0, 0)) ∧ ∀ t, t < k → ∃ bt, lcs[t]? = some (.slice (some ⟨bt, 0, none⟩) 2 2) ∧ wr.heap[bt]? = some (.cells (rowC key t) 32 (0, 0))
theorem LW.next {W : World} {n : Nat} {key : Int} {SC : Array Value} {b1 b2 k : Nat} {wr : World} (h : LW W n key SC b1 b2 k wr) (hk : k < n) :
    LW W n key SC b1 b2 (k + 1) ((wr.setCell ⟨b1, k, none⟩ (.slice (some ⟨wr.heap.size, 0, none⟩) 2 2)).alloc (.cells (rowC key k) 32)) := by
  obtain ⟨lcs, hl, hb, hr⟩ := h.rows
  have hlt := lt_of_some hb
  have hne : b2 ≠ b1 := by rintro rfl; rw [h.scr] at hb; injection hb with hb; injection hb with _ hb; exact absurd hb (by decide)
  have hsz : (wr.setCell ⟨b1, k, none⟩ (.slice (some ⟨wr.heap.size, 0, none⟩) 2 2)).heap.size = wr.heap.size := by simp [World.setCell]
  have hal : Below (wr.setCell ⟨b1, k, none⟩ (.slice (some ⟨wr.heap.size, 0, none⟩) 2 2)).heap.size (wr.setCell ⟨b1, k, none⟩ (.slice (some ⟨wr.heap.size, 0, none⟩) 2 2)) ((wr.setCell ⟨b1, k, none⟩ (.slice (some ⟨wr.heap.size, 0, none⟩) 2 2)).alloc (.cells (rowC key k) 32)) := (Below.refl _ _).alloc (Nat.le_refl _) _
  have e1 := heap_setCell_same wr b1 k _ _ (.slice (some ⟨wr.heap.size, 0, none⟩) 2 2) hb
  have hB : Below W.heap.size W (wr.setCell ⟨b1, k, none⟩ (.slice (some ⟨wr.heap.size, 0, none⟩) 2 2)) := h.below.setCell h.old1 _
  refine ⟨hB.alloc (by rw [hsz]; exact h.below.size) _, h.old1, (hal.block b2 (by rw [hsz]; exact lt_of_some h.scr)).trans ((setCell_other _ hne).trans h.scr), _, ?_, (hal.block b1 (by rw [hsz]; exact hlt)).trans e1, fun t ht => ?_⟩
  · simpa using hl
  · by_cases e : t = k
    · subst e
      refine ⟨wr.heap.size, by rw [Array.getElem?_setIfInBounds_self_of_lt (by omega)], ?_⟩
      have := heap_alloc_new (wr.setCell ⟨b1, t, none⟩ (.slice (some ⟨wr.heap.size, 0, none⟩) 2 2)) (.cells (rowC key t) 32)
      rw [hsz] at this; exact this
    · obtain ⟨bt, g1, g2⟩ := hr t (by omega)
      refine ⟨bt, by rw [Array.getElem?_setIfInBounds_ne (fun x => e x.symm)]; exact g1, ?_⟩
      have hb1 : bt ≠ b1 := by rintro rfl; rw [g2] at hb; injection hb with hb; injection hb with _ hb; exact absurd hb (by decide)
      exact (hal.block bt (by rw [hsz]; exact lt_of_some g2)).trans ((setCell_other _ hb1).trans g2)
theorem LW.cell {W : World} {n : Nat} {key : Int} {SC : Array Value} {b1 b2 k : Nat} {wr : World} (h : LW W n key SC b1 b2 k wr) (hk : k < n) : (∃ u, wr.cell? ⟨b1, k, none⟩ = some u) ∧ wr.frozen? ⟨b1, k, none⟩ = false ∧ b1 < wr.heap.size := by
  obtain ⟨lcs, hl, hb, _⟩ := h.rows
  exact ⟨⟨lcs[k], cell_blk hb (Array.getElem?_eq_getElem (by omega))⟩, free_blk hb, lt_of_some hb⟩
set_option maxRecDepth 100000 in
set_option maxHeartbeats 4000000 in
theorem topOnce_walk (W : World) {th : Int} (hth : -9223372036854775808 ≤ th ∧ th ≤ 9223372036854775807) {key : Int} (hkey : -9223372036854775808 ≤ key ∧ key ≤ 9223372036854775807) {ad : Option Addr} {c : Nat} {l : List Int} (hl : IntsArg W ad c l) (p : PolR) :
    Calls Tryz.prog 3 #[.int .i64 th, .int .i64 key, .slice ad l.length c, .agg #[.int .i64 p.high, .int .i64 p.low, .int .i64 p.cont, .int .i64 p.uncont, .int .i64 p.multi]] W fun e w' => e = .returned (.bool true) ∧ Below W.heap.size W w' := by
  have HA := Lib.hid hl
  have HK := Lib.hid hkey
  clear hl hkey
  obtain ⟨m, hm⟩ : ∃ m, m = l.length := ⟨_, rfl⟩
  have HM := Lib.hid hm
  rw [← hm]
  clear hm
  go_enter Tryz.func3, Tryz.ntmps3
  by_cases hbig : 2000 < (m : Int)
  · go_wp2_with fail
    refine (awake_any _).mono ?_
    rintro e w2 ⟨rfl, b2⟩
    have B2 := Lib.hid b2
    clear b2
    go_wp2_with fail
    go_ret
    exact ⟨rfl, ((Below.refl W.heap.size W).alloc (Nat.le_refl _) _).trans (B2.out.mono (by simp))⟩
  · go_wp2_with fail
    obtain ⟨n, hn2, hn5, hth4⟩ := threads_eq th
    rw [hth4]
    clear hth4
    have B1 := Lib.hid (show Below W.heap.size W (W.alloc (.cells #[.int .i64 p.high, .int .i64 p.low, .int .i64 p.cont, .int .i64 p.uncont, .int .i64 p.multi] 24)) from (Below.refl _ _).alloc (Nat.le_refl _) _)
    have A1 := Lib.hid (heap_alloc_new W (.cells #[.int .i64 p.high, .int .i64 p.low, .int .i64 p.cont, .int .i64 p.uncont, .int .i64 p.multi] 24))
    have lt1 : W.heap.size < (W.alloc (.cells #[.int .i64 p.high, .int .i64 p.low, .int .i64 p.cont, .int .i64 p.uncont, .int .i64 p.multi] 24)).heap.size := by simp
    generalize W.alloc (.cells #[.int .i64 p.high, .int .i64 p.low, .int .i64 p.cont, .int .i64 p.uncont, .int .i64 p.multi] 24) = w1 at B1 A1 lt1 ⊢
    have Ds := Lib.hid (show Below w1.heap.size w1 w1.drew from (Below.refl _ _).drew)
    refine start_ (n := 8) (S := fun w' => w'.cell? ⟨W.heap.size, 0, none⟩ = some (.int .i64 p.high) ∧ w'.cell? ⟨W.heap.size, 1, none⟩ = some (.int .i64 p.low) ∧ w'.cell? ⟨W.heap.size, 2, none⟩ = some (.int .i64 p.cont) ∧ w'.cell? ⟨W.heap.size, 3, none⟩ = some (.int .i64 p.uncont) ∧ w'.cell? ⟨W.heap.size, 4, none⟩ = some (.int .i64 p.multi)) (ds := [7]) (bz 8 0).toArray (by kernel_rfl) rfl rfl ⟨(cell_blk (i := 0) ((Ds.out.block _ lt1).trans A1.out) rfl), (cell_blk (i := 1) ((Ds.out.block _ lt1).trans A1.out) rfl), (cell_blk (i := 2) ((Ds.out.block _ lt1).trans A1.out) rfl), (cell_blk (i := 3) ((Ds.out.block _ lt1).trans A1.out) rfl), (cell_blk (i := 4) ((Ds.out.block _ lt1).trans A1.out) rfl)⟩ (fun hHeld => ?_)
    refine pure_ (i := 0) (N := some 28) (v := ?_) (a' := ?_) (bz 8 1).toArray rfl rfl (by kernel_rfl) (fun _ _ _ h => h) (Or.inl ⟨by rfl, ?_⟩) ?_ ?_
    rotate_left
    · intro w'
      go_simp
      with_reducible rfl
    rotate_left
    · simp only [Act.put, sqA, sqZ, sqS, i64_w, i32_w]
      rfl
    refine pure_ (i := 2) (N := some 30) (v := ?_) (a' := ?_) (bz 8 5).toArray rfl rfl (by kernel_rfl) (fun _ _ _ h => h) (Or.inl ⟨by rfl, ?_⟩) ?_ ?_
    rotate_left
    · intro w'
      go_simp
      with_reducible rfl
    rotate_left
    · simp only [Act.put, sqA, sqZ, sqS, i64_w, i32_w]
      rfl
    refine pure_ (i := 4) (N := some 32) (v := ?_) (a' := ?_) (bz 8 21).toArray rfl rfl (by kernel_rfl) (fun _ _ _ h => h) (Or.inl ⟨by rfl, ?_⟩) ?_ ?_
    rotate_left
    · intro w'
      go_simp
      with_reducible rfl
    rotate_left
    · simp only [Act.put, sqA, sqZ, sqS, i64_w, i32_w]
      rfl
    refine take_ (i := 1) (N := some 29) (v := ?_) (a' := ?_) (bz 8 23).toArray rfl rfl (by kernel_rfl) (fun _ _ _ h => h) (Or.inl ⟨by rfl, ?_⟩) hHeld ?_ ?_
    rotate_left
    · rintro w' ⟨s0, s1, s2, s3, s4⟩
      go_simp
      with_reducible rfl
    rotate_left
    · simp only [Act.put, sqA, sqZ, sqS, i64_w, i32_w]
      rfl
    refine join_ (σ := Nat × Nat) 1 (bz 8 127).toArray (fun s => [(31, .slice (some ⟨s.1, 0, none⟩) n n), (33, .agg #[.int .i64 (n : Int), .int .i64 30000, .int .i64 p.high, .int .i64 p.low, .int .i64 p.cont, .int .i64 p.uncont, .int .i64 p.multi, .slice none 0 0, .slice (some ⟨s.1, 0, none⟩) n n, .slice ad m c]), (9, .pointer (some ⟨s.2, 0, none⟩))]) (fun s w' => Below w1.heap.size w1 w' ∧ w'.heap[s.1]? = some (.cells (noRows n) 33 (0, 0)) ∧ w'.heap[s.2]? = some (.cells #[.int .i64 0, .int .i64 0, .int .i64 0, .int .i64 0, .int .i64 0, .int .i64 0, .int .i64 0, .slice none 0 0, .slice none 0 0, .slice none 0 0] 30 (0, 0)) ∧ w1.heap.size ≤ s.1 ∧ w1.heap.size ≤ s.2 ∧ s.1 ≠ s.2) ?_ ?_
    rotate_left
    · intro hCont
      refine two_ (i := 3) (j := 6) (Ni := some 31) (Nj := some 9) (bz 8 31).toArray (bz 8 87).toArray rfl rfl rfl rfl (by kernel_rfl) (by decide) (by decide) (fun K hK => ?_) (fun K hK => ?_)
      · skip
        refine step_make (by rfl) rfl (.tmp 30) (.tmp 30) rfl Tryz.underlying27 info_ops (by decide) rfl rfl (by omega) ?_
        change K _ (w1.drew.alloc (.cells (noRows n) 33))
        have D3 := Lib.hid (Ds.out.alloc Ds.out.size (.cells (noRows n) 33))
        have M3 := Lib.hid (heap_alloc_new w1.drew (.cells (noRows n) 33))
        have S3 := Lib.hid Ds.out.size
        refine hK.out _ _ ⟨(cell_blk (i := 0) ((D3.out.block _ lt1).trans A1.out) rfl), (cell_blk (i := 1) ((D3.out.block _ lt1).trans A1.out) rfl), (cell_blk (i := 2) ((D3.out.block _ lt1).trans A1.out) rfl), (cell_blk (i := 3) ((D3.out.block _ lt1).trans A1.out) rfl), (cell_blk (i := 4) ((D3.out.block _ lt1).trans A1.out) rfl)⟩ (fun hHeld => ?_)
        clear hK K
        refine norm_ (a' := ?_) ?_ ?_
        rotate_left
        · show Act.put _ (some 31) _ = _
          simp only [Act.put, sqA, sqZ, sqS, i64_w, i32_w]
          rfl
        refine pure_ (i := 5) (N := some 33) (v := ?_) (a' := ?_) (bz 8 63).toArray rfl rfl (by kernel_rfl) (fun _ _ _ h => h) (Or.inl ⟨by rfl, ?_⟩) ?_ ?_
        rotate_left
        · intro w'
          go_simp
          with_reducible rfl
        rotate_left
        · simp only [Act.put, sqA, sqZ, sqS, i64_w, i32_w]
          rfl
        refine one_ (i := 6) (N := some 9) (bz 8 127).toArray rfl rfl (by kernel_rfl) (by decide) (fun K hK => ?_)
        refine value_ (w1 := ?_) (v := ?_) (by rfl) rfl ?_ ?_
        rotate_left 2
        · go_simp
          constructor
          · rfl
          · rfl
        have D6 := Lib.hid (D3.out.alloc D3.out.size (.cells #[.int .i64 0, .int .i64 0, .int .i64 0, .int .i64 0, .int .i64 0, .int .i64 0, .int .i64 0, .slice none 0 0, .slice none 0 0, .slice none 0 0] 30))
        have Z6 := Lib.hid (heap_alloc_new (w1.drew.alloc (.cells (noRows n) 33)) (.cells #[.int .i64 0, .int .i64 0, .int .i64 0, .int .i64 0, .int .i64 0, .int .i64 0, .int .i64 0, .slice none 0 0, .slice none 0 0, .slice none 0 0] 30))
        have S6 := Lib.hid D3.out.size
        have N := Lib.hid (show (w1.drew.alloc (.cells (noRows n) 33)).heap.size ≠ w1.drew.heap.size from by have := lt_of_some M3.out; omega)
        have M3 := Lib.hid ((((Below.refl _ _).alloc (Nat.le_refl _) (.cells #[.int .i64 0, .int .i64 0, .int .i64 0, .int .i64 0, .int .i64 0, .int .i64 0, .int .i64 0, .slice none 0 0, .slice none 0 0, .slice none 0 0] 30)).block _ (lt_of_some M3.out)).trans M3.out)
        refine hK.out _ _ ⟨(cell_blk (i := 0) ((D6.out.block _ lt1).trans A1.out) rfl), (cell_blk (i := 1) ((D6.out.block _ lt1).trans A1.out) rfl), (cell_blk (i := 2) ((D6.out.block _ lt1).trans A1.out) rfl), (cell_blk (i := 3) ((D6.out.block _ lt1).trans A1.out) rfl), (cell_blk (i := 4) ((D6.out.block _ lt1).trans A1.out) rfl)⟩ (fun hHeld => ?_)
        clear hK K
        refine norm_ (a' := ?_) ?_ ?_
        rotate_left
        · show Act.put _ (some 9) _ = _
          simp only [Act.put, sqA, sqZ, sqS, i64_w, i32_w]
          rfl
        exact norm_ (by first | (simp only [putAll, Act.put, sqA, sqZ, sqS]; done) | (simp only [putAll, Act.put, sqA, sqZ, sqS]; rfl)) (hCont (w1.heap.size, w1.heap.size + 1) _ ⟨D6.out, M3.out, (by have h := Z6.out; rw [show (w1.drew.alloc (.cells (noRows n) 33)).heap.size = w1.heap.size + 1 from by show (w1.alloc (.cells (noRows n) 33)).heap.size = _; simp] at h; exact h), Nat.le_refl _, Nat.le_succ _, by omega⟩)
      · skip
        refine value_ (w1 := ?_) (v := ?_) (by rfl) rfl ?_ ?_
        rotate_left 2
        · go_simp
          constructor
          · rfl
          · rfl
        have D6 := Lib.hid (Ds.out.alloc Ds.out.size (.cells #[.int .i64 0, .int .i64 0, .int .i64 0, .int .i64 0, .int .i64 0, .int .i64 0, .int .i64 0, .slice none 0 0, .slice none 0 0, .slice none 0 0] 30))
        have Z6 := Lib.hid (heap_alloc_new w1.drew (.cells #[.int .i64 0, .int .i64 0, .int .i64 0, .int .i64 0, .int .i64 0, .int .i64 0, .int .i64 0, .slice none 0 0, .slice none 0 0, .slice none 0 0] 30))
        have S6 := Lib.hid Ds.out.size
        refine hK.out _ _ ⟨(cell_blk (i := 0) ((D6.out.block _ lt1).trans A1.out) rfl), (cell_blk (i := 1) ((D6.out.block _ lt1).trans A1.out) rfl), (cell_blk (i := 2) ((D6.out.block _ lt1).trans A1.out) rfl), (cell_blk (i := 3) ((D6.out.block _ lt1).trans A1.out) rfl), (cell_blk (i := 4) ((D6.out.block _ lt1).trans A1.out) rfl)⟩ (fun hHeld => ?_)
        clear hK K
        refine norm_ (a' := ?_) ?_ ?_
        rotate_left
        · show Act.put _ (some 9) _ = _
          simp only [Act.put, sqA, sqZ, sqS, i64_w, i32_w]
          rfl
        refine one_ (i := 3) (N := some 31) (bz 8 95).toArray rfl rfl (by kernel_rfl) (by decide) (fun K hK => ?_)
        refine step_make (by rfl) rfl (.tmp 30) (.tmp 30) rfl Tryz.underlying27 info_ops (by decide) rfl rfl (by omega) ?_
        change K _ ((w1.drew.alloc (.cells #[.int .i64 0, .int .i64 0, .int .i64 0, .int .i64 0, .int .i64 0, .int .i64 0, .int .i64 0, .slice none 0 0, .slice none 0 0, .slice none 0 0] 30)).alloc (.cells (noRows n) 33))
        have sz : (w1.alloc (.cells #[.int .i64 0, .int .i64 0, .int .i64 0, .int .i64 0, .int .i64 0, .int .i64 0, .int .i64 0, .slice none 0 0, .slice none 0 0, .slice none 0 0] 30)).drew.heap.size = w1.heap.size + 1 := by show (w1.alloc (.cells #[.int .i64 0, .int .i64 0, .int .i64 0, .int .i64 0, .int .i64 0, .int .i64 0, .int .i64 0, .slice none 0 0, .slice none 0 0, .slice none 0 0] 30)).heap.size = _; simp
        rw [sz]
        clear sz
        have D3 := Lib.hid (D6.out.alloc D6.out.size (.cells (noRows n) 33))
        have M3 := Lib.hid (heap_alloc_new (w1.drew.alloc (.cells #[.int .i64 0, .int .i64 0, .int .i64 0, .int .i64 0, .int .i64 0, .int .i64 0, .int .i64 0, .slice none 0 0, .slice none 0 0, .slice none 0 0] 30)) (.cells (noRows n) 33))
        have S3 := Lib.hid D6.out.size
        have N := Lib.hid (show (w1.drew.alloc (.cells #[.int .i64 0, .int .i64 0, .int .i64 0, .int .i64 0, .int .i64 0, .int .i64 0, .int .i64 0, .slice none 0 0, .slice none 0 0, .slice none 0 0] 30)).heap.size ≠ w1.drew.heap.size from by have := lt_of_some Z6.out; omega)
        have Z6 := Lib.hid ((((Below.refl _ _).alloc (Nat.le_refl _) (.cells (noRows n) 33)).block _ (lt_of_some Z6.out)).trans Z6.out)
        refine hK.out _ _ ⟨(cell_blk (i := 0) ((D3.out.block _ lt1).trans A1.out) rfl), (cell_blk (i := 1) ((D3.out.block _ lt1).trans A1.out) rfl), (cell_blk (i := 2) ((D3.out.block _ lt1).trans A1.out) rfl), (cell_blk (i := 3) ((D3.out.block _ lt1).trans A1.out) rfl), (cell_blk (i := 4) ((D3.out.block _ lt1).trans A1.out) rfl)⟩ (fun hHeld => ?_)
        clear hK K
        refine norm_ (a' := ?_) ?_ ?_
        rotate_left
        · show Act.put _ (some 31) _ = _
          simp only [Act.put, sqA, sqZ, sqS, i64_w, i32_w]
          rfl
        refine pure_ (i := 5) (N := some 33) (v := ?_) (a' := ?_) (bz 8 127).toArray rfl rfl (by kernel_rfl) (fun _ _ _ h => h) (Or.inl ⟨by rfl, ?_⟩) ?_ ?_
        rotate_left
        · intro w'
          go_simp
          with_reducible rfl
        rotate_left
        · simp only [Act.put, sqA, sqZ, sqS, i64_w, i32_w]
          rfl
        exact norm_ (by first | (simp only [putAll, Act.put, sqA, sqZ, sqS]; done) | (simp only [putAll, Act.put, sqA, sqZ, sqS]; rfl)) (hCont (w1.heap.size + 1, w1.heap.size) _ ⟨D3.out, (by have h := M3.out; rw [show (w1.drew.alloc (.cells #[.int .i64 0, .int .i64 0, .int .i64 0, .int .i64 0, .int .i64 0, .int .i64 0, .int .i64 0, .slice none 0 0, .slice none 0 0, .slice none 0 0] 30)).heap.size = w1.heap.size + 1 from by show (w1.alloc (.cells #[.int .i64 0, .int .i64 0, .int .i64 0, .int .i64 0, .int .i64 0, .int .i64 0, .int .i64 0, .slice none 0 0, .slice none 0 0, .slice none 0 0] 30)).heap.size = _; simp] at h; exact h), Z6.out, Nat.le_succ _, Nat.le_refl _, by omega⟩)
    rintro ⟨b1, b2⟩ w4 ⟨d4, m4, z4, l4, k4, ne4⟩
    have D4 := Lib.hid d4
    have M4 := Lib.hid m4
    have Z4 := Lib.hid z4
    have L4 := Lib.hid l4
    have K4 := Lib.hid k4
    have N4 := Lib.hid ne4
    clear d4 m4 z4 l4 k4 ne4
    have hHeld : w4.cell? ⟨W.heap.size, 0, none⟩ = some (.int .i64 p.high) ∧ w4.cell? ⟨W.heap.size, 1, none⟩ = some (.int .i64 p.low) ∧ w4.cell? ⟨W.heap.size, 2, none⟩ = some (.int .i64 p.cont) ∧ w4.cell? ⟨W.heap.size, 3, none⟩ = some (.int .i64 p.uncont) ∧ w4.cell? ⟨W.heap.size, 4, none⟩ = some (.int .i64 p.multi) := ⟨(cell_blk (i := 0) ((D4.out.block _ lt1).trans A1.out) rfl), (cell_blk (i := 1) ((D4.out.block _ lt1).trans A1.out) rfl), (cell_blk (i := 2) ((D4.out.block _ lt1).trans A1.out) rfl), (cell_blk (i := 3) ((D4.out.block _ lt1).trans A1.out) rfl), (cell_blk (i := 4) ((D4.out.block _ lt1).trans A1.out) rfl)⟩
    have fz0 := free_blk (i := 0) Z4.out
    have fz1 := free_blk (i := 1) Z4.out
    have fz2 := free_blk (i := 2) Z4.out
    have fz3 := free_blk (i := 3) Z4.out
    have fz4 := free_blk (i := 4) Z4.out
    have fz5 := free_blk (i := 5) Z4.out
    have fz6 := free_blk (i := 6) Z4.out
    have fz7 := free_blk (i := 7) Z4.out
    have fz8 := free_blk (i := 8) Z4.out
    have fz9 := free_blk (i := 9) Z4.out
    have cz0 := cell_blk (i := 0) Z4.out rfl
    have cz1 := cell_blk (i := 1) Z4.out rfl
    have cz2 := cell_blk (i := 2) Z4.out rfl
    have cz3 := cell_blk (i := 3) Z4.out rfl
    have cz4 := cell_blk (i := 4) Z4.out rfl
    have cz5 := cell_blk (i := 5) Z4.out rfl
    have cz6 := cell_blk (i := 6) Z4.out rfl
    have cz7 := cell_blk (i := 7) Z4.out rfl
    have cz8 := cell_blk (i := 8) Z4.out rfl
    have cz9 := cell_blk (i := 9) Z4.out rfl
    have lz := lt_of_some Z4.out
    refine norm_ (a' := ?_) ?_ ?_
    rotate_left
    · simp only [putAll, Act.put, sqA, sqZ, sqS]
      rfl
    refine last_ (i := 7) (N := none) (bz 8 255).toArray rfl rfl (by kernel_rfl) (by decide) (fun K hK => ?_)
    refine skip_ (w1 := ?_) (by rfl) rfl ?_ ?_
    rotate_left
    · go_simp
      rfl
    refine hK.out _ _ ?_
    clear hK K
    refine done_ (by kernel_rfl) ?_
    change Exit.then _ _ _ _ (set10 w4 b2 (.int .i64 (n : Int)) (.int .i64 30000) (.int .i64 p.high) (.int .i64 p.low) (.int .i64 p.cont) (.int .i64 p.uncont) (.int .i64 p.multi) (.slice none 0 0) (.slice (some ⟨b1, 0, none⟩) n n) (.slice ad m c))
    have LW0 := Lib.hid (show LW W n key #[.int .i64 (n : Int), .int .i64 30000, .int .i64 p.high, .int .i64 p.low, .int .i64 p.cont, .int .i64 p.uncont, .int .i64 p.multi, .slice none 0 0, .slice (some ⟨b1, 0, none⟩) n n, .slice ad m c] b1 b2 0 (set10 w4 b2 (.int .i64 (n : Int)) (.int .i64 30000) (.int .i64 p.high) (.int .i64 p.low) (.int .i64 p.cont) (.int .i64 p.uncont) (.int .i64 p.multi) (.slice none 0 0) (.slice (some ⟨b1, 0, none⟩) n n) (.slice ad m c)) from ⟨B1.out.trans ((set10_below D4.out K4.out (.int .i64 (n : Int)) (.int .i64 30000) (.int .i64 p.high) (.int .i64 p.low) (.int .i64 p.cont) (.int .i64 p.uncont) (.int .i64 p.multi) (.slice none 0 0) (.slice (some ⟨b1, 0, none⟩) n n) (.slice ad m c)).mono B1.out.size), Nat.le_trans B1.out.size L4.out, set10_heap (.int .i64 (n : Int)) (.int .i64 30000) (.int .i64 p.high) (.int .i64 p.low) (.int .i64 p.cont) (.int .i64 p.uncont) (.int .i64 p.multi) (.slice none 0 0) (.slice (some ⟨b1, 0, none⟩) n n) (.slice ad m c) Z4.out, _, noRows_size n, (set10_other (.int .i64 (n : Int)) (.int .i64 30000) (.int .i64 p.high) (.int .i64 p.low) (.int .i64 p.cont) (.int .i64 p.uncont) (.int .i64 p.multi) (.slice none 0 0) (.slice (some ⟨b1, 0, none⟩) n n) (.slice ad m c) N4.out).trans M4.out, fun t ht => by omega⟩)
    generalize set10 w4 b2 (.int .i64 (n : Int)) (.int .i64 30000) (.int .i64 p.high) (.int .i64 p.low) (.int .i64 p.cont) (.int .i64 p.uncont) (.int .i64 p.multi) (.slice none 0 0) (.slice (some ⟨b1, 0, none⟩) n n) (.slice ad m c) = w5 at LW0 ⊢
    clear fz0 cz0 fz1 cz1 fz2 cz2 fz3 cz3 fz4 cz4 fz5 cz5 fz6 cz6 fz7 cz7 fz8 cz8 fz9 cz9 lz Z4 M4 D4 L4 K4 N4 A1 B1 Ds lt1
    go_wp2_with fail
    go_loopw [35] (fun i wr => ∃ k : Nat, k ≤ n ∧ i = .int .i64 k ∧ Hid (LW W n key #[.int .i64 (n : Int), .int .i64 30000, .int .i64 p.high, .int .i64 p.low, .int .i64 p.cont, .int .i64 p.uncont, .int .i64 p.multi, .slice none 0 0, .slice (some ⟨b1, 0, none⟩) n n, .slice ad m c] b1 b2 k wr)) (fun i _ => n - (intOf i).toNat)
    case atStart => exact ⟨0, Nat.zero_le _, rfl, LW0⟩
    case round =>
      obtain ⟨k, hk, rfl, HL⟩ := hrel
      by_cases hlt : k < n
      · have x8 : wr.cell? ⟨b2, 8, none⟩ = some (.slice (some ⟨b1, 0, none⟩) n n) := cell_blk (i := 8) HL.out.scr rfl
        obtain ⟨⟨u, xu⟩, fu, lu⟩ := HL.out.cell hlt
        have q0 : ¬ ((k : Int) < 0) := by omega
        have q1 : ¬ ((n : Int) ≤ (k : Int)) := by omega
        go_wp2_with fail
        go_roundw
        case rel => exact ⟨k + 1, by omega, by go_num, Lib.hid (HL.out.next hlt)⟩
        case measure => simp [intOf]; omega
      · have hkn : k = n := by omega
        subst hkn
        clear hlt hk
        have hcl : ∀ w', Below wr.heap.size wr w' → Calls Tryz.prog 9 #[.agg #[.int .i64 (k : Int), .int .i64 30000, .int .i64 p.high, .int .i64 p.low, .int .i64 p.cont, .int .i64 p.uncont, .int .i64 p.multi, .slice none 0 0, .slice (some ⟨b1, 0, none⟩) k k, .slice ad m c]] w' (CleanP k 30000 (clampP p) (leftO k key) (l.map fun x => (x % (k : Int)).toNat) w') := fun w' hb => by
          obtain ⟨lcs, hlc, hb1, hrw⟩ := HL.out.rows
          refine xclean_any (w := w') (n := k) (by omega) (by omega) 30000 (by omega) (by omega) p (ob := b1) (oc := k) (xn := m) (xc := c) (xad := ad) (rows := leftO k key) (by simp [leftO]) (fun t ht => ?_) (fun t ht => ?_) (xs := l) ((IntIn.arg HA.out).later (HL.out.below.trans (hb.mono HL.out.below.size))) HM.out (by omega) (by have := HA.out.room; have := HM.out; omega) HA.out.wf
          · obtain ⟨bt, g1, g2⟩ := hrw t ht
            rw [leftO_at key ht]
            exact ⟨some ⟨bt, 0, none⟩, 2, cell_blk (i := t) ((hb.block _ (lt_of_some hb1)).trans hb1) g1, OpIn.lit ((hb.block _ (lt_of_some g2)).trans g2) (l := [addO1 key t, getO1 key]) (rowC_ops key t)⟩
          · rw [leftO_at key ht]
            exact ⟨by simp, fun o ho => by simp only [List.mem_cons, List.not_mem_nil, or_false] at ho; rcases ho with rfl | rfl <;> first | exact .inr (.inl rfl) | exact .inr (.inr (.inr rfl))⟩
        have hpl := plan_once (n := k) (key := key) (r := 1) (pks := (l.map fun x => (x % (k : Int)).toNat)) (by omega) (inv0 (n := k) (cells := 30000) (by omega) (by omega) (clampP p) key) rfl (newX_eq k (cells := 30000) (by omega) (by omega) (clampP p)).2.2.2.2.1 (fun t ht => by
          obtain ⟨x, _, rfl⟩ := List.mem_map.1 ht
          have h1 := Int.emod_nonneg x (show (k : Int) ≠ 0 by omega)
          have h2 := Int.emod_lt_of_pos x (show (0 : Int) < k by omega)
          omega) (by rw [List.length_map, ← HM.out]; omega)
        have hlen : (l.map fun x => (x % (k : Int)).toNat).length ≤ 100000 := by rw [List.length_map, ← HM.out]; omega
        have WH := Lib.hid (whole_any (w := wr) (n := k) (by omega) (by omega) 30000 (by omega) (by omega) (clampP p) (newX_eq k (cells := 30000) (by omega) (by omega) (clampP p)).1 hlen hcl hpl (F := fun Y : Py => Y.S.arena (stepA Y.S.a)) (TQ := TQo k key) (fun W P Y hJ => treeC_once (by omega) HK.out W P Y hJ))
        clear hcl hpl hlen
        have x0 := cell_blk (i := 0) HL.out.scr rfl
        have x1 := cell_blk (i := 1) HL.out.scr rfl
        have x2 := cell_blk (i := 2) HL.out.scr rfl
        have x3 := cell_blk (i := 3) HL.out.scr rfl
        have x4 := cell_blk (i := 4) HL.out.scr rfl
        have x5 := cell_blk (i := 5) HL.out.scr rfl
        have x6 := cell_blk (i := 6) HL.out.scr rfl
        have x7 := cell_blk (i := 7) HL.out.scr rfl
        have x8 := cell_blk (i := 8) HL.out.scr rfl
        have x9 := cell_blk (i := 9) HL.out.scr rfl
        go_wp2_with fail
        refine WH.out.mono ?_
        rintro e w6 ⟨Y, had, hn, hc, hs, tad, no, tc, g, nn, cap, TB, o2, rfl, hJ, hhn, hno, b6, hr, hev, hto, htq, htb⟩
        clear x0 x1 x2 x3 x4 x5 x6 x7 x8 x9
        obtain ⟨l0, s0, hInv, hRec, hst, hnn, pad, pc, hL, _⟩ := htq
        subst hnn
        have hend : ErrH Y.h ∨ ∃ f : Nat, f < k ∧ l0 = [(key, (f : Int))] ∧ wins Y.h = [(f : Int)] ∧ ∀ e ∈ Y.h, e.ret = true → e.op.kind = 4 → e.ans = Go.Proofs.YtghjnkfocjjlnaaGreat.had key f true := by
          obtain ⟨l2, s2, _, hb2, _, h3⟩ := end_once (by omega) hJ
          obtain ⟨rfl, _⟩ := hRec.uniq hb2
          exact h3
        have hn9 : hn ≤ 10000 := by
          obtain ⟨_, h3, _⟩ := hJ
          have h4 := HM.out
          rw [List.length_map] at h3
          omega
        obtain ⟨hsl, hsa⟩ := hev.at_
        have B6 := Lib.hid (HL.out.below.trans (b6.mono HL.out.below.size))
        have HR := Lib.hid hr
        have HSA := Lib.hid hsa
        have HHN := Lib.hid hhn
        have HEND := Lib.hid hend
        have HLF := Lib.hid hL
        have HST := Lib.hid hst
        have HI := Lib.hid hInv
        clear hno hev hto htb b6 WH hr hsa hhn hend hL hst hInv hRec hJ hsl
        generalize (pendN ((fun Y : Py => Y.S.arena (stepA Y.S.a)) Y) k) = pd
        generalize (usedO (some ((fun Y : Py => Y.S.arena (stepA Y.S.a)) Y).a)) = y7
        generalize ((fun Y : Py => Y.S.arena (stepA Y.S.a)) Y).steps = y6
        generalize ((fun Y : Py => Y.S.arena (stepA Y.S.a)) Y).splits = y8
        generalize ((fun Y : Py => Y.S.arena (stepA Y.S.a)) Y).joins = y9
        have B7 := Lib.hid (B6.out.alloc B6.out.size (.cells #[.int .i64 0, .slice had hn hc, .slice tad no tc, .int .i64 0, .slice (some ⟨g, 0, none⟩) 1 cap, .int .i64 (pd : Int), .int .i64 y6, .int .i64 y7, .int .i64 y8, .int .i64 y9] 40))
        have R7 := Lib.hid (heap_alloc_new w6 (.cells #[.int .i64 0, .slice had hn hc, .slice tad no tc, .int .i64 0, .slice (some ⟨g, 0, none⟩) 1 cap, .int .i64 (pd : Int), .int .i64 y6, .int .i64 y7, .int .i64 y8, .int .i64 y9] 40))
        have L7 := Lib.hid (show Below w6.heap.size w6 (w6.alloc (.cells #[.int .i64 0, .slice had hn hc, .slice tad no tc, .int .i64 0, .slice (some ⟨g, 0, none⟩) 1 cap, .int .i64 (pd : Int), .int .i64 y6, .int .i64 y7, .int .i64 y8, .int .i64 y9] 40)) from (Below.refl _ _).alloc (Nat.le_refl _) _)
        go_wp2_with fail
        generalize w6.alloc (.cells #[.int .i64 0, .slice had hn hc, .slice tad no tc, .int .i64 0, .slice (some ⟨g, 0, none⟩) 1 cap, .int .i64 (pd : Int), .int .i64 y6, .int .i64 y7, .int .i64 y8, .int .i64 y9] 40) = w7 at B7 R7 L7 ⊢
        have HR7 := Lib.hid (ownsRow_later HR.out L7.out)
        have LF7 := Lib.hid (HLF.out.later L7.out)
        go_loopw [12, 13, 54] (fun v12 v13 i wq => ∃ j : Nat, j ≤ hn ∧ i = .int .i64 j ∧ ∃ (f : Int) (q : Nat), v12 = .int .i64 f ∧ v13 = .int .i64 (q : Int) ∧ q ≤ j ∧ Hid (f = lastW (wins (Y.h.take j)) ∧ q = (wins (Y.h.take j)).length ∧ (∀ e ∈ Y.h.take j, ¬ (e.ret = true ∧ e.ans.err ≠ 0)) ∧ Below w7.heap.size w7 wq)) (fun _ _ i _ => hn - (intOf i).toNat)
        case atStart => exact ⟨0, Nat.zero_le _, rfl, -1, 0, rfl, rfl, Nat.le_refl _, Lib.hid ⟨rfl, rfl, by simp, Below.refl _ _⟩⟩
        case round =>
          obtain ⟨j, hj, rfl, f, q, rfl, rfl, hq, HW⟩ := hrel
          by_cases hlt : j < hn
          · have hlen : j < Y.h.length := by rw [← HHN.out]; exact hlt
            obtain ⟨pa, pn, pcc, hc12⟩ := HSA.out j hlen
            have hwt := wins_take Y.h hlen
            have hts := take_snoc Y.h hlen
            obtain ⟨hg, rfl⟩ : ∃ hg, had = some ⟨hg, 0, none⟩ := by
              rcases HR7.out.2 with ⟨_, h2⟩ | ⟨hg, cap9, cur, h1, _⟩
              · omega
              · injection h1 with h1; exact ⟨hg, h1⟩
            have OR := ownsRow_later HR7.out HW.out.2.2.2
            have hce : ∀ t, t < 12 → wr.cell? ⟨hg, j * 12 + t, none⟩ = (evL Y.h[j] (.slice pa pn pcc))[t]? := fun t ht => by rw [OR.cellAt (j * 12 + t) (by omega)]; exact hc12 t ht
            obtain ⟨e, he⟩ : ∃ e, e = Y.h[j] := ⟨_, rfl⟩
            rw [← he] at hce hwt hts
            have HE := Lib.hid he
            clear he hc12 OR
            obtain ⟨et, er, ⟨ek, eky, eh, ev⟩, ⟨ee, eo, ak, av, an, ps⟩⟩ := e
            have e0 : wr.cell? ⟨hg, j * 12, none⟩ = some (.int .i64 et) := hce 0 (by decide)
            have e1 : wr.cell? ⟨hg, j * 12 + 1, none⟩ = some (.bool er) := hce 1 (by decide)
            have e2 : wr.cell? ⟨hg, j * 12 + 2, none⟩ = some (.int .i64 ek) := hce 2 (by decide)
            have e3 : wr.cell? ⟨hg, j * 12 + 3, none⟩ = some (.int .i64 eky) := hce 3 (by decide)
            have e4 : wr.cell? ⟨hg, j * 12 + 4, none⟩ = some (.int .i64 eh) := hce 4 (by decide)
            have e5 : wr.cell? ⟨hg, j * 12 + 5, none⟩ = some (.int .i64 ev) := hce 5 (by decide)
            have e6 : wr.cell? ⟨hg, j * 12 + 6, none⟩ = some (.int .i64 ee) := hce 6 (by decide)
            have e7 : wr.cell? ⟨hg, j * 12 + 7, none⟩ = some (.bool eo) := hce 7 (by decide)
            have e8 : wr.cell? ⟨hg, j * 12 + 8, none⟩ = some (.int .i64 ak) := hce 8 (by decide)
            have e9 : wr.cell? ⟨hg, j * 12 + 9, none⟩ = some (.int .i64 av) := hce 9 (by decide)
            have e10 : wr.cell? ⟨hg, j * 12 + 10, none⟩ = some (.int .i64 an) := hce 10 (by decide)
            have e11 : wr.cell? ⟨hg, j * 12 + 11, none⟩ = some (.slice pa pn pcc) := hce 11 (by decide)
            have HWT := Lib.hid hwt
            have HTS := Lib.hid hts
            clear hce hwt hts
            have q0 : ¬ ((j : Int) < 0) := by omega
            have q1 : ¬ ((hn : Int) ≤ (j : Int)) := by omega
            have BQ := Lib.hid (HW.out.2.2.2.alloc HW.out.2.2.2.size (.cells #[.int .i64 et, .bool er, .int .i64 ek, .int .i64 eky, .int .i64 eh, .int .i64 ev, .int .i64 ee, .bool eo, .int .i64 ak, .int .i64 av, .int .i64 an, .slice pa pn pcc] 47))
            cases er with
            | false =>
              go_wp2_with fail
              go_roundw
              case rel =>
                refine ⟨j + 1, by omega, by go_num, f, q, rfl, rfl, by omega, Lib.hid ⟨?_, ?_, ?_, by exact BQ.out⟩⟩
                · rw [HWT.out, if_neg (by first | (simp [isWin]; done) | (simp [isWin]; omega)), List.append_nil]; exact HW.out.1
                · rw [HWT.out, if_neg (by first | (simp [isWin]; done) | (simp [isWin]; omega)), List.append_nil]; exact HW.out.2.1
                · intro x hx
                  rw [HTS.out] at hx
                  rcases List.mem_append.1 hx with hx | hx
                  · exact HW.out.2.2.1 x hx
                  · rw [List.mem_singleton] at hx
                    subst hx
                    rintro ⟨g1, g2⟩
                    cases g1
              case measure => simp [intOf]; omega
            | true =>
              by_cases hee : ee = 0
              · subst hee
                by_cases hek : ek = 2
                · subst hek
                  cases eo with
                  | true =>
                    go_wp2_with fail
                    go_roundw
                    case rel =>
                      refine ⟨j + 1, by omega, by go_num, f, q, rfl, rfl, by omega, Lib.hid ⟨?_, ?_, ?_, by exact BQ.out⟩⟩
                      · rw [HWT.out, if_neg (by first | (simp [isWin]; done) | (simp [isWin]; omega)), List.append_nil]; exact HW.out.1
                      · rw [HWT.out, if_neg (by first | (simp [isWin]; done) | (simp [isWin]; omega)), List.append_nil]; exact HW.out.2.1
                      · intro x hx
                        rw [HTS.out] at hx
                        rcases List.mem_append.1 hx with hx | hx
                        · exact HW.out.2.2.1 x hx
                        · rw [List.mem_singleton] at hx
                          subst hx
                          rintro ⟨g1, g2⟩
                          exact g2 rfl
                    case measure => simp [intOf]; omega
                  | false =>
                    go_wp2_with fail
                    go_roundw
                    case rel =>
                      refine ⟨j + 1, by omega, by go_num, et, q + 1, rfl, by go_num, by omega, Lib.hid ⟨?_, ?_, ?_, by clear HWT HTS HW; exact BQ.out⟩⟩
                      · rw [HWT.out, if_pos (by rfl), lastW_snoc]
                      · rw [HWT.out, if_pos (by rfl), List.length_append, HW.out.2.1]; rfl
                      · intro x hx
                        rw [HTS.out] at hx
                        rcases List.mem_append.1 hx with hx | hx
                        · exact HW.out.2.2.1 x hx
                        · rw [List.mem_singleton] at hx
                          subst hx
                          rintro ⟨g1, g2⟩
                          exact g2 rfl
                    case measure => simp [intOf]; omega
                · have p0 : (ek == 2) = false := beq_eq_false_iff_ne.2 hek
                  have p1 : (ek != 2) = true := by rw [bne, p0]; rfl
                  go_wp2_with fail
                  go_roundw
                  case rel =>
                    refine ⟨j + 1, by omega, by go_num, f, q, rfl, rfl, by omega, Lib.hid ⟨?_, ?_, ?_, by exact BQ.out⟩⟩
                    · rw [HWT.out, if_neg (by first | (simp [isWin]; done) | (simp [isWin]; omega)), List.append_nil]; exact HW.out.1
                    · rw [HWT.out, if_neg (by first | (simp [isWin]; done) | (simp [isWin]; omega)), List.append_nil]; exact HW.out.2.1
                    · intro x hx
                      rw [HTS.out] at hx
                      rcases List.mem_append.1 hx with hx | hx
                      · exact HW.out.2.2.1 x hx
                      · rw [List.mem_singleton] at hx
                        subst hx
                        rintro ⟨g1, g2⟩
                        exact g2 rfl
                  case measure => simp [intOf]; omega
              · have p0 : (ee == 0) = false := beq_eq_false_iff_ne.2 hee
                have p1 : (ee != 0) = true := by rw [bne, p0]; rfl
                go_wp2_with fail
                refine (awake_any _).mono ?_
                rintro e9 w9 ⟨rfl, b9⟩
                have B9 := Lib.hid b9
                clear b9 e0 e1 e2 e3 e4 e5 e6 e7 e8 e9 e10 e11
                go_wp2_with fail
                go_ret
                exact ⟨rfl, (B7.out.trans (BQ.out.mono B7.out.size)).trans (B9.out.mono (Nat.le_trans B7.out.size BQ.out.size))⟩
          · have hjn : j = hn := by omega
            subst hjn
            have htk : Y.h.take j = Y.h := List.take_of_length_le (Nat.le_of_eq HHN.out.symm)
            obtain ⟨f0, hf0, hl0, hw0, hg0⟩ := HEND.out.resolve_left (fun ⟨e, he, h1, h2⟩ => HW.out.2.2.1 e (by rw [htk]; exact he) ⟨h1, h2⟩)
            have hf1 : f = (f0 : Int) := by rw [HW.out.1, htk, hw0]; rfl
            have hq1 : q = 1 := by rw [HW.out.2.1, htk, hw0]; rfl
            subst hf1; subst hq1; subst hl0
            have HG0 := Lib.hid hg0
            have BW := Lib.hid HW.out.2.2.2
            clear hg0 hw0 htk HW hlt hj hq
            have x1 : wr.cell? ⟨w6.heap.size, 1, none⟩ = some (.slice had j hc) := cell_blk (i := 1) ((BW.out.block _ (lt_of_some R7.out)).trans R7.out) rfl
            go_wp2_with fail
            clear x1
            go_loopw [89] (fun i wq => ∃ jj : Nat, jj ≤ j ∧ i = .int .i64 jj ∧ Hid (Below w7.heap.size w7 wq)) (fun i _ => j - (intOf i).toNat)
            case atStart => exact ⟨0, Nat.zero_le _, rfl, BW⟩
            case round =>
              clear BW
              obtain ⟨jj, hjj, rfl, HW⟩ := hrel
              by_cases hlt : jj < j
              · have hlen : jj < Y.h.length := by rw [← HHN.out]; exact hlt
                obtain ⟨pa, pn, pcc, hc12⟩ := HSA.out jj hlen
                obtain ⟨hg, rfl⟩ : ∃ hg, had = some ⟨hg, 0, none⟩ := by
                  rcases HR7.out.2 with ⟨_, h2⟩ | ⟨hg, cap9, cur, h1, _⟩
                  · omega
                  · injection h1 with h1; exact ⟨hg, h1⟩
                have OR := ownsRow_later HR7.out HW.out
                have hce : ∀ t, t < 12 → wr.cell? ⟨hg, jj * 12 + t, none⟩ = (evL Y.h[jj] (.slice pa pn pcc))[t]? := fun t ht => by rw [OR.cellAt (jj * 12 + t) (by omega)]; exact hc12 t ht
                have hmem := List.getElem_mem hlen
                obtain ⟨e, he⟩ : ∃ e, e = Y.h[jj] := ⟨_, rfl⟩
                rw [← he] at hce hmem
                have HMEM := Lib.hid hmem
                clear he hc12 OR hmem
                obtain ⟨et, er, ⟨ek, eky, eh, ev⟩, ⟨ee, eo, ak, av, an, ps⟩⟩ := e
                have e0 : wr.cell? ⟨hg, jj * 12, none⟩ = some (.int .i64 et) := hce 0 (by decide)
                have e1 : wr.cell? ⟨hg, jj * 12 + 1, none⟩ = some (.bool er) := hce 1 (by decide)
                have e2 : wr.cell? ⟨hg, jj * 12 + 2, none⟩ = some (.int .i64 ek) := hce 2 (by decide)
                have e3 : wr.cell? ⟨hg, jj * 12 + 3, none⟩ = some (.int .i64 eky) := hce 3 (by decide)
                have e4 : wr.cell? ⟨hg, jj * 12 + 4, none⟩ = some (.int .i64 eh) := hce 4 (by decide)
                have e5 : wr.cell? ⟨hg, jj * 12 + 5, none⟩ = some (.int .i64 ev) := hce 5 (by decide)
                have e6 : wr.cell? ⟨hg, jj * 12 + 6, none⟩ = some (.int .i64 ee) := hce 6 (by decide)
                have e7 : wr.cell? ⟨hg, jj * 12 + 7, none⟩ = some (.bool eo) := hce 7 (by decide)
                have e8 : wr.cell? ⟨hg, jj * 12 + 8, none⟩ = some (.int .i64 ak) := hce 8 (by decide)
                have e9 : wr.cell? ⟨hg, jj * 12 + 9, none⟩ = some (.int .i64 av) := hce 9 (by decide)
                have e10 : wr.cell? ⟨hg, jj * 12 + 10, none⟩ = some (.int .i64 an) := hce 10 (by decide)
                have e11 : wr.cell? ⟨hg, jj * 12 + 11, none⟩ = some (.slice pa pn pcc) := hce 11 (by decide)
                clear hce
                have q0 : ¬ ((jj : Int) < 0) := by omega
                have q1 : ¬ ((j : Int) ≤ (jj : Int)) := by omega
                have BQ := Lib.hid (HW.out.alloc HW.out.size (.cells #[.int .i64 et, .bool er, .int .i64 ek, .int .i64 eky, .int .i64 eh, .int .i64 ev, .int .i64 ee, .bool eo, .int .i64 ak, .int .i64 av, .int .i64 an, .slice pa pn pcc] 47))
                cases er with
                | false =>
                  go_wp2_with fail
                  go_roundw
                  case rel => exact ⟨jj + 1, by omega, by go_num, Lib.hid (by exact BQ.out)⟩
                  case measure => simp [intOf]; omega
                | true =>
                  by_cases hek : ek = 4
                  · subst hek
                    have hans := HG0.out _ HMEM.out rfl rfl
                    have hans : (⟨ee, eo, ak, av, an, ps⟩ : AnsR) = ⟨0, true, key, (f0 : Int), 0, []⟩ := hans
                    injection hans with h1 h2 h3 h4 h5 h6
                    subst h1; subst h2; subst h3; subst h4; subst h5
                    go_wp2_with fail
                    go_roundw
                    case rel => exact ⟨jj + 1, by omega, by go_num, Lib.hid (by exact BQ.out)⟩
                    case measure => simp [intOf]; omega
                  · have p0 : (ek == 4) = false := beq_eq_false_iff_ne.2 hek
                    have p1 : (ek != 4) = true := by rw [bne, p0]; rfl
                    go_wp2_with fail
                    go_roundw
                    case rel => exact ⟨jj + 1, by omega, by go_num, Lib.hid (by exact BQ.out)⟩
                    case measure => simp [intOf]; omega
              · have hjn : jj = j := by omega
                subst hjn
                have RW := Lib.hid ((HW.out.block _ (lt_of_some R7.out)).trans R7.out)
                have x3 : wr.cell? ⟨w6.heap.size, 3, none⟩ = some (.int .i64 0) := cell_blk (i := 3) RW.out rfl
                have x4 : wr.cell? ⟨w6.heap.size, 4, none⟩ = some (.slice (some ⟨g, 0, none⟩) 1 cap) := cell_blk (i := 4) RW.out rfl
                have AL := Lib.hid (xtAll_one (LF7.out.later HW.out) (sorted1 _ _) (by simp) HST.out)
                go_wp2_with fail
                refine AL.out.mono ?_
                rintro e9 w9 ⟨ad9, c9, rfl, hp9, b9⟩
                obtain ⟨bb, off, rfl, hc9⟩ := hp9.at2 (k := 0) (by simp)
                have z1 := (hc9 0 (by simp)).1
                have z2 := (hc9 0 (by simp)).2
                have z1 : w9.cell? ⟨bb, off, none⟩ = some (.int .i64 key) := by simpa using z1
                have z2 : w9.cell? ⟨bb, off + 1, none⟩ = some (.int .i64 (f0 : Int)) := by simpa using z2
                have x0 : w9.cell? ⟨w6.heap.size, 0, none⟩ = some (.int .i64 0) := cell_blk (i := 0) ((b9.block _ (lt_of_some RW.out)).trans RW.out) rfl
                have B9 := Lib.hid (B7.out.trans ((HW.out.trans (b9.mono HW.out.size)).mono B7.out.size))
                clear x3 x4 AL hc9 hp9 b9
                go_wp2_with fail
                refine (awake_any _).mono ?_
                rintro e8 w8 ⟨rfl, b8⟩
                have B8 := Lib.hid (B9.out.trans (b8.mono B9.out.size))
                clear b8 z1 z2 x0
                go_wp2_with fail
                go_ret
                exact ⟨rfl, B8.out⟩
end Go.Proofs.YtghjnkfocjjlnaaGreat
