/- A script begins, is played. -/
/- A script is played, to its end. -/
import Derived.Test.YtghjnkfocjjlnaaGreatT00
import Derived.Test.YtghjnkfocjjlnaaGreatT30
import Derived.Laws.MakeOwn
set_option linter.unusedSimpArgs false
set_option linter.unusedVariables false
section
namespace Go.Proofs.YtghjnkfocjjlnaaGreat
set_option maxRecDepth 100000
open Go.RowKit Go.Proofs.YtghjnkfocjjlnaaGreatW.PrintWords Go.Proofs.YtghjnkfocjjlnaaGreatW.PrintLast
set_option linter.unusedVariables false
set_option linter.unusedSimpArgs false
/-- make of a slice as long as it may be: in a region that draws. -/
theorem step_make {ops : Array Oper} {oi : Oper} {N : Option Tmp} {a : Act} {K : Act → World → Prop} {Q : Exit → Act → World → Prop} {w : World} {TS T : TypeId} {z : Value} {size bytes : Nat} {n : Nat} (hw : Region.wanted oi (yielded ops a.tmps) = true) (hN : oi.dst = N) (l c : Operand)
    (ho : oi.op = .makeSlice TS l c) (hTS : Tryz.prog.underlying TS = some (.slice T)) (hinfo : (Tryz.prog.info? T).map (fun i => (i.zero, i.size, i.bytes)) = some (some z, size, bytes)) (hb : bytes ≤ 1000)
    (hl : a.eval l = .int .i64 n) (hc : a.eval c = .int .i64 n) (hn : n ≤ 1000000) (h : K (a.put N (.slice (some ⟨w.heap.size, 0, none⟩) n n)) (w.alloc (.cells (madeCells z.cells (n * size)) T))) :
    if Region.wanted oi (yielded ops a.tmps) = true then Oper.wp Tryz.prog oi a w K Q else K (a.put N undef) w := by
  obtain ⟨i0, hi, hz0, hz1, hz2⟩ := info_parts hinfo
  have hbn : (i0.bytes : Int) * (n : Int) ≤ 281474976710656 := by
    rw [hz2]
    have : bytes * n ≤ 1000 * 1000000 := Nat.mul_le_mul hb hn
    have h2 : ((bytes * n : Nat) : Int) ≤ 1000000000 := by omega
    rw [Int.natCast_mul] at h2
    omega
  have hr := run_make (P := Tryz.prog) w TS T i0 z hTS hi hz0 .i64 .i64 (n : Int) (n : Int) (by omega) (Int.le_refl _) hbn (by omega)
  simp only [Int.toNat_natCast, hz1] at hr
  refine value_ hw hN ?_ h
  unfold execOp
  rw [ho]
  simp [hl, hc, hr]
theorem info_op : (Tryz.prog.info? 32).map (fun i => (i.zero, i.size, i.bytes)) = some (some (.agg #[.int .i64 0, .int .i64 0, .int .i64 0, .int .i64 0]), 4, 32) := by kernel_rfl
theorem made_op {n j : Nat} (hj : j < n * 4) : (madeCells (Value.agg #[.int .i64 0, .int .i64 0, .int .i64 0, .int .i64 0]).cells (n * 4))[j]? = some (.int .i64 0) := by
  have hz : ∀ r, r < 4 → (#[Value.int .i64 0, .int .i64 0, .int .i64 0, .int .i64 0])[r]! = .int .i64 0 := by
    intro r hr
    have h4 : r = 0 ∨ r = 1 ∨ r = 2 ∨ r = 3 := by omega
    rcases h4 with rfl | rfl | rfl | rfl <;> rfl
  unfold madeCells
  rw [Array.getElem?_map, Array.getElem?_range, if_pos hj]
  exact congrArg some (hz _ (Nat.mod_lt _ (by decide)))
/-- The rows that a player begins with. -/
structure OpsIn (W w : World) (o2 : Nat → Option Po) (lb : Nat) (lcs : Array Value) (lcap n : Nat) (left : List (List OpR)) : Prop where
  olb : o2 lb = some .lf
  lblk : w.heap[lb]? = some (.cells lcs 33 (0, 0))
  lle : n ≤ lcap ∧ lcap ≤ maxLen
  llen : left.length = n
  left : ∀ t, t < n → ∃ v, lcs[t]? = some v ∧ LeftAt w o2 v (left.getD t [])
  free : ∀ b o, o2 b = some o → W.heap.size ≤ b ∧ b < w.heap.size
theorem OpsIn.later {W w w' : World} {o2 : Nat → Option Po} {lb : Nat} {lcs : Array Value} {lcap n : Nat} {left : List (List OpR)} (h : OpsIn W w o2 lb lcs lcap n left) (hz : w.heap.size ≤ w'.heap.size) (hb : ∀ b, b < w.heap.size → w'.heap[b]? = w.heap[b]?) : OpsIn W w' o2 lb lcs lcap n left :=
  ⟨h.olb, (hb _ (h.free _ _ h.olb).2).trans h.lblk, h.lle, h.llen, fun t ht => by obtain ⟨v, h1, h2⟩ := h.left t ht; exact ⟨v, h1, h2.keep (fun b ho => ⟨ho, hb b (h.free _ _ ho).2⟩)⟩, fun b o ho => ⟨(h.free b o ho).1, Nat.lt_of_lt_of_le (h.free b o ho).2 hz⟩⟩
/-- The player at the beginning. -/
def py0 (n : Nat) (cells : Int) (p : PolR) (left : List (List OpR)) : Py := ⟨newX n cells p, left, List.replicate n op0, []⟩
def BegP (W w : World) (o2 : Nat → Option Po) (n : Nat) (cells : Int) (p : PolR) (left : List (List OpR)) (e : Ending) (w' : World) : Prop :=
  ∃ P own q o2', e = .returned (.tuple #[pt_ q.pp, .int .i64 0]) ∧ P.pts.length = n ∧ PI W w' P own q o2' (py0 n cells p left) ∧ FN w w' own ∧ ∀ b, b < w.heap.size → o2' b = o2 b
/-- The player's block and its row, as they are made. -/
theorem PI.first {W w2 : World} {P : Pl} {own : Own} {o2 : Nat → Option Po} {lb : Nat} {lcs : Array Value} {lcap n : Nat} {left : List (List OpR)} {S : Ix} (is : IS W w2 P own S) (hl : OpsIn W w2 o2 lb lcs lcap n left) (hf : ∀ b o, o2 b = some o → own b = none) (hn : P.pts.length = n) (hm : n ≤ 1000) {w4 : World} (hb : Below w2.heap.size w2 w4)
    (ho : w4.heap[w2.heap.size]? = some (.cells (madeCells (Value.agg #[.int .i64 0, .int .i64 0, .int .i64 0, .int .i64 0]).cells (n * 4)) 32 (0, 0)))
    (hp : w4.heap[w2.heap.size + 1]? = some (.cells #[pt_ P.px, .slice (some ⟨lb, 0, none⟩) n lcap, .slice (some ⟨w2.heap.size, 0, none⟩) n n, .slice none 0 0] 57 (0, 0))) :
    PI W w4 P own ⟨w2.heap.size + 1, lb, w2.heap.size⟩ (fun b => if b = w2.heap.size then some .op else if b = w2.heap.size + 1 then some .pl else o2 b) ⟨S, left, List.replicate n op0, []⟩ := by
  have hlt : ∀ b o, o2 b = some o → b < w2.heap.size := fun b o h => (hl.free b o h).2
  have hk : ∀ b o, o2 b = some o → (if b = w2.heap.size then some Po.op else if b = w2.heap.size + 1 then some .pl else o2 b) = some o := fun b o h => by
    have := hlt b o h
    rw [if_neg (by omega), if_neg (by omega)]; exact h
  have hl4 := hl.later hb.size hb.block
  have hp4 := lt_of_some hp
  subst hn
  refine ⟨is.later hb, fun b o h => ?_, lcs, _, lcap, P.pts.length, .slice none 0 0, [], hp, ?_, hk _ _ hl.olb, ?_, hl4.lblk, ho, hl.lle, ⟨Nat.le_refl _, by unfold maxLen; omega⟩, hl.llen, by simp, fun t ht => ?_, fun t ht k hk4 => ?_, World.ownsRow_nil _ _ _ _, by simp [Value.ownBlock], .nil⟩
  · by_cases e1 : b = w2.heap.size
    · subst e1; exact ⟨is.none_new (Nat.le_refl _), is.below.size, by omega⟩
    · rw [if_neg e1] at h
      by_cases e2 : b = w2.heap.size + 1
      · subst e2; exact ⟨is.none_new (by omega), by have := is.below.size; omega, hp4⟩
      · rw [if_neg e2] at h
        exact ⟨hf b o h, (hl.free b o h).1, by have := hlt b o h; have := hb.size; omega⟩
  · show (if w2.heap.size + 1 = w2.heap.size then _ else if w2.heap.size + 1 = w2.heap.size + 1 then _ else _) = _
    rw [if_neg (by omega), if_pos rfl]
  · show (if w2.heap.size = w2.heap.size then _ else _) = _
    rw [if_pos rfl]
  · obtain ⟨v, h1, h2⟩ := hl4.left t ht
    exact ⟨v, h1, h2.keep (fun b hb => ⟨hk b _ hb, rfl⟩)⟩
  · rw [made_op (by omega)]
    show _ = (opL ((List.replicate P.pts.length op0).getD t op0))[k]?
    rw [show (List.replicate P.pts.length op0).getD t op0 = op0 by rw [List.getD_eq_getElem?_getD, List.getElem?_replicate]; split <;> rfl]
    have h4 : k = 0 ∨ k = 1 ∨ k = 2 ∨ k = 3 := by omega
    rcases h4 with rfl | rfl | rfl | rfl <;> rfl
set_option maxRecDepth 100000 in
set_option maxHeartbeats 4000000 in
theorem begin_any {W w : World} (hB : Below W.heap.size W w) {o2 : Nat → Option Po} {lb : Nat} {lcs : Array Value} {lcap n : Nat} {left : List (List OpR)} (hl : OpsIn W w o2 lb lcs lcap n left) (hn1 : 1 ≤ n) (hn6 : n ≤ 6) (cells : Int) (hc : 300 ≤ cells) (hc2 : cells ≤ 60000) (p : PolR) (he : ((newX0 cells p).cellOf 0).2.2.1 = 0) {pad : Option Addr} {pn pc : Nat} :
    Calls Tryz.prog 13 #[.agg #[.int .i64 (n : Int), .int .i64 cells, .int .i64 p.high, .int .i64 p.low, .int .i64 p.cont, .int .i64 p.uncont, .int .i64 p.multi, .slice none 0 0, .slice (some ⟨lb, 0, none⟩) n lcap, .slice pad pn pc]] w (BegP W w o2 n cells p left) := by
  have HL := Lib.hid hl
  have hB1 := Lib.hid (hB.alloc hB.size (.cells #[.int .i64 (n : Int), .int .i64 cells, .int .i64 p.high, .int .i64 p.low, .int .i64 p.cont, .int .i64 p.uncont, .int .i64 p.multi, .slice none 0 0, .slice (some ⟨lb, 0, none⟩) n lcap, .slice pad pn pc] 30))
  have A1 := Lib.hid (heap_alloc_new w (.cells #[.int .i64 (n : Int), .int .i64 cells, .int .i64 p.high, .int .i64 p.low, .int .i64 p.cont, .int .i64 p.uncont, .int .i64 p.multi, .slice none 0 0, .slice (some ⟨lb, 0, none⟩) n lcap, .slice pad pn pc] 30))
  have HE := Lib.hid he
  clear hl hB he
  have XN := Lib.hid (xnew_any hB1.out n hn1 hn6 cells hc hc2 p HE.out)
  go_enter Tryz.func13, Tryz.ntmps13
  go_wp2_with fail
  refine XN.out.mono ?_
  rintro e w2 ⟨P, own2, rfl, hpl, is2, fn2⟩
  have IS2 := Lib.hid is2
  have FN2 := Lib.hid fn2
  have HPL := Lib.hid hpl
  have hz := fn2.1
  have A2 := Lib.hid ((fn2.2 w.heap.size (by simp)).2.trans A1.out)
  clear is2 fn2 hpl XN
  go_wp2_with fail
  refine start_ (n := 10) (S := fun w' => w'.cell? ⟨w.heap.size, 8, none⟩ = some (.slice (some ⟨lb, 0, none⟩) n lcap) ∧ w'.cell? ⟨w.heap.size, 0, none⟩ = some (.int .i64 (n : Int))) (ds := []) (bz 10 0).toArray (by kernel_rfl) rfl rfl ⟨(drew_cell (cell_blk (i := 8) A2.out rfl)), (drew_cell (cell_blk (i := 0) A2.out rfl))⟩ (fun hHeld => ?_)
  refine pure_ (i := 0) (N := some 21) (v := ?_) (a' := ?_) (bz 10 1).toArray rfl rfl (by kernel_rfl) (fun _ _ _ h => h) (Or.inl ⟨by rfl, ?_⟩) ?_ ?_
  rotate_left
  · intro w'
    go_simp
    with_reducible rfl
  rotate_left
  · simp only [Act.put, sqA, sqZ, sqS, i64_w, i32_w]
    rfl
  refine pure_ (i := 1) (N := some 22) (v := ?_) (a' := ?_) (bz 10 3).toArray rfl rfl (by kernel_rfl) (fun _ _ _ h => h) (Or.inl ⟨by rfl, ?_⟩) ?_ ?_
  rotate_left
  · intro w'
    go_simp
    with_reducible rfl
  rotate_left
  · simp only [Act.put, sqA, sqZ, sqS, i64_w, i32_w]
    rfl
  refine pure_ (i := 3) (N := some 24) (v := ?_) (a' := ?_) (bz 10 11).toArray rfl rfl (by kernel_rfl) (fun _ _ _ h => h) (Or.inl ⟨by rfl, ?_⟩) ?_ ?_
  rotate_left
  · intro w'
    go_simp
    with_reducible rfl
  rotate_left
  · simp only [Act.put, sqA, sqZ, sqS, i64_w, i32_w]
    rfl
  refine take_ (i := 2) (N := some 23) (v := ?_) (a' := ?_) (bz 10 15).toArray rfl rfl (by kernel_rfl) (fun _ _ _ h => h) (Or.inl ⟨by rfl, ?_⟩) hHeld ?_ ?_
  rotate_left
  · rintro w' ⟨s0, s1⟩
    go_simp
    with_reducible rfl
  rotate_left
  · simp only [Act.put, sqA, sqZ, sqS, i64_w, i32_w]
    rfl
  refine take_ (i := 4) (N := some 25) (v := ?_) (a' := ?_) (bz 10 31).toArray rfl rfl (by kernel_rfl) (fun _ _ _ h => h) (Or.inl ⟨by rfl, ?_⟩) hHeld ?_ ?_
  rotate_left
  · rintro w' ⟨s0, s1⟩
    go_simp
    with_reducible rfl
  rotate_left
  · simp only [Act.put, sqA, sqZ, sqS, i64_w, i32_w]
    rfl
  refine one_ (i := 5) (N := some 26) (bz 10 63).toArray rfl rfl (by kernel_rfl) (by decide) (fun K hK => ?_)
  refine step_make (by rfl) rfl (.tmp 25) (.tmp 25) rfl Tryz.underlying33 info_op (by decide) rfl rfl (by omega) ?_
  refine hK.out _ _ ⟨(cell_blk (i := 8) ((((Below.refl _ _).alloc (Nat.le_refl _) _).block w.heap.size (lt_of_some A2.out)).trans A2.out) rfl), (cell_blk (i := 0) ((((Below.refl _ _).alloc (Nat.le_refl _) _).block w.heap.size (lt_of_some A2.out)).trans A2.out) rfl)⟩ ?_
  clear hHeld
  intro hHeld
  clear hK K
  refine norm_ (a' := ?_) ?_ ?_
  rotate_left
  · show Act.put _ (some 26) _ = _
    simp only [Act.put, sqA, sqZ, sqS, i64_w, i32_w]
    rfl
  refine pure_ (i := 6) (N := some 27) (v := ?_) (a' := ?_) (bz 10 127).toArray rfl rfl (by kernel_rfl) (fun _ _ _ h => h) (Or.inl ⟨by rfl, ?_⟩) ?_ ?_
  rotate_left
  · intro w'
    go_simp
    with_reducible rfl
  rotate_left
  · simp only [Act.put, sqA, sqZ, sqS, i64_w, i32_w]
    rfl
  refine one_ (i := 7) (N := some 28) (bz 10 255).toArray rfl rfl (by kernel_rfl) (by decide) (fun K hK => ?_)
  refine value_ (w1 := ?_) (v := ?_) (by rfl) rfl ?_ ?_
  rotate_left 2
  · go_simp
    constructor
    · rfl
    · rfl
  refine hK.out _ _ ⟨(cell_blk (i := 8) (((((Below.refl _ _).alloc (Nat.le_refl _) _).alloc (by simp) _).block w.heap.size (lt_of_some A2.out)).trans A2.out) rfl), (cell_blk (i := 0) (((((Below.refl _ _).alloc (Nat.le_refl _) _).alloc (by simp) _).block w.heap.size (lt_of_some A2.out)).trans A2.out) rfl)⟩ ?_
  clear hHeld
  intro hHeld
  clear hK K
  refine norm_ (a' := ?_) ?_ ?_
  rotate_left
  · show Act.put _ (some 28) _ = _
    simp only [Act.put, sqA, sqZ, sqS, i64_w, i32_w]
    rfl
  refine pure_ (i := 8) (N := some 2) (v := ?_) (a' := ?_) (bz 10 511).toArray rfl rfl (by kernel_rfl) (fun _ _ _ h => h) (Or.inl ⟨by rfl, ?_⟩) ?_ ?_
  rotate_left
  · intro w'
    go_simp
    with_reducible rfl
  rotate_left
  · simp only [Act.put, sqA, sqZ, sqS, i64_w, i32_w]
    rfl
  refine pure_ (i := 9) (N := some 3) (v := ?_) (a' := ?_) (bz 10 1023).toArray rfl rfl (by kernel_rfl) (fun _ _ _ h => h) (Or.inl ⟨by rfl, ?_⟩) ?_ ?_
  rotate_left
  · intro w'
    go_simp
    with_reducible rfl
  rotate_left
  · simp only [Act.put, sqA, sqZ, sqS, i64_w, i32_w]
    rfl
  refine done_ (by kernel_rfl) ?_
  go_wp2_with fail
  go_ret2
  have b1 : Below w.heap.size w (w.alloc (.cells #[.int .i64 (n : Int), .int .i64 cells, .int .i64 p.high, .int .i64 p.low, .int .i64 p.cont, .int .i64 p.uncont, .int .i64 p.multi, .slice none 0 0, .slice (some ⟨lb, 0, none⟩) n lcap, .slice pad pn pc] 30)) := (Below.refl _ _).alloc (Nat.le_refl _) _
  have hold : ∀ b, b < w.heap.size → own2 b = none ∧ w2.heap[b]? = w.heap[b]? := fun b hb => by have h1 := FN2.out.2 b (Nat.lt_of_lt_of_le hb b1.size); exact ⟨h1.1, h1.2.trans (b1.block b hb)⟩
  have hle : w.heap.size ≤ w2.heap.size := Nat.le_trans b1.size FN2.out.1
  have bw : Below w2.heap.size w2 (((w2.alloc (.cells (madeCells (Value.agg #[.int .i64 0, .int .i64 0, .int .i64 0, .int .i64 0]).cells (n * 4)) 32)).alloc (.cells #[pt_ P.px, .slice (some ⟨lb, 0, none⟩) n lcap, .slice (some ⟨w2.heap.size, 0, none⟩) n n, .slice none 0 0] 57)).drew) := ((((Below.refl w2.heap.size w2).alloc (Nat.le_refl _) _).alloc (by simp) _).drew)
  refine ⟨P, own2, ⟨w2.heap.size + 1, lb, w2.heap.size⟩, _, rfl, HPL.out, PI.first IS2.out (HL.out.later hle (fun b hb => (hold b hb).2)) (fun b o ho => (hold b (HL.out.free b o ho).2).1) HPL.out (by omega) bw ?_ ?_, ⟨Nat.le_trans hle bw.size, fun b hb => ⟨(hold b hb).1, (bw.block b (Nat.lt_of_lt_of_le hb hle)).trans (hold b hb).2⟩⟩, fun b hb => ?_⟩
  · exact (((Below.refl _ _).alloc (Nat.le_refl _) _).block w2.heap.size (by simp)).trans (heap_alloc_new w2 _)
  · have h := heap_alloc_new (w2.alloc (.cells (madeCells (Value.agg #[.int .i64 0, .int .i64 0, .int .i64 0, .int .i64 0]).cells (n * 4)) 32)) (.cells #[pt_ P.px, .slice (some ⟨lb, 0, none⟩) n lcap, .slice (some ⟨w2.heap.size, 0, none⟩) n n, .slice none 0 0] 57)
    rw [show (w2.alloc (.cells (madeCells (Value.agg #[.int .i64 0, .int .i64 0, .int .i64 0, .int .i64 0]).cells (n * 4)) 32)).heap.size = w2.heap.size + 1 from by simp] at h
    exact h
  · show (if b = w2.heap.size then _ else if b = w2.heap.size + 1 then _ else _) = _
    rw [if_neg (by omega), if_neg (by omega)]
end Go.Proofs.YtghjnkfocjjlnaaGreat
end
section
namespace Go.Proofs.YtghjnkfocjjlnaaGreat
set_option maxRecDepth 100000
open Go.RowKit Go.Proofs.YtghjnkfocjjlnaaGreatW.PrintWords Go.Proofs.YtghjnkfocjjlnaaGreatW.PrintLast
set_option linter.unusedVariables false
set_option linter.unusedSimpArgs false
theorem least_ex (R : Nat → Prop) (h : ∃ n, R n) : ∃ n, R n ∧ ∀ m, R m → n ≤ m := by
  obtain ⟨n, hn⟩ := h
  induction n using Nat.strongRecOn with
  | _ n ih =>
    by_cases h : ∃ m, m < n ∧ R m
    · obtain ⟨m, h1, h2⟩ := h; exact ih m h1 h2
    · exact ⟨n, hn, fun m hm => Nat.le_of_not_lt fun hl => h ⟨m, hl, hm⟩⟩
/-- The least number of which something holds. -/
noncomputable def lowest (R : Nat → Prop) : Nat := by
  classical
  exact if h : ∃ n, R n then (least_ex R h).choose else 0
theorem lowest_spec {R : Nat → Prop} (h : ∃ n, R n) : R (lowest R) := by
  unfold lowest
  rw [dif_pos h]
  exact (least_ex R h).choose_spec.1
theorem lowest_le {R : Nat → Prop} {n : Nat} (h : R n) : lowest R ≤ n := by
  unfold lowest
  rw [dif_pos ⟨n, h⟩]
  exact (least_ex R ⟨n, h⟩).choose_spec.2 n h
/-- How a script goes: JP k: what holds behind k picks; J t: what holds when threads below t are through, and t goes on alone; mu: how far it still is. -/
structure Plan (n : Nat) (pks : List Nat) (Y0 : Py) (JP J : Nat → Py → Prop) (mu : Nat → Py → Nat) : Prop where
  start : JP 0 Y0
  pick : ∀ k Y, k < pks.length → JP k Y → PickOK Y (pks.getD k 0) ∧ JP (k + 1) (Y.pick (pks.getD k 0))
  turn : ∀ Y, JP pks.length Y → J 0 Y
  alone : ∀ t, t < n → ∀ Y, J t Y → PickOK Y t ∧ (Y.any t = true → J t (Y.pick t) ∧ mu t (Y.pick t) < mu t Y) ∧ (Y.any t = false → J (t + 1) Y)
  lt : ∀ t ∈ pks, t < n
  order : ∀ Y, J n Y → Y.S.order.length ≤ 1000000
def natsV (l : List Nat) : List Value := l.map (fun t : Nat => Value.int .i64 (t : Int))
/-- Blocks of nobody, and rows that are only read, stay; the index was not yet there. -/
def FNP (w : World) (o2 : Nat → Option Po) (w' : World) (own' : Own) (o2' : Nat → Option Po) : Prop :=
  w.heap.size ≤ w'.heap.size ∧ ∀ b, b < w.heap.size → o2 b = none ∨ o2 b = some .ro → own' b = none ∧ o2' b = o2 b ∧ w'.heap[b]? = w.heap[b]?
theorem FNP.trans {w1 w2 w3 : World} {b1 b2 b3 : Nat → Option Po} {a2 a3 : Own} (h : FNP w1 b1 w2 a2 b2) (k : FP w2 a2 b2 w3 a3 b3) : FNP w1 b1 w3 a3 b3 :=
  ⟨Nat.le_trans h.1 k.1, fun b hb h2 => by
    obtain ⟨x1, x2, x3⟩ := h.2 b hb h2
    obtain ⟨y1, y2, y3⟩ := k.2 b (Nat.lt_of_lt_of_le hb h.1) x1 (by rw [x2]; exact h2)
    exact ⟨y1, y2.trans x2, y3.trans x3⟩⟩
def PlayP (W w : World) (o2 : Nat → Option Po) (n m : Nat) (JP : Nat → Py → Prop) (e : Ending) (w' : World) : Prop :=
  ∃ P own q o2' Y, e = .returned (.tuple #[pt_ q.pp, .int .i64 0]) ∧ P.pts.length = n ∧ PI W w' P own q o2' Y ∧ JP m Y ∧ FNP w o2 w' own o2'
set_option maxRecDepth 100000 in
set_option maxHeartbeats 4000000 in
theorem play_any {W w : World} (hB : Below W.heap.size W w) {o2 : Nat → Option Po} {lb : Nat} {lcs : Array Value} {lcap n : Nat} {left : List (List OpR)} (hl : OpsIn W w o2 lb lcs lcap n left) (hn1 : 1 ≤ n) (hn6 : n ≤ 6) (cells : Int) (hc : 300 ≤ cells) (hc2 : cells ≤ 60000) (p : PolR) (he : ((newX0 cells p).cellOf 0).2.2.1 = 0)
    {pad : Option Addr} {m pc : Nat} {pks : List Nat} (hr : w.ownsRow 0 3 1 (.slice pad m pc) m (natsV pks)) (hro : ∀ b, (Value.slice pad m pc).ownBlock = some b → o2 b = some .ro) (hm : m = pks.length) (hm2 : m ≤ 100000) {JP J : Nat → Py → Prop} {mu : Nat → Py → Nat} (hplan : Plan n pks (py0 n cells p left) JP J mu) :
    Calls Tryz.prog 8 #[.agg #[.int .i64 (n : Int), .int .i64 cells, .int .i64 p.high, .int .i64 p.low, .int .i64 p.cont, .int .i64 p.uncont, .int .i64 p.multi, .slice none 0 0, .slice (some ⟨lb, 0, none⟩) n lcap, .slice pad m pc]] w (PlayP W w o2 n m JP) := by
  have HPL := Lib.hid hplan
  have HR := Lib.hid hr
  have HRO := Lib.hid hro
  have HM := Lib.hid hm
  clear hplan hr hro hm
  have b1 : Below w.heap.size w (w.alloc (.cells #[.int .i64 (n : Int), .int .i64 cells, .int .i64 p.high, .int .i64 p.low, .int .i64 p.cont, .int .i64 p.uncont, .int .i64 p.multi, .slice none 0 0, .slice (some ⟨lb, 0, none⟩) n lcap, .slice pad m pc] 30)) := (Below.refl _ _).alloc (Nat.le_refl _) _
  have B1 := Lib.hid b1
  have A1 := Lib.hid (heap_alloc_new w (.cells #[.int .i64 (n : Int), .int .i64 cells, .int .i64 p.high, .int .i64 p.low, .int .i64 p.cont, .int .i64 p.uncont, .int .i64 p.multi, .slice none 0 0, .slice (some ⟨lb, 0, none⟩) n lcap, .slice pad m pc] 30))
  have BA := Lib.hid (begin_any (hB.alloc hB.size (.cells #[.int .i64 (n : Int), .int .i64 cells, .int .i64 p.high, .int .i64 p.low, .int .i64 p.cont, .int .i64 p.uncont, .int .i64 p.multi, .slice none 0 0, .slice (some ⟨lb, 0, none⟩) n lcap, .slice pad m pc] 30)) (hl.later b1.size b1.block) hn1 hn6 cells hc hc2 p he (pad := pad) (pn := m) (pc := pc))
  have HL := Lib.hid hl
  clear hl hB he b1
  go_enter Tryz.func8, Tryz.ntmps8
  go_wp2_with fail
  refine BA.out.mono ?_
  rintro e w2 ⟨P, own2, q, o22, rfl, hpl, pi2, fn2, ho2⟩
  have A2 := Lib.hid ((fn2.2 w.heap.size (by simp)).2.trans A1.out)
  have c9 : w2.cell? ⟨w.heap.size, 9, none⟩ = some (.slice pad m pc) := cell_blk (i := 9) A2.out rfl
  have F2 := Lib.hid (show FNP w o2 w2 own2 o22 from ⟨Nat.le_trans B1.out.size fn2.1, fun b hb _ => ⟨(fn2.2 b (Nat.lt_of_lt_of_le hb B1.out.size)).1, ho2 b (Nat.lt_of_lt_of_le hb B1.out.size), (fn2.2 b (Nat.lt_of_lt_of_le hb B1.out.size)).2.trans (B1.out.block b hb)⟩⟩)
  have PI2 := Lib.hid pi2
  have HN := Lib.hid hpl
  clear pi2 hpl fn2 ho2 BA
  go_wp2_with fail
  clear c9
  go_loopw [19] (fun i wr => ∃ k : Nat, k ≤ m ∧ i = .int .i64 k ∧ Hid (∃ own o2' Y, PI W wr P own q o2' Y ∧ JP k Y ∧ FNP w o2 wr own o2')) (fun i _ => m - (intOf i).toNat)
  case atStart => exact ⟨0, Nat.zero_le _, rfl, Lib.hid ⟨own2, o22, _, PI2.out, HPL.out.start, F2.out⟩⟩
  case round =>
    obtain ⟨k, hk, rfl, HK⟩ := hrel
    by_cases hlt : k < m
    · obtain ⟨ownk, o2k, Yk, pik, jk, fk⟩ := HK.out
      obtain ⟨t, ht⟩ : ∃ t, t = pks.getD k 0 := ⟨_, rfl⟩
      obtain ⟨ok, jk1⟩ := HPL.out.pick k Yk (by rw [← HM.out]; exact hlt) jk
      rw [← ht] at ok jk1
      have hkp : pks[k]? = some t := by rw [ht, List.getD_eq_getElem?_getD, List.getElem?_eq_getElem (by rw [← HM.out]; exact hlt)]; rfl
      have htn : t < n := HPL.out.lt t (List.mem_of_getElem? hkp)
      obtain ⟨pt, hpt⟩ : ∃ pt, P.pts[t]? = some pt := ⟨_, List.getElem?_eq_getElem (by rw [HN.out]; exact htn)⟩
      obtain ⟨gp, hpad, hcell⟩ : ∃ gp, pad = some ⟨gp, 0, none⟩ ∧ wr.cell? ⟨gp, k, none⟩ = some (.int .i64 (t : Int)) := by
        rcases HR.out.2 with ⟨h1, h2⟩ | ⟨g, cap, cur, h1, h2⟩
        · omega
        · injection h1 with h1 _ _
          refine ⟨g, h1, ?_⟩
          subst h1
          have h3 := (fk.2 g (HR.out.lt g rfl).2 (.inr (HRO.out g rfl))).2.2
          have h4 : w.cell? ⟨g, k, none⟩ = some (.int .i64 (t : Int)) := by rw [HR.out.cellAt k (by omega)]; simp [natsV, hkp]
          unfold World.cell? at h4 ⊢
          rw [h3]; exact h4
      subst hpad
      have OK := Lib.hid ok
      have PIK := Lib.hid pik
      have FK1 := Lib.hid fk
      have JK1 := Lib.hid jk1
      have HPT := Lib.hid hpt
      have q0 : ¬ ((k : Int) < 0) := by omega
      have q1 : ¬ ((m : Int) ≤ (k : Int)) := by omega
      clear ok pik fk jk1 hpt HK jk hkp ht
      go_wp2_with fail
      refine (pick_any PIK.out HPT.out OK.out).mono ?_
      rintro e w3 ⟨rfl, own3, o23, pi3, fp3⟩
      have PI3 := Lib.hid pi3
      have F3 := Lib.hid (FK1.out.trans fp3)
      clear pi3 fp3 hcell
      go_wp2_with fail
      go_roundw
      case rel => exact ⟨k + 1, by omega, by go_num, Lib.hid ⟨own3, o23, _, PI3.out, JK1.out, F3.out⟩⟩
      case measure => simp [intOf]; omega
    · have hkm : k = m := by omega
      subst hkm
      go_wp2_with fail
      go_ret2
      obtain ⟨ownk, o2k, Yk, pik, jk, fk⟩ := HK.out
      exact ⟨P, ownk, q, o2k, Yk, rfl, HN.out, pik, jk, fk⟩
/-- What a script is, made clean. -/
def CleanP (n : Nat) (cells : Int) (p : PolR) (left : List (List OpR)) (pks : List Nat) (w : World) (e : Ending) (w' : World) : Prop :=
  ∃ lb lcs lcap pad m pc o2, e = .returned (.agg #[.int .i64 (n : Int), .int .i64 cells, .int .i64 p.high, .int .i64 p.low, .int .i64 p.cont, .int .i64 p.uncont, .int .i64 p.multi, .slice none 0 0, .slice (some ⟨lb, 0, none⟩) n lcap, .slice pad m pc]) ∧ OpsIn w w' o2 lb lcs lcap n left ∧ w'.ownsRow 0 3 1 (.slice pad m pc) m (natsV pks) ∧ (∀ b, (Value.slice pad m pc).ownBlock = some b → o2 b = some .ro) ∧ m = pks.length ∧ Below w.heap.size w w'
/-- A thread that goes on alone, and how far it still is at most. -/
def RunN (W : World) (P : Pl) (q : Pq) (J : Nat → Py → Prop) (mu : Nat → Py → Nat) (t k : Nat) (w : World) : Prop := ∃ own o2 Y, PI W w P own q o2 Y ∧ J t Y ∧ mu t Y ≤ k
/-- What a whole script leaves. -/
def WholeP (w : World) (n : Nat) (J : Nat → Py → Prop) (F : Py → Ix) (TQ : Py → World → Nat → Nat → Nat → (Nat → Prop) → Prop) (e : Ending) (w' : World) : Prop :=
  ∃ Y had hn hc hs tad no tc g nn cap TB o2, e = .returned (.agg #[.int .i64 0, .slice had hn hc, .slice tad no tc, .int .i64 0, .slice (some ⟨g, 0, none⟩) nn cap, .int .i64 (pendN (F Y) n : Nat), .int .i64 (F Y).steps, .int .i64 (usedO (some (F Y).a)), .int .i64 (F Y).splits, .int .i64 (F Y).joins]) ∧ J n Y ∧
    hn = Y.h.length ∧ no = (F Y).order.length ∧ Below w.heap.size w w' ∧ w'.ownsRow 0 47 12 (.slice had hn hc) hn hs ∧ EvsAt w' o2 Y.h hs ∧ w'.ownsRow 0 3 1 (.slice tad no tc) no (intsV (F Y).order) ∧ TQ Y w' g nn cap TB ∧ ∀ b, TB b → w.heap.size ≤ b ∧ b < w'.heap.size
set_option maxRecDepth 100000 in
set_option maxHeartbeats 4000000 in
theorem whole_any {w : World} {n : Nat} (hn1 : 1 ≤ n) (hn6 : n ≤ 6) (cells : Int) (hc : 300 ≤ cells) (hc2 : cells ≤ 60000) (p : PolR) (he : ((newX0 cells p).cellOf 0).2.2.1 = 0) {left : List (List OpR)} {pks : List Nat} (hlen : pks.length ≤ 100000) {th ce g0 g1 g2 g3 g4 : Int} {bad oad xad : Option Addr} {bn bc on oc xn xc : Nat}
    (hclean : ∀ w', Below w.heap.size w w' → Calls Tryz.prog 9 #[.agg #[.int .i64 th, .int .i64 ce, .int .i64 g0, .int .i64 g1, .int .i64 g2, .int .i64 g3, .int .i64 g4, .slice bad bn bc, .slice oad on oc, .slice xad xn xc]] w' (CleanP n cells p left pks w')) {JP J : Nat → Py → Prop} {mu : Nat → Py → Nat} (hplan : Plan n pks (py0 n cells p left) JP J mu)
    {F : Py → Ix} {TQ : Py → World → Nat → Nat → Nat → (Nat → Prop) → Prop} (hT : ∀ W P Y, J n Y → TreeC W P Y.S (F Y) (TQ Y)) :
    Calls Tryz.prog 5 #[.agg #[.int .i64 th, .int .i64 ce, .int .i64 g0, .int .i64 g1, .int .i64 g2, .int .i64 g3, .int .i64 g4, .slice bad bn bc, .slice oad on oc, .slice xad xn xc]] w (WholeP w n J F TQ) := by
  have HPL := Lib.hid hplan
  have HT := Lib.hid hT
  clear hplan hT
  have b2 : Below w.heap.size w ((w.alloc (.cells #[.int .i64 th, .int .i64 ce, .int .i64 g0, .int .i64 g1, .int .i64 g2, .int .i64 g3, .int .i64 g4, .slice bad bn bc, .slice oad on oc, .slice xad xn xc] 30)).alloc (.cells #[.int .i64 0, .slice none 0 0, .slice none 0 0, .int .i64 0, .slice none 0 0, .int .i64 0, .int .i64 0, .int .i64 0, .int .i64 0, .int .i64 0] 40)) := ((Below.refl _ _).alloc (Nat.le_refl _) _).alloc (by simp) _
  have hz2 : w.heap.size + 1 < ((w.alloc (.cells #[.int .i64 th, .int .i64 ce, .int .i64 g0, .int .i64 g1, .int .i64 g2, .int .i64 g3, .int .i64 g4, .slice bad bn bc, .slice oad on oc, .slice xad xn xc] 30)).alloc (.cells #[.int .i64 0, .slice none 0 0, .slice none 0 0, .int .i64 0, .slice none 0 0, .int .i64 0, .int .i64 0, .int .i64 0, .int .i64 0, .int .i64 0] 40)).heap.size := by simp
  have CL := Lib.hid (hclean _ b2)
  have B2 := Lib.hid b2
  have A2 := Lib.hid (show ((w.alloc (.cells #[.int .i64 th, .int .i64 ce, .int .i64 g0, .int .i64 g1, .int .i64 g2, .int .i64 g3, .int .i64 g4, .slice bad bn bc, .slice oad on oc, .slice xad xn xc] 30)).alloc (.cells #[.int .i64 0, .slice none 0 0, .slice none 0 0, .int .i64 0, .slice none 0 0, .int .i64 0, .int .i64 0, .int .i64 0, .int .i64 0, .int .i64 0] 40)).heap[w.heap.size + 1]? = some (.cells #[.int .i64 0, .slice none 0 0, .slice none 0 0, .int .i64 0, .slice none 0 0, .int .i64 0, .int .i64 0, .int .i64 0, .int .i64 0, .int .i64 0] 40 (0, 0)) from by have h := heap_alloc_new (w.alloc (.cells #[.int .i64 th, .int .i64 ce, .int .i64 g0, .int .i64 g1, .int .i64 g2, .int .i64 g3, .int .i64 g4, .slice bad bn bc, .slice oad on oc, .slice xad xn xc] 30)) (.cells #[.int .i64 0, .slice none 0 0, .slice none 0 0, .int .i64 0, .slice none 0 0, .int .i64 0, .int .i64 0, .int .i64 0, .int .i64 0, .int .i64 0] 40); rw [show (w.alloc (.cells #[.int .i64 th, .int .i64 ce, .int .i64 g0, .int .i64 g1, .int .i64 g2, .int .i64 g3, .int .i64 g4, .slice bad bn bc, .slice oad on oc, .slice xad xn xc] 30)).heap.size = w.heap.size + 1 from by simp] at h; exact h)
  clear b2 hclean
  go_enter Tryz.func5, Tryz.ntmps5
  go_wp2_with fail
  generalize ((w.alloc (.cells #[.int .i64 th, .int .i64 ce, .int .i64 g0, .int .i64 g1, .int .i64 g2, .int .i64 g3, .int .i64 g4, .slice bad bn bc, .slice oad on oc, .slice xad xn xc] 30)).alloc (.cells #[.int .i64 0, .slice none 0 0, .slice none 0 0, .int .i64 0, .slice none 0 0, .int .i64 0, .int .i64 0, .int .i64 0, .int .i64 0, .int .i64 0] 40)) = W at CL B2 A2 hz2 ⊢
  refine CL.out.mono ?_
  rintro e w3 ⟨lb, lcs, lcap, pad, m, pc, o2, rfl, hl, hr, hro, hm, b3⟩
  have PA := Lib.hid (play_any b3 hl hn1 hn6 cells hc hc2 p he hr hro hm (by rw [hm]; exact hlen) HPL.out)
  have HMM := Lib.hid hm
  clear hl hr hro hm b3 CL
  go_wp2_with fail
  refine PA.out.mono ?_
  rintro e w4 ⟨P, own4, q, o24, Y4, rfl, hpl, pi4, jm4, f4⟩
  have HN := Lib.hid hpl
  have HR4 := Lib.hid (show ∃ own o2 Y, PI W w4 P own q o2 Y ∧ J 0 Y from ⟨own4, o24, Y4, pi4, HPL.out.turn _ (by rw [← HMM.out]; exact jm4)⟩)
  obtain ⟨lcs4, ocs4, lcap4, ocap4, hv4, hs4, py4⟩ := pi4.at_
  have cp2 : w4.cell? ⟨q.pp, 2, none⟩ = some (.slice (some ⟨q.ob, 0, none⟩) n ocap4) := by rw [← hpl]; exact cell_blk (i := 2) py4.blk rfl
  clear py4 pi4 jm4 f4 hpl PA
  go_wp2_with fail
  clear cp2
  go_loopw [21] (fun i wr => ∃ t : Nat, t ≤ n ∧ i = .int .i64 t ∧ Hid (∃ own o2 Y, PI W wr P own q o2 Y ∧ J t Y)) (fun i _ => n - (intOf i).toNat)
  case atStart => exact ⟨0, Nat.zero_le _, rfl, HR4⟩
  case round =>
    obtain ⟨t, ht, rfl, HK⟩ := hrel
    by_cases hlt : t < n
    · obtain ⟨pt, hpt⟩ : ∃ pt, P.pts[t]? = some pt := ⟨_, List.getElem?_eq_getElem (by rw [HN.out]; exact hlt)⟩
      have HPT := Lib.hid hpt
      clear hpt
      have HS := Lib.hid (show ∃ k, RunN W P q J mu t k wr from by obtain ⟨own, o2, Y, h1, h2⟩ := HK.out; exact ⟨_, own, o2, Y, h1, h2, Nat.le_refl _⟩)
      go_wp2_with fail
      go_loopw [] (fun wr2 => Hid (∃ k, RunN W P q J mu t k wr2)) (fun wr2 => lowest (fun k => RunN W P q J mu t k wr2))
      case atStart => exact HS
      case round =>
        obtain ⟨ownk, o2k, Yk, pik, jk, muk⟩ := lowest_spec hrel.out
        have al := Lib.hid (HPL.out.alone t hlt Yk jk)
        have PIK := Lib.hid pik
        have MUK := Lib.hid muk
        clear pik jk muk
        go_wp2_with fail
        refine (pick_any PIK.out HPT.out al.out.1).mono ?_
        rintro e w5 ⟨rfl, own5, o25, pi5, fp5⟩
        have PI5 := Lib.hid pi5
        clear pi5 fp5
        cases ha : Yk.any t with
        | true =>
          have al2 := Lib.hid (al.out.2.1 ha)
          go_wp2_with fail
          go_roundw
          case rel => exact Lib.hid ⟨_, own5, o25, _, PI5.out, al2.out.1, Nat.le_refl _⟩
          case measure =>
            have h1 : RunN W P q J mu t (mu t (Yk.pick t)) w5 := ⟨own5, o25, _, PI5.out, al2.out.1, Nat.le_refl _⟩
            exact Nat.lt_of_le_of_lt (lowest_le (R := fun k => RunN W P q J mu t k w5) h1) (Nat.lt_of_lt_of_le al2.out.2 MUK.out)
        | false =>
          have hpk : Yk.pick t = Yk := by unfold Py.pick; rw [if_neg (by rw [ha]; decide)]
          have HPK := Lib.hid hpk
          have al3 := Lib.hid (al.out.2.2 ha)
          clear hpk
          go_wp2_with fail
          go_roundw
          case rel => exact ⟨t + 1, by omega, by go_num, Lib.hid ⟨own5, o25, Yk, by rw [← HPK.out]; exact PI5.out, al3.out⟩⟩
          case measure => simp [intOf]; omega
    · have htn : t = n := by omega
      subst htn
      obtain ⟨ownk, o2k, Yk, pik, jk⟩ := HK.out
      have JK := Lib.hid jk
      have hsz : W.heap.size ≤ wr.heap.size := pik.is.below.size
      have RA := Lib.hid (report_any pik (HT.out W P Yk jk) (HPL.out.order Yk jk) (by rw [HN.out]; omega))
      clear pik jk HK
      go_wp2_with fail
      refine RA.out.mono ?_
      rintro e w6 ⟨own6, lcs6, ocs6, lcap6, ocap6, had, hn, hc, hs, tad, no, tc, g, nn, cap, TB, rfl, hhn, hno, pi6, py6, fp6, ht6, hfr6, htq, htb⟩
      obtain ⟨pd, hpd⟩ : ∃ pd, pd = pendN (F Yk) P.pts.length := ⟨_, rfl⟩
      rw [show ({ Yk with S := F Yk } : Py).S = F Yk from rfl, ← hpd]
      have HPD := Lib.hid hpd
      clear hpd
      have A6 := Lib.hid ((pi6.is.below.block (w.heap.size + 1) hz2).trans A2.out)
      have HFR6 := Lib.hid hfr6
      have HHN := Lib.hid hhn
      have HNO := Lib.hid hno
      have PI6 := Lib.hid pi6
      have PY6 := Lib.hid py6
      have HT6 := Lib.hid ht6
      have HTQ := Lib.hid htq
      have HTB := Lib.hid htb
      clear hhn hno pi6 py6 fp6 ht6 hfr6 htq htb RA
      have cy0 := cell_blk (i := 0) A6.out rfl
      have cy1 := cell_blk (i := 1) A6.out rfl
      have cy2 := cell_blk (i := 2) A6.out rfl
      have cy3 := cell_blk (i := 3) A6.out rfl
      have cy4 := cell_blk (i := 4) A6.out rfl
      have cy5 := cell_blk (i := 5) A6.out rfl
      have cy6 := cell_blk (i := 6) A6.out rfl
      have cy7 := cell_blk (i := 7) A6.out rfl
      have cy8 := cell_blk (i := 8) A6.out rfl
      have cy9 := cell_blk (i := 9) A6.out rfl
      have fy0 := free_blk (i := 0) A6.out
      have fy1 := free_blk (i := 1) A6.out
      have fy2 := free_blk (i := 2) A6.out
      have fy3 := free_blk (i := 3) A6.out
      have fy4 := free_blk (i := 4) A6.out
      have fy5 := free_blk (i := 5) A6.out
      have fy6 := free_blk (i := 6) A6.out
      have fy7 := free_blk (i := 7) A6.out
      have fy8 := free_blk (i := 8) A6.out
      have fy9 := free_blk (i := 9) A6.out
      have ly := lt_of_some A6.out
      go_wp2_with fail
      refine bodyPost_ret (v := .agg #[.int .i64 0, .slice had hn hc, .slice tad no tc, .int .i64 0, .slice (some ⟨g, 0, none⟩) nn cap, .int .i64 ((pd : Nat) : Int), .int .i64 (F Yk).steps, .int .i64 (usedO (some (F Yk).a)), .int .i64 (F Yk).splits, .int .i64 (F Yk).joins]) (by simp [results, Tryz.results5, go_sem, ly, cy0, fy0, cy1, fy1, cy2, fy2, cy3, fy3, cy4, fy4, cy5, fy5, cy6, fy6, cy7, fy7, cy8, fy8, cy9, fy9]) rfl ?_
      have hnW : ∀ b, W.heap.size ≤ b → b ≠ w.heap.size + 1 := fun b hb => by omega
      have B6 := B2.out.trans (PI6.out.is.below.mono B2.out.size)
      refine ⟨Yk, had, hn, hc, hs, tad, no, tc, g, nn, cap, TB, o2k, by rw [HPD.out, HN.out], JK.out, HHN.out, HNO.out, ?_, ?_, ?_, ?_, ?_, fun b hB => ?_⟩
      · exact set10_below B6 (by omega) (.int .i64 0) (.slice had hn hc) (.slice tad no tc) (.int .i64 0) (.slice (some ⟨g, 0, none⟩) nn cap) (.int .i64 ((pd : Nat) : Int)) (.int .i64 (F Yk).steps) (.int .i64 (usedO (some (F Yk).a))) (.int .i64 (F Yk).splits) (.int .i64 (F Yk).joins)
      · have h1 := PY6.out.hrow
        rw [show ({ Yk with S := F Yk } : Py).h.length = hn from HHN.out.symm] at h1
        exact ownsRow_same h1 (fun b hb => set10_other (.int .i64 0) (.slice had hn hc) (.slice tad no tc) (.int .i64 0) (.slice (some ⟨g, 0, none⟩) nn cap) (.int .i64 ((pd : Nat) : Int)) (.int .i64 (F Yk).steps) (.int .i64 (usedO (some (F Yk).a))) (.int .i64 (F Yk).splits) (.int .i64 (F Yk).joins) (hnW b (PI6.out.free b _ (PY6.out.hown b hb)).2.1))
      · exact PY6.out.evs.keep (fun b ho => ⟨ho, set10_other (.int .i64 0) (.slice had hn hc) (.slice tad no tc) (.int .i64 0) (.slice (some ⟨g, 0, none⟩) nn cap) (.int .i64 ((pd : Nat) : Int)) (.int .i64 (F Yk).steps) (.int .i64 (usedO (some (F Yk).a))) (.int .i64 (F Yk).splits) (.int .i64 (F Yk).joins) (hnW b (PI6.out.free b _ ho).2.1)⟩)
      · exact ownsRow_same HT6.out (fun b hb => set10_other (.int .i64 0) (.slice had hn hc) (.slice tad no tc) (.int .i64 0) (.slice (some ⟨g, 0, none⟩) nn cap) (.int .i64 ((pd : Nat) : Int)) (.int .i64 (F Yk).steps) (.int .i64 (usedO (some (F Yk).a))) (.int .i64 (F Yk).splits) (.int .i64 (F Yk).joins) (hnW b (Nat.le_trans hsz (HFR6.out b hb))))
      · exact (HT.out W P Yk JK.out).same _ _ _ _ _ _ HTQ.out (fun b hB => set10_other (.int .i64 0) (.slice had hn hc) (.slice tad no tc) (.int .i64 0) (.slice (some ⟨g, 0, none⟩) nn cap) (.int .i64 ((pd : Nat) : Int)) (.int .i64 (F Yk).steps) (.int .i64 (usedO (some (F Yk).a))) (.int .i64 (F Yk).splits) (.int .i64 (F Yk).joins) (hnW b (Nat.le_trans hsz (HTB.out b hB).1)))
      · have h1 := HTB.out b hB
        exact ⟨by have := B2.out.size; omega, Nat.lt_of_lt_of_eq h1.2 (set10_size w6 (w.heap.size + 1) (.int .i64 0) (.slice had hn hc) (.slice tad no tc) (.int .i64 0) (.slice (some ⟨g, 0, none⟩) nn cap) (.int .i64 ((pd : Nat) : Int)) (.int .i64 (F Yk).steps) (.int .i64 (usedO (some (F Yk).a))) (.int .i64 (F Yk).splits) (.int .i64 (F Yk).joins)).symm⟩
end Go.Proofs.YtghjnkfocjjlnaaGreat
end
