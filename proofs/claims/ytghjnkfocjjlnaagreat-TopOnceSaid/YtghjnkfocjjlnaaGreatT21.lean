/- Threads of the index; calls and steps. -/
/- Whole slices of pairs appended to a row of the call's own. -/
import Derived.Test.YtghjnkfocjjlnaaGreatT00
import Derived.Test.YtghjnkfocjjlnaaGreatT20
import Derived.Test.YtghjnkfocjjlnaaGreatT08
import Derived.Laws.AppendOwnNone
set_option linter.unusedSimpArgs false
set_option linter.unusedVariables false
section
namespace Go.Proofs.YtghjnkfocjjlnaaGreat
set_option maxRecDepth 100000
open Go.RowKit Go.Proofs.YtghjnkfocjjlnaaGreatW.PrintWords Go.Proofs.YtghjnkfocjjlnaaGreatW.PrintLast
set_option linter.unusedVariables false
set_option linter.unusedSimpArgs false
set_option maxRecDepth 100000 in
set_option maxHeartbeats 4000000 in
theorem xthread_any {W w : World} {P : Pl} {own : Own} {S : Ix} (h : IS W w P own S) {i p : Nat} (hp : P.pts[i]? = some p) :
    Calls Tryz.prog 42 #[pt_ P.px, .int .i64 (i : Int)] w fun e w' => e = .returned (pt_ p) ∧ w = w' := by
  obtain ⟨tv, ov, hx⟩ := h.ix
  obtain ⟨hi, hpe⟩ := List.getElem?_eq_some_iff.1 hp
  have hsl : ∃ g cap, tv = .slice (some ⟨g, 0, none⟩) P.pts.length cap ∧ P.pts.length ≤ cap := by
    rcases hx.row.2 with ⟨rfl, h2⟩ | ⟨g, cap, cur, rfl, _, _, hc, _⟩
    · omega
    · exact ⟨g, cap, rfl, hc⟩
  obtain ⟨g, cap, rfl, hcap⟩ := hsl
  have cc : w.cell? ⟨g, i, none⟩ = some (pt_ p) := by
    rw [hx.row.cellAt i (by omega)]; simp [ptrs, hi, hpe]
  have c7 := cell_blk (i := 7) hx.blk rfl
  obtain ⟨n, hn⟩ : ∃ n, n = P.pts.length := ⟨_, rfl⟩
  rw [← hn] at hi hcap
  have c7b : w.cell? ⟨P.px, 7, none⟩ = some (.slice (some ⟨g, 0, none⟩) n cap) := by rw [hn]; exact c7
  have q0 : ¬ ((i : Int) < 0) := by omega
  have q1 : ¬ ((n : Int) ≤ (i : Int)) := by omega
  clear h hx hp hpe c7 hn
  go_enter Tryz.func42, Tryz.ntmps42
  go_wp2_with fail
  go_ret
  exact ⟨rfl, rfl⟩
/-- The last operation of a region, behind which nothing is to be shown. -/
theorem lastdone_ {P : Program} {md : Region.Mode} {ops : Array Oper} {Q : Exit → Act → World → Prop} {S : World → Prop} {ds : List Nat} {i : Nat} {N : Option Tmp} {oi : Oper} {fuel : Nat} {l : Array Bool} {a : Act} {w : World} (l' : Array Bool) (hi : ops[i]? = some oi) (hN : oi.dst = N) (hc : readyB md ops l l' i = true) (hd : i ∈ ds) (hr : (Region.ready md ops l' == []) = true)
    (h : ∀ K : Act → World → Prop, Shut (∀ a' w', Q .normal a' w' → K a' w') → if Region.wanted oi (yielded ops a.tmps) = true then Oper.wp P oi a w K Q else K (a.put N undef) w) :
    wpAnyLast P md ops Q S ds (fuel + 1) l a w :=
  last_ l' hi hN hc hd fun K hK => h K fun a' w' hq => hK.out a' w' (done_ hr hq)
set_option maxRecDepth 100000 in
set_option maxHeartbeats 4000000 in
theorem xbusy_any {W w : World} {P : Pl} {own : Own} {S : Ix} (h : IS W w P own S) {i p : Nat} (hp : P.pts[i]? = some p) :
    Calls Tryz.prog 24 #[pt_ P.px, .int .i64 (i : Int)] w fun e w' => e = .returned (.bool (S.th i).busy) ∧ w = w' := by
  have R0 := Lib.hid (Run.begin h)
  clear h
  go_enter Tryz.func24, Tryz.ntmps24
  go_wp2_with fail
  refine (xthread_any R0.out.is hp).mono ?_
  rintro e w' ⟨rfl, rfl⟩
  have ct1 := R0.out.is.thc hp (k := 1) (fun _ _ => rfl)
  go_wp2_with fail
  go_ret
  exact ⟨rfl, rfl⟩
set_option maxRecDepth 100000 in
set_option maxHeartbeats 4000000 in
theorem xbegins1 {W w : World} {P : Pl} {own : Own} {S : Ix} (h : IS W w P own S) {i p : Nat} (hp : P.pts[i]? = some p) (hk : (S.th i).op.kind = 1) :
    Calls Tryz.prog 43 #[pt_ p] w fun e w' => e = .returned (.tuple #[]) ∧ Ends W P w own (S.update i) w' := by
  have R0 := Lib.hid (Run.begin h)
  clear h
  have HK := Lib.hid hk
  clear hk
  go_enter Tryz.func43, Tryz.ntmps43
  have ct2 : w.cell? ⟨p, 2, none⟩ = some (.int .i64 1) := by have h2 := R0.out.is.thc hp (k := 2) (fun _ _ => rfl); rw [HK.out] at h2; exact h2
  go_wp2_with fail
  refine (xupdate_any R0.out.is hp).mono ?_
  rintro e w1 ⟨rfl, e1⟩
  clear ct2
  go_wp2_with fail
  first | go_end0 | refine bodyPost_ret (results_none rfl _ _ _) rfl ?_
  exact ⟨rfl, R0.out.then_ e1⟩
set_option maxRecDepth 100000 in
set_option maxHeartbeats 4000000 in
theorem xbegins2 {W w : World} {P : Pl} {own : Own} {S : Ix} (h : IS W w P own S) {i p : Nat} (hp : P.pts[i]? = some p) (hk : (S.th i).op.kind = 2) :
    Calls Tryz.prog 43 #[pt_ p] w fun e w' => e = .returned (.tuple #[]) ∧ Ends W P w own (S.update i) w' := by
  have R0 := Lib.hid (Run.begin h)
  clear h
  have HK := Lib.hid hk
  clear hk
  go_enter Tryz.func43, Tryz.ntmps43
  have ct2 : w.cell? ⟨p, 2, none⟩ = some (.int .i64 2) := by have h2 := R0.out.is.thc hp (k := 2) (fun _ _ => rfl); rw [HK.out] at h2; exact h2
  go_wp2_with fail
  refine (xupdate_any R0.out.is hp).mono ?_
  rintro e w1 ⟨rfl, e1⟩
  clear ct2
  go_wp2_with fail
  first | go_end0 | refine bodyPost_ret (results_none rfl _ _ _) rfl ?_
  exact ⟨rfl, R0.out.then_ e1⟩
set_option maxRecDepth 100000 in
set_option maxHeartbeats 4000000 in
theorem xbegins3 {W w : World} {P : Pl} {own : Own} {S : Ix} (h : IS W w P own S) {i p : Nat} (hp : P.pts[i]? = some p) (hk : (S.th i).op.kind = 3) :
    Calls Tryz.prog 43 #[pt_ p] w fun e w' => e = .returned (.tuple #[]) ∧ Ends W P w own (S.update i) w' := by
  have R0 := Lib.hid (Run.begin h)
  clear h
  have HK := Lib.hid hk
  clear hk
  go_enter Tryz.func43, Tryz.ntmps43
  have ct2 : w.cell? ⟨p, 2, none⟩ = some (.int .i64 3) := by have h2 := R0.out.is.thc hp (k := 2) (fun _ _ => rfl); rw [HK.out] at h2; exact h2
  go_wp2_with fail
  refine (xupdate_any R0.out.is hp).mono ?_
  rintro e w1 ⟨rfl, e1⟩
  clear ct2
  go_wp2_with fail
  first | go_end0 | refine bodyPost_ret (results_none rfl _ _ _) rfl ?_
  exact ⟨rfl, R0.out.then_ e1⟩
set_option maxRecDepth 100000 in
set_option maxHeartbeats 4000000 in
theorem xbegins4 {W w : World} {P : Pl} {own : Own} {S : Ix} (h : IS W w P own S) {i p : Nat} (hp : P.pts[i]? = some p) (hk : (S.th i).op.kind = 4) :
    Calls Tryz.prog 43 #[pt_ p] w fun e w' => e = .returned (.tuple #[]) ∧ Ends W P w own (S.looks i (S.th i).op.key .gets) w' := by
  have R0 := Lib.hid (Run.begin h)
  clear h
  have HK := Lib.hid hk
  clear hk
  go_enter Tryz.func43, Tryz.ntmps43
  have ct2 : w.cell? ⟨p, 2, none⟩ = some (.int .i64 4) := by have h2 := R0.out.is.thc hp (k := 2) (fun _ _ => rfl); rw [HK.out] at h2; exact h2
  have ct3 := R0.out.is.thc hp (k := 3) (fun _ _ => rfl)
  go_wp2_with fail
  refine (xlooks_any R0.out.is hp (key := (S.th i).op.key) (k := .gets) rfl).mono ?_
  rintro e w1 ⟨rfl, e1⟩
  clear ct2 ct3
  go_wp2_with fail
  first | go_end0 | refine bodyPost_ret (results_none rfl _ _ _) rfl ?_
  exact ⟨rfl, R0.out.then_ e1⟩
/-- Operations that are gone through here. -/
def OpK (op : OpR) : Prop := op.kind = 1 ∨ op.kind = 2 ∨ op.kind = 3 ∨ op.kind = 4
theorem xbegins_any {W w : World} {P : Pl} {own : Own} {S : Ix} (h : IS W w P own S) {i p : Nat} (hp : P.pts[i]? = some p) (hk : OpK (S.th i).op) :
    Calls Tryz.prog 43 #[pt_ p] w fun e w' => e = .returned (.tuple #[]) ∧ Ends W P w own (S.begins i) w' := by
  unfold Ix.begins
  rcases hk with hk | hk | hk | hk
  · rw [if_pos (.inl hk)]; exact xbegins1 h hp hk
  · rw [if_pos (.inr (.inl hk))]; exact xbegins2 h hp hk
  · rw [if_pos (.inr (.inr hk))]; exact xbegins3 h hp hk
  · rw [if_neg (by omega), if_pos hk]; exact xbegins4 h hp hk
set_option maxRecDepth 100000 in
set_option maxHeartbeats 4000000 in
theorem xmayop_yes (op : OpR) (hk : OpK op) (w : World) :
    Calls Tryz.prog 41 #[.agg #[.int .i64 op.kind, .int .i64 op.key, .int .i64 op.hi, .int .i64 op.val]] w fun e w' => e = .returned (.bool true) ∧ Below w.heap.size w w' := by
  obtain ⟨kd, ky, hi, vl⟩ := op
  unfold OpK at hk
  dsimp only at hk ⊢
  have q0 : (1 : Int) ≤ kd := by omega
  have q1 : kd ≤ 8 := by omega
  clear hk
  go_enter Tryz.func41, Tryz.ntmps41
  go_wp2_with fail
  go_ret
  exact ⟨rfl, (Below.refl _ _).alloc (Nat.le_refl _) _⟩
/-- A call begins: what is written then. -/
def callW (w : World) (p : Nat) (op : OpR) (c : Int) : World :=
  ((((((w.setCell ⟨p, 1, none⟩ (.bool true)).setCell ⟨p, 7, none⟩ (.bool false)).setCell ⟨p, 2, none⟩ (.int .i64 op.kind)).setCell ⟨p, 3, none⟩ (.int .i64 op.key)).setCell ⟨p, 4, none⟩ (.int .i64 op.hi)).setCell ⟨p, 5, none⟩ (.int .i64 op.val)).setCell ⟨p, 6, none⟩ (.int .i64 c)
theorem callW_other {w : World} {p b : Nat} (op : OpR) (c : Int) (h : b ≠ p) : (callW w p op c).heap[b]? = w.heap[b]? := by
  unfold callW; simp only [setCell_other _ h]
theorem Run.called {W w0 w : World} {P : Pl} {own0 own : Own} {S : Ix} (h : Run W P w0 own0 S w own) {i p : Nat} (hp : P.pts[i]? = some p) (op : OpR) (c : Int) : Run W P w0 own0 (S.mod i fun t => { t with busy := true, late := false, op := op, call := c }) (callW w p op c) own := by
  have ho := h.is.own_th hp
  obtain ⟨nv, pv0, ht⟩ := h.is.ths i p hp
  have hb : Below W.heap.size W (callW w p op c) := ((((((h.is.below.setCell (h.is.mine p _ ho).1 _).setCell (h.is.mine p _ ho).1 _).setCell (h.is.mine p _ ho).1 _).setCell (h.is.mine p _ ho).1 _).setCell (h.is.mine p _ ho).1 _).setCell (h.is.mine p _ ho).1 _).setCell (h.is.mine p _ ho).1 _
  have hs : (callW w p op c).heap.size = w.heap.size := by simp [callW, World.setCell]
  refine ⟨h.is.thread hp _ nv pv0 ?_ ht.rep ht.ps hb hs (fun b hb => callW_other op c hb), ?_⟩
  · unfold callW
    have e1 := heap_setCell_same w p 1 _ _ (.bool true) ht.blk
    simp only [thC, sqA, sqZ, sqS] at e1
    have e2 := heap_setCell_same _ p 7 _ _ (.bool false) e1
    simp only [thC, sqA, sqZ, sqS] at e2
    have e3 := heap_setCell_same _ p 2 _ _ (.int .i64 op.kind) e2
    simp only [thC, sqA, sqZ, sqS] at e3
    have e4 := heap_setCell_same _ p 3 _ _ (.int .i64 op.key) e3
    simp only [thC, sqA, sqZ, sqS] at e4
    have e5 := heap_setCell_same _ p 4 _ _ (.int .i64 op.hi) e4
    simp only [thC, sqA, sqZ, sqS] at e5
    have e6 := heap_setCell_same _ p 5 _ _ (.int .i64 op.val) e5
    simp only [thC, sqA, sqZ, sqS] at e6
    have e7 := heap_setCell_same _ p 6 _ _ (.int .i64 c) e6
    simp only [thC, sqA, sqZ, sqS] at e7
    rw [e7]; rfl
  · exact ⟨by rw [hs]; exact h.fk.1, fun b hb hn => ⟨(h.fk.2 b hb hn).1, (callW_other op c (fun e => by have h1 := (h.fk.2 b hb hn).1; rw [e, ho] at h1; cases h1)).trans (h.fk.2 b hb hn).2⟩⟩
/-- One of the index's numbers is written. -/
theorem Run.calls {W w0 w : World} {P : Pl} {own0 own : Own} {S : Ix} (h : Run W P w0 own0 S w own) (c : Int) : Run W P w0 own0 { S with calls := c } (w.setCell ⟨P.px, 8, none⟩ (.int .i64 c)) own :=
  ⟨h.is.index (S' := { S with calls := c }) rfl rfl rfl (fun tv ov hb => by rw [heap_setCell_same w P.px 8 _ _ _ hb]; rfl) (h.is.below.setCell (h.is.mine P.px _ h.is.ownix).1 _) (by simp [World.setCell]) (fun b hb => setCell_other _ hb), h.fk.set _ (by rw [h.is.ownix]; simp)⟩
theorem Run.steps {W w0 w : World} {P : Pl} {own0 own : Own} {S : Ix} (h : Run W P w0 own0 S w own) (c : Int) : Run W P w0 own0 { S with steps := c } (w.setCell ⟨P.px, 10, none⟩ (.int .i64 c)) own :=
  ⟨h.is.index (S' := { S with steps := c }) rfl rfl rfl (fun tv ov hb => by rw [heap_setCell_same w P.px 10 _ _ _ hb]; rfl) (h.is.below.setCell (h.is.mine P.px _ h.is.ownix).1 _) (by simp [World.setCell]) (fun b hb => setCell_other _ hb), h.fk.set _ (by rw [h.is.ownix]; simp)⟩
theorem called_op (S : Ix) (i : Nat) (op : OpR) (c d : Int) (hi : i < S.ths.length) : (({ S.mod i (fun t => { t with busy := true, late := false, op := op, call := c }) with calls := d } : Ix).th i).op = op := by
  simp [Ix.mod, Ix.th, List.getD_eq_getElem?_getD, hi]
theorem drew_heap (w : World) : w.drew.heap = w.heap := rfl
theorem drew_set (w : World) (a : Addr) (v : Value) : (w.setCell a v).drew = w.drew.setCell a v := rfl
theorem call6_blk (w : World) (p : Nat) (op : OpR) {px : Nat} {t : Th} {nv pv : Value} (h : w.heap[p]? = some (.cells (thC px t nv pv) 93 (0, 0))) :
    ((((((w.setCell ⟨p, 1, none⟩ (.bool true)).setCell ⟨p, 7, none⟩ (.bool false)).setCell ⟨p, 2, none⟩ (.int .i64 op.kind)).setCell ⟨p, 3, none⟩ (.int .i64 op.key)).setCell ⟨p, 4, none⟩ (.int .i64 op.hi)).setCell ⟨p, 5, none⟩ (.int .i64 op.val)).drew.heap[p]? = some (.cells (thC px { t with busy := true, late := false, op := op } nv pv) 93 (0, 0)) := by
  have e1 := heap_setCell_same w p 1 _ _ (.bool true) h
  simp only [thC, sqA, sqZ, sqS] at e1
  have e2 := heap_setCell_same _ p 7 _ _ (.bool false) e1
  simp only [thC, sqA, sqZ, sqS] at e2
  have e3 := heap_setCell_same _ p 2 _ _ (.int .i64 op.kind) e2
  simp only [thC, sqA, sqZ, sqS] at e3
  have e4 := heap_setCell_same _ p 3 _ _ (.int .i64 op.key) e3
  simp only [thC, sqA, sqZ, sqS] at e4
  have e5 := heap_setCell_same _ p 4 _ _ (.int .i64 op.hi) e4
  simp only [thC, sqA, sqZ, sqS] at e5
  have e6 := heap_setCell_same _ p 5 _ _ (.int .i64 op.val) e5
  simp only [thC, sqA, sqZ, sqS] at e6
  rw [drew_heap]; exact e6
theorem cell_set_other {w : World} {p k b j : Nat} {v : Value} (h : b ≠ p) : (w.setCell ⟨p, k, none⟩ v).cell? ⟨b, j, none⟩ = w.cell? ⟨b, j, none⟩ := by
  unfold World.cell?; rw [setCell_other v h]
theorem drew_cell {w : World} {a : Addr} {v : Value} (h : w.cell? a = some v) : w.drew.cell? a = some v := h
theorem IS.px_ne {W w : World} {P : Pl} {own : Own} {S : Ix} (h : IS W w P own S) {i p : Nat} (hp : P.pts[i]? = some p) : P.px ≠ p := fun e => by
  have h1 := h.ownix; rw [e, h.own_th hp] at h1; cases h1
set_option maxRecDepth 100000 in
set_option maxHeartbeats 4000000 in
theorem xcall_any {W w : World} {P : Pl} {own : Own} {S : Ix} (h : IS W w P own S) {i p : Nat} (hp : P.pts[i]? = some p) {op : OpR} (hb : (S.th i).busy = false) (hk : OpK op) :
    Calls Tryz.prog 25 #[pt_ P.px, .int .i64 (i : Int), .agg #[.int .i64 op.kind, .int .i64 op.key, .int .i64 op.hi, .int .i64 op.val]] w fun e w' => e = .returned (.bool true) ∧ Ends W P w own (S.callAt i op) w' := by
  have R0 := Lib.hid (Run.begin h)
  clear h
  have HB := Lib.hid hb
  clear hb
  have HK := Lib.hid hk
  clear hk
  have R1 := Lib.hid (R0.out.box (b := w.heap.size) rfl (o := .ro) (by simp) #[.int .i64 op.kind, .int .i64 op.key, .int .i64 op.hi, .int .i64 op.val] 32)
  have K1 := Lib.hid (R0.out.box_ka (b := w.heap.size) rfl (.ro) (.cells #[.int .i64 op.kind, .int .i64 op.key, .int .i64 op.hi, .int .i64 op.val] 32) i)
  go_enter Tryz.func25, Tryz.ntmps25
  go_wp2_with fail
  refine (xthread_any R1.out.is hp).mono ?_
  rintro e w' ⟨rfl, rfl⟩
  have ct1 : (w.alloc (.cells #[.int .i64 op.kind, .int .i64 op.key, .int .i64 op.hi, .int .i64 op.val] 32)).cell? ⟨p, 1, none⟩ = some (.bool false) := by have h2 := R1.out.is.thc hp (k := 1) (fun _ _ => rfl); rw [HB.out] at h2; exact h2
  have cb0_0 := cell_blk (i := 0) ((R0.out.bx (b := w.heap.size) rfl #[.int .i64 op.kind, .int .i64 op.key, .int .i64 op.hi, .int .i64 op.val] 32)).2 rfl
  have cb0_1 := cell_blk (i := 1) ((R0.out.bx (b := w.heap.size) rfl #[.int .i64 op.kind, .int .i64 op.key, .int .i64 op.hi, .int .i64 op.val] 32)).2 rfl
  have cb0_2 := cell_blk (i := 2) ((R0.out.bx (b := w.heap.size) rfl #[.int .i64 op.kind, .int .i64 op.key, .int .i64 op.hi, .int .i64 op.val] 32)).2 rfl
  have cb0_3 := cell_blk (i := 3) ((R0.out.bx (b := w.heap.size) rfl #[.int .i64 op.kind, .int .i64 op.key, .int .i64 op.hi, .int .i64 op.val] 32)).2 rfl
  go_wp2_with fail
  refine (xmayop_yes op HK.out _).mono ?_
  rintro e w2 ⟨rfl, b2⟩
  clear ct1 cb0_0 cb0_1 cb0_2 cb0_3
  have R2 := Lib.hid (R1.out.later b2)
  have K2 := Lib.hid (R1.out.below_ka b2 i)
  clear b2
  go_wp2_with fail
  obtain ⟨nv0, pv0, ht0⟩ := R2.out.is.ths i p hp
  have ft1 := free_blk (i := 1) ht0.blk
  have ct1 := cell_blk (i := 1) ht0.blk rfl
  have ft2 := free_blk (i := 2) ht0.blk
  have ct2 := cell_blk (i := 2) ht0.blk rfl
  have ft3 := free_blk (i := 3) ht0.blk
  have ct3 := cell_blk (i := 3) ht0.blk rfl
  have ft4 := free_blk (i := 4) ht0.blk
  have ct4 := cell_blk (i := 4) ht0.blk rfl
  have ft5 := free_blk (i := 5) ht0.blk
  have ct5 := cell_blk (i := 5) ht0.blk rfl
  have ft6 := free_blk (i := 6) ht0.blk
  have ct6 := cell_blk (i := 6) ht0.blk rfl
  have ft7 := free_blk (i := 7) ht0.blk
  have ct7 := cell_blk (i := 7) ht0.blk rfl
  have HT0 := Lib.hid ht0
  clear ht0
  have HXP := Lib.hid (R2.out.is.px_ne hp)
  have E := Lib.hid ((R2.out.called hp op S.calls).drew)
  have hl := R2.out.is.th_lt hp
  have HT := R2.out.is.own_th hp
  have X0 := Lib.hid (R2.out.is.ixc (k := 8) (v := .int .i64 S.calls) (fun _ _ => rfl))
  have K3 := Lib.hid (KA.set (i := i) (w := w2) HT (.inl rfl) 1 (.bool true))
  have X1 := Lib.hid (show (w2.setCell ⟨p, 1, none⟩ (.bool true)).cell? ⟨P.px, 8, none⟩ = some (.int .i64 S.calls) from (cell_set_other (j := 8) HXP.out).trans X0.out)
  have K4 := Lib.hid (KA.set (i := i) (w := (w2.setCell ⟨p, 1, none⟩ (.bool true))) HT (.inl rfl) 7 (.bool false))
  have X2 := Lib.hid (show ((w2.setCell ⟨p, 1, none⟩ (.bool true)).setCell ⟨p, 7, none⟩ (.bool false)).cell? ⟨P.px, 8, none⟩ = some (.int .i64 S.calls) from (cell_set_other (j := 8) HXP.out).trans X1.out)
  have K5 := Lib.hid (KA.set (i := i) (w := ((w2.setCell ⟨p, 1, none⟩ (.bool true)).setCell ⟨p, 7, none⟩ (.bool false))) HT (.inl rfl) 2 (.int .i64 op.kind))
  have X3 := Lib.hid (show (((w2.setCell ⟨p, 1, none⟩ (.bool true)).setCell ⟨p, 7, none⟩ (.bool false)).setCell ⟨p, 2, none⟩ (.int .i64 op.kind)).cell? ⟨P.px, 8, none⟩ = some (.int .i64 S.calls) from (cell_set_other (j := 8) HXP.out).trans X2.out)
  have K6 := Lib.hid (KA.set (i := i) (w := (((w2.setCell ⟨p, 1, none⟩ (.bool true)).setCell ⟨p, 7, none⟩ (.bool false)).setCell ⟨p, 2, none⟩ (.int .i64 op.kind))) HT (.inl rfl) 3 (.int .i64 op.key))
  have X4 := Lib.hid (show ((((w2.setCell ⟨p, 1, none⟩ (.bool true)).setCell ⟨p, 7, none⟩ (.bool false)).setCell ⟨p, 2, none⟩ (.int .i64 op.kind)).setCell ⟨p, 3, none⟩ (.int .i64 op.key)).cell? ⟨P.px, 8, none⟩ = some (.int .i64 S.calls) from (cell_set_other (j := 8) HXP.out).trans X3.out)
  have K7 := Lib.hid (KA.set (i := i) (w := ((((w2.setCell ⟨p, 1, none⟩ (.bool true)).setCell ⟨p, 7, none⟩ (.bool false)).setCell ⟨p, 2, none⟩ (.int .i64 op.kind)).setCell ⟨p, 3, none⟩ (.int .i64 op.key))) HT (.inl rfl) 4 (.int .i64 op.hi))
  have X5 := Lib.hid (show (((((w2.setCell ⟨p, 1, none⟩ (.bool true)).setCell ⟨p, 7, none⟩ (.bool false)).setCell ⟨p, 2, none⟩ (.int .i64 op.kind)).setCell ⟨p, 3, none⟩ (.int .i64 op.key)).setCell ⟨p, 4, none⟩ (.int .i64 op.hi)).cell? ⟨P.px, 8, none⟩ = some (.int .i64 S.calls) from (cell_set_other (j := 8) HXP.out).trans X4.out)
  have K8 := Lib.hid (KA.set (i := i) (w := (((((w2.setCell ⟨p, 1, none⟩ (.bool true)).setCell ⟨p, 7, none⟩ (.bool false)).setCell ⟨p, 2, none⟩ (.int .i64 op.kind)).setCell ⟨p, 3, none⟩ (.int .i64 op.key)).setCell ⟨p, 4, none⟩ (.int .i64 op.hi))) HT (.inl rfl) 5 (.int .i64 op.val))
  have X6 := Lib.hid (show ((((((w2.setCell ⟨p, 1, none⟩ (.bool true)).setCell ⟨p, 7, none⟩ (.bool false)).setCell ⟨p, 2, none⟩ (.int .i64 op.kind)).setCell ⟨p, 3, none⟩ (.int .i64 op.key)).setCell ⟨p, 4, none⟩ (.int .i64 op.hi)).setCell ⟨p, 5, none⟩ (.int .i64 op.val)).cell? ⟨P.px, 8, none⟩ = some (.int .i64 S.calls) from (cell_set_other (j := 8) HXP.out).trans X5.out)
  refine start_ (n := 21) (S := fun w' => w'.cell? ⟨w.heap.size, 0, none⟩ = some (.int .i64 op.kind) ∧ w'.cell? ⟨w.heap.size, 1, none⟩ = some (.int .i64 op.key) ∧ w'.cell? ⟨w.heap.size, 2, none⟩ = some (.int .i64 op.hi) ∧ w'.cell? ⟨w.heap.size, 3, none⟩ = some (.int .i64 op.val) ∧ w'.cell? ⟨P.px, 8, none⟩ = some (.int .i64 S.calls)) (ds := [20]) (bz 21 0).toArray (by kernel_rfl) rfl rfl ⟨(drew_cell (cell_blk (i := 0) (((R0.out.bx (b := w.heap.size) rfl #[.int .i64 op.kind, .int .i64 op.key, .int .i64 op.hi, .int .i64 op.val] 32)).keep K2.out.k).2 rfl)), (drew_cell (cell_blk (i := 1) (((R0.out.bx (b := w.heap.size) rfl #[.int .i64 op.kind, .int .i64 op.key, .int .i64 op.hi, .int .i64 op.val] 32)).keep K2.out.k).2 rfl)), (drew_cell (cell_blk (i := 2) (((R0.out.bx (b := w.heap.size) rfl #[.int .i64 op.kind, .int .i64 op.key, .int .i64 op.hi, .int .i64 op.val] 32)).keep K2.out.k).2 rfl)), (drew_cell (cell_blk (i := 3) (((R0.out.bx (b := w.heap.size) rfl #[.int .i64 op.kind, .int .i64 op.key, .int .i64 op.hi, .int .i64 op.val] 32)).keep K2.out.k).2 rfl)), (drew_cell X0.out)⟩ (fun hHeld => ?_)
  refine pure_ (i := 0) (N := some 24) (v := ?_) (a' := ?_) (bz 21 1).toArray rfl rfl (by kernel_rfl) (fun _ _ _ h => h) (Or.inl ⟨by rfl, ?_⟩) ?_ ?_
  rotate_left
  · intro w'
    go_simp
    with_reducible rfl
  rotate_left
  · simp only [Act.put, sqA, sqZ, sqS, i64_w, i32_w]
    rfl
  refine pure_ (i := 1) (N := some 25) (v := ?_) (a' := ?_) (bz 21 3).toArray rfl rfl (by kernel_rfl) (fun _ _ _ h => h) (Or.inl ⟨by rfl, ?_⟩) ?_ ?_
  rotate_left
  · intro w'
    go_simp
    with_reducible rfl
  rotate_left
  · simp only [Act.put, sqA, sqZ, sqS, i64_w, i32_w]
    rfl
  refine pure_ (i := 2) (N := some 26) (v := ?_) (a' := ?_) (bz 21 7).toArray rfl rfl (by kernel_rfl) (fun _ _ _ h => h) (Or.inl ⟨by rfl, ?_⟩) ?_ ?_
  rotate_left
  · intro w'
    go_simp
    with_reducible rfl
  rotate_left
  · simp only [Act.put, sqA, sqZ, sqS, i64_w, i32_w]
    rfl
  refine pure_ (i := 3) (N := some 27) (v := ?_) (a' := ?_) (bz 21 15).toArray rfl rfl (by kernel_rfl) (fun _ _ _ h => h) (Or.inl ⟨by rfl, ?_⟩) ?_ ?_
  rotate_left
  · intro w'
    go_simp
    with_reducible rfl
  rotate_left
  · simp only [Act.put, sqA, sqZ, sqS, i64_w, i32_w]
    rfl
  refine pure_ (i := 5) (N := some 29) (v := ?_) (a' := ?_) (bz 21 47).toArray rfl rfl (by kernel_rfl) (fun _ _ _ h => h) (Or.inl ⟨by rfl, ?_⟩) ?_ ?_
  rotate_left
  · intro w'
    go_simp
    with_reducible rfl
  rotate_left
  · simp only [Act.put, sqA, sqZ, sqS, i64_w, i32_w]
    rfl
  refine pure_ (i := 6) (N := some 30) (v := ?_) (a' := ?_) (bz 21 111).toArray rfl rfl (by kernel_rfl) (fun _ _ _ h => h) (Or.inl ⟨by rfl, ?_⟩) ?_ ?_
  rotate_left
  · intro w'
    go_simp
    with_reducible rfl
  rotate_left
  · simp only [Act.put, sqA, sqZ, sqS, i64_w, i32_w]
    rfl
  refine pure_ (i := 7) (N := some 31) (v := ?_) (a' := ?_) (bz 21 239).toArray rfl rfl (by kernel_rfl) (fun _ _ _ h => h) (Or.inl ⟨by rfl, ?_⟩) ?_ ?_
  rotate_left
  · intro w'
    go_simp
    with_reducible rfl
  rotate_left
  · simp only [Act.put, sqA, sqZ, sqS, i64_w, i32_w]
    rfl
  refine take_ (i := 4) (N := some 28) (v := ?_) (a' := ?_) (bz 21 255).toArray rfl rfl (by kernel_rfl) (fun _ _ _ h => h) (Or.inl ⟨by rfl, ?_⟩) hHeld ?_ ?_
  rotate_left
  · rintro w' ⟨s0, s1, s2, s3, s4⟩
    go_simp
    with_reducible rfl
  rotate_left
  · simp only [Act.put, sqA, sqZ, sqS, i64_w, i32_w]
    rfl
  refine take_ (i := 8) (N := some 32) (v := ?_) (a' := ?_) (bz 21 511).toArray rfl rfl (by kernel_rfl) (fun _ _ _ h => h) (Or.inl ⟨by rfl, ?_⟩) hHeld ?_ ?_
  rotate_left
  · rintro w' ⟨s0, s1, s2, s3, s4⟩
    go_simp
    with_reducible rfl
  rotate_left
  · simp only [Act.put, sqA, sqZ, sqS, i64_w, i32_w]
    rfl
  refine pure_ (i := 9) (N := some 33) (v := ?_) (a' := ?_) (bz 21 1023).toArray rfl rfl (by kernel_rfl) (fun _ _ _ h => h) (Or.inl ⟨by rfl, ?_⟩) ?_ ?_
  rotate_left
  · intro w'
    go_simp
    with_reducible rfl
  rotate_left
  · simp only [Act.put, sqA, sqZ, sqS, i64_w, i32_w]
    rfl
  refine pure_ (i := 10) (N := some 34) (v := ?_) (a' := ?_) (bz 21 2047).toArray rfl rfl (by kernel_rfl) (fun _ _ _ h => h) (Or.inl ⟨by rfl, ?_⟩) ?_ ?_
  rotate_left
  · intro w'
    go_simp
    with_reducible rfl
  rotate_left
  · simp only [Act.put, sqA, sqZ, sqS, i64_w, i32_w]
    rfl
  refine one_ (i := 11) (N := none) (bz 21 4095).toArray rfl rfl (by kernel_rfl) (by decide) (fun K hK => ?_)
  refine skip_ (w1 := ?_) (by rfl) rfl ?_ ?_
  rotate_left
  · go_simp
    rfl
  refine hK.out _ _ ⟨(drew_cell (cell_blk (i := 0) ((((R0.out.bx (b := w.heap.size) rfl #[.int .i64 op.kind, .int .i64 op.key, .int .i64 op.hi, .int .i64 op.val] 32)).keep K2.out.k).keep K3.out.k).2 rfl)), (drew_cell (cell_blk (i := 1) ((((R0.out.bx (b := w.heap.size) rfl #[.int .i64 op.kind, .int .i64 op.key, .int .i64 op.hi, .int .i64 op.val] 32)).keep K2.out.k).keep K3.out.k).2 rfl)), (drew_cell (cell_blk (i := 2) ((((R0.out.bx (b := w.heap.size) rfl #[.int .i64 op.kind, .int .i64 op.key, .int .i64 op.hi, .int .i64 op.val] 32)).keep K2.out.k).keep K3.out.k).2 rfl)), (drew_cell (cell_blk (i := 3) ((((R0.out.bx (b := w.heap.size) rfl #[.int .i64 op.kind, .int .i64 op.key, .int .i64 op.hi, .int .i64 op.val] 32)).keep K2.out.k).keep K3.out.k).2 rfl)), (drew_cell X1.out)⟩ ?_
  clear hHeld
  intro hHeld
  clear hK K
  refine pure_ (i := 12) (N := some 35) (v := ?_) (a' := ?_) (bz 21 8191).toArray rfl rfl (by kernel_rfl) (fun _ _ _ h => h) (Or.inl ⟨by rfl, ?_⟩) ?_ ?_
  rotate_left
  · intro w'
    go_simp
    with_reducible rfl
  rotate_left
  · simp only [Act.put, sqA, sqZ, sqS, i64_w, i32_w]
    rfl
  refine pure_ (i := 13) (N := some 36) (v := ?_) (a' := ?_) (bz 21 16383).toArray rfl rfl (by kernel_rfl) (fun _ _ _ h => h) (Or.inl ⟨by rfl, ?_⟩) ?_ ?_
  rotate_left
  · intro w'
    go_simp
    with_reducible rfl
  rotate_left
  · simp only [Act.put, sqA, sqZ, sqS, i64_w, i32_w]
    rfl
  refine one_ (i := 14) (N := none) (bz 21 32767).toArray rfl rfl (by kernel_rfl) (by decide) (fun K hK => ?_)
  refine skip_ (w1 := ?_) (by rfl) rfl ?_ ?_
  rotate_left
  · go_simp
    rfl
  refine hK.out _ _ ⟨(drew_cell (cell_blk (i := 0) (((((R0.out.bx (b := w.heap.size) rfl #[.int .i64 op.kind, .int .i64 op.key, .int .i64 op.hi, .int .i64 op.val] 32)).keep K2.out.k).keep K3.out.k).keep K4.out.k).2 rfl)), (drew_cell (cell_blk (i := 1) (((((R0.out.bx (b := w.heap.size) rfl #[.int .i64 op.kind, .int .i64 op.key, .int .i64 op.hi, .int .i64 op.val] 32)).keep K2.out.k).keep K3.out.k).keep K4.out.k).2 rfl)), (drew_cell (cell_blk (i := 2) (((((R0.out.bx (b := w.heap.size) rfl #[.int .i64 op.kind, .int .i64 op.key, .int .i64 op.hi, .int .i64 op.val] 32)).keep K2.out.k).keep K3.out.k).keep K4.out.k).2 rfl)), (drew_cell (cell_blk (i := 3) (((((R0.out.bx (b := w.heap.size) rfl #[.int .i64 op.kind, .int .i64 op.key, .int .i64 op.hi, .int .i64 op.val] 32)).keep K2.out.k).keep K3.out.k).keep K4.out.k).2 rfl)), (drew_cell X2.out)⟩ ?_
  clear hHeld
  intro hHeld
  clear hK K
  refine pure_ (i := 15) (N := some 37) (v := ?_) (a' := ?_) (bz 21 65535).toArray rfl rfl (by kernel_rfl) (fun _ _ _ h => h) (Or.inl ⟨by rfl, ?_⟩) ?_ ?_
  rotate_left
  · intro w'
    go_simp
    with_reducible rfl
  rotate_left
  · simp only [Act.put, sqA, sqZ, sqS, i64_w, i32_w]
    rfl
  refine pure_ (i := 16) (N := some 38) (v := ?_) (a' := ?_) (bz 21 131071).toArray rfl rfl (by kernel_rfl) (fun _ _ _ h => h) (Or.inl ⟨by rfl, ?_⟩) ?_ ?_
  rotate_left
  · intro w'
    go_simp
    with_reducible rfl
  rotate_left
  · simp only [Act.put, sqA, sqZ, sqS, i64_w, i32_w]
    rfl
  refine one_ (i := 17) (N := none) (bz 21 262143).toArray rfl rfl (by kernel_rfl) (by decide) (fun K hK => ?_)
  refine skip_ (w1 := ?_) (by rfl) rfl ?_ ?_
  rotate_left
  · go_simp
    rfl
  refine hK.out _ _ ⟨(drew_cell (cell_blk (i := 0) (((((((((R0.out.bx (b := w.heap.size) rfl #[.int .i64 op.kind, .int .i64 op.key, .int .i64 op.hi, .int .i64 op.val] 32)).keep K2.out.k).keep K3.out.k).keep K4.out.k).keep K5.out.k).keep K6.out.k).keep K7.out.k).keep K8.out.k).2 rfl)), (drew_cell (cell_blk (i := 1) (((((((((R0.out.bx (b := w.heap.size) rfl #[.int .i64 op.kind, .int .i64 op.key, .int .i64 op.hi, .int .i64 op.val] 32)).keep K2.out.k).keep K3.out.k).keep K4.out.k).keep K5.out.k).keep K6.out.k).keep K7.out.k).keep K8.out.k).2 rfl)), (drew_cell (cell_blk (i := 2) (((((((((R0.out.bx (b := w.heap.size) rfl #[.int .i64 op.kind, .int .i64 op.key, .int .i64 op.hi, .int .i64 op.val] 32)).keep K2.out.k).keep K3.out.k).keep K4.out.k).keep K5.out.k).keep K6.out.k).keep K7.out.k).keep K8.out.k).2 rfl)), (drew_cell (cell_blk (i := 3) (((((((((R0.out.bx (b := w.heap.size) rfl #[.int .i64 op.kind, .int .i64 op.key, .int .i64 op.hi, .int .i64 op.val] 32)).keep K2.out.k).keep K3.out.k).keep K4.out.k).keep K5.out.k).keep K6.out.k).keep K7.out.k).keep K8.out.k).2 rfl)), (drew_cell X6.out)⟩ ?_
  clear hHeld
  intro hHeld
  clear hK K
  generalize hwq : (((((((w2.setCell ⟨p, 1, none⟩ (.bool true)).setCell ⟨p, 7, none⟩ (.bool false)).setCell ⟨p, 2, none⟩ (.int .i64 op.kind)).setCell ⟨p, 3, none⟩ (.int .i64 op.key)).setCell ⟨p, 4, none⟩ (.int .i64 op.hi)).setCell ⟨p, 5, none⟩ (.int .i64 op.val))).drew = w31 at hHeld ⊢
  have HWQ := Lib.hid hwq
  clear hwq
  have b31 := Lib.hid (show w31.heap[p]? = some (.cells (thC P.px { S.th i with busy := true, late := false, op := op } nv0 pv0) 93 (0, 0)) by rw [← HWQ.out]; exact call6_blk w2 p op HT0.out.blk)
  have f31 := free_blk (i := 6) b31.out
  have c31 := cell_blk (i := 6) b31.out rfl
  have l31 : p < w31.heap.size := (Array.getElem?_eq_some_iff.1 b31.out).1
  refine pure_ (i := 18) (N := some 39) (v := ?_) (a' := ?_) (bz 21 524287).toArray rfl rfl (by kernel_rfl) (fun _ _ _ h => h) (Or.inl ⟨by rfl, ?_⟩) ?_ ?_
  rotate_left
  · intro w'
    go_simp
    with_reducible rfl
  rotate_left
  · simp only [Act.put, sqA, sqZ, sqS, i64_w, i32_w]
    rfl
  refine pure_ (i := 19) (N := some 40) (v := ?_) (a' := ?_) (bz 21 1048575).toArray rfl rfl (by kernel_rfl) (fun _ _ _ h => h) (Or.inl ⟨by rfl, ?_⟩) ?_ ?_
  rotate_left
  · intro w'
    go_simp
    with_reducible rfl
  rotate_left
  · simp only [Act.put, sqA, sqZ, sqS, i64_w, i32_w]
    rfl
  refine lastdone_ (i := 20) (N := none) (bz 21 2097151).toArray rfl rfl (by kernel_rfl) (by decide) (by kernel_rfl) (fun K hK => ?_)
  refine skip_ (w1 := ?_) (by rfl) rfl ?_ ?_
  rotate_left
  · go_simp
    rfl
  refine hK.out _ _ ?_
  clear hK K
  clear ft1 ct1 ft2 ct2 ft3 ct3 ft4 ct4 ft5 ct5 ft6 ct6 ft7 ct7 f31 c31 l31 hl HT
  have R52 := Lib.hid (show Run W P w own (S.mod i fun t => { t with busy := true, late := false, op := op, call := S.calls }) (w31.setCell ⟨p, 6, none⟩ (.int .i64 S.calls)) _ by have E2 := E.out; unfold callW at E2; rw [drew_set, HWQ.out] at E2; exact E2)
  generalize hw5 : w31.setCell ⟨p, 6, none⟩ (.int .i64 S.calls) = w51 at *
  clear hw5
  have cx8 : w51.cell? ⟨P.px, 8, none⟩ = some (.int .i64 S.calls) := R52.out.is.ixc (k := 8) (fun _ _ => rfl)
  have fx8 : w51.frozen? ⟨P.px, 8, none⟩ = false := by obtain ⟨tv, ov, hx⟩ := R52.out.is.ix; exact free_blk hx.blk
  have hlx := R52.out.is.px_lt
  have hlen0 := R52.out.is.lt hp
  have HLN := Lib.hid hlen0
  clear hlen0
  have R53 := Lib.hid (R52.out.calls (wrap64 (S.calls + 1)))
  go_wp2_with fail
  refine (xbegins_any R53.out.is hp (by rw [called_op _ _ _ _ _ (by simpa [Ix.mod] using HLN.out)]; exact HK.out)).mono ?_
  rintro e w54 ⟨rfl, e54⟩
  clear cx8 fx8 hlx
  go_wp2_with fail
  go_ret
  exact ⟨rfl, R53.out.then_ e54⟩
def OKN (S : Ix) (i : Nat) : Nx → Prop
  | .load c k => OKI (S.ofA (loadO (some S.a) c).2) i (loadO (some S.a) c).1 k
  | .swap c o n k => OKW (S.ofA (swapO (some S.a) c o n).2) i (swapO (some S.a) c o n).1 k
  | _ => False
noncomputable def Ix.applyN (S : Ix) (i : Nat) : Nx → Ix
  | .load c k => (S.ofA (loadO (some S.a) c).2).applyI i (loadO (some S.a) c).1 k
  | .swap c o n k => (S.ofA (swapO (some S.a) c o n).2).applyW i (swapO (some S.a) c o n).1 k
  | _ => S
theorem xapplyN_any {W w : World} {P : Pl} {own : Own} {S : Ix} (h : IS W w P own S) {i p : Nat} (hp : P.pts[i]? = some p) {v : Value} {k : Nx} (hk : RepN w own i p v (some k)) (hn : (S.th i).next = none) (ho : OKN S i k) :
    CallsV v #[] w fun e w' => e = .returned (.tuple #[]) ∧ Ends W P w own (S.applyN i k) w' := by
  cases k with
  | load c k => obtain ⟨bh, bt, bc, vh, rfl, h1, h2, h3, h4⟩ := hk; exact callsV_of Tryz.func152 (by kernel_rfl) rfl (all := #[pt_ bh, pt_ bt, pt_ bc]) (by simp) (xload1_any h hp h1 h2 h3 h4 hn ho)
  | swap c o n k => obtain ⟨bh, bt, bc, bo, bn, vh, rfl, h1, h2, h3, h4, h5, h6⟩ := hk; exact callsV_of Tryz.func131 (by kernel_rfl) rfl (all := #[pt_ bh, pt_ bt, pt_ bc, pt_ bo, pt_ bn]) (by simp) (xswap1_any h hp h1 h2 h3 h4 h5 h6 ho)
  | _ => exact hk.elim
theorem RepN.kn {w : World} {own : Own} {i pt : Nat} {v : Value} {k : Nx} (h : RepN w own i pt v (some k)) : ∃ f fi ca, v = .func (.func f) fi ca ∧ KnownF f := by
  cases k with
  | load _ _ => obtain ⟨_, _, _, _, rfl, _⟩ := h; exact ⟨_, _, _, rfl, known_ld⟩
  | swap _ _ _ _ => obtain ⟨_, _, _, _, _, _, rfl, _⟩ := h; exact ⟨_, _, _, rfl, known_sw⟩
  | once _ _ _ => exact h.elim
  | nothing => exact h.elim
/-- The next step is taken. -/
theorem Run.clears {W w0 w : World} {P : Pl} {own0 own : Own} {S : Ix} (h : Run W P w0 own0 S w own) {i p : Nat} (hp : P.pts[i]? = some p) : Run W P w0 own0 (S.mod i fun t => { t with next := none }) (w.setCell ⟨p, 8, none⟩ .nilFunc) own := by
  obtain ⟨nv', pv, ht⟩ := h.is.ths i p hp
  refine ⟨h.is.thread hp _ .nilFunc pv ?_ rfl ht.ps (h.is.set_below (h.is.own_th hp) _ _) (by simp [World.setCell]) (fun b hb => setCell_other _ hb), h.fk.set _ (by rw [h.is.own_th hp]; simp)⟩
  rw [heap_setCell_same w p 8 _ _ _ ht.blk]; rfl
theorem Ix.rest_next (S : Ix) (i : Nat) (hi : i < S.ths.length) : ((S.rest i).th i).next = none := by
  simp [Ix.rest, Ix.mod, Ix.th, List.getD_eq_getElem?_getD, hi]
theorem Ix.step_eq (S : Ix) (i : Nat) (k : Nx) (h : (S.th i).next = some k) (hk : ∀ c v k', k ≠ .once c v k') (hk2 : k ≠ .nothing) : S.step i = (S.rest i).applyN i k := by
  unfold Ix.step
  rw [h]
  cases k with
  | load c k => rfl
  | swap c o n k => rfl
  | once c v k => exact absurd rfl (hk c v k)
  | nothing => exact absurd rfl hk2
set_option maxRecDepth 100000 in
set_option maxHeartbeats 4000000 in
theorem xstep_any {W w : World} {P : Pl} {own : Own} {S : Ix} (h : IS W w P own S) {i p : Nat} (hp : P.pts[i]? = some p) {k : Nx} (hb : (S.th i).busy = true) (hx : (S.th i).next = some k) (ho : OKN (S.rest i) i k) :
    Calls Tryz.prog 26 #[pt_ P.px, .int .i64 (i : Int)] w fun e w' => e = .returned (.bool true) ∧ Ends W P w own (S.step i) w' := by
  have hk1 : ∀ c v k', k ≠ .once c v k' := fun c v k' e => by subst e; exact ho
  have hk2 : k ≠ .nothing := fun e => by subst e; exact ho
  have HK1 := Lib.hid hk1
  have HK2 := Lib.hid hk2
  clear hk1 hk2
  have R0 := Lib.hid (Run.begin h)
  clear h
  have HBZ := Lib.hid hb
  clear hb
  have HNX := Lib.hid hx
  clear hx
  have HO := Lib.hid ho
  clear ho
  go_enter Tryz.func26, Tryz.ntmps26
  go_wp2_with fail
  refine (xthread_any R0.out.is hp).mono ?_
  rintro e w' ⟨rfl, rfl⟩
  obtain ⟨nv, pv, ht⟩ := R0.out.is.ths i p hp
  have hr := ht.rep
  rw [HNX.out] at hr
  obtain ⟨vf, vfi, vca, rfl, hkn⟩ := hr.kn
  have HR := Lib.hid hr
  have HKN := Lib.hid hkn
  clear hr hkn
  have ct1 : w.cell? ⟨p, 1, none⟩ = some (.bool true) := by have h2 := R0.out.is.thc hp (k := 1) (fun _ _ => rfl); rw [HBZ.out] at h2; exact h2
  have ct8 : w.cell? ⟨p, 8, none⟩ = some (.func (.func vf) vfi vca) := cell_blk (i := 8) ht.blk rfl
  have ft8 := R0.out.is.th_free hp 8
  have hl := R0.out.is.th_lt hp
  have hlx := R0.out.is.px_lt
  have cx10 := R0.out.is.ixc (k := 10) (fun _ _ => rfl)
  have fx10 : w.frozen? ⟨P.px, 10, none⟩ = false := by obtain ⟨tv, ov, hx⟩ := R0.out.is.ix; exact free_blk hx.blk
  have hxp := R0.out.is.px_ne hp
  have hpx : ¬ (p = P.px) := fun e => hxp e.symm
  clear ht
  have hlen0 := R0.out.is.lt hp
  have HLN := Lib.hid hlen0
  clear hlen0
  have R1 := Lib.hid ((R0.out.steps (wrap64 (S.steps + 1))).clears hp)
  have K1 := Lib.hid ((KA.set (i := i) (w := w) R0.out.is.ownix (.inr rfl) 10 (.int .i64 (wrap64 (S.steps + 1)))).trans (KA.set (i := i) (R0.out.is.own_th hp) (.inl rfl) 8 .nilFunc))
  have hv := (xapplyN_any (S := S.rest i) R1.out.is hp (HR.out.keep K1.out.k) (Ix.rest_next _ _ HLN.out) HO.out).calls
  simp only [List.append_toArray, Array.append_assoc, Array.append_empty, Array.empty_append] at hv
  have HV2 := Lib.hid hv
  clear hv
  have kf1 := HKN.out.enters
  go_wp2_with fail
  refine (HV2.out).mono ?_
  rintro e w2 ⟨rfl, e2⟩
  clear kf1 ct1 ct8 ft8 hl hlx cx10 fx10 hxp hpx
  go_wp2_with fail
  go_ret
  refine ⟨rfl, ?_⟩
  rw [Ix.step_eq S i k HNX.out HK1.out HK2.out]
  exact R1.out.then_ e2
end Go.Proofs.YtghjnkfocjjlnaaGreat
end
section
namespace Go.Proofs.YtghjnkfocjjlnaaGreat
set_option maxRecDepth 100000
open Go.RowKit
set_option linter.unusedSimpArgs false
set_option linter.unusedVariables false
theorem cellsP_len (l : List Pr) : (cellsP l).length = l.length * 2 := by
  induction l with
  | nil => rfl
  | cons x r ih =>
    have : cellsP (x :: r) = [.int .i64 x.1, .int .i64 x.2] ++ cellsP r := by simp [cellsP]
    rw [this, List.length_append, ih]; simp; omega
theorem cellsP_app (l m : List Pr) : cellsP (l ++ m) = cellsP l ++ cellsP m := by simp [cellsP]
theorem cellsP_one (l : List Pr) : ∀ u ∈ cellsP l, u.oneCell' = true := by
  induction l with
  | nil => intro u hu; simp [cellsP] at hu
  | cons x r ih =>
    have : cellsP (x :: r) = [.int .i64 x.1, .int .i64 x.2] ++ cellsP r := by simp [cellsP]
    intro u hu
    rw [this] at hu
    rcases List.mem_append.1 hu with h | h
    · simp at h
      rcases h with rfl | rfl <;> rfl
    · exact ih u h
theorem wpo_apps {o : Oper} {a : Act} {K : Act → World → Prop} {Q : Exit → Act → World → Prop} {B : Nat} {w : World} {ys : List Pr} {v : Value} {out : List Pr} {ad : Option Addr} {c : Nat} (s x : Operand)
    (ho : o.op = .call { callee := .builtin .append, args := #[s, x], argTypes := #[28, 28] }) (hs : a.eval s = v) (hx : a.eval x = .slice ad ys.length c) (R : FRel B w v out)
    (hp : PIn w ad c ys) (hd : ad = none → c = 0) (hlen : out.length + ys.length ≤ 1000001)
    (h : ∀ v' w', FRel B w' v' (out ++ ys) → w.grownBy w' v.ownBlock → K (a.put o.dst v') w') :
    o.wp Tryz.prog a w K Q := by
  obtain ⟨i0, hi, hz0, hz1, hz2⟩ := info_parts info_pair
  cases had : ad with
  | none =>
    subst had
    obtain rfl := hd rfl
    have hys : ys = [] := by
      rcases hp.at_ with h0 | ⟨b, off, h0, _⟩
      · exact h0
      · exact absurd h0 (by simp)
    subst hys
    have hx : a.eval x = .slice none 0 0 := hx
    have hrun := run_append_owned_none (P := Tryz.prog) (w := w) B 28 o.type 43 i0 2 Tryz.underlying28 hi v out.length (cellsP out) R.own
    have := h v w (by rw [List.append_nil]; exact R) ⟨rfl, rfl, rfl, Nat.le_refl _, fun _ _ _ => rfl⟩
    unfold Oper.wp
    simp [execOp, ho, resolve, invoke, builtin, hs, hx, hrun, Result.andThen]
    exact this
  | some p =>
    subst had
    refine wp_append_own w s x 28 ho B 43 i0 (.agg #[.int .i64 0, .int .i64 0]) 2 16 Tryz.underlying28 hi hz0 hz1 hz2 rfl (by decide) v out.length (cellsP out) hs R.own p ys.length c (cellsP ys) hx (cellsP_len ys) ?_ (cellsP_one ys) (by unfold maxLen; omega) (by omega) R.le ?_
    · intro j u hu
      rcases hp.at_ with h0 | ⟨b, off, h0, hc⟩
      · subst h0; simp [cellsP] at hu
      · obtain rfl := Option.some.inj h0
        have hadd : (⟨b, off, none⟩ : Addr).add j = ⟨b, off + j, none⟩ := by unfold Addr.add; split <;> simp_all
        rw [hadd]
        have hj : j < ys.length * 2 := by rw [← cellsP_len]; exact (List.getElem?_eq_some_iff.1 hu).1
        obtain ⟨i, hi2 | hi2⟩ : ∃ i, j = i * 2 ∨ j = i * 2 + 1 := ⟨j / 2, by omega⟩
        · subst hi2
          have h1 := (cellsP_at ys i (by omega)).1
          rw [h1] at hu
          obtain rfl := Option.some.inj hu
          exact (hc i (by omega)).1
        · subst hi2
          have h1 := (cellsP_at ys i (by omega)).2
          rw [h1] at hu
          obtain rfl := Option.some.inj hu
          rw [← Nat.add_assoc]
          exact (hc i (by omega)).2
    · intro v' w' hown hgrow _
      exact h v' w' ⟨by rw [cellsP_app, List.length_append]; exact hown, Nat.le_trans R.le hgrow.size⟩ hgrow
end Go.Proofs.YtghjnkfocjjlnaaGreat
end
