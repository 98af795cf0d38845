/- Rows of pairs of the call's own: what stays of them; the rest of a slice. -/
/- Numbers of the index, its order; answers. -/
/- What a walker is told: Range and Count. -/
import Derived.Test.YtghjnkfocjjlnaaGreatT21
import Derived.Lib.SliceRun
import Derived.Test.YtghjnkfocjjlnaaGreatT08
import Derived.Test.YtghjnkfocjjlnaaGreatT06
set_option linter.unusedSimpArgs false
set_option linter.unusedVariables false
section
namespace Go.Proofs.YtghjnkfocjjlnaaGreat
set_option maxRecDepth 100000
set_option linter.unusedVariables false
set_option linter.unusedSimpArgs false
open Go.RowKit
theorem FRel.later {B : Nat} {wr w' : World} {v : Value} {out : List Pr} (h : FRel B wr v out) (hb : Below wr.heap.size wr w') : FRel B w' v out :=
  ⟨ownsRow_same h.own (fun b hv => hb.block b (h.own.lt b hv).2), Nat.le_trans h.le hb.size⟩
theorem Below.growB {B : Nat} {W wr w' : World} {v : Value} {out : List Pr} (h : Below B W wr) (R : FRel B wr v out) (hg : wr.grownBy w' v.ownBlock) : Below B W w' :=
  h.grown hg R.le (fun k hk => (R.own.lt k hk).1)
theorem run_append_none_any {P : Program} {w : World} (base : Nat) (t ty e : TypeId) (i : TypeInfo) (size : Nat) (ht : P.underlying t = some (.slice e)) (hi : P.info? e = some i)
    (v : Value) (n : Nat) (xs : List Value) (hown : w.ownsRow base e size v n xs) (c : Nat) :
    (Builtin.append_ #[t, t] ty #[v, .slice none 0 c]).run P w = .ok v w := by
  rcases hown.2 with ⟨rfl, rfl⟩ | ⟨g, cap, cur, rfl, _, _, hnc, _⟩
  · simp [Builtin.append_, run_underlying ht, sizeOf, typeInfo, hi, Builtin.lenOf, Builtin.firstCells]
  · simp [Builtin.append_, run_underlying ht, sizeOf, typeInfo, hi, Builtin.lenOf, Builtin.firstCells, hnc, storeCells]
/-- As wpo_apps, a nil slice of whatever room. -/
theorem wpo_appn {o : Oper} {a : Act} {K : Act → World → Prop} {Q : Exit → Act → World → Prop} {B : Nat} {w : World} {ys : List Pr} {v : Value} {out : List Pr} {ad : Option Addr} {c : Nat} (s x : Operand)
    (ho : o.op = .call { callee := .builtin .append, args := #[s, x], argTypes := #[28, 28] }) (hs : a.eval s = v) (hx : a.eval x = .slice ad ys.length c) (R : FRel B w v out)
    (hp : PIn w ad c ys) (hlen : out.length + ys.length ≤ 1000001)
    (h : ∀ v' w', FRel B w' v' (out ++ ys) → w.grownBy w' v.ownBlock → K (a.put o.dst v') w') :
    o.wp Tryz.prog a w K Q := by
  cases had : ad with
  | some p => subst had; exact wpo_apps s x ho hs hx R hp (fun e => by simp at e) hlen h
  | none =>
    subst had
    obtain ⟨i0, hi, hz0, hz1, hz2⟩ := info_parts info_pair
    have hys : ys = [] := by
      rcases hp.at_ with h0 | ⟨b, off, h0, _⟩
      · exact h0
      · exact absurd h0 (by simp)
    subst hys
    have hx : a.eval x = .slice none 0 c := hx
    have hrun := run_append_none_any (P := Tryz.prog) (w := w) B 28 o.type 43 i0 2 Tryz.underlying28 hi v out.length (cellsP out) R.own c
    have := h v w (by rw [List.append_nil]; exact R) ⟨rfl, rfl, rfl, Nat.le_refl _, fun _ _ _ => rfl⟩
    unfold Oper.wp
    simp [execOp, ho, resolve, invoke, builtin, hs, hx, hrun, Result.andThen]
    exact this
theorem wp_appn {P' : Array Oper} {rest : List Oper} {o : Oper} {a : Act} {Q : Exit → Act → World → Prop} {B : Nat} {w : World} {ys : List Pr} {v : Value} {out : List Pr} {ad : Option Addr} {c : Nat} (hgd : o.guard = none) (s x : Operand)
    (ho : o.op = .call { callee := .builtin .append, args := #[s, x], argTypes := #[28, 28] }) (hs : a.eval s = v) (hx : a.eval x = .slice ad ys.length c) (R : FRel B w v out)
    (hp : PIn w ad c ys) (hlen : out.length + ys.length ≤ 1000001)
    (h : ∀ v' w', FRel B w' v' (out ++ ys) → w.grownBy w' v.ownBlock → wpList Tryz.prog P' Q rest (a.put o.dst v') w') :
    wpList Tryz.prog P' Q (o :: rest) a w :=
  wpList_plain hgd fun K hK => wpo_appn s x ho hs hx R hp hlen fun v' w' h1 h2 => hK _ _ (h v' w' h1 h2)
end Go.Proofs.YtghjnkfocjjlnaaGreat
end
section
namespace Go.Proofs.YtghjnkfocjjlnaaGreat
set_option maxRecDepth 100000
open Go.RowKit Go.Proofs.YtghjnkfocjjlnaaGreatW.PrintWords Go.Proofs.YtghjnkfocjjlnaaGreatW.PrintLast
set_option linter.unusedVariables false
set_option linter.unusedSimpArgs false
set_option maxRecDepth 100000 in
set_option maxHeartbeats 4000000 in
theorem xsteps_any {W w : World} {P : Pl} {own : Own} {S : Ix} (h : IS W w P own S) :
    Calls Tryz.prog 30 #[pt_ P.px] w fun e w' => e = .returned (.int .i64 S.steps) ∧ w = w' := by
  have R0 := Lib.hid (Run.begin h)
  clear h
  go_enter Tryz.func30, Tryz.ntmps30
  have cx10 := R0.out.is.ixc (k := 10) (fun _ _ => rfl)
  go_wp2_with fail
  go_ret
  exact ⟨rfl, rfl⟩
set_option maxRecDepth 100000 in
set_option maxHeartbeats 4000000 in
theorem xsplits_any {W w : World} {P : Pl} {own : Own} {S : Ix} (h : IS W w P own S) :
    Calls Tryz.prog 32 #[pt_ P.px] w fun e w' => e = .returned (.int .i64 S.splits) ∧ w = w' := by
  have R0 := Lib.hid (Run.begin h)
  clear h
  go_enter Tryz.func32, Tryz.ntmps32
  have cx11 := R0.out.is.ixc (k := 11) (fun _ _ => rfl)
  go_wp2_with fail
  go_ret
  exact ⟨rfl, rfl⟩
set_option maxRecDepth 100000 in
set_option maxHeartbeats 4000000 in
theorem xjoinsN_any {W w : World} {P : Pl} {own : Own} {S : Ix} (h : IS W w P own S) :
    Calls Tryz.prog 33 #[pt_ P.px] w fun e w' => e = .returned (.int .i64 S.joins) ∧ w = w' := by
  have R0 := Lib.hid (Run.begin h)
  clear h
  go_enter Tryz.func33, Tryz.ntmps33
  have cx12 := R0.out.is.ixc (k := 12) (fun _ _ => rfl)
  go_wp2_with fail
  go_ret
  exact ⟨rfl, rfl⟩
set_option maxRecDepth 100000 in
set_option maxHeartbeats 4000000 in
theorem xused_any {W w : World} {P : Pl} {own : Own} {S : Ix} (h : IS W w P own S) :
    Calls Tryz.prog 31 #[pt_ P.px] w fun e w' => e = .returned (.int .i64 (usedO (some S.a))) ∧ w = w' := by
  have R0 := Lib.hid (Run.begin h)
  clear h
  go_enter Tryz.func31, Tryz.ntmps31
  have cx0 := R0.out.is.xa
  go_wp2_with fail
  refine (used_any R0.out.is.arena).mono ?_
  rintro e w' ⟨rfl, rfl⟩
  go_wp2_with fail
  go_ret
  exact ⟨rfl, rfl⟩
theorem ownsRow_zero {w : World} {B : Nat} {e : TypeId} {size : Nat} {v : Value} {n : Nat} {xs : List Value} (h : w.ownsRow B e size v n xs) : w.ownsRow 0 e size v n xs :=
  ⟨h.1, h.2.imp id (fun ⟨g, cap, cur, a1, _, a3⟩ => ⟨g, cap, cur, a1, Nat.zero_le _, a3⟩)⟩
set_option maxRecDepth 100000 in
set_option maxHeartbeats 4000000 in
theorem xclone_any {w : World} {ad : Option Addr} {c : Nat} {l : List Pr} (hp : PIn w ad c l) (hc : ad = none → c = 0) (hlen : l.length ≤ 1000000) :
    Calls Tryz.prog 39 #[.slice ad l.length c] w fun e w' => ∃ ad' c', e = .returned (.slice ad' l.length c') ∧ w'.ownsRow 0 43 2 (.slice ad' l.length c') l.length (cellsP l) ∧ (∀ b, (Value.slice ad' l.length c').ownBlock = some b → w.heap.size ≤ b) ∧ Below w.heap.size w w' := by
  have hq : ∀ (w : World) (a : Option Addr) (n c n' c' : Nat), (binOp .eql 28 (.slice a n c) (.slice none n' c')).run Tryz.prog w = .ok (.bool a.isNone) w := fun w a n c n' c' => Lib.run_eql_slice_nil w _ _ a n c n' c' Tryz.underlying28
  cases ad with
  | none =>
    have hl : l = [] := by
      rcases hp.at_ with h | ⟨b, off, h, _⟩
      · exact h
      · cases h
    subst hl
    obtain rfl := hc rfl
    go_enter Tryz.func39, Tryz.ntmps39
    go_wp2_with fail
    go_ret
    exact ⟨none, 0, rfl, World.ownsRow_nil _ _ _ _, by simp [Value.ownBlock], Below.refl _ _⟩
  | some x =>
    have hf : FRel w.heap.size (w.alloc (.cells #[] 43)) (.slice (some ⟨w.heap.size, 0, none⟩) 0 0) [] :=
      ⟨World.ownsRow_made w #[] 0 (Nat.le_refl _) (by decide) rfl, by simp⟩
    have HF := Lib.hid hf; clear hf
    have HP := Lib.hid (hp.later ((Below.refl w.heap.size w).alloc (Nat.le_refl _) (.cells #[] 43)))
    have LEN := Lib.hid hlen
    obtain ⟨n, hn⟩ : ∃ n, n = l.length := ⟨_, rfl⟩
    have HN := Lib.hid hn
    clear hp hlen hc
    rw [← hn]
    clear hn
    go_enter Tryz.func39, Tryz.ntmps39
    go_wp2_with (at_builtin; refine wp_appn (ys := l) (ad := some x) (c := c) (B := w.heap.size) rfl (.tmp 5) (.tmp 6) rfl rfl (by rw [← HN.out]; rfl) HF.out HP.out (by have := LEN.out; simp; omega) ?_; intro v' w' hr hg; have HR := Lib.hid hr; have HG := Lib.hid (show World.grownBy _ w' (some w.heap.size) from hg); clear hr hg)
    go_ret
    obtain ⟨ad', c', rfl, _⟩ := HR.out.gives
    simp only [List.nil_append]
    have hnn := HN.out
    subst hnn
    have ho := HR.out.own
    simp only [List.nil_append] at ho
    exact ⟨ad', c', rfl, ownsRow_zero ho, fun b hb => (ho.lt b hb).1, ((Below.refl w.heap.size w).alloc (Nat.le_refl _) _).grown HG.out (by simp) (by intro k hk; have h2 := Option.some.inj hk; omega)⟩
theorem PV.pin {w : World} {own : Own} {v : Value} {l : List Pr} (h : PV w own v l) : ∃ ad c, v = .slice ad l.length c ∧ PIn w ad c l ∧ (ad = none → c = 0) := by
  rcases h.1.2 with ⟨rfl, h2⟩ | ⟨g, cap, cur, rfl, hb, hg, hc, hm, _⟩
  · have : l = [] := List.eq_nil_of_length_eq_zero h2
    subst this
    exact ⟨none, 0, rfl, ⟨.inl rfl, Nat.le_refl _, by decide⟩, fun _ => rfl⟩
  · refine ⟨_, cap, rfl, ⟨.inr ⟨g, 0, rfl, fun j hj => ?_⟩, hc, hm⟩, fun e => by cases e⟩
    obtain ⟨h1, h2⟩ := cellsP_at l j hj
    rw [Nat.zero_add, h.1.cellAt _ (by omega), h.1.cellAt _ (by omega)]
    exact ⟨h1, h2⟩
set_option maxRecDepth 100000 in
set_option maxHeartbeats 4000000 in
theorem xanswer_any {W w : World} {P : Pl} {own : Own} {S : Ix} (h : IS W w P own S) {i p : Nat} (hp : P.pts[i]? = some p) (hov : (S.th i).over = true) (hlen : (S.th i).ans.pairs.length ≤ 1000000) :
    Calls Tryz.prog 27 #[pt_ P.px, .int .i64 (i : Int)] w fun e w' => ∃ ad c, e = .returned (.tuple #[.agg #[.int .i64 (S.th i).ans.err, .bool (S.th i).ans.ok, .int .i64 (S.th i).ans.key, .int .i64 (S.th i).ans.val, .int .i64 (S.th i).ans.n, .slice ad (S.th i).ans.pairs.length c], .bool true]) ∧ w'.ownsRow 0 43 2 (.slice ad (S.th i).ans.pairs.length c) (S.th i).ans.pairs.length (cellsP (S.th i).ans.pairs) ∧ (∀ b, (Value.slice ad (S.th i).ans.pairs.length c).ownBlock = some b → w.heap.size ≤ b) ∧ Below w.heap.size w w' := by
  have R0 := Lib.hid (Run.begin h)
  clear h
  have HOV := Lib.hid hov
  clear hov
  have LEN := Lib.hid hlen
  clear hlen
  obtain ⟨nv, pv, ht⟩ := R0.out.is.ths i p hp
  obtain ⟨ad, c, rfl, hpin, hcn⟩ := ht.ps.pin
  obtain ⟨l, hl⟩ : ∃ l, l = (S.th i).ans.pairs := ⟨_, rfl⟩
  rw [← hl] at hpin
  obtain ⟨n, hn⟩ : ∃ n, n = l.length := ⟨_, rfl⟩
  have hbk := ht.blk
  unfold thC at hbk
  rw [← hl, ← hn] at hbk
  have HB0 := Lib.hid hbk
  have HPI := Lib.hid hpin
  have HCN := Lib.hid hcn
  have HL := Lib.hid hl
  have HN := Lib.hid hn
  clear ht hbk hpin hcn hn hl
  have R1 := Lib.hid (R0.out.alloc (.cells #[.int .i64 0, .bool false, .int .i64 0, .int .i64 0, .int .i64 0, .slice none 0 0] 45))
  have K1 := Lib.hid (R0.out.alloc_ka (.cells #[.int .i64 0, .bool false, .int .i64 0, .int .i64 0, .int .i64 0, .slice none 0 0] 45) i)
  have HZ := Lib.hid (R0.out.alloc_fx (b := w.heap.size) rfl #[.int .i64 0, .bool false, .int .i64 0, .int .i64 0, .int .i64 0, .slice none 0 0] 45)
  go_enter Tryz.func27, Tryz.ntmps27
  go_wp2_with fail
  refine (xthread_any R1.out.is hp).mono ?_
  rintro e w' ⟨rfl, rfl⟩
  have B1 := Lib.hid (((Below.refl w.heap.size w).alloc (Nat.le_refl _) (.cells #[.int .i64 0, .bool false, .int .i64 0, .int .i64 0, .int .i64 0, .slice none 0 0] 45)))
  have hb1 := Lib.hid ((B1.out.block p (R0.out.is.th_lt hp)).trans HB0.out)
  have ct10 := cell_blk (i := 10) hb1.out rfl
  have ct11 := cell_blk (i := 11) hb1.out rfl
  have ct12 := cell_blk (i := 12) hb1.out rfl
  have ct13 := cell_blk (i := 13) hb1.out rfl
  have ct14 := cell_blk (i := 14) hb1.out rfl
  have ct15 := cell_blk (i := 15) hb1.out rfl
  have ct9b : (w.alloc (.cells #[.int .i64 0, .bool false, .int .i64 0, .int .i64 0, .int .i64 0, .slice none 0 0] 45)).cell? ⟨p, 9, none⟩ = some (.bool true) := by have h2 := cell_blk (i := 9) hb1.out rfl; rw [h2]; simp [HOV.out]
  have cl := xclone_any (HPI.out.later (((Below.refl w.heap.size w).alloc (Nat.le_refl _) (.cells #[.int .i64 0, .bool false, .int .i64 0, .int .i64 0, .int .i64 0, .slice none 0 0] 45)).alloc (by simp) (.cells #[.int .i64 (S.th i).ans.err, .bool (S.th i).ans.ok, .int .i64 (S.th i).ans.key, .int .i64 (S.th i).ans.val, .int .i64 (S.th i).ans.n, .slice ad n c] 45))) HCN.out (by rw [HL.out]; exact LEN.out)
  rw [← HN.out] at cl
  have CL := Lib.hid cl
  clear cl
  have E0 := Lib.hid (show ((w.alloc (.cells #[.int .i64 0, .bool false, .int .i64 0, .int .i64 0, .int .i64 0, .slice none 0 0] 45)).alloc (.cells #[.int .i64 (S.th i).ans.err, .bool (S.th i).ans.ok, .int .i64 (S.th i).ans.key, .int .i64 (S.th i).ans.val, .int .i64 (S.th i).ans.n, .slice ad n c] 45)).heap[w.heap.size]? = _ from (((Below.refl _ _).alloc (Nat.le_refl _) _).block w.heap.size (by simp)).trans (heap_alloc_new w _))
  have E1 := Lib.hid (show ((w.alloc (.cells #[.int .i64 0, .bool false, .int .i64 0, .int .i64 0, .int .i64 0, .slice none 0 0] 45)).alloc (.cells #[.int .i64 (S.th i).ans.err, .bool (S.th i).ans.ok, .int .i64 (S.th i).ans.key, .int .i64 (S.th i).ans.val, .int .i64 (S.th i).ans.n, .slice ad n c] 45)).heap[w.heap.size + 1]? = some (.cells #[.int .i64 (S.th i).ans.err, .bool (S.th i).ans.ok, .int .i64 (S.th i).ans.key, .int .i64 (S.th i).ans.val, .int .i64 (S.th i).ans.n, .slice ad n c] 45 (0, 0)) from by have h := heap_alloc_new (w.alloc (.cells #[.int .i64 0, .bool false, .int .i64 0, .int .i64 0, .int .i64 0, .slice none 0 0] 45)) (.cells #[.int .i64 (S.th i).ans.err, .bool (S.th i).ans.ok, .int .i64 (S.th i).ans.key, .int .i64 (S.th i).ans.val, .int .i64 (S.th i).ans.n, .slice ad n c] 45); simpa using h)
  go_wp2_with fail
  refine CL.out.mono ?_
  rintro e w2 ⟨ad2, c2, rfl, ho2, hf2, b2⟩
  clear ct10 ct11 ct12 ct13 ct14 ct15 ct9b
  have z2 := b2.size
  simp at z2
  have E20 := Lib.hid ((b2.block w.heap.size (by simp; omega)).trans E0.out)
  have E21 := Lib.hid ((b2.block (w.heap.size + 1) (by simp)).trans E1.out)
  have HO2 := Lib.hid ho2
  have HF2 := Lib.hid hf2
  have BB := Lib.hid ((((Below.refl w.heap.size w).alloc (Nat.le_refl _) (.cells #[.int .i64 0, .bool false, .int .i64 0, .int .i64 0, .int .i64 0, .slice none 0 0] 45)).alloc (by simp) (.cells #[.int .i64 (S.th i).ans.err, .bool (S.th i).ans.ok, .int .i64 (S.th i).ans.key, .int .i64 (S.th i).ans.val, .int .i64 (S.th i).ans.n, .slice ad n c] 45)).trans (b2.mono (by simp; omega)))
  clear ho2 hf2 b2
  have y0 := cell_blk (i := 0) E20.out rfl
  have x0 := cell_blk (i := 0) E21.out rfl
  have fy0 := free_blk (i := 0) E20.out
  have fx0 := free_blk (i := 0) E21.out
  have y1 := cell_blk (i := 1) E20.out rfl
  have x1 := cell_blk (i := 1) E21.out rfl
  have fy1 := free_blk (i := 1) E20.out
  have fx1 := free_blk (i := 1) E21.out
  have y2 := cell_blk (i := 2) E20.out rfl
  have x2 := cell_blk (i := 2) E21.out rfl
  have fy2 := free_blk (i := 2) E20.out
  have fx2 := free_blk (i := 2) E21.out
  have y3 := cell_blk (i := 3) E20.out rfl
  have x3 := cell_blk (i := 3) E21.out rfl
  have fy3 := free_blk (i := 3) E20.out
  have fx3 := free_blk (i := 3) E21.out
  have y4 := cell_blk (i := 4) E20.out rfl
  have x4 := cell_blk (i := 4) E21.out rfl
  have fy4 := free_blk (i := 4) E20.out
  have fx4 := free_blk (i := 4) E21.out
  have y5 := cell_blk (i := 5) E20.out rfl
  have x5 := cell_blk (i := 5) E21.out rfl
  have fy5 := free_blk (i := 5) E20.out
  have fx5 := free_blk (i := 5) E21.out
  go_wp2_with fail
  have hz0 : w.heap.size < w2.heap.size := by omega
  have hz1 : w.heap.size + 1 < w2.heap.size := by omega
  refine bodyPost_ret (v := .tuple #[.agg #[.int .i64 (S.th i).ans.err, .bool (S.th i).ans.ok, .int .i64 (S.th i).ans.key, .int .i64 (S.th i).ans.val, .int .i64 (S.th i).ans.n, .slice ad2 n c2], .bool true]) (by simp [results, Tryz.results27, go_sem, hz0, hz1, y0, fy0, y1, fy1, y2, fy2, y3, fy3, y4, fy4, y5, fy5]) rfl ?_
  have e1 := HN.out
  have e2 := HL.out
  subst e1
  subst e2
  refine ⟨ad2, c2, rfl, ?_, fun b hb => ?_, ?_⟩
  · refine ownsRow_same HO2.out (fun b hb => ?_)
    have h1 := HF2.out b hb
    simp at h1
    have n0 : b ≠ w.heap.size := by omega
    have n1 : b ≠ w.heap.size + 1 := by omega
    simp only [setCell_other _ n0, setCell_other _ n1]
  · have h1 := HF2.out b hb
    simp at h1
    omega
  · exact ((((((BB.out.setCell (by simp) _).setCell (by simp) _).setCell (by simp) _).setCell (by simp) _).setCell (by simp) _).setCell (by simp) _).setCell (by simp) _
set_option maxRecDepth 100000 in
set_option maxHeartbeats 4000000 in
theorem xcloneI_any {w : World} {ad : Option Addr} {c : Nat} {l : List Int} (h : IntsIn w ad c l) (hl : l.length ≤ 1000000) :
    Calls Tryz.prog 44 #[.slice ad l.length c] w fun e w' => ∃ v, e = .returned v ∧ w'.ownsRow 0 3 1 v l.length (l.map (Value.int .i64)) ∧ Below w.heap.size w w' ∧ ∀ b, v.ownBlock = some b → w.heap.size ≤ b := by
  obtain ⟨i0, hi, hz0, hz1, hz2⟩ := info_parts info_int
  have hq : ∀ (w : World) (a : Option Addr) (n c n' c' : Nat), (binOp .eql 22 (.slice a n c) (.slice none n' c')).run Tryz.prog w = .ok (.bool a.isNone) w := fun w a n c n' c' => Lib.run_eql_slice_nil w _ _ a n c n' c' Tryz.underlying22
  rcases h with ⟨rfl, rfl, rfl⟩ | ⟨x, rfl, hc⟩
  · go_enter Tryz.func44, Tryz.ntmps44
    go_wp2
    go_ret
    exact ⟨_, rfl, World.ownsRow_nil _ _ _ _, Below.refl _ _, by simp [Value.ownBlock]⟩
  · have hnews : ∀ j u, (l.map (Value.int .i64))[j]? = some u → (w.alloc (.cells #[] 3)).cell? (x.add j) = some u := by
      intro j u hu
      rw [List.getElem?_map] at hu
      obtain ⟨n, hn, rfl⟩ := Option.map_eq_some_iff.1 hu
      obtain ⟨hj, rfl⟩ := List.getElem?_eq_some_iff.1 hn
      have := hc j hj
      exact (((Below.refl w.heap.size w).alloc (Nat.le_refl _) _).cell (World.block_lt_of_cell? w _ this)).trans this
    have hm : (w.alloc (.cells #[] 3)).ownsRow w.heap.size 3 1 (.slice (some ⟨w.heap.size, 0, none⟩) 0 0) 0 [] := World.ownsRow_made w #[] 0 (Nat.le_refl _) (by decide) rfl
    have H1 := Lib.hid hnews; clear hnews
    have H2 := Lib.hid hm; clear hm
    have HC := Lib.hid hc; clear hc
    go_enter Tryz.func44, Tryz.ntmps44
    go_wp2_with (at_builtin; refine wpList_append_own _ rfl _ _ 22 rfl w.heap.size 3 i0 (.int .i64 0) 1 8 Tryz.underlying22 hi hz0 hz1 hz2 rfl (by decide) _ _ _ rfl H2.out x l.length c (l.map (Value.int .i64)) rfl (by simp) H1.out ?c2 ?c3 ?c4 ?c5 ?_)
    case c2 => intro u hu; obtain ⟨n, _, rfl⟩ := List.mem_map.1 hu; rfl
    case c3 => unfold maxLen; omega
    case c4 => omega
    case c5 => simp
    intro v' w' hown hgrow _
    go_wp2
    go_ret
    have hb : Below w.heap.size w w' := (((Below.refl w.heap.size w).alloc (Nat.le_refl _) _).grown hgrow (by simp) (by intro k hk; simp [Value.ownBlock] at hk; omega))
    exact ⟨v', rfl, ⟨hown.1, hown.2.imp id (fun ⟨g, cap, cur, a1, _, a3⟩ => ⟨g, cap, cur, a1, Nat.zero_le _, a3⟩)⟩, hb, fun b hb => (hown.lt b hb).1⟩
set_option maxRecDepth 100000 in
set_option maxHeartbeats 4000000 in
theorem xorder_any {W w : World} {P : Pl} {own : Own} {S : Ix} (h : IS W w P own S) (hlen : S.order.length ≤ 1000000) :
    Calls Tryz.prog 28 #[pt_ P.px] w fun e w' => ∃ v, e = .returned v ∧ w'.ownsRow 0 3 1 v S.order.length (intsV S.order) ∧ (∀ b, v.ownBlock = some b → w.heap.size ≤ b) ∧ Below w.heap.size w w' := by
  have R0 := Lib.hid (Run.begin h)
  clear h
  obtain ⟨tv, ov, hx⟩ := R0.out.is.ix
  obtain ⟨l, hl⟩ : ∃ l, l = S.order := ⟨_, rfl⟩
  have ho := hx.ord
  rw [← hl] at ho hlen ⊢
  have hin : ∃ ad c, ov = .slice ad l.length c ∧ IntsIn w ad c l := by
    rcases ho.2 with ⟨rfl, h2⟩ | ⟨g, cap, cur, rfl, _⟩
    · have : l = [] := List.eq_nil_of_length_eq_zero h2
      subst this; exact ⟨none, 0, rfl, .inl ⟨rfl, rfl, rfl⟩⟩
    · refine ⟨_, cap, rfl, .inr ⟨_, rfl, fun j hj => ?_⟩⟩
      have hadd : (⟨g, 0, none⟩ : Addr).add j = ⟨g, j, none⟩ := by unfold Addr.add; split <;> simp_all
      rw [hadd, ho.cellAt j (by omega)]
      simp [intsV, hj]
  obtain ⟨ad, c, rfl, hin⟩ := hin
  have cl := xcloneI_any hin hlen
  obtain ⟨n, hn⟩ : ∃ n, n = l.length := ⟨_, rfl⟩
  rw [← hn] at cl
  have c9 := cell_blk (i := 9) hx.blk rfl
  have c9b : w.cell? ⟨P.px, 9, none⟩ = some (.slice ad n c) := by rw [hn]; exact c9
  have CL := Lib.hid cl
  have HN := Lib.hid hn
  clear c9 cl hn hin hx ho hl hlen
  go_enter Tryz.func28, Tryz.ntmps28
  go_wp2_with fail
  refine CL.out.mono ?_
  rintro e w2 ⟨v2, rfl, ho2, b2, hf2⟩
  have HO2 := Lib.hid ho2
  have HF2 := Lib.hid hf2
  have BB := Lib.hid b2
  clear ho2 hf2 b2 c9b CL
  go_wp2_with fail
  go_ret
  exact ⟨v2, rfl, by rw [← HN.out]; exact HO2.out, HF2.out, BB.out⟩
end Go.Proofs.YtghjnkfocjjlnaaGreat
end
section
namespace Go.Proofs.YtghjnkfocjjlnaaGreat
set_option maxRecDepth 100000
open Go.RowKit Go.Proofs.YtghjnkfocjjlnaaGreatW.PrintWords Go.Proofs.YtghjnkfocjjlnaaGreatW.PrintLast
set_option linter.unusedSimpArgs false
set_option linter.unusedVariables false
/-- A walker at p (its left nodes L), what is told so far at g. -/
structure GR (B : Nat) (W0 wr : World) (p g : Nat) (po : Option Addr) (lo hi L : Int) (out : List Pr) : Prop where
  below : Below B W0 wr
  walker : wr.heap[p]? = some (.cells #[.pointer po, .int .i64 lo, .int .i64 hi, .int .i64 L, .func (.func 147) #[] #[.pointer (some ⟨g, 0, none⟩)]] 225 (0, 0))
  told : ∃ v, wr.heap[g]? = some (.cells #[v] 28 (0, 0)) ∧ FRel B wr v out
  ne : p ≠ g
  lp : B ≤ p
  lg : B ≤ g
theorem GR.size {B : Nat} {W0 wr : World} {p g : Nat} {po : Option Addr} {lo hi L : Int} {out : List Pr} (h : GR B W0 wr p g po lo hi L out) : p < wr.heap.size := (Array.getElem?_eq_some_iff.1 h.walker).1
/-- No node's block has turned. -/
def NK (w w' : World) : Prop := ∀ (b : Nat) (cs : Array Value) (fr : Nat × Nat), w.heap[b]? = some (.cells cs 177 fr) → w'.heap[b]? = some (.cells cs 177 fr)
theorem NK.refl (w : World) : NK w w := fun _ _ _ h => h
theorem NK.trans {a b c : World} (h : NK a b) (k : NK b c) : NK a c := fun x cs fr hx => k x cs fr (h x cs fr hx)
theorem NK.of_below {w w' : World} (hb : Below w.heap.size w w') : NK w w' := fun b cs fr h => (hb.block b (Array.getElem?_eq_some_iff.1 h).1).trans h
theorem NK.set {w : World} {b i : Nat} {cs : Array Value} {ty : TypeId} {fr : Nat × Nat} (hb : w.heap[b]? = some (.cells cs ty fr)) (hty : ty ≠ 177) (v : Value) : NK w (w.setCell ⟨b, i, none⟩ v) := fun x cx fx hx => by
  have hne : x ≠ b := fun e => by subst e; rw [hb] at hx; simp at hx; exact hty hx.2.1
  exact (heap_setCell_other w ⟨b, i, none⟩ x v hne).trans hx
theorem grown_none {w w' : World} (hb : Below w.heap.size w w') : w.grownBy w' none := ⟨hb.os, hb.tape, hb.output, hb.size, fun k hk _ => hb.block k hk⟩
theorem FRel.other {B g : Nat} {w : World} {v : Value} {out : List Pr} {cs : Array Value} {ty : TypeId} {fr : Nat × Nat} (h : FRel B w v out) (hg : w.heap[g]? = some (.cells cs ty fr)) (hty : ty ≠ 43) : v.ownBlock ≠ some g := fun e => by
  obtain ⟨cur, hc⟩ := ownsRow_block h.own e
  rw [hc] at hg
  simp at hg
  exact hty hg.2.1.symm
theorem NK.grown {B : Nat} {w w' : World} {v : Value} {out : List Pr} (R : FRel B w v out) (hg : w.grownBy w' v.ownBlock) : NK w w' := fun x cx fx hx =>
  (hg.block x (Array.getElem?_eq_some_iff.1 hx).1 (fun e => by exact FRel.other (ty := 177) R hx (by decide) e.symm)).trans hx
theorem GR.later {B : Nat} {W0 wr w' : World} {p g : Nat} {po : Option Addr} {lo hi L : Int} {out : List Pr} (h : GR B W0 wr p g po lo hi L out) (hb : Below wr.heap.size wr w') : GR B W0 w' p g po lo hi L out := by
  obtain ⟨v, h1, h2⟩ := h.told
  have hg := (Array.getElem?_eq_some_iff.1 h1).1
  exact ⟨h.below.trans (hb.mono h2.le), (hb.block p h.size).trans h.walker, ⟨v, (hb.block g hg).trans h1, h2.later hb⟩, h.ne, h.lp, h.lg⟩
theorem GR.le {B : Nat} {W0 wr : World} {p g : Nat} {po : Option Addr} {lo hi L : Int} {out : List Pr} (h : GR B W0 wr p g po lo hi L out) : B ≤ wr.heap.size := by have := h.lp; have := h.size; omega
theorem GR.left {B : Nat} {W0 wr : World} {p g : Nat} {po : Option Addr} {lo hi L : Int} {out : List Pr} (h : GR B W0 wr p g po lo hi L out) (L' : Int) : GR B W0 (wr.setCell ⟨p, 3, none⟩ (.int .i64 L')) p g po lo hi L' out := by
  obtain ⟨v, h1, h2⟩ := h.told
  have hp := heap_setCell_same wr p 3 _ _ (.int .i64 L') h.walker
  refine ⟨h.below.setCell (p := ⟨p, 3, none⟩) h.lp _, hp, ⟨v, (heap_setCell_other wr ⟨p, 3, none⟩ g (.int .i64 L') (fun e => h.ne e.symm)).trans h1, ?_⟩, h.ne, h.lp, h.lg⟩
  exact ⟨ownsRow_setCell_other h2.own (h2.other h.walker (by decide)) _, by have := h2.le; simp; omega⟩
set_option maxRecDepth 100000 in
set_option maxHeartbeats 4000000 in
theorem tell_any {B : Nat} {W0 w : World} {p g : Nat} {po : Option Addr} {lo hi L : Int} {out : List Pr} (h : GR B W0 w p g po lo hi L out) (k v : Int) (hlen : out.length ≤ 1000001) :
    Calls Tryz.prog 147 #[.agg #[.int .i64 k, .int .i64 v], .pointer (some ⟨g, 0, none⟩)] w fun e w' => e = .returned (.tuple #[]) ∧ GR B W0 w' p g po lo hi L (out ++ [(k, v)]) ∧ NK w w' := by
  obtain ⟨v0, hg, hf⟩ := h.told
  have hlg := (Array.getElem?_eq_some_iff.1 hg).1
  have hlp := h.size
  have HG := Lib.hid hg; clear hg
  have HF := Lib.hid hf; clear hf
  have HH := Lib.hid h; clear h
  have R2 := Lib.hid ((HF.out.alloc (.cells #[.int .i64 k, .int .i64 v] 43)).alloc (.cells #[.int .i64 k, .int .i64 v] 43))
  have hg2 : ((w.alloc (.cells #[.int .i64 k, .int .i64 v] 43)).alloc (.cells #[.int .i64 k, .int .i64 v] 43)).heap[w.heap.size + 1]? = some (.cells #[.int .i64 k, .int .i64 v] 43 (0, 0)) := by
    have := heap_alloc_new (w.alloc (.cells #[.int .i64 k, .int .i64 v] 43)) (.cells #[.int .i64 k, .int .i64 v] 43)
    simpa using this
  have G2 := Lib.hid hg2; clear hg2
  have H2 := Lib.hid (HH.out.later (((Below.refl _ _).alloc (Nat.le_refl _) (.cells #[.int .i64 k, .int .i64 v] 43)).alloc (by simp) (.cells #[.int .i64 k, .int .i64 v] 43)))
  have J2 := Lib.hid ((((Below.refl w.heap.size w).alloc (Nat.le_refl _) (.cells #[.int .i64 k, .int .i64 v] 43)).alloc (by simp) (.cells #[.int .i64 k, .int .i64 v] 43)).block g hlg |>.trans HG.out)
  have c0 := cell_blk (i := 0) HG.out rfl
  go_enter Tryz.func147, Tryz.ntmps147
  go_wp2_with (at_builtin; go_loud (refine wp_appr (y := (k, v)) rfl (.tmp 3) (.tmp 5) rfl rfl rfl R2.out G2.out hlen ?_; intro v1 w1 r1 g1; have R3 := Lib.hid r1; have B3 := Lib.hid (Below.growB H2.out.below R2.out g1); have P3 := Lib.hid ((g1.block p H2.out.size (fun e => R2.out.other H2.out.walker (by decide) e.symm)).trans H2.out.walker); have K3 := Lib.hid (NK.grown R2.out g1); have J3 := Lib.hid ((g1.block g (Array.getElem?_eq_some_iff.1 J2.out).1 (fun e => R2.out.other J2.out (by decide) e.symm)).trans J2.out); have x0 := cell_blk (i := 0) J3.out rfl; have f0 := free_blk (i := 0) J3.out; obtain ⟨ad1, c1, rfl, p1, n1⟩ := r1.gives; clear r1 g1 p1 n1))
  go_end0
  have r3 := R3.out
  rw [show (out ++ [(k, v)]).length = out.length + 1 by simp] at r3
  refine ⟨rfl, ⟨B3.out.setCell (p := ⟨g, 0, none⟩) HH.out.lg _, (heap_setCell_other w1 ⟨g, 0, none⟩ p _ HH.out.ne).trans P3.out, ⟨_, heap_setCell_same w1 g 0 _ _ _ J3.out, ownsRow_setCell_other r3.own (FRel.other (ty := 28) r3 J3.out (by decide)) _, by have := r3.le; simp; omega⟩, HH.out.ne, HH.out.lp, HH.out.lg⟩, ((NK.of_below (((Below.refl w.heap.size w).alloc (Nat.le_refl _) (.cells #[.int .i64 k, .int .i64 v] 43)).alloc (by simp) (.cells #[.int .i64 k, .int .i64 v] 43))).trans K3.out).trans (NK.set J3.out (by decide) _)⟩
/-- A walker at p (its left nodes L), what is told so far at g. -/
structure CR (B : Nat) (W0 wr : World) (p g : Nat) (po : Option Addr) (lo hi L : Int) (out : List Pr) : Prop where
  below : Below B W0 wr
  walker : wr.heap[p]? = some (.cells #[.pointer po, .int .i64 lo, .int .i64 hi, .int .i64 L, .func (.func 175) #[] #[.pointer (some ⟨g, 0, none⟩)]] 225 (0, 0))
  told : wr.heap[g]? = some (.cells #[.int .i64 (out.length : Int)] 3 (0, 0))
  ne : p ≠ g
  lp : B ≤ p
  lg : B ≤ g
theorem CR.size {B : Nat} {W0 wr : World} {p g : Nat} {po : Option Addr} {lo hi L : Int} {out : List Pr} (h : CR B W0 wr p g po lo hi L out) : p < wr.heap.size := (Array.getElem?_eq_some_iff.1 h.walker).1
theorem CR.le {B : Nat} {W0 wr : World} {p g : Nat} {po : Option Addr} {lo hi L : Int} {out : List Pr} (h : CR B W0 wr p g po lo hi L out) : B ≤ wr.heap.size := by have := h.lp; have := h.size; omega
theorem CR.later {B : Nat} {W0 wr w' : World} {p g : Nat} {po : Option Addr} {lo hi L : Int} {out : List Pr} (h : CR B W0 wr p g po lo hi L out) (hb : Below wr.heap.size wr w') : CR B W0 w' p g po lo hi L out :=
  ⟨h.below.trans (hb.mono h.le), (hb.block p h.size).trans h.walker, (hb.block g (Array.getElem?_eq_some_iff.1 h.told).1).trans h.told, h.ne, h.lp, h.lg⟩
theorem CR.left {B : Nat} {W0 wr : World} {p g : Nat} {po : Option Addr} {lo hi L : Int} {out : List Pr} (h : CR B W0 wr p g po lo hi L out) (L' : Int) : CR B W0 (wr.setCell ⟨p, 3, none⟩ (.int .i64 L')) p g po lo hi L' out :=
  ⟨h.below.setCell (p := ⟨p, 3, none⟩) h.lp _, heap_setCell_same wr p 3 _ _ (.int .i64 L') h.walker, (heap_setCell_other wr ⟨p, 3, none⟩ g (.int .i64 L') (fun e => h.ne e.symm)).trans h.told, h.ne, h.lp, h.lg⟩
end Go.Proofs.YtghjnkfocjjlnaaGreat
end
