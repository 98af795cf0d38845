/- The reference's arena: one record or one cell more. -/
import Derived.Test.YtbndhaocohomjaaRefC
import Derived.Test.YtbndhaocohomjaaWMore
namespace Go.Proofs.Ytbndhaocohomjaa
set_option maxRecDepth 100000
open Go.RowKit Go.Proofs.YtbndhaocohomjaaW.PrintWords Go.Proofs.YtbndhaocohomjaaW.PrintLast
set_option linter.unusedVariables false
set_option linter.unusedSimpArgs false

theorem info_rec : (Try.prog.info? 71).map (fun i => (i.zero, i.size, i.bytes)) = some (some (.agg #[.int .i64 0, .slice none 0 0, .bool false, .int .i64 0]), 4, 48) := by kernel_rfl

/-- append([]int(nil), vals...) -/
theorem wpo_nilI {o : Oper} {a : Act} {K : Act → World → Prop} {Q : Exit → Act → World → Prop} {w : World} {l : List Int} {ad : Option Addr} {c : Nat} (s x : Operand)
    (ho : o.op = .call { callee := .builtin .append, args := #[s, x], argTypes := #[42, 42] }) (hs : a.eval s = .slice none 0 0) (hx : a.eval x = .slice ad l.length c)
    (hp : IntsIn w ad c l) (hlen : l.length ≤ 12)
    (h : ∀ v w', w'.ownsRow 0 3 1 v l.length (l.map (Value.int .i64)) → Below w.heap.size w w' → (∀ b, v.ownBlock = some b → w.heap.size ≤ b) → K (a.put o.dst v) w') :
    o.wp Try.prog a w K Q := by
  obtain ⟨i0, hi, hz0, hz1, hz2⟩ := info_parts info_int
  rcases hp with ⟨rfl, rfl, rfl⟩ | ⟨p, rfl, hc⟩
  · have hx : a.eval x = .slice none 0 0 := hx
    have hrun : (Builtin.append_ #[42, 42] o.type #[.slice none 0 0, .slice none 0 0]).run Try.prog w = .ok (.slice none 0 0) w := by
      simp [Builtin.append_, run_underlying Try.underlying42, sizeOf, typeInfo, hi, Builtin.lenOf, Builtin.firstCells]
    have := h (.slice none 0 0) w (World.ownsRow_nil _ _ _ _) (Below.refl _ _) (by simp [Value.ownBlock])
    unfold Oper.wp
    simp [execOp, ho, resolve, invoke, builtin, hs, hx, hrun, Result.andThen]
    exact this
  · refine wp_append_own w s x 42 ho w.heap.size 3 i0 (.int .i64 0) 1 8 Try.underlying42 hi hz0 hz1 hz2 rfl (by decide) (.slice none 0 0) 0 [] hs (World.ownsRow_nil _ _ _ _) p l.length c (l.map (Value.int .i64)) hx (by simp) ?_ (fun u hu => by obtain ⟨y, _, rfl⟩ := List.mem_map.1 hu; rfl) (by unfold maxLen; omega) (by omega) (Nat.le_refl _) ?_
    · intro j u hu
      rw [List.getElem?_map] at hu
      obtain ⟨n, hn, rfl⟩ := Option.map_eq_some_iff.1 hu
      obtain ⟨hj, rfl⟩ := List.getElem?_eq_some_iff.1 hn
      exact hc j hj
    · intro v' w' hown hgrow _
      rw [Nat.zero_add, List.nil_append] at hown
      have hb : Below w.heap.size w w' := (Below.refl w.heap.size w).grown hgrow (Nat.le_refl _) (by intro k hk; simp [Value.ownBlock] at hk)
      exact h v' w' ⟨hown.1, hown.2.imp id (fun ⟨g, cap, cur, a1, _, a3⟩ => ⟨g, cap, cur, a1, Nat.zero_le _, a3⟩)⟩ hb (fun b hb => (hown.lt b hb).1)
theorem step_nilI {ops : Array Oper} {o : Oper} {N : Option Tmp} {a : Act} {K : Act → World → Prop} {Q : Exit → Act → World → Prop} {w : World} {l : List Int} {ad : Option Addr} {c : Nat} (hw : Region.wanted o (yielded ops a.tmps) = true) (hN : o.dst = N) (s x : Operand)
    (ho : o.op = .call { callee := .builtin .append, args := #[s, x], argTypes := #[42, 42] }) (hs : a.eval s = .slice none 0 0) (hx : a.eval x = .slice ad l.length c)
    (hp : IntsIn w ad c l) (hlen : l.length ≤ 12)
    (h : ∀ v w', w'.ownsRow 0 3 1 v l.length (l.map (Value.int .i64)) → Below w.heap.size w w' → (∀ b, v.ownBlock = some b → w.heap.size ≤ b) → K (a.put N v) w') :
    if Region.wanted o (yielded ops a.tmps) = true then Oper.wp Try.prog o a w K Q else K (a.put N undef) w := by
  rw [if_pos hw]
  subst hN
  exact wpo_nilI s x ho hs hx hp hlen h

/-- append(a.L, Rec{..}), and what the store of the slice then makes. -/
theorem wpo_rec1 {o : Oper} {a : Act} {K : Act → World → Prop} {Q : Exit → Act → World → Prop} {w0 w : World} {p q : Nat} {ar : Ar} {F : Nat → Prop} {sv v : Value} {row : List Value} {s : Slot} (sO xO : Operand)
    (ho : o.op = .call { callee := .builtin .append, args := #[sO, xO], argTypes := #[58, 58] }) (hs : a.eval sO = sv) (hx : a.eval xO = .slice (some ⟨q, 0, none⟩) 1 1) (R : RfAt w0 p ar F sv row) (hb : Below w0.heap.size w0 w)
    (hq : w.heap[q]? = some (.cells #[.int .i64 s.kind, v, .bool (decide (s.kind = 0)), .int .i64 (rh s)] 71 (0, 0))) (hv : w.ownsRow 0 3 1 v (rl s).length ((rl s).map (Value.int .i64))) (hvf : ∀ b, v.ownBlock = some b → w0.heap.size ≤ b) (hv1 : v.oneCell' = true)
    (hroom : (ar.slots.length : Int) < ar.room) (hcell : s.kind = 0 → ∃ x, s.vals = [x])
    (h : ∀ g cap w2, w2.cell? ⟨p, 1, none⟩ = some sv → w2.frozen? ⟨p, 1, none⟩ = false → p < w2.heap.size → RMade F w0 p (some ⟨ar.room, ar.slots ++ [s], ar.steps⟩) (w2.setCell ⟨p, 1, none⟩ (.slice (some ⟨g, 0, none⟩) (ar.slots.length + 1) cap)) →
      K (a.put o.dst (.slice (some ⟨g, 0, none⟩) (ar.slots.length + 1) cap)) w2) :
    o.wp Try.prog a w K Q := by
  obtain ⟨i0, hi, hz0, hz1, hz2⟩ := info_parts info_rec
  have Rw := R.below hb
  have hmost := R.ok.most
  have hpne : some p ≠ sv.ownBlock := fun e => by
    obtain ⟨c, hc⟩ := ownsRow_block R.own e.symm
    rw [R.blk] at hc; simp at hc
  have hpw := Rw.lt p Rw.footp
  refine wp_append_lies (P := Try.prog) w sO xO 58 ho 0 71 i0 _ 4 48 Try.underlying58 hi hz0 hz1 hz2 rfl (by decide) sv ar.slots.length row hs Rw.own ⟨q, 0, none⟩ 1 1 [.int .i64 s.kind, v, .bool (decide (s.kind = 0)), .int .i64 (rh s)] hx rfl (World.news_of_block hq) (fun u hu => by simp at hu; rcases hu with rfl | rfl | rfl | rfl <;> first | rfl | exact hv1) (by decide) (by unfold maxLen; omega) (by omega) (Nat.zero_le _) _ rfl ?_
  intro g cap w2 hown hgrow hat hlt
  obtain ⟨F', a1, a2, a3⟩ := Rw.more hroom hcell hv hown hgrow (hat.imp id (fun e => by rw [e]; exact Nat.le_refl _)) hlt
  refine h g cap w2 ((hgrow.cell_far ⟨p, 1, none⟩ hpw hpne).trans Rw.cells.2.1) ((hgrow.frozen_far ⟨p, 1, none⟩ hpw hpne).trans (Rw.free 1)) (Nat.lt_of_lt_of_le hpw hgrow.size) ⟨F', ⟨_, _, _, rfl, a1⟩, (Frame.of_below hb).trans a2 (fun _ _ h => h), fun b hb' => (a3 b hb').imp id (fun h => h.elim (hvf b) (fun h => by have := hb.size; omega))⟩
theorem wp_rec1 {P' : Array Oper} {rest : List Oper} {o : Oper} {a : Act} {Q : Exit → Act → World → Prop} {w0 w : World} {p q : Nat} {ar : Ar} {F : Nat → Prop} {sv v : Value} {row : List Value} {s : Slot} (hgd : o.guard = none) (sO xO : Operand)
    (ho : o.op = .call { callee := .builtin .append, args := #[sO, xO], argTypes := #[58, 58] }) (hs : a.eval sO = sv) (hx : a.eval xO = .slice (some ⟨q, 0, none⟩) 1 1) (R : RfAt w0 p ar F sv row) (hb : Below w0.heap.size w0 w)
    (hq : w.heap[q]? = some (.cells #[.int .i64 s.kind, v, .bool (decide (s.kind = 0)), .int .i64 (rh s)] 71 (0, 0))) (hv : w.ownsRow 0 3 1 v (rl s).length ((rl s).map (Value.int .i64))) (hvf : ∀ b, v.ownBlock = some b → w0.heap.size ≤ b) (hv1 : v.oneCell' = true)
    (hroom : (ar.slots.length : Int) < ar.room) (hcell : s.kind = 0 → ∃ x, s.vals = [x])
    (h : ∀ g cap w2, w2.cell? ⟨p, 1, none⟩ = some sv → w2.frozen? ⟨p, 1, none⟩ = false → p < w2.heap.size → RMade F w0 p (some ⟨ar.room, ar.slots ++ [s], ar.steps⟩) (w2.setCell ⟨p, 1, none⟩ (.slice (some ⟨g, 0, none⟩) (ar.slots.length + 1) cap)) →
      wpList Try.prog P' Q rest (a.put o.dst (.slice (some ⟨g, 0, none⟩) (ar.slots.length + 1) cap)) w2) :
    wpList Try.prog P' Q (o :: rest) a w :=
  wpList_plain hgd fun K hK => wpo_rec1 sO xO ho hs hx R hb hq hv hvf hv1 hroom hcell fun g cap w2 h1 h2 h3 h4 => hK _ _ (h g cap w2 h1 h2 h3 h4)
theorem step_rec1 {ops : Array Oper} {o : Oper} {N : Option Tmp} {a : Act} {K : Act → World → Prop} {Q : Exit → Act → World → Prop} {w0 w : World} {p q : Nat} {ar : Ar} {F : Nat → Prop} {sv v : Value} {row : List Value} {s : Slot} (hw : Region.wanted o (yielded ops a.tmps) = true) (hN : o.dst = N) (sO xO : Operand)
    (ho : o.op = .call { callee := .builtin .append, args := #[sO, xO], argTypes := #[58, 58] }) (hs : a.eval sO = sv) (hx : a.eval xO = .slice (some ⟨q, 0, none⟩) 1 1) (R : RfAt w0 p ar F sv row) (hb : Below w0.heap.size w0 w)
    (hq : w.heap[q]? = some (.cells #[.int .i64 s.kind, v, .bool (decide (s.kind = 0)), .int .i64 (rh s)] 71 (0, 0))) (hv : w.ownsRow 0 3 1 v (rl s).length ((rl s).map (Value.int .i64))) (hvf : ∀ b, v.ownBlock = some b → w0.heap.size ≤ b) (hv1 : v.oneCell' = true)
    (hroom : (ar.slots.length : Int) < ar.room) (hcell : s.kind = 0 → ∃ x, s.vals = [x])
    (h : ∀ g cap w2, w2.cell? ⟨p, 1, none⟩ = some sv → w2.frozen? ⟨p, 1, none⟩ = false → p < w2.heap.size → RMade F w0 p (some ⟨ar.room, ar.slots ++ [s], ar.steps⟩) (w2.setCell ⟨p, 1, none⟩ (.slice (some ⟨g, 0, none⟩) (ar.slots.length + 1) cap)) →
      K (a.put N (.slice (some ⟨g, 0, none⟩) (ar.slots.length + 1) cap)) w2) :
    if Region.wanted o (yielded ops a.tmps) = true then Oper.wp Try.prog o a w K Q else K (a.put N undef) w := by
  rw [if_pos hw]
  subst hN
  exact wpo_rec1 sO xO ho hs hx R hb hq hv hvf hv1 hroom hcell h
theorem add_no {a : Ar} {s : Slot} (h : a.room - (a.slots.length : Int) = 0) : addA a s = (0, 2, a) := by unfold addA; rw [if_pos h]
theorem add_yes {a : Ar} {s : Slot} (h : ¬ (a.room - (a.slots.length : Int) = 0)) : addA a s = ((a.slots.length : Int) + 1, 0, ⟨a.room, a.slots ++ [s], a.steps⟩) := by unfold addA; rw [if_neg h]

set_option maxRecDepth 100000 in
set_option maxHeartbeats 4000000 in
theorem rcell_any {w : World} {p : Nat} {a : Ar} {F : Nat → Prop} (h : RO w p (some a) F) (v : Int) :
    Calls Try.prog 19 #[.pointer (some ⟨p, 0, none⟩), .int .i64 v] w fun e w' => e = .returned (.tuple #[.int .i64 (cellO (some a) v).1, .int .i64 (cellO (some a) v).2.1]) ∧ RMade F w p (cellO (some a) v).2.2 w' := by
  have H0 := Lib.hid h
  obtain ⟨sv, row, h5⟩ := h.unfold
  obtain ⟨c0, c1, c2⟩ := h5.cells
  obtain ⟨sad, scap, rfl, hscap⟩ := h5.slice
  have hf1 := h5.free 1
  have hp1 := h5.lt p h5.footp
  have hfit := h5.ok.fits
  have hmost := h5.ok.most
  have H5 := Lib.hid h5; clear h5 h
  by_cases hfull : a.room - (a.slots.length : Int) = 0
  · have hm : cellO (some a) v = (0, 2, some a) := by simp only [cellO]; rw [add_no hfull]
    have HV := Lib.hid hm; clear hm
    have qg : a.room ≤ (a.slots.length : Int) := by omega
    clear hfull
    go_enter Try.func19, Try.ntmps19
    go_wp2_with fail
    go_quiet (fail)
    go_wp2_with fail
    go_ret2
    exact ⟨by rw [HV.out]; rfl, by rw [HV.out]; exact RMade.of_below H0.out (by exact ⟨rfl, rfl, rfl, Nat.le_refl _, fun _ _ => rfl⟩)⟩
  · have hm : cellO (some a) v = ((a.slots.length : Int) + 1, 0, some ⟨a.room, a.slots ++ [⟨0, [v]⟩], a.steps⟩) := by simp only [cellO]; rw [add_yes hfull]
    have HV := Lib.hid hm; clear hm
    have qg : ¬ (a.room ≤ (a.slots.length : Int)) := by omega
    have hlt : (a.slots.length : Int) < a.room := by omega
    clear hfull
    go_enter Try.func19, Try.ntmps19
    go_wp2_with fail
    go_quiet (fail)
    go_wp2_with (at_builtin; refine wp_rec1 (w0 := w) (s := ⟨0, [v]⟩) (v := .slice none 0 0) rfl (.tmp 20) (.tmp 23) rfl rfl rfl H5.out (by exact Below.alloc (show Below w.heap.size w (w.drewN _) from ⟨rfl, rfl, rfl, Nat.le_refl _, fun _ _ => rfl⟩) (Nat.le_refl _) _) (by exact heap_alloc_new _ _) (by exact World.ownsRow_nil _ _ _ _) (by intro b hb; simp [Value.ownBlock] at hb) (by rfl) hlt (fun _ => ⟨v, rfl⟩) ?_; intro g cap w2 y1 y2 y3 y4; have Y4 := Lib.hid y4; clear y4)
    go_ret2
    exact ⟨by rw [HV.out]; rfl, by rw [HV.out]; exact Y4.out⟩
set_option maxRecDepth 100000 in
set_option maxHeartbeats 4000000 in
theorem rmake_any {w : World} {p : Nat} {a : Ar} {F : Nat → Prop} (h : RO w p (some a) F) (k : Int) {ad : Option Addr} {c : Nat} {l : List Int} (hl : IntsIn w ad c l) :
    Calls Try.prog 18 #[.pointer (some ⟨p, 0, none⟩), .int .i64 k, .slice ad l.length c] w fun e w' => e = .returned (.tuple #[.int .i64 (makeO (some a) k l).1, .int .i64 (makeO (some a) k l).2.1]) ∧ RMade F w p (makeO (some a) k l).2.2 w' := by
  have H0 := Lib.hid h
  obtain ⟨sv, row, h5⟩ := h.unfold
  obtain ⟨c0, c1, c2⟩ := h5.cells
  obtain ⟨sad, scap, rfl, hscap⟩ := h5.slice
  have hf1 := h5.free 1
  have hp1 := h5.lt p h5.footp
  have hfit := h5.ok.fits
  have hmost := h5.ok.most
  have H5 := Lib.hid h5; clear h5 h
  by_cases hk : k < 1
  · have hm : makeO (some a) k l = (0, 1, some a) := by simp only [makeO]; rw [if_pos (.inl hk)]
    have HV := Lib.hid hm; clear hm
    go_enter Try.func18, Try.ntmps18
    go_wp2_with fail
    go_ret2
    exact ⟨by rw [HV.out]; rfl, by rw [HV.out]; exact RMade.of_below H0.out (Below.refl _ _)⟩
  by_cases hlen : 12 < (l.length : Int)
  · have hm : makeO (some a) k l = (0, 1, some a) := by simp only [makeO]; rw [if_pos (.inr hlen)]
    have HV := Lib.hid hm; clear hm
    go_enter Try.func18, Try.ntmps18
    go_wp2_with fail
    go_ret2
    exact ⟨by rw [HV.out]; rfl, by rw [HV.out]; exact RMade.of_below H0.out (Below.refl _ _)⟩
  have hm0 : makeO (some a) k l = ((addA a ⟨k, l⟩).1, (addA a ⟨k, l⟩).2.1, some (addA a ⟨k, l⟩).2.2) := by simp only [makeO]; rw [if_neg (by omega)]
  have HL := Lib.hid hl; clear hl
  by_cases hfull : a.room - (a.slots.length : Int) = 0
  · have hm : makeO (some a) k l = (0, 2, some a) := by rw [hm0, add_no hfull]
    have HV := Lib.hid hm; clear hm
    have qg : a.room ≤ (a.slots.length : Int) := by omega
    clear hfull
    clear hm0
    go_enter Try.func18, Try.ntmps18
    go_wp2_with fail
    go_quiet (fail)
    go_wp2_with fail
    go_ret2
    exact ⟨by rw [HV.out]; rfl, by rw [HV.out]; exact RMade.of_below H0.out (by exact ⟨rfl, rfl, rfl, Nat.le_refl _, fun _ _ => rfl⟩)⟩
  · have hm : makeO (some a) k l = ((a.slots.length : Int) + 1, 0, some ⟨a.room, a.slots ++ [⟨k, l⟩], a.steps⟩) := by rw [hm0, add_yes hfull]
    have HV := Lib.hid hm; clear hm hm0
    have qg : ¬ (a.room ≤ (a.slots.length : Int)) := by omega
    have hlt : (a.slots.length : Int) < a.room := by omega
    clear hfull
    have hk0 : ¬ (k = 0) := by omega
    have hdk : decide ((⟨k, l⟩ : Slot).kind = 0) = false := decide_eq_false hk0
    have hrh : rh ⟨k, l⟩ = 0 := by unfold rh; rw [if_neg hk0]
    have hrl : rl ⟨k, l⟩ = l := by unfold rl; rw [if_neg hk0]
    go_enter Try.func18, Try.ntmps18
    go_wp2_with fail
    go_quiet (fail)
    go_wp2_with fail
    refine start_ (n := 14) (S := fun w' => w'.cell? ⟨p, 1, none⟩ = some (.slice sad a.slots.length scap)) (ds := [13]) #[false, false, false, false, false, false, false, false, false, false, false, false, false, false] (by kernel_rfl) rfl rfl ((by exact c1)) (fun hHeld => ?_)
    refine pure_ (i := 0) (N := some 25) (v := ?_) (a' := ?_) #[true, false, false, false, false, false, false, false, false, false, false, false, false, false] rfl rfl (by kernel_rfl) (fun _ _ _ h => h) (Or.inl ⟨by rfl, ?_⟩) ?_ ?_
    rotate_left
    · intro w'
      go_simp
      with_reducible rfl
    rotate_left
    · simp only [Act.put, List.setIfInBounds_toArray, List.set_cons_zero, List.set_cons_succ, i64_w, i32_w]
      rfl
    refine pure_ (i := 1) (N := some 26) (v := ?_) (a' := ?_) #[true, true, false, false, false, false, false, false, false, false, false, false, false, false] rfl rfl (by kernel_rfl) (fun _ _ _ h => h) (Or.inl ⟨by rfl, ?_⟩) ?_ ?_
    rotate_left
    · intro w'
      go_simp
      with_reducible rfl
    rotate_left
    · simp only [Act.put, List.setIfInBounds_toArray, List.set_cons_zero, List.set_cons_succ, i64_w, i32_w]
      rfl
    refine pure_ (i := 2) (N := some 27) (v := ?_) (a' := ?_) #[true, true, true, false, false, false, false, false, false, false, false, false, false, false] rfl rfl (by kernel_rfl) (fun _ _ _ h => h) (Or.inl ⟨by rfl, ?_⟩) ?_ ?_
    rotate_left
    · intro w'
      go_simp
      with_reducible rfl
    rotate_left
    · simp only [Act.put, List.setIfInBounds_toArray, List.set_cons_zero, List.set_cons_succ, i64_w, i32_w]
      rfl
    refine pure_ (i := 3) (N := some 28) (v := ?_) (a' := ?_) #[true, true, true, true, false, false, false, false, false, false, false, false, false, false] rfl rfl (by kernel_rfl) (fun _ _ _ h => h) (Or.inl ⟨by rfl, ?_⟩) ?_ ?_
    rotate_left
    · intro w'
      go_simp
      with_reducible rfl
    rotate_left
    · simp only [Act.put, List.setIfInBounds_toArray, List.set_cons_zero, List.set_cons_succ, i64_w, i32_w]
      rfl
    refine pure_ (i := 5) (N := some 30) (v := ?_) (a' := ?_) #[true, true, true, true, false, true, false, false, false, false, false, false, false, false] rfl rfl (by kernel_rfl) (fun _ _ _ h => h) (Or.inl ⟨by rfl, ?_⟩) ?_ ?_
    rotate_left
    · intro w'
      go_simp
      with_reducible rfl
    rotate_left
    · simp only [Act.put, List.setIfInBounds_toArray, List.set_cons_zero, List.set_cons_succ, i64_w, i32_w]
      rfl
    refine pure_ (i := 6) (N := some 31) (v := ?_) (a' := ?_) #[true, true, true, true, false, true, true, false, false, false, false, false, false, false] rfl rfl (by kernel_rfl) (fun _ _ _ h => h) (Or.inl ⟨by rfl, ?_⟩) ?_ ?_
    rotate_left
    · intro w'
      go_simp
      with_reducible rfl
    rotate_left
    · simp only [Act.put, List.setIfInBounds_toArray, List.set_cons_zero, List.set_cons_succ, i64_w, i32_w]
      rfl
    refine take_ (i := 4) (N := some 29) (v := ?_) (a' := ?_) #[true, true, true, true, true, true, true, false, false, false, false, false, false, false] rfl rfl (by kernel_rfl) (fun _ _ _ h => h) (Or.inl ⟨by rfl, ?_⟩) hHeld ?_ ?_
    rotate_left
    · intro w' s0
      go_simp
      with_reducible rfl
    rotate_left
    · simp only [Act.put, List.setIfInBounds_toArray, List.set_cons_zero, List.set_cons_succ, i64_w, i32_w]
      rfl
    refine one_ (i := 7) (N := some 32) #[true, true, true, true, true, true, true, true, false, false, false, false, false, false] rfl rfl (by kernel_rfl) (by decide) (fun K hK => ?_)
    refine step_nilI (l := l) (by rfl) rfl (.const (.slice none 0 0)) (.tmp 31) rfl rfl rfl (by exact HL.out) (by omega) ?_
    intro v7 w7 own7 b7 fr7
    obtain ⟨vad, vcap, rfl, _, _⟩ := vals_form own7
    have B7 := Lib.hid (show Below w.heap.size w w7 from Below.trans (⟨rfl, rfl, rfl, Nat.le_refl _, fun _ _ => rfl⟩ : Below w.heap.size w (w.drewN nq).drew) b7)
    have OWN7 := Lib.hid own7
    have FR7 := Lib.hid (show ∀ b, (Value.slice vad l.length vcap).ownBlock = some b → w.heap.size ≤ b from fr7)
    have hp7 : p < w7.heap.size := Nat.lt_of_lt_of_le hp1 B7.out.size
    clear own7 fr7 b7
    refine hK.out _ _ (((B7.out.cell (p := ⟨p, 1, none⟩) hp1).trans c1)) (fun hHeld => ?_)
    clear hK K
    refine norm_ (a' := ?_) ?_ ?_
    rotate_left
    · show Act.put _ (some 32) _ = _
      simp only [Act.put, List.setIfInBounds_toArray, List.set_cons_zero, List.set_cons_succ, i64_w, i32_w]
      rfl
    refine pure_ (i := 8) (N := some 33) (v := ?_) (a' := ?_) #[true, true, true, true, true, true, true, true, true, false, false, false, false, false] rfl rfl (by kernel_rfl) (fun _ _ _ h => h) (Or.inl ⟨by rfl, ?_⟩) ?_ ?_
    rotate_left
    · intro w'
      go_simp
      with_reducible rfl
    rotate_left
    · simp only [Act.put, List.setIfInBounds_toArray, List.set_cons_zero, List.set_cons_succ, i64_w, i32_w]
      rfl
    refine one_ (i := 9) (N := some 34) #[true, true, true, true, true, true, true, true, true, true, false, false, false, false] rfl rfl (by kernel_rfl) (by decide) (fun K hK => ?_)
    refine value_ (w1 := ?_) (v := ?_) (by rfl) rfl ?_ ?_
    rotate_left 2
    · go_simp
      constructor
      · rfl
      · rfl
    refine hK.out _ _ (((((Below.refl w7.heap.size w7).alloc (Nat.le_refl _) _).cell (p := ⟨p, 1, none⟩) hp7).trans hHeld)) (fun hHeld => ?_)
    clear hK K
    refine norm_ (a' := ?_) ?_ ?_
    rotate_left
    · show Act.put _ (some 34) _ = _
      simp only [Act.put, List.setIfInBounds_toArray, List.set_cons_zero, List.set_cons_succ, i64_w, i32_w]
      rfl
    refine one_ (i := 10) (N := some 35) #[true, true, true, true, true, true, true, true, true, true, true, false, false, false] rfl rfl (by kernel_rfl) (by decide) (fun K hK => ?_)
    refine step_rec1 (w0 := w) (s := ⟨k, l⟩) (v := .slice vad l.length vcap) (by rfl) rfl (.tmp 29) (.tmp 34) rfl rfl rfl H5.out (by exact B7.out.alloc B7.out.size _) (by rw [hdk, hrh]; exact heap_alloc_new _ _) (by rw [hrl]; exact OWN7.out.alloc _) FR7.out (by rfl) hlt (fun e => absurd e hk0) ?_
    intro g cap w2 y1 y2 y3 y4
    have Y4 := Lib.hid y4; clear y4
    refine hK.out _ _ (y1) (fun hHeld => ?_)
    clear hK K
    refine norm_ (a' := ?_) ?_ ?_
    rotate_left
    · show Act.put _ (some 35) _ = _
      simp only [Act.put, List.setIfInBounds_toArray, List.set_cons_zero, List.set_cons_succ, i64_w, i32_w]
      rfl
    refine pure_ (i := 11) (N := some 36) (v := ?_) (a' := ?_) #[true, true, true, true, true, true, true, true, true, true, true, true, false, false] rfl rfl (by kernel_rfl) (fun _ _ _ h => h) (Or.inl ⟨by rfl, ?_⟩) ?_ ?_
    rotate_left
    · intro w'
      go_simp
      with_reducible rfl
    rotate_left
    · simp only [Act.put, List.setIfInBounds_toArray, List.set_cons_zero, List.set_cons_succ, i64_w, i32_w]
      rfl
    refine pure_ (i := 12) (N := some 37) (v := ?_) (a' := ?_) #[true, true, true, true, true, true, true, true, true, true, true, true, true, false] rfl rfl (by kernel_rfl) (fun _ _ _ h => h) (Or.inl ⟨by rfl, ?_⟩) ?_ ?_
    rotate_left
    · intro w'
      go_simp
      with_reducible rfl
    rotate_left
    · simp only [Act.put, List.setIfInBounds_toArray, List.set_cons_zero, List.set_cons_succ, i64_w, i32_w]
      rfl
    refine last_ (i := 13) (N := none) #[true, true, true, true, true, true, true, true, true, true, true, true, true, true] rfl rfl (by kernel_rfl) (by decide) (fun K hK => ?_)
    refine skip_ (w1 := ?_) (by rfl) rfl ?_ ?_
    rotate_left
    · go_simp
      rfl
    refine hK.out _ _ ?_
    clear hK K
    refine done_ (by kernel_rfl) ?_
    go_wp2_with fail
    go_ret2
    exact ⟨by rw [HV.out]; rfl, by rw [HV.out]; exact Y4.out⟩

end Go.Proofs.Ytbndhaocohomjaa
