/- Rows of numbers of the call's own: appends of whole slices; parts of a slice of numbers. -/
import Derived.Test.YtkcfkanfdbejiaaAllW
import Derived.Test.YtkcfkanfdbejiaaFrelQ
namespace Go.Proofs.Ytkcfkanfdbejiaa
set_option maxRecDepth 100000
set_option linter.unusedVariables false
set_option linter.unusedSimpArgs false
open Go.RowKit Go.Proofs.YtkcfkanfdbejiaaW.PrintWords Go.Proofs.YtkcfkanfdbejiaaW.PrintLast

abbrev cellsI (l : List Int) : List Value := l.map (Value.int .i64)
/-- Numbers gathered in a row of the call's own. -/
structure IRel (B : Nat) (wr : World) (v : Value) (out : List Int) : Prop where
  own : wr.ownsRow B 3 1 v out.length (cellsI out)
  le : B ≤ wr.heap.size
theorem IRel.ne {B : Nat} {wr : World} {v : Value} {out : List Int} (h : IRel B wr v out) (k : Nat) (hk : wr.heap.size ≤ k) : some k ≠ v.ownBlock := fun e => by have := (h.own.lt k e.symm).2; omega
theorem IRel.alloc {B : Nat} {wr : World} {v : Value} {out : List Int} (h : IRel B wr v out) (o : Obj) : IRel B (wr.alloc o) v out :=
  ⟨h.own.alloc o, by have := h.le; simp; omega⟩
theorem IRel.later {B : Nat} {wr w' : World} {v : Value} {out : List Int} (h : IRel B wr v out) (hb : Below wr.heap.size wr w') : IRel B w' v out :=
  ⟨ownsRow_same h.own (fun b hv => hb.block b (h.own.lt b hv).2), Nat.le_trans h.le hb.size⟩
/-- What an arena makes leaves such a row as it was. -/
theorem IRel.grow {B : Nat} {F F' : Nat → Prop} {wr w' : World} {v : Value} {out : List Int} (h : IRel B wr v out) (hg : Grow F wr F' w') (hF : ∀ b, v.ownBlock = some b → ¬ F b) : IRel B w' v out :=
  ⟨ownsRow_same h.own (fun b hv => hg.1.block b (h.own.lt b hv).2 (hF b hv)), Nat.le_trans h.le hg.1.size⟩
theorem IRel.start (W : World) : IRel W.heap.size W (.slice none 0 0) [] := ⟨World.ownsRow_nil _ _ _ _, Nat.le_refl _⟩
theorem IRel.startB (B : Nat) (W : World) (h : B ≤ W.heap.size) : IRel B W (.slice none 0 0) [] := ⟨World.ownsRow_nil _ _ _ _, h⟩
theorem IRel.empty (B : Nat) (w : World) (h : B ≤ w.heap.size) : IRel B (w.alloc (.cells #[] 3)) (.slice (some ⟨w.heap.size, 0, none⟩) 0 0) [] :=
  ⟨⟨rfl, .inr ⟨w.heap.size, 0, #[], rfl, h, heap_alloc_new w _, Nat.le_refl _, by decide, rfl, rfl⟩⟩, by simp; omega⟩
theorem Below.growI {B : Nat} {W wr w' : World} {v : Value} {out : List Int} (h : Below B W wr) (R : IRel B wr v out) (hg : wr.grownBy w' v.ownBlock) : Below B W w' :=
  h.grown hg R.le (fun k hk => (R.own.lt k hk).1)
abbrev NoF : Nat → Prop := fun _ => False
theorem IRel.gives {B : Nat} {wr : World} {v : Value} {out : List Int} (h : IRel B wr v out) : ∃ ad c, v = .slice ad out.length c ∧ IK wr NoF ad c out ∧ (∀ x, ad = some x → B ≤ x.block) := by
  rcases h.own.2 with ⟨rfl, h2⟩ | ⟨g, cap, cur, rfl, hb, hg, hc, hm, _⟩
  · have : out = [] := List.eq_nil_of_length_eq_zero h2
    subst this
    exact ⟨none, 0, rfl, IK.nil _ _, by simp⟩
  · refine ⟨_, cap, rfl, ⟨.inr ⟨g, 0, rfl, fun j hj => ?_⟩, hc, hm, fun _ _ _ h => h⟩, fun x hx => by obtain rfl := Option.some.inj hx; exact hb⟩
    rw [Nat.zero_add, h.own.cellAt _ (by omega)]
    simp [cellsI, hj]
theorem IK.side {w : World} {F : Nat → Prop} {ad : Option Addr} {c : Nat} {l : List Int} (h : IK w NoF ad c l) (hf : ∀ x, ad = some x → ¬ F x.block) : IK w F ad c l := ⟨h.at_, h.room, h.most, fun _ => hf⟩
theorem IK.bare {w : World} {F : Nat → Prop} {ad : Option Addr} {c : Nat} {l : List Int} (h : IK w F ad c l) : IK w NoF ad c l := ⟨h.at_, h.room, h.most, fun _ _ _ h => h⟩
theorem IK.take {w : World} {F : Nat → Prop} {ad : Option Addr} {c : Nat} {l : List Int} (h : IK w F ad c l) (m : Nat) : IK w F ad c (l.take m) := by
  refine ⟨?_, by rw [List.length_take]; have := h.room; omega, h.most, fun hn => h.free (fun e => hn (by rw [e, List.take_nil]))⟩
  rcases h.at_ with rfl | ⟨b, off, rfl, hc⟩
  · exact .inl (by simp)
  · refine .inr ⟨b, off, rfl, fun j hj => ?_⟩
    rw [List.length_take] at hj
    rw [List.getElem_take]
    exact hc j (by omega)
theorem IK.drop {w : World} {F : Nat → Prop} {ad : Option Addr} {c : Nat} {l : List Int} (h : IK w F ad c l) (m : Nat) (hm : m ≤ l.length) : IK w F (if c = m then ad else ad.map (·.add (m * 1))) (c - m) (l.drop m) := by
  have hr := h.room
  refine ⟨?_, by rw [List.length_drop]; omega, by have := h.most; omega, fun hn x hx => ?_⟩
  · by_cases e : c = m
    · exact .inl (List.drop_of_length_le (by omega))
    · rw [if_neg e]
      rcases h.at_ with rfl | ⟨b, off, rfl, hc⟩
      · exact .inl (by simp)
      · refine .inr ⟨b, off + m * 1, ?_, fun j hj => ?_⟩
        · have : (⟨b, off, none⟩ : Addr).add (m * 1) = ⟨b, off + m * 1, none⟩ := by unfold Addr.add; split <;> simp_all
          rw [Option.map_some, this]
        · rw [List.length_drop] at hj
          rw [List.getElem_drop]
          rw [show off + m * 1 + j = off + (m + j) by omega]
          exact hc (m + j) (by omega)
  · have hl : l ≠ [] := fun e => hn (by rw [e, List.drop_nil])
    by_cases e : c = m
    · rw [if_pos e] at hx; exact h.free hl x hx
    · rw [if_neg e] at hx
      cases had : ad with
      | none => rw [had] at hx; simp at hx
      | some y =>
        rw [had] at hx
        simp only [Option.map_some, Option.some.injEq] at hx
        subst hx
        have hb : (y.add (m * 1)).block = y.block := by unfold Addr.add; split <;> rfl
        rw [hb]
        exact h.free hl y had
theorem cutI_to (A : Option Addr) (n c m : Nat) (hm : m ≤ n) (hc : n ≤ c) : ∀ W : World, (Instr.slice 46 (.slice A n c) none (some (.int .i64 (m : Int))) none).run Try.prog W = .ok (.slice A m c) W := by
  obtain ⟨i0, hi, _, _, _⟩ := info_parts info_int
  have := cut_to (P := Try.prog) 46 3 .i64 Try.underlying46 hi A n c (m : Int) (by omega) (by omega) hc
  rw [Int.toNat_natCast] at this
  exact this
theorem cutI_from (A : Option Addr) (n c m : Nat) (hm : m ≤ n) : ∀ W : World, (Instr.slice 46 (.slice A n c) (some (.int .i64 (m : Int))) none none).run Try.prog W = .ok (.slice (if c = m then A else A.map (·.add (m * 1))) (n - m) (c - m)) W := by
  obtain ⟨i0, hi, _, hsz, _⟩ := info_parts info_int
  have := cut_from (P := Try.prog) 46 3 .i64 Try.underlying46 hi 1 hsz A n c (m : Int) (by omega) (by omega)
  rw [Int.toNat_natCast] at this
  exact this
theorem subI_from {ad : Option Addr} {c : Nat} {l : List Int} (m : Nat) (hm : m ≤ l.length) : ∃ A2 c2 n2, n2 = (l.drop m).length ∧
    (∀ W : World, (Instr.slice 46 (.slice ad l.length c) (some (.int .i64 (m : Int))) none none).run Try.prog W = .ok (.slice A2 n2 c2) W) ∧ ∀ w F, IK w F ad c l → IK w F A2 c2 (l.drop m) :=
  ⟨_, _, _, rfl, fun W => by rw [cutI_from ad l.length c m hm W, List.length_drop], fun w F h => h.drop m hm⟩
theorem wpo_appI {o : Oper} {a : Act} {K : Act → World → Prop} {Q : Exit → Act → World → Prop} {B : Nat} {w : World} {ys : List Int} {v : Value} {out : List Int} {ad : Option Addr} {c : Nat} {G : Nat → Prop} (s x : Operand)
    (ho : o.op = .call { callee := .builtin .append, args := #[s, x], argTypes := #[46, 46] }) (hs : a.eval s = v) (hx : a.eval x = .slice ad ys.length c) (R : IRel B w v out)
    (hp : IK w G ad c ys) (hlen : out.length + ys.length ≤ 1000001)
    (h : ∀ v' w', IRel B w' v' (out ++ ys) → w.grownBy w' v.ownBlock → K (a.put o.dst v') w') :
    o.wp Try.prog a w K Q := by
  obtain ⟨i0, hi, hz0, hz1, hz2⟩ := info_parts info_int
  cases had : ad with
  | none =>
    subst had
    have hys : ys = [] := by
      rcases hp.at_ with h0 | ⟨b, off, h0, _⟩
      · exact h0
      · exact absurd h0 (by simp)
    subst hys
    have hx : a.eval x = .slice none 0 c := hx
    have hrun := run_append_none_any (P := Try.prog) (w := w) B 46 o.type 3 i0 1 Try.underlying46 hi v out.length (cellsI out) R.own c
    have := h v w (by rw [List.append_nil]; exact R) ⟨rfl, rfl, rfl, Nat.le_refl _, fun _ _ _ => rfl⟩
    unfold Oper.wp
    simp [execOp, ho, resolve, invoke, builtin, hs, hx, hrun, Result.andThen]
    exact this
  | some p =>
    subst had
    refine wp_append_own w s x 46 ho B 3 i0 (.int .i64 0) 1 8 Try.underlying46 hi hz0 hz1 hz2 rfl (by decide) v out.length (cellsI out) hs R.own p ys.length c (cellsI ys) hx (by simp [cellsI]) ?_ (fun u hu => by simp [cellsI] at hu; obtain ⟨y, _, rfl⟩ := hu; rfl) (by unfold maxLen; omega) (by omega) R.le ?_
    · intro j u hu
      rcases hp.at_ with h0 | ⟨b, off, h0, hc⟩
      · subst h0; simp [cellsI] at hu
      · obtain rfl := Option.some.inj h0
        have hadd : (⟨b, off, none⟩ : Addr).add j = ⟨b, off + j, none⟩ := by unfold Addr.add; split <;> simp_all
        rw [hadd]
        have hj : j < ys.length := by have := (List.getElem?_eq_some_iff.1 hu).1; simpa [cellsI] using this
        have h1 := hc j hj
        simp [cellsI, hj] at hu
        subst hu
        exact h1
    · intro v' w' hown hgrow _
      exact h v' w' ⟨by rw [cellsI, List.map_append, List.length_append]; exact hown, Nat.le_trans R.le hgrow.size⟩ hgrow
theorem wp_appI {P' : Array Oper} {rest : List Oper} {o : Oper} {a : Act} {Q : Exit → Act → World → Prop} {B : Nat} {w : World} {ys : List Int} {v : Value} {out : List Int} {ad : Option Addr} {c : Nat} {G : Nat → Prop} (hgd : o.guard = none) (s x : Operand)
    (ho : o.op = .call { callee := .builtin .append, args := #[s, x], argTypes := #[46, 46] }) (hs : a.eval s = v) (hx : a.eval x = .slice ad ys.length c) (R : IRel B w v out)
    (hp : IK w G ad c ys) (hlen : out.length + ys.length ≤ 1000001)
    (h : ∀ v' w', IRel B w' v' (out ++ ys) → w.grownBy w' v.ownBlock → wpList Try.prog P' Q rest (a.put o.dst v') w') :
    wpList Try.prog P' Q (o :: rest) a w :=
  wpList_plain hgd fun K hK => wpo_appI s x ho hs hx R hp hlen fun v' w' h1 h2 => hK _ _ (h v' w' h1 h2)
theorem step_appI {ops : Array Oper} {o : Oper} {N : Option Tmp} {a : Act} {K : Act → World → Prop} {Q : Exit → Act → World → Prop} {B : Nat} {w : World} {ys : List Int} {v : Value} {out : List Int} {ad : Option Addr} {c : Nat} {G : Nat → Prop} (hw : Region.wanted o (yielded ops a.tmps) = true) (hN : o.dst = N) (s x : Operand)
    (ho : o.op = .call { callee := .builtin .append, args := #[s, x], argTypes := #[46, 46] }) (hs : a.eval s = v) (hx : a.eval x = .slice ad ys.length c) (R : IRel B w v out)
    (hp : IK w G ad c ys) (hlen : out.length + ys.length ≤ 1000001)
    (h : ∀ v' w', IRel B w' v' (out ++ ys) → w.grownBy w' v.ownBlock → K (a.put N v') w') :
    if Region.wanted o (yielded ops a.tmps) = true then Oper.wp Try.prog o a w K Q else K (a.put N undef) w := by
  rw [if_pos hw]
  subst hN
  exact wpo_appI s x ho hs hx R hp hlen h
/-- A literal of one number. -/
theorem IK.one {w : World} {g : Nat} {y : Int} (hg : w.heap[g]? = some (.cells #[.int .i64 y] 3 (0, 0))) : IK w NoF (some ⟨g, 0, none⟩) 1 [y] :=
  ⟨.inr ⟨g, 0, rfl, fun j hj => by
    obtain rfl : j = 0 := by simpa using hj
    exact cell_blk hg rfl⟩, by simp, by decide, fun _ _ _ h => h⟩
theorem IRel.givesF {B : Nat} {wr : World} {v : Value} {out : List Int} {F : Nat → Prop} (h : IRel B wr v out) (hF : ∀ b, v.ownBlock = some b → ¬ F b) : ∃ ad c, v = .slice ad out.length c ∧ IK wr F ad c out := by
  rcases h.own.2 with ⟨rfl, h2⟩ | ⟨g, cap, cur, rfl, hb, hg, hc, hm, _⟩
  · have : out = [] := List.eq_nil_of_length_eq_zero h2
    subst this
    exact ⟨none, 0, rfl, IK.nil _ _⟩
  · refine ⟨_, cap, rfl, ⟨.inr ⟨g, 0, rfl, fun j hj => ?_⟩, hc, hm, fun _ x hx => by obtain rfl := Option.some.inj hx; exact hF g rfl⟩⟩
    rw [Nat.zero_add, h.own.cellAt _ (by omega)]
    simp [cellsI, hj]
/-- One number appended: the row lies where it lay, or in the next block. -/
theorem wp_app1I {P' : Array Oper} {rest : List Oper} {o : Oper} {a : Act} {Q : Exit → Act → World → Prop} {B : Nat} {w : World} {y : Int} {v : Value} {out : List Int} {g : Nat} (hgd : o.guard = none) (s x : Operand)
    (ho : o.op = .call { callee := .builtin .append, args := #[s, x], argTypes := #[46, 46] }) (hs : a.eval s = v) (hx : a.eval x = .slice (some ⟨g, 0, none⟩) 1 1) (R : IRel B w v out)
    (hg : w.heap[g]? = some (.cells #[.int .i64 y] 3 (0, 0))) (hlen : out.length ≤ 1000001)
    (h : ∀ v' w', IRel B w' v' (out ++ [y]) → w.grownBy w' v.ownBlock → (∀ b, v'.ownBlock = some b → v.ownBlock = some b ∨ b = w.heap.size) → wpList Try.prog P' Q rest (a.put o.dst v') w') :
    wpList Try.prog P' Q (o :: rest) a w := by
  obtain ⟨i0, hi, hz0, hz1, hz2⟩ := info_parts info_int
  refine wpList_append_lies (P := Try.prog) w hgd s x 46 ho B 3 i0 (.int .i64 0) 1 8 Try.underlying46 hi hz0 hz1 hz2 rfl (by decide) v out.length (cellsI out) hs R.own ⟨g, 0, none⟩ 1 1 [.int .i64 y] hx rfl ?_ (fun u hu => by simp at hu; subst hu; rfl) (by decide) (by unfold maxLen; omega) (by omega) R.le _ rfl ?_
  · intro j u hu
    have hadd : (⟨g, 0, none⟩ : Addr).add j = ⟨g, j, none⟩ := by unfold Addr.add; split <;> simp_all
    rw [hadd]
    exact cell_blk hg (by simpa using hu)
  · intro g' cap w' hown hgrow hlie _
    refine h _ w' ⟨by rw [cellsI, List.map_append, List.length_append]; exact hown, Nat.le_trans R.le hgrow.size⟩ hgrow (fun b hb => ?_)
    obtain rfl : g' = b := by simpa [Value.ownBlock] using hb
    exact hlie
/-- Treaps, and their pairs. -/
inductive Trs (a : Ar) : List Int → List (List Pr) → Prop
  | nil : Trs a [] []
  | cons {t : Int} {l : List Pr} {ts : List Int} {ls : List (List Pr)} (h : Tr a t l) (hs : Trs a ts ls) : Trs a (t :: ts) (l :: ls)
theorem Trs.ext {a b : Ar} {ts : List Int} {ls : List (List Pr)} (e : Ext a b) (h : Trs a ts ls) : Trs b ts ls := by
  induction h with
  | nil => exact .nil
  | cons h _ ih => exact .cons (h.ext e) ih
theorem Trs.snoc {a : Ar} {ts : List Int} {ls : List (List Pr)} {t : Int} {l : List Pr} (h : Trs a ts ls) (k : Tr a t l) : Trs a (ts ++ [t]) (ls ++ [l]) := by
  induction h with
  | nil => exact .cons k .nil
  | cons h _ ih => exact .cons h ih
theorem allL_room (C : Nat) (hC : C < 1000000) : ∀ (ts : List Int) {ls : List (List Pr)} {a : Ar} {t : Int} {l : List Pr}, Tr a t l → Trs a ts ls → Sorted (l ++ ls.flatten) → (l ++ ls.flatten).length ≤ C → fits a → (a.slots.length : Int) + (ts.length * (2 * C) : Nat) ≤ a.room →
    ∃ a' u, allL ts (some a) t = (u, 0, some a') ∧ Tr a' u (l ++ ls.flatten) ∧ Ext a a' ∧ fits a' ∧ a'.slots.length ≤ a.slots.length + ts.length * (2 * C)
  | [], _, a, t, l, h, hh, _, _, hf, _ => by
    cases hh
    exact ⟨a, t, rfl, by simpa using h, Ext.refl a, hf, by simp⟩
  | x :: ts, _, a, t, l, h, hh, hs, hl, hf, hr => by
    cases hh with
    | @cons _ m _ ls hx hts =>
      have e0 : l ++ (m :: ls).flatten = (l ++ m) ++ ls.flatten := by simp
      rw [e0] at hs hl ⊢
      have e1 : (ts.length + 1) * (2 * C) = ts.length * (2 * C) + 2 * C := by rw [Nat.add_mul, Nat.one_mul]
      rw [List.length_cons, e1] at hr ⊢
      have h1 := hgt_le l
      have h2 := hgt_le m
      have h3 : (l ++ m).length ≤ C := by rw [List.length_append] at hl; omega
      have h4 := h3
      rw [List.length_append] at h4
      obtain ⟨a1, u1, g1, g2, g3, g4, g5⟩ := twoO_room h hx (List.pairwise_append.1 hs).1 (by omega) hf (by omega)
      have := g3.1
      obtain ⟨a2, u2, k1, k2, k3, k4, k5⟩ := allL_room C hC ts g2 (hts.ext g3) hs hl g4 (by omega)
      refine ⟨a2, u2, ?_, k2, g3.trans k3, k4, by omega⟩
      simp only [allL]
      rw [g1]
      simp only [if_true]
      exact k1
theorem ints_cell {W w : World} {ad : Option Addr} {c : Nat} {l : List Int} (h : IntsArg W ad c l) (hB : Below W.heap.size W w) {k : Nat} (hk : k < l.length) :
    ∃ b off, ad = some ⟨b, off, none⟩ ∧ w.cell? ⟨b, off + k, none⟩ = some (.int .i64 l[k]) := by
  rcases h.reads with ⟨_, _, rfl⟩ | ⟨x, rfl, hc⟩
  · simp at hk
  · have h0 := hc k hk
    obtain ⟨b, off, spot⟩ := x
    have hs : spot = none := by simpa [Addr.add] using World.cell?_spot (hc 0 (by omega))
    subst hs
    refine ⟨b, off, rfl, ?_⟩
    have e : (⟨b, off, none⟩ : Addr).add k = ⟨b, off + k, none⟩ := by unfold Addr.add; split <;> simp_all
    rw [e] at h0
    exact (hB.cell (World.block_lt_of_cell? W _ h0)).trans h0
theorem St.apart {W w w' : World} {po : Option Addr} {A : OA} {F : Nat → Prop} {r : Option Nat} (h : St W w po A F) (hg : w.grownBy w' r) (hr : ∀ b, r = some b → ¬ F b ∧ W.heap.size ≤ b) : St W w' po A F :=
  ⟨h.arena.same (fun b hb => hg.block b (h.arena.lt b hb) (fun e => (hr b e.symm).1 hb)) hg.size, h.below.grown hg h.size (fun k hk => (hr k hk).2), h.own⟩
theorem IK.apart {w w' : World} {F : Nat → Prop} {ad : Option Addr} {c : Nat} {l : List Int} {r : Option Nat} (h : IK w F ad c l) (hg : w.grownBy w' r) (hr : ∀ x b, ad = some x → l ≠ [] → r = some b → x.block ≠ b) : IK w' F ad c l := by
  refine ⟨?_, h.room, h.most, h.free⟩
  rcases h.at_ with h0 | ⟨b, off, rfl, hc⟩
  · exact .inl h0
  · by_cases h0 : l = []
    · exact .inl h0
    · have hb : b < w.heap.size := World.block_lt_of_cell? w _ (hc 0 (List.length_pos_iff.2 h0))
      have he := hg.block b hb (fun e => hr _ b rfl h0 e.symm rfl)
      refine .inr ⟨b, off, rfl, fun j hj => ?_⟩
      rw [← hc j hj]
      simp [World.cell?, he]
theorem PK.apart {w w' : World} {F : Nat → Prop} {ad : Option Addr} {c : Nat} {l : List Pr} {r : Option Nat} (h : PK w F ad c l) (hg : w.grownBy w' r) (hr : ∀ x b, ad = some x → l ≠ [] → r = some b → x.block ≠ b) : PK w' F ad c l := by
  refine ⟨⟨?_, h.pin.room, h.pin.most⟩, h.free⟩
  rcases h.pin.at_ with h0 | ⟨b, off, rfl, hc⟩
  · exact .inl h0
  · by_cases h0 : l = []
    · exact .inl h0
    · have hb : b < w.heap.size := World.block_lt_of_cell? w _ (hc 0 (List.length_pos_iff.2 h0)).1
      have he := hg.block b hb (fun e => hr _ b rfl h0 e.symm rfl)
      refine .inr ⟨b, off, rfl, fun j hj => ?_⟩
      have hcc : ∀ o, w'.cell? ⟨b, o, none⟩ = w.cell? ⟨b, o, none⟩ := fun o => by simp [World.cell?, he]
      rw [hcc, hcc]
      exact hc j hj
theorem IK.lt {w : World} {F : Nat → Prop} {ad : Option Addr} {c : Nat} {l : List Int} (h : IK w F ad c l) : ∀ x, ad = some x → l ≠ [] → x.block < w.heap.size := by
  intro x hx hl
  rcases h.at_ with h0 | ⟨b, off, rfl, hc⟩
  · exact absurd h0 hl
  · obtain rfl := Option.some.inj hx
    exact World.block_lt_of_cell? w _ (hc 0 (List.length_pos_iff.2 hl))

end Go.Proofs.Ytkcfkanfdbejiaa
