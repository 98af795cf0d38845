/- Whole slices of pairs appended to a row of the call's own. -/
import Derived.Test.YtkcfkanfdbejiaaRefW
import Derived.Laws.AppendOwnNone
namespace Go.Proofs.Ytkcfkanfdbejiaa
set_option maxRecDepth 100000
open Go.RowKit
set_option linter.unusedSimpArgs false
set_option linter.unusedVariables false

theorem cellsP_len (l : List Pr) : (cellsP l).length = l.length * 2 := by
  induction l with
  | nil => rfl
  | cons x r ih =>
    have : cellsP (x :: r) = [.int .i64 x.1, .int .i64 x.2] ++ cellsP r := by simp [cellsP]
    rw [this, List.length_append, ih]; simp; omega
theorem cellsP_app (l m : List Pr) : cellsP (l ++ m) = cellsP l ++ cellsP m := by simp [cellsP]
theorem cellsP_one (l : List Pr) : ∀ u ∈ cellsP l, u.oneCell' = true := by
  induction l with
  | nil => intro u hu; simp [cellsP] at hu
  | cons x r ih =>
    have : cellsP (x :: r) = [.int .i64 x.1, .int .i64 x.2] ++ cellsP r := by simp [cellsP]
    intro u hu
    rw [this] at hu
    rcases List.mem_append.1 hu with h | h
    · simp at h
      rcases h with rfl | rfl <;> rfl
    · exact ih u h
theorem FRel.givesC {B : Nat} {wr : World} {v : Value} {out : List Pr} (h : FRel B wr v out) : ∃ ad c, v = .slice ad out.length c ∧ PIn wr ad c out ∧ (∀ x, ad = some x → B ≤ x.block) ∧ (ad = none → c = 0) := by
  obtain ⟨ad, c, rfl, h1, h2⟩ := h.gives
  refine ⟨ad, c, rfl, h1, h2, fun e => ?_⟩
  subst e
  rcases h.own.2 with ⟨h3, _⟩ | ⟨g, cap, cur, h3, _⟩
  · exact (Value.slice.injEq .. ▸ h3 : _).2.2
  · exact absurd h3 (by simp)
/-- An empty slice that is not nil: a new block without cells. -/
theorem FRel.empty (w : World) : FRel w.heap.size (w.alloc (.cells #[] 24)) (.slice (some ⟨w.heap.size, 0, none⟩) 0 0) [] :=
  ⟨⟨rfl, .inr ⟨w.heap.size, 0, #[], rfl, Nat.le_refl _, heap_alloc_new w _, Nat.le_refl _, by decide, rfl, rfl⟩⟩, by simp⟩
theorem wpo_apps {o : Oper} {a : Act} {K : Act → World → Prop} {Q : Exit → Act → World → Prop} {B : Nat} {w : World} {ys : List Pr} {v : Value} {out : List Pr} {ad : Option Addr} {c : Nat} (s x : Operand)
    (ho : o.op = .call { callee := .builtin .append, args := #[s, x], argTypes := #[22, 22] }) (hs : a.eval s = v) (hx : a.eval x = .slice ad ys.length c) (R : FRel B w v out)
    (hp : PIn w ad c ys) (hd : ad = none → c = 0) (hlen : out.length + ys.length ≤ 1000001)
    (h : ∀ v' w', FRel B w' v' (out ++ ys) → w.grownBy w' v.ownBlock → K (a.put o.dst v') w') :
    o.wp Try.prog a w K Q := by
  obtain ⟨i0, hi, hz0, hz1, hz2⟩ := info_parts info_pair
  cases had : ad with
  | none =>
    subst had
    obtain rfl := hd rfl
    have hys : ys = [] := by
      rcases hp.at_ with h0 | ⟨b, off, h0, _⟩
      · exact h0
      · exact absurd h0 (by simp)
    subst hys
    have hx : a.eval x = .slice none 0 0 := hx
    have hrun := run_append_owned_none (P := Try.prog) (w := w) B 22 o.type 24 i0 2 Try.underlying22 hi v out.length (cellsP out) R.own
    have := h v w (by rw [List.append_nil]; exact R) ⟨rfl, rfl, rfl, Nat.le_refl _, fun _ _ _ => rfl⟩
    unfold Oper.wp
    simp [execOp, ho, resolve, invoke, builtin, hs, hx, hrun, Result.andThen]
    exact this
  | some p =>
    subst had
    refine wp_append_own w s x 22 ho B 24 i0 (.agg #[.int .i64 0, .int .i64 0]) 2 16 Try.underlying22 hi hz0 hz1 hz2 rfl (by decide) v out.length (cellsP out) hs R.own p ys.length c (cellsP ys) hx (cellsP_len ys) ?_ (cellsP_one ys) (by unfold maxLen; omega) (by omega) R.le ?_
    · intro j u hu
      rcases hp.at_ with h0 | ⟨b, off, h0, hc⟩
      · subst h0; simp [cellsP] at hu
      · obtain rfl := Option.some.inj h0
        have hadd : (⟨b, off, none⟩ : Addr).add j = ⟨b, off + j, none⟩ := by unfold Addr.add; split <;> simp_all
        rw [hadd]
        have hj : j < ys.length * 2 := by rw [← cellsP_len]; exact (List.getElem?_eq_some_iff.1 hu).1
        obtain ⟨i, hi2 | hi2⟩ : ∃ i, j = i * 2 ∨ j = i * 2 + 1 := ⟨j / 2, by omega⟩
        · subst hi2
          have h1 := (cellsP_at ys i (by omega)).1
          rw [h1] at hu
          obtain rfl := Option.some.inj hu
          exact (hc i (by omega)).1
        · subst hi2
          have h1 := (cellsP_at ys i (by omega)).2
          rw [h1] at hu
          obtain rfl := Option.some.inj hu
          rw [← Nat.add_assoc]
          exact (hc i (by omega)).2
    · intro v' w' hown hgrow _
      exact h v' w' ⟨by rw [cellsP_app, List.length_append]; exact hown, Nat.le_trans R.le hgrow.size⟩ hgrow
theorem wp_apps {P' : Array Oper} {rest : List Oper} {o : Oper} {a : Act} {Q : Exit → Act → World → Prop} {B : Nat} {w : World} {ys : List Pr} {v : Value} {out : List Pr} {ad : Option Addr} {c : Nat} (hgd : o.guard = none) (s x : Operand)
    (ho : o.op = .call { callee := .builtin .append, args := #[s, x], argTypes := #[22, 22] }) (hs : a.eval s = v) (hx : a.eval x = .slice ad ys.length c) (R : FRel B w v out)
    (hp : PIn w ad c ys) (hd : ad = none → c = 0) (hlen : out.length + ys.length ≤ 1000001)
    (h : ∀ v' w', FRel B w' v' (out ++ ys) → w.grownBy w' v.ownBlock → wpList Try.prog P' Q rest (a.put o.dst v') w') :
    wpList Try.prog P' Q (o :: rest) a w :=
  wpList_plain hgd fun K hK => wpo_apps s x ho hs hx R hp hd hlen fun v' w' h1 h2 => hK _ _ (h v' w' h1 h2)
/-- The same in a region that draws its order. -/
theorem step_apps {ops : Array Oper} {o : Oper} {N : Option Tmp} {a : Act} {K : Act → World → Prop} {Q : Exit → Act → World → Prop} {B : Nat} {w : World} {ys : List Pr} {v : Value} {out : List Pr} {ad : Option Addr} {c : Nat} (hw : Region.wanted o (yielded ops a.tmps) = true) (hN : o.dst = N) (s x : Operand)
    (ho : o.op = .call { callee := .builtin .append, args := #[s, x], argTypes := #[22, 22] }) (hs : a.eval s = v) (hx : a.eval x = .slice ad ys.length c) (R : FRel B w v out)
    (hp : PIn w ad c ys) (hd : ad = none → c = 0) (hlen : out.length + ys.length ≤ 1000001)
    (h : ∀ v' w', FRel B w' v' (out ++ ys) → w.grownBy w' v.ownBlock → K (a.put N v') w') :
    if Region.wanted o (yielded ops a.tmps) = true then Oper.wp Try.prog o a w K Q else K (a.put N undef) w := by
  rw [if_pos hw]
  subst hN
  exact wpo_apps s x ho hs hx R hp hd hlen h

end Go.Proofs.Ytkcfkanfdbejiaa
