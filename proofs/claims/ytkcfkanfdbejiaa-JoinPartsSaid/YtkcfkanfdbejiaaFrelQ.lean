/- Rows of pairs of the call's own: what stays of them; the rest of a slice. -/
import Derived.Test.YtkcfkanfdbejiaaAppsW
namespace Go.Proofs.Ytkcfkanfdbejiaa
set_option maxRecDepth 100000
set_option linter.unusedVariables false
set_option linter.unusedSimpArgs false
open Go.RowKit

theorem FRel.later {B : Nat} {wr w' : World} {v : Value} {out : List Pr} (h : FRel B wr v out) (hb : Below wr.heap.size wr w') : FRel B w' v out :=
  ⟨ownsRow_same h.own (fun b hv => hb.block b (h.own.lt b hv).2), Nat.le_trans h.le hb.size⟩
theorem subKC_from {ad : Option Addr} {c : Nat} {l : List Pr} (m : Nat) (hm : m ≤ l.length) (hc : ad = none → c = 0) : ∃ A2 c2 n2, n2 = (l.drop m).length ∧
    (∀ W : World, (Instr.slice 22 (.slice ad l.length c) (some (.int .i64 (m : Int))) none none).run Try.prog W = .ok (.slice A2 n2 c2) W) ∧ (∀ w F, PK w F ad c l → PK w F A2 c2 (l.drop m)) ∧ (A2 = none → c2 = 0) :=
  ⟨_, _, _, rfl, fun W => by rw [cutP_from ad l.length c m hm W, List.length_drop], fun w F h => h.drop m hm, fun h => by
    have : ad = none := by
      by_cases e : c = m
      · rw [if_pos e] at h; exact h
      · rw [if_neg e] at h; simpa using h
    have := hc this
    omega⟩
theorem Below.growB {B : Nat} {W wr w' : World} {v : Value} {out : List Pr} (h : Below B W wr) (R : FRel B wr v out) (hg : wr.grownBy w' v.ownBlock) : Below B W w' :=
  h.grown hg R.le (fun k hk => (R.own.lt k hk).1)
theorem run_append_none_any {P : Program} {w : World} (base : Nat) (t ty e : TypeId) (i : TypeInfo) (size : Nat) (ht : P.underlying t = some (.slice e)) (hi : P.info? e = some i)
    (v : Value) (n : Nat) (xs : List Value) (hown : w.ownsRow base e size v n xs) (c : Nat) :
    (Builtin.append_ #[t, t] ty #[v, .slice none 0 c]).run P w = .ok v w := by
  rcases hown.2 with ⟨rfl, rfl⟩ | ⟨g, cap, cur, rfl, _, _, hnc, _⟩
  · simp [Builtin.append_, run_underlying ht, sizeOf, typeInfo, hi, Builtin.lenOf, Builtin.firstCells]
  · simp [Builtin.append_, run_underlying ht, sizeOf, typeInfo, hi, Builtin.lenOf, Builtin.firstCells, hnc, storeCells]
/-- As wpo_apps, a nil slice of whatever room. -/
theorem wpo_appn {o : Oper} {a : Act} {K : Act → World → Prop} {Q : Exit → Act → World → Prop} {B : Nat} {w : World} {ys : List Pr} {v : Value} {out : List Pr} {ad : Option Addr} {c : Nat} (s x : Operand)
    (ho : o.op = .call { callee := .builtin .append, args := #[s, x], argTypes := #[22, 22] }) (hs : a.eval s = v) (hx : a.eval x = .slice ad ys.length c) (R : FRel B w v out)
    (hp : PIn w ad c ys) (hlen : out.length + ys.length ≤ 1000001)
    (h : ∀ v' w', FRel B w' v' (out ++ ys) → w.grownBy w' v.ownBlock → K (a.put o.dst v') w') :
    o.wp Try.prog a w K Q := by
  cases had : ad with
  | some p => subst had; exact wpo_apps s x ho hs hx R hp (fun e => by simp at e) hlen h
  | none =>
    subst had
    obtain ⟨i0, hi, hz0, hz1, hz2⟩ := info_parts info_pair
    have hys : ys = [] := by
      rcases hp.at_ with h0 | ⟨b, off, h0, _⟩
      · exact h0
      · exact absurd h0 (by simp)
    subst hys
    have hx : a.eval x = .slice none 0 c := hx
    have hrun := run_append_none_any (P := Try.prog) (w := w) B 22 o.type 24 i0 2 Try.underlying22 hi v out.length (cellsP out) R.own c
    have := h v w (by rw [List.append_nil]; exact R) ⟨rfl, rfl, rfl, Nat.le_refl _, fun _ _ _ => rfl⟩
    unfold Oper.wp
    simp [execOp, ho, resolve, invoke, builtin, hs, hx, hrun, Result.andThen]
    exact this
theorem wp_appn {P' : Array Oper} {rest : List Oper} {o : Oper} {a : Act} {Q : Exit → Act → World → Prop} {B : Nat} {w : World} {ys : List Pr} {v : Value} {out : List Pr} {ad : Option Addr} {c : Nat} (hgd : o.guard = none) (s x : Operand)
    (ho : o.op = .call { callee := .builtin .append, args := #[s, x], argTypes := #[22, 22] }) (hs : a.eval s = v) (hx : a.eval x = .slice ad ys.length c) (R : FRel B w v out)
    (hp : PIn w ad c ys) (hlen : out.length + ys.length ≤ 1000001)
    (h : ∀ v' w', FRel B w' v' (out ++ ys) → w.grownBy w' v.ownBlock → wpList Try.prog P' Q rest (a.put o.dst v') w') :
    wpList Try.prog P' Q (o :: rest) a w :=
  wpList_plain hgd fun K hK => wpo_appn s x ho hs hx R hp hlen fun v' w' h1 h2 => hK _ _ (h v' w' h1 h2)
theorem step_appn {ops : Array Oper} {o : Oper} {N : Option Tmp} {a : Act} {K : Act → World → Prop} {Q : Exit → Act → World → Prop} {B : Nat} {w : World} {ys : List Pr} {v : Value} {out : List Pr} {ad : Option Addr} {c : Nat} (hw : Region.wanted o (yielded ops a.tmps) = true) (hN : o.dst = N) (s x : Operand)
    (ho : o.op = .call { callee := .builtin .append, args := #[s, x], argTypes := #[22, 22] }) (hs : a.eval s = v) (hx : a.eval x = .slice ad ys.length c) (R : FRel B w v out)
    (hp : PIn w ad c ys) (hlen : out.length + ys.length ≤ 1000001)
    (h : ∀ v' w', FRel B w' v' (out ++ ys) → w.grownBy w' v.ownBlock → K (a.put N v') w') :
    if Region.wanted o (yielded ops a.tmps) = true then Oper.wp Try.prog o a w K Q else K (a.put N undef) w := by
  rw [if_pos hw]
  subst hN
  exact wpo_appn s x ho hs hx R hp hlen h

end Go.Proofs.Ytkcfkanfdbejiaa
