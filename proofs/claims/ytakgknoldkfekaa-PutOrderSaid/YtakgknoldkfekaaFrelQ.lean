/- Rows of pairs of the call's own: what stays of them; the rest of a slice. -/
import Derived.Test.YtakgknoldkfekaaAppsW
namespace Go.Proofs.Ytakgknoldkfekaa
set_option maxRecDepth 100000
open Go.RowKit

theorem FRel.later {B : Nat} {wr w' : World} {v : Value} {out : List Pr} (h : FRel B wr v out) (hb : Below wr.heap.size wr w') : FRel B w' v out :=
  ⟨ownsRow_same h.own (fun b hv => hb.block b (h.own.lt b hv).2), Nat.le_trans h.le hb.size⟩
theorem subKC_from {ad : Option Addr} {c : Nat} {l : List Pr} (m : Nat) (hm : m ≤ l.length) (hc : ad = none → c = 0) : ∃ A2 c2 n2, n2 = (l.drop m).length ∧
    (∀ W : World, (Instr.slice 22 (.slice ad l.length c) (some (.int .i64 (m : Int))) none none).run Try.prog W = .ok (.slice A2 n2 c2) W) ∧ (∀ w F, PK w F ad c l → PK w F A2 c2 (l.drop m)) ∧ (A2 = none → c2 = 0) :=
  ⟨_, _, _, rfl, fun W => by rw [cutP_from ad l.length c m hm W, List.length_drop], fun w F h => h.drop m hm, fun h => by
    have : ad = none := by
      by_cases e : c = m
      · rw [if_pos e] at h; exact h
      · rw [if_neg e] at h; simpa using h
    have := hc this
    omega⟩
theorem Below.growB {B : Nat} {W wr w' : World} {v : Value} {out : List Pr} (h : Below B W wr) (R : FRel B wr v out) (hg : wr.grownBy w' v.ownBlock) : Below B W w' :=
  h.grown hg R.le (fun k hk => (R.own.lt k hk).1)

end Go.Proofs.Ytakgknoldkfekaa
