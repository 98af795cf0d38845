/- Says of parts of a slice of pairs. -/
import Derived.Test.YtakgknoldkfekaaSaysW
namespace Go.Proofs.Ytakgknoldkfekaa
set_option maxRecDepth 100000
open Go.RowKit

theorem says_take {w : World} {p : Nat} {a : Ar} {F : Nat → Prop} {t : Int} {ad : Option Addr} {c : Nat} {l : List Pr} (m : Nat) (hm : m ≤ l.length) (hl : l.length ≤ 1000000) (ho : OAt w (some ⟨p, 0, none⟩) (some a) F) (hk : PK w F ad c l) (ht : Tr a t (l.take m)) :
    Calls Try.prog 18 #[.pointer (some ⟨p, 0, none⟩), .int .i64 t, .slice ad m c] w fun e w' => e = .returned (.int .i64 0) ∧ Below w.heap.size w w' := by
  have := says_any _ w p a F t ad c (l.take m) (Nat.le_refl _) (by rw [List.length_take]; omega) ho (hk.take m) ht
  rw [List.length_take, Nat.min_eq_left hm] at this
  exact this
/-- The rest of a slice from a place on: how it lies, what Says tells of it. -/
theorem rest_from {ad : Option Addr} {c : Nat} {l : List Pr} (m : Nat) (hm : m ≤ l.length) (hl : l.length ≤ 1000000) : ∃ A2 c2 n2,
    n2 = l.length - m ∧ (∀ W : World, (Instr.slice 22 (.slice ad l.length c) (some (.int .i64 (m : Int))) none none).run Try.prog W = .ok (.slice A2 n2 c2) W) ∧ (∀ w F, PK w F ad c l → PK w F A2 c2 (l.drop m)) ∧
    ∀ w p a F t, OAt w (some ⟨p, 0, none⟩) (some a) F → PK w F ad c l → Tr a t (l.drop m) → Calls Try.prog 18 #[.pointer (some ⟨p, 0, none⟩), .int .i64 t, .slice A2 n2 c2] w fun e w' => e = .returned (.int .i64 0) ∧ Below w.heap.size w w' := by
  obtain ⟨A2, c2, n2, h1, h2, h3⟩ := subK_from (ad := ad) (c := c) m hm
  refine ⟨A2, c2, n2, by rw [h1, List.length_drop], h2, h3, fun w p a F t ho hk ht => ?_⟩
  have := says_any _ w p a F t A2 c2 (l.drop m) (Nat.le_refl _) (by rw [List.length_drop]; omega) ho (h3 w F hk) ht
  rw [← h1] at this
  exact this

end Go.Proofs.Ytakgknoldkfekaa
