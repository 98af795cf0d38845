/- Calls without an arena; numbers that there are not. -/
import Derived.Test.YtakgknoldkfekaaMade
import Derived.Test.YtakgknoldkfekaaPartW
import Derived.Test.YtakgknoldkfekaaPutW2
import Derived.Test.YtakgknoldkfekaaCutW
namespace Go.Proofs.Ytakgknoldkfekaa
set_option maxRecDepth 100000
open Go.RowKit
set_option linter.unusedSimpArgs false
set_option linter.unusedVariables false

theorem OAt.none_ (w : World) : OAt w none none (fun _ => False) := .inl ⟨rfl, rfl, fun _ h => h.elim⟩
theorem Made.nil {w w' : World} {po : Option Addr} {A : OA} (h : Made (fun _ => False) w po A w') : Below w.heap.size w w' := by
  obtain ⟨F', h1, h2, h3⟩ := h
  exact h2.below (fun _ h => h.elim) (Nat.le_refl _)
theorem isN_out {a : Ar} {t : Int} (h : (a.slots.length : Int) < t ∨ t < 1) : isN (some a) t = false := by
  cases hn : isN (some a) t with
  | false => rfl
  | true => have := isN_in hn; omega
theorem isT_out {a : Ar} {t : Int} (h : (a.slots.length : Int) < t ∨ t < 0) : isT (some a) t = false := by
  unfold isT
  rw [isN_out (by omega), decide_eq_false (by omega)]
  rfl
theorem partNil_any (w : World) (t key : Int) : Calls Try.prog 17 #[.pointer none, .int .i64 t, .int .i64 key] w fun e w' => e = .returned (.tuple #[.int .i64 0, .int .i64 0, .int .i64 1]) ∧ Below w.heap.size w w' :=
  (partO_any (OAt.none_ w) t key).mono fun e w' h => ⟨h.1, h.2.nil⟩
theorem putNil_any (w : World) (t k v : Int) : Calls Try.prog 37 #[.pointer none, .int .i64 t, .agg #[.int .i64 k, .int .i64 v]] w fun e w' => e = .returned (.tuple #[.int .i64 0, .int .i64 0, .bool false, .int .i64 1]) ∧ Below w.heap.size w w' :=
  (putO_any (OAt.none_ w) t k v).mono fun e w' h => ⟨h.1, h.2.nil⟩
theorem addO_out {a : Ar} {t : Int} (k v : Int) (h : isT (some a) t = false) : addO (some a) t k v = (0, 0, false, 1, some a) := by unfold addO; rw [if_pos h]
theorem cutNil_any (w : World) (t key : Int) : Calls Try.prog 27 #[.pointer none, .int .i64 t, .int .i64 key] w fun e w' => e = .returned (.tuple #[.int .i64 0, .int .i64 0, .bool false, .int .i64 1]) ∧ Below w.heap.size w w' :=
  (cutO_any (OAt.none_ w) t key).mono fun e w' h => ⟨h.1, h.2.nil⟩
theorem cutO_out {a : Ar} {t : Int} (key : Int) (h : isT (some a) t = false) : cutO (some a) t key = (0, 0, false, 1, some a) := by unfold cutO; rw [if_pos h]
theorem halfO_out {a : Ar} {t : Int} (h : isT (some a) t = false) : halfO (some a) t = (0, 0, 0, 1, some a) := by unfold halfO; rw [if_pos h]

end Go.Proofs.Ytakgknoldkfekaa
