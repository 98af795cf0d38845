/- Put without an arena. -/
import Derived.Test.YtakgknoldkfekaaNilW
import Derived.Test.YtakgknoldkfekaaPutW2
namespace Go.Proofs.Ytakgknoldkfekaa
set_option maxRecDepth 100000
open Go.RowKit
set_option linter.unusedSimpArgs false
set_option linter.unusedVariables false

theorem putNil_any (w : World) (t k v : Int) : Calls Try.prog 37 #[.pointer none, .int .i64 t, .agg #[.int .i64 k, .int .i64 v]] w fun e w' => e = .returned (.tuple #[.int .i64 0, .int .i64 0, .bool false, .int .i64 1]) ∧ Below w.heap.size w w' :=
  (putO_any (OAt.none_ w) t k v).mono fun e w' h => ⟨h.1, h.2.nil⟩
theorem addO_out {a : Ar} {t : Int} (k v : Int) (h : isT (some a) t = false) : addO (some a) t k v = (0, 0, false, 1, some a) := by unfold addO; rw [if_pos h]

end Go.Proofs.Ytakgknoldkfekaa
