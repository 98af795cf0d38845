/- Cut without an arena. -/
import Derived.Test.YtakgknoldkfekaaNilW
import Derived.Test.YtakgknoldkfekaaCutW
namespace Go.Proofs.Ytakgknoldkfekaa
set_option maxRecDepth 100000
open Go.RowKit
set_option linter.unusedSimpArgs false
set_option linter.unusedVariables false

theorem cutNil_any (w : World) (t key : Int) : Calls Try.prog 27 #[.pointer none, .int .i64 t, .int .i64 key] w fun e w' => e = .returned (.tuple #[.int .i64 0, .int .i64 0, .bool false, .int .i64 1]) ∧ Below w.heap.size w w' :=
  (cutO_any (OAt.none_ w) t key).mono fun e w' h => ⟨h.1, h.2.nil⟩
theorem cutO_out {a : Ar} {t : Int} (key : Int) (h : isT (some a) t = false) : cutO (some a) t key = (0, 0, false, 1, some a) := by unfold cutO; rw [if_pos h]

end Go.Proofs.Ytakgknoldkfekaa
