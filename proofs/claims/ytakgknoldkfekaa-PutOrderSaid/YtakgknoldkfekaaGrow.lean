/- What has grown: an arena and new blocks. -/
import Derived.Test.YtakgknoldkfekaaSt
namespace Go.Proofs.Ytakgknoldkfekaa
set_option maxRecDepth 100000
open Go.RowKit

/-- From F in w to F' in w': nothing but F has turned, and what F' has more is new. -/
def Grow (F : Nat → Prop) (w : World) (F' : Nat → Prop) (w' : World) : Prop := Frame F w w' ∧ ∀ b, F' b → F b ∨ w.heap.size ≤ b
theorem Grow.trans {F F' F2 : Nat → Prop} {w w1 w2 : World} (h : Grow F w F' w1) (k : Grow F' w1 F2 w2) : Grow F w F2 w2 :=
  ⟨h.1.trans k.1 (fun x hx hf => (h.2 x hf).elim id (fun hh => absurd hh (by omega))), fun b hb => (k.2 b hb).elim (h.2 b) (fun hh => .inr (by have := h.1.size; omega))⟩
theorem Grow.of_below {F : Nat → Prop} {w w' : World} (h : Below w.heap.size w w') : Grow F w F w' := ⟨Frame.of_below h, fun _ h => .inl h⟩
theorem Grow.refl (F : Nat → Prop) (w : World) : Grow F w F w := .of_below (Below.refl _ _)
theorem Grow.size {F F' : Nat → Prop} {w w' : World} (h : Grow F w F' w') : w.heap.size ≤ w'.heap.size := h.1.size
theorem Made.of_grow {F F' : Nat → Prop} {w w' : World} {po : Option Addr} {A : OA} (h : Grow F w F' w') (ho : OAt w' po A F') : Made F w po A w' := ⟨F', ho, h.1, h.2⟩
theorem Made.out {F : Nat → Prop} {w w' : World} {po : Option Addr} {A : OA} (h : Made F w po A w') : ∃ F', OAt w' po A F' ∧ Grow F w F' w' := by
  obtain ⟨F', h1, h2, h3⟩ := h
  exact ⟨F', h1, h2, h3⟩
theorem St.grow {W w w' : World} {po : Option Addr} {A A' : OA} {F F' : Nat → Prop} (h : St W w po A F) (hg : Grow F w F' w') (ho : OAt w' po A' F') : St W w' po A' F' := by
  have hs := h.size
  exact ⟨ho, h.below.trans (hg.1.below h.own hs), fun b hb => (hg.2 b hb).elim (h.own b) (fun h => by omega)⟩
theorem Kp.grow {w w' : World} {F F' : Nat → Prop} {k : Nat} {o : Obj} (h : Kp w F k o) (hg : Grow F w F' w') : Kp w' F' k o :=
  ⟨(hg.1.block k h.lt h.free).trans h.at_, fun hf => (hg.2 k hf).elim h.free (fun hh => by have := h.lt; omega)⟩

theorem St.fits {W w : World} {po : Option Addr} {a : Ar} {F : Nat → Prop} (h : St W w po (some a) F) : (a.slots.length : Int) ≤ a.room := by
  rcases h.arena with ⟨h1, _⟩ | ⟨b, p, sv, row, h1, _, h2⟩
  · exact absurd h1 (by simp)
  · obtain rfl := Option.some.inj h1
    exact h2.ok.fits

end Go.Proofs.Ytakgknoldkfekaa
