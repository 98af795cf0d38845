/- What a law's walk carries along: its arena, what has not turned since it began, blocks of its own beside the arena. -/
/- What has grown: an arena and new blocks. -/
import Derived.Test.YtbndhaocohomjaaNodeMk
namespace Go.Proofs.Ytbndhaocohomjaa
set_option maxRecDepth 100000
open Go.RowKit

/-- The law began in W; now it is w; the arena A lies at po, in blocks F of the law's own. -/
structure St (W w : World) (po : Option Addr) (A : OA) (F : Nat → Prop) : Prop where
  arena : OAt w po A F
  below : Below W.heap.size W w
  own : ∀ b, F b → W.heap.size ≤ b

/-- A block beside the arena. -/
structure Kp (w : World) (F : Nat → Prop) (k : Nat) (o : Obj) : Prop where
  at_ : w.heap[k]? = some o
  free : ¬ F k

theorem Kp.lt {w : World} {F : Nat → Prop} {k : Nat} {o : Obj} (h : Kp w F k o) : k < w.heap.size := (Array.getElem?_eq_some_iff.1 h.at_).1
theorem Kp.below {w w' : World} {F : Nat → Prop} {k : Nat} {o : Obj} (h : Kp w F k o) (hb : Below w.heap.size w w') : Kp w' F k o := ⟨(hb.block k h.lt).trans h.at_, h.free⟩
theorem Kp.alloc {w : World} {F : Nat → Prop} {k : Nat} {o : Obj} (h : Kp w F k o) (x : Obj) : Kp (w.alloc x) F k o := h.below ((Below.refl _ _).alloc (Nat.le_refl _) _)
theorem Kp.cell {w : World} {F : Nat → Prop} {k i : Nat} {cs : Array Value} {t : TypeId} {fr : Nat × Nat} {v : Value} (h : Kp w F k (.cells cs t fr)) (hv : cs[i]? = some v) : w.cell? ⟨k, i, none⟩ = some v := cell_blk h.at_ hv

theorem St.size {W w : World} {po : Option Addr} {A : OA} {F : Nat → Prop} (h : St W w po A F) : W.heap.size ≤ w.heap.size := h.below.size
theorem St.later {W w w' : World} {po : Option Addr} {A : OA} {F : Nat → Prop} (h : St W w po A F) (hb : Below w.heap.size w w') : St W w' po A F :=
  ⟨h.arena.below hb, h.below.trans (hb.mono h.size), h.own⟩
theorem St.alloc {W w : World} {po : Option Addr} {A : OA} {F : Nat → Prop} (h : St W w po A F) (o : Obj) : St W (w.alloc o) po A F :=
  h.later ((Below.refl _ _).alloc (Nat.le_refl _) _)
theorem St.new {W w : World} {po : Option Addr} {A : OA} {F : Nat → Prop} (h : St W w po A F) (o : Obj) : Kp (w.alloc o) F w.heap.size o :=
  ⟨heap_alloc_new w o, fun hf => by have := h.arena.lt _ hf; omega⟩
theorem St.begin {W w w' : World} {A : OA} (hB : Below W.heap.size W w) (h : OAt w' (some ⟨w.heap.size, 0, none⟩) A (fun b => b = w.heap.size)) (hb : Below w.heap.size w w') : St W w' (some ⟨w.heap.size, 0, none⟩) A (fun b => b = w.heap.size) :=
  ⟨h, hB.trans (hb.mono hB.size), fun b hb => by rw [hb]; exact hB.size⟩
theorem St.made {W w w' : World} {po : Option Addr} {A A' : OA} {F : Nat → Prop} (h : St W w po A F) (hm : Made F w po A' w') :
    ∃ F', St W w' po A' F' ∧ (∀ k o, Kp w F k o → Kp w' F' k o) ∧ w.heap.size ≤ w'.heap.size := by
  obtain ⟨F', h1, h2, h3⟩ := hm
  have hs := h.size
  refine ⟨F', ⟨h1, h.below.trans (h2.below h.own hs), fun b hb => (h3 b hb).elim (h.own b) (fun h => by omega)⟩, fun k o hk => ⟨(h2.block k hk.lt hk.free).trans hk.at_, fun hf => ?_⟩, h2.size⟩
  rcases h3 k hf with h' | h'
  · exact hk.free h'
  · have := hk.lt; omega

end Go.Proofs.Ytbndhaocohomjaa

namespace Go.Proofs.Ytbndhaocohomjaa
set_option maxRecDepth 100000
open Go.RowKit

/-- From F in w to F' in w': nothing but F has turned, and what F' has more is new. -/
def Grow (F : Nat → Prop) (w : World) (F' : Nat → Prop) (w' : World) : Prop := Frame F w w' ∧ ∀ b, F' b → F b ∨ w.heap.size ≤ b
theorem Grow.trans {F F' F2 : Nat → Prop} {w w1 w2 : World} (h : Grow F w F' w1) (k : Grow F' w1 F2 w2) : Grow F w F2 w2 :=
  ⟨h.1.trans k.1 (fun x hx hf => (h.2 x hf).elim id (fun hh => absurd hh (by omega))), fun b hb => (k.2 b hb).elim (h.2 b) (fun hh => .inr (by have := h.1.size; omega))⟩
theorem Grow.of_below {F : Nat → Prop} {w w' : World} (h : Below w.heap.size w w') : Grow F w F w' := ⟨Frame.of_below h, fun _ h => .inl h⟩
theorem Grow.refl (F : Nat → Prop) (w : World) : Grow F w F w := .of_below (Below.refl _ _)
theorem Grow.size {F F' : Nat → Prop} {w w' : World} (h : Grow F w F' w') : w.heap.size ≤ w'.heap.size := h.1.size
theorem Made.of_grow {F F' : Nat → Prop} {w w' : World} {po : Option Addr} {A : OA} (h : Grow F w F' w') (ho : OAt w' po A F') : Made F w po A w' := ⟨F', ho, h.1, h.2⟩
theorem Made.out {F : Nat → Prop} {w w' : World} {po : Option Addr} {A : OA} (h : Made F w po A w') : ∃ F', OAt w' po A F' ∧ Grow F w F' w' := by
  obtain ⟨F', h1, h2, h3⟩ := h
  exact ⟨F', h1, h2, h3⟩
theorem St.grow {W w w' : World} {po : Option Addr} {A A' : OA} {F F' : Nat → Prop} (h : St W w po A F) (hg : Grow F w F' w') (ho : OAt w' po A' F') : St W w' po A' F' := by
  have hs := h.size
  exact ⟨ho, h.below.trans (hg.1.below h.own hs), fun b hb => (hg.2 b hb).elim (h.own b) (fun h => by omega)⟩
theorem Kp.grow {w w' : World} {F F' : Nat → Prop} {k : Nat} {o : Obj} (h : Kp w F k o) (hg : Grow F w F' w') : Kp w' F' k o :=
  ⟨(hg.1.block k h.lt h.free).trans h.at_, fun hf => (hg.2 k hf).elim h.free (fun hh => by have := h.lt; omega)⟩

theorem St.fits {W w : World} {po : Option Addr} {a : Ar} {F : Nat → Prop} (h : St W w po (some a) F) : (a.slots.length : Int) ≤ a.room := by
  rcases h.arena with ⟨h1, _⟩ | ⟨b, p, sv, row, h1, _, h2⟩
  · exact absurd h1 (by simp)
  · obtain rfl := Option.some.inj h1
    exact h2.ok.fits

end Go.Proofs.Ytbndhaocohomjaa

