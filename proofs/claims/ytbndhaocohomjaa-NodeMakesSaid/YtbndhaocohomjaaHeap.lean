/- How an arena lies in memory, and what stays as it is. -/
import Derived.Test.YtbndhaocohomjaaAbs
import Derived.Test.YtbndhaocohomjaaProg
import Derived.WalkKit
import Derived.KernelRfl
namespace Go.Proofs.Ytbndhaocohomjaa
set_option maxRecDepth 100000
open Go.RowKit

/-- The arena a lies at block p; F: blocks that are its own. -/
structure ArAt (w : World) (p : Nat) (a : Ar) (F : Nat → Prop) (sv : Value) (row : List Value) : Prop where
  ok : a.Ok
  blk : w.heap[p]? = some (.cells #[.int .i64 a.room, sv, .int .i64 a.steps] 65 (0, 0))
  own : w.ownsRow 0 69 2 sv a.slots.length row
  kind : ∀ i s, a.slots[i]? = some s → row[2 * i]? = some (.int .i64 s.kind)
  vals : ∀ i s, a.slots[i]? = some s → ∃ v, row[2 * i + 1]? = some v ∧ w.ownsRow 0 3 1 v s.vals.length (s.vals.map (Value.int .i64)) ∧ ∀ b, v.ownBlock = some b → F b
  apart : ∀ i j v u b, row[2 * i + 1]? = some v → row[2 * j + 1]? = some u → v.ownBlock = some b → u.ownBlock = some b → i = j
  footp : F p
  foots : ∀ b, sv.ownBlock = some b → F b
  lt : ∀ b, F b → b < w.heap.size

def OAt (w : World) (po : Option Addr) (A : OA) (F : Nat → Prop) : Prop :=
  (A = none ∧ po = none ∧ ∀ b, F b → b < w.heap.size) ∨ ∃ a p sv row, A = some a ∧ po = some ⟨p, 0, none⟩ ∧ ArAt w p a F sv row

/-- Nothing has turned but what F names; what is new is new. -/
structure Frame (F : Nat → Prop) (w w' : World) : Prop where
  os : w'.os = w.os
  tape : w'.tape = w.tape
  output : w'.output = w.output
  size : w.heap.size ≤ w'.heap.size
  block : ∀ k, k < w.heap.size → ¬ F k → w'.heap[k]? = w.heap[k]?

theorem Frame.of_below {F : Nat → Prop} {w w' : World} (h : Below w.heap.size w w') : Frame F w w' := ⟨h.os, h.tape, h.output, h.size, fun k hk _ => h.block k hk⟩
theorem Frame.refl (F : Nat → Prop) (w : World) : Frame F w w := .of_below (Below.refl _ _)
theorem Frame.trans {F F' : Nat → Prop} {a b c : World} (h : Frame F a b) (k : Frame F' b c) (hF : ∀ x, x < a.heap.size → F' x → F x) : Frame F a c :=
  ⟨k.os.trans h.os, k.tape.trans h.tape, k.output.trans h.output, Nat.le_trans h.size k.size, fun i hi hn => (k.block i (Nat.lt_of_lt_of_le hi h.size) (fun hf => hn (hF i hi hf))).trans (h.block i hi hn)⟩
theorem Frame.below {F : Nat → Prop} {B : Nat} {w w' : World} (h : Frame F w w') (hF : ∀ x, F x → B ≤ x) (hB : B ≤ w.heap.size) : Below B w w' :=
  ⟨h.os, h.tape, h.output, h.size, fun k hk => h.block k (by omega) (fun hf => by have := hF k hf; omega)⟩

theorem ownsRow_same {w w' : World} {base : Nat} {e : TypeId} {size : Nat} {v : Value} {n : Nat} {xs : List Value} (h : w.ownsRow base e size v n xs)
    (hs : ∀ b, v.ownBlock = some b → w'.heap[b]? = w.heap[b]?) : w'.ownsRow base e size v n xs := by
  refine ⟨h.1, ?_⟩
  rcases h.2 with hn | ⟨g, cap, cur, rfl, hb, hg, rest⟩
  · exact .inl hn
  · exact .inr ⟨g, cap, cur, rfl, hb, (hs g rfl).trans hg, rest⟩

/-- The same blocks, the same arena. -/
theorem ArAt.same {w w' : World} {p : Nat} {a : Ar} {F : Nat → Prop} {sv : Value} {row : List Value} (h : ArAt w p a F sv row) (hs : ∀ b, F b → w'.heap[b]? = w.heap[b]?) (hsz : w.heap.size ≤ w'.heap.size) : ArAt w' p a F sv row where
  ok := h.ok
  blk := (hs p h.footp).trans h.blk
  own := ownsRow_same h.own (fun b hb => hs b (h.foots b hb))
  kind := h.kind
  vals := fun i s hi => by
    obtain ⟨v, h1, h2, h3⟩ := h.vals i s hi
    exact ⟨v, h1, ownsRow_same h2 (fun b hb => hs b (h3 b hb)), h3⟩
  apart := h.apart
  footp := h.footp
  foots := h.foots
  lt := fun b hb => Nat.lt_of_lt_of_le (h.lt b hb) hsz

theorem OAt.lt {w : World} {po : Option Addr} {A : OA} {F : Nat → Prop} (h : OAt w po A F) : ∀ b, F b → b < w.heap.size := by
  rcases h with ⟨_, _, h⟩ | ⟨a, p, sv, row, _, _, h⟩
  · exact h
  · exact h.lt
theorem OAt.same {w w' : World} {po : Option Addr} {A : OA} {F : Nat → Prop} (h : OAt w po A F) (hs : ∀ b, F b → w'.heap[b]? = w.heap[b]?) (hsz : w.heap.size ≤ w'.heap.size) : OAt w' po A F := by
  rcases h with ⟨h1, h2, h3⟩ | ⟨a, p, sv, row, h1, h2, h⟩
  · exact .inl ⟨h1, h2, fun b hb => Nat.lt_of_lt_of_le (h3 b hb) hsz⟩
  · exact .inr ⟨a, p, sv, row, h1, h2, h.same hs hsz⟩
theorem OAt.below {w w' : World} {po : Option Addr} {A : OA} {F : Nat → Prop} (h : OAt w po A F) (hb : Below w.heap.size w w') : OAt w' po A F :=
  h.same (fun b hf => hb.block b (h.lt b hf)) hb.size
theorem OAt.alloc {w : World} {po : Option Addr} {A : OA} {F : Nat → Prop} (h : OAt w po A F) (o : Obj) : OAt (w.alloc o) po A F :=
  h.below ((Below.refl _ _).alloc (Nat.le_refl _) _)

/-- What the walk reads of a slot. -/
theorem ArAt.cells {w : World} {p : Nat} {a : Ar} {F : Nat → Prop} {sv : Value} {row : List Value} (h : ArAt w p a F sv row) :
    w.cell? ⟨p, 0, none⟩ = some (.int .i64 a.room) ∧ w.cell? ⟨p, 1, none⟩ = some sv ∧ w.cell? ⟨p, 2, none⟩ = some (.int .i64 a.steps) := by
  refine ⟨?_, ?_, ?_⟩ <;> simp [World.cell?, h.blk]
theorem ArAt.free {w : World} {p : Nat} {a : Ar} {F : Nat → Prop} {sv : Value} {row : List Value} (h : ArAt w p a F sv row) (i : Nat) : w.frozen? ⟨p, i, none⟩ = false := by
  simp [World.frozen?, h.blk]
/-- The slots' own slice. -/
theorem ArAt.slice {w : World} {p : Nat} {a : Ar} {F : Nat → Prop} {sv : Value} {row : List Value} (h : ArAt w p a F sv row) : ∃ ad cap, sv = .slice ad a.slots.length cap ∧ a.slots.length ≤ cap := by
  rcases h.own.2 with ⟨rfl, h2⟩ | ⟨g, cap, cur, rfl, _, _, hc, _⟩
  · exact ⟨none, 0, by rw [h2], by omega⟩
  · exact ⟨_, _, rfl, hc⟩
theorem ArAt.at_ {w : World} {p : Nat} {a : Ar} {F : Nat → Prop} {sv : Value} {row : List Value} (h : ArAt w p a F sv row) {i : Nat} (hi : i < a.slots.length) :
    ∃ g cap v, sv = .slice (some ⟨g, 0, none⟩) a.slots.length cap ∧ a.slots.length ≤ cap ∧ F g ∧ w.cell? ⟨g, i * 2, none⟩ = some (.int .i64 (a.slots[i]).kind) ∧ w.cell? ⟨g, i * 2 + 1, none⟩ = some v ∧ row[2 * i + 1]? = some v ∧
      w.ownsRow 0 3 1 v (a.slots[i]).vals.length ((a.slots[i]).vals.map (Value.int .i64)) ∧ ∀ b, v.ownBlock = some b → F b := by
  have hs : a.slots[i]? = some a.slots[i] := List.getElem?_eq_getElem hi
  obtain ⟨v, h1, h2, h3⟩ := h.vals i _ hs
  have h4 := h.kind i _ hs
  obtain ⟨ad, cap, rfl, hcap⟩ := h.slice
  rcases h.own.2 with ⟨hx, hz⟩ | ⟨g, cap', cur, hx, _, _, hc, _⟩
  · omega
  · simp only [Value.slice.injEq] at hx
    obtain ⟨rfl, _, rfl⟩ := hx
    refine ⟨g, cap, v, rfl, hcap, h.foots g rfl, ?_, ?_, h1, h2, h3⟩
    · rw [h.own.cellAt (i * 2) (by omega), Nat.mul_comm i 2]; exact h4
    · rw [h.own.cellAt (i * 2 + 1) (by omega), Nat.mul_comm i 2]; exact h1

end Go.Proofs.Ytbndhaocohomjaa
