/- How the reference's arena lies in memory, and what a store, an append does to it. -/
import Derived.Test.YtbndhaocohomjaaHeavyW
import Derived.Test.YtbndhaocohomjaaGrow
namespace Go.Proofs.Ytbndhaocohomjaa
set_option maxRecDepth 100000
open Go.RowKit
set_option linter.unusedVariables false

def rh (s : Slot) : Int := if s.kind = 0 then s.vals.getD 0 0 else 0
def rl (s : Slot) : List Int := if s.kind = 0 then [] else s.vals

/-- The reference's arena a lies at block p; F: blocks that are its own. -/
structure RfAt (w : World) (p : Nat) (a : Ar) (F : Nat → Prop) (sv : Value) (row : List Value) : Prop where
  ok : a.Ok
  blk : w.heap[p]? = some (.cells #[.int .i64 a.room, sv, .int .i64 a.steps] 60 (0, 0))
  own : w.ownsRow 0 71 4 sv a.slots.length row
  recs : ∀ i s, a.slots[i]? = some s → ∃ v, row[4 * i]? = some (.int .i64 s.kind) ∧ row[4 * i + 1]? = some v ∧ row[4 * i + 2]? = some (.bool (decide (s.kind = 0))) ∧ row[4 * i + 3]? = some (.int .i64 (rh s)) ∧
    w.ownsRow 0 3 1 v (rl s).length ((rl s).map (Value.int .i64)) ∧ ∀ b, v.ownBlock = some b → F b
  footp : F p
  foots : ∀ b, sv.ownBlock = some b → F b
  lt : ∀ b, F b → b < w.heap.size
def RO (w : World) (p : Nat) (A : OA) (F : Nat → Prop) : Prop := ∃ a sv row, A = some a ∧ RfAt w p a F sv row
/-- Behind a call of the reference: its arena is A' now, and nothing else has turned. -/
def RMade (F : Nat → Prop) (w : World) (p : Nat) (A' : OA) (w' : World) : Prop := ∃ F', RO w' p A' F' ∧ Grow F w F' w'

theorem RfAt.same {w w' : World} {p : Nat} {a : Ar} {F : Nat → Prop} {sv : Value} {row : List Value} (h : RfAt w p a F sv row) (hs : ∀ b, F b → w'.heap[b]? = w.heap[b]?) (hsz : w.heap.size ≤ w'.heap.size) : RfAt w' p a F sv row where
  ok := h.ok
  blk := (hs p h.footp).trans h.blk
  own := ownsRow_same h.own (fun b hb => hs b (h.foots b hb))
  recs := fun i s hi => by
    obtain ⟨v, h0, h1, h2, h3, h4, h5⟩ := h.recs i s hi
    exact ⟨v, h0, h1, h2, h3, ownsRow_same h4 (fun b hb => hs b (h5 b hb)), h5⟩
  footp := h.footp
  foots := h.foots
  lt := fun b hb => Nat.lt_of_lt_of_le (h.lt b hb) hsz
theorem RfAt.below {w w' : World} {p : Nat} {a : Ar} {F : Nat → Prop} {sv : Value} {row : List Value} (h : RfAt w p a F sv row) (hb : Below w.heap.size w w') : RfAt w' p a F sv row :=
  h.same (fun b hf => hb.block b (h.lt b hf)) hb.size
theorem RO.lt {w : World} {p : Nat} {A : OA} {F : Nat → Prop} (h : RO w p A F) : ∀ b, F b → b < w.heap.size := by
  obtain ⟨a, sv, row, _, h⟩ := h
  exact h.lt
theorem RO.same {w w' : World} {p : Nat} {A : OA} {F : Nat → Prop} (h : RO w p A F) (hs : ∀ b, F b → w'.heap[b]? = w.heap[b]?) (hsz : w.heap.size ≤ w'.heap.size) : RO w' p A F := by
  obtain ⟨a, sv, row, e, h⟩ := h
  exact ⟨a, sv, row, e, h.same hs hsz⟩
theorem RO.below {w w' : World} {p : Nat} {A : OA} {F : Nat → Prop} (h : RO w p A F) (hb : Below w.heap.size w w') : RO w' p A F :=
  h.same (fun b hf => hb.block b (h.lt b hf)) hb.size
theorem RMade.of_below {F : Nat → Prop} {w w' : World} {p : Nat} {A : OA} (h : RO w p A F) (hb : Below w.heap.size w w') : RMade F w p A w' := ⟨F, h.below hb, Grow.of_below hb⟩

theorem RfAt.cells {w : World} {p : Nat} {a : Ar} {F : Nat → Prop} {sv : Value} {row : List Value} (h : RfAt w p a F sv row) :
    w.cell? ⟨p, 0, none⟩ = some (.int .i64 a.room) ∧ w.cell? ⟨p, 1, none⟩ = some sv ∧ w.cell? ⟨p, 2, none⟩ = some (.int .i64 a.steps) := by
  refine ⟨?_, ?_, ?_⟩ <;> simp [World.cell?, h.blk]
theorem RfAt.free {w : World} {p : Nat} {a : Ar} {F : Nat → Prop} {sv : Value} {row : List Value} (h : RfAt w p a F sv row) (i : Nat) : w.frozen? ⟨p, i, none⟩ = false := by
  simp [World.frozen?, h.blk]
theorem RfAt.slice {w : World} {p : Nat} {a : Ar} {F : Nat → Prop} {sv : Value} {row : List Value} (h : RfAt w p a F sv row) : ∃ ad cap, sv = .slice ad a.slots.length cap ∧ a.slots.length ≤ cap := by
  rcases h.own.2 with ⟨rfl, h2⟩ | ⟨g, cap, cur, rfl, _, _, hc, _⟩
  · exact ⟨none, 0, by rw [h2], by omega⟩
  · exact ⟨_, _, rfl, hc⟩
theorem RfAt.at_ {w : World} {p : Nat} {a : Ar} {F : Nat → Prop} {sv : Value} {row : List Value} (h : RfAt w p a F sv row) {i : Nat} (hi : i < a.slots.length) :
    ∃ g cap ad cc, sv = .slice (some ⟨g, 0, none⟩) a.slots.length cap ∧ a.slots.length ≤ cap ∧ F g ∧ w.cell? ⟨g, i * 4, none⟩ = some (.int .i64 (a.slots[i]).kind) ∧ w.cell? ⟨g, i * 4 + 1, none⟩ = some (.slice ad (rl a.slots[i]).length cc) ∧
      w.cell? ⟨g, i * 4 + 2, none⟩ = some (.bool (decide ((a.slots[i]).kind = 0))) ∧ w.cell? ⟨g, i * 4 + 3, none⟩ = some (.int .i64 (rh a.slots[i])) ∧ w.frozen? ⟨g, i * 4 + 3, none⟩ = false ∧ g ≠ p ∧
      ∀ j (hj : j < (rl a.slots[i]).length), ∃ b, ad = some ⟨b, 0, none⟩ ∧ w.cell? ⟨b, j, none⟩ = some (.int .i64 (rl a.slots[i])[j]) := by
  have hs : a.slots[i]? = some a.slots[i] := List.getElem?_eq_getElem hi
  obtain ⟨v, h0, h1, h2, h3, h4, h5⟩ := h.recs i _ hs
  obtain ⟨ad, cc, rfl, _, hv⟩ := vals_form h4
  rcases h.own.2 with ⟨hx, hz⟩ | ⟨g, cap, cur, rfl, _, hg, hc, _⟩
  · omega
  · refine ⟨g, cap, ad, cc, rfl, hc, h.foots g rfl, ?_, ?_, ?_, ?_, by simp [World.frozen?, hg], block_ne hg h.blk (by decide), hv⟩
    · rw [h.own.cellAt (i * 4) (by omega), Nat.mul_comm i 4]; exact h0
    · rw [h.own.cellAt (i * 4 + 1) (by omega), Nat.mul_comm i 4]; exact h1
    · rw [h.own.cellAt (i * 4 + 2) (by omega), Nat.mul_comm i 4]; exact h2
    · rw [h.own.cellAt (i * 4 + 3) (by omega), Nat.mul_comm i 4]; exact h3

/-- A store of the steps. -/
theorem RfAt.step {w : World} {p : Nat} {a : Ar} {F : Nat → Prop} {sv : Value} {row : List Value} (h : RfAt w p a F sv row) (s : Int) :
    RfAt (w.setCell ⟨p, 2, none⟩ (.int .i64 s)) p ⟨a.room, a.slots, s⟩ F sv row := by
  have far : ∀ b, b ≠ p → (w.setCell ⟨p, 2, none⟩ (.int .i64 s)).heap[b]? = w.heap[b]? := fun b hb => heap_setCell_other w _ _ _ (by simpa using hb)
  exact {
    ok := ⟨h.ok.most, h.ok.fits, h.ok.cells⟩
    blk := by rw [heap_setCell_same w p 2 _ _ _ h.blk]; rfl
    own := ownsRow_same h.own (fun b hb => far b (by obtain ⟨c, hc⟩ := ownsRow_block h.own hb; exact block_ne hc h.blk (by decide)))
    recs := fun i x hi => by
      obtain ⟨v, h0, h1, h2, h3, h4, h5⟩ := h.recs i x hi
      exact ⟨v, h0, h1, h2, h3, ownsRow_same h4 (fun b hb => far b (by obtain ⟨c, hc⟩ := ownsRow_block h4 hb; exact block_ne hc h.blk (by decide))), h5⟩
    footp := h.footp
    foots := h.foots
    lt := fun b hb => by have := h.lt b hb; simpa [World.setCell] using this }

/-- A store into what a cell holds. -/
theorem RfAt.put {w : World} {p : Nat} {a : Ar} {F : Nat → Prop} {row : List Value} {g cap n : Nat} (h : RfAt w p a F (.slice (some ⟨g, 0, none⟩) a.slots.length cap) row) (hn : n < a.slots.length) (hk : (a.slots[n]).kind = 0) (x : Int) :
    RfAt (w.setCell ⟨g, n * 4 + 3, none⟩ (.int .i64 x)) p ⟨a.room, a.slots.set n ⟨0, [x]⟩, a.steps⟩ F (.slice (some ⟨g, 0, none⟩) a.slots.length cap) (row.set (n * 4 + 3) (.int .i64 x)) := by
  have hs : a.slots[n]? = some a.slots[n] := List.getElem?_eq_getElem hn
  obtain ⟨c0, hc0⟩ := ownsRow_block h.own rfl
  have far : ∀ k, k ≠ g → (w.setCell ⟨g, n * 4 + 3, none⟩ (.int .i64 x)).heap[k]? = w.heap[k]? := fun k hb => heap_setCell_other w _ _ _ (by simpa using hb)
  have hrl : row.length = 4 * a.slots.length := by have := h.own.1; omega
  refine {
    ok := ⟨h.ok.most, by simpa using h.ok.fits, fun s hs => ?_⟩
    blk := (far p (fun e => block_ne hc0 h.blk (by decide) e.symm)).trans h.blk
    own := by simp only [List.length_set]; exact (World.ownsRow.stored h.own (n * 4 + 3) (.int .i64 x)).1
    recs := fun i s hi => ?_
    footp := h.footp
    foots := h.foots
    lt := fun k hk => by have := h.lt k hk; simpa [World.setCell] using this }
  · rcases List.mem_or_eq_of_mem_set hs with h' | h'
    · exact h.ok.cells s h'
    · subst h'; exact fun _ => ⟨x, rfl⟩
  · by_cases e : i = n
    · subst e
      rw [List.getElem?_set_self hn] at hi
      obtain rfl := Option.some.inj hi
      obtain ⟨v, h0, h1, h2, h3, h4, h5⟩ := h.recs i _ hs
      rw [hk] at h0 h2
      have hrl0 : rl a.slots[i] = [] := by unfold rl; rw [if_pos hk]
      rw [hrl0] at h4
      refine ⟨v, ?_, ?_, ?_, ?_, ownsRow_same h4 (fun k hk => far k (by obtain ⟨c, hc⟩ := ownsRow_block h4 hk; exact block_ne hc hc0 (by decide))), h5⟩
      · rw [List.getElem?_set_ne (by omega)]; exact h0
      · rw [List.getElem?_set_ne (by omega)]; exact h1
      · rw [List.getElem?_set_ne (by omega)]; exact h2
      · rw [Nat.mul_comm 4 i, List.getElem?_set_self (by omega)]; rfl
    · rw [List.getElem?_set_ne (Ne.symm e)] at hi
      obtain ⟨v, h0, h1, h2, h3, h4, h5⟩ := h.recs i s hi
      refine ⟨v, ?_, ?_, ?_, ?_, ownsRow_same h4 (fun k hk => far k (by obtain ⟨c, hc⟩ := ownsRow_block h4 hk; exact block_ne hc hc0 (by decide))), h5⟩
      · rw [List.getElem?_set_ne (by omega)]; exact h0
      · rw [List.getElem?_set_ne (by omega)]; exact h1
      · rw [List.getElem?_set_ne (by omega)]; exact h2
      · rw [List.getElem?_set_ne (by omega)]; exact h3

/-- One record more, behind the append and the store of the slice. -/
theorem RfAt.more {w w2 : World} {p : Nat} {a : Ar} {F : Nat → Prop} {sv : Value} {row : List Value} (h : RfAt w p a F sv row) {s : Slot} {v : Value} {g cap : Nat}
    (hroom : (a.slots.length : Int) < a.room) (hcell : s.kind = 0 → ∃ x, s.vals = [x])
    (hv : w.ownsRow 0 3 1 v (rl s).length ((rl s).map (Value.int .i64)))
    (hown : w2.ownsRow 0 71 4 (.slice (some ⟨g, 0, none⟩) (a.slots.length + 1) cap) (a.slots.length + 1) (row ++ [.int .i64 s.kind, v, .bool (decide (s.kind = 0)), .int .i64 (rh s)]))
    (hgrow : w.grownBy w2 sv.ownBlock) (hat : sv.ownBlock = some g ∨ w.heap.size ≤ g) (hlt : g < w2.heap.size) :
    ∃ F', RfAt (w2.setCell ⟨p, 1, none⟩ (.slice (some ⟨g, 0, none⟩) (a.slots.length + 1) cap)) p ⟨a.room, a.slots ++ [s], a.steps⟩ F' (.slice (some ⟨g, 0, none⟩) (a.slots.length + 1) cap) (row ++ [.int .i64 s.kind, v, .bool (decide (s.kind = 0)), .int .i64 (rh s)]) ∧
      Frame F w (w2.setCell ⟨p, 1, none⟩ (.slice (some ⟨g, 0, none⟩) (a.slots.length + 1) cap)) ∧ (∀ b, F' b → F b ∨ v.ownBlock = some b ∨ w.heap.size ≤ b) := by
  have hpne : some p ≠ sv.ownBlock := fun e => by
    obtain ⟨c, hc⟩ := ownsRow_block h.own e.symm
    rw [h.blk] at hc; simp at hc
  have hplt := h.lt p h.footp
  have hp2 : w2.heap[p]? = some (.cells #[.int .i64 a.room, sv, .int .i64 a.steps] 60 (0, 0)) := (hgrow.block p hplt hpne).trans h.blk
  have far : ∀ k, k ≠ p → (w2.setCell ⟨p, 1, none⟩ (.slice (some ⟨g, 0, none⟩) (a.slots.length + 1) cap)).heap[k]? = w2.heap[k]? := fun k hb => heap_setCell_other w2 _ _ _ (by simpa using hb)
  have hrl : row.length = 4 * a.slots.length := by have := h.own.1; omega
  have keep : ∀ (u : Value) (l : List Int), w.ownsRow 0 3 1 u l.length (l.map (Value.int .i64)) → (w2.setCell ⟨p, 1, none⟩ (.slice (some ⟨g, 0, none⟩) (a.slots.length + 1) cap)).ownsRow 0 3 1 u l.length (l.map (Value.int .i64)) := fun u l hu =>
    ownsRow_same hu (fun b hb => by
      obtain ⟨c, hc⟩ := ownsRow_block hu hb
      have hbl : b < w.heap.size := (Array.getElem?_eq_some_iff.1 hc).1
      rw [far b (block_ne hc h.blk (by decide)), hgrow.block b hbl (fun e => by obtain ⟨c', hc'⟩ := ownsRow_block h.own e.symm; rw [hc] at hc'; simp at hc')])
  refine ⟨fun b => F b ∨ v.ownBlock = some b ∨ (w.heap.size ≤ b ∧ b < w2.heap.size), ?_, ?_, fun b hb => hb.imp id (fun h' => h'.imp id (fun h'' => h''.1))⟩
  · refine {
      ok := ⟨h.ok.most, by simp only [List.length_append, List.length_singleton]; omega, fun s' hs' => ?_⟩
      blk := by rw [heap_setCell_same w2 p 1 _ _ _ hp2]; rfl
      own := by
        simp only [List.length_append, List.length_singleton]
        refine ownsRow_same hown (fun k hk => far k ?_)
        obtain ⟨c, hc⟩ := ownsRow_block hown hk
        exact block_ne hc hp2 (by decide)
      recs := fun i s' hi => ?_
      footp := .inl h.footp
      foots := fun b hb => by
        simp [Value.ownBlock] at hb
        subst hb
        rcases hat with h' | h'
        · exact .inl (h.foots _ h')
        · exact .inr (.inr ⟨h', hlt⟩)
      lt := fun b hb => by
        show b < (w2.setCell _ _).heap.size
        have := hgrow.size
        simp only [World.setCell, Array.size_modify]
        rcases hb with h' | h' | h'
        · have := h.lt b h'; omega
        · obtain ⟨c, hc⟩ := ownsRow_block hv h'
          have := (Array.getElem?_eq_some_iff.1 hc).1; omega
        · exact h'.2 }
    · rcases List.mem_append.1 hs' with h' | h'
      · exact h.ok.cells s' h'
      · simp at h'; subst h'; exact hcell
    · by_cases e : i < a.slots.length
      · rw [List.getElem?_append_left e] at hi
        obtain ⟨u, h0, h1, h2, h3, h4, h5⟩ := h.recs i s' hi
        exact ⟨u, by rw [List.getElem?_append_left (by omega)]; exact h0, by rw [List.getElem?_append_left (by omega)]; exact h1, by rw [List.getElem?_append_left (by omega)]; exact h2, by rw [List.getElem?_append_left (by omega)]; exact h3, keep u _ h4, fun b hb => .inl (h5 b hb)⟩
      · have hi' : i = a.slots.length := by
          have := (List.getElem?_eq_some_iff.1 hi).1
          simp at this; omega
        subst hi'
        rw [List.getElem?_append_right (by omega)] at hi
        simp at hi; subst hi
        refine ⟨v, ?_, ?_, ?_, ?_, keep v _ hv, fun b hb => .inr (.inl hb)⟩
        · rw [List.getElem?_append_right (by omega), hrl]; simp
        · rw [List.getElem?_append_right (by omega), hrl]; simp
        · rw [List.getElem?_append_right (by omega), hrl]; simp
        · rw [List.getElem?_append_right (by omega), hrl]; simp
  · refine ⟨hgrow.os, hgrow.tape, hgrow.output, by have := hgrow.size; simpa [World.setCell] using this, fun k hk hn => ?_⟩
    rw [far k (fun e => hn (e ▸ h.footp)), hgrow.block k hk (fun e => hn (h.foots k e.symm))]

end Go.Proofs.Ytbndhaocohomjaa
