/- What a store, an append does to an arena as it lies in memory. -/
import Derived.Test.YtbndhaocohomjaaWA1
namespace Go.Proofs.Ytbndhaocohomjaa
set_option maxRecDepth 100000
open Go.RowKit

theorem ownsRow_block {w : World} {base : Nat} {e : TypeId} {size : Nat} {v : Value} {n : Nat} {xs : List Value} (h : w.ownsRow base e size v n xs) {b : Nat} (hb : v.ownBlock = some b) : ∃ cur, w.heap[b]? = some (.cells cur e (0, 0)) := by
  rcases h.2 with ⟨rfl, _⟩ | ⟨g, cap, cur, rfl, _, hg, _⟩
  · cases hb
  · simp [Value.ownBlock] at hb; subst hb; exact ⟨cur, hg⟩
theorem block_ne {w : World} {b p : Nat} {c1 c2 : Array Value} {e1 e2 : TypeId} {f1 f2 : Nat × Nat} (h1 : w.heap[b]? = some (.cells c1 e1 f1)) (h2 : w.heap[p]? = some (.cells c2 e2 f2)) (he : e1 ≠ e2) : b ≠ p := by
  rintro rfl
  rw [h1] at h2
  simp only [Option.some.injEq, Obj.cells.injEq] at h2
  exact he h2.2.1

/-- A store into the arena's own three cells. -/
theorem ArAt.step {w : World} {p : Nat} {a : Ar} {F : Nat → Prop} {sv : Value} {row : List Value} (h : ArAt w p a F sv row) (s : Int) :
    ArAt (w.setCell ⟨p, 2, none⟩ (.int .i64 s)) p ⟨a.room, a.slots, s⟩ F sv row := by
  have far : ∀ b, b ≠ p → (w.setCell ⟨p, 2, none⟩ (.int .i64 s)).heap[b]? = w.heap[b]? := fun b hb => heap_setCell_other w _ _ _ (by simpa using hb)
  exact {
    ok := ⟨h.ok.most, h.ok.fits, h.ok.cells⟩
    blk := by rw [heap_setCell_same w p 2 _ _ _ h.blk]; rfl
    own := ownsRow_same h.own (fun b hb => far b (by obtain ⟨c, hc⟩ := ownsRow_block h.own hb; exact block_ne hc h.blk (by decide)))
    kind := h.kind
    vals := fun i x hi => by
      obtain ⟨v, h1, h2, h3⟩ := h.vals i x hi
      exact ⟨v, h1, ownsRow_same h2 (fun b hb => far b (by obtain ⟨c, hc⟩ := ownsRow_block h2 hb; exact block_ne hc h.blk (by decide))), h3⟩
    apart := h.apart
    footp := h.footp
    foots := h.foots
    lt := fun b hb => by have := h.lt b hb; simpa [World.setCell] using this }

theorem frame_setCell {F : Nat → Prop} {w : World} {a : Addr} (h : F a.block) (v : Value) : Frame F w (w.setCell a v) :=
  ⟨rfl, rfl, rfl, by simp [World.setCell], fun k _ hn => heap_setCell_other w _ _ _ (fun e => hn (e ▸ h))⟩

/-- A store into a cell's one number. -/
theorem ArAt.put {w : World} {p : Nat} {a : Ar} {F : Nat → Prop} {sv : Value} {row : List Value} (h : ArAt w p a F sv row) {n : Nat} (hn : n < a.slots.length) (hk : (a.slots[n]).kind = 0) {b cap : Nat}
    (hv : row[2 * n + 1]? = some (.slice (some ⟨b, 0, none⟩) 1 cap)) (x : Int) :
    ArAt (w.setCell ⟨b, 0, none⟩ (.int .i64 x)) p ⟨a.room, a.slots.set n ⟨0, [x]⟩, a.steps⟩ F sv row := by
  have hs : a.slots[n]? = some a.slots[n] := List.getElem?_eq_getElem hn
  obtain ⟨v0, e1, e2, e3⟩ := h.vals n _ hs
  rw [hv] at e1
  obtain rfl := Option.some.inj e1
  obtain ⟨c0, hc0⟩ := ownsRow_block e2 rfl
  have far : ∀ k, k ≠ b → (w.setCell ⟨b, 0, none⟩ (.int .i64 x)).heap[k]? = w.heap[k]? := fun k hb => heap_setCell_other w _ _ _ (by simpa using hb)
  have hb1 : (a.slots[n]).vals.length = 1 := by obtain ⟨y, hy⟩ := h.ok.cells _ (List.getElem_mem hn) hk; rw [hy]; rfl
  refine {
    ok := ⟨h.ok.most, by simpa using h.ok.fits, fun s hs => ?_⟩
    blk := (far p (by intro e; subst e; rw [h.blk] at hc0; simp at hc0)).trans h.blk
    own := by
      simp only [List.length_set]
      exact ownsRow_same h.own (fun k hk => far k (by obtain ⟨c, hc⟩ := ownsRow_block h.own hk; exact block_ne hc hc0 (by decide)))
    kind := fun i s hi => ?_
    vals := fun i s hi => ?_
    apart := h.apart
    footp := h.footp
    foots := h.foots
    lt := fun k hk => by have := h.lt k hk; simpa [World.setCell] using this }
  · rcases List.mem_or_eq_of_mem_set hs with h' | h'
    · exact h.ok.cells s h'
    · subst h'; exact fun _ => ⟨x, rfl⟩
  · by_cases e : i = n
    · subst e
      rw [List.getElem?_set_self hn] at hi
      obtain rfl := Option.some.inj hi
      rw [h.kind i _ hs, hk]
    · rw [List.getElem?_set_ne (Ne.symm e)] at hi
      exact h.kind i s hi
  · by_cases e : i = n
    · subst e
      rw [List.getElem?_set_self hn] at hi
      obtain rfl := Option.some.inj hi
      refine ⟨_, hv, ?_, e3⟩
      have := (World.ownsRow.stored (by rw [hb1] at e2; exact e2) 0 (.int .i64 x)).1
      obtain ⟨y, hy⟩ := h.ok.cells _ (List.getElem_mem hn) hk
      rw [hy] at this
      exact this
    · rw [List.getElem?_set_ne (Ne.symm e)] at hi
      obtain ⟨v, h1, h2, h3⟩ := h.vals i s hi
      refine ⟨v, h1, ownsRow_same h2 (fun k hk => far k ?_), h3⟩
      rintro rfl
      exact e (h.apart i n _ _ k h1 hv hk rfl)

/-- One slot more, behind the append and the store of the slice. -/
theorem ArAt.more {w w2 : World} {p : Nat} {a : Ar} {F : Nat → Prop} {sv : Value} {row : List Value} (h : ArAt w p a F sv row) {s : Slot} {v : Value} {g cap : Nat}
    (hroom : (a.slots.length : Int) < a.room) (hcell : s.kind = 0 → ∃ x, s.vals = [x])
    (hv : w.ownsRow 0 3 1 v s.vals.length (s.vals.map (Value.int .i64))) (hfresh : ∀ b, v.ownBlock = some b → ¬ F b)
    (hown : w2.ownsRow 0 69 2 (.slice (some ⟨g, 0, none⟩) (a.slots.length + 1) cap) (a.slots.length + 1) (row ++ [.int .i64 s.kind, v]))
    (hgrow : w.grownBy w2 sv.ownBlock) (hat : sv.ownBlock = some g ∨ w.heap.size ≤ g) (hlt : g < w2.heap.size) :
    ∃ F', ArAt (w2.setCell ⟨p, 1, none⟩ (.slice (some ⟨g, 0, none⟩) (a.slots.length + 1) cap)) p ⟨a.room, a.slots ++ [s], a.steps⟩ F' (.slice (some ⟨g, 0, none⟩) (a.slots.length + 1) cap) (row ++ [.int .i64 s.kind, v]) ∧
      Frame F w (w2.setCell ⟨p, 1, none⟩ (.slice (some ⟨g, 0, none⟩) (a.slots.length + 1) cap)) ∧ (∀ b, F' b → F b ∨ v.ownBlock = some b ∨ w.heap.size ≤ b) := by
  have hpne : some p ≠ sv.ownBlock := fun e => by
    obtain ⟨c, hc⟩ := ownsRow_block h.own e.symm
    rw [h.blk] at hc; simp at hc
  have hplt := h.lt p h.footp
  have hp2 : w2.heap[p]? = some (.cells #[.int .i64 a.room, sv, .int .i64 a.steps] 65 (0, 0)) := (hgrow.block p hplt hpne).trans h.blk
  have far : ∀ k, k ≠ p → (w2.setCell ⟨p, 1, none⟩ (.slice (some ⟨g, 0, none⟩) (a.slots.length + 1) cap)).heap[k]? = w2.heap[k]? := fun k hb => heap_setCell_other w2 _ _ _ (by simpa using hb)
  have hrl : row.length = 2 * a.slots.length := by have := h.own.1; omega
  have keep : ∀ (u : Value) (l : List Int), w.ownsRow 0 3 1 u l.length (l.map (Value.int .i64)) → (w2.setCell ⟨p, 1, none⟩ (.slice (some ⟨g, 0, none⟩) (a.slots.length + 1) cap)).ownsRow 0 3 1 u l.length (l.map (Value.int .i64)) := fun u l hu =>
    ownsRow_same hu (fun b hb => by
      obtain ⟨c, hc⟩ := ownsRow_block hu hb
      have hbl : b < w.heap.size := (Array.getElem?_eq_some_iff.1 hc).1
      rw [far b (block_ne hc h.blk (by decide)), hgrow.block b hbl (fun e => by obtain ⟨c', hc'⟩ := ownsRow_block h.own e.symm; rw [hc] at hc'; simp at hc')])
  refine ⟨fun b => F b ∨ v.ownBlock = some b ∨ (w.heap.size ≤ b ∧ b < w2.heap.size), ?_, ?_, fun b hb => hb.imp id (fun h' => h'.imp id (fun h'' => h''.1))⟩
  · refine {
      ok := ⟨h.ok.most, by simp only [List.length_append, List.length_singleton]; omega, fun s' hs' => ?_⟩
      blk := by rw [heap_setCell_same w2 p 1 _ _ _ hp2]; rfl
      own := by
        simp only [List.length_append, List.length_singleton]
        refine ownsRow_same hown (fun k hk => far k ?_)
        obtain ⟨c, hc⟩ := ownsRow_block hown hk
        exact block_ne hc hp2 (by decide)
      kind := fun i s' hi => ?_
      vals := fun i s' hi => ?_
      apart := fun i j u u' b hi hj hu hu' => ?_
      footp := .inl h.footp
      foots := fun b hb => by
        simp [Value.ownBlock] at hb
        subst hb
        rcases hat with h' | h'
        · exact .inl (h.foots _ h')
        · exact .inr (.inr ⟨h', hlt⟩)
      lt := fun b hb => by
        show b < (w2.setCell _ _).heap.size
        have := hgrow.size
        simp only [World.setCell, Array.size_modify]
        rcases hb with h' | h' | h'
        · have := h.lt b h'; omega
        · obtain ⟨c, hc⟩ := ownsRow_block hv h'
          have := (Array.getElem?_eq_some_iff.1 hc).1; omega
        · exact h'.2 }
    · rcases List.mem_append.1 hs' with h' | h'
      · exact h.ok.cells s' h'
      · simp at h'; subst h'; exact hcell
    · by_cases e : i < a.slots.length
      · rw [List.getElem?_append_left e] at hi
        rw [List.getElem?_append_left (by omega)]
        exact h.kind i s' hi
      · have hi' : i = a.slots.length := by
          have := (List.getElem?_eq_some_iff.1 hi).1
          simp at this; omega
        subst hi'
        rw [List.getElem?_append_right (by omega)] at hi
        simp at hi; subst hi
        rw [List.getElem?_append_right (by omega), hrl]; simp
    · by_cases e : i < a.slots.length
      · rw [List.getElem?_append_left e] at hi
        obtain ⟨u, h1, h2, h3⟩ := h.vals i s' hi
        exact ⟨u, by rw [List.getElem?_append_left (by omega)]; exact h1, keep u _ h2, fun b hb => .inl (h3 b hb)⟩
      · have hi' : i = a.slots.length := by
          have := (List.getElem?_eq_some_iff.1 hi).1
          simp at this; omega
        subst hi'
        rw [List.getElem?_append_right (by omega)] at hi
        simp at hi; subst hi
        exact ⟨v, by rw [List.getElem?_append_right (by omega), hrl]; simp, keep v _ hv, fun b hb => .inr (.inl hb)⟩
    · have old : ∀ (k : Nat) (x : Value) (b : Nat), (row ++ [Value.int .i64 s.kind, v])[2 * k + 1]? = some x → x.ownBlock = some b → (k < a.slots.length ∧ row[2 * k + 1]? = some x ∧ F b) ∨ (k = a.slots.length ∧ x = v) := by
        intro k x b hx hb
        have hk := (List.getElem?_eq_some_iff.1 hx).1
        simp only [List.length_append, List.length_cons, List.length_nil] at hk
        by_cases e : k < a.slots.length
        · rw [List.getElem?_append_left (by omega)] at hx
          refine .inl ⟨e, hx, ?_⟩
          obtain ⟨x', h1, _, h3⟩ := h.vals k _ (List.getElem?_eq_getElem e)
          rw [hx] at h1
          obtain rfl := Option.some.inj h1
          exact h3 b hb
        · obtain rfl : k = a.slots.length := by omega
          rw [List.getElem?_append_right (by omega), hrl] at hx
          simp at hx
          exact .inr ⟨rfl, hx.symm⟩
      rcases old i u b hi hu with ⟨_, h1, f1⟩ | ⟨e1, rfl⟩
      · rcases old j u' b hj hu' with ⟨_, h2, f2⟩ | ⟨e2, rfl⟩
        · exact h.apart i j u u' b h1 h2 hu hu'
        · exact absurd f1 (hfresh b hu')
      · rcases old j u' b hj hu' with ⟨_, h2, f2⟩ | ⟨e2, rfl⟩
        · exact absurd f2 (hfresh b hu)
        · rw [e1, e2]
  · refine ⟨hgrow.os, hgrow.tape, hgrow.output, by have := hgrow.size; simpa [World.setCell] using this, fun k hk hn => ?_⟩
    rw [far k (fun e => hn (e ▸ h.footp)), hgrow.block k hk (fun e => hn (h.foots k e.symm))]

theorem OAt.frame {w w' : World} {po : Option Addr} {A : OA} {F G : Nat → Prop} (h : OAt w po A F) (hf : Frame G w w') (hd : ∀ b, F b → ¬ G b) : OAt w' po A F :=
  h.same (fun b hb => hf.block b (h.lt b hb) (hd b hb)) hf.size

end Go.Proofs.Ytbndhaocohomjaa
