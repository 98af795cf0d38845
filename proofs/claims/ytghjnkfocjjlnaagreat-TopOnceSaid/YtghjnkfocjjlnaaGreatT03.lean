/- What a law's walk carries along: its arena, what has not turned since it began, blocks of its own beside the arena. -/
/- What has grown: an arena and new blocks. -/
/- The walks of the reference's functions on keys and lists of pairs. -/
-- PRINTED BY print.sh 35421559b90ae4d0a3588c463048766b98c2df88dd9212a6774a882060cdf62d: not written by this session
-- PRINTED WORDS (module Derived/Print/Words.lean): go-wishes' parts 1 to 38 and go-gate-2's additions: AI agents of Go's test side, Mon Nov 16 2026; no person has read them. Plain theorems and definitions: no macro, no elab, no axiom.
import Derived.Test.YtghjnkfocjjlnaaGreatT02
import Derived.Test.YtghjnkfocjjlnaaGreatT00
import Derived.Test.YtghjnkfocjjlnaaGreatT01
import Derived.Below
import Derived.Deep.Draws
import Derived.Deep.AppendLies
import Derived.Maps.AppendAt
import Derived.OwnWalk
import Derived.Laws.BytesArg
import Derived.Laws.MakeOwn
import Derived.Laws.OwnMore
import Derived.Deep.OwnRows
import Derived.Tactics
import Derived.Lib.ConvBytes
import Derived.Laws.Slices
import Derived.WalkKit
import Derived.KernelRfl
import Derived.RowKit3
import Derived.Deep.LoopGhost
import Derived.Deep.QuietTactic
import Derived.BigQuiet
import Derived.WideLaws
import Derived.Deep.DeepCutAuto
import Derived.Deep.CutBlock
import Derived.Deep.RegionHeld3
import Derived.Laws.Rows
import Derived.Lib.AppendStr
import Derived.ArgAppend
import Derived.Laws.IdiomCopy
import Derived.RowKit
set_option linter.unusedSimpArgs false
set_option linter.unusedVariables false
section
namespace Go.Proofs.YtghjnkfocjjlnaaGreat
set_option maxRecDepth 100000
open Go.RowKit
/-- The law began in W; now it is w; the arena A lies at po, in blocks F of the law's own. -/
structure St (W w : World) (po : Option Addr) (A : OA) (F : Nat → Prop) : Prop where
  arena : OAt w po A F
  below : Below W.heap.size W w
  own : ∀ b, F b → W.heap.size ≤ b
/-- A block beside the arena. -/
structure Kp (w : World) (F : Nat → Prop) (k : Nat) (o : Obj) : Prop where
  at_ : w.heap[k]? = some o
  free : ¬ F k
theorem Kp.lt {w : World} {F : Nat → Prop} {k : Nat} {o : Obj} (h : Kp w F k o) : k < w.heap.size := (Array.getElem?_eq_some_iff.1 h.at_).1
theorem Kp.below {w w' : World} {F : Nat → Prop} {k : Nat} {o : Obj} (h : Kp w F k o) (hb : Below w.heap.size w w') : Kp w' F k o := ⟨(hb.block k h.lt).trans h.at_, h.free⟩
theorem Kp.alloc {w : World} {F : Nat → Prop} {k : Nat} {o : Obj} (h : Kp w F k o) (x : Obj) : Kp (w.alloc x) F k o := h.below ((Below.refl _ _).alloc (Nat.le_refl _) _)
theorem St.size {W w : World} {po : Option Addr} {A : OA} {F : Nat → Prop} (h : St W w po A F) : W.heap.size ≤ w.heap.size := h.below.size
theorem St.later {W w w' : World} {po : Option Addr} {A : OA} {F : Nat → Prop} (h : St W w po A F) (hb : Below w.heap.size w w') : St W w' po A F :=
  ⟨h.arena.below hb, h.below.trans (hb.mono h.size), h.own⟩
theorem St.alloc {W w : World} {po : Option Addr} {A : OA} {F : Nat → Prop} (h : St W w po A F) (o : Obj) : St W (w.alloc o) po A F :=
  h.later ((Below.refl _ _).alloc (Nat.le_refl _) _)
theorem St.begin {W w w' : World} {A : OA} (hB : Below W.heap.size W w) (h : OAt w' (some ⟨w.heap.size, 0, none⟩) A (fun b => b = w.heap.size)) (hb : Below w.heap.size w w') : St W w' (some ⟨w.heap.size, 0, none⟩) A (fun b => b = w.heap.size) :=
  ⟨h, hB.trans (hb.mono hB.size), fun b hb => by rw [hb]; exact hB.size⟩
end Go.Proofs.YtghjnkfocjjlnaaGreat
namespace Go.Proofs.YtghjnkfocjjlnaaGreat
set_option maxRecDepth 100000
open Go.RowKit
/-- From F in w to F' in w': nothing but F has turned, and what F' has more is new. -/
def Grow (F : Nat → Prop) (w : World) (F' : Nat → Prop) (w' : World) : Prop := Frame F w w' ∧ ∀ b, F' b → F b ∨ w.heap.size ≤ b
theorem Grow.trans {F F' F2 : Nat → Prop} {w w1 w2 : World} (h : Grow F w F' w1) (k : Grow F' w1 F2 w2) : Grow F w F2 w2 :=
  ⟨h.1.trans k.1 (fun x hx hf => (h.2 x hf).elim id (fun hh => absurd hh (by omega))), fun b hb => (k.2 b hb).elim (h.2 b) (fun hh => .inr (by have := h.1.size; omega))⟩
theorem Grow.of_below {F : Nat → Prop} {w w' : World} (h : Below w.heap.size w w') : Grow F w F w' := ⟨Frame.of_below h, fun _ h => .inl h⟩
theorem Grow.refl (F : Nat → Prop) (w : World) : Grow F w F w := .of_below (Below.refl _ _)
theorem Grow.size {F F' : Nat → Prop} {w w' : World} (h : Grow F w F' w') : w.heap.size ≤ w'.heap.size := h.1.size
theorem Made.of_grow {F F' : Nat → Prop} {w w' : World} {po : Option Addr} {A : OA} (h : Grow F w F' w') (ho : OAt w' po A F') : Made F w po A w' := ⟨F', ho, h.1, h.2⟩
theorem Made.out {F : Nat → Prop} {w w' : World} {po : Option Addr} {A : OA} (h : Made F w po A w') : ∃ F', OAt w' po A F' ∧ Grow F w F' w' := by
  obtain ⟨F', h1, h2, h3⟩ := h
  exact ⟨F', h1, h2, h3⟩
end Go.Proofs.YtghjnkfocjjlnaaGreat
end
section
namespace Go.Proofs.YtghjnkfocjjlnaaGreat
set_option maxRecDepth 100000
open Go.RowKit Go.Proofs.YtghjnkfocjjlnaaGreat.Mix
set_option maxHeartbeats 400000 in
theorem prio_any (a : Int) (w : World) : Calls Tryz.prog 110 #[.int .i64 a] w fun e w' => e = .returned (.int .u64 (prioN a)) ∧ w = w' := by
  go_enter Tryz.func110, Tryz.ntmps110
  go_wp2
  go_ret
  exact ⟨congrArg (fun n => Ending.returned (Value.int .u64 n)) (prio_eq a), rfl⟩
theorem above_of_pq {a b : Int} {p q : Nat} (hp : prioN a = p) (hq : prioN b = q) : above a b = if p = q then decide (a < b) else decide (q < p) := by subst hp; subst hq; exact above_mk a b
set_option maxHeartbeats 400000 in
theorem above_any (a b : Int) (w : World) : Calls Tryz.prog 66 #[.int .i64 a, .int .i64 b] w fun e w' => e = .returned (.bool (above a b)) ∧ w = w' := by
  have h1 := prio_any a w
  have h2 := prio_any b w
  generalize hp : prioN a = p at h1
  generalize hq : prioN b = q at h2
  rw [above_of_pq hp hq]
  clear hp hq
  have H1 := Lib.hid h1; clear h1
  have H2 := Lib.hid h2; clear h2
  by_cases e : p = q
  · subst e
    rw [if_pos rfl]
    go_enter Tryz.func66, Tryz.ntmps66
    go_wp2_with fail
    refine H1.out.mono ?_
    rintro e w' ⟨rfl, rfl⟩
    go_wp2_with fail
    refine H2.out.mono ?_
    rintro e w' ⟨rfl, rfl⟩
    go_wp2_with fail
    go_ret
    exact ⟨rfl, rfl⟩
  · rw [if_neg e]
    have e1 : ((p : Int) == (q : Int)) = false := beq_eq_false_iff_ne.2 (by omega)
    have e2 : ((p : Int) != (q : Int)) = true := by rw [bne, e1]; rfl
    have e3 : decide ((q : Int) < (p : Int)) = decide (q < p) := decide_eq_decide.2 (by omega)
    have E3 := Lib.hid e3; clear e3 e
    go_enter Tryz.func66, Tryz.ntmps66
    go_wp2_with fail
    refine H1.out.mono ?_
    rintro e w' ⟨rfl, rfl⟩
    go_wp2_with fail
    refine H2.out.mono ?_
    rintro e w' ⟨rfl, rfl⟩
    go_wp2_with fail
    go_ret
    refine ⟨?_, rfl⟩
    first | rfl | (rw [← E3.out]; rfl)
/-- A pair of a slice, read in a later world. -/
theorem PIn.cell {W w : World} {ad : Option Addr} {c : Nat} {l : List Pr} (h : PIn W ad c l) {B : Nat} (hB : Below B W w) (hlt : ∀ x, ad = some x → l ≠ [] → x.block < B) {k : Nat} (hk : k < l.length) :
    ∃ b off, ad = some ⟨b, off, none⟩ ∧ w.cell? ⟨b, off + k * 2, none⟩ = some (.int .i64 (l[k]).1) ∧ w.cell? ⟨b, off + k * 2 + 1, none⟩ = some (.int .i64 (l[k]).2) := by
  rcases h.at_ with rfl | ⟨b, off, rfl, hc⟩
  · simp at hk
  · have hb : b < B := hlt _ rfl (by intro e; subst e; simp at hk)
    obtain ⟨h1, h2⟩ := hc k hk
    exact ⟨b, off, rfl, (hB.cell (p := ⟨b, off + k * 2, none⟩) hb).trans h1, (hB.cell (p := ⟨b, off + k * 2 + 1, none⟩) hb).trans h2⟩
theorem PIn.lt {W : World} {ad : Option Addr} {c : Nat} {l : List Pr} (h : PIn W ad c l) : ∀ x, ad = some x → l ≠ [] → x.block < W.heap.size := by
  intro x hx hl
  rcases h.at_ with rfl | ⟨b, off, rfl, hc⟩
  · exact absurd rfl hl
  · obtain rfl := Option.some.inj hx
    have : 0 < l.length := List.length_pos_iff.2 hl
    exact World.block_lt_of_cell? W _ (hc 0 this).1
theorem PIn.later {W w : World} {ad : Option Addr} {c : Nat} {l : List Pr} (h : PIn W ad c l) (hB : Below W.heap.size W w) : PIn w ad c l := by
  refine ⟨?_, h.room, h.most⟩
  rcases h.at_ with rfl | ⟨b, off, rfl, hc⟩
  · exact .inl rfl
  · refine .inr ⟨b, off, rfl, fun j hj => ?_⟩
    obtain ⟨h1, h2⟩ := hc j hj
    have hb := World.block_lt_of_cell? W _ h1
    exact ⟨(hB.cell (p := ⟨b, off + j * 2, none⟩) hb).trans h1, (hB.cell (p := ⟨b, off + j * 2 + 1, none⟩) hb).trans h2⟩
end Go.Proofs.YtghjnkfocjjlnaaGreat
end
section
set_option linter.unusedVariables false
set_option linter.unusedSimpArgs false
namespace Go.Proofs.YtghjnkfocjjlnaaGreatW.PrintWords
open Go.RowKit
/-! ### 1. Values and lists -/
/-! ### 2. The world -/
/-! ### 3. A slice of whole numbers that is read; nil, empty and other slices alike -/
/-! ### 4. A row of the call's own -/
/-! ### 5. append(v, x): behind 'at_builtin'; the goal's world is 'W.alloc' of the variadic's box -/
/-! ### 6. make([]T, n), n an Int; a literal -/
/-! ### 7. v[i] read and v[i] = x, v a row of the call's own: 'obtain ⟨g, cap, rfl, hgb, hgl⟩ := HO.out.form (by omega)' first -/
/-! ### 8. append(v, ys...): ys a slice that is read, nil let in; behind 'at_builtin' -/
/-! ### 9. []byte(s): a slice that is read (its row bears a conversion's mark: no row of one's own); cuts of a slice that is read -/
/-! ### 10. Rounds: more rounds give the same answer; what ends gives a number of rounds -/
/-! ### 11. Rows of elements of several cells (structs): read, made. R: what an element's cells say ('RepItem w': printed for each type) -/
/-! ### 12. A block of one's own that is a state: its cells, what a store leaves -/
theorem blk_lt {w : World} {g : Nat} {o : Obj} (h : w.heap[g]? = some o) : g < w.heap.size := (Array.getElem?_eq_some_iff.1 h).1
/-! ### 13. Two states at once: what a call on the state at block g (its row before: 'row') has turned -/
/-! ### 10b. From some number of rounds on -/
/-! ### 14. append as_ one step of a region that draws its order: for 'go_region_law' (and a region walked by hand) -/
/-! ### 15. A row's base may be lowered -/
/-! ### 16. Parts 3 to 9 for ANY element of one cell: 'enc' (Value.int k, Value.string, Value.bool), a default 'd' -/
/-! ### 17. Rows of one element type held at once: no two share a block -/
/-! ### 18. A block behind a new one; behind a draw -/
theorem blk_below {w w1 : World} {g : Nat} {o : Obj} (h : w.heap[g]? = some o) (hb : Below w.heap.size w w1) : w1.heap[g]? = some o := (hb.block g (blk_lt h)).trans h
/-! ### 19. Results that lie in memory beside others -/
/-! ### 20. Rows of elements of any kind: R is what an element's cells say -/
/-! ### 21. Cuts of a slice that came in, lengths spelled as_ the lists' -/
/-! ### 22. append([]byte, s...), s a string; behind 'at_builtin'. (No word on where the new row lies: two rows of bytes at once don't go by it.) -/
/-! ### 23. KINDS: what a value's cells say, read (K) and made (M), kind by kind; every mover proved once -/
/-! ### 24. Kinds nested in themselves -/
/-! ### 25. What is held while another row is written: 'ok' says that its rows are none of that row's block -/
/-! ### 26. Words for a printer that takes every slice by its kind -/
/-! ### 27. Cuts of a row of one's own: 'xs = xs[:n]' stays a row (R_take); 'xs = xs[k:]' is a row that begins inside its block (Kd.Q), append goes on it too -/
/-! ### 28. The kinds' words for cuts: R_take; Q (a row that may begin inside its block) with all of R's movers -/
/-! ### 29. Movers that ask of another row no more than they need: for R and for Q -/
/-! ### 30. Elements written: x[i] = T{..}, x[i].f = v, swaps, in a row of elements of any kind -/
/-! ### 31. What came in, put into what is made: 'fixed d w0' (read in w0, whatever happens since), 'or_ a b', 'mix' (a slice that came in, or one that is made) -/
/-! ### 32. A whole row appended, of elements of any kind; copy onto a row of scalars of one's own -/
/-! ### 33. A store into a row of one's own, as_ an event: no go_simp -/
/-! ### 34. Cuts that are only read, of any row -/
/-! ### 35. string(b), b read (a cut too) -/
/-! ### 6. What the printer adds -/
theorem cell_far {W : World} {p a : Addr} (h : a.block ≠ p.block) (u : Value) : (W.setCell p u).cell? a = W.cell? a := by
  have := Below.heap_setCell W p u a.block h
  simp [World.cell?, this]
/-! ### 36. Events as_ one step of a region that draws (for one_, two_, three_) -/
/-! ### 37. Results of any shape -/
/-! ### 38. 'out = append(out[:k], out[k+1:]...)': an element taken out of a row of one's own, in place -/
end Go.Proofs.YtghjnkfocjjlnaaGreatW.PrintWords
end
