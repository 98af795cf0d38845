/- What the laws of layers 4 to 10 begin with: made. -/
import Derived.Test.YtkcfkanfdbejiaaExactQ
namespace Go.Proofs.Ytkcfkanfdbejiaa
set_option maxRecDepth 100000
open Go.RowKit
set_option linter.unusedSimpArgs false
set_option linter.unusedVariables false

theorem pairs_blk {w : World} {b : Nat} {cs : Array Value} {t : TypeId} {fr : Nat × Nat} {l : List Pr} (hb : w.heap[b]? = some (.cells cs t fr)) (hcs : cs.toList = cellsP l) (hm : l.length ≤ maxLen) : PIn w (some ⟨b, 0, none⟩) l.length l := by
  refine ⟨.inr ⟨b, 0, rfl, fun j hj => ?_⟩, Nat.le_refl _, hm⟩
  obtain ⟨h1, h2⟩ := cellsP_at l j hj
  rw [← hcs] at h1 h2
  rw [Array.getElem?_toList] at h1 h2
  rw [Nat.zero_add]
  exact ⟨cell_blk hb h1, cell_blk hb h2⟩
theorem newA_room {n : Int} (h0 : 0 ≤ n) (h1 : n ≤ 60000) : (newA n).room = n := by show min (max n 0) 60000 = n; omega
theorem newA_slots (n : Int) : (newA n).slots = [] := rfl
/-- Pairs that lay there before an arena was made. -/
theorem PK.begin {w w' : World} {ad : Option Addr} {c : Nat} {l : List Pr} (h : PIn w ad c l) (hb : Below w.heap.size w w') : PK w' (fun b => b = w.heap.size) ad c l :=
  ⟨h.later hb, fun hn x hx => by have := h.lt x hx hn; intro e; omega⟩
theorem PK.alloc {w : World} {F : Nat → Prop} {ad : Option Addr} {c : Nat} {l : List Pr} (h : PK w F ad c l) (o : Obj) : PK (w.alloc o) F ad c l := h.later ((Below.refl _ _).alloc (Nat.le_refl _) _)
/-- A slice of pairs that was just laid, beside the arena. -/
theorem PK.new {w : World} {F : Nat → Prop} {b : Nat} {cs : Array Value} {t : TypeId} {fr : Nat × Nat} {l : List Pr} (h : Kp w F b (.cells cs t fr)) (hcs : cs.toList = cellsP l) (hm : l.length ≤ maxLen) : PK w F (some ⟨b, 0, none⟩) l.length l :=
  ⟨pairs_blk h.at_ hcs hm, fun _ x hx => by obtain rfl := Option.some.inj hx; exact h.free⟩
theorem Tr.ne0 {a : Ar} {t : Int} {l : List Pr} (h : Tr a t l) (hl : l ≠ []) : (t == 0) = false ∧ (t != 0) = true := by
  have := isN_pos (h.some_ hl)
  have e : (t == 0) = false := beq_eq_false_iff_ne.2 (by omega)
  exact ⟨e, by rw [bne, e]; rfl⟩
theorem undrewN {w w' : World} {n : Nat} (h : Below (w.drewN n).heap.size (w.drewN n) w') : Below w.heap.size w w' := ⟨h.os, h.tape, h.output, h.size, h.block⟩
def l123 : List Pr := [(1, 5), (2, 6), (3, 7)]
theorem l123_sorted : Sorted l123 := by unfold Sorted l123; simp

/-- A treap that the law has made: where it lies, what it is. -/
structure Has (W w : World) (p : Nat) (a : Ar) (F : Nat → Prop) (t : Int) (l : List Pr) (room : Int) : Prop where
  st : St W w (some ⟨p, 0, none⟩) (some a) F
  tr : Tr a t l
  room : a.room = room
  used : a.slots.length = l.length
  steps : a.steps = 0
theorem Has.later {W w w' : World} {p : Nat} {a : Ar} {F : Nat → Prop} {t : Int} {l : List Pr} {room : Int} (h : Has W w p a F t l room) (hb : Below w.heap.size w w') : Has W w' p a F t l room := ⟨h.st.later hb, h.tr, h.room, h.used, h.steps⟩





set_option maxRecDepth 100000 in
set_option maxHeartbeats 2000000 in
theorem made8_any (W w : World) (hB : Below W.heap.size W w) :
    Calls Try.prog 53 #[] w fun e w' => ∃ p t a F, e = .returned (.tuple #[.pointer (some ⟨p, 0, none⟩), .int .i64 t]) ∧ Has W w' p a F t l123 100 := by
  have HB := Lib.hid hB; clear hB
  go_enter Try.func53, Try.ntmps53
  go_wp2_with fail
  refine (new_any 100 w).mono ?_
  rintro e w1 ⟨rfl, o1, b1⟩
  have hz : w.heap.size < w1.heap.size := o1.lt _ rfl
  have S1 := Lib.hid (St.begin HB.out o1 b1); clear o1 b1
  have hblk := heap_alloc_new w1 (.cells #[.int .i64 1, .int .i64 5, .int .i64 2, .int .i64 6, .int .i64 3, .int .i64 7] 24)
  have hpk : PK (w1.alloc (.cells #[.int .i64 1, .int .i64 5, .int .i64 2, .int .i64 6, .int .i64 3, .int .i64 7] 24)) (fun b => b = w.heap.size) (some ⟨w1.heap.size, 0, none⟩) 3 l123 :=
    ⟨pairs_blk (l := l123) hblk rfl (by decide), fun _ x hx => by obtain rfl := Option.some.inj hx; show ¬ w1.heap.size = w.heap.size; omega⟩
  have la := laid_any 3 _ w.heap.size _ _ _ 3 l123 (Nat.le_refl _) (by decide) (S1.out.alloc _).arena hpk (by rw [newA_room (by omega) (by omega), newA_slots]; decide)
  rw [show l123.length = 3 from rfl] at la
  have LA := Lib.hid la
  clear la hpk hblk
  go_wp2_with fail
  refine LA.out.mono ?_
  rintro e w3 ⟨t, a3, rfl, ⟨F3, o3, g3⟩, x3, l3, t3, al3⟩
  have H3 := Lib.hid (Has.mk ((S1.out.alloc _).grow g3 o3) t3 (x3.1.trans (newA_room (by omega) (by omega))) l3 x3.2.1 : Has W w3 w.heap.size a3 F3 t l123 100)
  clear o3 g3 x3 l3 t3 al3
  go_wp2_with fail
  go_ret2
  exact ⟨_, t, a3, F3, rfl, H3.out⟩


set_option maxRecDepth 100000 in
set_option maxHeartbeats 2000000 in
theorem made10_any (W w : World) (hB : Below W.heap.size W w) :
    Calls Try.prog 43 #[] w fun e w' => ∃ p t a F, e = .returned (.tuple #[.pointer (some ⟨p, 0, none⟩), .int .i64 t]) ∧ Has W w' p a F t l123 100 := by
  have HB := Lib.hid hB; clear hB
  go_enter Try.func43, Try.ntmps43
  go_wp2_with fail
  refine (new_any 100 w).mono ?_
  rintro e w1 ⟨rfl, o1, b1⟩
  have hz : w.heap.size < w1.heap.size := o1.lt _ rfl
  have S1 := Lib.hid (St.begin HB.out o1 b1); clear o1 b1
  have hblk := heap_alloc_new w1 (.cells #[.int .i64 1, .int .i64 5, .int .i64 2, .int .i64 6, .int .i64 3, .int .i64 7] 24)
  have hpk : PK (w1.alloc (.cells #[.int .i64 1, .int .i64 5, .int .i64 2, .int .i64 6, .int .i64 3, .int .i64 7] 24)) (fun b => b = w.heap.size) (some ⟨w1.heap.size, 0, none⟩) 3 l123 :=
    ⟨pairs_blk (l := l123) hblk rfl (by decide), fun _ x hx => by obtain rfl := Option.some.inj hx; show ¬ w1.heap.size = w.heap.size; omega⟩
  have la := laid_any 3 _ w.heap.size _ _ _ 3 l123 (Nat.le_refl _) (by decide) (S1.out.alloc _).arena hpk (by rw [newA_room (by omega) (by omega), newA_slots]; decide)
  rw [show l123.length = 3 from rfl] at la
  have LA := Lib.hid la
  clear la hpk hblk
  go_wp2_with fail
  refine LA.out.mono ?_
  rintro e w3 ⟨t, a3, rfl, ⟨F3, o3, g3⟩, x3, l3, t3, al3⟩
  have H3 := Lib.hid (Has.mk ((S1.out.alloc _).grow g3 o3) t3 (x3.1.trans (newA_room (by omega) (by omega))) l3 x3.2.1 : Has W w3 w.heap.size a3 F3 t l123 100)
  clear o3 g3 x3 l3 t3 al3
  go_wp2_with fail
  go_ret2
  exact ⟨_, t, a3, F3, rfl, H3.out⟩

end Go.Proofs.Ytkcfkanfdbejiaa
