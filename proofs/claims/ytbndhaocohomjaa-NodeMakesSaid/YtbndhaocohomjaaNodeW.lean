/- The walks of package node. -/
import Derived.Test.YtbndhaocohomjaaWA3
import Derived.Test.YtbndhaocohomjaaAbs
namespace Go.Proofs.Ytbndhaocohomjaa
set_option maxRecDepth 100000
open Go.RowKit

theorem blk_below {w w' : World} {B b : Nat} {o : Obj} (hb : w.heap[b]? = some o) (h : Below B w w') (hB : b < B) : w'.heap[b]? = some o := (h.block b hB).trans hb
theorem cell_blk {w : World} {b i : Nat} {cs : Array Value} {t : TypeId} {fr : Nat × Nat} {v : Value} (hb : w.heap[b]? = some (.cells cs t fr)) (hv : cs[i]? = some v) : w.cell? ⟨b, i, none⟩ = some v := by
  simp [World.cell?, hb, hv]

set_option maxHeartbeats 1000000 in
theorem get_any {w : World} {po : Option Addr} {A : OA} {F : Nat → Prop} (h : OAt w po A F) (t : Int) :
    Calls Try.prog 10 #[.pointer po, .int .i64 t] w fun e w' =>
      e = .returned (.tuple #[.agg #[.int .i64 (getN A t).key, .int .i64 (getN A t).val, .int .i64 (getN A t).left, .int .i64 (getN A t).right, .int .i64 (getN A t).size, .int .i64 (getN A t).high], .bool (isN A t)]) ∧ Below w.heap.size w w' := by
  have hk := fun (w' : World) (h' : OAt w' po A F) => kind_any h' t
  have h1 := h.alloc (.cells #[.int .i64 0, .int .i64 0, .int .i64 0, .int .i64 0, .int .i64 0, .int .i64 0] 36)
  by_cases h0 : kindO A t = 1
  · have hn : getN A t = ⟨valO A t 0, valO A t 1, valO A t 2, valO A t 3, valO A t 4, valO A t 5⟩ := by unfold getN; rw [if_pos h0]
    have hb : isN A t = true := by unfold isN; rw [h0]; rfl
    rw [hn, hb]
    rw [h0] at hk
    clear hn hb h0
    have H1 := Lib.hid h1; clear h1
    have HK := Lib.hid hk; clear hk
    go_enter Try.func10, Try.ntmps10
    go_wp2_with (first | (go_at_call 28; refine (HK.out _ H1.out).mono ?_; rintro e w' ⟨rfl, rfl⟩) | (go_at_call 26; refine (val_any H1.out _ _).mono ?_; rintro e w' ⟨rfl, rfl⟩))
    refine bodyPost_ret (v := .tuple #[.agg #[.int .i64 (valO A t 0), .int .i64 (valO A t 1), .int .i64 (valO A t 2), .int .i64 (valO A t 3), .int .i64 (valO A t 4), .int .i64 (valO A t 5)], .bool true]) (by simp [results, Try.results10, go_sem]) rfl ⟨rfl, ?_⟩
    exact (Below.refl _ _).alloc (Nat.le_refl _) _
  · have hn : getN A t = ⟨0, 0, 0, 0, 0, 0⟩ := by unfold getN; rw [if_neg h0]
    have hb : isN A t = false := by unfold isN; rw [decide_eq_false h0]
    have ht : (kindO A t == 1) = false := beq_eq_false_iff_ne.2 h0
    have ht2 : (kindO A t != 1) = true := by rw [bne, ht]; rfl
    rw [hn, hb]
    clear hn hb h0
    have H1 := Lib.hid h1; clear h1
    have HK := Lib.hid hk; clear hk
    go_enter Try.func10, Try.ntmps10
    go_wp2_with (go_at_call 28; refine (HK.out _ H1.out).mono ?_; rintro e w' ⟨rfl, rfl⟩)
    refine bodyPost_ret (v := .tuple #[.agg #[.int .i64 0, .int .i64 0, .int .i64 0, .int .i64 0, .int .i64 0, .int .i64 0], .bool false]) (by simp [results, Try.results10, go_sem]) rfl ⟨rfl, ?_⟩
    exact (Below.refl _ _).alloc (Nat.le_refl _) _

set_option maxHeartbeats 400000 in
theorem leaf_any (k v l r s h : Int) (w : World) :
    Calls Try.prog 11 #[.agg #[.int .i64 k, .int .i64 v, .int .i64 l, .int .i64 r, .int .i64 s, .int .i64 h]] w fun e w' => e = .returned (.bool (decide (l = 0) && decide (r = 0))) ∧ Below w.heap.size w w' := by
  by_cases h1 : l = 0
  · subst h1
    by_cases h2 : r = 0
    · subst h2
      go_enter Try.func11, Try.ntmps11
      go_wp2
      go_ret
      exact ⟨rfl, (Below.refl _ _).alloc (Nat.le_refl _) _⟩
    · have h3 : (r == 0) = false := beq_eq_false_iff_ne.2 h2
      rw [decide_eq_false h2]
      clear h2
      go_enter Try.func11, Try.ntmps11
      go_wp2
      go_ret
      exact ⟨rfl, (Below.refl _ _).alloc (Nat.le_refl _) _⟩
  · have h3 : (l == 0) = false := beq_eq_false_iff_ne.2 h1
    rw [decide_eq_false h1]
    clear h1
    go_enter Try.func11, Try.ntmps11
    go_wp2
    go_ret
    exact ⟨rfl, (Below.refl _ _).alloc (Nat.le_refl _) _⟩

set_option maxHeartbeats 400000 in
theorem holds_any (k v l r s h key : Int) (w : World) :
    Calls Try.prog 12 #[.agg #[.int .i64 k, .int .i64 v, .int .i64 l, .int .i64 r, .int .i64 s, .int .i64 h], .int .i64 key] w fun e w' => e = .returned (.bool (k == key)) ∧ Below w.heap.size w w' := by
  go_enter Try.func12, Try.ntmps12
  go_wp2
  go_ret
  exact ⟨rfl, (Below.refl _ _).alloc (Nat.le_refl _) _⟩

end Go.Proofs.Ytbndhaocohomjaa
