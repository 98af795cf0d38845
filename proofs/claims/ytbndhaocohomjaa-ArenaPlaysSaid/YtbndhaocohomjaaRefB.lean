/- The reference's arena: a new one, what is read, what a cell does. -/
import Derived.Test.YtbndhaocohomjaaRefA
namespace Go.Proofs.Ytbndhaocohomjaa
set_option maxRecDepth 100000
open Go.RowKit
set_option linter.unusedVariables false

set_option maxHeartbeats 400000 in
theorem rnew_any (room : Int) (w : World) :
    Calls Try.prog 17 #[.int .i64 room] w fun e w' => e = .returned (.pointer (some ⟨w.heap.size, 0, none⟩)) ∧ RO w' w.heap.size (some (newA room)) (fun b => b = w.heap.size) ∧ Below w.heap.size w w' := by
  have hn : RO (w.alloc (.cells #[.int .i64 (newA room).room, .slice none 0 0, .int .i64 0] 60)) w.heap.size (some (newA room)) (fun b => b = w.heap.size) := ⟨newA room, .slice none 0 0, [], rfl, {
    ok := ⟨by simp only [newA]; omega, by simp only [newA, List.length_nil]; omega, fun s hs => by simp [newA] at hs⟩
    blk := heap_alloc_new w _
    own := World.ownsRow_nil _ _ _ _
    recs := fun i s hi => by simp [newA] at hi
    footp := rfl
    foots := fun b hb => by simp [Value.ownBlock] at hb
    lt := fun b hb => by rw [hb]; simp }⟩
  have hb : Below w.heap.size w (w.alloc (.cells #[.int .i64 (newA room).room, .slice none 0 0, .int .i64 0] 60)) := (Below.refl _ _).alloc (Nat.le_refl _) _
  by_cases h1 : room ≤ 0
  · rw [show (newA room).room = 0 by simp only [newA]; omega] at hn hb
    have HN := Lib.hid hn; have HB := Lib.hid hb; clear hn hb
    have q1 : min room 60000 = room := by omega
    have q2 : max 0 room = 0 := by omega
    go_enter Try.func17, Try.ntmps17
    go_wp2_with fail
    go_ret
    exact ⟨rfl, HN.out, HB.out⟩
  · by_cases h2 : 60000 < room
    · rw [show (newA room).room = 60000 by simp only [newA]; omega] at hn hb
      have HN := Lib.hid hn; have HB := Lib.hid hb; clear hn hb
      have q1 : min room 60000 = 60000 := by omega
      have q2 : max 0 (60000 : Int) = 60000 := by omega
      go_enter Try.func17, Try.ntmps17
      go_wp2_with fail
      go_ret
      exact ⟨rfl, HN.out, HB.out⟩
    · rw [show (newA room).room = room by simp only [newA]; omega] at hn hb
      have HN := Lib.hid hn; have HB := Lib.hid hb; clear hn hb
      have q1 : min room 60000 = room := by omega
      have q2 : max 0 room = room := by omega
      go_enter Try.func17, Try.ntmps17
      go_wp2_with fail
      go_ret
      exact ⟨rfl, HN.out, HB.out⟩

/-- What a cell holds, and 0 where there is none. -/
def hO (a : Ar) (id : Int) : Int := if isCell (some a) id = true then holds a id else 0
/-- The values as they are read: m of them at ad. -/
structure RV (w : World) (a : Ar) (id : Int) (ad : Option Addr) (m : Nat) : Prop where
  in_ : ∀ j, j < m → ∃ b, ad = some ⟨b, 0, none⟩ ∧ w.cell? ⟨b, j, none⟩ = some (.int .i64 (valO (some a) id (j : Int)))
  out : ∀ i : Int, (i < 0 ∨ (m : Int) ≤ i) → valO (some a) id i = 0
theorem rec_out {a : Ar} {id : Int} (h : ¬ (1 ≤ id ∧ id ≤ a.slots.length)) : kindO (some a) id = 0 ∧ isCell (some a) id = false ∧ hO a id = 0 ∧ ∀ i, valO (some a) id i = 0 := by
  have h1 : kindO (some a) id = 0 := by simp only [kindO]; rw [if_neg h]
  have h2 : isCell (some a) id = false := decide_eq_false (fun hh => h ⟨hh.1, hh.2.1⟩)
  exact ⟨h1, h2, by unfold hO; rw [h2]; rfl, fun i => val_none h1⟩
theorem slot_at {a : Ar} {n : Nat} (hn : n < a.slots.length) : slotAt a ((n : Int) + 1) = a.slots[n] := by
  unfold slotAt
  rw [show ((n : Int) + 1 - 1).toNat = n by omega, List.getD_eq_getElem?_getD, List.getElem?_eq_getElem hn, Option.getD_some]
theorem rec_in {a : Ar} {n : Nat} (hn : n < a.slots.length) : kindO (some a) ((n : Int) + 1) = (a.slots[n]).kind ∧ isCell (some a) ((n : Int) + 1) = decide ((a.slots[n]).kind = 0) ∧ hO a ((n : Int) + 1) = rh a.slots[n] ∧
    (∀ j (hj : j < (rl a.slots[n]).length), valO (some a) ((n : Int) + 1) (j : Int) = (rl a.slots[n])[j]) ∧ ∀ i : Int, (i < 0 ∨ ((rl a.slots[n]).length : Int) ≤ i) → valO (some a) ((n : Int) + 1) i = 0 := by
  have hs := slot_at hn
  have hc : isCell (some a) ((n : Int) + 1) = decide ((a.slots[n]).kind = 0) := by
    show decide (_ ∧ _ ∧ _) = _
    rw [hs]
    exact decide_eq_decide.2 ⟨fun h => h.2.2, fun h => ⟨by omega, by omega, h⟩⟩
  refine ⟨kind_at hn, hc, ?_, ?_, ?_⟩
  · unfold hO rh holds
    rw [hc, hs]
    by_cases hk : (a.slots[n]).kind = 0
    · rw [if_pos (decide_eq_true hk), if_pos hk]
    · rw [if_neg (by simpa using hk), if_neg hk]
  · intro j hj
    by_cases hk : (a.slots[n]).kind = 0
    · have h0 : rl a.slots[n] = [] := by unfold rl; rw [if_pos hk]
      rw [h0] at hj; simp at hj
    · have h0 : rl a.slots[n] = (a.slots[n]).vals := by unfold rl; rw [if_neg hk]
      have hj2 : j < (a.slots[n]).vals.length := by rw [← h0]; exact hj
      rw [val_at hn hk hj2]
      simp only [h0]
  · intro i hi
    by_cases hk : (a.slots[n]).kind = 0
    · exact val_out hn (.inl hk)
    · have h0 : rl a.slots[n] = (a.slots[n]).vals := by unfold rl; rw [if_neg hk]
      rw [h0] at hi
      exact val_out hn (.inr hi)

def RecP (w : World) (a : Ar) (id : Int) (k : Int) (c : Bool) (h : Int) (e : Ending) (w' : World) : Prop := ∃ ad m cc b, e = .returned (.tuple #[.agg #[.int .i64 k, .slice ad m cc, .bool c, .int .i64 h], .bool b]) ∧
  Below w.heap.size w w' ∧ RV w a id ad m

set_option maxHeartbeats 1600000 in
theorem rec_any {w : World} {p : Nat} {a : Ar} {F : Nat → Prop} (h : RO w p (some a) F) (id : Int) :
    Calls Try.prog 36 #[.pointer (some ⟨p, 0, none⟩), .int .i64 id] w (RecP w a id (kindO (some a) id) (isCell (some a) id) (hO a id)) := by
  obtain ⟨a', sv, row, e0, h⟩ := h
  obtain rfl := Option.some.inj e0
  clear e0
  obtain ⟨c0, c1, c2⟩ := h.cells
  have hp := h.lt p h.footp
  have hfit := h.ok.fits
  have hmost := h.ok.most
  by_cases hin : 1 ≤ id ∧ id ≤ a.slots.length
  · obtain ⟨n, rfl⟩ : ∃ n : Nat, id = (n : Int) + 1 := ⟨(id - 1).toNat, by omega⟩
    have hn : n < a.slots.length := by omega
    obtain ⟨g, cap, ad, cc, rfl, hcap, hFg, d0, d1, d2, d3, _, _, hv⟩ := h.at_ hn
    have hg := h.lt g hFg
    obtain ⟨r0, r1, r2, r3, r4⟩ := rec_in hn
    have HR := Lib.hid (show RV w a ((n : Int) + 1) ad (rl a.slots[n]).length from ⟨fun j hj => by
      obtain ⟨b, hb, hc⟩ := hv j hj
      exact ⟨b, hb, by rw [r3 j hj]; exact hc⟩, r4⟩)
    rw [← r0] at d0
    rw [← r1] at d2
    rw [← r2] at d3
    clear r0 r1 r2 r3 r4 hv
    have wm : IntKind.i64.wrap ((n : Int) + 1 - 1) = (n : Int) := (IntWalk.i64_in _ (by omega)).trans (by omega)
    generalize kindO (some a) ((n : Int) + 1) = kk at d0 ⊢
    generalize isCell (some a) ((n : Int) + 1) = ic at d2 ⊢
    generalize hO a ((n : Int) + 1) = ho at d3 ⊢
    generalize (rl a.slots[n]).length = m at d1 HR
    clear h hFg
    go_enter Try.func36, Try.ntmps36
    go_wp2_with fail
    refine bodyPost_ret (v := .tuple #[.agg #[.int .i64 kk, .slice ad m cc, .bool ic, .int .i64 ho], .bool true]) (by simp [results, Try.results36, go_sem]) rfl ⟨_, _, _, _, rfl, (Below.refl _ _).alloc (Nat.le_refl _) _, HR.out⟩
  · obtain ⟨r0, r1, r2, r3⟩ := rec_out hin
    rw [r0, r1, r2]
    obtain ⟨ad, cap, rfl, hcap⟩ := h.slice
    have HR := Lib.hid (show RV w a id none 0 from ⟨fun j hj => by omega, fun i _ => r3 i⟩)
    clear h r0 r1 r2 r3
    by_cases h1 : id < 1
    · go_enter Try.func36, Try.ntmps36
      go_wp2_with fail
      refine bodyPost_ret (v := .tuple #[.agg #[.int .i64 0, .slice none 0 0, .bool false, .int .i64 0], .bool false]) (by simp [results, Try.results36, go_sem]) rfl ⟨_, _, _, _, rfl, (Below.refl _ _).alloc (Nat.le_refl _) _, HR.out⟩
    · have h2 : (a.slots.length : Int) < id := by omega
      go_enter Try.func36, Try.ntmps36
      go_wp2_with fail
      refine bodyPost_ret (v := .tuple #[.agg #[.int .i64 0, .slice none 0 0, .bool false, .int .i64 0], .bool false]) (by simp [results, Try.results36, go_sem]) rfl ⟨_, _, _, _, rfl, (Below.refl _ _).alloc (Nat.le_refl _) _, HR.out⟩

end Go.Proofs.Ytbndhaocohomjaa
