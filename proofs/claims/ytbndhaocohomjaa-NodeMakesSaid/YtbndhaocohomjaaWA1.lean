/- What is read of an arena. -/
import Derived.Test.YtbndhaocohomjaaHeap
import Derived.WalkSpells
import Derived.WalkLawsBesides
import Derived.Lib.Hide
import Derived.Deep.QuietTactic
import Derived.BigQuiet
namespace Go.Proofs.Ytbndhaocohomjaa
set_option maxRecDepth 100000
open Go.RowKit

theorem kind_at {a : Ar} {n : Nat} (hn : n < a.slots.length) : kindO (some a) ((n : Int) + 1) = (a.slots[n]).kind := by
  simp only [kindO]
  rw [if_pos (by omega)]
  unfold slotAt
  rw [show ((n : Int) + 1 - 1).toNat = n by omega, List.getD_eq_getElem?_getD, List.getElem?_eq_getElem hn, Option.getD_some]
theorem val_at {a : Ar} {n i : Nat} (hn : n < a.slots.length) (hk : (a.slots[n]).kind ≠ 0) (hi : i < (a.slots[n]).vals.length) : valO (some a) ((n : Int) + 1) (i : Int) = (a.slots[n]).vals[i] := by
  have hs : slotAt a ((n : Int) + 1) = a.slots[n] := by
    unfold slotAt
    rw [show ((n : Int) + 1 - 1).toNat = n by omega, List.getD_eq_getElem?_getD, List.getElem?_eq_getElem hn, Option.getD_some]
  simp only [valO]
  rw [hs, if_pos ⟨by omega, by omega, hk, by omega, by omega⟩, Int.toNat_natCast, List.getD_eq_getElem?_getD, List.getElem?_eq_getElem hi, Option.getD_some]
theorem val_out {a : Ar} {n : Nat} {i : Int} (hn : n < a.slots.length) (h : (a.slots[n]).kind = 0 ∨ i < 0 ∨ ((a.slots[n]).vals.length : Int) ≤ i) : valO (some a) ((n : Int) + 1) i = 0 := by
  have hs : slotAt a ((n : Int) + 1) = a.slots[n] := by
    unfold slotAt
    rw [show ((n : Int) + 1 - 1).toNat = n by omega, List.getD_eq_getElem?_getD, List.getElem?_eq_getElem hn, Option.getD_some]
  simp only [valO]
  rw [hs, if_neg]
  rintro ⟨_, _, h1, h2, h3⟩
  rcases h with h | h | h
  · exact h1 h
  · omega
  · omega
theorem val_none {A : OA} {id i : Int} (h : kindO A id = 0) : valO A id i = 0 := by
  cases A with
  | none => rfl
  | some a =>
    simp only [valO]
    rw [if_neg]
    rintro ⟨h1, h2, h3, _⟩
    simp only [kindO] at h
    rw [if_pos ⟨h1, h2⟩] at h
    exact h3 h
theorem kind_split {A : OA} {id : Int} (h : kindO A id ≠ 0) : ∃ (a : Ar) (n : Nat), A = some a ∧ id = (n : Int) + 1 ∧ ∃ hn : n < a.slots.length, (a.slots[n]'hn).kind ≠ 0 := by
  cases A with
  | none => exact absurd rfl h
  | some a =>
    by_cases hb : 1 ≤ id ∧ id ≤ a.slots.length
    · obtain ⟨n, rfl⟩ : ∃ n : Nat, id = (n : Int) + 1 := ⟨(id - 1).toNat, by omega⟩
      refine ⟨a, n, rfl, rfl, by omega, ?_⟩
      rw [← kind_at]; exact h
    · exact absurd (by simp only [kindO]; rw [if_neg hb]) h
/-- The numbers' own slice. -/
theorem vals_form {w : World} {v : Value} {l : List Int} (h : w.ownsRow 0 3 1 v l.length (l.map (Value.int .i64))) :
    ∃ ad cap, v = .slice ad l.length cap ∧ l.length ≤ cap ∧ ∀ j (hj : j < l.length), ∃ b, ad = some ⟨b, 0, none⟩ ∧ w.cell? ⟨b, j, none⟩ = some (.int .i64 l[j]) := by
  rcases h.2 with ⟨rfl, h2⟩ | ⟨g, cap, cur, rfl, _, hg, hc, _⟩
  · exact ⟨none, 0, by rw [h2], by omega, fun j hj => by omega⟩
  · refine ⟨_, cap, rfl, hc, fun j hj => ⟨g, rfl, ?_⟩⟩
    rw [h.cellAt j (by omega), List.getElem?_map, List.getElem?_eq_getElem hj]; rfl

set_option maxHeartbeats 400000 in
theorem has_any {w : World} {po : Option Addr} {A : OA} {F : Nat → Prop} (h : OAt w po A F) (id : Int) :
    Calls Try.prog 37 #[.pointer po, .int .i64 id] w fun e w' => e = .returned (.bool (hasB A id)) ∧ w = w' := by
  rcases h with ⟨rfl, rfl, _⟩ | ⟨a, p, sv, row, rfl, rfl, h⟩
  · go_enter Try.func37, Try.ntmps37
    go_wp2
    go_ret
    exact ⟨rfl, rfl⟩
  · obtain ⟨c0, c1, c2⟩ := h.cells
    obtain ⟨ad, cap, rfl, hcap⟩ := h.slice
    have := h.ok.fits
    have := h.ok.most
    by_cases h1 : 1 ≤ id
    · go_enter Try.func37, Try.ntmps37
      go_wp2
      go_ret
      exact ⟨by simp [hasB, h1], rfl⟩
    · go_enter Try.func37, Try.ntmps37
      go_wp2
      go_ret
      exact ⟨by simp only [hasB]; rw [decide_eq_false (by omega)]; rfl, rfl⟩

set_option maxHeartbeats 400000 in
theorem kind_any {w : World} {po : Option Addr} {A : OA} {F : Nat → Prop} (h : OAt w po A F) (id : Int) :
    Calls Try.prog 28 #[.pointer po, .int .i64 id] w fun e w' => e = .returned (.int .i64 (kindO A id)) ∧ w = w' := by
  have hh := has_any h id
  cases hb : hasB A id with
  | false =>
    rw [hb] at hh
    have hk : kindO A id = 0 := by
      rcases h with ⟨rfl, rfl, _⟩ | ⟨a, p, sv, row, rfl, rfl, h⟩
      · rfl
      · simp only [hasB, decide_eq_false_iff_not] at hb
        simp only [kindO]
        rw [if_neg hb]
    have HK := Lib.hid hk; clear hk hb
    go_enter Try.func28, Try.ntmps28
    go_wp2_with (go_at_call 37; refine hh.mono ?_; rintro e w' ⟨rfl, rfl⟩)
    go_ret
    exact ⟨by rw [HK.out]; rfl, rfl⟩
  | true =>
    rw [hb] at hh
    rcases h with ⟨rfl, rfl, _⟩ | ⟨a, p, sv, row, rfl, rfl, h⟩
    · cases hb
    · simp only [hasB, decide_eq_true_eq] at hb
      obtain ⟨n, rfl⟩ : ∃ n : Nat, id = (n : Int) + 1 := ⟨(id - 1).toNat, by omega⟩
      have hn : n < a.slots.length := by omega
      have hk := kind_at hn
      obtain ⟨c0, c1, c2⟩ := h.cells
      obtain ⟨g, cap, v, rfl, hcap, _, d0, _, _, _⟩ := h.at_ hn
      have := h.ok.fits
      have := h.ok.most
      clear hb
      have HK := Lib.hid hk; clear hk
      go_enter Try.func28, Try.ntmps28
      go_wp2_with (go_at_call 37; refine hh.mono ?_; rintro e w' ⟨rfl, rfl⟩)
      go_ret
      exact ⟨by rw [HK.out]; rfl, rfl⟩

set_option maxHeartbeats 400000 in
theorem val_any {w : World} {po : Option Addr} {A : OA} {F : Nat → Prop} (h : OAt w po A F) (id i : Int) :
    Calls Try.prog 26 #[.pointer po, .int .i64 id, .int .i64 i] w fun e w' => e = .returned (.int .i64 (valO A id i)) ∧ w = w' := by
  have hh := kind_any h id
  by_cases hk : kindO A id = 0
  · have hv := val_none (i := i) hk
    rw [hk] at hh
    have HV := Lib.hid hv; clear hv hk
    go_enter Try.func26, Try.ntmps26
    go_wp2_with (go_at_call 28; refine hh.mono ?_; rintro e w' ⟨rfl, rfl⟩)
    go_ret
    exact ⟨by rw [HV.out]; rfl, rfl⟩
  · obtain ⟨a, n, rfl, rfl, hn, hk1⟩ := kind_split hk
    rcases h with ⟨h0, _, _⟩ | ⟨a', p, sv, row, h0, rfl, h⟩
    · cases h0
    obtain rfl := Option.some.inj h0
    rw [kind_at hn] at hh
    clear hk h0
    obtain ⟨c0, c1, c2⟩ := h.cells
    obtain ⟨g, cap, v, rfl, hcap, _, _, d1, _, hvs, _⟩ := h.at_ hn
    have := h.ok.fits
    have := h.ok.most
    have hk2 : ((a.slots[n]).kind == 0) = false := beq_eq_false_iff_ne.2 hk1
    obtain ⟨ad, vcap, rfl, hvc, hcell⟩ := vals_form hvs
    by_cases h1 : i < 0
    · have hv := val_out hn (.inr (.inl h1))
      have HV := Lib.hid hv; clear hv hk1 hcell
      go_enter Try.func26, Try.ntmps26
      go_wp2_with (go_at_call 28; refine hh.mono ?_; rintro e w' ⟨rfl, rfl⟩)
      go_ret
      exact ⟨by rw [HV.out]; rfl, rfl⟩
    · by_cases h2 : ((a.slots[n]).vals.length : Int) ≤ i
      · have hv := val_out hn (.inr (.inr h2))
        have HV := Lib.hid hv; clear hv hk1 hcell
        go_enter Try.func26, Try.ntmps26
        go_wp2_with (go_at_call 28; refine hh.mono ?_; rintro e w' ⟨rfl, rfl⟩)
        go_ret
        exact ⟨by rw [HV.out]; rfl, rfl⟩
      · obtain ⟨j, rfl⟩ := Int.eq_ofNat_of_zero_le (by omega : 0 ≤ i)
        have hj : j < (a.slots[n]).vals.length := by omega
        have hv := val_at hn hk1 hj
        obtain ⟨b, rfl, e1⟩ := hcell j hj
        have HV := Lib.hid hv; clear hv hk1 hcell
        go_enter Try.func26, Try.ntmps26
        go_wp2_with (go_at_call 28; refine hh.mono ?_; rintro e w' ⟨rfl, rfl⟩)
        go_ret
        exact ⟨by rw [HV.out]; rfl, rfl⟩

set_option maxHeartbeats 400000 in
theorem used_any {w : World} {po : Option Addr} {A : OA} {F : Nat → Prop} (h : OAt w po A F) :
    Calls Try.prog 30 #[.pointer po] w fun e w' => e = .returned (.int .i64 (usedO A)) ∧ w = w' := by
  rcases h with ⟨rfl, rfl, _⟩ | ⟨a, p, sv, row, rfl, rfl, h⟩
  · go_enter Try.func30, Try.ntmps30
    go_wp2
    go_ret
    exact ⟨rfl, rfl⟩
  · obtain ⟨c0, c1, c2⟩ := h.cells
    obtain ⟨ad, cap, rfl, hcap⟩ := h.slice
    go_enter Try.func30, Try.ntmps30
    go_wp2
    go_ret
    exact ⟨rfl, rfl⟩

set_option maxHeartbeats 400000 in
theorem room_any {w : World} {po : Option Addr} {A : OA} {F : Nat → Prop} (h : OAt w po A F) :
    Calls Try.prog 31 #[.pointer po] w fun e w' => e = .returned (.int .i64 (roomO A)) ∧ Below w.heap.size w w' := by
  rcases h with ⟨rfl, rfl, _⟩ | ⟨a, p, sv, row, rfl, rfl, h⟩
  · go_enter Try.func31, Try.ntmps31
    go_wp2
    go_ret
    exact ⟨rfl, Below.refl _ _⟩
  · obtain ⟨c0, c1, c2⟩ := h.cells
    obtain ⟨ad, cap, rfl, hcap⟩ := h.slice
    have := h.ok.fits
    have := h.ok.most
    go_enter Try.func31, Try.ntmps31
    go_wp2
    go_quiet (fail)
    go_wp2
    go_ret
    exact ⟨rfl, ⟨rfl, rfl, rfl, Nat.le_refl _, fun _ _ => rfl⟩⟩

set_option maxHeartbeats 400000 in
theorem steps_any {w : World} {po : Option Addr} {A : OA} {F : Nat → Prop} (h : OAt w po A F) :
    Calls Try.prog 32 #[.pointer po] w fun e w' => e = .returned (.int .i64 (stepsO A)) ∧ w = w' := by
  rcases h with ⟨rfl, rfl, _⟩ | ⟨a, p, sv, row, rfl, rfl, h⟩
  · go_enter Try.func32, Try.ntmps32
    go_wp2
    go_ret
    exact ⟨rfl, rfl⟩
  · obtain ⟨c0, c1, c2⟩ := h.cells
    go_enter Try.func32, Try.ntmps32
    go_wp2
    go_ret
    exact ⟨rfl, rfl⟩

end Go.Proofs.Ytbndhaocohomjaa
