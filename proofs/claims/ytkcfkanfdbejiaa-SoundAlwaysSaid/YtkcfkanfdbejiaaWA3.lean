/- Make, Cell and the cells' three calls. -/
import Derived.Test.YtkcfkanfdbejiaaWA2
namespace Go.Proofs.Ytkcfkanfdbejiaa
set_option maxRecDepth 100000
open Go.RowKit

/-- Behind a call: the arena is A' now, and nothing else has turned. -/
def Made (F : Nat → Prop) (w : World) (po : Option Addr) (A' : OA) (w' : World) : Prop :=
  ∃ F', OAt w' po A' F' ∧ Frame F w w' ∧ ∀ b, F' b → F b ∨ w.heap.size ≤ b

theorem Made.of_below {F : Nat → Prop} {w w' : World} {po : Option Addr} {A : OA} (h : OAt w po A F) (hb : Below w.heap.size w w') : Made F w po A w' :=
  ⟨F, h.below hb, Frame.of_below hb, fun _ hb => .inl hb⟩
theorem Made.trans {F F' : Nat → Prop} {w w1 w2 : World} {po : Option Addr} {A : OA} (hf : Frame F w w1) (hF : ∀ b, F' b → F b ∨ w.heap.size ≤ b) (h : Made F' w1 po A w2) : Made F w po A w2 := by
  obtain ⟨F2, h1, h2, h3⟩ := h
  refine ⟨F2, h1, hf.trans h2 (fun x hx h => (hF x h).elim id (fun h => absurd h (by omega))), fun b hb => (h3 b hb).elim (fun h => hF b h) (fun h => .inr (by have := hf.size; omega))⟩

set_option maxHeartbeats 400000 in
theorem make_any {w : World} {po : Option Addr} {A : OA} {F : Nat → Prop} (h : OAt w po A F) (k : Int) {ad : Option Addr} {c : Nat} {l : List Int} (hl : IntsIn w ad c l) :
    Calls Try.prog 24 #[.pointer po, .int .i64 k, .slice ad l.length c] w fun e w' =>
      e = .returned (.tuple #[.int .i64 (makeO A k l).1, .int .i64 (makeO A k l).2.1]) ∧ Made F w po (makeO A k l).2.2 w' := by
  have hsame := Made.of_below h (Below.refl _ _)
  have HS := Lib.hid hsame; clear hsame
  rcases h with ⟨rfl, rfl, h0⟩ | ⟨a, p, sv, row, rfl, rfl, h⟩
  · go_enter Try.func24, Try.ntmps24
    go_wp2_with fail
    go_ret2
    exact ⟨rfl, HS.out⟩
  · by_cases hk : k < 1
    · have hm : makeO (some a) k l = (0, 1, some a) := by simp only [makeO]; rw [if_pos (.inl hk)]
      rw [hm]
      clear hm
      go_enter Try.func24, Try.ntmps24
      go_wp2_with fail
      go_ret2
      exact ⟨rfl, HS.out⟩
    · by_cases hlen : 12 < (l.length : Int)
      · have hm : makeO (some a) k l = (0, 1, some a) := by simp only [makeO]; rw [if_pos (.inr hlen)]
        rw [hm]
        clear hm
        go_enter Try.func24, Try.ntmps24
        go_wp2_with fail
        go_ret2
        exact ⟨rfl, HS.out⟩
      · have hm : makeO (some a) k l = ((addA a ⟨k, l⟩).1, (addA a ⟨k, l⟩).2.1, some (addA a ⟨k, l⟩).2.2) := by simp only [makeO]; rw [if_neg (by omega)]
        rw [hm]
        clear hm
        have hH : OAt w (some ⟨p, 0, none⟩) (some a) F := .inr ⟨a, p, sv, row, rfl, rfl, h⟩
        have HH := Lib.hid hH; clear hH
        have HL := Lib.hid hl; clear hl
        clear h HS
        go_enter Try.func24, Try.ntmps24
        go_wp2_with fail
        refine (clone_any HL.out (by omega)).mono ?_
        rintro e w1 ⟨v, rfl, hown, hb1, hfr⟩
        obtain ⟨vad, vcap, rfl, _, _⟩ := vals_form hown
        have h1 := HH.out.below hb1
        have hadd := add_any h1 (s := ⟨k, l⟩) (v := .slice vad l.length vcap) (fun e => by simp only at e; omega) hown (fun b hb hf => by have := hfr b hb; have := HH.out.lt b hf; omega)
        have HA := Lib.hid hadd; clear hadd
        have HB := Lib.hid hb1; clear hb1
        have HO := Lib.hid h1; clear h1
        have HR := Lib.hid hfr; clear hfr
        have HW := Lib.hid hown; clear hown
        go_wp2_with fail
        refine HA.out.mono ?_
        rintro e w2 ⟨rfl, F', o2, f2, g2⟩
        have HO2 := Lib.hid o2; clear o2
        have HF2 := Lib.hid f2; clear f2
        have HG2 := Lib.hid g2; clear g2
        go_wp2_with fail
        go_ret2
        refine ⟨rfl, F', HO2.out, (Frame.of_below HB.out).trans HF2.out (fun _ _ h => h), fun b hb => (HG2.out b hb).imp id (fun h => ?_)⟩
        rcases h with h | h
        · exact HR.out b h
        · have := HB.out.size; omega

set_option maxHeartbeats 400000 in
theorem cellnew_any {w : World} {po : Option Addr} {A : OA} {F : Nat → Prop} (h : OAt w po A F) (v : Int) :
    Calls Try.prog 25 #[.pointer po, .int .i64 v] w fun e w' =>
      e = .returned (.tuple #[.int .i64 (cellO A v).1, .int .i64 (cellO A v).2.1]) ∧ Made F w po (cellO A v).2.2 w' := by
  rcases h with ⟨rfl, rfl, h0⟩ | ⟨a, p, sv, row, rfl, rfl, h⟩
  · have HS := Lib.hid (Made.of_below (F := F) (po := none) (A := none) (.inl ⟨rfl, rfl, h0⟩) (Below.refl w.heap.size w))
    go_enter Try.func25, Try.ntmps25
    go_wp2_with fail
    go_ret2
    exact ⟨rfl, HS.out⟩
  · have hH : OAt w (some ⟨p, 0, none⟩) (some a) F := .inr ⟨a, p, sv, row, rfl, rfl, h⟩
    have hb1 : Below w.heap.size w (w.alloc (.cells #[.int .i64 v] 3)) := (Below.refl _ _).alloc (Nat.le_refl _) _
    have hown : (w.alloc (.cells #[.int .i64 v] 3)).ownsRow 0 3 1 (.slice (some ⟨w.heap.size, 0, none⟩) 1 1) 1 [.int .i64 v] := World.ownsRow_lit w _ 1 (Nat.zero_le _) (by decide) rfl
    have hadd := add_any (hH.below hb1) (s := ⟨0, [v]⟩) (v := .slice (some ⟨w.heap.size, 0, none⟩) 1 1) (fun _ => ⟨v, rfl⟩) hown (fun b hb hf => by simp [Value.ownBlock] at hb; have := h.lt b hf; omega)
    have HA := Lib.hid hadd; clear hadd
    have HB := Lib.hid hb1; clear hb1
    have HW := Lib.hid hown; clear hown
    clear h hH
    go_enter Try.func25, Try.ntmps25
    go_wp2_with fail
    refine HA.out.mono ?_
    rintro e w2 ⟨rfl, F', o2, f2, g2⟩
    have HO2 := Lib.hid o2; clear o2
    have HF2 := Lib.hid f2; clear f2
    have HG2 := Lib.hid g2; clear g2
    go_wp2_with fail
    go_ret2
    refine ⟨rfl, F', HO2.out, (Frame.of_below HB.out).trans HF2.out (fun _ _ h => h), fun b hb => (HG2.out b hb).imp id (fun h => ?_)⟩
    rcases h with h | h
    · simp [Value.ownBlock] at h; omega
    · have := HB.out.size; omega

end Go.Proofs.Ytkcfkanfdbejiaa
