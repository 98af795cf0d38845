/- Make, Cell and the cells' three calls. -/
import Derived.Test.YtbndhaocohomjaaWA2
namespace Go.Proofs.Ytbndhaocohomjaa
set_option maxRecDepth 100000
open Go.RowKit

/-- Behind a call: the arena is A' now, and nothing else has turned. -/
def Made (F : Nat → Prop) (w : World) (po : Option Addr) (A' : OA) (w' : World) : Prop :=
  ∃ F', OAt w' po A' F' ∧ Frame F w w' ∧ ∀ b, F' b → F b ∨ w.heap.size ≤ b

theorem Made.of_below {F : Nat → Prop} {w w' : World} {po : Option Addr} {A : OA} (h : OAt w po A F) (hb : Below w.heap.size w w') : Made F w po A w' :=
  ⟨F, h.below hb, Frame.of_below hb, fun _ hb => .inl hb⟩
theorem Made.trans {F F' : Nat → Prop} {w w1 w2 : World} {po : Option Addr} {A : OA} (hf : Frame F w w1) (hF : ∀ b, F' b → F b ∨ w.heap.size ≤ b) (h : Made F' w1 po A w2) : Made F w po A w2 := by
  obtain ⟨F2, h1, h2, h3⟩ := h
  refine ⟨F2, h1, hf.trans h2 (fun x hx h => (hF x h).elim id (fun h => absurd h (by omega))), fun b hb => (h3 b hb).elim (fun h => hF b h) (fun h => .inr (by have := hf.size; omega))⟩

set_option maxHeartbeats 400000 in
theorem make_any {w : World} {po : Option Addr} {A : OA} {F : Nat → Prop} (h : OAt w po A F) (k : Int) {ad : Option Addr} {c : Nat} {l : List Int} (hl : IntsIn w ad c l) :
    Calls Try.prog 13 #[.pointer po, .int .i64 k, .slice ad l.length c] w fun e w' =>
      e = .returned (.tuple #[.int .i64 (makeO A k l).1, .int .i64 (makeO A k l).2.1]) ∧ Made F w po (makeO A k l).2.2 w' := by
  have hsame := Made.of_below h (Below.refl _ _)
  have HS := Lib.hid hsame; clear hsame
  rcases h with ⟨rfl, rfl, h0⟩ | ⟨a, p, sv, row, rfl, rfl, h⟩
  · go_enter Try.func13, Try.ntmps13
    go_wp2_with fail
    go_ret2
    exact ⟨rfl, HS.out⟩
  · by_cases hk : k < 1
    · have hm : makeO (some a) k l = (0, 1, some a) := by simp only [makeO]; rw [if_pos (.inl hk)]
      rw [hm]
      clear hm
      go_enter Try.func13, Try.ntmps13
      go_wp2_with fail
      go_ret2
      exact ⟨rfl, HS.out⟩
    · by_cases hlen : 12 < (l.length : Int)
      · have hm : makeO (some a) k l = (0, 1, some a) := by simp only [makeO]; rw [if_pos (.inr hlen)]
        rw [hm]
        clear hm
        go_enter Try.func13, Try.ntmps13
        go_wp2_with fail
        go_ret2
        exact ⟨rfl, HS.out⟩
      · have hm : makeO (some a) k l = ((addA a ⟨k, l⟩).1, (addA a ⟨k, l⟩).2.1, some (addA a ⟨k, l⟩).2.2) := by simp only [makeO]; rw [if_neg (by omega)]
        rw [hm]
        clear hm
        have hH : OAt w (some ⟨p, 0, none⟩) (some a) F := .inr ⟨a, p, sv, row, rfl, rfl, h⟩
        have HH := Lib.hid hH; clear hH
        have HL := Lib.hid hl; clear hl
        clear h HS
        go_enter Try.func13, Try.ntmps13
        go_wp2_with fail
        refine (clone_any HL.out (by omega)).mono ?_
        rintro e w1 ⟨v, rfl, hown, hb1, hfr⟩
        obtain ⟨vad, vcap, rfl, _, _⟩ := vals_form hown
        have h1 := HH.out.below hb1
        have hadd := add_any h1 (s := ⟨k, l⟩) (v := .slice vad l.length vcap) (fun e => by simp only at e; omega) hown (fun b hb hf => by have := hfr b hb; have := HH.out.lt b hf; omega)
        have HA := Lib.hid hadd; clear hadd
        have HB := Lib.hid hb1; clear hb1
        have HO := Lib.hid h1; clear h1
        have HR := Lib.hid hfr; clear hfr
        have HW := Lib.hid hown; clear hown
        go_wp2_with fail
        refine HA.out.mono ?_
        rintro e w2 ⟨rfl, F', o2, f2, g2⟩
        have HO2 := Lib.hid o2; clear o2
        have HF2 := Lib.hid f2; clear f2
        have HG2 := Lib.hid g2; clear g2
        go_wp2_with fail
        go_ret2
        refine ⟨rfl, F', HO2.out, (Frame.of_below HB.out).trans HF2.out (fun _ _ h => h), fun b hb => (HG2.out b hb).imp id (fun h => ?_)⟩
        rcases h with h | h
        · exact HR.out b h
        · have := HB.out.size; omega

set_option maxHeartbeats 400000 in
theorem cellnew_any {w : World} {po : Option Addr} {A : OA} {F : Nat → Prop} (h : OAt w po A F) (v : Int) :
    Calls Try.prog 14 #[.pointer po, .int .i64 v] w fun e w' =>
      e = .returned (.tuple #[.int .i64 (cellO A v).1, .int .i64 (cellO A v).2.1]) ∧ Made F w po (cellO A v).2.2 w' := by
  rcases h with ⟨rfl, rfl, h0⟩ | ⟨a, p, sv, row, rfl, rfl, h⟩
  · have HS := Lib.hid (Made.of_below (F := F) (po := none) (A := none) (.inl ⟨rfl, rfl, h0⟩) (Below.refl w.heap.size w))
    go_enter Try.func14, Try.ntmps14
    go_wp2_with fail
    go_ret2
    exact ⟨rfl, HS.out⟩
  · have hH : OAt w (some ⟨p, 0, none⟩) (some a) F := .inr ⟨a, p, sv, row, rfl, rfl, h⟩
    have hb1 : Below w.heap.size w (w.alloc (.cells #[.int .i64 v] 3)) := (Below.refl _ _).alloc (Nat.le_refl _) _
    have hown : (w.alloc (.cells #[.int .i64 v] 3)).ownsRow 0 3 1 (.slice (some ⟨w.heap.size, 0, none⟩) 1 1) 1 [.int .i64 v] := World.ownsRow_lit w _ 1 (Nat.zero_le _) (by decide) rfl
    have hadd := add_any (hH.below hb1) (s := ⟨0, [v]⟩) (v := .slice (some ⟨w.heap.size, 0, none⟩) 1 1) (fun _ => ⟨v, rfl⟩) hown (fun b hb hf => by simp [Value.ownBlock] at hb; have := h.lt b hf; omega)
    have HA := Lib.hid hadd; clear hadd
    have HB := Lib.hid hb1; clear hb1
    have HW := Lib.hid hown; clear hown
    clear h hH
    go_enter Try.func14, Try.ntmps14
    go_wp2_with fail
    refine HA.out.mono ?_
    rintro e w2 ⟨rfl, F', o2, f2, g2⟩
    have HO2 := Lib.hid o2; clear o2
    have HF2 := Lib.hid f2; clear f2
    have HG2 := Lib.hid g2; clear g2
    go_wp2_with fail
    go_ret2
    refine ⟨rfl, F', HO2.out, (Frame.of_below HB.out).trans HF2.out (fun _ _ h => h), fun b hb => (HG2.out b hb).imp id (fun h => ?_)⟩
    rcases h with h | h
    · simp [Value.ownBlock] at h; omega
    · have := HB.out.size; omega

/-- Where a cell holds what it holds. -/
structure CellAt (F : Nat → Prop) (w : World) (p : Nat) (a : Ar) (id : Int) (b : Nat) (w' : World) : Prop where
  at_ : w'.cell? ⟨b, 0, none⟩ = some (.int .i64 (holds a id))
  free : w'.frozen? ⟨b, 0, none⟩ = false
  same : Made F w (some ⟨p, 0, none⟩) (some (stepA a)) w'
  put : ∀ v, Made F w (some ⟨p, 0, none⟩) (some (putA (stepA a) id v)) (w'.setCell ⟨b, 0, none⟩ (.int .i64 v))

set_option maxHeartbeats 400000 in
theorem cell_no {w : World} {po : Option Addr} {A : OA} {F : Nat → Prop} (h : OAt w po A F) (id : Int) (hc : isCell A id = false) :
    Calls Try.prog 35 #[.pointer po, .int .i64 id] w fun e w' => e = .returned (.pointer none) ∧ w = w' := by
  have hh := has_any h id
  have hk := kind_any h id
  cases hb : hasB A id with
  | false =>
    rw [hb] at hh
    clear hb hk
    have HC := Lib.hid hc; clear hc
    go_enter Try.func35, Try.ntmps35
    go_wp2_with (go_at_call 37; refine hh.mono ?_; rintro e w' ⟨rfl, rfl⟩)
    go_ret
    exact ⟨rfl, rfl⟩
  | true =>
    rw [hb] at hh
    have hne : (kindO A id == 0) = false := by
      rw [beq_eq_false_iff_ne]
      cases A with
      | none => cases hb
      | some a =>
        simp only [hasB, decide_eq_true_eq] at hb
        simp only [isCell, decide_eq_false_iff_not] at hc
        simp only [kindO]
        rw [if_pos hb]
        exact fun h => hc ⟨hb.1, hb.2, h⟩
    have hne' : (kindO A id != 0) = true := by rw [bne, hne]; rfl
    clear hb
    have HC := Lib.hid hc; clear hc
    go_enter Try.func35, Try.ntmps35
    go_wp2_with (first | (go_at_call 37; refine hh.mono ?_; rintro e w' ⟨rfl, rfl⟩) | (go_at_call 28; refine hk.mono ?_; rintro e w' ⟨rfl, rfl⟩))
    go_ret
    exact ⟨rfl, rfl⟩

theorem isCell_split {A : OA} {id : Int} (h : isCell A id = true) : ∃ (a : Ar) (n : Nat), A = some a ∧ id = (n : Int) + 1 ∧ ∃ hn : n < a.slots.length, (a.slots[n]'hn).kind = 0 := by
  cases A with
  | none => cases h
  | some a =>
    simp only [isCell, decide_eq_true_eq] at h
    obtain ⟨n, rfl⟩ : ∃ n : Nat, id = (n : Int) + 1 := ⟨(id - 1).toNat, by omega⟩
    have hn : n < a.slots.length := by omega
    refine ⟨a, n, rfl, rfl, hn, ?_⟩
    rw [← kind_at hn]
    simp only [kindO]
    rw [if_pos ⟨h.1, h.2.1⟩]
    exact h.2.2

set_option maxHeartbeats 400000 in
theorem cell_yes {w : World} {po : Option Addr} {A : OA} {F : Nat → Prop} (h : OAt w po A F) (id : Int) (hc : isCell A id = true) :
    Calls Try.prog 35 #[.pointer po, .int .i64 id] w fun e w' => ∃ a p b, A = some a ∧ po = some ⟨p, 0, none⟩ ∧ e = .returned (.pointer (some ⟨b, 0, none⟩)) ∧ CellAt F w p a id b w' := by
  have hh := has_any h id
  have hk := kind_any h id
  obtain ⟨a, n, rfl, rfl, hn, hz⟩ := isCell_split hc
  have hb : hasB (some a) ((n : Int) + 1) = true := by simp only [hasB, decide_eq_true_eq]; omega
  rw [hb] at hh
  rw [kind_at hn, hz] at hk
  rcases h with ⟨x, _⟩ | ⟨a', p, sv, row, e1, rfl, h⟩
  · cases x
  obtain rfl := Option.some.inj e1
  clear e1 hc hb
  obtain ⟨c0, c1, c2⟩ := h.cells
  obtain ⟨g, cap, v, rfl, hcap, hFg, d0, d1, hrow, hown, hfv⟩ := h.at_ hn
  obtain ⟨y, hy⟩ := h.ok.cells _ (List.getElem_mem hn) hz
  obtain ⟨vad, vcap, rfl, hvc, hcell⟩ := vals_form hown
  obtain ⟨b, rfl, e1⟩ := hcell 0 (by rw [hy]; simp)
  have hlen : (a.slots[n]).vals.length = 1 := by rw [hy]; rfl
  have hval : (a.slots[n]).vals[0]'(by omega) = holds a ((n : Int) + 1) := by
    unfold holds slotAt
    rw [show ((n : Int) + 1 - 1).toNat = n by omega, List.getD_eq_getElem?_getD, List.getD_eq_getElem?_getD, List.getElem?_eq_getElem hn, Option.getD_some, List.getElem?_eq_getElem (by omega), Option.getD_some]
  rw [hval] at e1
  have hlen0 : (0 : Int) < ((a.slots[n]).vals.length : Int) := by omega
  have := h.ok.fits
  have := h.ok.most
  have hfree := h.free 2
  have hstep := h.step (wrap64 (a.steps + 1))
  have hgp : (⟨p, 2, none⟩ : Addr) ≠ ⟨b, 0, none⟩ := by intro e; have := congrArg Addr.off e; simp at this
  have hbF := hfv b rfl
  have cb : (w.setCell ⟨p, 2, none⟩ (.int .i64 (wrap64 (a.steps + 1)))).cell? ⟨b, 0, none⟩ = some (.int .i64 (holds a ((n : Int) + 1))) := by
    rw [World.cell?_setCell_other _ _ _ _ hgp]; exact e1
  obtain ⟨cur, hcur⟩ := ownsRow_block hown rfl
  have hbp : b ≠ p := block_ne hcur h.blk (by decide)
  have fb : (w.setCell ⟨p, 2, none⟩ (.int .i64 (wrap64 (a.steps + 1)))).frozen? ⟨b, 0, none⟩ = false := by
    have : (w.setCell ⟨p, 2, none⟩ (.int .i64 (wrap64 (a.steps + 1)))).heap[b]? = w.heap[b]? := heap_setCell_other w _ _ _ (by simpa using hbp)
    simp [World.frozen?, this, hcur]
  have fr1 := frame_setCell (F := F) (w := w) (a := ⟨p, 2, none⟩) h.footp (.int .i64 (wrap64 (a.steps + 1)))
  rw [hlen] at hrow
  have hput : ∀ x, Made F w (some ⟨p, 0, none⟩) (some (putA (stepA a) ((n : Int) + 1) x)) ((w.setCell ⟨p, 2, none⟩ (.int .i64 (wrap64 (a.steps + 1)))).setCell ⟨b, 0, none⟩ (.int .i64 x)) := by
    intro x
    have h3 := ArAt.put (a := stepA a) hstep hn hz hrow x
    have hidx : ((n : Int) + 1 - 1).toNat = n := by omega
    have h4 : putA (stepA a) ((n : Int) + 1) x = ⟨(stepA a).room, (stepA a).slots.set n ⟨0, [x]⟩, (stepA a).steps⟩ := by unfold putA; rw [hidx]
    rw [h4]
    exact ⟨F, .inr ⟨_, p, _, _, rfl, rfl, h3⟩, fr1.trans (frame_setCell hbF _) (fun _ _ h => h), fun _ hb => .inl hb⟩
  have res : CellAt F w p a ((n : Int) + 1) b (w.setCell ⟨p, 2, none⟩ (.int .i64 (wrap64 (a.steps + 1)))) := {
    at_ := cb
    free := fb
    same := ⟨F, .inr ⟨_, p, _, _, rfl, rfl, hstep⟩, fr1, fun _ hb => .inl hb⟩
    put := hput }
  have g1 : (w.setCell ⟨p, 2, none⟩ (.int .i64 (wrap64 (a.steps + 1)))).cell? ⟨g, n * 2 + 1, none⟩ = some (.slice (some ⟨b, 0, none⟩) (a.slots[n]).vals.length vcap) := by
    obtain ⟨cg, hcg⟩ := ownsRow_block h.own rfl
    have hgp : g ≠ p := block_ne hcg h.blk (by decide)
    rw [World.cell?_setCell_other _ _ _ _ (by intro e; exact hgp (congrArg Addr.block e).symm)]; exact d1
  have g2 : (w.setCell ⟨p, 2, none⟩ (.int .i64 (wrap64 (a.steps + 1)))).cell? ⟨p, 1, none⟩ = some (.slice (some ⟨g, 0, none⟩) a.slots.length cap) := by
    rw [World.cell?_setCell_other _ _ _ _ (by intro e; have := congrArg Addr.off e; simp at this)]; exact c1
  have HR := Lib.hid res
  clear res hstep fr1 cb fb hcur hbp hbF hval hlen hy hz hown hrow hcell hfv hgp e1
  go_enter Try.func35, Try.ntmps35
  go_wp2_with (first | (go_at_call 37; refine hh.mono ?_; rintro e w' ⟨rfl, rfl⟩) | (go_at_call 28; refine hk.mono ?_; rintro e w' ⟨rfl, rfl⟩))
  go_ret
  exact ⟨a, p, b, rfl, rfl, rfl, HR.out⟩

def loadO : OA → Int → Int × OA
  | none, _ => (0, none)
  | some a, id => if isCell (some a) id = true then (holds a id, some (stepA a)) else (0, some a)
def swapO : OA → Int → Int → Int → Bool × OA
  | none, _, _, _ => (false, none)
  | some a, id, old, now => if isCell (some a) id = true then (if holds a id = old then (true, some (putA (stepA a) id now)) else (false, some (stepA a))) else (false, some a)
def onceO : OA → Int → Int → Bool × OA
  | none, _, _ => (false, none)
  | some a, id, v => if isCell (some a) id = true then (if holds a id = 0 ∧ v ≠ 0 then (true, some (putA (stepA a) id v)) else (false, some (stepA a))) else (false, some a)
theorem load_no {A : OA} {id : Int} (h : isCell A id = false) : loadO A id = (0, A) := by cases A with | none => rfl | some a => simp [loadO, h]
theorem swap_no {A : OA} {id old now : Int} (h : isCell A id = false) : swapO A id old now = (false, A) := by cases A with | none => rfl | some a => simp [swapO, h]
theorem once_no {A : OA} {id v : Int} (h : isCell A id = false) : onceO A id v = (false, A) := by cases A with | none => rfl | some a => simp [onceO, h]

theorem cell_yes1 {w : World} {p : Nat} {a : Ar} {F : Nat → Prop} (h : OAt w (some ⟨p, 0, none⟩) (some a) F) (id : Int) (hc : isCell (some a) id = true) :
    Calls Try.prog 35 #[.pointer (some ⟨p, 0, none⟩), .int .i64 id] w fun e w' => ∃ b, e = .returned (.pointer (some ⟨b, 0, none⟩)) ∧ CellAt F w p a id b w' :=
  (cell_yes h id hc).mono fun e w' ⟨a', p', b, h1, h2, h3, h4⟩ => by
    obtain rfl := Option.some.inj h1
    obtain rfl : p = p' := by simpa using h2
    exact ⟨b, h3, h4⟩

set_option maxHeartbeats 400000 in
theorem load_any {w : World} {po : Option Addr} {A : OA} {F : Nat → Prop} (h : OAt w po A F) (id : Int) :
    Calls Try.prog 20 #[.pointer po, .int .i64 id] w fun e w' => e = .returned (.int .i64 (loadO A id).1) ∧ Made F w po (loadO A id).2 w' := by
  cases hc : isCell A id with
  | false =>
    have hh := cell_no h id hc
    rw [load_no hc]
    have HS := Lib.hid (Made.of_below h (Below.refl _ _)); clear hc
    go_enter Try.func20, Try.ntmps20
    go_wp2_with (go_at_call 35; refine hh.mono ?_; rintro e w' ⟨rfl, rfl⟩)
    go_ret
    exact ⟨rfl, HS.out⟩
  | true =>
    rcases h with ⟨rfl, _⟩ | ⟨a, p, sv, row, rfl, rfl, h⟩
    · cases hc
    have hh := cell_yes1 (F := F) (.inr ⟨a, p, sv, row, rfl, rfl, h⟩) id hc
    have HC := Lib.hid hc; clear hc h
    have hv : loadO (some a) id = (holds a id, some (stepA a)) := by simp [loadO, HC.out]
    rw [hv]
    clear hv
    go_enter Try.func20, Try.ntmps20
    go_wp2_with (go_at_call 35; refine hh.mono ?_; rintro e w1 ⟨b, rfl, hcell⟩; have hat := hcell.at_; have hfree := hcell.free; have HL := Lib.hid hcell; clear hcell)
    go_ret
    exact ⟨rfl, HL.out.same⟩

set_option maxHeartbeats 400000 in
theorem swap_any {w : World} {po : Option Addr} {A : OA} {F : Nat → Prop} (h : OAt w po A F) (id old now : Int) :
    Calls Try.prog 22 #[.pointer po, .int .i64 id, .int .i64 old, .int .i64 now] w fun e w' => e = .returned (.bool (swapO A id old now).1) ∧ Made F w po (swapO A id old now).2 w' := by
  cases hc : isCell A id with
  | false =>
    have hh := cell_no h id hc
    rw [swap_no hc]
    have HS := Lib.hid (Made.of_below h (Below.refl _ _)); clear hc
    go_enter Try.func22, Try.ntmps22
    go_wp2_with (go_at_call 35; refine hh.mono ?_; rintro e w' ⟨rfl, rfl⟩)
    go_ret
    exact ⟨rfl, HS.out⟩
  | true =>
    rcases h with ⟨rfl, _⟩ | ⟨a, p, sv, row, rfl, rfl, h⟩
    · cases hc
    have hh := cell_yes1 (F := F) (.inr ⟨a, p, sv, row, rfl, rfl, h⟩) id hc
    have HC := Lib.hid hc; clear hc h
    by_cases ho : holds a id = old
    · subst ho
      have hv : swapO (some a) id (holds a id) now = (true, some (putA (stepA a) id now)) := by simp [swapO, HC.out]
      rw [hv]
      clear hv
      go_enter Try.func22, Try.ntmps22
      go_wp2_with (go_at_call 35; refine hh.mono ?_; rintro e w1 ⟨b, rfl, hcell⟩; have hat := hcell.at_; have hfree := hcell.free; have HL := Lib.hid hcell; clear hcell)
      go_ret
      exact ⟨rfl, HL.out.put now⟩
    · have ho1 : (holds a id == old) = false := beq_eq_false_iff_ne.2 ho
      have ho2 : (holds a id != old) = true := by rw [bne, ho1]; rfl
      have hv : swapO (some a) id old now = (false, some (stepA a)) := by simp [swapO, HC.out, ho]
      rw [hv]
      clear ho
      clear hv
      go_enter Try.func22, Try.ntmps22
      go_wp2_with (go_at_call 35; refine hh.mono ?_; rintro e w1 ⟨b, rfl, hcell⟩; have hat := hcell.at_; have hfree := hcell.free; have HL := Lib.hid hcell; clear hcell)
      go_ret
      exact ⟨rfl, HL.out.same⟩

set_option maxHeartbeats 400000 in
theorem once_any {w : World} {po : Option Addr} {A : OA} {F : Nat → Prop} (h : OAt w po A F) (id v : Int) :
    Calls Try.prog 24 #[.pointer po, .int .i64 id, .int .i64 v] w fun e w' => e = .returned (.bool (onceO A id v).1) ∧ Made F w po (onceO A id v).2 w' := by
  cases hc : isCell A id with
  | false =>
    have hh := cell_no h id hc
    rw [once_no hc]
    have HS := Lib.hid (Made.of_below h (Below.refl _ _)); clear hc
    go_enter Try.func24, Try.ntmps24
    go_wp2_with (go_at_call 35; refine hh.mono ?_; rintro e w' ⟨rfl, rfl⟩)
    go_ret
    exact ⟨rfl, HS.out⟩
  | true =>
    rcases h with ⟨rfl, _⟩ | ⟨a, p, sv, row, rfl, rfl, h⟩
    · cases hc
    have hh := cell_yes1 (F := F) (.inr ⟨a, p, sv, row, rfl, rfl, h⟩) id hc
    have HC := Lib.hid hc; clear hc h
    by_cases ho : holds a id = 0
    · by_cases hz : v = 0
      · subst hz
        have hv : onceO (some a) id 0 = (false, some (stepA a)) := by simp [onceO, HC.out]
        rw [hv]
        have HO := Lib.hid ho; clear ho
        clear hv
        go_enter Try.func24, Try.ntmps24
        go_wp2_with (go_at_call 35; refine hh.mono ?_; rintro e w1 ⟨b, rfl, hcell⟩; have hat := hcell.at_; rw [HO.out] at hat; have hfree := hcell.free; have HL := Lib.hid hcell; clear hcell)
        go_ret
        exact ⟨rfl, HL.out.same⟩
      · have hz1 : (v == 0) = false := beq_eq_false_iff_ne.2 hz
        have hv : onceO (some a) id v = (true, some (putA (stepA a) id v)) := by simp [onceO, HC.out, ho, hz]
        rw [hv]
        have HO := Lib.hid ho; clear ho hz
        clear hv
        go_enter Try.func24, Try.ntmps24
        go_wp2_with (go_at_call 35; refine hh.mono ?_; rintro e w1 ⟨b, rfl, hcell⟩; have hat := hcell.at_; rw [HO.out] at hat; have hfree := hcell.free; have HL := Lib.hid hcell; clear hcell)
        go_ret
        exact ⟨rfl, HL.out.put v⟩
    · have ho1 : (holds a id == 0) = false := beq_eq_false_iff_ne.2 ho
      have ho2 : (holds a id != 0) = true := by rw [bne, ho1]; rfl
      have hv : onceO (some a) id v = (false, some (stepA a)) := by simp [onceO, HC.out, ho]
      rw [hv]
      clear ho
      clear hv
      go_enter Try.func24, Try.ntmps24
      go_wp2_with (go_at_call 35; refine hh.mono ?_; rintro e w1 ⟨b, rfl, hcell⟩; have hat := hcell.at_; have hfree := hcell.free; have HL := Lib.hid hcell; clear hcell)
      go_ret
      exact ⟨rfl, HL.out.same⟩

end Go.Proofs.Ytbndhaocohomjaa
