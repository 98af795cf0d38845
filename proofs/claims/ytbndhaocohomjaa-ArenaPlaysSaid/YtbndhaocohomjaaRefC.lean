/- The reference's arena: kind, value, and a cell's three calls. -/
import Derived.Test.YtbndhaocohomjaaRefB
namespace Go.Proofs.Ytbndhaocohomjaa
set_option maxRecDepth 100000
open Go.RowKit
set_option linter.unusedVariables false

theorem RO.unfold {w : World} {p : Nat} {a : Ar} {F : Nat → Prop} (h : RO w p (some a) F) : ∃ sv row, RfAt w p a F sv row := by
  obtain ⟨a', sv, row, e, h⟩ := h
  obtain rfl := Option.some.inj e
  exact ⟨sv, row, h⟩
theorem frame_set {F : Nat → Prop} {w w1 : World} {a : Addr} (hb : Below w.heap.size w w1) (h : F a.block) (v : Value) : Frame F w (w1.setCell a v) :=
  (Frame.of_below hb).trans (frame_setCell h v) (fun _ _ h => h)
theorem RMade.alloc {F : Nat → Prop} {w w' : World} {p : Nat} {A : OA} (h : RMade F w p A w') (o : Obj) : RMade F w p A (w'.alloc o) := by
  obtain ⟨F', h1, h2⟩ := h
  have hb := (Below.refl w'.heap.size w').alloc (Nat.le_refl _) o
  exact ⟨F', h1.below hb, h2.trans (.of_below hb)⟩
theorem RO.stepM {w w1 : World} {p : Nat} {a : Ar} {F : Nat → Prop} (h : RO w p (some a) F) (hb : Below w.heap.size w w1) : RMade F w p (some (stepA a)) (w1.setCell ⟨p, 2, none⟩ (.int .i64 (wrap64 (a.steps + 1)))) := by
  obtain ⟨sv, row, h⟩ := h.unfold
  exact ⟨F, ⟨_, sv, row, rfl, (h.below hb).step _⟩, frame_set hb h.footp _, fun _ hf => .inl hf⟩
theorem RfAt.putM {w w1 : World} {p : Nat} {a : Ar} {F : Nat → Prop} {row : List Value} {g cap n : Nat} (h : RfAt w p a F (.slice (some ⟨g, 0, none⟩) a.slots.length cap) row) (hn : n < a.slots.length) (hk : (a.slots[n]).kind = 0) (hb : Below w.heap.size w w1) (x : Int) :
    RMade F w p (some (putA (stepA a) ((n : Int) + 1) x)) ((w1.setCell ⟨p, 2, none⟩ (.int .i64 (wrap64 (a.steps + 1)))).setCell ⟨g, n * 4 + 3, none⟩ (.int .i64 x)) := by
  have h3 := RfAt.put (a := stepA a) ((h.below hb).step (wrap64 (a.steps + 1))) hn hk x
  have h4 : putA (stepA a) ((n : Int) + 1) x = ⟨(stepA a).room, (stepA a).slots.set n ⟨0, [x]⟩, (stepA a).steps⟩ := by unfold putA; rw [show ((n : Int) + 1 - 1).toNat = n by omega]
  rw [h4]
  exact ⟨F, ⟨_, _, _, rfl, h3⟩, (frame_set hb h.footp _).trans (frame_setCell (h.foots g rfl) _) (fun _ _ h => h), fun _ hf => .inl hf⟩
theorem cell_ix {a : Ar} {id : Int} (h : isCell (some a) id = true) : ∃ (n : Nat) (hn : n < a.slots.length), id = (n : Int) + 1 ∧ (a.slots[n]).kind = 0 := by
  obtain ⟨h1, h2, h3⟩ := of_decide_eq_true h
  obtain ⟨n, rfl⟩ : ∃ n : Nat, id = (n : Int) + 1 := ⟨(id - 1).toNat, by omega⟩
  have hn : n < a.slots.length := by omega
  exact ⟨n, hn, rfl, by rw [← slot_at hn]; exact h3⟩

set_option maxHeartbeats 1600000 in
theorem rkind_any {w : World} {p : Nat} {a : Ar} {F : Nat → Prop} (h : RO w p (some a) F) (id : Int) :
    Calls Try.prog 29 #[.pointer (some ⟨p, 0, none⟩), .int .i64 id] w fun e w' => e = .returned (.int .i64 (kindO (some a) id)) ∧ Below w.heap.size w w' := by
  have hr := rec_any h id
  have HR := Lib.hid hr; clear hr
  go_enter Try.func29, Try.ntmps29
  go_wp2_with fail
  refine HR.out.mono ?_
  rintro e w1 ⟨ad, m, cc, b, rfl, hb, hv⟩
  have HB := Lib.hid (hb.alloc hb.size (.cells #[.int .i64 (kindO (some a) id), .slice ad m cc, .bool (isCell (some a) id), .int .i64 (hO a id)] 71))
  clear hb hv
  go_wp2_with fail
  go_ret
  exact ⟨rfl, HB.out⟩

set_option maxHeartbeats 1600000 in
theorem rval_any {w : World} {p : Nat} {a : Ar} {F : Nat → Prop} (h : RO w p (some a) F) (id i : Int) :
    Calls Try.prog 27 #[.pointer (some ⟨p, 0, none⟩), .int .i64 id, .int .i64 i] w fun e w' => e = .returned (.int .i64 (valO (some a) id i)) ∧ Below w.heap.size w w' := by
  have hr := rec_any h id
  have HR := Lib.hid hr; clear hr
  go_enter Try.func27, Try.ntmps27
  go_wp2_with fail
  refine HR.out.mono ?_
  rintro e w1 ⟨ad, m, cc, b, rfl, hb, hv⟩
  have HB := Lib.hid (hb.alloc hb.size (.cells #[.int .i64 (kindO (some a) id), .slice ad m cc, .bool (isCell (some a) id), .int .i64 (hO a id)] 71))
  by_cases h1 : i < 0
  · have HV := Lib.hid (hv.out i (.inl h1))
    clear hb hv
    go_wp2_with fail
    go_ret
    exact ⟨by rw [HV.out]; rfl, HB.out⟩
  · by_cases h2 : (m : Int) ≤ i
    · have HV := Lib.hid (hv.out i (.inr h2))
      clear hb hv
      go_wp2_with fail
      go_ret
      exact ⟨by rw [HV.out]; rfl, HB.out⟩
    · obtain ⟨j, rfl⟩ := Int.eq_ofNat_of_zero_le (by omega : 0 ≤ i)
      have hj : j < m := by omega
      obtain ⟨g, rfl, hc0⟩ := hv.in_ j hj
      have hgw := cell_lt hc0
      have hc := (hb.cell (p := ⟨g, j, none⟩) hgw).trans hc0
      have hg1 : g < w1.heap.size := by have := hb.size; omega
      obtain ⟨y, hy⟩ : ∃ y, valO (some a) id (j : Int) = y := ⟨_, rfl⟩
      rw [hy] at hc
      have HV := Lib.hid hy; clear hy
      clear hb hv hc0
      go_wp2_with fail
      go_ret
      exact ⟨by rw [HV.out]; rfl, HB.out⟩

set_option maxHeartbeats 1600000 in
theorem rload_any {w : World} {p : Nat} {a : Ar} {F : Nat → Prop} (h : RO w p (some a) F) (id : Int) :
    Calls Try.prog 21 #[.pointer (some ⟨p, 0, none⟩), .int .i64 id] w fun e w' => e = .returned (.int .i64 (loadO (some a) id).1) ∧ RMade F w p (loadO (some a) id).2 w' := by
  have hr := rec_any h id
  have HR := Lib.hid hr; clear hr
  go_enter Try.func21, Try.ntmps21
  go_wp2_with fail
  refine HR.out.mono ?_
  rintro e w1 ⟨ad, m, cc, b, rfl, hb, hv⟩
  have HB := Lib.hid (hb.alloc hb.size (.cells #[.int .i64 (kindO (some a) id), .slice ad m cc, .bool (isCell (some a) id), .int .i64 (hO a id)] 71))
  clear hv
  cases hc : isCell (some a) id with
  | false =>
    have h0 : hO a id = 0 := by unfold hO; rw [hc]; rfl
    have HV := Lib.hid (load_no (A := some a) hc)
    rw [h0, hc] at HB
    have HS := Lib.hid (RMade.of_below h HB.out)
    clear hb
    rw [h0]
    go_wp2_with fail
    go_ret
    exact ⟨by rw [HV.out]; rfl, by rw [HV.out]; exact HS.out⟩
  | true =>
    have h0 : hO a id = holds a id := by unfold hO; rw [hc]; rfl
    have hv : loadO (some a) id = (holds a id, some (stepA a)) := by simp [loadO, hc]
    have HV := Lib.hid hv
    rw [h0, hc] at HB
    rw [h0]
    have HM := Lib.hid (h.stepM hb)
    obtain ⟨sv, row, h5⟩ := (h.below hb).unfold
    obtain ⟨c0, c1, c2⟩ := h5.cells
    have hf2 := h5.free 2
    have hp1 := h5.lt p h5.footp
    clear h5
    clear hb hv hc h0
    go_wp2_with fail
    go_ret
    exact ⟨by rw [HV.out]; rfl, by rw [HV.out]; exact HM.out.alloc _⟩

set_option maxHeartbeats 1600000 in
theorem rswap_any {w : World} {p : Nat} {a : Ar} {F : Nat → Prop} (h : RO w p (some a) F) (id old now : Int) :
    Calls Try.prog 23 #[.pointer (some ⟨p, 0, none⟩), .int .i64 id, .int .i64 old, .int .i64 now] w fun e w' => e = .returned (.bool (swapO (some a) id old now).1) ∧ RMade F w p (swapO (some a) id old now).2 w' := by
  have hr := rec_any h id
  have HR := Lib.hid hr; clear hr
  go_enter Try.func23, Try.ntmps23
  go_wp2_with fail
  refine HR.out.mono ?_
  rintro e w1 ⟨ad, m, cc, b, rfl, hb, hv⟩
  have HB := Lib.hid (hb.alloc hb.size (.cells #[.int .i64 (kindO (some a) id), .slice ad m cc, .bool (isCell (some a) id), .int .i64 (hO a id)] 71))
  clear hv
  cases hc : isCell (some a) id with
  | false =>
    have h0 : hO a id = 0 := by unfold hO; rw [hc]; rfl
    have HV := Lib.hid (swap_no (A := some a) (old := old) (now := now) hc)
    rw [h0, hc] at HB
    have HS := Lib.hid (RMade.of_below h HB.out)
    clear hb
    rw [h0]
    go_wp2_with fail
    go_ret
    exact ⟨by rw [HV.out]; rfl, by rw [HV.out]; exact HS.out⟩
  | true =>
    have h0 : hO a id = holds a id := by unfold hO; rw [hc]; rfl
    rw [h0, hc] at HB
    rw [h0]
    have HM := Lib.hid (h.stepM hb)
    have HC := Lib.hid hc; clear hc h0
    by_cases ho : holds a id = old
    · have hv : swapO (some a) id old now = (true, some (putA (stepA a) id now)) := by simp [swapO, HC.out, ho]
      have HV := Lib.hid hv; clear hv
      have qo : (holds a id != old) = false := by rw [ho]; simp
      obtain ⟨n, hn, rfl, hk⟩ := cell_ix HC.out
      obtain ⟨sv, row, h5⟩ := h.unfold
      obtain ⟨g, cap, ad2, cc2, rfl, hcap, hFg, d0, d1, d2, d3, d4, hgp, _⟩ := h5.at_ hn
      obtain ⟨c0, c1, c2⟩ := (h5.below hb).cells
      have hf2 := (h5.below hb).free 2
      have hp1 := (h5.below hb).lt p h5.footp
      have hg0 := h5.lt g hFg
      have hg1 : g < w1.heap.size := by have := hb.size; omega
      have hgc := (hb.cell (p := ⟨g, n * 4 + 3, none⟩) hg0).trans d3
      have hgf : w1.frozen? ⟨g, n * 4 + 3, none⟩ = false := by have e := hb.block g hg0; simp only [World.frozen?, e]; exact d4
      have hfit := h5.ok.fits
      have hmost := h5.ok.most
      have wm : IntKind.i64.wrap ((n : Int) + 1 - 1) = (n : Int) := (IntWalk.i64_in _ (by omega)).trans (by omega)
      have HP := Lib.hid (h5.putM hn hk hb now)
      clear d0 d1 d2 d3 d4 hFg hg0 HM hb
      clear h5
      clear hk
      go_wp2_with fail
      go_ret
      exact ⟨by rw [HV.out]; rfl, by rw [HV.out]; exact HP.out.alloc _⟩
    · have hv : swapO (some a) id old now = (false, some (stepA a)) := by simp [swapO, HC.out, ho]
      have HV := Lib.hid hv; clear hv
      have qo : (holds a id != old) = true := by rw [bne, beq_eq_false_iff_ne.2 ho]; rfl
      have qo2 : (holds a id == old) = false := beq_eq_false_iff_ne.2 ho
      obtain ⟨sv, row, h5⟩ := (h.below hb).unfold
      obtain ⟨c0, c1, c2⟩ := h5.cells
      have hf2 := h5.free 2
      have hp1 := h5.lt p h5.footp
      clear h5
      clear hb ho
      go_wp2_with fail
      go_ret
      exact ⟨by rw [HV.out]; rfl, by rw [HV.out]; exact HM.out.alloc _⟩

set_option maxHeartbeats 1600000 in
theorem ronce_any {w : World} {p : Nat} {a : Ar} {F : Nat → Prop} (h : RO w p (some a) F) (id v : Int) :
    Calls Try.prog 25 #[.pointer (some ⟨p, 0, none⟩), .int .i64 id, .int .i64 v] w fun e w' => e = .returned (.bool (onceO (some a) id v).1) ∧ RMade F w p (onceO (some a) id v).2 w' := by
  have hr := rec_any h id
  have HR := Lib.hid hr; clear hr
  go_enter Try.func25, Try.ntmps25
  go_wp2_with fail
  refine HR.out.mono ?_
  rintro e w1 ⟨ad, m, cc, b, rfl, hb, hv⟩
  have HB := Lib.hid (hb.alloc hb.size (.cells #[.int .i64 (kindO (some a) id), .slice ad m cc, .bool (isCell (some a) id), .int .i64 (hO a id)] 71))
  clear hv
  cases hc : isCell (some a) id with
  | false =>
    have h0 : hO a id = 0 := by unfold hO; rw [hc]; rfl
    have HV := Lib.hid (once_no (A := some a) (v := v) hc)
    rw [h0, hc] at HB
    have HS := Lib.hid (RMade.of_below h HB.out)
    clear hb
    rw [h0]
    go_wp2_with fail
    go_ret
    exact ⟨by rw [HV.out]; rfl, by rw [HV.out]; exact HS.out⟩
  | true =>
    have h0 : hO a id = holds a id := by unfold hO; rw [hc]; rfl
    rw [h0, hc] at HB
    rw [h0]
    have HM := Lib.hid (h.stepM hb)
    have HC := Lib.hid hc; clear hc h0
    by_cases ho : holds a id = 0
    · by_cases hz : v = 0
      · subst hz
        have hv : onceO (some a) id 0 = (false, some (stepA a)) := by simp [onceO, HC.out]
        have HV := Lib.hid hv; clear hv
        have HO := Lib.hid ho; clear ho
        rw [HO.out]
        clear HB
        obtain ⟨sv, row, h5⟩ := (h.below hb).unfold
        obtain ⟨c0, c1, c2⟩ := h5.cells
        have hf2 := h5.free 2
        have hp1 := h5.lt p h5.footp
        clear h5
        clear hb
        go_wp2_with fail
        go_ret
        exact ⟨by rw [HV.out]; rfl, by rw [HV.out]; exact HM.out.alloc _⟩
      · have hz1 : (v == 0) = false := beq_eq_false_iff_ne.2 hz
        have hv : onceO (some a) id v = (true, some (putA (stepA a) id v)) := by simp [onceO, HC.out, ho, hz]
        have HV := Lib.hid hv; clear hv hz
        have HO := Lib.hid ho; clear ho
        rw [HO.out]
        clear HB
        obtain ⟨n, hn, rfl, hk⟩ := cell_ix HC.out
        obtain ⟨sv, row, h5⟩ := h.unfold
        obtain ⟨g, cap, ad2, cc2, rfl, hcap, hFg, d0, d1, d2, d3, d4, hgp, _⟩ := h5.at_ hn
        obtain ⟨c0, c1, c2⟩ := (h5.below hb).cells
        have hf2 := (h5.below hb).free 2
        have hp1 := (h5.below hb).lt p h5.footp
        have hg0 := h5.lt g hFg
        have hg1 : g < w1.heap.size := by have := hb.size; omega
        have hgc := (hb.cell (p := ⟨g, n * 4 + 3, none⟩) hg0).trans d3
        have hgf : w1.frozen? ⟨g, n * 4 + 3, none⟩ = false := by have e := hb.block g hg0; simp only [World.frozen?, e]; exact d4
        have hfit := h5.ok.fits
        have hmost := h5.ok.most
        have wm : IntKind.i64.wrap ((n : Int) + 1 - 1) = (n : Int) := (IntWalk.i64_in _ (by omega)).trans (by omega)
        have HP := Lib.hid (h5.putM hn hk hb v)
        clear d0 d1 d2 d3 d4 hFg hg0 HM hb
        clear h5
        clear hk
        go_wp2_with fail
        go_ret
        exact ⟨by rw [HV.out]; rfl, by rw [HV.out]; exact HP.out.alloc _⟩
    · have hv : onceO (some a) id v = (false, some (stepA a)) := by simp [onceO, HC.out, ho]
      have HV := Lib.hid hv; clear hv
      have qo2 : (holds a id == 0) = false := beq_eq_false_iff_ne.2 ho
      have qo : (holds a id != 0) = true := by rw [bne, qo2]; rfl
      obtain ⟨sv, row, h5⟩ := (h.below hb).unfold
      obtain ⟨c0, c1, c2⟩ := h5.cells
      have hf2 := h5.free 2
      have hp1 := h5.lt p h5.footp
      clear h5
      clear hb ho
      go_wp2_with fail
      go_ret
      exact ⟨by rw [HV.out]; rfl, by rw [HV.out]; exact HM.out.alloc _⟩

end Go.Proofs.Ytbndhaocohomjaa
