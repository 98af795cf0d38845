/- What changes an arena: a new one, one more record or cell. -/
import Derived.Test.YtbndhaocohomjaaHeap2
import Derived.Deep.RegionLaw
import Derived.BigRegion
import Derived.Deep.AppendLies
import Derived.Lib.SliceRun
namespace Go.Proofs.Ytbndhaocohomjaa
set_option maxRecDepth 100000
open Go.RowKit

theorem info_int : (Try.prog.info? 3).map (fun i => (i.zero, i.size, i.bytes)) = some (some (.int .i64 0), 1, 8) := by kernel_rfl
theorem info_slot : (Try.prog.info? 69).map (fun i => (i.zero, i.size, i.bytes)) = some (some (.agg #[.int .i64 0, .slice none 0 0]), 2, 32) := by kernel_rfl

theorem new_at (room : Int) (w : World) : OAt (w.alloc (.cells #[.int .i64 (newA room).room, .slice none 0 0, .int .i64 0] 65)) (some ⟨w.heap.size, 0, none⟩) (some (newA room)) (fun b => b = w.heap.size) :=
  .inr ⟨newA room, w.heap.size, .slice none 0 0, [], rfl, rfl, {
    ok := ⟨by simp only [newA]; omega, by simp only [newA, List.length_nil]; omega, fun s hs => by simp [newA] at hs⟩
    blk := heap_alloc_new w _
    own := World.ownsRow_nil _ _ _ _
    kind := fun i s hi => by simp [newA] at hi
    vals := fun i s hi => by simp [newA] at hi
    apart := fun i j u v b hi => by simp at hi
    footp := rfl
    foots := fun b hb => by simp [Value.ownBlock] at hb
    lt := fun b hb => by rw [hb]; simp }⟩

set_option maxHeartbeats 400000 in
theorem new_any (room : Int) (w : World) :
    Calls Try.prog 8 #[.int .i64 room] w fun e w' => e = .returned (.pointer (some ⟨w.heap.size, 0, none⟩)) ∧ OAt w' (some ⟨w.heap.size, 0, none⟩) (some (newA room)) (fun b => b = w.heap.size) ∧ Below w.heap.size w w' := by
  have hn := new_at room w
  have hb : Below w.heap.size w (w.alloc (.cells #[.int .i64 (newA room).room, .slice none 0 0, .int .i64 0] 65)) := (Below.refl _ _).alloc (Nat.le_refl _) _
  by_cases h1 : room < 0
  · rw [show (newA room).room = 0 by simp only [newA]; omega] at hn hb
    go_enter Try.func8, Try.ntmps8
    go_wp2
    go_ret
    exact ⟨rfl, hn, hb⟩
  · by_cases h2 : 60000 < room
    · rw [show (newA room).room = 60000 by simp only [newA]; omega] at hn hb
      go_enter Try.func8, Try.ntmps8
      go_wp2
      go_ret
      exact ⟨rfl, hn, hb⟩
    · rw [show (newA room).room = room by simp only [newA]; omega] at hn hb
      go_enter Try.func8, Try.ntmps8
      go_wp2
      go_ret
      exact ⟨rfl, hn, hb⟩

/-- A slice of numbers that is read. -/
def IntsIn (w : World) (ad : Option Addr) (c : Nat) (l : List Int) : Prop := (ad = none ∧ c = 0 ∧ l = []) ∨ ∃ x, ad = some x ∧ ∀ j (hj : j < l.length), w.cell? (x.add j) = some (.int .i64 l[j])

set_option maxHeartbeats 400000 in
theorem clone_any {w : World} {ad : Option Addr} {c : Nat} {l : List Int} (h : IntsIn w ad c l) (hl : l.length ≤ 12) :
    Calls Try.prog 34 #[.slice ad l.length c] w fun e w' => ∃ v, e = .returned v ∧ w'.ownsRow 0 3 1 v l.length (l.map (Value.int .i64)) ∧ Below w.heap.size w w' ∧ ∀ b, v.ownBlock = some b → w.heap.size ≤ b := by
  obtain ⟨i0, hi, hz0, hz1, hz2⟩ := info_parts info_int
  have hq : ∀ (w : World) (a : Option Addr) (n c n' c' : Nat), (binOp .eql 42 (.slice a n c) (.slice none n' c')).run Try.prog w = .ok (.bool a.isNone) w := fun w a n c n' c' => Lib.run_eql_slice_nil w _ _ a n c n' c' Try.underlying42
  rcases h with ⟨rfl, rfl, rfl⟩ | ⟨x, rfl, hc⟩
  · go_enter Try.func34, Try.ntmps34
    go_wp2
    go_ret
    exact ⟨_, rfl, World.ownsRow_nil _ _ _ _, Below.refl _ _, by simp [Value.ownBlock]⟩
  · have hnews : ∀ j u, (l.map (Value.int .i64))[j]? = some u → (w.alloc (.cells #[] 3)).cell? (x.add j) = some u := by
      intro j u hu
      rw [List.getElem?_map] at hu
      obtain ⟨n, hn, rfl⟩ := Option.map_eq_some_iff.1 hu
      obtain ⟨hj, rfl⟩ := List.getElem?_eq_some_iff.1 hn
      have := hc j hj
      exact (((Below.refl w.heap.size w).alloc (Nat.le_refl _) _).cell (World.block_lt_of_cell? w _ this)).trans this
    have hm : (w.alloc (.cells #[] 3)).ownsRow w.heap.size 3 1 (.slice (some ⟨w.heap.size, 0, none⟩) 0 0) 0 [] := World.ownsRow_made w #[] 0 (Nat.le_refl _) (by decide) rfl
    have H1 := Lib.hid hnews; clear hnews
    have H2 := Lib.hid hm; clear hm
    have HC := Lib.hid hc; clear hc
    go_enter Try.func34, Try.ntmps34
    go_wp2_with (at_builtin; refine wpList_append_own _ rfl _ _ 42 rfl w.heap.size 3 i0 (.int .i64 0) 1 8 Try.underlying42 hi hz0 hz1 hz2 rfl (by decide) _ _ _ rfl H2.out x l.length c (l.map (Value.int .i64)) rfl (by simp) H1.out ?c2 ?c3 ?c4 ?c5 ?_)
    case c2 => intro u hu; obtain ⟨n, _, rfl⟩ := List.mem_map.1 hu; rfl
    case c3 => unfold maxLen; omega
    case c4 => omega
    case c5 => simp
    intro v' w' hown hgrow _
    go_wp2
    go_ret
    have hb : Below w.heap.size w w' := (((Below.refl w.heap.size w).alloc (Nat.le_refl _) _).grown hgrow (by simp) (by intro k hk; simp [Value.ownBlock] at hk; omega))
    exact ⟨v', rfl, ⟨hown.1, hown.2.imp id (fun ⟨g, cap, cur, a1, _, a3⟩ => ⟨g, cap, cur, a1, Nat.zero_le _, a3⟩)⟩, hb, fun b hb => (hown.lt b hb).1⟩

set_option maxRecDepth 100000 in
set_option maxHeartbeats 1600000 in
theorem add_any {w : World} {p : Nat} {a : Ar} {F : Nat → Prop} (h : OAt w (some ⟨p, 0, none⟩) (some a) F) {s : Slot} {v : Value} (hcell : s.kind = 0 → ∃ x, s.vals = [x])
    (hv : w.ownsRow 0 3 1 v s.vals.length (s.vals.map (Value.int .i64))) (hfresh : ∀ b, v.ownBlock = some b → ¬ F b) :
    Calls Try.prog 33 #[.pointer (some ⟨p, 0, none⟩), .agg #[.int .i64 s.kind, v]] w fun e w' => e = .returned (.tuple #[.int .i64 (addA a s).1, .int .i64 (addA a s).2.1]) ∧
      ∃ F', OAt w' (some ⟨p, 0, none⟩) (some (addA a s).2.2) F' ∧ Frame F w w' ∧ ∀ b, F' b → F b ∨ v.ownBlock = some b ∨ w.heap.size ≤ b := by
  obtain ⟨i0, hi, hz0, hz1, hz2⟩ := info_parts info_slot
  have hb0 : Below w.heap.size w (w.alloc (.cells #[.int .i64 s.kind, v] 69)) := (Below.refl _ _).alloc (Nat.le_refl _) _
  have h0 := h.below hb0
  have hr := room_any h0
  by_cases hfull : a.room - a.slots.length = 0
  · have hadd : addA a s = (0, 2, a) := by simp only [addA]; rw [if_pos hfull]
    rw [hadd]
    rw [show roomO (some a) = 0 from hfull] at hr
    have HF := Lib.hid hfull; clear hfull hadd
    have HB := Lib.hid hb0; clear hb0
    go_enter Try.func33, Try.ntmps33
    go_wp2_with (go_at_call 31; refine hr.mono ?_; rintro e w1 ⟨rfl, hb1⟩)
    go_ret2
    have hb := HB.out.trans (hb1.mono (by simp))
    exact ⟨rfl, F, h.below hb, Frame.of_below hb, fun b hb => .inl hb⟩
  · have hadd : addA a s = ((a.slots.length : Int) + 1, 0, ⟨a.room, a.slots ++ [s], a.steps⟩) := by simp only [addA]; rw [if_neg hfull]
    rw [hadd]
    have hfull' : (roomO (some a) == 0) = false := beq_eq_false_iff_ne.2 hfull
    rcases h with ⟨x, _⟩ | ⟨a', p', sv, row, e1, e2, h⟩
    · cases x
    obtain rfl := Option.some.inj e1
    obtain rfl : p = p' := by simpa using e2
    clear e1 e2
    have hfit := h.ok.fits
    have hmost := h.ok.most
    have hlt : (a.slots.length : Int) < a.room := by omega
    have HF := Lib.hid hfull; clear hfull hadd
    have HB := Lib.hid hb0; clear hb0
    obtain ⟨vad, vcap, hve, _, _⟩ := vals_form hv
    generalize hvl : s.vals.length = vl at hve
    subst hve
    go_enter Try.func33, Try.ntmps33
    go_wp2_with (go_at_call 31; refine hr.mono ?_; rintro e w1 ⟨rfl, hb1⟩)
    have hb01 := HB.out.trans (hb1.mono (by simp))
    have h1 : ArAt w1 p a F sv row := h.same (fun b hb => hb01.block b (h.lt b hb)) hb01.size
    obtain ⟨c0, c1, c2⟩ := h1.cells
    obtain ⟨sad, scap, hsv, hscap⟩ := h1.slice
    have hbox : w1.heap[w.heap.size]? = some (.cells #[.int .i64 s.kind, .slice vad vl vcap] 69 (0, 0)) := (hb1.block _ (by simp)).trans (heap_alloc_new w _)
    have x0 : w1.cell? ⟨w.heap.size, 0, none⟩ = some (.int .i64 s.kind) := by simp [World.cell?, hbox]
    have x1 : w1.cell? ⟨w.heap.size, 1, none⟩ = some (.slice vad vl vcap) := by simp [World.cell?, hbox]
    have hne : some w.heap.size ≠ sv.ownBlock := fun e => by
      have := h.lt _ (h.foots _ e.symm); omega
    have hpne : some p ≠ sv.ownBlock := fun e => by
      obtain ⟨c, hc⟩ := ownsRow_block h.own e.symm
      rw [h.blk] at hc; simp at hc
    have hfree := h1.free 1
    have hp1 := h1.lt p h1.footp
    have hw1 : w.heap.size < w1.heap.size := by have := hb1.size; simp at this; omega
    have H1 := Lib.hid h1; clear h1
    have HV := Lib.hid hvl; clear hvl
    have HX := Lib.hid hbox; clear hbox
    have HN := Lib.hid hne; clear hne
    have HP := Lib.hid hpne; clear hpne
    subst hsv
    go_region_law (refine step_append_lies _ (by rfl) _ _ _ (by rfl) 0 69 i0 _ 2 32 Try.underlying63 hi hz0 hz1 hz2 rfl (by omega) _ a.slots.length row (by rfl) ((H1.out.own.alloc _).drew) ⟨w1.heap.size, 0, none⟩ 1 1 [.int .i64 s.kind, .slice vad vl vcap] (by rfl) (by rfl) (World.news_of_block (cs := #[.int .i64 s.kind, .slice vad vl vcap]) (t := 69) (fr := (0, 0)) (heap_alloc_new w1 _)) (by simp [Value.oneCell']) (by omega) (by unfold maxLen; omega) (by omega) (by simp) (w1.heap.size + 1) (by simp) ?_; intro g cap w2 hown2 hgrow hat hlt2; have y1 := (hgrow.cell_far ⟨p, 1, none⟩ (by simp; omega) HP.out); have y2 := (hgrow.frozen_far ⟨p, 1, none⟩ (by simp; omega) HP.out); simp only [World.cell?_drew] at y1)
    all_goals go_wp2
    all_goals go_ret2
    all_goals
      have bW : Below w1.heap.size w1 ((w1.alloc (.cells #[.int .i64 s.kind, .slice vad vl vcap] 69)).drew) := ((Below.refl _ _).alloc (Nat.le_refl _) _).drew
      have hW : ArAt ((w1.alloc (.cells #[.int .i64 s.kind, .slice vad vl vcap] 69)).drew) p a F (.slice sad a.slots.length scap) row := H1.out.same (fun b hb => bW.block b (H1.out.lt b hb)) bW.size
      have hV := ownsRow_same (w' := (w1.alloc (.cells #[.int .i64 s.kind, .slice vad vl vcap] 69)).drew) hv (fun b hb => by
        obtain ⟨c, hc⟩ := ownsRow_block hv hb
        have hbl := (Array.getElem?_eq_some_iff.1 hc).1
        rw [bW.block b (by omega), hb01.block b hbl])
      have hsz := bW.size
      obtain ⟨F', a1, a2, a3⟩ := hW.more hlt hcell hV hfresh hown2 hgrow (hat.imp id (fun e => by rw [e]; simp)) hlt2
      refine ⟨rfl, F', .inr ⟨_, p, _, _, rfl, rfl, a1⟩, ((Frame.of_below hb01).trans (Frame.of_below bW) (fun _ _ h => h)).trans a2 (fun _ _ h => h), fun b hb => (a3 b hb).imp id (fun h => h.imp id (fun h => ?_))⟩
      omega

end Go.Proofs.Ytbndhaocohomjaa
