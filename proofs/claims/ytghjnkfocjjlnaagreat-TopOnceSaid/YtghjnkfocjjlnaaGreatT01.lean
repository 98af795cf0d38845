/- What changes an arena: a new one, one more record or cell. -/
/- A law's arguments, opened into what its walk is told. -/
/- A law's argument of the top package: a policy, five ints. -/
/- Make, Cell and the cells' three calls. -/
/- The walks of package node. -/
import Derived.Test.YtghjnkfocjjlnaaGreatT00
import Derived.Deep.RegionLaw
import Derived.BigRegion
import Derived.Deep.AppendLies
import Derived.Lib.SliceRun
import Derived.ProofKit
import Derived.OpenShut
import Derived.ChangeOld
import Derived.SizedLaws
import Derived.Lib.SmallJoins
import Derived.Deep.SlicePairs
import Derived.Deep.Matrix
set_option linter.unusedSimpArgs false
set_option linter.unusedVariables false
section
namespace Go.Proofs.YtghjnkfocjjlnaaGreat
set_option maxRecDepth 100000
open Go.RowKit
theorem info_int : (Tryz.prog.info? 3).map (fun i => (i.zero, i.size, i.bytes)) = some (some (.int .i64 0), 1, 8) := by kernel_rfl
theorem info_slot : (Tryz.prog.info? 159).map (fun i => (i.zero, i.size, i.bytes)) = some (some (.agg #[.int .i64 0, .slice none 0 0]), 2, 32) := by kernel_rfl
theorem new_at (room : Int) (w : World) : OAt (w.alloc (.cells #[.int .i64 (newA room).room, .slice none 0 0, .int .i64 0] 128)) (some ⟨w.heap.size, 0, none⟩) (some (newA room)) (fun b => b = w.heap.size) :=
  .inr ⟨newA room, w.heap.size, .slice none 0 0, [], rfl, rfl, {
    ok := ⟨by simp only [newA]; omega, by simp only [newA, List.length_nil]; omega, fun s hs => by simp [newA] at hs⟩
    blk := heap_alloc_new w _
    own := World.ownsRow_nil _ _ _ _
    kind := fun i s hi => by simp [newA] at hi
    vals := fun i s hi => by simp [newA] at hi
    apart := fun i j u v b hi => by simp at hi
    footp := rfl
    foots := fun b hb => by simp [Value.ownBlock] at hb
    lt := fun b hb => by rw [hb]; simp }⟩
set_option maxHeartbeats 400000 in
theorem new_any (room : Int) (w : World) :
    Calls Tryz.prog 49 #[.int .i64 room] w fun e w' => e = .returned (.pointer (some ⟨w.heap.size, 0, none⟩)) ∧ OAt w' (some ⟨w.heap.size, 0, none⟩) (some (newA room)) (fun b => b = w.heap.size) ∧ Below w.heap.size w w' := by
  have hn := new_at room w
  have hb : Below w.heap.size w (w.alloc (.cells #[.int .i64 (newA room).room, .slice none 0 0, .int .i64 0] 128)) := (Below.refl _ _).alloc (Nat.le_refl _) _
  by_cases h1 : room < 0
  · rw [show (newA room).room = 0 by simp only [newA]; omega] at hn hb
    go_enter Tryz.func49, Tryz.ntmps49
    go_wp2
    go_ret
    exact ⟨rfl, hn, hb⟩
  · by_cases h2 : 60000 < room
    · rw [show (newA room).room = 60000 by simp only [newA]; omega] at hn hb
      go_enter Tryz.func49, Tryz.ntmps49
      go_wp2
      go_ret
      exact ⟨rfl, hn, hb⟩
    · rw [show (newA room).room = room by simp only [newA]; omega] at hn hb
      go_enter Tryz.func49, Tryz.ntmps49
      go_wp2
      go_ret
      exact ⟨rfl, hn, hb⟩
/-- A slice of numbers that is read. -/
def IntsIn (w : World) (ad : Option Addr) (c : Nat) (l : List Int) : Prop := (ad = none ∧ c = 0 ∧ l = []) ∨ ∃ x, ad = some x ∧ ∀ j (hj : j < l.length), w.cell? (x.add j) = some (.int .i64 l[j])
set_option maxHeartbeats 400000 in
theorem clone_any {w : World} {ad : Option Addr} {c : Nat} {l : List Int} (h : IntsIn w ad c l) (hl : l.length ≤ 12) :
    Calls Tryz.prog 44 #[.slice ad l.length c] w fun e w' => ∃ v, e = .returned v ∧ w'.ownsRow 0 3 1 v l.length (l.map (Value.int .i64)) ∧ Below w.heap.size w w' ∧ ∀ b, v.ownBlock = some b → w.heap.size ≤ b := by
  obtain ⟨i0, hi, hz0, hz1, hz2⟩ := info_parts info_int
  have hq : ∀ (w : World) (a : Option Addr) (n c n' c' : Nat), (binOp .eql 22 (.slice a n c) (.slice none n' c')).run Tryz.prog w = .ok (.bool a.isNone) w := fun w a n c n' c' => Lib.run_eql_slice_nil w _ _ a n c n' c' Tryz.underlying22
  rcases h with ⟨rfl, rfl, rfl⟩ | ⟨x, rfl, hc⟩
  · go_enter Tryz.func44, Tryz.ntmps44
    go_wp2
    go_ret
    exact ⟨_, rfl, World.ownsRow_nil _ _ _ _, Below.refl _ _, by simp [Value.ownBlock]⟩
  · have hnews : ∀ j u, (l.map (Value.int .i64))[j]? = some u → (w.alloc (.cells #[] 3)).cell? (x.add j) = some u := by
      intro j u hu
      rw [List.getElem?_map] at hu
      obtain ⟨n, hn, rfl⟩ := Option.map_eq_some_iff.1 hu
      obtain ⟨hj, rfl⟩ := List.getElem?_eq_some_iff.1 hn
      have := hc j hj
      exact (((Below.refl w.heap.size w).alloc (Nat.le_refl _) _).cell (World.block_lt_of_cell? w _ this)).trans this
    have hm : (w.alloc (.cells #[] 3)).ownsRow w.heap.size 3 1 (.slice (some ⟨w.heap.size, 0, none⟩) 0 0) 0 [] := World.ownsRow_made w #[] 0 (Nat.le_refl _) (by decide) rfl
    have H1 := Lib.hid hnews; clear hnews
    have H2 := Lib.hid hm; clear hm
    have HC := Lib.hid hc; clear hc
    go_enter Tryz.func44, Tryz.ntmps44
    go_wp2_with (at_builtin; refine wpList_append_own _ rfl _ _ 22 rfl w.heap.size 3 i0 (.int .i64 0) 1 8 Tryz.underlying22 hi hz0 hz1 hz2 rfl (by decide) _ _ _ rfl H2.out x l.length c (l.map (Value.int .i64)) rfl (by simp) H1.out ?c2 ?c3 ?c4 ?c5 ?_)
    case c2 => intro u hu; obtain ⟨n, _, rfl⟩ := List.mem_map.1 hu; rfl
    case c3 => unfold maxLen; omega
    case c4 => omega
    case c5 => simp
    intro v' w' hown hgrow _
    go_wp2
    go_ret
    have hb : Below w.heap.size w w' := (((Below.refl w.heap.size w).alloc (Nat.le_refl _) _).grown hgrow (by simp) (by intro k hk; simp [Value.ownBlock] at hk; omega))
    exact ⟨v', rfl, ⟨hown.1, hown.2.imp id (fun ⟨g, cap, cur, a1, _, a3⟩ => ⟨g, cap, cur, a1, Nat.zero_le _, a3⟩)⟩, hb, fun b hb => (hown.lt b hb).1⟩
set_option maxRecDepth 100000 in
set_option maxHeartbeats 1600000 in
theorem add_any {w : World} {p : Nat} {a : Ar} {F : Nat → Prop} (h : OAt w (some ⟨p, 0, none⟩) (some a) F) {s : Slot} {v : Value} (hcell : s.kind = 0 → ∃ x, s.vals = [x])
    (hv : w.ownsRow 0 3 1 v s.vals.length (s.vals.map (Value.int .i64))) (hfresh : ∀ b, v.ownBlock = some b → ¬ F b) :
    Calls Tryz.prog 112 #[.pointer (some ⟨p, 0, none⟩), .agg #[.int .i64 s.kind, v]] w fun e w' => e = .returned (.tuple #[.int .i64 (addA a s).1, .int .i64 (addA a s).2.1]) ∧
      ∃ F', OAt w' (some ⟨p, 0, none⟩) (some (addA a s).2.2) F' ∧ Frame F w w' ∧ ∀ b, F' b → F b ∨ v.ownBlock = some b ∨ w.heap.size ≤ b := by
  obtain ⟨i0, hi, hz0, hz1, hz2⟩ := info_parts info_slot
  have hb0 : Below w.heap.size w (w.alloc (.cells #[.int .i64 s.kind, v] 159)) := (Below.refl _ _).alloc (Nat.le_refl _) _
  have h0 := h.below hb0
  have hr := room_any h0
  by_cases hfull : a.room - a.slots.length = 0
  · have hadd : addA a s = (0, 2, a) := by simp only [addA]; rw [if_pos hfull]
    rw [hadd]
    rw [show roomO (some a) = 0 from hfull] at hr
    have HF := Lib.hid hfull; clear hfull hadd
    have HB := Lib.hid hb0; clear hb0
    go_enter Tryz.func112, Tryz.ntmps112
    go_wp2_with (go_at_call 148; refine hr.mono ?_; rintro e w1 ⟨rfl, hb1⟩)
    go_ret2
    have hb := HB.out.trans (hb1.mono (by simp))
    exact ⟨rfl, F, h.below hb, Frame.of_below hb, fun b hb => .inl hb⟩
  · have hadd : addA a s = ((a.slots.length : Int) + 1, 0, ⟨a.room, a.slots ++ [s], a.steps⟩) := by simp only [addA]; rw [if_neg hfull]
    rw [hadd]
    have hfull' : (roomO (some a) == 0) = false := beq_eq_false_iff_ne.2 hfull
    rcases h with ⟨x, _⟩ | ⟨a', p', sv, row, e1, e2, h⟩
    · cases x
    obtain rfl := Option.some.inj e1
    obtain rfl : p = p' := by simpa using e2
    clear e1 e2
    have hfit := h.ok.fits
    have hmost := h.ok.most
    have hlt : (a.slots.length : Int) < a.room := by omega
    have HF := Lib.hid hfull; clear hfull hadd
    have HB := Lib.hid hb0; clear hb0
    obtain ⟨vad, vcap, hve, _, _⟩ := vals_form hv
    generalize hvl : s.vals.length = vl at hve
    subst hve
    go_enter Tryz.func112, Tryz.ntmps112
    go_wp2_with (go_at_call 148; refine hr.mono ?_; rintro e w1 ⟨rfl, hb1⟩)
    have hb01 := HB.out.trans (hb1.mono (by simp))
    have h1 : ArAt w1 p a F sv row := h.same (fun b hb => hb01.block b (h.lt b hb)) hb01.size
    obtain ⟨c0, c1, c2⟩ := h1.cells
    obtain ⟨sad, scap, hsv, hscap⟩ := h1.slice
    have hbox : w1.heap[w.heap.size]? = some (.cells #[.int .i64 s.kind, .slice vad vl vcap] 159 (0, 0)) := (hb1.block _ (by simp)).trans (heap_alloc_new w _)
    have x0 : w1.cell? ⟨w.heap.size, 0, none⟩ = some (.int .i64 s.kind) := by simp [World.cell?, hbox]
    have x1 : w1.cell? ⟨w.heap.size, 1, none⟩ = some (.slice vad vl vcap) := by simp [World.cell?, hbox]
    have hne : some w.heap.size ≠ sv.ownBlock := fun e => by
      have := h.lt _ (h.foots _ e.symm); omega
    have hpne : some p ≠ sv.ownBlock := fun e => by
      obtain ⟨c, hc⟩ := ownsRow_block h.own e.symm
      rw [h.blk] at hc; simp at hc
    have hfree := h1.free 1
    have hp1 := h1.lt p h1.footp
    have hw1 : w.heap.size < w1.heap.size := by have := hb1.size; simp at this; omega
    have H1 := Lib.hid h1; clear h1
    have HV := Lib.hid hvl; clear hvl
    have HX := Lib.hid hbox; clear hbox
    have HN := Lib.hid hne; clear hne
    have HP := Lib.hid hpne; clear hpne
    subst hsv
    go_region_law (refine step_append_lies _ (by rfl) _ _ _ (by rfl) 0 159 i0 _ 2 32 Tryz.underlying126 hi hz0 hz1 hz2 rfl (by omega) _ a.slots.length row (by rfl) ((H1.out.own.alloc _).drew) ⟨w1.heap.size, 0, none⟩ 1 1 [.int .i64 s.kind, .slice vad vl vcap] (by rfl) (by rfl) (World.news_of_block (cs := #[.int .i64 s.kind, .slice vad vl vcap]) (t := 159) (fr := (0, 0)) (heap_alloc_new w1 _)) (by simp [Value.oneCell']) (by omega) (by unfold maxLen; omega) (by omega) (by simp) (w1.heap.size + 1) (by simp) ?_; intro g cap w2 hown2 hgrow hat hlt2; have y1 := (hgrow.cell_far ⟨p, 1, none⟩ (by simp; omega) HP.out); have y2 := (hgrow.frozen_far ⟨p, 1, none⟩ (by simp; omega) HP.out); simp only [World.cell?_drew] at y1)
    all_goals go_wp2
    all_goals go_ret2
    all_goals
      have bW : Below w1.heap.size w1 ((w1.alloc (.cells #[.int .i64 s.kind, .slice vad vl vcap] 159)).drew) := ((Below.refl _ _).alloc (Nat.le_refl _) _).drew
      have hW : ArAt ((w1.alloc (.cells #[.int .i64 s.kind, .slice vad vl vcap] 159)).drew) p a F (.slice sad a.slots.length scap) row := H1.out.same (fun b hb => bW.block b (H1.out.lt b hb)) bW.size
      have hV := ownsRow_same (w' := (w1.alloc (.cells #[.int .i64 s.kind, .slice vad vl vcap] 159)).drew) hv (fun b hb => by
        obtain ⟨c, hc⟩ := ownsRow_block hv hb
        have hbl := (Array.getElem?_eq_some_iff.1 hc).1
        rw [bW.block b (by omega), hb01.block b hbl])
      have hsz := bW.size
      obtain ⟨F', a1, a2, a3⟩ := hW.more hlt hcell hV hfresh hown2 hgrow (hat.imp id (fun e => by rw [e]; simp)) hlt2
      refine ⟨rfl, F', .inr ⟨_, p, _, _, rfl, rfl, a1⟩, ((Frame.of_below hb01).trans (Frame.of_below bW) (fun _ _ h => h)).trans a2 (fun _ _ h => h), fun b hb => (a3 b hb).imp id (fun h => h.imp id (fun h => ?_))⟩
      omega
end Go.Proofs.YtghjnkfocjjlnaaGreat
end
section
namespace Go.Proofs.YtghjnkfocjjlnaaGreat
set_option maxRecDepth 100000
open Go.ChangeShapes Go.WideShapes Go.ChangeAt Go.RowKit Go.Deep
/-- A slice of numbers that came in. -/
structure IntsArg (w : World) (ad : Option Addr) (c : Nat) (l : List Int) : Prop where
  reads : IntsIn w ad c l
  room : l.length ≤ c
  most : c ≤ maxLen
  wf : ∀ x ∈ l, -9223372036854775808 ≤ x ∧ x ≤ 9223372036854775807
theorem wf_bd {x : Int} (h : (Lit.int .i64 x).wf = true) : -9223372036854775808 ≤ x ∧ x ≤ 9223372036854775807 := by
  simp [Lit.wf, IntKind.min, IntKind.max, IntKind.bits, IntKind.signed] at h; exact h
theorem open_intsArg {H : Type} {enc : TypeId × Value → H} {W : World} {r : Reach} {base : Nat} {v : Value} {d : DataW H} {p : List MemPlace} (hv : Value.okWide Tryz.prog W r base 22 v)
    (h : DataW.Trod enc Tryz.prog W 0 (fun _ => true) true 22 v d p) : ∃ a c l, v = .slice a l.length c ∧ IntsArg W a c l := by
  obtain ⟨a0, len, cap, rfl⟩ := okWide_slice Tryz.underlying22 hv
  obtain ⟨fuel, hf⟩ := h
  rcases open_ints Tryz.underlying22 Tryz.underlying3 (by kernel_rfl) hf with ⟨hcs, _⟩ | ⟨x, l, c, zs, hcs, _, hl, hm, hz, _, hcell, hwz⟩
  · simp [Value.cells] at hcs
    obtain ⟨rfl, rfl, rfl⟩ := hcs
    exact ⟨none, 0, [], rfl, .inl ⟨rfl, rfl, rfl⟩, Nat.le_refl _, by decide, by simp⟩
  · simp [Value.cells] at hcs
    obtain ⟨rfl, rfl, rfl⟩ := hcs
    have hz' : zs.length = cap := by simpa using hz
    have hlen : (zs.take len).length = len := by rw [List.length_take]; omega
    refine ⟨some x, cap, zs.take len, by rw [hlen], .inr ⟨x, rfl, fun j hj => ?_⟩, by omega, hm, fun y hy => wf_bd (hwz y (List.mem_of_mem_take hy))⟩
    rw [hcell j (by omega), List.getD_eq_getElem?_getD, List.getElem?_eq_getElem (by omega), Option.getD_some, List.getElem_take]
/-- A slice of pairs: how it lies. -/
structure PIn (w : World) (ad : Option Addr) (c : Nat) (l : List Pr) : Prop where
  at_ : l = [] ∨ ∃ b off, ad = some ⟨b, off, none⟩ ∧ ∀ j (hj : j < l.length), w.cell? ⟨b, off + j * 2, none⟩ = some (.int .i64 (l[j]).1) ∧ w.cell? ⟨b, off + j * 2 + 1, none⟩ = some (.int .i64 (l[j]).2)
  room : l.length ≤ c
  most : c ≤ maxLen
theorem open_intArg {H : Type} {enc : TypeId × Value → H} {W : World} {r : Reach} {base : Nat} {v : Value} {d : DataW H} {p : List MemPlace} (hv : Value.okWide Tryz.prog W r base 3 v)
    (h : DataW.Trod enc Tryz.prog W 0 (fun _ => true) true 3 v d p) : ∃ x : Int, v = .int .i64 x ∧ (-9223372036854775808 ≤ x ∧ x ≤ 9223372036854775807) := by
  obtain ⟨x, rfl, _, _, wx⟩ := open_int Tryz.underlying3 hv h
  exact ⟨x, rfl, wf_bd wx⟩
end Go.Proofs.YtghjnkfocjjlnaaGreat
end
section
namespace Go.Proofs.YtghjnkfocjjlnaaGreat
set_option maxRecDepth 100000
open Go.ChangeShapes Go.WideShapes Go.ChangeAt Go.RowKit Go.Deep
def bd6 (x : Int) : Prop := -9223372036854775808 ≤ x ∧ x ≤ 9223372036854775807
theorem open_intCell6 {H : Type} {enc : TypeId × Value → H} {W : World} {fuel : Nat} {v : Value} {y : DataW H × List MemPlace} (hf : DataW.trod enc Tryz.prog W 0 (fun _ => true) true fuel 3 [v] = some y) : ∃ x : Int, v = .int .i64 x ∧ bd6 x := by
  obtain ⟨x, e0, _, wx⟩ := DataW.trod_int Tryz.underlying3 hf
  simp at e0
  exact ⟨x, e0, wf_bd wx⟩
theorem open_policyArg {H : Type} {enc : TypeId × Value → H} {W : World} {r : Reach} {base : Nat} {v : Value} {d : DataW H} {p : List MemPlace} (hv : Value.okWide Tryz.prog W r base 24 v)
    (h : DataW.Trod enc Tryz.prog W 0 (fun _ => true) true 24 v d p) : ∃ a b c e f : Int, v = .agg #[.int .i64 a, .int .i64 b, .int .i64 c, .int .i64 e, .int .i64 f] ∧ bd6 a ∧ bd6 b ∧ bd6 c ∧ bd6 e ∧ bd6 f := by
  obtain ⟨cs, rfl, _⟩ := okWide_struct Tryz.underlying24 hv
  obtain ⟨fuel, hf⟩ := h
  obtain ⟨xs, n, _, _, hl, hlen, hg⟩ := DataW.trod_struct Tryz.underlying24 hf
  obtain ⟨L⟩ := cs
  have hl5 : L.length = 5 := by simpa [Value.cells] using hl.trans (by kernel_rfl)
  have hint : Tryz.prog.cellsOf 3 = 1 := by kernel_rfl
  match L, hl5, xs, hlen with
  | [v0, v1, v2, v3, v4], _, [y0, y1, y2, y3, y4], _ =>
    have g0 := hg 0 _ rfl
    have g1 := hg 1 _ rfl
    have g2 := hg 2 _ rfl
    have g3 := hg 3 _ rfl
    have g4 := hg 4 _ rfl
    simp [hint, Value.cells] at g0 g1 g2 g3 g4
    obtain ⟨x0, rfl, b0⟩ := open_intCell6 g0
    obtain ⟨x1, rfl, b1⟩ := open_intCell6 g1
    obtain ⟨x2, rfl, b2⟩ := open_intCell6 g2
    obtain ⟨x3, rfl, b3⟩ := open_intCell6 g3
    obtain ⟨x4, rfl, b4⟩ := open_intCell6 g4
    exact ⟨x0, x1, x2, x3, x4, rfl, b0, b1, b2, b3, b4⟩
end Go.Proofs.YtghjnkfocjjlnaaGreat
end
section
namespace Go.Proofs.YtghjnkfocjjlnaaGreat
set_option maxRecDepth 100000
open Go.RowKit
/-- Behind a call: the arena is A' now, and nothing else has turned. -/
def Made (F : Nat → Prop) (w : World) (po : Option Addr) (A' : OA) (w' : World) : Prop :=
  ∃ F', OAt w' po A' F' ∧ Frame F w w' ∧ ∀ b, F' b → F b ∨ w.heap.size ≤ b
theorem Made.of_below {F : Nat → Prop} {w w' : World} {po : Option Addr} {A : OA} (h : OAt w po A F) (hb : Below w.heap.size w w') : Made F w po A w' :=
  ⟨F, h.below hb, Frame.of_below hb, fun _ hb => .inl hb⟩
theorem Made.trans {F F' : Nat → Prop} {w w1 w2 : World} {po : Option Addr} {A : OA} (hf : Frame F w w1) (hF : ∀ b, F' b → F b ∨ w.heap.size ≤ b) (h : Made F' w1 po A w2) : Made F w po A w2 := by
  obtain ⟨F2, h1, h2, h3⟩ := h
  refine ⟨F2, h1, hf.trans h2 (fun x hx h => (hF x h).elim id (fun h => absurd h (by omega))), fun b hb => (h3 b hb).elim (fun h => hF b h) (fun h => .inr (by have := hf.size; omega))⟩
set_option maxHeartbeats 400000 in
theorem make_any {w : World} {po : Option Addr} {A : OA} {F : Nat → Prop} (h : OAt w po A F) (k : Int) {ad : Option Addr} {c : Nat} {l : List Int} (hl : IntsIn w ad c l) :
    Calls Tryz.prog 69 #[.pointer po, .int .i64 k, .slice ad l.length c] w fun e w' =>
      e = .returned (.tuple #[.int .i64 (makeO A k l).1, .int .i64 (makeO A k l).2.1]) ∧ Made F w po (makeO A k l).2.2 w' := by
  have hsame := Made.of_below h (Below.refl _ _)
  have HS := Lib.hid hsame; clear hsame
  rcases h with ⟨rfl, rfl, h0⟩ | ⟨a, p, sv, row, rfl, rfl, h⟩
  · go_enter Tryz.func69, Tryz.ntmps69
    go_wp2_with fail
    go_ret2
    exact ⟨rfl, HS.out⟩
  · by_cases hk : k < 1
    · have hm : makeO (some a) k l = (0, 1, some a) := by simp only [makeO]; rw [if_pos (.inl hk)]
      rw [hm]
      clear hm
      go_enter Tryz.func69, Tryz.ntmps69
      go_wp2_with fail
      go_ret2
      exact ⟨rfl, HS.out⟩
    · by_cases hlen : 12 < (l.length : Int)
      · have hm : makeO (some a) k l = (0, 1, some a) := by simp only [makeO]; rw [if_pos (.inr hlen)]
        rw [hm]
        clear hm
        go_enter Tryz.func69, Tryz.ntmps69
        go_wp2_with fail
        go_ret2
        exact ⟨rfl, HS.out⟩
      · have hm : makeO (some a) k l = ((addA a ⟨k, l⟩).1, (addA a ⟨k, l⟩).2.1, some (addA a ⟨k, l⟩).2.2) := by simp only [makeO]; rw [if_neg (by omega)]
        rw [hm]
        clear hm
        have hH : OAt w (some ⟨p, 0, none⟩) (some a) F := .inr ⟨a, p, sv, row, rfl, rfl, h⟩
        have HH := Lib.hid hH; clear hH
        have HL := Lib.hid hl; clear hl
        clear h HS
        go_enter Tryz.func69, Tryz.ntmps69
        go_wp2_with fail
        refine (clone_any HL.out (by omega)).mono ?_
        rintro e w1 ⟨v, rfl, hown, hb1, hfr⟩
        obtain ⟨vad, vcap, rfl, _, _⟩ := vals_form hown
        have h1 := HH.out.below hb1
        have hadd := add_any h1 (s := ⟨k, l⟩) (v := .slice vad l.length vcap) (fun e => by simp only at e; omega) hown (fun b hb hf => by have := hfr b hb; have := HH.out.lt b hf; omega)
        have HA := Lib.hid hadd; clear hadd
        have HB := Lib.hid hb1; clear hb1
        have HO := Lib.hid h1; clear h1
        have HR := Lib.hid hfr; clear hfr
        have HW := Lib.hid hown; clear hown
        go_wp2_with fail
        refine HA.out.mono ?_
        rintro e w2 ⟨rfl, F', o2, f2, g2⟩
        have HO2 := Lib.hid o2; clear o2
        have HF2 := Lib.hid f2; clear f2
        have HG2 := Lib.hid g2; clear g2
        go_wp2_with fail
        go_ret2
        refine ⟨rfl, F', HO2.out, (Frame.of_below HB.out).trans HF2.out (fun _ _ h => h), fun b hb => (HG2.out b hb).imp id (fun h => ?_)⟩
        rcases h with h | h
        · exact HR.out b h
        · have := HB.out.size; omega
set_option maxHeartbeats 400000 in
theorem cellnew_any {w : World} {po : Option Addr} {A : OA} {F : Nat → Prop} (h : OAt w po A F) (v : Int) :
    Calls Tryz.prog 68 #[.pointer po, .int .i64 v] w fun e w' =>
      e = .returned (.tuple #[.int .i64 (cellO A v).1, .int .i64 (cellO A v).2.1]) ∧ Made F w po (cellO A v).2.2 w' := by
  rcases h with ⟨rfl, rfl, h0⟩ | ⟨a, p, sv, row, rfl, rfl, h⟩
  · have HS := Lib.hid (Made.of_below (F := F) (po := none) (A := none) (.inl ⟨rfl, rfl, h0⟩) (Below.refl w.heap.size w))
    go_enter Tryz.func68, Tryz.ntmps68
    go_wp2_with fail
    go_ret2
    exact ⟨rfl, HS.out⟩
  · have hH : OAt w (some ⟨p, 0, none⟩) (some a) F := .inr ⟨a, p, sv, row, rfl, rfl, h⟩
    have hb1 : Below w.heap.size w (w.alloc (.cells #[.int .i64 v] 3)) := (Below.refl _ _).alloc (Nat.le_refl _) _
    have hown : (w.alloc (.cells #[.int .i64 v] 3)).ownsRow 0 3 1 (.slice (some ⟨w.heap.size, 0, none⟩) 1 1) 1 [.int .i64 v] := World.ownsRow_lit w _ 1 (Nat.zero_le _) (by decide) rfl
    have hadd := add_any (hH.below hb1) (s := ⟨0, [v]⟩) (v := .slice (some ⟨w.heap.size, 0, none⟩) 1 1) (fun _ => ⟨v, rfl⟩) hown (fun b hb hf => by simp [Value.ownBlock] at hb; have := h.lt b hf; omega)
    have HA := Lib.hid hadd; clear hadd
    have HB := Lib.hid hb1; clear hb1
    have HW := Lib.hid hown; clear hown
    clear h hH
    go_enter Tryz.func68, Tryz.ntmps68
    go_wp2_with fail
    refine HA.out.mono ?_
    rintro e w2 ⟨rfl, F', o2, f2, g2⟩
    have HO2 := Lib.hid o2; clear o2
    have HF2 := Lib.hid f2; clear f2
    have HG2 := Lib.hid g2; clear g2
    go_wp2_with fail
    go_ret2
    refine ⟨rfl, F', HO2.out, (Frame.of_below HB.out).trans HF2.out (fun _ _ h => h), fun b hb => (HG2.out b hb).imp id (fun h => ?_)⟩
    rcases h with h | h
    · simp [Value.ownBlock] at h; omega
    · have := HB.out.size; omega
/-- Where a cell holds what it holds. -/
structure CellAt (F : Nat → Prop) (w : World) (p : Nat) (a : Ar) (id : Int) (b : Nat) (w' : World) : Prop where
  at_ : w'.cell? ⟨b, 0, none⟩ = some (.int .i64 (holds a id))
  free : w'.frozen? ⟨b, 0, none⟩ = false
  same : Made F w (some ⟨p, 0, none⟩) (some (stepA a)) w'
  put : ∀ v, Made F w (some ⟨p, 0, none⟩) (some (putA (stepA a) id v)) (w'.setCell ⟨b, 0, none⟩ (.int .i64 v))
set_option maxHeartbeats 400000 in
theorem cell_no {w : World} {po : Option Addr} {A : OA} {F : Nat → Prop} (h : OAt w po A F) (id : Int) (hc : isCell A id = false) :
    Calls Tryz.prog 103 #[.pointer po, .int .i64 id] w fun e w' => e = .returned (.pointer none) ∧ w = w' := by
  have hh := has_any h id
  have hk := kind_any h id
  cases hb : hasB A id with
  | false =>
    rw [hb] at hh
    clear hb hk
    have HC := Lib.hid hc; clear hc
    go_enter Tryz.func103, Tryz.ntmps103
    go_wp2_with (go_at_call 104; refine hh.mono ?_; rintro e w' ⟨rfl, rfl⟩)
    go_ret
    exact ⟨rfl, rfl⟩
  | true =>
    rw [hb] at hh
    have hne : (kindO A id == 0) = false := by
      rw [beq_eq_false_iff_ne]
      cases A with
      | none => cases hb
      | some a =>
        simp only [hasB, decide_eq_true_eq] at hb
        simp only [isCell, decide_eq_false_iff_not] at hc
        simp only [kindO]
        rw [if_pos hb]
        exact fun h => hc ⟨hb.1, hb.2, h⟩
    have hne' : (kindO A id != 0) = true := by rw [bne, hne]; rfl
    clear hb
    have HC := Lib.hid hc; clear hc
    go_enter Tryz.func103, Tryz.ntmps103
    go_wp2_with (first | (go_at_call 104; refine hh.mono ?_; rintro e w' ⟨rfl, rfl⟩) | (go_at_call 59; refine hk.mono ?_; rintro e w' ⟨rfl, rfl⟩))
    go_ret
    exact ⟨rfl, rfl⟩
theorem isCell_split {A : OA} {id : Int} (h : isCell A id = true) : ∃ (a : Ar) (n : Nat), A = some a ∧ id = (n : Int) + 1 ∧ ∃ hn : n < a.slots.length, (a.slots[n]'hn).kind = 0 := by
  cases A with
  | none => cases h
  | some a =>
    simp only [isCell, decide_eq_true_eq] at h
    obtain ⟨n, rfl⟩ : ∃ n : Nat, id = (n : Int) + 1 := ⟨(id - 1).toNat, by omega⟩
    have hn : n < a.slots.length := by omega
    refine ⟨a, n, rfl, rfl, hn, ?_⟩
    rw [← kind_at hn]
    simp only [kindO]
    rw [if_pos ⟨h.1, h.2.1⟩]
    exact h.2.2
set_option maxHeartbeats 400000 in
theorem cell_yes {w : World} {po : Option Addr} {A : OA} {F : Nat → Prop} (h : OAt w po A F) (id : Int) (hc : isCell A id = true) :
    Calls Tryz.prog 103 #[.pointer po, .int .i64 id] w fun e w' => ∃ a p b, A = some a ∧ po = some ⟨p, 0, none⟩ ∧ e = .returned (.pointer (some ⟨b, 0, none⟩)) ∧ CellAt F w p a id b w' := by
  have hh := has_any h id
  have hk := kind_any h id
  obtain ⟨a, n, rfl, rfl, hn, hz⟩ := isCell_split hc
  have hb : hasB (some a) ((n : Int) + 1) = true := by simp only [hasB, decide_eq_true_eq]; omega
  rw [hb] at hh
  rw [kind_at hn, hz] at hk
  rcases h with ⟨x, _⟩ | ⟨a', p, sv, row, e1, rfl, h⟩
  · cases x
  obtain rfl := Option.some.inj e1
  clear e1 hc hb
  obtain ⟨c0, c1, c2⟩ := h.cells
  obtain ⟨g, cap, v, rfl, hcap, hFg, d0, d1, hrow, hown, hfv⟩ := h.at_ hn
  obtain ⟨y, hy⟩ := h.ok.cells _ (List.getElem_mem hn) hz
  obtain ⟨vad, vcap, rfl, hvc, hcell⟩ := vals_form hown
  obtain ⟨b, rfl, e1⟩ := hcell 0 (by rw [hy]; simp)
  have hlen : (a.slots[n]).vals.length = 1 := by rw [hy]; rfl
  have hval : (a.slots[n]).vals[0]'(by omega) = holds a ((n : Int) + 1) := by
    unfold holds slotAt
    rw [show ((n : Int) + 1 - 1).toNat = n by omega, List.getD_eq_getElem?_getD, List.getD_eq_getElem?_getD, List.getElem?_eq_getElem hn, Option.getD_some, List.getElem?_eq_getElem (by omega), Option.getD_some]
  rw [hval] at e1
  have hlen0 : (0 : Int) < ((a.slots[n]).vals.length : Int) := by omega
  have := h.ok.fits
  have := h.ok.most
  have hfree := h.free 2
  have hstep := h.step (wrap64 (a.steps + 1))
  have hgp : (⟨p, 2, none⟩ : Addr) ≠ ⟨b, 0, none⟩ := by intro e; have := congrArg Addr.off e; simp at this
  have hbF := hfv b rfl
  have cb : (w.setCell ⟨p, 2, none⟩ (.int .i64 (wrap64 (a.steps + 1)))).cell? ⟨b, 0, none⟩ = some (.int .i64 (holds a ((n : Int) + 1))) := by
    rw [World.cell?_setCell_other _ _ _ _ hgp]; exact e1
  obtain ⟨cur, hcur⟩ := ownsRow_block hown rfl
  have hbp : b ≠ p := block_ne hcur h.blk (by decide)
  have fb : (w.setCell ⟨p, 2, none⟩ (.int .i64 (wrap64 (a.steps + 1)))).frozen? ⟨b, 0, none⟩ = false := by
    have : (w.setCell ⟨p, 2, none⟩ (.int .i64 (wrap64 (a.steps + 1)))).heap[b]? = w.heap[b]? := heap_setCell_other w _ _ _ (by simpa using hbp)
    simp [World.frozen?, this, hcur]
  have fr1 := frame_setCell (F := F) (w := w) (a := ⟨p, 2, none⟩) h.footp (.int .i64 (wrap64 (a.steps + 1)))
  rw [hlen] at hrow
  have hput : ∀ x, Made F w (some ⟨p, 0, none⟩) (some (putA (stepA a) ((n : Int) + 1) x)) ((w.setCell ⟨p, 2, none⟩ (.int .i64 (wrap64 (a.steps + 1)))).setCell ⟨b, 0, none⟩ (.int .i64 x)) := by
    intro x
    have h3 := ArAt.put (a := stepA a) hstep hn hz hrow x
    have hidx : ((n : Int) + 1 - 1).toNat = n := by omega
    have h4 : putA (stepA a) ((n : Int) + 1) x = ⟨(stepA a).room, (stepA a).slots.set n ⟨0, [x]⟩, (stepA a).steps⟩ := by unfold putA; rw [hidx]
    rw [h4]
    exact ⟨F, .inr ⟨_, p, _, _, rfl, rfl, h3⟩, fr1.trans (frame_setCell hbF _) (fun _ _ h => h), fun _ hb => .inl hb⟩
  have res : CellAt F w p a ((n : Int) + 1) b (w.setCell ⟨p, 2, none⟩ (.int .i64 (wrap64 (a.steps + 1)))) := {
    at_ := cb
    free := fb
    same := ⟨F, .inr ⟨_, p, _, _, rfl, rfl, hstep⟩, fr1, fun _ hb => .inl hb⟩
    put := hput }
  have g1 : (w.setCell ⟨p, 2, none⟩ (.int .i64 (wrap64 (a.steps + 1)))).cell? ⟨g, n * 2 + 1, none⟩ = some (.slice (some ⟨b, 0, none⟩) (a.slots[n]).vals.length vcap) := by
    obtain ⟨cg, hcg⟩ := ownsRow_block h.own rfl
    have hgp : g ≠ p := block_ne hcg h.blk (by decide)
    rw [World.cell?_setCell_other _ _ _ _ (by intro e; exact hgp (congrArg Addr.block e).symm)]; exact d1
  have g2 : (w.setCell ⟨p, 2, none⟩ (.int .i64 (wrap64 (a.steps + 1)))).cell? ⟨p, 1, none⟩ = some (.slice (some ⟨g, 0, none⟩) a.slots.length cap) := by
    rw [World.cell?_setCell_other _ _ _ _ (by intro e; have := congrArg Addr.off e; simp at this)]; exact c1
  have HR := Lib.hid res
  clear res hstep fr1 cb fb hcur hbp hbF hval hlen hy hz hown hrow hcell hfv hgp e1
  go_enter Tryz.func103, Tryz.ntmps103
  go_wp2_with (first | (go_at_call 104; refine hh.mono ?_; rintro e w' ⟨rfl, rfl⟩) | (go_at_call 59; refine hk.mono ?_; rintro e w' ⟨rfl, rfl⟩))
  go_ret
  exact ⟨a, p, b, rfl, rfl, rfl, HR.out⟩
def loadO : OA → Int → Int × OA
  | none, _ => (0, none)
  | some a, id => if isCell (some a) id = true then (holds a id, some (stepA a)) else (0, some a)
def swapO : OA → Int → Int → Int → Bool × OA
  | none, _, _, _ => (false, none)
  | some a, id, old, now => if isCell (some a) id = true then (if holds a id = old then (true, some (putA (stepA a) id now)) else (false, some (stepA a))) else (false, some a)
def onceO : OA → Int → Int → Bool × OA
  | none, _, _ => (false, none)
  | some a, id, v => if isCell (some a) id = true then (if holds a id = 0 ∧ v ≠ 0 then (true, some (putA (stepA a) id v)) else (false, some (stepA a))) else (false, some a)
theorem load_no {A : OA} {id : Int} (h : isCell A id = false) : loadO A id = (0, A) := by cases A with | none => rfl | some a => simp [loadO, h]
theorem swap_no {A : OA} {id old now : Int} (h : isCell A id = false) : swapO A id old now = (false, A) := by cases A with | none => rfl | some a => simp [swapO, h]
theorem once_no {A : OA} {id v : Int} (h : isCell A id = false) : onceO A id v = (false, A) := by cases A with | none => rfl | some a => simp [onceO, h]
theorem cell_yes1 {w : World} {p : Nat} {a : Ar} {F : Nat → Prop} (h : OAt w (some ⟨p, 0, none⟩) (some a) F) (id : Int) (hc : isCell (some a) id = true) :
    Calls Tryz.prog 103 #[.pointer (some ⟨p, 0, none⟩), .int .i64 id] w fun e w' => ∃ b, e = .returned (.pointer (some ⟨b, 0, none⟩)) ∧ CellAt F w p a id b w' :=
  (cell_yes h id hc).mono fun e w' ⟨a', p', b, h1, h2, h3, h4⟩ => by
    obtain rfl := Option.some.inj h1
    obtain rfl : p = p' := by simpa using h2
    exact ⟨b, h3, h4⟩
set_option maxHeartbeats 400000 in
theorem load_any {w : World} {po : Option Addr} {A : OA} {F : Nat → Prop} (h : OAt w po A F) (id : Int) :
    Calls Tryz.prog 58 #[.pointer po, .int .i64 id] w fun e w' => e = .returned (.int .i64 (loadO A id).1) ∧ Made F w po (loadO A id).2 w' := by
  cases hc : isCell A id with
  | false =>
    have hh := cell_no h id hc
    rw [load_no hc]
    have HS := Lib.hid (Made.of_below h (Below.refl _ _)); clear hc
    go_enter Tryz.func58, Tryz.ntmps58
    go_wp2_with (go_at_call 103; refine hh.mono ?_; rintro e w' ⟨rfl, rfl⟩)
    go_ret
    exact ⟨rfl, HS.out⟩
  | true =>
    rcases h with ⟨rfl, _⟩ | ⟨a, p, sv, row, rfl, rfl, h⟩
    · cases hc
    have hh := cell_yes1 (F := F) (.inr ⟨a, p, sv, row, rfl, rfl, h⟩) id hc
    have HC := Lib.hid hc; clear hc h
    have hv : loadO (some a) id = (holds a id, some (stepA a)) := by simp [loadO, HC.out]
    rw [hv]
    clear hv
    go_enter Tryz.func58, Tryz.ntmps58
    go_wp2_with (go_at_call 103; refine hh.mono ?_; rintro e w1 ⟨b, rfl, hcell⟩; have hat := hcell.at_; have hfree := hcell.free; have HL := Lib.hid hcell; clear hcell)
    go_ret
    exact ⟨rfl, HL.out.same⟩
set_option maxHeartbeats 400000 in
theorem swap_any {w : World} {po : Option Addr} {A : OA} {F : Nat → Prop} (h : OAt w po A F) (id old now : Int) :
    Calls Tryz.prog 132 #[.pointer po, .int .i64 id, .int .i64 old, .int .i64 now] w fun e w' => e = .returned (.bool (swapO A id old now).1) ∧ Made F w po (swapO A id old now).2 w' := by
  cases hc : isCell A id with
  | false =>
    have hh := cell_no h id hc
    rw [swap_no hc]
    have HS := Lib.hid (Made.of_below h (Below.refl _ _)); clear hc
    go_enter Tryz.func132, Tryz.ntmps132
    go_wp2_with (go_at_call 103; refine hh.mono ?_; rintro e w' ⟨rfl, rfl⟩)
    go_ret
    exact ⟨rfl, HS.out⟩
  | true =>
    rcases h with ⟨rfl, _⟩ | ⟨a, p, sv, row, rfl, rfl, h⟩
    · cases hc
    have hh := cell_yes1 (F := F) (.inr ⟨a, p, sv, row, rfl, rfl, h⟩) id hc
    have HC := Lib.hid hc; clear hc h
    by_cases ho : holds a id = old
    · subst ho
      have hv : swapO (some a) id (holds a id) now = (true, some (putA (stepA a) id now)) := by simp [swapO, HC.out]
      rw [hv]
      clear hv
      go_enter Tryz.func132, Tryz.ntmps132
      go_wp2_with (go_at_call 103; refine hh.mono ?_; rintro e w1 ⟨b, rfl, hcell⟩; have hat := hcell.at_; have hfree := hcell.free; have HL := Lib.hid hcell; clear hcell)
      go_ret
      exact ⟨rfl, HL.out.put now⟩
    · have ho1 : (holds a id == old) = false := beq_eq_false_iff_ne.2 ho
      have ho2 : (holds a id != old) = true := by rw [bne, ho1]; rfl
      have hv : swapO (some a) id old now = (false, some (stepA a)) := by simp [swapO, HC.out, ho]
      rw [hv]
      clear ho
      clear hv
      go_enter Tryz.func132, Tryz.ntmps132
      go_wp2_with (go_at_call 103; refine hh.mono ?_; rintro e w1 ⟨b, rfl, hcell⟩; have hat := hcell.at_; have hfree := hcell.free; have HL := Lib.hid hcell; clear hcell)
      go_ret
      exact ⟨rfl, HL.out.same⟩
set_option maxHeartbeats 400000 in
theorem once_any {w : World} {po : Option Addr} {A : OA} {F : Nat → Prop} (h : OAt w po A F) (id v : Int) :
    Calls Tryz.prog 70 #[.pointer po, .int .i64 id, .int .i64 v] w fun e w' => e = .returned (.bool (onceO A id v).1) ∧ Made F w po (onceO A id v).2 w' := by
  cases hc : isCell A id with
  | false =>
    have hh := cell_no h id hc
    rw [once_no hc]
    have HS := Lib.hid (Made.of_below h (Below.refl _ _)); clear hc
    go_enter Tryz.func70, Tryz.ntmps70
    go_wp2_with (go_at_call 103; refine hh.mono ?_; rintro e w' ⟨rfl, rfl⟩)
    go_ret
    exact ⟨rfl, HS.out⟩
  | true =>
    rcases h with ⟨rfl, _⟩ | ⟨a, p, sv, row, rfl, rfl, h⟩
    · cases hc
    have hh := cell_yes1 (F := F) (.inr ⟨a, p, sv, row, rfl, rfl, h⟩) id hc
    have HC := Lib.hid hc; clear hc h
    by_cases ho : holds a id = 0
    · by_cases hz : v = 0
      · subst hz
        have hv : onceO (some a) id 0 = (false, some (stepA a)) := by simp [onceO, HC.out]
        rw [hv]
        have HO := Lib.hid ho; clear ho
        clear hv
        go_enter Tryz.func70, Tryz.ntmps70
        go_wp2_with (go_at_call 103; refine hh.mono ?_; rintro e w1 ⟨b, rfl, hcell⟩; have hat := hcell.at_; rw [HO.out] at hat; have hfree := hcell.free; have HL := Lib.hid hcell; clear hcell)
        go_ret
        exact ⟨rfl, HL.out.same⟩
      · have hz1 : (v == 0) = false := beq_eq_false_iff_ne.2 hz
        have hv : onceO (some a) id v = (true, some (putA (stepA a) id v)) := by simp [onceO, HC.out, ho, hz]
        rw [hv]
        have HO := Lib.hid ho; clear ho hz
        clear hv
        go_enter Tryz.func70, Tryz.ntmps70
        go_wp2_with (go_at_call 103; refine hh.mono ?_; rintro e w1 ⟨b, rfl, hcell⟩; have hat := hcell.at_; rw [HO.out] at hat; have hfree := hcell.free; have HL := Lib.hid hcell; clear hcell)
        go_ret
        exact ⟨rfl, HL.out.put v⟩
    · have ho1 : (holds a id == 0) = false := beq_eq_false_iff_ne.2 ho
      have ho2 : (holds a id != 0) = true := by rw [bne, ho1]; rfl
      have hv : onceO (some a) id v = (false, some (stepA a)) := by simp [onceO, HC.out, ho]
      rw [hv]
      clear ho
      clear hv
      go_enter Tryz.func70, Tryz.ntmps70
      go_wp2_with (go_at_call 103; refine hh.mono ?_; rintro e w1 ⟨b, rfl, hcell⟩; have hat := hcell.at_; have hfree := hcell.free; have HL := Lib.hid hcell; clear hcell)
      go_ret
      exact ⟨rfl, HL.out.same⟩
end Go.Proofs.YtghjnkfocjjlnaaGreat
end
section
namespace Go.Proofs.YtghjnkfocjjlnaaGreat
set_option maxRecDepth 100000
open Go.RowKit
theorem blk_below {w w' : World} {B b : Nat} {o : Obj} (hb : w.heap[b]? = some o) (h : Below B w w') (hB : b < B) : w'.heap[b]? = some o := (h.block b hB).trans hb
theorem cell_blk {w : World} {b i : Nat} {cs : Array Value} {t : TypeId} {fr : Nat × Nat} {v : Value} (hb : w.heap[b]? = some (.cells cs t fr)) (hv : cs[i]? = some v) : w.cell? ⟨b, i, none⟩ = some v := by
  simp [World.cell?, hb, hv]
set_option maxHeartbeats 1000000 in
theorem get_any {w : World} {po : Option Addr} {A : OA} {F : Nat → Prop} (h : OAt w po A F) (t : Int) :
    Calls Tryz.prog 111 #[.pointer po, .int .i64 t] w fun e w' =>
      e = .returned (.tuple #[.agg #[.int .i64 (getN A t).key, .int .i64 (getN A t).val, .int .i64 (getN A t).left, .int .i64 (getN A t).right, .int .i64 (getN A t).size, .int .i64 (getN A t).high], .bool (isN A t)]) ∧ Below w.heap.size w w' := by
  have hk := fun (w' : World) (h' : OAt w' po A F) => kind_any h' t
  have h1 := h.alloc (.cells #[.int .i64 0, .int .i64 0, .int .i64 0, .int .i64 0, .int .i64 0, .int .i64 0] 177)
  by_cases h0 : kindO A t = 1
  · have hn : getN A t = ⟨valO A t 0, valO A t 1, valO A t 2, valO A t 3, valO A t 4, valO A t 5⟩ := by unfold getN; rw [if_pos h0]
    have hb : isN A t = true := by unfold isN; rw [h0]; rfl
    rw [hn, hb]
    rw [h0] at hk
    clear hn hb h0
    have H1 := Lib.hid h1; clear h1
    have HK := Lib.hid hk; clear hk
    go_enter Tryz.func111, Tryz.ntmps111
    go_wp2_with (first | (go_at_call 59; refine (HK.out _ H1.out).mono ?_; rintro e w' ⟨rfl, rfl⟩) | (go_at_call 101; refine (val_any H1.out _ _).mono ?_; rintro e w' ⟨rfl, rfl⟩))
    refine bodyPost_ret (v := .tuple #[.agg #[.int .i64 (valO A t 0), .int .i64 (valO A t 1), .int .i64 (valO A t 2), .int .i64 (valO A t 3), .int .i64 (valO A t 4), .int .i64 (valO A t 5)], .bool true]) (by simp [results, Tryz.results111, go_sem]) rfl ⟨rfl, ?_⟩
    exact (Below.refl _ _).alloc (Nat.le_refl _) _
  · have hn : getN A t = ⟨0, 0, 0, 0, 0, 0⟩ := by unfold getN; rw [if_neg h0]
    have hb : isN A t = false := by unfold isN; rw [decide_eq_false h0]
    have ht : (kindO A t == 1) = false := beq_eq_false_iff_ne.2 h0
    have ht2 : (kindO A t != 1) = true := by rw [bne, ht]; rfl
    rw [hn, hb]
    clear hn hb h0
    have H1 := Lib.hid h1; clear h1
    have HK := Lib.hid hk; clear hk
    go_enter Tryz.func111, Tryz.ntmps111
    go_wp2_with (go_at_call 59; refine (HK.out _ H1.out).mono ?_; rintro e w' ⟨rfl, rfl⟩)
    refine bodyPost_ret (v := .tuple #[.agg #[.int .i64 0, .int .i64 0, .int .i64 0, .int .i64 0, .int .i64 0, .int .i64 0], .bool false]) (by simp [results, Tryz.results111, go_sem]) rfl ⟨rfl, ?_⟩
    exact (Below.refl _ _).alloc (Nat.le_refl _) _
set_option maxHeartbeats 400000 in
theorem holds_any (k v l r s h key : Int) (w : World) :
    Calls Tryz.prog 139 #[.agg #[.int .i64 k, .int .i64 v, .int .i64 l, .int .i64 r, .int .i64 s, .int .i64 h], .int .i64 key] w fun e w' => e = .returned (.bool (k == key)) ∧ Below w.heap.size w w' := by
  go_enter Tryz.func139, Tryz.ntmps139
  go_wp2
  go_ret
  exact ⟨rfl, (Below.refl _ _).alloc (Nat.le_refl _) _⟩
end Go.Proofs.YtghjnkfocjjlnaaGreat
end
