/- The walks of Put and Add. -/
import Derived.Test.YtghjnkfocjjlnaaGreatT13
set_option linter.unusedSimpArgs false
set_option linter.unusedVariables false
namespace Go.Proofs.YtghjnkfocjjlnaaGreat
set_option maxRecDepth 100000
open Go.RowKit
set_option linter.unusedSimpArgs false
set_option linter.unusedVariables false
set_option maxRecDepth 100000 in
set_option maxHeartbeats 4000000 in
theorem putO_any {w : World} {po : Option Addr} {A : OA} {F : Nat → Prop} (h : OAt w po A F) (t k v : Int) :
    Calls Tryz.prog 127 #[.pointer po, .int .i64 t, .agg #[.int .i64 k, .int .i64 v]] w fun e w' => e = .returned (.tuple #[.int .i64 (putO A t k v).1, .int .i64 (putO A t k v).2.1, .bool (putO A t k v).2.2.1, .int .i64 (putO A t k v).2.2.2.1]) ∧ Made F w po (putO A t k v).2.2.2.2 w' := by
  have hb0 : Below w.heap.size w (w.alloc (.cells #[.int .i64 k, .int .i64 v] 43)) := (Below.refl _ _).alloc (Nat.le_refl _) _
  have his := is_put (h.below hb0) t
  have HH := Lib.hid h
  have HLT := Lib.hid h.lt
  have HB0 := Lib.hid hb0
  have E0 := Lib.hid (heap_alloc_new w (.cells #[.int .i64 k, .int .i64 v] 43))
  clear h hb0
  by_cases hi : isT A t = false
  · rw [show putO A t k v = (0, 0, false, 1, A) by unfold putO; rw [if_pos hi]]
    rw [hi] at his
    have HI := Lib.hid his; clear his hi
    go_enter Tryz.func127, Tryz.ntmps127
    go_wp2_with fail
    refine HI.out.mono ?_
    rintro e w1 ⟨rfl, b1⟩
    have z1 := b1.size
    simp at z1
    have E1 := Lib.hid ((b1.block w.heap.size (by simp)).trans E0.out)
    have B1 := Lib.hid (HB0.out.trans (b1.mono HB0.out.size)); clear b1
    go_wp2_with fail
    refine bodyPost_ret (v := .tuple #[.int .i64 0, .int .i64 0, .bool false, .int .i64 1]) (by simp [results, Tryz.results127, go_sem]) rfl ⟨rfl, Made.of_below HH.out B1.out⟩
  · have hi2 : isT A t = true := by simpa using hi
    rw [hi2] at his
    have HI := Lib.hid his; clear his
    obtain ⟨Q, hQ⟩ : ∃ Q, Q = putO A t k v := ⟨_, rfl⟩
    rw [← hQ]
    unfold putO at hQ
    rw [if_neg hi] at hQ
    have hg := fun w' (hb : Below w.heap.size w w') => lookGet_any (HH.out.below hb) (fuel t) t k (lt_fuel t)
    have hc := fun w' (hb : Below w.heap.size w w') => put_any (fuel t) (by unfold fuel; omega) (HH.out.below hb) t k v (lt_fuel t)
    generalize lgF (fuel t) A t k = G at hg hQ
    generalize putF (fuel t) A t k v = P at hc hQ
    obtain ⟨gv, gw⟩ := G
    obtain ⟨u, pe, PA⟩ := P
    simp only [] at hg hc hQ
    have HG := Lib.hid hg
    have HC := Lib.hid hc
    have HQ := Lib.hid hQ
    clear hg hc hQ hi hi2
    go_enter Tryz.func127, Tryz.ntmps127
    go_wp2_with fail
    refine HI.out.mono ?_
    rintro e w1 ⟨rfl, b1⟩
    have z1 := b1.size
    simp at z1
    have E1 := Lib.hid ((b1.block w.heap.size (by simp)).trans E0.out)
    have B1 := Lib.hid (HB0.out.trans (b1.mono HB0.out.size)); clear b1
    have p0 := cell_blk (i := 0) E1.out rfl
    have p1 := cell_blk (i := 1) E1.out rfl
    go_wp2_with fail
    refine (HG.out _ B1.out).mono ?_
    rintro e w2 ⟨rfl, b2⟩
    have E2 := Lib.hid ((b2.block w.heap.size (by omega)).trans E1.out)
    have B2 := Lib.hid (B1.out.trans (b2.mono B1.out.size)); clear b2 p0 p1
    have p0 := cell_blk (i := 0) E2.out rfl
    have p1 := cell_blk (i := 1) E2.out rfl
    go_wp2_with fail
    refine (HC.out _ B2.out).mono ?_
    rintro e w3 ⟨rfl, m3⟩
    obtain ⟨F3, o3, g3⟩ := Made.out m3
    have G3 := Lib.hid ((Grow.of_below (F := F) B2.out).trans g3)
    have O3 := Lib.hid o3
    clear g3 o3 m3
    clear p0 p1
    have hq := HQ.out
    by_cases h0 : pe = 0
    · subst h0
      rw [if_pos rfl] at hq
      subst hq
      go_wp2_with fail
      refine bodyPost_ret (v := .tuple #[.int .i64 u, .int .i64 gv, .bool gw, .int .i64 0]) (by simp [results, Tryz.results127, go_sem]) rfl ⟨rfl, Made.of_grow G3.out O3.out⟩
    · rw [if_neg h0] at hq
      subst hq
      have q0 : (pe == 0) = false := beq_eq_false_iff_ne.2 h0
      have q1 : (pe != 0) = true := by rw [bne, q0]; rfl
      clear h0
      go_wp2_with fail
      refine bodyPost_ret (v := .tuple #[.int .i64 0, .int .i64 0, .bool false, .int .i64 pe]) (by simp [results, Tryz.results127, go_sem]) rfl ⟨rfl, Made.of_grow G3.out O3.out⟩
set_option maxRecDepth 100000 in
set_option maxHeartbeats 4000000 in
theorem addO_any {w : World} {po : Option Addr} {A : OA} {F : Nat → Prop} (h : OAt w po A F) (t k v : Int) :
    Calls Tryz.prog 128 #[.pointer po, .int .i64 t, .agg #[.int .i64 k, .int .i64 v]] w fun e w' => e = .returned (.tuple #[.int .i64 (addO A t k v).1, .int .i64 (addO A t k v).2.1, .bool (addO A t k v).2.2.1, .int .i64 (addO A t k v).2.2.2.1]) ∧ Made F w po (addO A t k v).2.2.2.2 w' := by
  have hb0 : Below w.heap.size w (w.alloc (.cells #[.int .i64 k, .int .i64 v] 43)) := (Below.refl _ _).alloc (Nat.le_refl _) _
  have his := is_put (h.below hb0) t
  have HH := Lib.hid h
  have HLT := Lib.hid h.lt
  have HB0 := Lib.hid hb0
  have E0 := Lib.hid (heap_alloc_new w (.cells #[.int .i64 k, .int .i64 v] 43))
  clear h hb0
  by_cases hi : isT A t = false
  · rw [show addO A t k v = (0, 0, false, 1, A) by unfold addO; rw [if_pos hi]]
    rw [hi] at his
    have HI := Lib.hid his; clear his hi
    go_enter Tryz.func128, Tryz.ntmps128
    go_wp2_with fail
    refine HI.out.mono ?_
    rintro e w1 ⟨rfl, b1⟩
    have z1 := b1.size
    simp at z1
    have E1 := Lib.hid ((b1.block w.heap.size (by simp)).trans E0.out)
    have B1 := Lib.hid (HB0.out.trans (b1.mono HB0.out.size)); clear b1
    go_wp2_with fail
    refine bodyPost_ret (v := .tuple #[.int .i64 0, .int .i64 0, .bool false, .int .i64 1]) (by simp [results, Tryz.results128, go_sem]) rfl ⟨rfl, Made.of_below HH.out B1.out⟩
  · have hi2 : isT A t = true := by simpa using hi
    rw [hi2] at his
    have HI := Lib.hid his; clear his
    obtain ⟨Q, hQ⟩ : ∃ Q, Q = addO A t k v := ⟨_, rfl⟩
    rw [← hQ]
    unfold addO at hQ
    rw [if_neg hi] at hQ
    have hg := fun w' (hb : Below w.heap.size w w') => lookGet_any (HH.out.below hb) (fuel t) t k (lt_fuel t)
    have hc := fun w' (hb : Below w.heap.size w w') => putO_any (HH.out.below hb) t k v
    generalize lgF (fuel t) A t k = G at hg hQ
    generalize putO A t k v = P at hc hQ
    obtain ⟨gv, gw⟩ := G
    obtain ⟨u, pv, pw, pe, PA⟩ := P
    simp only [] at hg hc hQ
    have HG := Lib.hid hg
    have HC := Lib.hid hc
    have HQ := Lib.hid hQ
    clear hg hc hQ hi hi2
    go_enter Tryz.func128, Tryz.ntmps128
    go_wp2_with fail
    refine HI.out.mono ?_
    rintro e w1 ⟨rfl, b1⟩
    have z1 := b1.size
    simp at z1
    have E1 := Lib.hid ((b1.block w.heap.size (by simp)).trans E0.out)
    have B1 := Lib.hid (HB0.out.trans (b1.mono HB0.out.size)); clear b1
    have p0 := cell_blk (i := 0) E1.out rfl
    have p1 := cell_blk (i := 1) E1.out rfl
    go_wp2_with fail
    refine (HG.out _ B1.out).mono ?_
    rintro e w2 ⟨rfl, b2⟩
    have E2 := Lib.hid ((b2.block w.heap.size (by omega)).trans E1.out)
    have B2 := Lib.hid (B1.out.trans (b2.mono B1.out.size)); clear b2 p0 p1
    have hq := HQ.out
    cases gw with
    | true =>
      rw [if_pos rfl] at hq
      subst hq
      go_wp2_with fail
      refine bodyPost_ret (v := .tuple #[.int .i64 t, .int .i64 gv, .bool true, .int .i64 0]) (by simp [results, Tryz.results128, go_sem]) rfl ⟨rfl, Made.of_below HH.out B2.out⟩
    | false =>
      rw [if_neg (by decide)] at hq
      subst hq
      have p0 := cell_blk (i := 0) E2.out rfl
      have p1 := cell_blk (i := 1) E2.out rfl
      go_wp2_with fail
      refine (HC.out _ B2.out).mono ?_
      rintro e w3 ⟨rfl, m3⟩
      obtain ⟨F3, o3, g3⟩ := Made.out m3
      have G3 := Lib.hid ((Grow.of_below (F := F) B2.out).trans g3)
      have O3 := Lib.hid o3
      clear g3 o3 m3
      clear p0 p1
      go_wp2_with fail
      refine bodyPost_ret (v := .tuple #[.int .i64 u, .int .i64 pv, .bool pw, .int .i64 pe]) (by simp [results, Tryz.results128, go_sem]) rfl ⟨rfl, Made.of_grow G3.out O3.out⟩
end Go.Proofs.YtghjnkfocjjlnaaGreat
