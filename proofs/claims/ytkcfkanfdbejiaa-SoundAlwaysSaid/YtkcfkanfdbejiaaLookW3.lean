/- The walks of look's Nth, Min, Max. -/
import Derived.Test.YtkcfkanfdbejiaaLookW2
namespace Go.Proofs.Ytkcfkanfdbejiaa
set_option maxRecDepth 100000
open Go.RowKit
set_option linter.unusedSimpArgs false
set_option linter.unusedVariables false

def nthO (N : Nat) (A : OA) (t i : Int) : Int × Int × Bool := if i < 0 ∨ (getN A t).size ≤ i then (0, 0, false) else lnF N A t i
def set2 (w : World) (b : Nat) (v0 v1 : Value) : World := (w.setCell ⟨b, 0, none⟩ v0).setCell ⟨b, 1, none⟩ v1
theorem set2_heap {w : World} {b : Nat} {c0 c1 : Value} {t : TypeId} (v0 v1 : Value) (h : w.heap[b]? = some (.cells #[c0, c1] t (0, 0))) : (set2 w b v0 v1).heap[b]? = some (.cells #[v0, v1] t (0, 0)) := by
  have h0 := heap_setCell_same w b 0 _ _ v0 h
  exact heap_setCell_same _ b 1 _ _ v1 h0

set_option maxRecDepth 100000 in
set_option maxHeartbeats 4000000 in
theorem lookNth_any {w : World} {po : Option Addr} {A : OA} {F : Nat → Prop} (h : OAt w po A F) (N : Nat) (t i : Int) (hN : t < N) :
    Calls Try.prog 76 #[.pointer po, .int .i64 t, .int .i64 i] w fun e w' => e = .returned (.tuple #[.agg #[.int .i64 (nthO N A t i).1, .int .i64 (nthO N A t i).2.1], .bool (nthO N A t i).2.2]) ∧ Below w.heap.size w w' := by
  have HH := Lib.hid h
  have HS := Lib.hid (fun w' (hb : Below w.heap.size w w') (x : Int) => lsize_any (h.below hb) x)
  clear h
  have B0 := Lib.hid ((Below.refl w.heap.size w).alloc (Nat.le_refl _) (.cells #[.int .i64 0, .int .i64 0] 24))
  have D0 := Lib.hid (heap_alloc_new w (.cells #[.int .i64 0, .int .i64 0] 24))
  by_cases hneg : i < 0
  · have HE := Lib.hid (show nthO N A t i = (0, 0, false) by unfold nthO; rw [if_pos (.inl hneg)])
    have y0 := cell_blk (i := 0) D0.out rfl
    have y1 := cell_blk (i := 1) D0.out rfl
    have f0 := free_blk (i := 0) D0.out
    have f1 := free_blk (i := 1) D0.out
    have K2 := Lib.hid (set2_heap (.int .i64 0) (.int .i64 0) D0.out)
    go_enter Try.func76, Try.ntmps76
    go_wp2_with fail
    have k0 := cell_blk (i := 0) K2.out rfl
    have k1 := cell_blk (i := 1) K2.out rfl
    unfold set2 at k0 k1
    refine bodyPost_ret (v := .tuple #[.agg #[.int .i64 0, .int .i64 0], .bool false]) (by simp [results, Try.results76, go_sem, k0, k1]) rfl ⟨by rw [HE.out], ?_⟩
    first | exact ((B0.out.setCell (p := ⟨w.heap.size, 0, none⟩) (Nat.le_refl _) _).setCell (p := ⟨w.heap.size, 1, none⟩) (Nat.le_refl _) _) | exact B0.out | exact (Below.refl w.heap.size w).alloc (Nat.le_refl _) _
  · go_enter Try.func76, Try.ntmps76
    go_wp2_with fail
    refine (HS.out _ B0.out t).mono ?_
    rintro e w0 ⟨rfl, b0⟩
    have D := Lib.hid ((b0.block w.heap.size (by simp)).trans D0.out)
    have B := Lib.hid (B0.out.trans (b0.mono B0.out.size)); clear b0
    by_cases hbig : (getN A t).size ≤ i
    · have HE := Lib.hid (show nthO N A t i = (0, 0, false) by unfold nthO; rw [if_pos (.inr hbig)])
      have y0 := cell_blk (i := 0) D.out rfl
      have y1 := cell_blk (i := 1) D.out rfl
      have f0 := free_blk (i := 0) D.out
      have f1 := free_blk (i := 1) D.out
      have K2 := Lib.hid (set2_heap (.int .i64 0) (.int .i64 0) D.out)
      go_wp2_with fail
      have k0 := cell_blk (i := 0) K2.out rfl
      have k1 := cell_blk (i := 1) K2.out rfl
      unfold set2 at k0 k1
      refine bodyPost_ret (v := .tuple #[.agg #[.int .i64 0, .int .i64 0], .bool false]) (by simp [results, Try.results76, go_sem, k0, k1]) rfl ⟨by rw [HE.out], ?_⟩
      exact ((B.out.setCell (p := ⟨w.heap.size, 0, none⟩) (Nat.le_refl _) _).setCell (p := ⟨w.heap.size, 1, none⟩) (Nat.le_refl _) _)
    · have HE0 := Lib.hid (show nthO N A t i = lnF N A t i by unfold nthO; rw [if_neg (by omega)])
      go_wp2_with fail
      go_loopw [1, 2] (fun tv iv wr => ∃ (t' i' : Int) (n' : Nat), tv = .int .i64 t' ∧ iv = .int .i64 i' ∧ Hid (t' < n' ∧ lnF N A t i = lnF n' A t' i' ∧ Below w.heap.size w wr ∧ wr.heap[w.heap.size]? = some (.cells #[.int .i64 0, .int .i64 0] 24 (0, 0)))) (fun tv _ _ => (intOf tv).toNat)
      case atStart => exact ⟨t, i, N, rfl, rfl, Lib.hid ⟨hN, rfl, B.out, D.out⟩⟩
      case round =>
        clear hneg hbig hN
        obtain ⟨t', i', n', rfl, rfl, HR⟩ := hrel
        obtain ⟨hlt, heq, hbel, hblk⟩ := HR.out
        have hg := lget_any (HH.out.below hbel) t'
        have hz := hbel.size
        have hwz : w.heap.size < wr.heap.size := (Array.getElem?_eq_some_iff.1 hblk).1
        by_cases hn : isN A t' = true
        · have hp := isN_pos hn
          obtain ⟨m, rfl⟩ : ∃ m, n' = m + 1 := ⟨n' - 1, by omega⟩
          rw [lnF_yes hn] at heq
          have hch := getH_lt hn
          rw [hn] at hg
          generalize getH A t' = nd at hg heq hch
          obtain ⟨k, v, l, r, s, g⟩ := nd
          simp only [] at hg heq hch
          have hsz := fun w' (hb : Below w.heap.size w w') => HS.out w' hb l
          rw [show (getN A l).size = sizeO A l from rfl] at hsz
          generalize sizeO A l = sl at hsz heq
          have HZ := Lib.hid hsz
          have HG := Lib.hid hg
          have HB := Lib.hid hbel
          have HK := Lib.hid hblk
          have HC := Lib.hid hch
          have HL := Lib.hid hlt
          have HP := Lib.hid hp
          clear hg hbel hch hlt HR hn hp hsz hblk
          by_cases hk : i' = sl
          · subst hk
            rw [if_pos rfl] at heq
            have HE := Lib.hid heq; clear heq
            have q := beq_self_eq_true i'
            go_wp2_with fail
            refine HG.out.mono ?_
            rintro e w1 ⟨rfl, b1⟩
            have z1 := b1.size
            have B1 := Lib.hid ((HB.out.trans (b1.mono HB.out.size)).alloc (by omega) (.cells #[.int .i64 k, .int .i64 v, .int .i64 l, .int .i64 r, .int .i64 s, .int .i64 g] 41))
            have D1 := Lib.hid (heap_alloc_new w1 (.cells #[.int .i64 k, .int .i64 v, .int .i64 l, .int .i64 r, .int .i64 s, .int .i64 g] 41))
            have K1 := Lib.hid ((heap_alloc_old w1 (.cells #[.int .i64 k, .int .i64 v, .int .i64 l, .int .i64 r, .int .i64 s, .int .i64 g] 41) (show w.heap.size < w1.heap.size by omega)).trans ((b1.block w.heap.size hwz).trans HK.out))
            clear b1
            go_wp2_with fail
            refine (HZ.out _ B1.out).mono ?_
            rintro e w3 ⟨rfl, b3⟩
            have z3 := b3.size
            simp at z3
            have D3 := Lib.hid ((b3.block w1.heap.size (by simp)).trans D1.out)
            have K3 := Lib.hid ((b3.block w.heap.size (by simp <;> omega)).trans K1.out)
            have B3 := Lib.hid (B1.out.trans (b3.mono B1.out.size)); clear b3
            have x0 := cell_blk (i := 0) D3.out rfl
            have x1 := cell_blk (i := 1) D3.out rfl
            have x2 := cell_blk (i := 2) D3.out rfl
            have x3 := cell_blk (i := 3) D3.out rfl
            have hw3 : w.heap.size < w3.heap.size := by omega
            have y0 := cell_blk (i := 0) K3.out rfl
            have y1 := cell_blk (i := 1) K3.out rfl
            have f0 := free_blk (i := 0) K3.out
            have f1 := free_blk (i := 1) K3.out
            have K2 := Lib.hid (set2_heap (.int .i64 k) (.int .i64 v) K3.out)
            go_wp2_with fail
            have k0 := cell_blk (i := 0) K2.out rfl
            have k1 := cell_blk (i := 1) K2.out rfl
            unfold set2 at k0 k1
            refine bodyPost_ret (v := .tuple #[.agg #[.int .i64 k, .int .i64 v], .bool true]) (by simp [results, Try.results76, go_sem, k0, k1]) rfl ⟨by rw [HE0.out, HE.out], ?_⟩
            exact ((B3.out.setCell (p := ⟨w.heap.size, 0, none⟩) (Nat.le_refl _) _).setCell (p := ⟨w.heap.size, 1, none⟩) (Nat.le_refl _) _)
          · rw [if_neg hk] at heq
            have q : (i' == sl) = false := beq_eq_false_iff_ne.2 hk
            by_cases hlk : i' < sl
            · rw [if_pos hlk] at heq
              have HE := Lib.hid heq; clear heq
              clear hk
              go_wp2_with fail
              refine HG.out.mono ?_
              rintro e w1 ⟨rfl, b1⟩
              have z1 := b1.size
              have B1 := Lib.hid ((HB.out.trans (b1.mono HB.out.size)).alloc (by omega) (.cells #[.int .i64 k, .int .i64 v, .int .i64 l, .int .i64 r, .int .i64 s, .int .i64 g] 41))
              have D1 := Lib.hid (heap_alloc_new w1 (.cells #[.int .i64 k, .int .i64 v, .int .i64 l, .int .i64 r, .int .i64 s, .int .i64 g] 41))
              have K1 := Lib.hid ((heap_alloc_old w1 (.cells #[.int .i64 k, .int .i64 v, .int .i64 l, .int .i64 r, .int .i64 s, .int .i64 g] 41) (show w.heap.size < w1.heap.size by omega)).trans ((b1.block w.heap.size hwz).trans HK.out))
              clear b1
              go_wp2_with fail
              refine (HZ.out _ B1.out).mono ?_
              rintro e w3 ⟨rfl, b3⟩
              have z3 := b3.size
              simp at z3
              have D3 := Lib.hid ((b3.block w1.heap.size (by simp)).trans D1.out)
              have K3 := Lib.hid ((b3.block w.heap.size (by simp <;> omega)).trans K1.out)
              have B3 := Lib.hid (B1.out.trans (b3.mono B1.out.size)); clear b3
              have x0 := cell_blk (i := 0) D3.out rfl
              have x1 := cell_blk (i := 1) D3.out rfl
              have x2 := cell_blk (i := 2) D3.out rfl
              have x3 := cell_blk (i := 3) D3.out rfl
              have hw3 : w.heap.size < w3.heap.size := by omega
              go_wp2_with fail
              go_roundw
              case rel => exact ⟨l, i', m, rfl, rfl, Lib.hid ⟨by have h1 := HC.out.1.2; have h2 := HL.out; omega, HE.out, B3.out, K3.out⟩⟩
              case measure => have h1 := HC.out.1; have h2 := HP.out; simp [intOf]; omega
            · rw [if_neg hlk] at heq
              have HE := Lib.hid heq; clear heq
              clear hk
              go_wp2_with fail
              refine HG.out.mono ?_
              rintro e w1 ⟨rfl, b1⟩
              have z1 := b1.size
              have B1 := Lib.hid ((HB.out.trans (b1.mono HB.out.size)).alloc (by omega) (.cells #[.int .i64 k, .int .i64 v, .int .i64 l, .int .i64 r, .int .i64 s, .int .i64 g] 41))
              have D1 := Lib.hid (heap_alloc_new w1 (.cells #[.int .i64 k, .int .i64 v, .int .i64 l, .int .i64 r, .int .i64 s, .int .i64 g] 41))
              have K1 := Lib.hid ((heap_alloc_old w1 (.cells #[.int .i64 k, .int .i64 v, .int .i64 l, .int .i64 r, .int .i64 s, .int .i64 g] 41) (show w.heap.size < w1.heap.size by omega)).trans ((b1.block w.heap.size hwz).trans HK.out))
              clear b1
              go_wp2_with fail
              refine (HZ.out _ B1.out).mono ?_
              rintro e w3 ⟨rfl, b3⟩
              have z3 := b3.size
              simp at z3
              have D3 := Lib.hid ((b3.block w1.heap.size (by simp)).trans D1.out)
              have K3 := Lib.hid ((b3.block w.heap.size (by simp <;> omega)).trans K1.out)
              have B3 := Lib.hid (B1.out.trans (b3.mono B1.out.size)); clear b3
              have x0 := cell_blk (i := 0) D3.out rfl
              have x1 := cell_blk (i := 1) D3.out rfl
              have x2 := cell_blk (i := 2) D3.out rfl
              have x3 := cell_blk (i := 3) D3.out rfl
              have hw3 : w.heap.size < w3.heap.size := by omega
              go_wp2_with fail
              go_roundw
              case rel => exact ⟨r, _, m, rfl, rfl, Lib.hid ⟨by have h1 := HC.out.2.2; have h2 := HL.out; omega, HE.out, B3.out, K3.out⟩⟩
              case measure => have h1 := HC.out.2; have h2 := HP.out; simp [intOf]; omega
        · have hn2 : isN A t' = false := by simpa using hn
          rw [lnF_no hn2] at heq
          rw [hn2] at hg
          generalize getH A t' = nd at hg
          obtain ⟨k, v, l, r, s, g⟩ := nd
          simp only [] at hg
          have HZ := Lib.hid (fun w' (hb : Below w.heap.size w w') => HS.out w' hb l)
          have HG := Lib.hid hg
          have HB := Lib.hid hbel
          have HK := Lib.hid hblk
          have HE := Lib.hid heq
          clear hg hbel hn hn2 HR heq hblk hlt
          go_wp2_with fail
          refine HG.out.mono ?_
          rintro e w1 ⟨rfl, b1⟩
          have z1 := b1.size
          have B1 := Lib.hid ((HB.out.trans (b1.mono HB.out.size)).alloc (by omega) (.cells #[.int .i64 k, .int .i64 v, .int .i64 l, .int .i64 r, .int .i64 s, .int .i64 g] 41))
          have D1 := Lib.hid (heap_alloc_new w1 (.cells #[.int .i64 k, .int .i64 v, .int .i64 l, .int .i64 r, .int .i64 s, .int .i64 g] 41))
          have K1 := Lib.hid ((heap_alloc_old w1 (.cells #[.int .i64 k, .int .i64 v, .int .i64 l, .int .i64 r, .int .i64 s, .int .i64 g] 41) (show w.heap.size < w1.heap.size by omega)).trans ((b1.block w.heap.size hwz).trans HK.out))
          clear b1
          go_wp2_with fail
          refine (HZ.out _ B1.out).mono ?_
          rintro e w3 ⟨rfl, b3⟩
          have z3 := b3.size
          simp at z3
          have D3 := Lib.hid ((b3.block w1.heap.size (by simp)).trans D1.out)
          have K3 := Lib.hid ((b3.block w.heap.size (by simp <;> omega)).trans K1.out)
          have B3 := Lib.hid (B1.out.trans (b3.mono B1.out.size)); clear b3
          have x0 := cell_blk (i := 0) D3.out rfl
          have x1 := cell_blk (i := 1) D3.out rfl
          have x2 := cell_blk (i := 2) D3.out rfl
          have x3 := cell_blk (i := 3) D3.out rfl
          have hw3 : w.heap.size < w3.heap.size := by omega
          have y0 := cell_blk (i := 0) K3.out rfl
          have y1 := cell_blk (i := 1) K3.out rfl
          have f0 := free_blk (i := 0) K3.out
          have f1 := free_blk (i := 1) K3.out
          have K2 := Lib.hid (set2_heap (.int .i64 0) (.int .i64 0) K3.out)
          go_wp2_with fail
          have k0 := cell_blk (i := 0) K2.out rfl
          have k1 := cell_blk (i := 1) K2.out rfl
          unfold set2 at k0 k1
          refine bodyPost_ret (v := .tuple #[.agg #[.int .i64 0, .int .i64 0], .bool false]) (by simp [results, Try.results76, go_sem, k0, k1]) rfl ⟨by rw [HE0.out, HE.out], ?_⟩
          exact ((B3.out.setCell (p := ⟨w.heap.size, 0, none⟩) (Nat.le_refl _) _).setCell (p := ⟨w.heap.size, 1, none⟩) (Nat.le_refl _) _)

end Go.Proofs.Ytkcfkanfdbejiaa
