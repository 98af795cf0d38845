/- The walks of look's Min and Max. -/
import Derived.Test.YtkcfkanfdbejiaaLookW3
namespace Go.Proofs.Ytkcfkanfdbejiaa
set_option maxRecDepth 100000
open Go.RowKit
set_option linter.unusedSimpArgs false
set_option linter.unusedVariables false

def nodeC (d : Nd) : Array Value := #[.int .i64 d.key, .int .i64 d.val, .int .i64 d.left, .int .i64 d.right, .int .i64 d.size, .int .i64 d.high]
def cellNat (w : World) (b i : Nat) : Nat := match w.cell? ⟨b, i, none⟩ with | some v => (intOf v).toNat | none => 0
theorem cellNat_of {w : World} {b i : Nat} {x : Int} (h : w.cell? ⟨b, i, none⟩ = some (.int .i64 x)) : cellNat w b i = x.toNat := by unfold cellNat; rw [h]; rfl
theorem set6_below {B : Nat} {a w : World} (h : Below B a w) {b : Nat} (hb : B ≤ b) (v0 v1 v2 v3 v4 v5 : Value) : Below B a (set6 w b v0 v1 v2 v3 v4 v5) :=
  (((((h.setCell (p := ⟨b, 0, none⟩) hb _).setCell (p := ⟨b, 1, none⟩) hb _).setCell (p := ⟨b, 2, none⟩) hb _).setCell (p := ⟨b, 3, none⟩) hb _).setCell (p := ⟨b, 4, none⟩) hb _).setCell (p := ⟨b, 5, none⟩) hb _
theorem set6_other {w : World} {b k : Nat} (v0 v1 v2 v3 v4 v5 : Value) (h : k ≠ b) : (set6 w b v0 v1 v2 v3 v4 v5).heap[k]? = w.heap[k]? := by
  unfold set6
  iterate 6 rw [heap_setCell_other _ _ k _ (by simpa using h)]

def minF : Nat → OA → Int → Int × Int × Bool
  | 0, A, t => ((getH A t).key, (getH A t).val, isN A t)
  | n + 1, A, t => if isN A t = true ∧ (getH A t).left ≠ 0 then minF n A (getH A t).left else ((getH A t).key, (getH A t).val, isN A t)
theorem minF_stop {n : Nat} {A : OA} {t : Int} (h : ¬ (isN A t = true ∧ (getH A t).left ≠ 0)) : minF n A t = ((getH A t).key, (getH A t).val, isN A t) := by
  cases n with
  | zero => rfl
  | succ n => simp only [minF]; rw [if_neg h]
theorem minF_go {n : Nat} {A : OA} {t : Int} (h : isN A t = true) (h2 : (getH A t).left ≠ 0) : minF (n + 1) A t = minF n A (getH A t).left := by
  simp only [minF]; rw [if_pos ⟨h, h2⟩]

set_option maxRecDepth 100000 in
set_option maxHeartbeats 4000000 in
theorem lookMin_any {w : World} {po : Option Addr} {A : OA} {F : Nat → Prop} (h : OAt w po A F) (N : Nat) (t : Int) (hN : t < N) :
    Calls Try.prog 50 #[.pointer po, .int .i64 t] w fun e w' => e = .returned (.tuple #[.agg #[.int .i64 (minF N A t).1, .int .i64 (minF N A t).2.1], .bool (minF N A t).2.2]) ∧ Below w.heap.size w w' := by
  have HH := Lib.hid h
  have HX := Lib.hid (fun w' (hb : Below w.heap.size w w') (x : Int) => lget_any (h.below hb) x)
  clear h
  have B0 := Lib.hid ((Below.refl w.heap.size w).alloc (Nat.le_refl _) (.cells #[.int .i64 0, .int .i64 0] 24))
  have D0 := Lib.hid (heap_alloc_new w (.cells #[.int .i64 0, .int .i64 0] 24))
  go_enter Try.func50, Try.ntmps50
  go_wp2_with fail
  refine (HX.out _ B0.out t).mono ?_
  rintro e w1 ⟨rfl, b1⟩
  have z1 := b1.size
  simp at z1
  have B1 := Lib.hid ((B0.out.trans (b1.mono B0.out.size)).alloc (by omega) (.cells (nodeC (getH A t)) 41))
  have D1 := Lib.hid (heap_alloc_new w1 (.cells (nodeC (getH A t)) 41))
  have K1 := Lib.hid ((heap_alloc_old w1 (.cells (nodeC (getH A t)) 41) (show w.heap.size < w1.heap.size by omega)).trans ((b1.block w.heap.size (by simp)).trans D0.out))
  clear b1
  go_wp2_with fail
  go_loopw [7] (fun ok wr => ∃ (t' : Int) (n' : Nat), ok = .bool (isN A t') ∧ Hid (t' < n' ∧ minF N A t = minF n' A t' ∧ Below w.heap.size w wr ∧ wr.heap[w.heap.size]? = some (.cells #[.int .i64 0, .int .i64 0] 24 (0, 0)) ∧ wr.heap[w1.heap.size]? = some (.cells (nodeC (getH A t')) 41 (0, 0)))) (fun _ wr => cellNat wr w1.heap.size 2)
  case atStart => exact ⟨t, N, rfl, Lib.hid ⟨hN, rfl, B1.out, K1.out, D1.out⟩⟩
  case round =>
    clear hN
    obtain ⟨t', n', rfl, HR⟩ := hrel
    obtain ⟨hlt, heq, hbel, hk0, hk1⟩ := HR.out
    have hz := hbel.size
    have hw0 : w.heap.size < wr.heap.size := (Array.getElem?_eq_some_iff.1 hk0).1
    have hw1 : w1.heap.size < wr.heap.size := (Array.getElem?_eq_some_iff.1 hk1).1
    by_cases hgo : isN A t' = true ∧ (getH A t').left ≠ 0
    · obtain ⟨hn, hl0⟩ := hgo
      have hp := isN_pos hn
      obtain ⟨m, rfl⟩ : ∃ m, n' = m + 1 := ⟨n' - 1, by omega⟩
      rw [minF_go hn hl0] at heq
      have hch := getH_lt hn
      rw [hn]
      generalize getH A t' = nd at hk1 heq hch hl0
      obtain ⟨k, v, l, r, s, g⟩ := nd
      simp only [] at heq hch hl0
      have hk1' : wr.heap[w1.heap.size]? = some (.cells #[.int .i64 k, .int .i64 v, .int .i64 l, .int .i64 r, .int .i64 s, .int .i64 g] 41 (0, 0)) := hk1
      have hg := HX.out wr hbel l
      obtain ⟨nd2, hnd2⟩ : ∃ nd2, getH A l = nd2 := ⟨_, rfl⟩
      have hlow : (1 ≤ l → 0 ≤ nd2.left ∧ nd2.left < l) := fun h1 => by rw [← hnd2]; exact hang_lt A _ h1
      rw [hnd2] at hg
      have c0 := cell_blk (i := 2) hk1' rfl
      have q1 : (l == 0) = false := beq_eq_false_iff_ne.2 hl0
      have q2 : (l != 0) = true := by rw [bne, q1]; rfl
      have HM0 := Lib.hid (cellNat_of c0)
      have HND := Lib.hid hnd2
      have HG := Lib.hid hg
      have HB := Lib.hid hbel
      have HK0 := Lib.hid hk0
      have HK1 := Lib.hid hk1'
      have HC := Lib.hid hch
      have HL := Lib.hid hlt
      have HE := Lib.hid heq
      have HLO := Lib.hid hlow
      have HL0 := Lib.hid hl0
      clear hg hbel hk0 hk1 hk1' hch hlt heq hlow hl0 HR hnd2 hn hp
      obtain ⟨k2, v2, l2, r2, s2, g2⟩ := nd2
      go_wp2_with fail
      refine HG.out.mono ?_
      rintro e w3 ⟨rfl, b3⟩
      have K3 := Lib.hid ((b3.block w1.heap.size hw1).trans HK1.out)
      have J3 := Lib.hid ((b3.block w.heap.size hw0).trans HK0.out)
      have B3 := Lib.hid (HB.out.trans (b3.mono HB.out.size)); clear b3 c0
      have y0 := cell_blk (i := 0) K3.out rfl
      have y1 := cell_blk (i := 1) K3.out rfl
      have y2 := cell_blk (i := 2) K3.out rfl
      have y3 := cell_blk (i := 3) K3.out rfl
      have y4 := cell_blk (i := 4) K3.out rfl
      have y5 := cell_blk (i := 5) K3.out rfl
      have f0 := free_blk (i := 0) K3.out
      have f1 := free_blk (i := 1) K3.out
      have f2 := free_blk (i := 2) K3.out
      have f3 := free_blk (i := 3) K3.out
      have f4 := free_blk (i := 4) K3.out
      have f5 := free_blk (i := 5) K3.out
      have K6 := Lib.hid (set6_heap (.int .i64 k2) (.int .i64 v2) (.int .i64 l2) (.int .i64 r2) (.int .i64 s2) (.int .i64 g2) K3.out)
      have J6 := Lib.hid ((set6_other (.int .i64 k2) (.int .i64 v2) (.int .i64 l2) (.int .i64 r2) (.int .i64 s2) (.int .i64 g2) (show w.heap.size ≠ w1.heap.size by omega)).trans J3.out)
      have B6 := Lib.hid (set6_below B3.out (show w.heap.size ≤ w1.heap.size by omega) (.int .i64 k2) (.int .i64 v2) (.int .i64 l2) (.int .i64 r2) (.int .i64 s2) (.int .i64 g2))
      have M6 := Lib.hid (cellNat_of (cell_blk (i := 2) K6.out rfl))
      go_wp2_with fail
      go_roundw
      case rel => exact ⟨l, m, rfl, Lib.hid ⟨by have h1 := HC.out.1.2; have h2 := HL.out; omega, HE.out, B6.out, J6.out, by rw [HND.out]; exact K6.out⟩⟩
      case measure =>
        have h1 := HC.out.1
        have h0 := HL0.out
        have h2 := HLO.out (by omega)
        have h3 := M6.out
        have h4 := HM0.out
        unfold set6 at h3
        rw [h3, h4]
        omega
    · rw [minF_stop hgo] at heq
      have hok : (isN A t' = true ∧ (getH A t').left = 0) ∨ isN A t' = false := by
        by_cases h1 : isN A t' = true
        · exact .inl ⟨h1, Decidable.byContradiction fun h2 => hgo ⟨h1, h2⟩⟩
        · exact .inr (by simpa using h1)
      clear hgo
      generalize getH A t' = nd at hk1 heq hok
      obtain ⟨k, v, l, r, s, g⟩ := nd
      have hk1' : wr.heap[w1.heap.size]? = some (.cells #[.int .i64 k, .int .i64 v, .int .i64 l, .int .i64 r, .int .i64 s, .int .i64 g] 41 (0, 0)) := hk1
      simp only [] at heq hok
      have x0 := cell_blk (i := 0) hk1' rfl
      have x1 := cell_blk (i := 1) hk1' rfl
      have y0 := cell_blk (i := 0) hk0 rfl
      have y1 := cell_blk (i := 1) hk0 rfl
      have f0 := free_blk (i := 0) hk0
      have f1 := free_blk (i := 1) hk0
      have K2 := Lib.hid (set2_heap (.int .i64 k) (.int .i64 v) hk0)
      have HE := Lib.hid heq
      have HB := Lib.hid hbel
      have c0 := cell_blk (i := 2) hk1' rfl
      clear heq hbel hk0 hk1 HR hlt
      rcases hok with ⟨h1, h2⟩ | h1
      · rw [h1] at HE ⊢
        subst h2
        clear hk1' h1
        go_wp2_with fail
        have k0 := cell_blk (i := 0) K2.out rfl
        have k1 := cell_blk (i := 1) K2.out rfl
        unfold set2 at k0 k1
        refine bodyPost_ret (v := .tuple #[.agg #[.int .i64 k, .int .i64 v], .bool true]) (by simp [results, Try.results50, go_sem, k0, k1]) rfl ⟨by rw [HE.out], ?_⟩
        exact ((HB.out.setCell (p := ⟨w.heap.size, 0, none⟩) (Nat.le_refl _) _).setCell (p := ⟨w.heap.size, 1, none⟩) (Nat.le_refl _) _)
      · rw [h1] at HE ⊢
        clear hk1' h1
        go_wp2_with fail
        have k0 := cell_blk (i := 0) K2.out rfl
        have k1 := cell_blk (i := 1) K2.out rfl
        unfold set2 at k0 k1
        refine bodyPost_ret (v := .tuple #[.agg #[.int .i64 k, .int .i64 v], .bool false]) (by simp [results, Try.results50, go_sem, k0, k1]) rfl ⟨by rw [HE.out], ?_⟩
        exact ((HB.out.setCell (p := ⟨w.heap.size, 0, none⟩) (Nat.le_refl _) _).setCell (p := ⟨w.heap.size, 1, none⟩) (Nat.le_refl _) _)

def maxF : Nat → OA → Int → Int × Int × Bool
  | 0, A, t => ((getH A t).key, (getH A t).val, isN A t)
  | n + 1, A, t => if isN A t = true ∧ (getH A t).right ≠ 0 then maxF n A (getH A t).right else ((getH A t).key, (getH A t).val, isN A t)
theorem maxF_stop {n : Nat} {A : OA} {t : Int} (h : ¬ (isN A t = true ∧ (getH A t).right ≠ 0)) : maxF n A t = ((getH A t).key, (getH A t).val, isN A t) := by
  cases n with
  | zero => rfl
  | succ n => simp only [maxF]; rw [if_neg h]
theorem maxF_go {n : Nat} {A : OA} {t : Int} (h : isN A t = true) (h2 : (getH A t).right ≠ 0) : maxF (n + 1) A t = maxF n A (getH A t).right := by
  simp only [maxF]; rw [if_pos ⟨h, h2⟩]

set_option maxRecDepth 100000 in
set_option maxHeartbeats 4000000 in
theorem lookMax_any {w : World} {po : Option Addr} {A : OA} {F : Nat → Prop} (h : OAt w po A F) (N : Nat) (t : Int) (hN : t < N) :
    Calls Try.prog 49 #[.pointer po, .int .i64 t] w fun e w' => e = .returned (.tuple #[.agg #[.int .i64 (maxF N A t).1, .int .i64 (maxF N A t).2.1], .bool (maxF N A t).2.2]) ∧ Below w.heap.size w w' := by
  have HH := Lib.hid h
  have HX := Lib.hid (fun w' (hb : Below w.heap.size w w') (x : Int) => lget_any (h.below hb) x)
  clear h
  have B0 := Lib.hid ((Below.refl w.heap.size w).alloc (Nat.le_refl _) (.cells #[.int .i64 0, .int .i64 0] 24))
  have D0 := Lib.hid (heap_alloc_new w (.cells #[.int .i64 0, .int .i64 0] 24))
  go_enter Try.func49, Try.ntmps49
  go_wp2_with fail
  refine (HX.out _ B0.out t).mono ?_
  rintro e w1 ⟨rfl, b1⟩
  have z1 := b1.size
  simp at z1
  have B1 := Lib.hid ((B0.out.trans (b1.mono B0.out.size)).alloc (by omega) (.cells (nodeC (getH A t)) 41))
  have D1 := Lib.hid (heap_alloc_new w1 (.cells (nodeC (getH A t)) 41))
  have K1 := Lib.hid ((heap_alloc_old w1 (.cells (nodeC (getH A t)) 41) (show w.heap.size < w1.heap.size by omega)).trans ((b1.block w.heap.size (by simp)).trans D0.out))
  clear b1
  go_wp2_with fail
  go_loopw [7] (fun ok wr => ∃ (t' : Int) (n' : Nat), ok = .bool (isN A t') ∧ Hid (t' < n' ∧ maxF N A t = maxF n' A t' ∧ Below w.heap.size w wr ∧ wr.heap[w.heap.size]? = some (.cells #[.int .i64 0, .int .i64 0] 24 (0, 0)) ∧ wr.heap[w1.heap.size]? = some (.cells (nodeC (getH A t')) 41 (0, 0)))) (fun _ wr => cellNat wr w1.heap.size 3)
  case atStart => exact ⟨t, N, rfl, Lib.hid ⟨hN, rfl, B1.out, K1.out, D1.out⟩⟩
  case round =>
    clear hN
    obtain ⟨t', n', rfl, HR⟩ := hrel
    obtain ⟨hlt, heq, hbel, hk0, hk1⟩ := HR.out
    have hz := hbel.size
    have hw0 : w.heap.size < wr.heap.size := (Array.getElem?_eq_some_iff.1 hk0).1
    have hw1 : w1.heap.size < wr.heap.size := (Array.getElem?_eq_some_iff.1 hk1).1
    by_cases hgo : isN A t' = true ∧ (getH A t').right ≠ 0
    · obtain ⟨hn, hl0⟩ := hgo
      have hp := isN_pos hn
      obtain ⟨m, rfl⟩ : ∃ m, n' = m + 1 := ⟨n' - 1, by omega⟩
      rw [maxF_go hn hl0] at heq
      have hch := getH_lt hn
      rw [hn]
      generalize getH A t' = nd at hk1 heq hch hl0
      obtain ⟨k, v, l, r, s, g⟩ := nd
      simp only [] at heq hch hl0
      have hk1' : wr.heap[w1.heap.size]? = some (.cells #[.int .i64 k, .int .i64 v, .int .i64 l, .int .i64 r, .int .i64 s, .int .i64 g] 41 (0, 0)) := hk1
      have hg := HX.out wr hbel r
      obtain ⟨nd2, hnd2⟩ : ∃ nd2, getH A r = nd2 := ⟨_, rfl⟩
      have hlow : (1 ≤ r → 0 ≤ nd2.right ∧ nd2.right < r) := fun h1 => by rw [← hnd2]; exact hang_lt A _ h1
      rw [hnd2] at hg
      have c0 := cell_blk (i := 3) hk1' rfl
      have q1 : (r == 0) = false := beq_eq_false_iff_ne.2 hl0
      have q2 : (r != 0) = true := by rw [bne, q1]; rfl
      have HM0 := Lib.hid (cellNat_of c0)
      have HND := Lib.hid hnd2
      have HG := Lib.hid hg
      have HB := Lib.hid hbel
      have HK0 := Lib.hid hk0
      have HK1 := Lib.hid hk1'
      have HC := Lib.hid hch
      have HL := Lib.hid hlt
      have HE := Lib.hid heq
      have HLO := Lib.hid hlow
      have HL0 := Lib.hid hl0
      clear hg hbel hk0 hk1 hk1' hch hlt heq hlow hl0 HR hnd2 hn hp
      obtain ⟨k2, v2, l2, r2, s2, g2⟩ := nd2
      go_wp2_with fail
      refine HG.out.mono ?_
      rintro e w3 ⟨rfl, b3⟩
      have K3 := Lib.hid ((b3.block w1.heap.size hw1).trans HK1.out)
      have J3 := Lib.hid ((b3.block w.heap.size hw0).trans HK0.out)
      have B3 := Lib.hid (HB.out.trans (b3.mono HB.out.size)); clear b3 c0
      have y0 := cell_blk (i := 0) K3.out rfl
      have y1 := cell_blk (i := 1) K3.out rfl
      have y2 := cell_blk (i := 2) K3.out rfl
      have y3 := cell_blk (i := 3) K3.out rfl
      have y4 := cell_blk (i := 4) K3.out rfl
      have y5 := cell_blk (i := 5) K3.out rfl
      have f0 := free_blk (i := 0) K3.out
      have f1 := free_blk (i := 1) K3.out
      have f2 := free_blk (i := 2) K3.out
      have f3 := free_blk (i := 3) K3.out
      have f4 := free_blk (i := 4) K3.out
      have f5 := free_blk (i := 5) K3.out
      have K6 := Lib.hid (set6_heap (.int .i64 k2) (.int .i64 v2) (.int .i64 l2) (.int .i64 r2) (.int .i64 s2) (.int .i64 g2) K3.out)
      have J6 := Lib.hid ((set6_other (.int .i64 k2) (.int .i64 v2) (.int .i64 l2) (.int .i64 r2) (.int .i64 s2) (.int .i64 g2) (show w.heap.size ≠ w1.heap.size by omega)).trans J3.out)
      have B6 := Lib.hid (set6_below B3.out (show w.heap.size ≤ w1.heap.size by omega) (.int .i64 k2) (.int .i64 v2) (.int .i64 l2) (.int .i64 r2) (.int .i64 s2) (.int .i64 g2))
      have M6 := Lib.hid (cellNat_of (cell_blk (i := 3) K6.out rfl))
      go_wp2_with fail
      go_roundw
      case rel => exact ⟨r, m, rfl, Lib.hid ⟨by have h1 := HC.out.2.2; have h2 := HL.out; omega, HE.out, B6.out, J6.out, by rw [HND.out]; exact K6.out⟩⟩
      case measure =>
        have h1 := HC.out.2
        have h0 := HL0.out
        have h2 := HLO.out (by omega)
        have h3 := M6.out
        have h4 := HM0.out
        unfold set6 at h3
        rw [h3, h4]
        omega
    · rw [maxF_stop hgo] at heq
      have hok : (isN A t' = true ∧ (getH A t').right = 0) ∨ isN A t' = false := by
        by_cases h1 : isN A t' = true
        · exact .inl ⟨h1, Decidable.byContradiction fun h2 => hgo ⟨h1, h2⟩⟩
        · exact .inr (by simpa using h1)
      clear hgo
      generalize getH A t' = nd at hk1 heq hok
      obtain ⟨k, v, l, r, s, g⟩ := nd
      have hk1' : wr.heap[w1.heap.size]? = some (.cells #[.int .i64 k, .int .i64 v, .int .i64 l, .int .i64 r, .int .i64 s, .int .i64 g] 41 (0, 0)) := hk1
      simp only [] at heq hok
      have x0 := cell_blk (i := 0) hk1' rfl
      have x1 := cell_blk (i := 1) hk1' rfl
      have y0 := cell_blk (i := 0) hk0 rfl
      have y1 := cell_blk (i := 1) hk0 rfl
      have f0 := free_blk (i := 0) hk0
      have f1 := free_blk (i := 1) hk0
      have K2 := Lib.hid (set2_heap (.int .i64 k) (.int .i64 v) hk0)
      have HE := Lib.hid heq
      have HB := Lib.hid hbel
      have c0 := cell_blk (i := 3) hk1' rfl
      clear heq hbel hk0 hk1 HR hlt
      rcases hok with ⟨h1, h2⟩ | h1
      · rw [h1] at HE ⊢
        subst h2
        clear hk1' h1
        go_wp2_with fail
        have k0 := cell_blk (i := 0) K2.out rfl
        have k1 := cell_blk (i := 1) K2.out rfl
        unfold set2 at k0 k1
        refine bodyPost_ret (v := .tuple #[.agg #[.int .i64 k, .int .i64 v], .bool true]) (by simp [results, Try.results49, go_sem, k0, k1]) rfl ⟨by rw [HE.out], ?_⟩
        exact ((HB.out.setCell (p := ⟨w.heap.size, 0, none⟩) (Nat.le_refl _) _).setCell (p := ⟨w.heap.size, 1, none⟩) (Nat.le_refl _) _)
      · rw [h1] at HE ⊢
        clear hk1' h1
        go_wp2_with fail
        have k0 := cell_blk (i := 0) K2.out rfl
        have k1 := cell_blk (i := 1) K2.out rfl
        unfold set2 at k0 k1
        refine bodyPost_ret (v := .tuple #[.agg #[.int .i64 k, .int .i64 v], .bool false]) (by simp [results, Try.results49, go_sem, k0, k1]) rfl ⟨by rw [HE.out], ?_⟩
        exact ((HB.out.setCell (p := ⟨w.heap.size, 0, none⟩) (Nat.le_refl _) _).setCell (p := ⟨w.heap.size, 1, none⟩) (Nat.le_refl _) _)

end Go.Proofs.Ytkcfkanfdbejiaa
