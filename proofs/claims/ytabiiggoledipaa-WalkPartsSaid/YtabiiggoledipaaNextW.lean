/- The walk of walk.Next. -/
import Derived.Test.YtabiiggoledipaaLookW4
namespace Go.Proofs.Ytabiiggoledipaa
set_option maxRecDepth 100000
open Go.RowKit Go.Proofs.YtabiiggoledipaaW.PrintWords Go.Proofs.YtabiiggoledipaaW.PrintLast
set_option linter.unusedSimpArgs false
set_option linter.unusedVariables false

/-- What Next tells: the first pair whose key is above. -/
def nextP (l : List Pr) (key : Int) : Pr × Bool := match l.find? (fun p => decide (key < p.1)) with | some p => (p, true) | none => ((0, 0), false)
def orN (a b : Pr × Bool) : Pr × Bool := if a.2 = true then a else b
theorem nextP_nil (key : Int) : nextP [] key = ((0, 0), false) := rfl
theorem nextP_mid {l1 l2 : List Pr} {k v : Int} (key : Int) (hs : Sorted (l1 ++ (k, v) :: l2)) : nextP (l1 ++ (k, v) :: l2) key = if key < k then orN (nextP l1 key) ((k, v), true) else nextP l2 key := by
  obtain ⟨s1, s2, s3, s4, s5⟩ := sorted_mid.1 hs
  unfold nextP
  rw [List.find?_append, List.find?_cons]
  by_cases hk : key < k
  · rw [if_pos hk]
    simp only [hk, decide_true]
    cases l1.find? (fun p => decide (key < p.1)) with
    | none => simp [orN]
    | some p => simp [orN]
  · rw [if_neg hk, List.find?_eq_none.2 (fun p hp => by have := s3 p hp; simp only [] at this; simp; omega)]
    simp [hk]
theorem set2_other {w : World} {b k : Nat} (v0 v1 : Value) (h : k ≠ b) : (set2 w b v0 v1).heap[k]? = w.heap[k]? :=
  (heap_setCell_other _ ⟨b, 1, none⟩ k v1 h).trans (heap_setCell_other w ⟨b, 0, none⟩ k v0 h)
theorem orN_no (b : Pr × Bool) : orN ((0, 0), false) b = b := rfl
theorem orN_step (a c b : Pr × Bool) : orN (orN a c) b = orN a (orN c b) := by unfold orN; by_cases h : a.2 = true <;> simp [h]
set_option maxRecDepth 100000 in
set_option maxHeartbeats 4000000 in
theorem next_any {w : World} {po : Option Addr} {a : Ar} {F : Nat → Prop} (h : OAt w po (some a) F) {t : Int} {l : List Pr} (ht : Tr a t l) (hs : Sorted l) (hlt : t < 1000000) (key : Int) :
    Calls Try.prog 18 #[.pointer po, .int .i64 t, .int .i64 key] w fun e w' => e = .returned (.tuple #[.agg #[.int .i64 (nextP l key).1.1, .int .i64 (nextP l key).1.2], .bool (nextP l key).2]) ∧ Below w.heap.size w w' := by
  have HH := Lib.hid h; clear h
  have HT := Lib.hid ht; clear ht
  have HS := Lib.hid hs; clear hs
  go_enter Try.func18, Try.ntmps18
  go_wp2_with fail
  go_loopw [1, 9, 10] (fun tv fv bv wr => ∃ (t' : Int) (l' : List Pr) (ok ov : Int) (fb : Bool) (bd : Int), tv = .int .i64 t' ∧ fv = .bool fb ∧ bv = .int .i64 bd ∧ t' < 1000000 ∧ Hid (Tr a t' l' ∧ Sorted l' ∧ t' < bd ∧ nextP l key = orN (nextP l' key) ((ok, ov), fb) ∧ Below w.heap.size w wr ∧ wr.heap[w.heap.size]? = some (.cells #[.int .i64 0, .int .i64 0] 25 (0, 0)) ∧ wr.heap[w.heap.size + 1]? = some (.cells #[.int .i64 ok, .int .i64 ov] 25 (0, 0)))) (fun tv _ _ _ => (intOf tv).toNat)
  case atStart =>
    refine ⟨t, l, 0, 0, false, 9223372036854775807, rfl, rfl, rfl, hlt, Lib.hid ⟨HT.out, HS.out, by omega, ?_, ((Below.refl _ _).alloc (Nat.le_refl _) _).alloc (by simp) _, ?_, ?_⟩⟩
    · unfold orN nextP
      cases l.find? (fun p => decide (key < p.1)) <;> rfl
    · exact (heap_alloc_old _ _ (by simp)).trans (heap_alloc_new w _)
    · have := heap_alloc_new (w.alloc (.cells #[.int .i64 0, .int .i64 0] 25)) (.cells #[.int .i64 0, .int .i64 0] 25)
      rw [World.size_alloc] at this
      exact this
  case round =>
    obtain ⟨t', l', ok, ov, fb, bd, rfl, rfl, rfl, htm, HR⟩ := hrel
    obtain ⟨htr, hsr, hbd, heq, hbel, hc6, hc8⟩ := HR.out
    clear HR
    have hz := hbel.size
    have hlt8 : w.heap.size + 1 < wr.heap.size := (Array.getElem?_eq_some_iff.1 hc8).1
    have hg := get_any (HH.out.below hbel) t'
    have HB := Lib.hid hbel; clear hbel
    have C6 := Lib.hid hc6; clear hc6
    have C8 := Lib.hid hc8; clear hc8
    have HSR := Lib.hid hsr; clear hsr
    cases htr with
    | nil =>
      rw [nextP_nil, orN_no] at heq
      rw [getN_no (isN_zero a), isN_zero a] at hg
      have HE := Lib.hid heq; clear heq
      have HG := Lib.hid hg; clear hg
      go_wp2_with fail
      refine HG.out.mono ?_
      rintro e w1 ⟨rfl, b1⟩
      have z1 := b1.size
      have hlt1 : w.heap.size + 1 < w1.heap.size := by omega
      have D6 := (heap_alloc_old w1 (.cells #[.int .i64 0, .int .i64 0, .int .i64 0, .int .i64 0, .int .i64 0, .int .i64 0] 64) (show w.heap.size < w1.heap.size by omega)).trans ((b1.block w.heap.size (by omega)).trans C6.out)
      have D8 := (heap_alloc_old w1 (.cells #[.int .i64 0, .int .i64 0, .int .i64 0, .int .i64 0, .int .i64 0, .int .i64 0] 64) (show w.heap.size + 1 < w1.heap.size by omega)).trans ((b1.block (w.heap.size + 1) (by omega)).trans C8.out)
      have x0 := cell_blk (i := 0) D8 rfl
      have x1 := cell_blk (i := 1) D8 rfl
      have y0 := cell_blk (i := 0) D6 rfl
      have y1 := cell_blk (i := 1) D6 rfl
      have g0 := free_blk (i := 0) D6
      have g1 := free_blk (i := 1) D6
      have K2 := Lib.hid (set2_heap (.int .i64 ok) (.int .i64 ov) D6)
      have BE := Lib.hid ((HB.out.trans (b1.mono hz)).alloc (by omega) (.cells #[.int .i64 0, .int .i64 0, .int .i64 0, .int .i64 0, .int .i64 0, .int .i64 0] 64)); clear b1 D6 D8
      go_wp2_with fail
      have k0 := cell_blk (i := 0) K2.out rfl
      have k1 := cell_blk (i := 1) K2.out rfl
      unfold set2 at k0 k1
      refine bodyPost_ret (v := .tuple #[.agg #[.int .i64 ok, .int .i64 ov], .bool fb]) (by simp [results, Try.results18, go_sem, k0, k1]) rfl ⟨by rw [HE.out], ?_⟩
      exact ((BE.out.setCell (p := ⟨w.heap.size, 0, none⟩) (Nat.le_refl _) _).setCell (p := ⟨w.heap.size, 1, none⟩) (Nat.le_refl _) _)
    | node _ k v x y l1 l2 hn hgt' htop hx hy h1 h2 =>
      obtain ⟨s1, s2, _, _, _⟩ := sorted_mid.1 HSR.out
      rw [nextP_mid key HSR.out] at heq
      have hp := isN_pos hn
      rw [hgt', hn] at hg
      clear htop hgt' hn
      generalize (((l1 ++ (k, v) :: l2).length : Nat) : Int) = s at hg
      generalize ((hgt (l1 ++ (k, v) :: l2) : Nat) : Int) = g at hg
      have HG := Lib.hid hg; clear hg
      have T1 := Lib.hid h1; clear h1
      have T2 := Lib.hid h2; clear h2
      have Z1 := Lib.hid s1; clear s1
      have Z2 := Lib.hid s2; clear s2
      have HX := Lib.hid (show x < t' ∧ y < t' ∧ t' < bd ∧ 1 ≤ t' from ⟨hx, hy, hbd, hp⟩); clear hx hy hp
      by_cases hk : key < k
      · rw [if_pos hk, orN_step] at heq
        have HE := Lib.hid heq; clear heq
        go_wp2_with fail
        refine HG.out.mono ?_
        rintro e w1 ⟨rfl, b1⟩
        have z1 := b1.size
        have hlt1 : w.heap.size + 1 < w1.heap.size := by omega
        have O1 := Lib.hid ((b1.block (w.heap.size + 1) (by omega)).trans C8.out)
        have N1 := Lib.hid (heap_alloc_new w1 (.cells #[.int .i64 k, .int .i64 v, .int .i64 x, .int .i64 y, .int .i64 s, .int .i64 g] 64))
        have n0 := cell_blk (i := 0) N1.out rfl
        have zs : (set2 w1 (w.heap.size + 1) (.int .i64 k) (.int .i64 v)).heap.size = w1.heap.size := by simp [set2]
        have n1s := heap_alloc_new (set2 w1 (w.heap.size + 1) (.int .i64 k) (.int .i64 v)) (.cells #[.int .i64 k, .int .i64 v, .int .i64 x, .int .i64 y, .int .i64 s, .int .i64 g] 64)
        rw [zs] at n1s
        have N1s := Lib.hid n1s; clear n1s
        have C8c := Lib.hid ((heap_alloc_old (set2 w1 (w.heap.size + 1) (.int .i64 k) (.int .i64 v)) (.cells #[.int .i64 k, .int .i64 v, .int .i64 x, .int .i64 y, .int .i64 s, .int .i64 g] 64) (show w.heap.size + 1 < _ by rw [zs]; omega)).trans (set2_heap (.int .i64 k) (.int .i64 v) O1.out))
        have C6c := Lib.hid ((heap_alloc_old (set2 w1 (w.heap.size + 1) (.int .i64 k) (.int .i64 v)) (.cells #[.int .i64 k, .int .i64 v, .int .i64 x, .int .i64 y, .int .i64 s, .int .i64 g] 64) (show w.heap.size < _ by rw [zs]; omega)).trans ((set2_other (.int .i64 k) (.int .i64 v) (show w.heap.size ≠ w.heap.size + 1 by omega)).trans ((b1.block w.heap.size (by omega)).trans C6.out)))
        have BF := Lib.hid (((((HB.out.trans (b1.mono hz)).setCell (p := ⟨w.heap.size + 1, 0, none⟩) (show w.heap.size ≤ w.heap.size + 1 by omega) (.int .i64 k)).setCell (p := ⟨w.heap.size + 1, 1, none⟩) (show w.heap.size ≤ w.heap.size + 1 by omega) (.int .i64 v)).alloc (show w.heap.size ≤ (set2 w1 (w.heap.size + 1) (.int .i64 k) (.int .i64 v)).heap.size by rw [zs]; omega) (.cells #[.int .i64 k, .int .i64 v, .int .i64 x, .int .i64 y, .int .i64 s, .int .i64 g] 64)).drew)
        clear zs b1
        go_wp2_with fail
        refine start_ (n := 7) (S := fun w' => w'.cell? ⟨w1.heap.size, 0, none⟩ = some (.int .i64 k) ∧ w'.cell? ⟨w1.heap.size, 1, none⟩ = some (.int .i64 v) ∧ w'.cell? ⟨w1.heap.size, 2, none⟩ = some (.int .i64 x)) (ds := []) #[false, false, false, false, false, false, false] (by kernel_rfl) rfl rfl ⟨(cell_blk (i := 0) (w := (w1.alloc _).drew) N1.out rfl), (cell_blk (i := 1) (w := (w1.alloc _).drew) N1.out rfl), (cell_blk (i := 2) (w := (w1.alloc _).drew) N1.out rfl)⟩ (fun hHeld => ?_)
        refine pure_ (i := 0) (N := some 34) (v := ?_) (a' := ?_) #[true, false, false, false, false, false, false] rfl rfl (by kernel_rfl) (fun _ _ _ h => h) (Or.inl ⟨by rfl, ?_⟩) ?_ ?_
        rotate_left
        · intro w'
          go_simp
          with_reducible rfl
        rotate_left
        · simp only [Act.put, List.setIfInBounds_toArray, List.set_cons_zero, List.set_cons_succ, i64_w, i32_w]
          rfl
        refine pure_ (i := 2) (N := some 36) (v := ?_) (a' := ?_) #[true, false, true, false, false, false, false] rfl rfl (by kernel_rfl) (fun _ _ _ h => h) (Or.inl ⟨by rfl, ?_⟩) ?_ ?_
        rotate_left
        · intro w'
          go_simp
          with_reducible rfl
        rotate_left
        · simp only [Act.put, List.setIfInBounds_toArray, List.set_cons_zero, List.set_cons_succ, i64_w, i32_w]
          rfl
        refine take_ (i := 1) (N := some 35) (v := ?_) (a' := ?_) #[true, true, true, false, false, false, false] rfl rfl (by kernel_rfl) (fun _ _ _ h => h) (Or.inl ⟨by rfl, ?_⟩) hHeld ?_ ?_
        rotate_left
        · rintro w' ⟨s0, s1, s2⟩
          go_simp
          with_reducible rfl
        rotate_left
        · simp only [Act.put, List.setIfInBounds_toArray, List.set_cons_zero, List.set_cons_succ, i64_w, i32_w]
          rfl
        refine take_ (i := 3) (N := some 37) (v := ?_) (a' := ?_) #[true, true, true, true, false, false, false] rfl rfl (by kernel_rfl) (fun _ _ _ h => h) (Or.inl ⟨by rfl, ?_⟩) hHeld ?_ ?_
        rotate_left
        · rintro w' ⟨s0, s1, s2⟩
          go_simp
          with_reducible rfl
        rotate_left
        · simp only [Act.put, List.setIfInBounds_toArray, List.set_cons_zero, List.set_cons_succ, i64_w, i32_w]
          rfl
        refine one_ (i := 4) (N := none) #[true, true, true, true, true, false, false] rfl rfl (by kernel_rfl) (by decide) (fun K hK => ?_)
        have x0 := cell_blk (i := 0) O1.out rfl
        have x1 := cell_blk (i := 1) O1.out rfl
        have f0 := free_blk (i := 0) O1.out
        have f1 := free_blk (i := 1) O1.out
        refine skip_ (w1 := ?_) (by rfl) rfl ?_ ?_
        rotate_left
        · go_simp
          rfl
        refine hK.out _ _ ⟨(cell_blk (i := 0) N1s.out rfl), (cell_blk (i := 1) N1s.out rfl), (cell_blk (i := 2) N1s.out rfl)⟩ (fun hHeld => ?_)
        clear hK K
        refine pure_ (i := 5) (N := some 9) (v := ?_) (a' := ?_) #[true, true, true, true, true, true, false] rfl rfl (by kernel_rfl) (fun _ _ _ h => h) (Or.inl ⟨by rfl, ?_⟩) ?_ ?_
        rotate_left
        · intro w'
          go_simp
          with_reducible rfl
        rotate_left
        · simp only [Act.put, List.setIfInBounds_toArray, List.set_cons_zero, List.set_cons_succ, i64_w, i32_w]
          rfl
        refine pure_ (i := 6) (N := some 1) (v := ?_) (a' := ?_) #[true, true, true, true, true, true, true] rfl rfl (by kernel_rfl) (fun _ _ _ h => h) (Or.inl ⟨by rfl, ?_⟩) ?_ ?_
        rotate_left
        · intro w'
          go_simp
          with_reducible rfl
        rotate_left
        · simp only [Act.put, List.setIfInBounds_toArray, List.set_cons_zero, List.set_cons_succ, i64_w, i32_w]
          rfl
        refine done_ (by kernel_rfl) ?_
        go_wp2_with fail
        go_roundw
        case rel => exact ⟨x, l1, k, v, true, t', rfl, rfl, rfl, by have := HX.out.1; omega, Lib.hid ⟨T1.out, Z1.out, HX.out.1, HE.out, BF.out, C6c.out, C8c.out⟩⟩
        case measure =>
          have := HX.out
          simp [intOf]
          omega
      · rw [if_neg hk] at heq
        have HE := Lib.hid heq; clear heq
        go_wp2_with fail
        refine HG.out.mono ?_
        rintro e w1 ⟨rfl, b1⟩
        have z1 := b1.size
        have hlt1 : w.heap.size + 1 < w1.heap.size := by omega
        have C6b := Lib.hid ((heap_alloc_old w1 (.cells #[.int .i64 k, .int .i64 v, .int .i64 x, .int .i64 y, .int .i64 s, .int .i64 g] 64) (show w.heap.size < w1.heap.size by omega)).trans ((b1.block w.heap.size (by omega)).trans C6.out))
        have O1 := Lib.hid ((b1.block (w.heap.size + 1) (by omega)).trans C8.out)
        have C8b := Lib.hid ((heap_alloc_old w1 (.cells #[.int .i64 k, .int .i64 v, .int .i64 x, .int .i64 y, .int .i64 s, .int .i64 g] 64) (show w.heap.size + 1 < w1.heap.size by omega)).trans O1.out)
        have N1 := Lib.hid (heap_alloc_new w1 (.cells #[.int .i64 k, .int .i64 v, .int .i64 x, .int .i64 y, .int .i64 s, .int .i64 g] 64))
        have n0 := cell_blk (i := 0) N1.out rfl
        have n3 := cell_blk (i := 3) N1.out rfl
        have BE := Lib.hid ((HB.out.trans (b1.mono hz)).alloc (by omega) (.cells #[.int .i64 k, .int .i64 v, .int .i64 x, .int .i64 y, .int .i64 s, .int .i64 g] 64)); clear b1
        go_wp2_with fail
        go_roundw
        case rel => exact ⟨y, l2, ok, ov, fb, t', rfl, rfl, rfl, by have := HX.out.2.1; omega, Lib.hid ⟨T2.out, Z2.out, HX.out.2.1, HE.out, BE.out, C6b.out, C8b.out⟩⟩
        case measure =>
          have := HX.out
          simp [intOf]
          omega
end Go.Proofs.Ytabiiggoledipaa
