/- The walk of package part's parts: down to a key. -/
/- The walks of package part's At, Middle and Half. -/
import Derived.Test.YtghjnkfocjjlnaaGreatT00
import Derived.Test.YtghjnkfocjjlnaaGreatT07
import Derived.Test.YtghjnkfocjjlnaaGreatT13
set_option linter.unusedSimpArgs false
set_option linter.unusedVariables false
namespace Go.Proofs.YtghjnkfocjjlnaaGreat
set_option maxRecDepth 100000
open Go.RowKit Go.Proofs.YtghjnkfocjjlnaaGreatW.PrintWords Go.Proofs.YtghjnkfocjjlnaaGreatW.PrintLast
set_option linter.unusedSimpArgs false
set_option linter.unusedVariables false
set_option maxHeartbeats 1000000 in
theorem parts_no {w : World} {po : Option Addr} {A : OA} {F : Nat → Prop} (h : OAt w po A F) (t key : Int) (hn : isN A t = false) :
    Calls Tryz.prog 199 #[.pointer po, .int .i64 t, .int .i64 key] w fun e w' => e = .returned (.tuple #[.int .i64 0, .int .i64 0, .int .i64 0]) ∧ Made F w po A w' := by
  have hg := get_any h t
  rw [hn] at hg
  have HG := Lib.hid hg
  have HH := Lib.hid h
  clear hg h hn
  go_enter Tryz.func199, Tryz.ntmps199
  go_wp2_with fail
  refine HG.out.mono ?_
  rintro e w1 ⟨rfl, b1⟩
  have B1 := Lib.hid b1; clear b1
  go_wp2_with fail
  go_ret3
  exact ⟨rfl, Made.of_below HH.out (B1.out.alloc B1.out.size _)⟩
set_option maxRecDepth 100000 in
set_option maxHeartbeats 8000000 in
theorem parts_any (N : Nat) : ∀ {w : World} {po : Option Addr} {A : OA} {F : Nat → Prop} (_ : OAt w po A F) (t key : Int), t < N →
    Calls Tryz.prog 199 #[.pointer po, .int .i64 t, .int .i64 key] w fun e w' => e = .returned (.tuple #[.int .i64 (partsF N A t key).1, .int .i64 (partsF N A t key).2.1, .int .i64 (partsF N A t key).2.2.1]) ∧ Made F w po (partsF N A t key).2.2.2 w' := by
  induction N with
  | zero =>
    intro w po A F h t key ht
    have hn : isN A t = false := by
      cases hb : isN A t with
      | false => rfl
      | true => have := isN_pos hb; omega
    rw [partsF_no hn]
    exact parts_no h t key hn
  | succ m ih =>
    intro w po A F h t key ht
    by_cases hn : isN A t = true
    · skip
      have hp := isN_pos hn
      have hg := get_any h t
      rw [hn] at hg
      have hh1 := fun w' (hb : Below w.heap.size w w') => hang_part (h.below hb) t (getN A t).left
      have hh2 := fun w' (hb : Below w.heap.size w w') => hang_part (h.below hb) t (getN A t).right
      have hL := (hang_lt A (getN A t).left hp).2
      have hR := (hang_lt A (getN A t).right hp).2
      have hlt := h.lt
      obtain ⟨Q, hQ⟩ : ∃ Q, Q = partsF (m + 1) A t key := ⟨_, rfl⟩
      rw [← hQ]
      simp only [partsF] at hQ
      rw [if_neg (by rw [hn]; decide)] at hQ
      unfold getH at hQ
      simp only [] at hQ
      generalize hangO A t (getN A t).left = L at hh1 hL hQ
      generalize hangO A t (getN A t).right = R at hh2 hR hQ
      generalize getN A t = nd at hg hh1 hh2 hQ
      obtain ⟨k, v, l, r, s, g⟩ := nd
      simp only [] at hg hh1 hh2 hQ
      have hcr := fun w' (hb : Below w.heap.size w w') => ih (h.below hb) R key (by omega)
      have hcl := fun w' (hb : Below w.heap.size w w') => ih (h.below hb) L key (by omega)
      generalize partsF m A R key = QR at hcr hQ
      generalize partsF m A L key = QL at hcl hQ
      obtain ⟨rl, rr, re, RA⟩ := QR
      obtain ⟨ll, lr, le, LA⟩ := QL
      simp only [] at hcr hcl hQ
      have HG := Lib.hid hg
      have HH1 := Lib.hid hh1
      have HH2 := Lib.hid hh2
      have HLT := Lib.hid hlt
      have HCR := Lib.hid hcr
      have HCL := Lib.hid hcl
      have HQ := Lib.hid hQ
      clear hg hh1 hh2 hlt hn hcr hcl hQ hp hL hR ht h ih
      go_enter Tryz.func199, Tryz.ntmps199
      go_wp2_with fail
      refine HG.out.mono ?_
      rintro e w1 ⟨rfl, b1⟩
      have z1 := b1.size
      have B1 := Lib.hid b1; clear b1
      go_wp2_with fail
      have B1d := Lib.hid ((B1.out.alloc B1.out.size (.cells #[.int .i64 k, .int .i64 v, .int .i64 l, .int .i64 r, .int .i64 s, .int .i64 g] 177)).drew)
      have H0 := Lib.hid (heap_alloc_new w1 (.cells #[.int .i64 k, .int .i64 v, .int .i64 l, .int .i64 r, .int .i64 s, .int .i64 g] 177))
      refine start_ (n := 12) (S := fun w' => w'.cell? ⟨w1.heap.size, 2, none⟩ = some (.int .i64 l) ∧ w'.cell? ⟨w1.heap.size, 3, none⟩ = some (.int .i64 r)) (ds := []) (bz 12 0).toArray (by kernel_rfl) rfl rfl ⟨(cell_blk (i := 2) (w := (w1.alloc _).drew) H0.out rfl), (cell_blk (i := 3) (w := (w1.alloc _).drew) H0.out rfl)⟩ (fun hHeld => ?_)
      refine pure_ (i := 0) (N := some 27) (v := ?_) (a' := ?_) (bz 12 1).toArray rfl rfl (by kernel_rfl) (fun _ _ _ h => h) (Or.inl ⟨by rfl, ?_⟩) ?_ ?_
      rotate_left
      · intro w'
        go_simp
        with_reducible rfl
      rotate_left
      · simp only [Act.put, sqA, sqZ, sqS, i64_w, i32_w]
        rfl
      refine pure_ (i := 1) (N := some 28) (v := ?_) (a' := ?_) (bz 12 3).toArray rfl rfl (by kernel_rfl) (fun _ _ _ h => h) (Or.inl ⟨by rfl, ?_⟩) ?_ ?_
      rotate_left
      · intro w'
        go_simp
        with_reducible rfl
      rotate_left
      · simp only [Act.put, sqA, sqZ, sqS, i64_w, i32_w]
        rfl
      refine pure_ (i := 2) (N := some 29) (v := ?_) (a' := ?_) (bz 12 7).toArray rfl rfl (by kernel_rfl) (fun _ _ _ h => h) (Or.inl ⟨by rfl, ?_⟩) ?_ ?_
      rotate_left
      · intro w'
        go_simp
        with_reducible rfl
      rotate_left
      · simp only [Act.put, sqA, sqZ, sqS, i64_w, i32_w]
        rfl
      refine pure_ (i := 5) (N := some 32) (v := ?_) (a' := ?_) (bz 12 39).toArray rfl rfl (by kernel_rfl) (fun _ _ _ h => h) (Or.inl ⟨by rfl, ?_⟩) ?_ ?_
      rotate_left
      · intro w'
        go_simp
        with_reducible rfl
      rotate_left
      · simp only [Act.put, sqA, sqZ, sqS, i64_w, i32_w]
        rfl
      refine pure_ (i := 6) (N := some 33) (v := ?_) (a' := ?_) (bz 12 103).toArray rfl rfl (by kernel_rfl) (fun _ _ _ h => h) (Or.inl ⟨by rfl, ?_⟩) ?_ ?_
      rotate_left
      · intro w'
        go_simp
        with_reducible rfl
      rotate_left
      · simp only [Act.put, sqA, sqZ, sqS, i64_w, i32_w]
        rfl
      refine pure_ (i := 7) (N := some 34) (v := ?_) (a' := ?_) (bz 12 231).toArray rfl rfl (by kernel_rfl) (fun _ _ _ h => h) (Or.inl ⟨by rfl, ?_⟩) ?_ ?_
      rotate_left
      · intro w'
        go_simp
        with_reducible rfl
      rotate_left
      · simp only [Act.put, sqA, sqZ, sqS, i64_w, i32_w]
        rfl
      refine take_ (i := 3) (N := some 30) (v := ?_) (a' := ?_) (bz 12 239).toArray rfl rfl (by kernel_rfl) (fun _ _ _ h => h) (Or.inl ⟨by rfl, ?_⟩) hHeld ?_ ?_
      rotate_left
      · rintro w' ⟨s0, s1⟩
        go_simp
        with_reducible rfl
      rotate_left
      · simp only [Act.put, sqA, sqZ, sqS, i64_w, i32_w]
        rfl
      refine take_ (i := 8) (N := some 35) (v := ?_) (a' := ?_) (bz 12 495).toArray rfl rfl (by kernel_rfl) (fun _ _ _ h => h) (Or.inl ⟨by rfl, ?_⟩) hHeld ?_ ?_
      rotate_left
      · rintro w' ⟨s0, s1⟩
        go_simp
        with_reducible rfl
      rotate_left
      · simp only [Act.put, sqA, sqZ, sqS, i64_w, i32_w]
        rfl
      refine one_ (i := 4) (N := some 31) (bz 12 511).toArray rfl rfl (by kernel_rfl) (by decide) (fun K hK => ?_)
      refine goes_ Tryz.func205 (by kernel_rfl) rfl #[.pointer po, .int .i64 t, .int .i64 l] (by rfl) rfl rfl (by simp only [List.map_toArray, List.map_cons, List.map_nil]; rfl) ?_
      with_reducible refine (HH1.out _ B1d.out).mono ?_
      rintro e w2 ⟨rfl, b2⟩
      refine ⟨_, rfl, ?_⟩
      have z2 := b2.size
      simp at z2
      have H2 := Lib.hid ((b2.block w1.heap.size (by simp)).trans H0.out)
      have B2 := Lib.hid (B1d.out.trans (b2.mono B1d.out.size))
      refine hK.out _ _ ⟨((b2.cell (by simp <;> omega)).trans hHeld.1), ((b2.cell (by simp <;> omega)).trans hHeld.2)⟩ (fun hHeld => ?_)
      clear hK K
      refine norm_ (a' := ?_) ?_ ?_
      rotate_left
      · show Act.put _ (some 31) _ = _
        simp only [Act.put, sqA, sqZ, sqS, i64_w, i32_w]
        rfl
      refine one_ (i := 9) (N := some 36) (bz 12 1023).toArray rfl rfl (by kernel_rfl) (by decide) (fun K hK => ?_)
      refine goes_ Tryz.func205 (by kernel_rfl) rfl #[.pointer po, .int .i64 t, .int .i64 r] (by rfl) rfl rfl (by simp only [List.map_toArray, List.map_cons, List.map_nil]; rfl) ?_
      with_reducible refine (HH2.out _ B2.out).mono ?_
      rintro e w3 ⟨rfl, b3⟩
      refine ⟨_, rfl, ?_⟩
      have z3 := b3.size
      have H3 := Lib.hid ((b3.block w1.heap.size (by omega)).trans H2.out)
      have B3 := Lib.hid (B2.out.trans (b3.mono B2.out.size))
      refine hK.out _ _ ⟨((b3.cell (by simp <;> omega)).trans hHeld.1), ((b3.cell (by simp <;> omega)).trans hHeld.2)⟩ (fun hHeld => ?_)
      clear hK K
      refine norm_ (a' := ?_) ?_ ?_
      rotate_left
      · show Act.put _ (some 36) _ = _
        simp only [Act.put, sqA, sqZ, sqS, i64_w, i32_w]
        rfl
      refine pure_ (i := 10) (N := some 11) (v := ?_) (a' := ?_) (bz 12 2047).toArray rfl rfl (by kernel_rfl) (fun _ _ _ h => h) (Or.inl ⟨by rfl, ?_⟩) ?_ ?_
      rotate_left
      · intro w'
        go_simp
        with_reducible rfl
      rotate_left
      · simp only [Act.put, sqA, sqZ, sqS, i64_w, i32_w]
        rfl
      refine pure_ (i := 11) (N := some 12) (v := ?_) (a' := ?_) (bz 12 4095).toArray rfl rfl (by kernel_rfl) (fun _ _ _ h => h) (Or.inl ⟨by rfl, ?_⟩) ?_ ?_
      rotate_left
      · intro w'
        go_simp
        with_reducible rfl
      rotate_left
      · simp only [Act.put, sqA, sqZ, sqS, i64_w, i32_w]
        rfl
      refine done_ (by kernel_rfl) ?_
      have x0 := cell_blk (i := 0) H3.out rfl
      have x1 := cell_blk (i := 1) H3.out rfl
      by_cases hk : k < key
      · have hq := HQ.out
        rw [if_pos hk] at hq
        have HQ2 := Lib.hid hq; clear hq HQ
        go_wp2_with fail
        refine (HCR.out w3 B3.out).mono ?_
        rintro e w4 ⟨rfl, m4⟩
        obtain ⟨F4, o4, g4⟩ := Made.out m4
        have hF : ¬ F w1.heap.size := fun hf => by have := HLT.out _ hf; omega
        have H4 := Lib.hid ((g4.1.block w1.heap.size (by have := (Array.getElem?_eq_some_iff.1 H3.out).1; omega) hF).trans H3.out)
        clear hF
        have G4 := Lib.hid ((Grow.of_below (F := F) B3.out).trans g4)
        have O4 := Lib.hid o4
        clear g4 o4 m4
        clear x0 x1
        have hq := HQ2.out
        by_cases h0 : re = 0
        · subst h0
          rw [if_pos rfl] at hq
          have hm := fun w' F' (o : OAt w' po RA F') => nmake_any o k v L rl
          generalize makeN RA k v L rl = M at hm hq
          obtain ⟨mn, me, MA⟩ := M
          simp only [] at hm hq
          subst hq
          have HM := Lib.hid hm; clear hm HQ2
          have x0 := cell_blk (i := 0) H4.out rfl
          have x1 := cell_blk (i := 1) H4.out rfl
          go_wp2_with fail
          refine (HM.out w4 F4 O4.out).mono ?_
          rintro e w5 ⟨rfl, m5⟩
          obtain ⟨F5, o5, g5⟩ := Made.out m5
          have G5 := Lib.hid (G4.out.trans g5)
          have O5 := Lib.hid o5
          clear g5 o5 m5
          clear x0 x1
          go_wp2_with fail
          go_ret3
          exact ⟨rfl, Made.of_grow G5.out O5.out⟩
        · rw [if_neg h0] at hq
          subst hq
          have q0 : (re == 0) = false := beq_eq_false_iff_ne.2 h0
          have q1 : (re != 0) = true := by rw [bne, q0]; rfl
          clear h0 HQ2
          go_wp2_with fail
          go_ret3
          exact ⟨rfl, Made.of_grow G4.out O4.out⟩
      · have hq := HQ.out
        rw [if_neg hk] at hq
        have HQ2 := Lib.hid hq; clear hq HQ
        go_wp2_with fail
        refine (HCL.out w3 B3.out).mono ?_
        rintro e w4 ⟨rfl, m4⟩
        obtain ⟨F4, o4, g4⟩ := Made.out m4
        have hF : ¬ F w1.heap.size := fun hf => by have := HLT.out _ hf; omega
        have H4 := Lib.hid ((g4.1.block w1.heap.size (by have := (Array.getElem?_eq_some_iff.1 H3.out).1; omega) hF).trans H3.out)
        clear hF
        have G4 := Lib.hid ((Grow.of_below (F := F) B3.out).trans g4)
        have O4 := Lib.hid o4
        clear g4 o4 m4
        clear x0 x1
        have hq := HQ2.out
        by_cases h0 : le = 0
        · subst h0
          rw [if_pos rfl] at hq
          have hm := fun w' F' (o : OAt w' po LA F') => nmake_any o k v lr R
          generalize makeN LA k v lr R = M at hm hq
          obtain ⟨mn, me, MA⟩ := M
          simp only [] at hm hq
          subst hq
          have HM := Lib.hid hm; clear hm HQ2
          have x0 := cell_blk (i := 0) H4.out rfl
          have x1 := cell_blk (i := 1) H4.out rfl
          go_wp2_with fail
          refine (HM.out w4 F4 O4.out).mono ?_
          rintro e w5 ⟨rfl, m5⟩
          obtain ⟨F5, o5, g5⟩ := Made.out m5
          have G5 := Lib.hid (G4.out.trans g5)
          have O5 := Lib.hid o5
          clear g5 o5 m5
          clear x0 x1
          go_wp2_with fail
          go_ret3
          exact ⟨rfl, Made.of_grow G5.out O5.out⟩
        · rw [if_neg h0] at hq
          subst hq
          have q0 : (le == 0) = false := beq_eq_false_iff_ne.2 h0
          have q1 : (le != 0) = true := by rw [bne, q0]; rfl
          clear h0 HQ2
          go_wp2_with fail
          go_ret3
          exact ⟨rfl, Made.of_grow G4.out O4.out⟩
    · have hn2 : isN A t = false := by simpa using hn
      rw [partsF_no hn2]
      exact parts_no h t key hn2
end Go.Proofs.YtghjnkfocjjlnaaGreat
namespace Go.Proofs.YtghjnkfocjjlnaaGreat
set_option maxRecDepth 100000
open Go.RowKit
set_option linter.unusedSimpArgs false
set_option linter.unusedVariables false
set_option maxRecDepth 100000 in
set_option maxHeartbeats 4000000 in
theorem partO_any {w : World} {po : Option Addr} {A : OA} {F : Nat → Prop} (h : OAt w po A F) (t key : Int) :
    Calls Tryz.prog 191 #[.pointer po, .int .i64 t, .int .i64 key] w fun e w' => e = .returned (.tuple #[.int .i64 (partO A t key).1, .int .i64 (partO A t key).2.1, .int .i64 (partO A t key).2.2.1]) ∧ Made F w po (partO A t key).2.2.2 w' := by
  have HH := Lib.hid h
  have HLT := Lib.hid h.lt
  have his := is_part h t
  clear h
  by_cases hi : isT A t = false
  · rw [show partO A t key = (0, 0, 1, A) by unfold partO; rw [if_pos hi]]
    rw [hi] at his
    have HI := Lib.hid his; clear his hi
    go_enter Tryz.func191, Tryz.ntmps191
    go_wp2_with fail
    refine HI.out.mono ?_
    rintro e w1 ⟨rfl, b1⟩
    have B1 := Lib.hid b1; clear b1
    go_wp2_with fail
    go_ret3
    exact ⟨rfl, Made.of_below HH.out B1.out⟩
  · have hi2 : isT A t = true := by simpa using hi
    rw [hi2] at his
    have HI := Lib.hid his; clear his
    obtain ⟨Q, hQ⟩ : ∃ Q, Q = partO A t key := ⟨_, rfl⟩
    rw [← hQ]
    unfold partO at hQ
    rw [if_neg hi] at hQ
    have hc := fun w' (hb : Below w.heap.size w w') => parts_any (fuel t) (HH.out.below hb) t key (lt_fuel t)
    generalize partsF (fuel t) A t key = P at hc hQ
    obtain ⟨x, y, pe, PA⟩ := P
    simp only [] at hc hQ
    have HC := Lib.hid hc
    have HQ := Lib.hid hQ
    clear hc hQ hi hi2
    go_enter Tryz.func191, Tryz.ntmps191
    go_wp2_with fail
    refine HI.out.mono ?_
    rintro e w1 ⟨rfl, b1⟩
    have B1 := Lib.hid b1; clear b1
    go_wp2_with fail
    refine (HC.out _ B1.out).mono ?_
    rintro e w2 ⟨rfl, m2⟩
    obtain ⟨F2, o2, g2⟩ := Made.out m2
    have G2 := Lib.hid ((Grow.of_below (F := F) B1.out).trans g2)
    have O2 := Lib.hid o2
    clear g2 o2 m2
    have hq := HQ.out
    by_cases h0 : pe = 0
    · subst h0
      rw [if_pos rfl] at hq
      subst hq
      go_wp2_with fail
      go_ret3
      exact ⟨rfl, Made.of_grow G2.out O2.out⟩
    · rw [if_neg h0] at hq
      subst hq
      have q0 : (pe == 0) = false := beq_eq_false_iff_ne.2 h0
      have q1 : (pe != 0) = true := by rw [bne, q0]; rfl
      clear h0
      go_wp2_with fail
      go_ret3
      exact ⟨rfl, Made.of_grow G2.out O2.out⟩
set_option maxRecDepth 100000 in
set_option maxHeartbeats 4000000 in
theorem middle_any {w : World} {po : Option Addr} {A : OA} {F : Nat → Prop} (h : OAt w po A F) (t : Int) :
    Calls Tryz.prog 190 #[.pointer po, .int .i64 t] w fun e w' => e = .returned (.tuple #[.int .i64 (midO A t).1, .bool (midO A t).2]) ∧ Below w.heap.size w w' := by
  obtain ⟨Q, hQ⟩ : ∃ Q, Q = midO A t := ⟨_, rfl⟩
  rw [← hQ]
  unfold midO at hQ
  have hs := lsize_any h t
  rw [show (getN A t).size = sizeO A t from rfl] at hs
  have hc := fun w' (hb : Below w.heap.size w w') => lookNth_any (h.below hb) (fuel t) t (wrap64 ((sizeO A t).tdiv 2)) (lt_fuel t)
  generalize nthO (fuel t) A t (wrap64 ((sizeO A t).tdiv 2)) = N at hc hQ
  generalize sizeO A t = s at hs hc hQ
  obtain ⟨k, v, ok⟩ := N
  simp only [] at hc hQ
  have HS := Lib.hid hs
  have HC := Lib.hid hc
  have HQ := Lib.hid hQ
  clear hs hc hQ h
  go_enter Tryz.func190, Tryz.ntmps190
  go_wp2_with fail
  refine HS.out.mono ?_
  rintro e w1 ⟨rfl, b1⟩
  have B1 := Lib.hid b1; clear b1
  have hq := HQ.out
  by_cases h2 : s < 2
  · rw [if_pos h2] at hq
    subst hq
    clear HQ
    go_wp2_with fail
    go_ret2
    exact ⟨rfl, B1.out⟩
  · rw [if_neg h2] at hq
    subst hq
    clear HQ
    go_wp2_with fail
    refine (HC.out _ B1.out).mono ?_
    rintro e w2 ⟨rfl, b2⟩
    have B2 := Lib.hid (B1.out.trans (b2.mono B1.out.size)); clear b2
    have E2 := Lib.hid (heap_alloc_new w2 (.cells #[.int .i64 k, .int .i64 v] 43))
    have p0 := cell_blk (i := 0) E2.out rfl
    have p1 := cell_blk (i := 1) E2.out rfl
    go_wp2_with fail
    go_ret2
    exact ⟨rfl, B2.out.alloc B2.out.size _⟩
set_option maxRecDepth 100000 in
set_option maxHeartbeats 4000000 in
theorem halfO_any {w : World} {po : Option Addr} {A : OA} {F : Nat → Prop} (h : OAt w po A F) (t : Int) :
    Calls Tryz.prog 166 #[.pointer po, .int .i64 t] w fun e w' => e = .returned (.tuple #[.int .i64 (halfO A t).1, .int .i64 (halfO A t).2.1, .int .i64 (halfO A t).2.2.1, .int .i64 (halfO A t).2.2.2.1]) ∧ Made F w po (halfO A t).2.2.2.2 w' := by
  have HH := Lib.hid h
  have HLT := Lib.hid h.lt
  have his := is_part h t
  clear h
  by_cases hi : isT A t = false
  · rw [show halfO A t = (0, 0, 0, 1, A) by unfold halfO; rw [if_pos hi]]
    rw [hi] at his
    have HI := Lib.hid his; clear his hi
    go_enter Tryz.func166, Tryz.ntmps166
    go_wp2_with fail
    refine HI.out.mono ?_
    rintro e w1 ⟨rfl, b1⟩
    have B1 := Lib.hid b1; clear b1
    go_wp2_with fail
    refine bodyPost_ret (v := .tuple #[.int .i64 0, .int .i64 0, .int .i64 0, .int .i64 1]) (by simp [results, Tryz.results166, go_sem]) rfl ⟨rfl, Made.of_below HH.out B1.out⟩
  · have hi2 : isT A t = true := by simpa using hi
    rw [hi2] at his
    have HI := Lib.hid his; clear his
    obtain ⟨Q, hQ⟩ : ∃ Q, Q = halfO A t := ⟨_, rfl⟩
    rw [← hQ]
    unfold halfO at hQ
    rw [if_neg hi] at hQ
    have hm := fun w' (hb : Below w.heap.size w w') => middle_any (HH.out.below hb) t
    generalize midO A t = M at hm hQ
    obtain ⟨key, ok⟩ := M
    simp only [] at hm hQ
    have hc := fun w' (hb : Below w.heap.size w w') => partO_any (HH.out.below hb) t key
    generalize partO A t key = P at hc hQ
    obtain ⟨x, y, pe, PA⟩ := P
    simp only [] at hc hQ
    have HM := Lib.hid hm
    have HC := Lib.hid hc
    have HQ := Lib.hid hQ
    clear hm hc hQ hi hi2
    go_enter Tryz.func166, Tryz.ntmps166
    go_wp2_with fail
    refine HI.out.mono ?_
    rintro e w1 ⟨rfl, b1⟩
    have B1 := Lib.hid b1; clear b1
    go_wp2_with fail
    refine (HM.out _ B1.out).mono ?_
    rintro e w2 ⟨rfl, b2⟩
    have B2 := Lib.hid (B1.out.trans (b2.mono B1.out.size)); clear b2
    have hq := HQ.out
    cases ok with
    | false =>
      rw [if_pos rfl] at hq
      subst hq
      go_wp2_with fail
      refine bodyPost_ret (v := .tuple #[.int .i64 0, .int .i64 0, .int .i64 0, .int .i64 3]) (by simp [results, Tryz.results166, go_sem]) rfl ⟨rfl, Made.of_below HH.out B2.out⟩
    | true =>
      rw [if_neg (by decide)] at hq
      have HQ2 := Lib.hid hq; clear hq HQ
      go_wp2_with fail
      refine (HC.out _ B2.out).mono ?_
      rintro e w3 ⟨rfl, m3⟩
      obtain ⟨F3, o3, g3⟩ := Made.out m3
      have G3 := Lib.hid ((Grow.of_below (F := F) B2.out).trans g3)
      have O3 := Lib.hid o3
      clear g3 o3 m3
      have hq := HQ2.out
      by_cases h0 : pe = 0
      · subst h0
        rw [if_pos rfl] at hq
        subst hq
        go_wp2_with fail
        refine bodyPost_ret (v := .tuple #[.int .i64 key, .int .i64 x, .int .i64 y, .int .i64 0]) (by simp [results, Tryz.results166, go_sem]) rfl ⟨rfl, Made.of_grow G3.out O3.out⟩
      · rw [if_neg h0] at hq
        subst hq
        have q0 : (pe == 0) = false := beq_eq_false_iff_ne.2 h0
        have q1 : (pe != 0) = true := by rw [bne, q0]; rfl
        clear h0
        go_wp2_with fail
        refine bodyPost_ret (v := .tuple #[.int .i64 0, .int .i64 0, .int .i64 0, .int .i64 pe]) (by simp [results, Tryz.results166, go_sem]) rfl ⟨rfl, Made.of_grow G3.out O3.out⟩
end Go.Proofs.YtghjnkfocjjlnaaGreat
