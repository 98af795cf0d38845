/- The walk of package put's split: down to a key. -/
/- The walk of package put's put: a pair more. -/
/- The walks of is: is there such a treap. -/
import Derived.Test.YtghjnkfocjjlnaaGreatT00
import Derived.Test.YtghjnkfocjjlnaaGreatT07
set_option linter.unusedSimpArgs false
set_option linter.unusedVariables false
section
namespace Go.Proofs.YtghjnkfocjjlnaaGreat
set_option maxRecDepth 100000
open Go.RowKit Go.Proofs.YtghjnkfocjjlnaaGreatW.PrintWords Go.Proofs.YtghjnkfocjjlnaaGreatW.PrintLast
set_option linter.unusedSimpArgs false
set_option linter.unusedVariables false
set_option maxHeartbeats 1000000 in
theorem split_no {w : World} {po : Option Addr} {A : OA} {F : Nat → Prop} (h : OAt w po A F) (t key : Int) (hn : isN A t = false) :
    Calls Tryz.prog 186 #[.pointer po, .int .i64 t, .int .i64 key] w fun e w' => e = .returned (.tuple #[.int .i64 0, .int .i64 0, .int .i64 0]) ∧ Made F w po A w' := by
  have hg := get_any h t
  rw [hn] at hg
  have HG := Lib.hid hg
  have HH := Lib.hid h
  clear hg h hn
  go_enter Tryz.func186, Tryz.ntmps186
  go_wp2_with fail
  refine HG.out.mono ?_
  rintro e w1 ⟨rfl, b1⟩
  have B1 := Lib.hid b1; clear b1
  go_wp2_with fail
  go_ret3
  exact ⟨rfl, Made.of_below HH.out (B1.out.alloc B1.out.size _)⟩
set_option maxRecDepth 100000 in
set_option maxHeartbeats 8000000 in
theorem split_any (N : Nat) : ∀ {w : World} {po : Option Addr} {A : OA} {F : Nat → Prop} (_ : OAt w po A F) (t key : Int), t < N →
    Calls Tryz.prog 186 #[.pointer po, .int .i64 t, .int .i64 key] w fun e w' => e = .returned (.tuple #[.int .i64 (splitF N A t key).1, .int .i64 (splitF N A t key).2.1, .int .i64 (splitF N A t key).2.2.1]) ∧ Made F w po (splitF N A t key).2.2.2 w' := by
  induction N with
  | zero =>
    intro w po A F h t key ht
    have hn : isN A t = false := by
      cases hb : isN A t with
      | false => rfl
      | true => have := isN_pos hb; omega
    rw [splitF_no hn]
    exact split_no h t key hn
  | succ m ih =>
    intro w po A F h t key ht
    by_cases hn : isN A t = true
    · skip
      have hp := isN_pos hn
      have hg := get_any h t
      rw [hn] at hg
      have hh1 := fun w' (hb : Below w.heap.size w w') => hang_put (h.below hb) t (getN A t).left
      have hh2 := fun w' (hb : Below w.heap.size w w') => hang_put (h.below hb) t (getN A t).right
      have hL := (hang_lt A (getN A t).left hp).2
      have hR := (hang_lt A (getN A t).right hp).2
      have hlt := h.lt
      obtain ⟨Q, hQ⟩ : ∃ Q, Q = splitF (m + 1) A t key := ⟨_, rfl⟩
      rw [← hQ]
      simp only [splitF] at hQ
      rw [if_neg (by rw [hn]; decide)] at hQ
      unfold getH at hQ
      simp only [] at hQ
      generalize hangO A t (getN A t).left = L at hh1 hL hQ
      generalize hangO A t (getN A t).right = R at hh2 hR hQ
      generalize getN A t = nd at hg hh1 hh2 hQ
      obtain ⟨k, v, l, r, s, g⟩ := nd
      simp only [] at hg hh1 hh2 hQ
      have hcr := fun w' (hb : Below w.heap.size w w') => ih (h.below hb) R key (by omega)
      have hcl := fun w' (hb : Below w.heap.size w w') => ih (h.below hb) L key (by omega)
      generalize splitF m A R key = QR at hcr hQ
      generalize splitF m A L key = QL at hcl hQ
      obtain ⟨rl, rr, re, RA⟩ := QR
      obtain ⟨ll, lr, le, LA⟩ := QL
      simp only [] at hcr hcl hQ
      have HG := Lib.hid hg
      have HH1 := Lib.hid hh1
      have HH2 := Lib.hid hh2
      have HLT := Lib.hid hlt
      have HCR := Lib.hid hcr
      have HCL := Lib.hid hcl
      have HQ := Lib.hid hQ
      clear hg hh1 hh2 hlt hn hcr hcl hQ hp hL hR ht h ih
      go_enter Tryz.func186, Tryz.ntmps186
      go_wp2_with fail
      refine HG.out.mono ?_
      rintro e w1 ⟨rfl, b1⟩
      have z1 := b1.size
      have B1 := Lib.hid b1; clear b1
      go_wp2_with fail
      have B1d := Lib.hid ((B1.out.alloc B1.out.size (.cells #[.int .i64 k, .int .i64 v, .int .i64 l, .int .i64 r, .int .i64 s, .int .i64 g] 177)).drew)
      have H0 := Lib.hid (heap_alloc_new w1 (.cells #[.int .i64 k, .int .i64 v, .int .i64 l, .int .i64 r, .int .i64 s, .int .i64 g] 177))
      refine start_ (n := 12) (S := fun w' => w'.cell? ⟨w1.heap.size, 2, none⟩ = some (.int .i64 l) ∧ w'.cell? ⟨w1.heap.size, 3, none⟩ = some (.int .i64 r)) (ds := []) (bz 12 0).toArray (by kernel_rfl) rfl rfl ⟨(cell_blk (i := 2) (w := (w1.alloc _).drew) H0.out rfl), (cell_blk (i := 3) (w := (w1.alloc _).drew) H0.out rfl)⟩ (fun hHeld => ?_)
      refine pure_ (i := 0) (N := some 21) (v := ?_) (a' := ?_) (bz 12 1).toArray rfl rfl (by kernel_rfl) (fun _ _ _ h => h) (Or.inl ⟨by rfl, ?_⟩) ?_ ?_
      rotate_left
      · intro w'
        go_simp
        with_reducible rfl
      rotate_left
      · simp only [Act.put, sqA, sqZ, sqS, i64_w, i32_w]
        rfl
      refine pure_ (i := 1) (N := some 22) (v := ?_) (a' := ?_) (bz 12 3).toArray rfl rfl (by kernel_rfl) (fun _ _ _ h => h) (Or.inl ⟨by rfl, ?_⟩) ?_ ?_
      rotate_left
      · intro w'
        go_simp
        with_reducible rfl
      rotate_left
      · simp only [Act.put, sqA, sqZ, sqS, i64_w, i32_w]
        rfl
      refine pure_ (i := 2) (N := some 23) (v := ?_) (a' := ?_) (bz 12 7).toArray rfl rfl (by kernel_rfl) (fun _ _ _ h => h) (Or.inl ⟨by rfl, ?_⟩) ?_ ?_
      rotate_left
      · intro w'
        go_simp
        with_reducible rfl
      rotate_left
      · simp only [Act.put, sqA, sqZ, sqS, i64_w, i32_w]
        rfl
      refine pure_ (i := 5) (N := some 26) (v := ?_) (a' := ?_) (bz 12 39).toArray rfl rfl (by kernel_rfl) (fun _ _ _ h => h) (Or.inl ⟨by rfl, ?_⟩) ?_ ?_
      rotate_left
      · intro w'
        go_simp
        with_reducible rfl
      rotate_left
      · simp only [Act.put, sqA, sqZ, sqS, i64_w, i32_w]
        rfl
      refine pure_ (i := 6) (N := some 27) (v := ?_) (a' := ?_) (bz 12 103).toArray rfl rfl (by kernel_rfl) (fun _ _ _ h => h) (Or.inl ⟨by rfl, ?_⟩) ?_ ?_
      rotate_left
      · intro w'
        go_simp
        with_reducible rfl
      rotate_left
      · simp only [Act.put, sqA, sqZ, sqS, i64_w, i32_w]
        rfl
      refine pure_ (i := 7) (N := some 28) (v := ?_) (a' := ?_) (bz 12 231).toArray rfl rfl (by kernel_rfl) (fun _ _ _ h => h) (Or.inl ⟨by rfl, ?_⟩) ?_ ?_
      rotate_left
      · intro w'
        go_simp
        with_reducible rfl
      rotate_left
      · simp only [Act.put, sqA, sqZ, sqS, i64_w, i32_w]
        rfl
      refine take_ (i := 3) (N := some 24) (v := ?_) (a' := ?_) (bz 12 239).toArray rfl rfl (by kernel_rfl) (fun _ _ _ h => h) (Or.inl ⟨by rfl, ?_⟩) hHeld ?_ ?_
      rotate_left
      · rintro w' ⟨s0, s1⟩
        go_simp
        with_reducible rfl
      rotate_left
      · simp only [Act.put, sqA, sqZ, sqS, i64_w, i32_w]
        rfl
      refine take_ (i := 8) (N := some 29) (v := ?_) (a' := ?_) (bz 12 495).toArray rfl rfl (by kernel_rfl) (fun _ _ _ h => h) (Or.inl ⟨by rfl, ?_⟩) hHeld ?_ ?_
      rotate_left
      · rintro w' ⟨s0, s1⟩
        go_simp
        with_reducible rfl
      rotate_left
      · simp only [Act.put, sqA, sqZ, sqS, i64_w, i32_w]
        rfl
      refine one_ (i := 4) (N := some 25) (bz 12 511).toArray rfl rfl (by kernel_rfl) (by decide) (fun K hK => ?_)
      refine goes_ Tryz.func185 (by kernel_rfl) rfl #[.pointer po, .int .i64 t, .int .i64 l] (by rfl) rfl rfl (by simp only [List.map_toArray, List.map_cons, List.map_nil]; rfl) ?_
      with_reducible refine (HH1.out _ B1d.out).mono ?_
      rintro e w2 ⟨rfl, b2⟩
      refine ⟨_, rfl, ?_⟩
      have z2 := b2.size
      simp at z2
      have H2 := Lib.hid ((b2.block w1.heap.size (by simp)).trans H0.out)
      have B2 := Lib.hid (B1d.out.trans (b2.mono B1d.out.size))
      refine hK.out _ _ ⟨((b2.cell (by simp <;> omega)).trans hHeld.1), ((b2.cell (by simp <;> omega)).trans hHeld.2)⟩ (fun hHeld => ?_)
      clear hK K
      refine norm_ (a' := ?_) ?_ ?_
      rotate_left
      · show Act.put _ (some 25) _ = _
        simp only [Act.put, sqA, sqZ, sqS, i64_w, i32_w]
        rfl
      refine one_ (i := 9) (N := some 30) (bz 12 1023).toArray rfl rfl (by kernel_rfl) (by decide) (fun K hK => ?_)
      refine goes_ Tryz.func185 (by kernel_rfl) rfl #[.pointer po, .int .i64 t, .int .i64 r] (by rfl) rfl rfl (by simp only [List.map_toArray, List.map_cons, List.map_nil]; rfl) ?_
      with_reducible refine (HH2.out _ B2.out).mono ?_
      rintro e w3 ⟨rfl, b3⟩
      refine ⟨_, rfl, ?_⟩
      have z3 := b3.size
      have H3 := Lib.hid ((b3.block w1.heap.size (by omega)).trans H2.out)
      have B3 := Lib.hid (B2.out.trans (b3.mono B2.out.size))
      refine hK.out _ _ ⟨((b3.cell (by simp <;> omega)).trans hHeld.1), ((b3.cell (by simp <;> omega)).trans hHeld.2)⟩ (fun hHeld => ?_)
      clear hK K
      refine norm_ (a' := ?_) ?_ ?_
      rotate_left
      · show Act.put _ (some 30) _ = _
        simp only [Act.put, sqA, sqZ, sqS, i64_w, i32_w]
        rfl
      refine pure_ (i := 10) (N := some 11) (v := ?_) (a' := ?_) (bz 12 2047).toArray rfl rfl (by kernel_rfl) (fun _ _ _ h => h) (Or.inl ⟨by rfl, ?_⟩) ?_ ?_
      rotate_left
      · intro w'
        go_simp
        with_reducible rfl
      rotate_left
      · simp only [Act.put, sqA, sqZ, sqS, i64_w, i32_w]
        rfl
      refine pure_ (i := 11) (N := some 12) (v := ?_) (a' := ?_) (bz 12 4095).toArray rfl rfl (by kernel_rfl) (fun _ _ _ h => h) (Or.inl ⟨by rfl, ?_⟩) ?_ ?_
      rotate_left
      · intro w'
        go_simp
        with_reducible rfl
      rotate_left
      · simp only [Act.put, sqA, sqZ, sqS, i64_w, i32_w]
        rfl
      refine done_ (by kernel_rfl) ?_
      have x0 := cell_blk (i := 0) H3.out rfl
      have x1 := cell_blk (i := 1) H3.out rfl
      by_cases hk : k < key
      · have hq := HQ.out
        rw [if_pos hk] at hq
        have HQ2 := Lib.hid hq; clear hq HQ
        go_wp2_with fail
        refine (HCR.out w3 B3.out).mono ?_
        rintro e w4 ⟨rfl, m4⟩
        obtain ⟨F4, o4, g4⟩ := Made.out m4
        have hF : ¬ F w1.heap.size := fun hf => by have := HLT.out _ hf; omega
        have H4 := Lib.hid ((g4.1.block w1.heap.size (by have := (Array.getElem?_eq_some_iff.1 H3.out).1; omega) hF).trans H3.out)
        clear hF
        have G4 := Lib.hid ((Grow.of_below (F := F) B3.out).trans g4)
        have O4 := Lib.hid o4
        clear g4 o4 m4
        clear x0 x1
        have hq := HQ2.out
        by_cases h0 : re = 0
        · subst h0
          rw [if_pos rfl] at hq
          have hm := fun w' F' (o : OAt w' po RA F') => nmake_any o k v L rl
          generalize makeN RA k v L rl = M at hm hq
          obtain ⟨mn, me, MA⟩ := M
          simp only [] at hm hq
          subst hq
          have HM := Lib.hid hm; clear hm HQ2
          have x0 := cell_blk (i := 0) H4.out rfl
          have x1 := cell_blk (i := 1) H4.out rfl
          go_wp2_with fail
          refine (HM.out w4 F4 O4.out).mono ?_
          rintro e w5 ⟨rfl, m5⟩
          obtain ⟨F5, o5, g5⟩ := Made.out m5
          have G5 := Lib.hid (G4.out.trans g5)
          have O5 := Lib.hid o5
          clear g5 o5 m5
          clear x0 x1
          go_wp2_with fail
          go_ret3
          exact ⟨rfl, Made.of_grow G5.out O5.out⟩
        · rw [if_neg h0] at hq
          subst hq
          have q0 : (re == 0) = false := beq_eq_false_iff_ne.2 h0
          have q1 : (re != 0) = true := by rw [bne, q0]; rfl
          clear h0 HQ2
          go_wp2_with fail
          go_ret3
          exact ⟨rfl, Made.of_grow G4.out O4.out⟩
      · have hq := HQ.out
        rw [if_neg hk] at hq
        have HQ2 := Lib.hid hq; clear hq HQ
        go_wp2_with fail
        refine (HCL.out w3 B3.out).mono ?_
        rintro e w4 ⟨rfl, m4⟩
        obtain ⟨F4, o4, g4⟩ := Made.out m4
        have hF : ¬ F w1.heap.size := fun hf => by have := HLT.out _ hf; omega
        have H4 := Lib.hid ((g4.1.block w1.heap.size (by have := (Array.getElem?_eq_some_iff.1 H3.out).1; omega) hF).trans H3.out)
        clear hF
        have G4 := Lib.hid ((Grow.of_below (F := F) B3.out).trans g4)
        have O4 := Lib.hid o4
        clear g4 o4 m4
        clear x0 x1
        have hq := HQ2.out
        by_cases h0 : le = 0
        · subst h0
          rw [if_pos rfl] at hq
          have hm := fun w' F' (o : OAt w' po LA F') => nmake_any o k v lr R
          generalize makeN LA k v lr R = M at hm hq
          obtain ⟨mn, me, MA⟩ := M
          simp only [] at hm hq
          subst hq
          have HM := Lib.hid hm; clear hm HQ2
          have x0 := cell_blk (i := 0) H4.out rfl
          have x1 := cell_blk (i := 1) H4.out rfl
          go_wp2_with fail
          refine (HM.out w4 F4 O4.out).mono ?_
          rintro e w5 ⟨rfl, m5⟩
          obtain ⟨F5, o5, g5⟩ := Made.out m5
          have G5 := Lib.hid (G4.out.trans g5)
          have O5 := Lib.hid o5
          clear g5 o5 m5
          clear x0 x1
          go_wp2_with fail
          go_ret3
          exact ⟨rfl, Made.of_grow G5.out O5.out⟩
        · rw [if_neg h0] at hq
          subst hq
          have q0 : (le == 0) = false := beq_eq_false_iff_ne.2 h0
          have q1 : (le != 0) = true := by rw [bne, q0]; rfl
          clear h0 HQ2
          go_wp2_with fail
          go_ret3
          exact ⟨rfl, Made.of_grow G4.out O4.out⟩
    · have hn2 : isN A t = false := by simpa using hn
      rw [splitF_no hn2]
      exact split_no h t key hn2
end Go.Proofs.YtghjnkfocjjlnaaGreat
namespace Go.Proofs.YtghjnkfocjjlnaaGreat
set_option maxRecDepth 100000
open Go.RowKit Go.Proofs.YtghjnkfocjjlnaaGreat.Mix Go.Proofs.YtghjnkfocjjlnaaGreatW.PrintWords Go.Proofs.YtghjnkfocjjlnaaGreatW.PrintLast
set_option linter.unusedSimpArgs false
set_option linter.unusedVariables false
set_option maxHeartbeats 1000000 in
theorem put_no {w : World} {po : Option Addr} {A : OA} {F : Nat → Prop} (h : OAt w po A F) (t k v : Int) (hn : isN A t = false) :
    Calls Tryz.prog 163 #[.pointer po, .int .i64 t, .agg #[.int .i64 k, .int .i64 v]] w fun e w' => e = .returned (.tuple #[.int .i64 (makeN A k v 0 0).1, .int .i64 (makeN A k v 0 0).2.1]) ∧ Made F w po (makeN A k v 0 0).2.2 w' := by
  have hb0 : Below w.heap.size w (w.alloc (.cells #[.int .i64 k, .int .i64 v] 43)) := (Below.refl _ _).alloc (Nat.le_refl _) _
  have hg := get_any (h.below hb0) t
  rw [hn] at hg
  have hm := fun w' F' (o : OAt w' po A F') => nmake_any o k v 0 0
  generalize makeN A k v 0 0 = M at hm ⊢
  obtain ⟨mn, me, MA⟩ := M
  simp only [] at hm ⊢
  have HG := Lib.hid hg
  have HH := Lib.hid h
  have HM := Lib.hid hm
  have HB0 := Lib.hid hb0
  have E0 := Lib.hid (heap_alloc_new w (.cells #[.int .i64 k, .int .i64 v] 43))
  clear hg h hn hm hb0
  go_enter Tryz.func163, Tryz.ntmps163
  go_wp2_with fail
  refine HG.out.mono ?_
  rintro e w1 ⟨rfl, b1⟩
  have z1 := b1.size
  simp at z1
  have E1 := Lib.hid ((b1.block w.heap.size (by simp)).trans E0.out)
  have B1 := Lib.hid (HB0.out.trans (b1.mono HB0.out.size)); clear b1
  have lt1 : w.heap.size < w1.heap.size := by omega
  have p0 := cell_blk (i := 0) E1.out rfl
  have p1 := cell_blk (i := 1) E1.out rfl
  go_wp2_with fail
  refine (HM.out _ _ (HH.out.below (B1.out.alloc B1.out.size _))).mono ?_
  rintro e w5 ⟨rfl, m5⟩
  obtain ⟨F5, o5, g5⟩ := Made.out m5
  have G5 := Lib.hid ((Grow.of_below (F := F) (B1.out.alloc B1.out.size _)).trans g5)
  have O5 := Lib.hid o5
  clear g5 o5 m5 p0 p1
  go_wp2_with fail
  go_ret2
  exact ⟨rfl, Made.of_grow G5.out O5.out⟩
set_option maxRecDepth 100000 in
set_option maxHeartbeats 8000000 in
theorem put_any (N : Nat) : 0 < N → ∀ {w : World} {po : Option Addr} {A : OA} {F : Nat → Prop} (_ : OAt w po A F) (t pk pv : Int), t < N →
    Calls Tryz.prog 163 #[.pointer po, .int .i64 t, .agg #[.int .i64 pk, .int .i64 pv]] w fun e w' => e = .returned (.tuple #[.int .i64 (putF N A t pk pv).1, .int .i64 (putF N A t pk pv).2.1]) ∧ Made F w po (putF N A t pk pv).2.2 w' := by
  induction N with
  | zero => exact fun h => absurd h (by omega)
  | succ m ih =>
    intro h0 w po A F h t pk pv ht
    by_cases hn : isN A t = true
    · skip
      have hp := isN_pos hn
      have hb0 : Below w.heap.size w (w.alloc (.cells #[.int .i64 pk, .int .i64 pv] 43)) := (Below.refl _ _).alloc (Nat.le_refl _) _
      have hg := get_any (h.below hb0) t
      have hsp := fun w' (hb : Below w.heap.size w w') => split_any (m + 1) (h.below hb) t pk ht
      rw [hn] at hg
      have hh1 := fun w' (hb : Below w.heap.size w w') => hang_put (h.below hb) t (getN A t).left
      have hh2 := fun w' (hb : Below w.heap.size w w') => hang_put (h.below hb) t (getN A t).right
      have hL := (hang_lt A (getN A t).left hp).2
      have hR := (hang_lt A (getN A t).right hp).2
      have hlt := h.lt
      obtain ⟨Q, hQ⟩ : ∃ Q, Q = putF (m + 1) A t pk pv := ⟨_, rfl⟩
      rw [← hQ]
      simp only [putF] at hQ
      rw [if_neg (by rw [hn]; decide)] at hQ
      unfold getH at hQ
      simp only [] at hQ
      generalize hangO A t (getN A t).left = L at hh1 hL hQ
      generalize hangO A t (getN A t).right = R at hh2 hR hQ
      generalize getN A t = nd at hg hh1 hh2 hQ
      obtain ⟨k, v, l, r, s, g⟩ := nd
      simp only [] at hg hh1 hh2 hQ
      have hcr := fun w' (hb : Below w.heap.size w w') => ih (by omega) (h.below hb) R pk pv (by omega)
      have hcl := fun w' (hb : Below w.heap.size w w') => ih (by omega) (h.below hb) L pk pv (by omega)
      generalize putF m A R pk pv = QR at hcr hQ
      generalize putF m A L pk pv = QL at hcl hQ
      generalize splitF (m + 1) A t pk = QS at hsp hQ
      obtain ⟨rn, re, RA⟩ := QR
      obtain ⟨ln, le, LA⟩ := QL
      obtain ⟨sl, sr, se, SA⟩ := QS
      simp only [] at hcr hcl hsp hQ
      have HG := Lib.hid hg
      have HH1 := Lib.hid hh1
      have HH2 := Lib.hid hh2
      have HLT := Lib.hid hlt
      have HCR := Lib.hid hcr
      have HCL := Lib.hid hcl
      have HSP := Lib.hid hsp
      have HQ := Lib.hid hQ
      have HH := Lib.hid h
      have HB0 := Lib.hid hb0
      have E0 := Lib.hid (heap_alloc_new w (.cells #[.int .i64 pk, .int .i64 pv] 43))
      clear hg hh1 hh2 hlt hn hcr hcl hsp hQ hp hL hR ht h ih h0 hb0
      go_enter Tryz.func163, Tryz.ntmps163
      go_wp2_with fail
      refine HG.out.mono ?_
      rintro e w1 ⟨rfl, b1⟩
      have z1 := b1.size
      simp at z1
      have E1 := Lib.hid ((b1.block w.heap.size (by simp)).trans E0.out)
      have B1 := Lib.hid (HB0.out.trans (b1.mono HB0.out.size)); clear b1
      go_wp2_with fail
      have B1d := Lib.hid ((B1.out.alloc B1.out.size (.cells #[.int .i64 k, .int .i64 v, .int .i64 l, .int .i64 r, .int .i64 s, .int .i64 g] 177)).drew)
      have H0 := Lib.hid (heap_alloc_new w1 (.cells #[.int .i64 k, .int .i64 v, .int .i64 l, .int .i64 r, .int .i64 s, .int .i64 g] 177))
      have E1b := Lib.hid ((heap_alloc_old w1 (.cells #[.int .i64 k, .int .i64 v, .int .i64 l, .int .i64 r, .int .i64 s, .int .i64 g] 177) (show w.heap.size < w1.heap.size by omega)).trans E1.out)
      refine start_ (n := 12) (S := fun w' => w'.cell? ⟨w1.heap.size, 2, none⟩ = some (.int .i64 l) ∧ w'.cell? ⟨w1.heap.size, 3, none⟩ = some (.int .i64 r)) (ds := []) (bz 12 0).toArray (by kernel_rfl) rfl rfl ⟨(cell_blk (i := 2) (w := (w1.alloc _).drew) H0.out rfl), (cell_blk (i := 3) (w := (w1.alloc _).drew) H0.out rfl)⟩ (fun hHeld => ?_)
      refine pure_ (i := 0) (N := some 26) (v := ?_) (a' := ?_) (bz 12 1).toArray rfl rfl (by kernel_rfl) (fun _ _ _ h => h) (Or.inl ⟨by rfl, ?_⟩) ?_ ?_
      rotate_left
      · intro w'
        go_simp
        with_reducible rfl
      rotate_left
      · simp only [Act.put, sqA, sqZ, sqS, i64_w, i32_w]
        rfl
      refine pure_ (i := 1) (N := some 27) (v := ?_) (a' := ?_) (bz 12 3).toArray rfl rfl (by kernel_rfl) (fun _ _ _ h => h) (Or.inl ⟨by rfl, ?_⟩) ?_ ?_
      rotate_left
      · intro w'
        go_simp
        with_reducible rfl
      rotate_left
      · simp only [Act.put, sqA, sqZ, sqS, i64_w, i32_w]
        rfl
      refine pure_ (i := 2) (N := some 28) (v := ?_) (a' := ?_) (bz 12 7).toArray rfl rfl (by kernel_rfl) (fun _ _ _ h => h) (Or.inl ⟨by rfl, ?_⟩) ?_ ?_
      rotate_left
      · intro w'
        go_simp
        with_reducible rfl
      rotate_left
      · simp only [Act.put, sqA, sqZ, sqS, i64_w, i32_w]
        rfl
      refine pure_ (i := 5) (N := some 31) (v := ?_) (a' := ?_) (bz 12 39).toArray rfl rfl (by kernel_rfl) (fun _ _ _ h => h) (Or.inl ⟨by rfl, ?_⟩) ?_ ?_
      rotate_left
      · intro w'
        go_simp
        with_reducible rfl
      rotate_left
      · simp only [Act.put, sqA, sqZ, sqS, i64_w, i32_w]
        rfl
      refine pure_ (i := 6) (N := some 32) (v := ?_) (a' := ?_) (bz 12 103).toArray rfl rfl (by kernel_rfl) (fun _ _ _ h => h) (Or.inl ⟨by rfl, ?_⟩) ?_ ?_
      rotate_left
      · intro w'
        go_simp
        with_reducible rfl
      rotate_left
      · simp only [Act.put, sqA, sqZ, sqS, i64_w, i32_w]
        rfl
      refine pure_ (i := 7) (N := some 33) (v := ?_) (a' := ?_) (bz 12 231).toArray rfl rfl (by kernel_rfl) (fun _ _ _ h => h) (Or.inl ⟨by rfl, ?_⟩) ?_ ?_
      rotate_left
      · intro w'
        go_simp
        with_reducible rfl
      rotate_left
      · simp only [Act.put, sqA, sqZ, sqS, i64_w, i32_w]
        rfl
      refine take_ (i := 3) (N := some 29) (v := ?_) (a' := ?_) (bz 12 239).toArray rfl rfl (by kernel_rfl) (fun _ _ _ h => h) (Or.inl ⟨by rfl, ?_⟩) hHeld ?_ ?_
      rotate_left
      · rintro w' ⟨s0, s1⟩
        go_simp
        with_reducible rfl
      rotate_left
      · simp only [Act.put, sqA, sqZ, sqS, i64_w, i32_w]
        rfl
      refine take_ (i := 8) (N := some 34) (v := ?_) (a' := ?_) (bz 12 495).toArray rfl rfl (by kernel_rfl) (fun _ _ _ h => h) (Or.inl ⟨by rfl, ?_⟩) hHeld ?_ ?_
      rotate_left
      · rintro w' ⟨s0, s1⟩
        go_simp
        with_reducible rfl
      rotate_left
      · simp only [Act.put, sqA, sqZ, sqS, i64_w, i32_w]
        rfl
      refine one_ (i := 4) (N := some 30) (bz 12 511).toArray rfl rfl (by kernel_rfl) (by decide) (fun K hK => ?_)
      refine goes_ Tryz.func185 (by kernel_rfl) rfl #[.pointer po, .int .i64 t, .int .i64 l] (by rfl) rfl rfl (by simp only [List.map_toArray, List.map_cons, List.map_nil]; rfl) ?_
      with_reducible refine (HH1.out _ B1d.out).mono ?_
      rintro e w2 ⟨rfl, b2⟩
      refine ⟨_, rfl, ?_⟩
      have z2 := b2.size
      simp at z2
      have H2 := Lib.hid ((b2.block w1.heap.size (by simp)).trans H0.out)
      have E2 := Lib.hid ((b2.block w.heap.size (by simp <;> omega)).trans E1b.out)
      have B2 := Lib.hid (B1d.out.trans (b2.mono B1d.out.size))
      refine hK.out _ _ ⟨((b2.cell (by simp <;> omega)).trans hHeld.1), ((b2.cell (by simp <;> omega)).trans hHeld.2)⟩ (fun hHeld => ?_)
      clear hK K
      refine norm_ (a' := ?_) ?_ ?_
      rotate_left
      · show Act.put _ (some 30) _ = _
        simp only [Act.put, sqA, sqZ, sqS, i64_w, i32_w]
        rfl
      refine one_ (i := 9) (N := some 35) (bz 12 1023).toArray rfl rfl (by kernel_rfl) (by decide) (fun K hK => ?_)
      refine goes_ Tryz.func185 (by kernel_rfl) rfl #[.pointer po, .int .i64 t, .int .i64 r] (by rfl) rfl rfl (by simp only [List.map_toArray, List.map_cons, List.map_nil]; rfl) ?_
      with_reducible refine (HH2.out _ B2.out).mono ?_
      rintro e w3 ⟨rfl, b3⟩
      refine ⟨_, rfl, ?_⟩
      have z3 := b3.size
      have H3 := Lib.hid ((b3.block w1.heap.size (by omega)).trans H2.out)
      have E3 := Lib.hid ((b3.block w.heap.size (by omega)).trans E2.out)
      have B3 := Lib.hid (B2.out.trans (b3.mono B2.out.size))
      refine hK.out _ _ ⟨((b3.cell (by simp <;> omega)).trans hHeld.1), ((b3.cell (by simp <;> omega)).trans hHeld.2)⟩ (fun hHeld => ?_)
      clear hK K
      refine norm_ (a' := ?_) ?_ ?_
      rotate_left
      · show Act.put _ (some 35) _ = _
        simp only [Act.put, sqA, sqZ, sqS, i64_w, i32_w]
        rfl
      refine pure_ (i := 10) (N := some 10) (v := ?_) (a' := ?_) (bz 12 2047).toArray rfl rfl (by kernel_rfl) (fun _ _ _ h => h) (Or.inl ⟨by rfl, ?_⟩) ?_ ?_
      rotate_left
      · intro w'
        go_simp
        with_reducible rfl
      rotate_left
      · simp only [Act.put, sqA, sqZ, sqS, i64_w, i32_w]
        rfl
      refine pure_ (i := 11) (N := some 11) (v := ?_) (a' := ?_) (bz 12 4095).toArray rfl rfl (by kernel_rfl) (fun _ _ _ h => h) (Or.inl ⟨by rfl, ?_⟩) ?_ ?_
      rotate_left
      · intro w'
        go_simp
        with_reducible rfl
      rotate_left
      · simp only [Act.put, sqA, sqZ, sqS, i64_w, i32_w]
        rfl
      refine done_ (by kernel_rfl) ?_
      have x0 := cell_blk (i := 0) H3.out rfl
      have x1 := cell_blk (i := 1) H3.out rfl
      have x2 := cell_blk (i := 2) H3.out rfl
      have x3 := cell_blk (i := 3) H3.out rfl
      have x4 := cell_blk (i := 4) H3.out rfl
      have x5 := cell_blk (i := 5) H3.out rfl
      have p0 := cell_blk (i := 0) E3.out rfl
      have p1 := cell_blk (i := 1) E3.out rfl
      by_cases hk : k = pk
      · subst hk
        have hq := HQ.out
        rw [if_pos rfl] at hq
        have qk := beq_self_eq_true k
        clear HQ
        go_wp2_with fail
        refine (holds_any k v l r s g k _).mono ?_
        rintro e w4 ⟨rfl, b4⟩
        have H4 := Lib.hid ((b4.block w1.heap.size (by have := (Array.getElem?_eq_some_iff.1 H3.out).1; omega)).trans H3.out)
        have E4 := Lib.hid ((b4.block w.heap.size (by have := (Array.getElem?_eq_some_iff.1 E3.out).1; omega)).trans E3.out)
        have B4 := Lib.hid (B3.out.trans (b4.mono B3.out.size)); clear b4
        clear x0 x1 x2 x3 x4 x5 p0 p1
        have hm := fun w' F' (o : OAt w' po A F') => nmake_any o k pv L R
        generalize makeN A k pv L R = M at hm hq
        obtain ⟨mn, me, MA⟩ := M
        simp only [] at hm hq
        subst hq
        have HM := Lib.hid hm; clear hm
        have x0 := cell_blk (i := 0) H4.out rfl
        have x1 := cell_blk (i := 1) H4.out rfl
        have p0 := cell_blk (i := 0) E4.out rfl
        have p1 := cell_blk (i := 1) E4.out rfl
        go_wp2_with fail
        refine (HM.out _ _ (HH.out.below B4.out)).mono ?_
        rintro e w5 ⟨rfl, m5⟩
        obtain ⟨F5, o5, g5⟩ := Made.out m5
        have G5 := Lib.hid ((Grow.of_below (F := F) B4.out).trans g5)
        have O5 := Lib.hid o5
        clear g5 o5 m5
        clear x0 x1 p0 p1
        go_wp2_with fail
        go_ret2
        exact ⟨rfl, Made.of_grow G5.out O5.out⟩
      · have hq := HQ.out
        rw [if_neg hk] at hq
        have qk : (k == pk) = false := beq_eq_false_iff_ne.2 hk
        clear HQ
        go_wp2_with fail
        refine (holds_any k v l r s g pk _).mono ?_
        rintro e w4 ⟨rfl, b4⟩
        have H4 := Lib.hid ((b4.block w1.heap.size (by have := (Array.getElem?_eq_some_iff.1 H3.out).1; omega)).trans H3.out)
        have E4 := Lib.hid ((b4.block w.heap.size (by have := (Array.getElem?_eq_some_iff.1 E3.out).1; omega)).trans E3.out)
        have B4 := Lib.hid (B3.out.trans (b4.mono B3.out.size)); clear b4
        clear x0 x1 x2 x3 x4 x5 p0 p1
        have x0 := cell_blk (i := 0) H4.out rfl
        have x1 := cell_blk (i := 1) H4.out rfl
        have p0 := cell_blk (i := 0) E4.out rfl
        have p1 := cell_blk (i := 1) E4.out rfl
        have hab := above_any pk k w4
        generalize above pk k = ab at hab hq
        have HAB := Lib.hid hab; clear hab
        have HQ2 := Lib.hid hq; clear hq
        go_wp2_with fail
        refine HAB.out.mono ?_
        rintro e w' ⟨rfl, rfl⟩
        have hq := HQ2.out
        cases ab with
        | true =>
          rw [if_pos rfl] at hq
          go_wp2_with fail
          refine (HSP.out _ B4.out).mono ?_
          rintro e w5 ⟨rfl, m5⟩
          obtain ⟨F5, o5, g5⟩ := Made.out m5
          have H5 := Lib.hid ((g5.1.block w1.heap.size (by have := (Array.getElem?_eq_some_iff.1 H4.out).1; omega) (fun hf => by have := HLT.out _ hf; omega)).trans H4.out)
          have E5 := Lib.hid ((g5.1.block w.heap.size (by have := (Array.getElem?_eq_some_iff.1 E4.out).1; omega) (fun hf => by have := HLT.out _ hf; omega)).trans E4.out)
          have G5 := Lib.hid ((Grow.of_below (F := F) B4.out).trans g5)
          have O5 := Lib.hid o5
          clear g5 o5 m5
          clear x0 x1 p0 p1
          by_cases h0 : se = 0
          · subst h0
            rw [if_pos rfl] at hq
            have hm := fun w' F' (o : OAt w' po SA F') => nmake_any o pk pv sl sr
            generalize makeN SA pk pv sl sr = M at hm hq
            obtain ⟨mn, me, MA⟩ := M
            simp only [] at hm hq
            subst hq
            have HM := Lib.hid hm; clear hm
            have x0 := cell_blk (i := 0) H5.out rfl
            have x1 := cell_blk (i := 1) H5.out rfl
            have p0 := cell_blk (i := 0) E5.out rfl
            have p1 := cell_blk (i := 1) E5.out rfl
            go_wp2_with fail
            refine (HM.out _ _ O5.out).mono ?_
            rintro e w6 ⟨rfl, m6⟩
            obtain ⟨F6, o6, g6⟩ := Made.out m6
            have G6 := Lib.hid (G5.out.trans g6)
            have O6 := Lib.hid o6
            clear g6 o6 m6
            clear x0 x1 p0 p1
            go_wp2_with fail
            go_ret2
            exact ⟨rfl, Made.of_grow G6.out O6.out⟩
          · rw [if_neg h0] at hq
            subst hq
            have q0 : (se == 0) = false := beq_eq_false_iff_ne.2 h0
            have q1 : (se != 0) = true := by rw [bne, q0]; rfl
            clear h0
            go_wp2_with fail
            go_ret2
            exact ⟨rfl, Made.of_grow G5.out O5.out⟩
        | false =>
          rw [if_neg (by decide)] at hq
          by_cases hlk : pk < k
          · rw [if_pos hlk] at hq
            go_wp2_with fail
            refine (HCL.out _ B4.out).mono ?_
            rintro e w5 ⟨rfl, m5⟩
            obtain ⟨F5, o5, g5⟩ := Made.out m5
            have H5 := Lib.hid ((g5.1.block w1.heap.size (by have := (Array.getElem?_eq_some_iff.1 H4.out).1; omega) (fun hf => by have := HLT.out _ hf; omega)).trans H4.out)
            have E5 := Lib.hid ((g5.1.block w.heap.size (by have := (Array.getElem?_eq_some_iff.1 E4.out).1; omega) (fun hf => by have := HLT.out _ hf; omega)).trans E4.out)
            have G5 := Lib.hid ((Grow.of_below (F := F) B4.out).trans g5)
            have O5 := Lib.hid o5
            clear g5 o5 m5
            clear x0 x1 p0 p1
            by_cases h0 : le = 0
            · subst h0
              rw [if_pos rfl] at hq
              have hm := fun w' F' (o : OAt w' po LA F') => nmake_any o k v ln R
              generalize makeN LA k v ln R = M at hm hq
              obtain ⟨mn, me, MA⟩ := M
              simp only [] at hm hq
              subst hq
              have HM := Lib.hid hm; clear hm
              have x0 := cell_blk (i := 0) H5.out rfl
              have x1 := cell_blk (i := 1) H5.out rfl
              have p0 := cell_blk (i := 0) E5.out rfl
              have p1 := cell_blk (i := 1) E5.out rfl
              go_wp2_with fail
              refine (HM.out _ _ O5.out).mono ?_
              rintro e w6 ⟨rfl, m6⟩
              obtain ⟨F6, o6, g6⟩ := Made.out m6
              have G6 := Lib.hid (G5.out.trans g6)
              have O6 := Lib.hid o6
              clear g6 o6 m6
              clear x0 x1 p0 p1
              go_wp2_with fail
              go_ret2
              exact ⟨rfl, Made.of_grow G6.out O6.out⟩
            · rw [if_neg h0] at hq
              subst hq
              have q0 : (le == 0) = false := beq_eq_false_iff_ne.2 h0
              have q1 : (le != 0) = true := by rw [bne, q0]; rfl
              clear h0
              go_wp2_with fail
              go_ret2
              exact ⟨rfl, Made.of_grow G5.out O5.out⟩
          · rw [if_neg hlk] at hq
            go_wp2_with fail
            refine (HCR.out _ B4.out).mono ?_
            rintro e w5 ⟨rfl, m5⟩
            obtain ⟨F5, o5, g5⟩ := Made.out m5
            have H5 := Lib.hid ((g5.1.block w1.heap.size (by have := (Array.getElem?_eq_some_iff.1 H4.out).1; omega) (fun hf => by have := HLT.out _ hf; omega)).trans H4.out)
            have E5 := Lib.hid ((g5.1.block w.heap.size (by have := (Array.getElem?_eq_some_iff.1 E4.out).1; omega) (fun hf => by have := HLT.out _ hf; omega)).trans E4.out)
            have G5 := Lib.hid ((Grow.of_below (F := F) B4.out).trans g5)
            have O5 := Lib.hid o5
            clear g5 o5 m5
            clear x0 x1 p0 p1
            by_cases h0 : re = 0
            · subst h0
              rw [if_pos rfl] at hq
              have hm := fun w' F' (o : OAt w' po RA F') => nmake_any o k v L rn
              generalize makeN RA k v L rn = M at hm hq
              obtain ⟨mn, me, MA⟩ := M
              simp only [] at hm hq
              subst hq
              have HM := Lib.hid hm; clear hm
              have x0 := cell_blk (i := 0) H5.out rfl
              have x1 := cell_blk (i := 1) H5.out rfl
              have p0 := cell_blk (i := 0) E5.out rfl
              have p1 := cell_blk (i := 1) E5.out rfl
              go_wp2_with fail
              refine (HM.out _ _ O5.out).mono ?_
              rintro e w6 ⟨rfl, m6⟩
              obtain ⟨F6, o6, g6⟩ := Made.out m6
              have G6 := Lib.hid (G5.out.trans g6)
              have O6 := Lib.hid o6
              clear g6 o6 m6
              clear x0 x1 p0 p1
              go_wp2_with fail
              go_ret2
              exact ⟨rfl, Made.of_grow G6.out O6.out⟩
            · rw [if_neg h0] at hq
              subst hq
              have q0 : (re == 0) = false := beq_eq_false_iff_ne.2 h0
              have q1 : (re != 0) = true := by rw [bne, q0]; rfl
              clear h0
              go_wp2_with fail
              go_ret2
              exact ⟨rfl, Made.of_grow G5.out O5.out⟩
    · have hn2 : isN A t = false := by simpa using hn
      rw [putF_no hn2]
      exact put_no h t pk pv hn2
end Go.Proofs.YtghjnkfocjjlnaaGreat
end
section
namespace Go.Proofs.YtghjnkfocjjlnaaGreat
set_option maxRecDepth 100000
open Go.RowKit
set_option linter.unusedSimpArgs false
set_option linter.unusedVariables false
set_option maxHeartbeats 1000000 in
theorem is_put {w : World} {po : Option Addr} {A : OA} {F : Nat → Prop} (h : OAt w po A F) (t : Int) :
    Calls Tryz.prog 162 #[.pointer po, .int .i64 t] w fun e w' => e = .returned (.bool (isT A t)) ∧ Below w.heap.size w w' := by
  have HG := Lib.hid (get_any h t)
  rcases h with ⟨rfl, rfl, _⟩ | ⟨a, p, sv, row, rfl, rfl, _⟩
  · rw [show isT none t = false from rfl]
    go_enter Tryz.func162, Tryz.ntmps162
    go_wp2_with fail
    refine HG.out.mono ?_
    rintro e w1 ⟨rfl, b1⟩
    have B1 := Lib.hid b1; clear b1
    go_wp2_with fail
    go_ret
    exact ⟨rfl, B1.out.alloc B1.out.size _⟩
  · by_cases h0 : t = 0
    · subst h0
      rw [show isT (some a) 0 = true from rfl]
      go_enter Tryz.func162, Tryz.ntmps162
      go_wp2_with fail
      refine HG.out.mono ?_
      rintro e w1 ⟨rfl, b1⟩
      have B1 := Lib.hid b1; clear b1
      go_wp2_with fail
      go_ret
      exact ⟨rfl, B1.out.alloc B1.out.size _⟩
    · have q0 : (t == 0) = false := beq_eq_false_iff_ne.2 h0
      rw [show isT (some a) t = isN (some a) t by unfold isT; simp [h0]]
      clear h0
      go_enter Tryz.func162, Tryz.ntmps162
      go_wp2_with fail
      refine HG.out.mono ?_
      rintro e w1 ⟨rfl, b1⟩
      have B1 := Lib.hid b1; clear b1
      go_wp2_with fail
      go_ret
      exact ⟨rfl, B1.out.alloc B1.out.size _⟩
set_option maxHeartbeats 1000000 in
theorem is_part {w : World} {po : Option Addr} {A : OA} {F : Nat → Prop} (h : OAt w po A F) (t : Int) :
    Calls Tryz.prog 189 #[.pointer po, .int .i64 t] w fun e w' => e = .returned (.bool (isT A t)) ∧ Below w.heap.size w w' := by
  have HG := Lib.hid (get_any h t)
  rcases h with ⟨rfl, rfl, _⟩ | ⟨a, p, sv, row, rfl, rfl, _⟩
  · rw [show isT none t = false from rfl]
    go_enter Tryz.func189, Tryz.ntmps189
    go_wp2_with fail
    refine HG.out.mono ?_
    rintro e w1 ⟨rfl, b1⟩
    have B1 := Lib.hid b1; clear b1
    go_wp2_with fail
    go_ret
    exact ⟨rfl, B1.out.alloc B1.out.size _⟩
  · by_cases h0 : t = 0
    · subst h0
      rw [show isT (some a) 0 = true from rfl]
      go_enter Tryz.func189, Tryz.ntmps189
      go_wp2_with fail
      refine HG.out.mono ?_
      rintro e w1 ⟨rfl, b1⟩
      have B1 := Lib.hid b1; clear b1
      go_wp2_with fail
      go_ret
      exact ⟨rfl, B1.out.alloc B1.out.size _⟩
    · have q0 : (t == 0) = false := beq_eq_false_iff_ne.2 h0
      rw [show isT (some a) t = isN (some a) t by unfold isT; simp [h0]]
      clear h0
      go_enter Tryz.func189, Tryz.ntmps189
      go_wp2_with fail
      refine HG.out.mono ?_
      rintro e w1 ⟨rfl, b1⟩
      have B1 := Lib.hid b1; clear b1
      go_wp2_with fail
      go_ret
      exact ⟨rfl, B1.out.alloc B1.out.size _⟩
end Go.Proofs.YtghjnkfocjjlnaaGreat
end
