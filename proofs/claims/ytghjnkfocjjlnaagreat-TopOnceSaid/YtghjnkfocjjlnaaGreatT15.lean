/- The walk of package cut's one: two treaps in one. -/
/- The walks of package cut's cut and Cut: a key less. -/
import Derived.Test.YtghjnkfocjjlnaaGreatT00
import Derived.Test.YtghjnkfocjjlnaaGreatT07
set_option linter.unusedSimpArgs false
set_option linter.unusedVariables false
namespace Go.Proofs.YtghjnkfocjjlnaaGreat
set_option maxRecDepth 100000
open Go.RowKit Go.Proofs.YtghjnkfocjjlnaaGreat.Mix Go.Proofs.YtghjnkfocjjlnaaGreatW.PrintWords Go.Proofs.YtghjnkfocjjlnaaGreatW.PrintLast
set_option linter.unusedSimpArgs false
set_option linter.unusedVariables false
set_option maxRecDepth 100000 in
set_option maxHeartbeats 8000000 in
theorem one_any (N : Nat) : ∀ {w : World} {po : Option Addr} {A : OA} {F : Nat → Prop} (_ : OAt w po A F) (l r : Int), l.toNat + r.toNat < N →
    Calls Tryz.prog 188 #[.pointer po, .int .i64 l, .int .i64 r] w fun e w' => e = .returned (.tuple #[.int .i64 (mergeF N A l r).1, .int .i64 (mergeF N A l r).2.1]) ∧ Made F w po (mergeF N A l r).2.2 w' := by
  induction N with
  | zero => intro w po A F h l r ht; exact absurd ht (by omega)
  | succ m ih =>
    intro w po A F h l r ht
    have hgl := get_any h l
    have hgr := fun w' (hb : Below w.heap.size w w') => get_any (h.below hb) r
    have hlt := h.lt
    have HH := Lib.hid h
    by_cases hnl : isN A l = true
    · by_cases hnr : isN A r = true
      · have hpl := isN_pos hnl
        have hpr := isN_pos hnr
        rw [hnl] at hgl
        rw [hnr] at hgr
        have hY := hang_lt A (getN A l).right hpl
        have hX := hang_lt A (getN A r).left hpr
        have hh1 := fun w' (hb : Below w.heap.size w w') => hang_cut (h.below hb) l (getN A l).right
        have hh2 := fun w' (hb : Below w.heap.size w w') => hang_cut (h.below hb) r (getN A r).left
        have hr1 := fun w' (hb : Below w.heap.size w w') => ih (h.below hb) (hangO A l (getN A l).right) r (by omega)
        have hr2 := fun w' (hb : Below w.heap.size w w') => ih (h.below hb) l (hangO A r (getN A r).left) (by omega)
        obtain ⟨Q, hQ⟩ : ∃ Q, Q = mergeF (m + 1) A l r := ⟨_, rfl⟩
        rw [← hQ]
        simp only [mergeF] at hQ
        rw [if_neg (by rw [hnl]; decide), if_neg (by rw [hnr]; decide)] at hQ
        generalize hangO A l (getN A l).right = Y at hh1 hY hr1 hQ
        generalize hangO A r (getN A r).left = X at hh2 hX hr2 hQ
        generalize mergeF m A Y r = Q1 at hr1 hQ
        generalize mergeF m A l X = Q2 at hr2 hQ
        obtain ⟨tn, te, RA⟩ := Q1
        obtain ⟨un, ue, UA⟩ := Q2
        simp only [] at hr1 hr2 hQ
        generalize getN A l = nd1 at hgl hh1 hQ
        generalize getN A r = nd2 at hgr hh2 hQ
        obtain ⟨k, v, x, y, s, g⟩ := nd1
        obtain ⟨k2, v2, x2, y2, s2, g2⟩ := nd2
        simp only [] at hgl hgr hh1 hh2 hQ
        have hh3 := fun w' F' (o : OAt w' po RA F') => hang_cut o l x
        have hh4 := fun w' F' (o : OAt w' po UA F') => hang_cut o r y2
        generalize hangO RA l x = hx at hh3 hQ
        generalize hangO UA r y2 = hy at hh4 hQ
        have HGL := Lib.hid hgl
        have HGR := Lib.hid hgr
        have HH1 := Lib.hid hh1
        have HH2 := Lib.hid hh2
        have HH3 := Lib.hid hh3
        have HH4 := Lib.hid hh4
        have HLT := Lib.hid hlt
        have HR1 := Lib.hid hr1
        have HR2 := Lib.hid hr2
        have HQ := Lib.hid hQ
        clear hgl hgr hh1 hh2 hh3 hh4 hlt hr1 hr2 hQ hnl hnr hpl hpr hY hX ht h ih
        go_enter Tryz.func188, Tryz.ntmps188
        go_wp2_with fail
        refine HGL.out.mono ?_
        rintro e w1 ⟨rfl, b1⟩
        have z1 := b1.size
        have B1 := Lib.hid (b1.alloc z1 (.cells #[.int .i64 k, .int .i64 v, .int .i64 x, .int .i64 y, .int .i64 s, .int .i64 g] 177))
        have H1 := Lib.hid (heap_alloc_new w1 (.cells #[.int .i64 k, .int .i64 v, .int .i64 x, .int .i64 y, .int .i64 s, .int .i64 g] 177))
        clear b1
        go_wp2_with fail
        refine (HGR.out _ B1.out).mono ?_
        rintro e w2 ⟨rfl, b2⟩
        have z2 := b2.size
        simp at z2
        have lt2 : w1.heap.size < w2.heap.size := by omega
        have H2 := Lib.hid ((heap_alloc_old w2 (.cells #[.int .i64 k2, .int .i64 v2, .int .i64 x2, .int .i64 y2, .int .i64 s2, .int .i64 g2] 177) lt2).trans ((b2.block w1.heap.size (by simp)).trans H1.out))
        have D2 := Lib.hid (heap_alloc_new w2 (.cells #[.int .i64 k2, .int .i64 v2, .int .i64 x2, .int .i64 y2, .int .i64 s2, .int .i64 g2] 177))
        have B2 := Lib.hid ((B1.out.trans (b2.mono B1.out.size)).alloc (by omega) (.cells #[.int .i64 k2, .int .i64 v2, .int .i64 x2, .int .i64 y2, .int .i64 s2, .int .i64 g2] 177))
        clear b2
        have xc0 := cell_blk (i := 0) H2.out rfl
        have xc1 := cell_blk (i := 1) H2.out rfl
        have xc2 := cell_blk (i := 2) H2.out rfl
        have xc3 := cell_blk (i := 3) H2.out rfl
        have dc0 := cell_blk (i := 0) D2.out rfl
        have dc1 := cell_blk (i := 1) D2.out rfl
        have dc2 := cell_blk (i := 2) D2.out rfl
        have dc3 := cell_blk (i := 3) D2.out rfl
        have hq := HQ.out
        have hab := above_any k k2 (w2.alloc (.cells #[.int .i64 k2, .int .i64 v2, .int .i64 x2, .int .i64 y2, .int .i64 s2, .int .i64 g2] 177))
        generalize above k k2 = ab at hab hq
        have HAB := Lib.hid hab; clear hab
        have HQ2 := Lib.hid hq; clear hq HQ
        go_wp2_with fail
        refine HAB.out.mono ?_
        rintro e wq ⟨rfl, hwq⟩
        obtain rfl := hwq
        have hq := HQ2.out
        clear HQ2
        cases ab with
        | true =>
          rw [if_pos rfl] at hq
          have HQ2 := Lib.hid hq; clear hq
          go_wp2_with fail
          refine (HH1.out _ B2.out).mono ?_
          rintro e w3 ⟨rfl, b3⟩
          have z3 := b3.size
          simp at z3
          have H3 := Lib.hid ((b3.block w1.heap.size (by simp <;> omega)).trans H2.out)
          have D3 := Lib.hid ((b3.block w2.heap.size (by simp)).trans D2.out)
          have B3 := Lib.hid (B2.out.trans (b3.mono B2.out.size)); clear b3
          clear xc0 xc1 xc2 xc3 dc0 dc1 dc2 dc3
          go_wp2_with fail
          refine (HR1.out _ B3.out).mono ?_
          rintro e w4 ⟨rfl, m4⟩
          obtain ⟨F4, o4, g4⟩ := Made.out m4
          have H4 := Lib.hid ((g4.1.block w1.heap.size (by have := (Array.getElem?_eq_some_iff.1 H3.out).1; omega) (fun hf => by have := HLT.out _ hf; omega)).trans H3.out)
          have D4 := Lib.hid ((g4.1.block w2.heap.size (by have := (Array.getElem?_eq_some_iff.1 D3.out).1; omega) (fun hf => by have := HLT.out _ hf; omega)).trans D3.out)
          have G4 := Lib.hid ((Grow.of_below (F := F) B3.out).trans g4)
          have O4 := Lib.hid o4
          clear g4 o4 m4
          have hq := HQ2.out
          by_cases h0 : te = 0
          · subst h0
            rw [if_pos rfl] at hq
            have hm := fun w' F' (o : OAt w' po RA F') => nmake_any o k v hx tn
            generalize makeN RA k v hx tn = MM at hm hq
            obtain ⟨mn, me, MA⟩ := MM
            simp only [] at hm hq
            subst hq
            have HM := Lib.hid hm; clear hm HQ2
            have O4d := Lib.hid (O4.out.below (Below.refl _ _).drew)
            have G4d := Lib.hid (G4.out.trans (Grow.of_below (Below.refl _ _).drew))
            have lt4a : w1.heap.size < w4.heap.size := (Array.getElem?_eq_some_iff.1 H4.out).1
            have lt4b : w2.heap.size < w4.heap.size := (Array.getElem?_eq_some_iff.1 D4.out).1
            go_wp2_with fail
            refine start_ (n := 14) (S := fun w' => w'.cell? ⟨w1.heap.size, 0, none⟩ = some (.int .i64 k) ∧ w'.cell? ⟨w1.heap.size, 1, none⟩ = some (.int .i64 v) ∧ w'.cell? ⟨w1.heap.size, 2, none⟩ = some (.int .i64 x)) (ds := [9]) (bz 14 0).toArray (by kernel_rfl) rfl rfl ⟨(cell_blk (i := 0) (w := w4.drew) H4.out rfl), (cell_blk (i := 1) (w := w4.drew) H4.out rfl), (cell_blk (i := 2) (w := w4.drew) H4.out rfl)⟩ (fun hHeld => ?_)
            refine pure_ (i := 0) (N := some 58) (v := ?_) (a' := ?_) (bz 14 1).toArray rfl rfl (by kernel_rfl) (fun _ _ _ h => h) (Or.inl ⟨by rfl, ?_⟩) ?_ ?_
            rotate_left
            · intro w'
              go_simp
              with_reducible rfl
            rotate_left
            · simp only [Act.put, sqA, sqZ, sqS, i64_w, i32_w]
              rfl
            refine pure_ (i := 1) (N := some 59) (v := ?_) (a' := ?_) (bz 14 3).toArray rfl rfl (by kernel_rfl) (fun _ _ _ h => h) (Or.inl ⟨by rfl, ?_⟩) ?_ ?_
            rotate_left
            · intro w'
              go_simp
              with_reducible rfl
            rotate_left
            · simp only [Act.put, sqA, sqZ, sqS, i64_w, i32_w]
              rfl
            refine pure_ (i := 3) (N := some 61) (v := ?_) (a' := ?_) (bz 14 11).toArray rfl rfl (by kernel_rfl) (fun _ _ _ h => h) (Or.inl ⟨by rfl, ?_⟩) ?_ ?_
            rotate_left
            · intro w'
              go_simp
              with_reducible rfl
            rotate_left
            · simp only [Act.put, sqA, sqZ, sqS, i64_w, i32_w]
              rfl
            refine pure_ (i := 4) (N := some 62) (v := ?_) (a' := ?_) (bz 14 27).toArray rfl rfl (by kernel_rfl) (fun _ _ _ h => h) (Or.inl ⟨by rfl, ?_⟩) ?_ ?_
            rotate_left
            · intro w'
              go_simp
              with_reducible rfl
            rotate_left
            · simp only [Act.put, sqA, sqZ, sqS, i64_w, i32_w]
              rfl
            refine pure_ (i := 5) (N := some 63) (v := ?_) (a' := ?_) (bz 14 59).toArray rfl rfl (by kernel_rfl) (fun _ _ _ h => h) (Or.inl ⟨by rfl, ?_⟩) ?_ ?_
            rotate_left
            · intro w'
              go_simp
              with_reducible rfl
            rotate_left
            · simp only [Act.put, sqA, sqZ, sqS, i64_w, i32_w]
              rfl
            refine pure_ (i := 8) (N := some 66) (v := ?_) (a' := ?_) (bz 14 315).toArray rfl rfl (by kernel_rfl) (fun _ _ _ h => h) (Or.inl ⟨by rfl, ?_⟩) ?_ ?_
            rotate_left
            · intro w'
              go_simp
              with_reducible rfl
            rotate_left
            · simp only [Act.put, sqA, sqZ, sqS, i64_w, i32_w]
              rfl
            refine take_ (i := 2) (N := some 60) (v := ?_) (a' := ?_) (bz 14 319).toArray rfl rfl (by kernel_rfl) (fun _ _ _ h => h) (Or.inl ⟨by rfl, ?_⟩) hHeld ?_ ?_
            rotate_left
            · rintro w' ⟨s0, s1, s2⟩
              go_simp
              with_reducible rfl
            rotate_left
            · simp only [Act.put, sqA, sqZ, sqS, i64_w, i32_w]
              rfl
            refine take_ (i := 6) (N := some 64) (v := ?_) (a' := ?_) (bz 14 383).toArray rfl rfl (by kernel_rfl) (fun _ _ _ h => h) (Or.inl ⟨by rfl, ?_⟩) hHeld ?_ ?_
            rotate_left
            · rintro w' ⟨s0, s1, s2⟩
              go_simp
              with_reducible rfl
            rotate_left
            · simp only [Act.put, sqA, sqZ, sqS, i64_w, i32_w]
              rfl
            refine one_ (i := 7) (N := some 65) (bz 14 511).toArray rfl rfl (by kernel_rfl) (by decide) (fun K hK => ?_)
            refine goes_ Tryz.func187 (by kernel_rfl) rfl #[.pointer po, .int .i64 l, .int .i64 x] (by rfl) rfl rfl (by simp only [List.map_toArray, List.map_cons, List.map_nil]; rfl) ?_
            with_reducible refine (HH3.out _ _ O4d.out).mono ?_
            rintro e w5 ⟨rfl, b5⟩
            refine ⟨_, rfl, ?_⟩
            have O5 := Lib.hid (O4d.out.below b5)
            have G5 := Lib.hid (G4d.out.trans (Grow.of_below b5))
            refine hK.out _ _ ⟨((b5.cell (by simp <;> omega)).trans hHeld.1), ((b5.cell (by simp <;> omega)).trans hHeld.2.1), ((b5.cell (by simp <;> omega)).trans hHeld.2.2)⟩ (fun hHeld => ?_)
            clear hK K
            refine norm_ (a' := ?_) ?_ ?_
            rotate_left
            · show Act.put _ (some 65) _ = _
              simp only [Act.put, sqA, sqZ, sqS, i64_w, i32_w]
              rfl
            refine last_ (i := 9) (N := some 67) (bz 14 1023).toArray rfl rfl (by kernel_rfl) (by decide) (fun K hK => ?_)
            refine goes_ Tryz.func67 (by kernel_rfl) rfl #[.pointer po, .agg #[.int .i64 k, .int .i64 v], .int .i64 hx, .int .i64 tn] (by rfl) rfl rfl (by simp only [List.map_toArray, List.map_cons, List.map_nil]; rfl) ?_
            with_reducible refine (HM.out _ _ O5.out).mono ?_
            rintro e w6 ⟨rfl, m6⟩
            refine ⟨_, rfl, ?_⟩
            obtain ⟨F6, o6, g6⟩ := Made.out m6
            have G6 := Lib.hid (G5.out.trans g6)
            have O6 := Lib.hid o6
            clear m6 o6 g6
            refine hK.out _ _ ?_
            clear hK K
            refine norm_ (a' := ?_) ?_ ?_
            rotate_left
            · show Act.put _ (some 67) _ = _
              simp only [Act.put, sqA, sqZ, sqS, i64_w, i32_w]
              rfl
            refine pure_ (i := 10) (N := some 68) (v := ?_) (a' := ?_) (bz 14 2047).toArray rfl rfl (by kernel_rfl) (fun _ _ _ h => h) (Or.inl ⟨by rfl, ?_⟩) ?_ ?_
            rotate_left
            · intro w'
              go_simp
              with_reducible rfl
            rotate_left
            · simp only [Act.put, sqA, sqZ, sqS, i64_w, i32_w]
              rfl
            refine pure_ (i := 11) (N := some 69) (v := ?_) (a' := ?_) (bz 14 4095).toArray rfl rfl (by kernel_rfl) (fun _ _ _ h => h) (Or.inl ⟨by rfl, ?_⟩) ?_ ?_
            rotate_left
            · intro w'
              go_simp
              with_reducible rfl
            rotate_left
            · simp only [Act.put, sqA, sqZ, sqS, i64_w, i32_w]
              rfl
            refine pure_ (i := 12) (N := some 6) (v := ?_) (a' := ?_) (bz 14 8191).toArray rfl rfl (by kernel_rfl) (fun _ _ _ h => h) (Or.inl ⟨by rfl, ?_⟩) ?_ ?_
            rotate_left
            · intro w'
              go_simp
              with_reducible rfl
            rotate_left
            · simp only [Act.put, sqA, sqZ, sqS, i64_w, i32_w]
              rfl
            refine pure_ (i := 13) (N := some 7) (v := ?_) (a' := ?_) (bz 14 16383).toArray rfl rfl (by kernel_rfl) (fun _ _ _ h => h) (Or.inl ⟨by rfl, ?_⟩) ?_ ?_
            rotate_left
            · intro w'
              go_simp
              with_reducible rfl
            rotate_left
            · simp only [Act.put, sqA, sqZ, sqS, i64_w, i32_w]
              rfl
            refine done_ (by kernel_rfl) ?_
            go_wp2_with fail
            go_ret2
            exact ⟨rfl, Made.of_grow G6.out O6.out⟩
          · rw [if_neg h0] at hq
            subst hq
            have q0 : (te == 0) = false := beq_eq_false_iff_ne.2 h0
            have q1 : (te != 0) = true := by rw [bne, q0]; rfl
            clear h0 HQ2
            go_wp2_with fail
            go_ret2
            exact ⟨rfl, Made.of_grow G4.out O4.out⟩
        | false =>
          rw [if_neg (by decide)] at hq
          have HQ2 := Lib.hid hq; clear hq
          go_wp2_with fail
          refine (HH2.out _ B2.out).mono ?_
          rintro e w3 ⟨rfl, b3⟩
          have z3 := b3.size
          simp at z3
          have H3 := Lib.hid ((b3.block w1.heap.size (by simp <;> omega)).trans H2.out)
          have D3 := Lib.hid ((b3.block w2.heap.size (by simp)).trans D2.out)
          have B3 := Lib.hid (B2.out.trans (b3.mono B2.out.size)); clear b3
          clear xc0 xc1 xc2 xc3 dc0 dc1 dc2 dc3
          go_wp2_with fail
          refine (HR2.out _ B3.out).mono ?_
          rintro e w4 ⟨rfl, m4⟩
          obtain ⟨F4, o4, g4⟩ := Made.out m4
          have H4 := Lib.hid ((g4.1.block w1.heap.size (by have := (Array.getElem?_eq_some_iff.1 H3.out).1; omega) (fun hf => by have := HLT.out _ hf; omega)).trans H3.out)
          have D4 := Lib.hid ((g4.1.block w2.heap.size (by have := (Array.getElem?_eq_some_iff.1 D3.out).1; omega) (fun hf => by have := HLT.out _ hf; omega)).trans D3.out)
          have G4 := Lib.hid ((Grow.of_below (F := F) B3.out).trans g4)
          have O4 := Lib.hid o4
          clear g4 o4 m4
          have hq := HQ2.out
          by_cases h0 : ue = 0
          · subst h0
            rw [if_pos rfl] at hq
            have hm := fun w' F' (o : OAt w' po UA F') => nmake_any o k2 v2 un hy
            generalize makeN UA k2 v2 un hy = MM at hm hq
            obtain ⟨mn, me, MA⟩ := MM
            simp only [] at hm hq
            subst hq
            have HM := Lib.hid hm; clear hm HQ2
            have O4d := Lib.hid (O4.out.below (Below.refl _ _).drew)
            have G4d := Lib.hid (G4.out.trans (Grow.of_below (Below.refl _ _).drew))
            have lt4a : w1.heap.size < w4.heap.size := (Array.getElem?_eq_some_iff.1 H4.out).1
            have lt4b : w2.heap.size < w4.heap.size := (Array.getElem?_eq_some_iff.1 D4.out).1
            go_wp2_with fail
            refine start_ (n := 14) (S := fun w' => w'.cell? ⟨w2.heap.size, 0, none⟩ = some (.int .i64 k2) ∧ w'.cell? ⟨w2.heap.size, 1, none⟩ = some (.int .i64 v2) ∧ w'.cell? ⟨w2.heap.size, 3, none⟩ = some (.int .i64 y2)) (ds := [9]) (bz 14 0).toArray (by kernel_rfl) rfl rfl ⟨(cell_blk (i := 0) (w := w4.drew) D4.out rfl), (cell_blk (i := 1) (w := w4.drew) D4.out rfl), (cell_blk (i := 3) (w := w4.drew) D4.out rfl)⟩ (fun hHeld => ?_)
            refine pure_ (i := 0) (N := some 84) (v := ?_) (a' := ?_) (bz 14 1).toArray rfl rfl (by kernel_rfl) (fun _ _ _ h => h) (Or.inl ⟨by rfl, ?_⟩) ?_ ?_
            rotate_left
            · intro w'
              go_simp
              with_reducible rfl
            rotate_left
            · simp only [Act.put, sqA, sqZ, sqS, i64_w, i32_w]
              rfl
            refine pure_ (i := 1) (N := some 85) (v := ?_) (a' := ?_) (bz 14 3).toArray rfl rfl (by kernel_rfl) (fun _ _ _ h => h) (Or.inl ⟨by rfl, ?_⟩) ?_ ?_
            rotate_left
            · intro w'
              go_simp
              with_reducible rfl
            rotate_left
            · simp only [Act.put, sqA, sqZ, sqS, i64_w, i32_w]
              rfl
            refine pure_ (i := 3) (N := some 87) (v := ?_) (a' := ?_) (bz 14 11).toArray rfl rfl (by kernel_rfl) (fun _ _ _ h => h) (Or.inl ⟨by rfl, ?_⟩) ?_ ?_
            rotate_left
            · intro w'
              go_simp
              with_reducible rfl
            rotate_left
            · simp only [Act.put, sqA, sqZ, sqS, i64_w, i32_w]
              rfl
            refine pure_ (i := 4) (N := some 88) (v := ?_) (a' := ?_) (bz 14 27).toArray rfl rfl (by kernel_rfl) (fun _ _ _ h => h) (Or.inl ⟨by rfl, ?_⟩) ?_ ?_
            rotate_left
            · intro w'
              go_simp
              with_reducible rfl
            rotate_left
            · simp only [Act.put, sqA, sqZ, sqS, i64_w, i32_w]
              rfl
            refine pure_ (i := 5) (N := some 89) (v := ?_) (a' := ?_) (bz 14 59).toArray rfl rfl (by kernel_rfl) (fun _ _ _ h => h) (Or.inl ⟨by rfl, ?_⟩) ?_ ?_
            rotate_left
            · intro w'
              go_simp
              with_reducible rfl
            rotate_left
            · simp only [Act.put, sqA, sqZ, sqS, i64_w, i32_w]
              rfl
            refine pure_ (i := 6) (N := some 90) (v := ?_) (a' := ?_) (bz 14 123).toArray rfl rfl (by kernel_rfl) (fun _ _ _ h => h) (Or.inl ⟨by rfl, ?_⟩) ?_ ?_
            rotate_left
            · intro w'
              go_simp
              with_reducible rfl
            rotate_left
            · simp only [Act.put, sqA, sqZ, sqS, i64_w, i32_w]
              rfl
            refine take_ (i := 2) (N := some 86) (v := ?_) (a' := ?_) (bz 14 127).toArray rfl rfl (by kernel_rfl) (fun _ _ _ h => h) (Or.inl ⟨by rfl, ?_⟩) hHeld ?_ ?_
            rotate_left
            · rintro w' ⟨s0, s1, s2⟩
              go_simp
              with_reducible rfl
            rotate_left
            · simp only [Act.put, sqA, sqZ, sqS, i64_w, i32_w]
              rfl
            refine take_ (i := 7) (N := some 91) (v := ?_) (a' := ?_) (bz 14 255).toArray rfl rfl (by kernel_rfl) (fun _ _ _ h => h) (Or.inl ⟨by rfl, ?_⟩) hHeld ?_ ?_
            rotate_left
            · rintro w' ⟨s0, s1, s2⟩
              go_simp
              with_reducible rfl
            rotate_left
            · simp only [Act.put, sqA, sqZ, sqS, i64_w, i32_w]
              rfl
            refine one_ (i := 8) (N := some 92) (bz 14 511).toArray rfl rfl (by kernel_rfl) (by decide) (fun K hK => ?_)
            refine goes_ Tryz.func187 (by kernel_rfl) rfl #[.pointer po, .int .i64 r, .int .i64 y2] (by rfl) rfl rfl (by simp only [List.map_toArray, List.map_cons, List.map_nil]; rfl) ?_
            with_reducible refine (HH4.out _ _ O4d.out).mono ?_
            rintro e w5 ⟨rfl, b5⟩
            refine ⟨_, rfl, ?_⟩
            have O5 := Lib.hid (O4d.out.below b5)
            have G5 := Lib.hid (G4d.out.trans (Grow.of_below b5))
            refine hK.out _ _ ⟨((b5.cell (by simp <;> omega)).trans hHeld.1), ((b5.cell (by simp <;> omega)).trans hHeld.2.1), ((b5.cell (by simp <;> omega)).trans hHeld.2.2)⟩ (fun hHeld => ?_)
            clear hK K
            refine norm_ (a' := ?_) ?_ ?_
            rotate_left
            · show Act.put _ (some 92) _ = _
              simp only [Act.put, sqA, sqZ, sqS, i64_w, i32_w]
              rfl
            refine last_ (i := 9) (N := some 93) (bz 14 1023).toArray rfl rfl (by kernel_rfl) (by decide) (fun K hK => ?_)
            refine goes_ Tryz.func67 (by kernel_rfl) rfl #[.pointer po, .agg #[.int .i64 k2, .int .i64 v2], .int .i64 un, .int .i64 hy] (by rfl) rfl rfl (by simp only [List.map_toArray, List.map_cons, List.map_nil]; rfl) ?_
            with_reducible refine (HM.out _ _ O5.out).mono ?_
            rintro e w6 ⟨rfl, m6⟩
            refine ⟨_, rfl, ?_⟩
            obtain ⟨F6, o6, g6⟩ := Made.out m6
            have G6 := Lib.hid (G5.out.trans g6)
            have O6 := Lib.hid o6
            clear m6 o6 g6
            refine hK.out _ _ ?_
            clear hK K
            refine norm_ (a' := ?_) ?_ ?_
            rotate_left
            · show Act.put _ (some 93) _ = _
              simp only [Act.put, sqA, sqZ, sqS, i64_w, i32_w]
              rfl
            refine pure_ (i := 10) (N := some 94) (v := ?_) (a' := ?_) (bz 14 2047).toArray rfl rfl (by kernel_rfl) (fun _ _ _ h => h) (Or.inl ⟨by rfl, ?_⟩) ?_ ?_
            rotate_left
            · intro w'
              go_simp
              with_reducible rfl
            rotate_left
            · simp only [Act.put, sqA, sqZ, sqS, i64_w, i32_w]
              rfl
            refine pure_ (i := 11) (N := some 95) (v := ?_) (a' := ?_) (bz 14 4095).toArray rfl rfl (by kernel_rfl) (fun _ _ _ h => h) (Or.inl ⟨by rfl, ?_⟩) ?_ ?_
            rotate_left
            · intro w'
              go_simp
              with_reducible rfl
            rotate_left
            · simp only [Act.put, sqA, sqZ, sqS, i64_w, i32_w]
              rfl
            refine pure_ (i := 12) (N := some 6) (v := ?_) (a' := ?_) (bz 14 8191).toArray rfl rfl (by kernel_rfl) (fun _ _ _ h => h) (Or.inl ⟨by rfl, ?_⟩) ?_ ?_
            rotate_left
            · intro w'
              go_simp
              with_reducible rfl
            rotate_left
            · simp only [Act.put, sqA, sqZ, sqS, i64_w, i32_w]
              rfl
            refine pure_ (i := 13) (N := some 7) (v := ?_) (a' := ?_) (bz 14 16383).toArray rfl rfl (by kernel_rfl) (fun _ _ _ h => h) (Or.inl ⟨by rfl, ?_⟩) ?_ ?_
            rotate_left
            · intro w'
              go_simp
              with_reducible rfl
            rotate_left
            · simp only [Act.put, sqA, sqZ, sqS, i64_w, i32_w]
              rfl
            refine done_ (by kernel_rfl) ?_
            go_wp2_with fail
            go_ret2
            exact ⟨rfl, Made.of_grow G6.out O6.out⟩
          · rw [if_neg h0] at hq
            subst hq
            have q0 : (ue == 0) = false := beq_eq_false_iff_ne.2 h0
            have q1 : (ue != 0) = true := by rw [bne, q0]; rfl
            clear h0 HQ2
            go_wp2_with fail
            go_ret2
            exact ⟨rfl, Made.of_grow G4.out O4.out⟩
      · have hn2 : isN A r = false := by simpa using hnr
        rw [hnl] at hgl
        rw [hn2] at hgr
        rw [show mergeF (m + 1) A l r = (l, 0, A) by simp only [mergeF]; rw [if_neg (by rw [hnl]; decide), if_pos hn2]]
        generalize getN A l = nd1 at hgl
        generalize getN A r = nd2 at hgr
        have HGL := Lib.hid hgl
        have HGR := Lib.hid hgr
        clear hgl hgr hlt hnl hnr hn2 ht h ih
        go_enter Tryz.func188, Tryz.ntmps188
        go_wp2_with fail
        refine HGL.out.mono ?_
        rintro e w1 ⟨rfl, b1⟩
        have z1 := b1.size
        have B1 := Lib.hid (b1.alloc z1 (.cells #[.int .i64 nd1.key, .int .i64 nd1.val, .int .i64 nd1.left, .int .i64 nd1.right, .int .i64 nd1.size, .int .i64 nd1.high] 177))
        have H1 := Lib.hid (heap_alloc_new w1 (.cells #[.int .i64 nd1.key, .int .i64 nd1.val, .int .i64 nd1.left, .int .i64 nd1.right, .int .i64 nd1.size, .int .i64 nd1.high] 177))
        clear b1
        go_wp2_with fail
        refine (HGR.out _ B1.out).mono ?_
        rintro e w2 ⟨rfl, b2⟩
        have z2 := b2.size
        simp at z2
        have lt2 : w1.heap.size < w2.heap.size := by omega
        have H2 := Lib.hid ((heap_alloc_old w2 (.cells #[.int .i64 nd2.key, .int .i64 nd2.val, .int .i64 nd2.left, .int .i64 nd2.right, .int .i64 nd2.size, .int .i64 nd2.high] 177) lt2).trans ((b2.block w1.heap.size (by simp)).trans H1.out))
        have D2 := Lib.hid (heap_alloc_new w2 (.cells #[.int .i64 nd2.key, .int .i64 nd2.val, .int .i64 nd2.left, .int .i64 nd2.right, .int .i64 nd2.size, .int .i64 nd2.high] 177))
        have B2 := Lib.hid ((B1.out.trans (b2.mono B1.out.size)).alloc (by omega) (.cells #[.int .i64 nd2.key, .int .i64 nd2.val, .int .i64 nd2.left, .int .i64 nd2.right, .int .i64 nd2.size, .int .i64 nd2.high] 177))
        clear b2
        go_wp2_with fail
        go_ret2
        exact ⟨rfl, Made.of_below HH.out B2.out⟩
    · have hn2 : isN A l = false := by simpa using hnl
      rw [hn2] at hgl
      rw [show mergeF (m + 1) A l r = (r, 0, A) from mergeF_l hn2]
      generalize getN A l = nd1 at hgl
      generalize getN A r = nd2 at hgr
      generalize isN A r = okr at hgr
      have HGL := Lib.hid hgl
      have HGR := Lib.hid hgr
      clear hgl hgr hlt hnl hn2 ht h ih
      go_enter Tryz.func188, Tryz.ntmps188
      go_wp2_with fail
      refine HGL.out.mono ?_
      rintro e w1 ⟨rfl, b1⟩
      have z1 := b1.size
      have B1 := Lib.hid (b1.alloc z1 (.cells #[.int .i64 nd1.key, .int .i64 nd1.val, .int .i64 nd1.left, .int .i64 nd1.right, .int .i64 nd1.size, .int .i64 nd1.high] 177))
      have H1 := Lib.hid (heap_alloc_new w1 (.cells #[.int .i64 nd1.key, .int .i64 nd1.val, .int .i64 nd1.left, .int .i64 nd1.right, .int .i64 nd1.size, .int .i64 nd1.high] 177))
      clear b1
      go_wp2_with fail
      refine (HGR.out _ B1.out).mono ?_
      rintro e w2 ⟨rfl, b2⟩
      have z2 := b2.size
      simp at z2
      have lt2 : w1.heap.size < w2.heap.size := by omega
      have H2 := Lib.hid ((heap_alloc_old w2 (.cells #[.int .i64 nd2.key, .int .i64 nd2.val, .int .i64 nd2.left, .int .i64 nd2.right, .int .i64 nd2.size, .int .i64 nd2.high] 177) lt2).trans ((b2.block w1.heap.size (by simp)).trans H1.out))
      have D2 := Lib.hid (heap_alloc_new w2 (.cells #[.int .i64 nd2.key, .int .i64 nd2.val, .int .i64 nd2.left, .int .i64 nd2.right, .int .i64 nd2.size, .int .i64 nd2.high] 177))
      have B2 := Lib.hid ((B1.out.trans (b2.mono B1.out.size)).alloc (by omega) (.cells #[.int .i64 nd2.key, .int .i64 nd2.val, .int .i64 nd2.left, .int .i64 nd2.right, .int .i64 nd2.size, .int .i64 nd2.high] 177))
      clear b2
      go_wp2_with fail
      go_ret2
      exact ⟨rfl, Made.of_below HH.out B2.out⟩
end Go.Proofs.YtghjnkfocjjlnaaGreat
namespace Go.Proofs.YtghjnkfocjjlnaaGreat
set_option maxRecDepth 100000
open Go.RowKit Go.Proofs.YtghjnkfocjjlnaaGreat.Mix Go.Proofs.YtghjnkfocjjlnaaGreatW.PrintWords Go.Proofs.YtghjnkfocjjlnaaGreatW.PrintLast
set_option linter.unusedSimpArgs false
set_option linter.unusedVariables false
set_option maxHeartbeats 1000000 in
theorem cut_no {w : World} {po : Option Addr} {A : OA} {F : Nat → Prop} (h : OAt w po A F) (t key : Int) (hn : isN A t = false) :
    Calls Tryz.prog 164 #[.pointer po, .int .i64 t, .int .i64 key] w fun e w' => e = .returned (.tuple #[.int .i64 0, .int .i64 0]) ∧ Made F w po A w' := by
  have hg := get_any h t
  rw [hn] at hg
  have HG := Lib.hid hg
  have HH := Lib.hid h
  clear hg h hn
  go_enter Tryz.func164, Tryz.ntmps164
  go_wp2_with fail
  refine HG.out.mono ?_
  rintro e w1 ⟨rfl, b1⟩
  have B1 := Lib.hid b1; clear b1
  go_wp2_with fail
  go_ret2
  exact ⟨rfl, Made.of_below HH.out (B1.out.alloc B1.out.size _)⟩
set_option maxRecDepth 100000 in
set_option maxHeartbeats 8000000 in
theorem cut_any (N : Nat) : ∀ {w : World} {po : Option Addr} {A : OA} {F : Nat → Prop} (_ : OAt w po A F) (t key : Int), t < N →
    Calls Tryz.prog 164 #[.pointer po, .int .i64 t, .int .i64 key] w fun e w' => e = .returned (.tuple #[.int .i64 (cutF N A t key).1, .int .i64 (cutF N A t key).2.1]) ∧ Made F w po (cutF N A t key).2.2 w' := by
  induction N with
  | zero =>
    intro w po A F h t key ht
    have hn : isN A t = false := by
      cases hb : isN A t with
      | false => rfl
      | true => have := isN_pos hb; omega
    rw [cutF_no hn]
    exact cut_no h t key hn
  | succ m ih =>
    intro w po A F h t key ht
    by_cases hn : isN A t = true
    · skip
      have hp := isN_pos hn
      have hg := get_any h t
      rw [hn] at hg
      have hh1 := fun w' (hb : Below w.heap.size w w') => hang_cut (h.below hb) t (getN A t).left
      have hh2 := fun w' (hb : Below w.heap.size w w') => hang_cut (h.below hb) t (getN A t).right
      have hL := (hang_lt A (getN A t).left hp).2
      have hR := (hang_lt A (getN A t).right hp).2
      have hlt := h.lt
      obtain ⟨Q, hQ⟩ : ∃ Q, Q = cutF (m + 1) A t key := ⟨_, rfl⟩
      rw [← hQ]
      simp only [cutF] at hQ
      rw [if_neg (by rw [hn]; decide)] at hQ
      unfold getH at hQ
      simp only [] at hQ
      generalize hangO A t (getN A t).left = L at hh1 hL hQ
      generalize hangO A t (getN A t).right = R at hh2 hR hQ
      generalize getN A t = nd at hg hh1 hh2 hQ
      obtain ⟨k, v, l, r, s, g⟩ := nd
      simp only [] at hg hh1 hh2 hQ
      have hcr := fun w' (hb : Below w.heap.size w w') => ih (h.below hb) R key (by omega)
      have hcl := fun w' (hb : Below w.heap.size w w') => ih (h.below hb) L key (by omega)
      have hon := fun w' (hb : Below w.heap.size w w') => one_any (L.toNat + R.toNat + 1) (h.below hb) L R (by omega)
      generalize cutF m A R key = QR at hcr hQ
      generalize cutF m A L key = QL at hcl hQ
      generalize mergeF (L.toNat + R.toNat + 1) A L R = QO at hon hQ
      obtain ⟨rn, re, RA⟩ := QR
      obtain ⟨ln, le, LA⟩ := QL
      obtain ⟨on, oe, OA'⟩ := QO
      simp only [] at hcr hcl hon hQ
      have HG := Lib.hid hg
      have HH1 := Lib.hid hh1
      have HH2 := Lib.hid hh2
      have HLT := Lib.hid hlt
      have HCR := Lib.hid hcr
      have HCL := Lib.hid hcl
      have HON := Lib.hid hon
      have HQ := Lib.hid hQ
      clear hg hh1 hh2 hlt hn hcr hcl hon hQ hp hL hR ht h ih
      go_enter Tryz.func164, Tryz.ntmps164
      go_wp2_with fail
      refine HG.out.mono ?_
      rintro e w1 ⟨rfl, b1⟩
      have z1 := b1.size
      have B1 := Lib.hid b1; clear b1
      go_wp2_with fail
      have B1d := Lib.hid ((B1.out.alloc B1.out.size (.cells #[.int .i64 k, .int .i64 v, .int .i64 l, .int .i64 r, .int .i64 s, .int .i64 g] 177)).drew)
      have H0 := Lib.hid (heap_alloc_new w1 (.cells #[.int .i64 k, .int .i64 v, .int .i64 l, .int .i64 r, .int .i64 s, .int .i64 g] 177))
      refine start_ (n := 12) (S := fun w' => w'.cell? ⟨w1.heap.size, 2, none⟩ = some (.int .i64 l) ∧ w'.cell? ⟨w1.heap.size, 3, none⟩ = some (.int .i64 r)) (ds := []) (bz 12 0).toArray (by kernel_rfl) rfl rfl ⟨(cell_blk (i := 2) (w := (w1.alloc _).drew) H0.out rfl), (cell_blk (i := 3) (w := (w1.alloc _).drew) H0.out rfl)⟩ (fun hHeld => ?_)
      refine pure_ (i := 0) (N := some 21) (v := ?_) (a' := ?_) (bz 12 1).toArray rfl rfl (by kernel_rfl) (fun _ _ _ h => h) (Or.inl ⟨by rfl, ?_⟩) ?_ ?_
      rotate_left
      · intro w'
        go_simp
        with_reducible rfl
      rotate_left
      · simp only [Act.put, sqA, sqZ, sqS, i64_w, i32_w]
        rfl
      refine pure_ (i := 1) (N := some 22) (v := ?_) (a' := ?_) (bz 12 3).toArray rfl rfl (by kernel_rfl) (fun _ _ _ h => h) (Or.inl ⟨by rfl, ?_⟩) ?_ ?_
      rotate_left
      · intro w'
        go_simp
        with_reducible rfl
      rotate_left
      · simp only [Act.put, sqA, sqZ, sqS, i64_w, i32_w]
        rfl
      refine pure_ (i := 2) (N := some 23) (v := ?_) (a' := ?_) (bz 12 7).toArray rfl rfl (by kernel_rfl) (fun _ _ _ h => h) (Or.inl ⟨by rfl, ?_⟩) ?_ ?_
      rotate_left
      · intro w'
        go_simp
        with_reducible rfl
      rotate_left
      · simp only [Act.put, sqA, sqZ, sqS, i64_w, i32_w]
        rfl
      refine pure_ (i := 5) (N := some 26) (v := ?_) (a' := ?_) (bz 12 39).toArray rfl rfl (by kernel_rfl) (fun _ _ _ h => h) (Or.inl ⟨by rfl, ?_⟩) ?_ ?_
      rotate_left
      · intro w'
        go_simp
        with_reducible rfl
      rotate_left
      · simp only [Act.put, sqA, sqZ, sqS, i64_w, i32_w]
        rfl
      refine pure_ (i := 6) (N := some 27) (v := ?_) (a' := ?_) (bz 12 103).toArray rfl rfl (by kernel_rfl) (fun _ _ _ h => h) (Or.inl ⟨by rfl, ?_⟩) ?_ ?_
      rotate_left
      · intro w'
        go_simp
        with_reducible rfl
      rotate_left
      · simp only [Act.put, sqA, sqZ, sqS, i64_w, i32_w]
        rfl
      refine pure_ (i := 7) (N := some 28) (v := ?_) (a' := ?_) (bz 12 231).toArray rfl rfl (by kernel_rfl) (fun _ _ _ h => h) (Or.inl ⟨by rfl, ?_⟩) ?_ ?_
      rotate_left
      · intro w'
        go_simp
        with_reducible rfl
      rotate_left
      · simp only [Act.put, sqA, sqZ, sqS, i64_w, i32_w]
        rfl
      refine take_ (i := 3) (N := some 24) (v := ?_) (a' := ?_) (bz 12 239).toArray rfl rfl (by kernel_rfl) (fun _ _ _ h => h) (Or.inl ⟨by rfl, ?_⟩) hHeld ?_ ?_
      rotate_left
      · rintro w' ⟨s0, s1⟩
        go_simp
        with_reducible rfl
      rotate_left
      · simp only [Act.put, sqA, sqZ, sqS, i64_w, i32_w]
        rfl
      refine take_ (i := 8) (N := some 29) (v := ?_) (a' := ?_) (bz 12 495).toArray rfl rfl (by kernel_rfl) (fun _ _ _ h => h) (Or.inl ⟨by rfl, ?_⟩) hHeld ?_ ?_
      rotate_left
      · rintro w' ⟨s0, s1⟩
        go_simp
        with_reducible rfl
      rotate_left
      · simp only [Act.put, sqA, sqZ, sqS, i64_w, i32_w]
        rfl
      refine one_ (i := 4) (N := some 25) (bz 12 511).toArray rfl rfl (by kernel_rfl) (by decide) (fun K hK => ?_)
      refine goes_ Tryz.func187 (by kernel_rfl) rfl #[.pointer po, .int .i64 t, .int .i64 l] (by rfl) rfl rfl (by simp only [List.map_toArray, List.map_cons, List.map_nil]; rfl) ?_
      with_reducible refine (HH1.out _ B1d.out).mono ?_
      rintro e w2 ⟨rfl, b2⟩
      refine ⟨_, rfl, ?_⟩
      have z2 := b2.size
      simp at z2
      have H2 := Lib.hid ((b2.block w1.heap.size (by simp)).trans H0.out)
      have B2 := Lib.hid (B1d.out.trans (b2.mono B1d.out.size))
      refine hK.out _ _ ⟨((b2.cell (by simp <;> omega)).trans hHeld.1), ((b2.cell (by simp <;> omega)).trans hHeld.2)⟩ (fun hHeld => ?_)
      clear hK K
      refine norm_ (a' := ?_) ?_ ?_
      rotate_left
      · show Act.put _ (some 25) _ = _
        simp only [Act.put, sqA, sqZ, sqS, i64_w, i32_w]
        rfl
      refine one_ (i := 9) (N := some 30) (bz 12 1023).toArray rfl rfl (by kernel_rfl) (by decide) (fun K hK => ?_)
      refine goes_ Tryz.func187 (by kernel_rfl) rfl #[.pointer po, .int .i64 t, .int .i64 r] (by rfl) rfl rfl (by simp only [List.map_toArray, List.map_cons, List.map_nil]; rfl) ?_
      with_reducible refine (HH2.out _ B2.out).mono ?_
      rintro e w3 ⟨rfl, b3⟩
      refine ⟨_, rfl, ?_⟩
      have z3 := b3.size
      have H3 := Lib.hid ((b3.block w1.heap.size (by omega)).trans H2.out)
      have B3 := Lib.hid (B2.out.trans (b3.mono B2.out.size))
      refine hK.out _ _ ⟨((b3.cell (by simp <;> omega)).trans hHeld.1), ((b3.cell (by simp <;> omega)).trans hHeld.2)⟩ (fun hHeld => ?_)
      clear hK K
      refine norm_ (a' := ?_) ?_ ?_
      rotate_left
      · show Act.put _ (some 30) _ = _
        simp only [Act.put, sqA, sqZ, sqS, i64_w, i32_w]
        rfl
      refine pure_ (i := 10) (N := some 10) (v := ?_) (a' := ?_) (bz 12 2047).toArray rfl rfl (by kernel_rfl) (fun _ _ _ h => h) (Or.inl ⟨by rfl, ?_⟩) ?_ ?_
      rotate_left
      · intro w'
        go_simp
        with_reducible rfl
      rotate_left
      · simp only [Act.put, sqA, sqZ, sqS, i64_w, i32_w]
        rfl
      refine pure_ (i := 11) (N := some 11) (v := ?_) (a' := ?_) (bz 12 4095).toArray rfl rfl (by kernel_rfl) (fun _ _ _ h => h) (Or.inl ⟨by rfl, ?_⟩) ?_ ?_
      rotate_left
      · intro w'
        go_simp
        with_reducible rfl
      rotate_left
      · simp only [Act.put, sqA, sqZ, sqS, i64_w, i32_w]
        rfl
      refine done_ (by kernel_rfl) ?_
      have x0 := cell_blk (i := 0) H3.out rfl
      have x1 := cell_blk (i := 1) H3.out rfl
      have x2 := cell_blk (i := 2) H3.out rfl
      have x3 := cell_blk (i := 3) H3.out rfl
      have x4 := cell_blk (i := 4) H3.out rfl
      have x5 := cell_blk (i := 5) H3.out rfl
      by_cases hk : k = key
      · subst hk
        have hq := HQ.out
        rw [if_pos rfl] at hq
        have qk := beq_self_eq_true k
        have HQ2 := Lib.hid hq; clear hq HQ
        go_wp2_with fail
        refine (holds_any k v l r s g k _).mono ?_
        rintro e w4 ⟨rfl, b4⟩
        have H4 := Lib.hid ((b4.block w1.heap.size (by have := (Array.getElem?_eq_some_iff.1 H3.out).1; omega)).trans H3.out)
        have B4 := Lib.hid (B3.out.trans (b4.mono B3.out.size)); clear b4
        clear x0 x1 x2 x3 x4 x5
        go_wp2_with fail
        refine (HON.out _ B4.out).mono ?_
        rintro e w5 ⟨rfl, m5⟩
        obtain ⟨F5, o5, g5⟩ := Made.out m5
        have G5 := Lib.hid ((Grow.of_below (F := F) B4.out).trans g5)
        have O5 := Lib.hid o5
        clear g5 o5 m5
        have hq := HQ2.out
        subst hq
        go_wp2_with fail
        go_ret2
        exact ⟨rfl, Made.of_grow G5.out O5.out⟩
      · have hq := HQ.out
        rw [if_neg hk] at hq
        have qk : (k == key) = false := beq_eq_false_iff_ne.2 hk
        clear HQ hk
        have HQ2 := Lib.hid hq; clear hq
        go_wp2_with fail
        refine (holds_any k v l r s g key _).mono ?_
        rintro e w4 ⟨rfl, b4⟩
        have H4 := Lib.hid ((b4.block w1.heap.size (by have := (Array.getElem?_eq_some_iff.1 H3.out).1; omega)).trans H3.out)
        have B4 := Lib.hid (B3.out.trans (b4.mono B3.out.size)); clear b4
        clear x0 x1 x2 x3 x4 x5
        have x0 := cell_blk (i := 0) H4.out rfl
        have x1 := cell_blk (i := 1) H4.out rfl
        have hq := HQ2.out
        by_cases hlk : key < k
        · rw [if_pos hlk] at hq
          have HQ3 := Lib.hid hq; clear hq HQ2
          go_wp2_with fail
          refine (HCL.out _ B4.out).mono ?_
          rintro e w5 ⟨rfl, m5⟩
          obtain ⟨F5, o5, g5⟩ := Made.out m5
          have H5 := Lib.hid ((g5.1.block w1.heap.size (by have := (Array.getElem?_eq_some_iff.1 H4.out).1; omega) (fun hf => by have := HLT.out _ hf; omega)).trans H4.out)
          have G5 := Lib.hid ((Grow.of_below (F := F) B4.out).trans g5)
          have O5 := Lib.hid o5
          clear g5 o5 m5
          clear x0 x1
          have hq := HQ3.out
          by_cases h0 : le = 0
          · subst h0
            rw [if_pos rfl] at hq
            have hm := fun w' F' (o : OAt w' po LA F') => nmake_any o k v ln R
            generalize makeN LA k v ln R = M at hm hq
            obtain ⟨mn, me, MA⟩ := M
            simp only [] at hm hq
            subst hq
            have HM := Lib.hid hm; clear hm HQ3
            have x0 := cell_blk (i := 0) H5.out rfl
            have x1 := cell_blk (i := 1) H5.out rfl
            go_wp2_with fail
            refine (HM.out _ _ O5.out).mono ?_
            rintro e w6 ⟨rfl, m6⟩
            obtain ⟨F6, o6, g6⟩ := Made.out m6
            have G6 := Lib.hid (G5.out.trans g6)
            have O6 := Lib.hid o6
            clear g6 o6 m6
            clear x0 x1
            go_wp2_with fail
            go_ret2
            exact ⟨rfl, Made.of_grow G6.out O6.out⟩
          · rw [if_neg h0] at hq
            subst hq
            have q0 : (le == 0) = false := beq_eq_false_iff_ne.2 h0
            have q1 : (le != 0) = true := by rw [bne, q0]; rfl
            clear h0 HQ3
            go_wp2_with fail
            go_ret2
            exact ⟨rfl, Made.of_grow G5.out O5.out⟩
        · rw [if_neg hlk] at hq
          have HQ3 := Lib.hid hq; clear hq HQ2
          go_wp2_with fail
          refine (HCR.out _ B4.out).mono ?_
          rintro e w5 ⟨rfl, m5⟩
          obtain ⟨F5, o5, g5⟩ := Made.out m5
          have H5 := Lib.hid ((g5.1.block w1.heap.size (by have := (Array.getElem?_eq_some_iff.1 H4.out).1; omega) (fun hf => by have := HLT.out _ hf; omega)).trans H4.out)
          have G5 := Lib.hid ((Grow.of_below (F := F) B4.out).trans g5)
          have O5 := Lib.hid o5
          clear g5 o5 m5
          clear x0 x1
          have hq := HQ3.out
          by_cases h0 : re = 0
          · subst h0
            rw [if_pos rfl] at hq
            have hm := fun w' F' (o : OAt w' po RA F') => nmake_any o k v L rn
            generalize makeN RA k v L rn = M at hm hq
            obtain ⟨mn, me, MA⟩ := M
            simp only [] at hm hq
            subst hq
            have HM := Lib.hid hm; clear hm HQ3
            have x0 := cell_blk (i := 0) H5.out rfl
            have x1 := cell_blk (i := 1) H5.out rfl
            go_wp2_with fail
            refine (HM.out _ _ O5.out).mono ?_
            rintro e w6 ⟨rfl, m6⟩
            obtain ⟨F6, o6, g6⟩ := Made.out m6
            have G6 := Lib.hid (G5.out.trans g6)
            have O6 := Lib.hid o6
            clear g6 o6 m6
            clear x0 x1
            go_wp2_with fail
            go_ret2
            exact ⟨rfl, Made.of_grow G6.out O6.out⟩
          · rw [if_neg h0] at hq
            subst hq
            have q0 : (re == 0) = false := beq_eq_false_iff_ne.2 h0
            have q1 : (re != 0) = true := by rw [bne, q0]; rfl
            clear h0 HQ3
            go_wp2_with fail
            go_ret2
            exact ⟨rfl, Made.of_grow G5.out O5.out⟩
    · have hn2 : isN A t = false := by simpa using hn
      rw [cutF_no hn2]
      exact cut_no h t key hn2
set_option maxRecDepth 100000 in
set_option maxHeartbeats 4000000 in
theorem cutO_any {w : World} {po : Option Addr} {A : OA} {F : Nat → Prop} (h : OAt w po A F) (t key : Int) :
    Calls Tryz.prog 129 #[.pointer po, .int .i64 t, .int .i64 key] w fun e w' => e = .returned (.tuple #[.int .i64 (cutO A t key).1, .int .i64 (cutO A t key).2.1, .bool (cutO A t key).2.2.1, .int .i64 (cutO A t key).2.2.2.1]) ∧ Made F w po (cutO A t key).2.2.2.2 w' := by
  have HH := Lib.hid h
  have HLT := Lib.hid h.lt
  have hg := get_any h t
  rcases h with ⟨rfl, rfl, _⟩ | ⟨a, p, sv, row, rfl, rfl, _⟩
  · rw [show cutO none t key = (0, 0, false, 1, none) from rfl]
    generalize getN none t = nd at hg
    have HG := Lib.hid hg; clear hg
    go_enter Tryz.func129, Tryz.ntmps129
    go_wp2_with fail
    refine HG.out.mono ?_
    rintro e w1 ⟨rfl, b1⟩
    have B1 := Lib.hid (b1.alloc b1.size (.cells #[.int .i64 nd.key, .int .i64 nd.val, .int .i64 nd.left, .int .i64 nd.right, .int .i64 nd.size, .int .i64 nd.high] 177)); clear b1
    go_wp2_with fail
    refine bodyPost_ret (v := .tuple #[.int .i64 0, .int .i64 0, .bool false, .int .i64 1]) (by simp [results, Tryz.results129, go_sem]) rfl ⟨rfl, Made.of_below HH.out B1.out⟩
  · generalize getN (some a) t = nd at hg
    by_cases h0 : t = 0
    · subst h0
      have hi : isT (some a) 0 = true := rfl
      rw [show cutO (some a) 0 key = (if (lgF (fuel 0) (some a) 0 key).2 = false then (0, 0, false, 0, some a) else if (cutF (fuel 0) (some a) 0 key).2.1 = 0 then ((cutF (fuel 0) (some a) 0 key).1, (lgF (fuel 0) (some a) 0 key).1, true, 0, (cutF (fuel 0) (some a) 0 key).2.2) else (0, 0, false, (cutF (fuel 0) (some a) 0 key).2)) by unfold cutO; rw [if_neg (by rw [hi]; decide)]]
      obtain ⟨Q, hQ⟩ : ∃ Q, Q = (if (lgF (fuel 0) (some a) 0 key).2 = false then (0, 0, false, 0, some a) else if (cutF (fuel 0) (some a) 0 key).2.1 = 0 then ((cutF (fuel 0) (some a) 0 key).1, (lgF (fuel 0) (some a) 0 key).1, true, 0, (cutF (fuel 0) (some a) 0 key).2.2) else (0, 0, false, (cutF (fuel 0) (some a) 0 key).2)) := ⟨_, rfl⟩
      rw [← hQ]
      have hl := fun w' (hb : Below w.heap.size w w') => lookGet_any (HH.out.below hb) (fuel 0) 0 key (lt_fuel 0)
      have hc := fun w' (hb : Below w.heap.size w w') => cut_any (fuel 0) (HH.out.below hb) 0 key (lt_fuel 0)
      generalize lgF (fuel 0) (some a) 0 key = G at hl hQ
      generalize cutF (fuel 0) (some a) 0 key = P at hc hQ
      obtain ⟨gv, gw⟩ := G
      obtain ⟨u, pe, PA⟩ := P
      simp only [] at hl hc hQ
      have HL := Lib.hid hl
      have HC := Lib.hid hc
      have HQ := Lib.hid hQ
      clear hl hc hQ
      have HG := Lib.hid hg; clear hg hi
      go_enter Tryz.func129, Tryz.ntmps129
      go_wp2_with fail
      refine HG.out.mono ?_
      rintro e w1 ⟨rfl, b1⟩
      have B1 := Lib.hid (b1.alloc b1.size (.cells #[.int .i64 nd.key, .int .i64 nd.val, .int .i64 nd.left, .int .i64 nd.right, .int .i64 nd.size, .int .i64 nd.high] 177)); clear b1
      go_wp2_with fail
      refine (HL.out _ B1.out).mono ?_
      rintro e w2 ⟨rfl, b2⟩
      have B2 := Lib.hid (B1.out.trans (b2.mono B1.out.size)); clear b2
      have hq := HQ.out
      cases gw with
      | false =>
        rw [if_pos rfl] at hq
        subst hq
        go_wp2_with fail
        refine bodyPost_ret (v := .tuple #[.int .i64 0, .int .i64 0, .bool false, .int .i64 0]) (by simp [results, Tryz.results129, go_sem]) rfl ⟨rfl, Made.of_below HH.out B2.out⟩
      | true =>
        rw [if_neg (by decide)] at hq
        have HQ2 := Lib.hid hq; clear hq HQ
        go_wp2_with fail
        refine (HC.out _ B2.out).mono ?_
        rintro e w3 ⟨rfl, m3⟩
        obtain ⟨F3, o3, g3⟩ := Made.out m3
        have G3 := Lib.hid ((Grow.of_below (F := F) B2.out).trans g3)
        have O3 := Lib.hid o3
        clear g3 o3 m3
        have hq := HQ2.out
        by_cases h0 : pe = 0
        · subst h0
          rw [if_pos rfl] at hq
          subst hq
          go_wp2_with fail
          refine bodyPost_ret (v := .tuple #[.int .i64 u, .int .i64 gv, .bool true, .int .i64 0]) (by simp [results, Tryz.results129, go_sem]) rfl ⟨rfl, Made.of_grow G3.out O3.out⟩
        · rw [if_neg h0] at hq
          subst hq
          have q0 : (pe == 0) = false := beq_eq_false_iff_ne.2 h0
          have q1 : (pe != 0) = true := by rw [bne, q0]; rfl
          clear h0
          go_wp2_with fail
          refine bodyPost_ret (v := .tuple #[.int .i64 0, .int .i64 0, .bool false, .int .i64 pe]) (by simp [results, Tryz.results129, go_sem]) rfl ⟨rfl, Made.of_grow G3.out O3.out⟩
    · have q0 : (t == 0) = false := beq_eq_false_iff_ne.2 h0
      have q1 : (t != 0) = true := by rw [bne, q0]; rfl
      cases hn : isN (some a) t with
      | false =>
        rw [hn] at hg
        rw [show cutO (some a) t key = (0, 0, false, 1, some a) by unfold cutO; rw [if_pos (by unfold isT; simp [h0, hn])]]
        have HG := Lib.hid hg; clear hg h0 hn
        go_enter Tryz.func129, Tryz.ntmps129
        go_wp2_with fail
        refine HG.out.mono ?_
        rintro e w1 ⟨rfl, b1⟩
        have B1 := Lib.hid (b1.alloc b1.size (.cells #[.int .i64 nd.key, .int .i64 nd.val, .int .i64 nd.left, .int .i64 nd.right, .int .i64 nd.size, .int .i64 nd.high] 177)); clear b1
        go_wp2_with fail
        refine bodyPost_ret (v := .tuple #[.int .i64 0, .int .i64 0, .bool false, .int .i64 1]) (by simp [results, Tryz.results129, go_sem]) rfl ⟨rfl, Made.of_below HH.out B1.out⟩
      | true =>
        rw [hn] at hg
        have hi : isT (some a) t = true := by unfold isT; simp [hn]
        rw [show cutO (some a) t key = (if (lgF (fuel t) (some a) t key).2 = false then (t, 0, false, 0, some a) else if (cutF (fuel t) (some a) t key).2.1 = 0 then ((cutF (fuel t) (some a) t key).1, (lgF (fuel t) (some a) t key).1, true, 0, (cutF (fuel t) (some a) t key).2.2) else (0, 0, false, (cutF (fuel t) (some a) t key).2)) by unfold cutO; rw [if_neg (by rw [hi]; decide)]]
        obtain ⟨Q, hQ⟩ : ∃ Q, Q = (if (lgF (fuel t) (some a) t key).2 = false then (t, 0, false, 0, some a) else if (cutF (fuel t) (some a) t key).2.1 = 0 then ((cutF (fuel t) (some a) t key).1, (lgF (fuel t) (some a) t key).1, true, 0, (cutF (fuel t) (some a) t key).2.2) else (0, 0, false, (cutF (fuel t) (some a) t key).2)) := ⟨_, rfl⟩
        rw [← hQ]
        have hl := fun w' (hb : Below w.heap.size w w') => lookGet_any (HH.out.below hb) (fuel t) t key (lt_fuel t)
        have hc := fun w' (hb : Below w.heap.size w w') => cut_any (fuel t) (HH.out.below hb) t key (lt_fuel t)
        generalize lgF (fuel t) (some a) t key = G at hl hQ
        generalize cutF (fuel t) (some a) t key = P at hc hQ
        obtain ⟨gv, gw⟩ := G
        obtain ⟨u, pe, PA⟩ := P
        simp only [] at hl hc hQ
        have HL := Lib.hid hl
        have HC := Lib.hid hc
        have HQ := Lib.hid hQ
        clear hl hc hQ
        have HG := Lib.hid hg; clear hg h0 hn hi
        go_enter Tryz.func129, Tryz.ntmps129
        go_wp2_with fail
        refine HG.out.mono ?_
        rintro e w1 ⟨rfl, b1⟩
        have B1 := Lib.hid (b1.alloc b1.size (.cells #[.int .i64 nd.key, .int .i64 nd.val, .int .i64 nd.left, .int .i64 nd.right, .int .i64 nd.size, .int .i64 nd.high] 177)); clear b1
        go_wp2_with fail
        refine (HL.out _ B1.out).mono ?_
        rintro e w2 ⟨rfl, b2⟩
        have B2 := Lib.hid (B1.out.trans (b2.mono B1.out.size)); clear b2
        have hq := HQ.out
        cases gw with
        | false =>
          rw [if_pos rfl] at hq
          subst hq
          go_wp2_with fail
          refine bodyPost_ret (v := .tuple #[.int .i64 t, .int .i64 0, .bool false, .int .i64 0]) (by simp [results, Tryz.results129, go_sem]) rfl ⟨rfl, Made.of_below HH.out B2.out⟩
        | true =>
          rw [if_neg (by decide)] at hq
          have HQ2 := Lib.hid hq; clear hq HQ
          go_wp2_with fail
          refine (HC.out _ B2.out).mono ?_
          rintro e w3 ⟨rfl, m3⟩
          obtain ⟨F3, o3, g3⟩ := Made.out m3
          have G3 := Lib.hid ((Grow.of_below (F := F) B2.out).trans g3)
          have O3 := Lib.hid o3
          clear g3 o3 m3
          have hq := HQ2.out
          by_cases h0 : pe = 0
          · subst h0
            rw [if_pos rfl] at hq
            subst hq
            go_wp2_with fail
            refine bodyPost_ret (v := .tuple #[.int .i64 u, .int .i64 gv, .bool true, .int .i64 0]) (by simp [results, Tryz.results129, go_sem]) rfl ⟨rfl, Made.of_grow G3.out O3.out⟩
          · rw [if_neg h0] at hq
            subst hq
            have q0 : (pe == 0) = false := beq_eq_false_iff_ne.2 h0
            have q1 : (pe != 0) = true := by rw [bne, q0]; rfl
            clear h0
            go_wp2_with fail
            refine bodyPost_ret (v := .tuple #[.int .i64 0, .int .i64 0, .bool false, .int .i64 pe]) (by simp [results, Tryz.results129, go_sem]) rfl ⟨rfl, Made.of_grow G3.out O3.out⟩
end Go.Proofs.YtghjnkfocjjlnaaGreat
