/- The walk of the law PutOrder. -/
import Derived.Test.YtakgknoldkfekaaAwake5
import Derived.Test.YtakgknoldkfekaaRefW
import Derived.Test.YtakgknoldkfekaaSaysW
import Derived.Test.YtakgknoldkfekaaFrelQ
import Derived.Test.YtakgknoldkfekaaOrdP
import Derived.Test.YtakgknoldkfekaaWMore
namespace Go.Proofs.Ytakgknoldkfekaa
set_option maxRecDepth 100000
open Go.RowKit Go.Proofs.YtakgknoldkfekaaW.PrintWords Go.Proofs.YtakgknoldkfekaaW.PrintLast
set_option linter.unusedSimpArgs false
set_option linter.unusedVariables false

set_option maxRecDepth 100000 in
set_option maxHeartbeats 4000000 in
theorem putOrder_walk (W : World) {ad : Option Addr} {c : Nat} {l : List Pr} (hl : PIn W ad c l) (hokl : okP l) (turn : Int) (hturn : -9223372036854775808 ≤ turn ∧ turn ≤ 9223372036854775807) :
    Calls Try.prog 9 #[.slice ad l.length c, .int .i64 turn] W fun e w' => e = .returned (.bool true) ∧ Below W.heap.size W w' := by
  clear hokl
  by_cases h40 : 40 < (l.length : Int)
  · go_enter Try.func9, Try.ntmps9
    go_wp2_with (go_at_call 33; refine (awake5_any W _ (Below.refl _ _)).mono ?_; rintro e wz ⟨rfl, bz⟩)
    go_ret
    exact ⟨rfl, bz⟩
  · have hl40 : l.length ≤ 40 := by omega
    have hql := firsts_len l
    have hone := firsts_one l
    obtain ⟨q, hq⟩ : ∃ q, firsts l = q := ⟨_, rfl⟩
    rw [hq] at hql hone
    have HQE := Lib.hid hq; clear hq
    have HONE := Lib.hid hone; clear hone
    obtain ⟨r, hr, hrlt⟩ := rem_len turn (q.length + 1) (by omega) (by omega)
    rw [show ((q.length + 1 : Nat) : Int) = (q.length : Int) + 1 by omega] at hr
    have HRR := Lib.hid hr; clear hr
    have hrq : r ≤ q.length := by omega
    have hq40 : q.length ≤ 40 := by omega
    have HTK := Lib.hid (show (q.take r).length = r by rw [List.length_take]; omega)
    have HDT := Lib.hid (show (q.drop r ++ q.take r).length = q.length by rw [List.length_append, List.length_drop, List.length_take]; omega)
    have HL := Lib.hid hl; clear hl
    go_enter Try.func9, Try.ntmps9
    go_wp2_with fail
    go_loopw [5, 25] (fun v i wr => ∃ k : Nat, k ≤ l.length ∧ i = .int .i64 k ∧ Hid (FRel W.heap.size wr v (firsts (l.take k)) ∧ Below W.heap.size W wr)) (fun _ i _ => l.length - (intOf i).toNat)
    case atStart => exact ⟨0, Nat.zero_le _, rfl, Lib.hid ⟨FRel.start _, Below.refl _ _⟩⟩
    case round =>
      obtain ⟨k, hk, rfl, HR⟩ := hrel
      have hz := HR.out.1.le
      by_cases hlt : k < l.length
      · obtain ⟨b, off, rfl, d0, d1⟩ := HL.out.cell HR.out.2 HL.out.lt hlt
        have hsn := firsts_snoc (l.take k) l[k]
        rw [← List.take_succ_eq_append_getElem hlt] at hsn
        have hol := firsts_len (l.take k)
        rw [List.length_take] at hol
        generalize firsts (l.take k) = out at HR hsn hol
        obtain ⟨x, hx⟩ : ∃ x, l[k] = x := ⟨_, rfl⟩
        rw [hx] at hsn d0 d1
        clear hx
        obtain ⟨xk, xv⟩ := x
        simp only [] at hsn d0 d1
        have hbl : b < wr.heap.size := World.block_lt_of_cell? wr _ d0
        obtain ⟨ad', c', rfl, hpo, _⟩ := HR.out.1.gives
        have hb1 : Below wr.heap.size wr (wr.alloc (.cells #[.int .i64 xk, .int .i64 xv] 37)) := (Below.refl _ _).alloc (Nat.le_refl _) _
        have R1 := Lib.hid (HR.out.1.alloc (.cells #[.int .i64 xk, .int .i64 xv] 37))
        have B1x := Lib.hid (HR.out.2.alloc hz (.cells #[.int .i64 xk, .int .i64 xv] 37))
        have E1 := Lib.hid (heap_alloc_new wr (.cells #[.int .i64 xk, .int .i64 xv] 37))
        have cf := find_any (wr.alloc (.cells #[.int .i64 xk, .int .i64 xv] 37)) (hpo.later hb1) xk
        clear hpo hb1
        have ho2 : out.length ≤ 40 := by omega
        clear hol
        by_cases hf : findI out xk < 0
        · rw [if_pos hf] at hsn
          generalize findI out xk = fi at cf hf
          have HS := Lib.hid hsn; clear hsn
          have CF := Lib.hid cf; clear cf
          go_wp2_with fail
          refine CF.out.mono ?_
          rintro e w2 ⟨rfl, b2⟩
          have z2 := b2.size
          simp at z2
          have E2 := Lib.hid ((b2.block wr.heap.size (by simp)).trans E1.out)
          have B2x := Lib.hid ((B1x.out.trans (b2.mono B1x.out.size)).alloc (by omega) (.cells #[.int .i64 xk, .int .i64 xv] 37))
          have R2 := Lib.hid ((R1.out.later b2).alloc (.cells #[.int .i64 xk, .int .i64 xv] 37))
          have G2 := Lib.hid (heap_alloc_new w2 (.cells #[.int .i64 xk, .int .i64 xv] 37))
          clear b2
          have x0 := cell_blk (i := 0) E2.out rfl
          have x1 := cell_blk (i := 1) E2.out rfl
          have lt2 : wr.heap.size < w2.heap.size := by omega
          go_wp2_with (at_builtin; refine wp_appr (y := (xk, xv)) rfl (.tmp 34) (.tmp 36) rfl rfl rfl R2.out G2.out (by omega) ?_; intro v1 w3 r1 g1; have R3 := Lib.hid r1; have B3x := Lib.hid (Below.grow B2x.out R2.out (Nat.le_refl _) g1); clear r1 g1)
          go_roundw
          case rel => exact ⟨k + 1, by omega, by go_num, Lib.hid ⟨by rw [HS.out]; exact R3.out, B3x.out⟩⟩
          case measure => simp [intOf]; omega
        · rw [if_neg hf] at hsn
          have hf2 : ¬ (findI out xk < 0) := hf
          generalize findI out xk = fi at cf hf hf2
          have HS := Lib.hid hsn; clear hsn
          have CF := Lib.hid cf; clear cf
          go_wp2_with fail
          refine CF.out.mono ?_
          rintro e w2 ⟨rfl, b2⟩
          have B2x := Lib.hid (B1x.out.trans (b2.mono B1x.out.size))
          have R2 := Lib.hid (R1.out.later b2)
          clear b2
          go_wp2_with fail
          go_roundw
          case rel => exact ⟨k + 1, by omega, by go_num, Lib.hid ⟨by rw [HS.out]; exact R2.out, B2x.out⟩⟩
          case measure => simp [intOf]; omega
      · have hkl : k = l.length := by omega
        subst hkl
        rw [List.take_length, HQE.out] at HR
        obtain ⟨ad1, c1, rfl, hpin, hnew, hnc⟩ := HR.out.1.givesC
        have HN := Lib.hid hnc
        have P1 := Lib.hid hpin
        have B1 := Lib.hid HR.out.2
        clear HR hlt hk hpin hnew hnc
        have hr := HRR.out
        go_wp2_with fail
        refine (new_any 60000 wr).mono ?_
        rintro e w2 ⟨rfl, o2, b2⟩
        have S2 := Lib.hid (St.begin B1.out o2 b2)
        have K2 := Lib.hid (PK.begin P1.out b2)
        clear o2 b2
        have rn : (newA 60000).room = 60000 := newA_room (by omega) (by omega)
        have sn : (newA 60000).slots.length = 0 := by rw [newA_slots]; rfl
        obtain ⟨a3, t, e3, t3, x3, f3, l3⟩ := ofO_room (a := newA 60000) (ps := q) 40 (by omega) (by omega) (show ((newA 60000).slots.length : Int) ≤ (newA 60000).room by omega) (by omega)
        have r3 := x3.1
        obtain ⟨a4, u, e4, t4, x4, f4, l4⟩ := ofO_room (a := a3) (ps := q.drop r ++ q.take r) 40 (by omega) (by rw [HDT.out]; omega) f3 (by rw [HDT.out]; omega)
        have r4 := x4.1
        rw [HDT.out] at l4
        rw [insL_turn HONE.out] at t4
        obtain ⟨a5, v, e5, t5, x5, f5, l5⟩ := ofO_room (a := a4) (ps := q ++ q) 80 (by omega) (by rw [List.length_append]; omega) f4 (by rw [List.length_append]; omega)
        rw [insL_twice HONE.out] at t5
        have tt := (t3.ext x4).ext x5
        have tu := t4.ext x5
        clear t3 t4 x3 x4 x5 f3 f4 f5 l3 l4 l5 r3 r4 rn sn
        have E4 := Lib.hid e4; have E5 := Lib.hid e5; clear e4 e5
        have hr := HRR.out
        have cc := of_any S2.out.arena K2.out 
        rw [e3] at cc
        have CC := Lib.hid cc; clear cc
        go_wp2_with fail
        refine CC.out.mono ?_
        rintro e w3 ⟨rfl, m3⟩
        clear CC
        obtain ⟨F3, o3, g3⟩ := Made.out m3
        have S3 := Lib.hid (S2.out.grow g3 o3)
        have K3 := Lib.hid (K2.out.grow g3)
        clear m3 o3 g3
        clear hr
        obtain ⟨A2, c2, n2, hn2, hcut2, hP2, hnc2⟩ := subKC_from (ad := ad1) (c := c1) (l := q) r hrq HN.out
        have hcut1 := cutP_to ad1 q.length c1 r hrq K3.out.pin.room
        have HP2 := Lib.hid hP2; have HN2 := Lib.hid hnc2; have HNE := Lib.hid hn2; clear hP2 hnc2 hn2
        have BD := Lib.hid ((Below.refl w3.heap.size w3).drew)
        have R0 := Lib.hid (show FRel w3.heap.size (w3.drew.alloc (.cells #[] 37)) (.slice (some ⟨w3.heap.size, 0, none⟩) 0 0) [] from FRel.empty w3.drew)
        have BA := Lib.hid (BD.out.alloc (Nat.le_refl _) (.cells #[] 37))
        have PD := Lib.hid (HP2.out _ _ (K3.out.later BA.out)).pin
        have hdl : (q.drop r).length ≤ 40 := by rw [List.length_drop]; omega
        have hdt : (q.drop r ++ q.take r).length = q.length := HDT.out
        have hdt2 : (q.drop r).length + (q.take r).length = q.length := by rw [← List.length_append]; exact hdt
        have HD2 := Lib.hid hdt2; clear hdt hdt2
        go_wp2_with fail
        refine start_ (n := 16) (S := fun w' => True) (ds := []) #[false, false, false, false, false, false, false, false, false, false, false, false, false, false, false, false] (by kernel_rfl) rfl rfl trivial (fun hHeld => ?_)
        refine pure_ (i := 0) (N := some 55) (v := ?_) (a' := ?_) #[true, false, false, false, false, false, false, false, false, false, false, false, false, false, false, false] rfl rfl (by kernel_rfl) (fun _ _ _ h => h) (Or.inl ⟨by rfl, ?_⟩) ?_ ?_
        rotate_left
        · intro w'
          go_simp
          with_reducible rfl
        rotate_left
        · simp only [Act.put, List.setIfInBounds_toArray, List.set_cons_zero, List.set_cons_succ, i64_w, i32_w]
          rfl
        refine pure_ (i := 2) (N := some 57) (v := ?_) (a' := ?_) #[true, false, true, false, false, false, false, false, false, false, false, false, false, false, false, false] rfl rfl (by kernel_rfl) (fun _ _ _ h => h) (Or.inl ⟨by rfl, ?_⟩) ?_ ?_
        rotate_left
        · intro w'
          go_simp
          with_reducible rfl
        rotate_left
        · simp only [Act.put, List.setIfInBounds_toArray, List.set_cons_zero, List.set_cons_succ, i64_w, i32_w]
          rfl
        refine pure_ (i := 3) (N := some 58) (v := ?_) (a' := ?_) #[true, false, true, true, false, false, false, false, false, false, false, false, false, false, false, false] rfl rfl (by kernel_rfl) (fun _ _ _ h => h) (Or.inl ⟨by rfl, ?_⟩) ?_ ?_
        rotate_left
        · intro w'
          go_simp
          with_reducible rfl
        rotate_left
        · simp only [Act.put, List.setIfInBounds_toArray, List.set_cons_zero, List.set_cons_succ, i64_w, i32_w]
          rfl
        refine pure_ (i := 4) (N := some 59) (v := ?_) (a' := ?_) #[true, false, true, true, true, false, false, false, false, false, false, false, false, false, false, false] rfl rfl (by kernel_rfl) (fun _ _ _ h => h) (Or.inl ⟨by rfl, ?_⟩) ?_ ?_
        rotate_left
        · intro w'
          go_simp
          with_reducible rfl
        rotate_left
        · simp only [Act.put, List.setIfInBounds_toArray, List.set_cons_zero, List.set_cons_succ, i64_w, i32_w]
          rfl
        refine pure_ (i := 6) (N := some 61) (v := ?_) (a' := ?_) #[true, false, true, true, true, false, true, false, false, false, false, false, false, false, false, false] rfl rfl (by kernel_rfl) (fun _ _ _ h => h) (Or.inl ⟨by rfl, ?_⟩) ?_ ?_
        rotate_left
        · intro w'
          go_simp
          with_reducible rfl
        rotate_left
        · simp only [Act.put, List.setIfInBounds_toArray, List.set_cons_zero, List.set_cons_succ, i64_w, i32_w]
          rfl
        refine pure_ (i := 7) (N := some 62) (v := ?_) (a' := ?_) #[true, false, true, true, true, false, true, true, false, false, false, false, false, false, false, false] rfl rfl (by kernel_rfl) (fun _ _ _ h => h) (Or.inl ⟨by rfl, ?_⟩) ?_ ?_
        rotate_left
        · intro w'
          go_simp
          with_reducible rfl
        rotate_left
        · simp only [Act.put, List.setIfInBounds_toArray, List.set_cons_zero, List.set_cons_succ, i64_w, i32_w]
          rfl
        refine pure_ (i := 8) (N := some 63) (v := ?_) (a' := ?_) #[true, false, true, true, true, false, true, true, true, false, false, false, false, false, false, false] rfl rfl (by kernel_rfl) (fun _ _ _ h => h) (Or.inl ⟨by rfl, ?_⟩) ?_ ?_
        rotate_left
        · intro w'
          go_simp
          with_reducible rfl
        rotate_left
        · simp only [Act.put, List.setIfInBounds_toArray, List.set_cons_zero, List.set_cons_succ, i64_w, i32_w]
          rfl
        refine one_ (i := 1) (N := some 56) #[true, true, true, true, true, false, true, true, true, false, false, false, false, false, false, false] rfl rfl (by kernel_rfl) (by decide) (fun K hK => ?_)
        refine value_ (w1 := ?_) (v := ?_) (by rfl) rfl ?_ ?_
        rotate_left 2
        · go_simp
          constructor
          · rfl
          · rfl
        refine hK.out _ _ trivial (fun hHeld => ?_)
        clear hK K
        refine norm_ (a' := ?_) ?_ ?_
        rotate_left
        · show Act.put _ (some 56) _ = _
          simp only [Act.put, List.setIfInBounds_toArray, List.set_cons_zero, List.set_cons_succ, i64_w, i32_w]
          rfl
        refine one_ (i := 5) (N := some 60) #[true, true, true, true, true, true, true, true, true, false, false, false, false, false, false, false] rfl rfl (by kernel_rfl) (by decide) (fun K hK => ?_)
        refine step_apps (ys := q.drop r) (by rfl) rfl (.tmp 56) (.tmp 59) rfl rfl (by rw [← HNE.out]; rfl) R0.out PD.out HN2.out (by simp; omega) ?_
        intro v1 w41 r1x g1
        have r1 : FRel _ w41 v1 (q.drop r) := r1x
        have R1 := Lib.hid r1
        have B1y := Lib.hid (Below.growB BA.out R0.out g1)
        clear r1x r1 g1
        have PT := Lib.hid ((K3.out.later B1y.out).take r).pin
        refine hK.out _ _ trivial (fun hHeld => ?_)
        clear hK K
        refine norm_ (a' := ?_) ?_ ?_
        rotate_left
        · show Act.put _ (some 60) _ = _
          simp only [Act.put, List.setIfInBounds_toArray, List.set_cons_zero, List.set_cons_succ, i64_w, i32_w]
          rfl
        refine one_ (i := 9) (N := some 64) #[true, true, true, true, true, true, true, true, true, true, false, false, false, false, false, false] rfl rfl (by kernel_rfl) (by decide) (fun K hK => ?_)
        refine step_apps (ys := q.take r) (by rfl) rfl (.tmp 60) (.tmp 63) rfl rfl (by rw [HTK.out]; rfl) R1.out PT.out HN.out (by have := HD2.out; omega) ?_
        intro v2 w42 r2 g2
        have R2 := Lib.hid r2
        have B2y := Lib.hid (Below.growB B1y.out R1.out g2)
        clear r2 g2
        obtain ⟨adV, cV, hv2, pv, nv⟩ := R2.out.gives
        rw [HDT.out] at hv2
        subst hv2
        have S42 := Lib.hid (S3.out.later B2y.out)
        have K42 := Lib.hid (K3.out.later B2y.out)
        have V42 := Lib.hid (PK.mk (F := F3) pv (fun _ x hx hf => by have := nv x hx; have := S3.out.arena.lt _ hf; omega))
        have cc := of_any S42.out.arena V42.out
        rw [E4.out, HDT.out] at cc
        have CC := Lib.hid cc; clear cc pv nv
        refine hK.out _ _ trivial (fun hHeld => ?_)
        clear hK K
        refine norm_ (a' := ?_) ?_ ?_
        rotate_left
        · show Act.put _ (some 64) _ = _
          simp only [Act.put, List.setIfInBounds_toArray, List.set_cons_zero, List.set_cons_succ, i64_w, i32_w]
          rfl
        refine one_ (i := 10) (N := some 65) #[true, true, true, true, true, true, true, true, true, true, true, false, false, false, false, false] rfl rfl (by kernel_rfl) (by decide) (fun K hK => ?_)
        refine goes_ Try.func35 (by kernel_rfl) rfl #[.pointer (some ⟨wr.heap.size, 0, none⟩), .slice adV q.length cV] (by rfl) rfl rfl (by simp only [List.map_toArray, List.map_cons, List.map_nil]; rfl) ?_
        with_reducible refine (CC.out).mono ?_
        rintro e w43 ⟨rfl, m43⟩
        refine ⟨_, rfl, ?_⟩
        obtain ⟨F43, o43, g43⟩ := Made.out m43
        have S43 := Lib.hid (S42.out.grow g43 o43)
        have K43 := Lib.hid (K42.out.grow g43)
        clear m43 o43 g43 CC
        refine hK.out _ _ trivial (fun hHeld => ?_)
        clear hK K
        refine norm_ (a' := ?_) ?_ ?_
        rotate_left
        · show Act.put _ (some 65) _ = _
          simp only [Act.put, List.setIfInBounds_toArray, List.set_cons_zero, List.set_cons_succ, i64_w, i32_w]
          rfl
        refine pure_ (i := 11) (N := some 54) (v := ?_) (a' := ?_) #[true, true, true, true, true, true, true, true, true, true, true, true, false, false, false, false] rfl rfl (by kernel_rfl) (fun _ _ _ h => h) (Or.inl ⟨by rfl, ?_⟩) ?_ ?_
        rotate_left
        · intro w'
          go_simp
          with_reducible rfl
        rotate_left
        · simp only [Act.put, List.setIfInBounds_toArray, List.set_cons_zero, List.set_cons_succ, i64_w, i32_w]
          rfl
        refine pure_ (i := 12) (N := some 66) (v := ?_) (a' := ?_) #[true, true, true, true, true, true, true, true, true, true, true, true, true, false, false, false] rfl rfl (by kernel_rfl) (fun _ _ _ h => h) (Or.inl ⟨by rfl, ?_⟩) ?_ ?_
        rotate_left
        · intro w'
          go_simp
          with_reducible rfl
        rotate_left
        · simp only [Act.put, List.setIfInBounds_toArray, List.set_cons_zero, List.set_cons_succ, i64_w, i32_w]
          rfl
        refine pure_ (i := 13) (N := some 67) (v := ?_) (a' := ?_) #[true, true, true, true, true, true, true, true, true, true, true, true, true, true, false, false] rfl rfl (by kernel_rfl) (fun _ _ _ h => h) (Or.inl ⟨by rfl, ?_⟩) ?_ ?_
        rotate_left
        · intro w'
          go_simp
          with_reducible rfl
        rotate_left
        · simp only [Act.put, List.setIfInBounds_toArray, List.set_cons_zero, List.set_cons_succ, i64_w, i32_w]
          rfl
        refine pure_ (i := 14) (N := some 12) (v := ?_) (a' := ?_) #[true, true, true, true, true, true, true, true, true, true, true, true, true, true, true, false] rfl rfl (by kernel_rfl) (fun _ _ _ h => h) (Or.inl ⟨by rfl, ?_⟩) ?_ ?_
        rotate_left
        · intro w'
          go_simp
          with_reducible rfl
        rotate_left
        · simp only [Act.put, List.setIfInBounds_toArray, List.set_cons_zero, List.set_cons_succ, i64_w, i32_w]
          rfl
        refine pure_ (i := 15) (N := some 13) (v := ?_) (a' := ?_) #[true, true, true, true, true, true, true, true, true, true, true, true, true, true, true, true] rfl rfl (by kernel_rfl) (fun _ _ _ h => h) (Or.inl ⟨by rfl, ?_⟩) ?_ ?_
        rotate_left
        · intro w'
          go_simp
          with_reducible rfl
        rotate_left
        · simp only [Act.put, List.setIfInBounds_toArray, List.set_cons_zero, List.set_cons_succ, i64_w, i32_w]
          rfl
        refine done_ (by kernel_rfl) ?_
        clear hcut1 hcut2
        have R0b := Lib.hid (FRel.empty w43)
        have B0b := Lib.hid ((Below.refl w43.heap.size w43).alloc (Nat.le_refl _) (.cells #[] 37))
        go_wp2_with (first | (at_builtin; refine wp_apps (ys := q) rfl (.tmp 70) (.tmp 71) rfl rfl rfl R0b.out (K43.out.later B0b.out).pin HN.out (by first | omega | (simp; omega)) ?_; intro v1 w51 r1x g1; have r1 : FRel _ w51 v1 q := r1x; clear r1x; have R1b := Lib.hid r1; have B1b := Lib.hid (Below.growB B0b.out R0b.out g1); clear r1 g1) | (at_builtin; refine wp_apps (ys := q) rfl (.tmp 72) (.tmp 73) rfl rfl rfl R1b.out (K43.out.later B1b.out).pin HN.out (by first | omega | (simp; omega)) ?_; intro v2 w52 r2 g2; have R2b := Lib.hid r2; have B2b := Lib.hid (Below.growB B1b.out R1b.out g2); clear r2 g2; obtain ⟨adX, cX, hv3, pv, nv⟩ := R2b.out.gives; rw [List.length_append] at hv3; subst hv3; have PV := Lib.hid pv; have NV := Lib.hid nv; clear pv nv))
        have S52 := Lib.hid (S43.out.later B2b.out)
        have K52 := Lib.hid (K43.out.later B2b.out)
        have X52 := Lib.hid (PK.mk (F := F43) PV.out (fun _ x hx hf => by have := NV.out x hx; have := S43.out.arena.lt _ hf; omega))
        have cc := of_any S52.out.arena X52.out 
        rw [E5.out, List.length_append] at cc
        have CC := Lib.hid cc; clear cc
        go_wp2_with fail
        refine CC.out.mono ?_
        rintro e w53 ⟨rfl, m53⟩
        clear CC
        obtain ⟨F53, o53, g53⟩ := Made.out m53
        have S53 := Lib.hid (S52.out.grow g53 o53)
        have K53 := Lib.hid (K52.out.grow g53)
        have X53 := Lib.hid (X52.out.grow g53)
        clear m53 o53 g53
        have S0 := S53
        have K0 := K53
        have FQ := Lib.hid (insL_len [] q)
        go_wp2_with fail
        go_loopw [16, 80] (fun v i wr => ∃ k : Nat, k ≤ q.length ∧ i = .int .i64 k ∧ ∃ ad c, v = .slice ad (insL [] (q.take k)).length c ∧ Hid (PK wr F53 ad c (insL [] (q.take k)) ∧ Below w53.heap.size w53 wr)) (fun _ i _ => q.length - (intOf i).toNat)
        case atStart => exact ⟨0, Nat.zero_le _, rfl, none, 0, rfl, Lib.hid ⟨⟨⟨.inl rfl, Nat.le_refl _, by decide⟩, fun h => absurd rfl h⟩, Below.refl _ _⟩⟩
        case round =>
          obtain ⟨k, hk, rfl, adv, cv, rfl, HR⟩ := hrel
          have hz := HR.out.2.size
          by_cases hlt : k < q.length
          · obtain ⟨b, off, hbo, hcell⟩ := K0.out.cells hlt
            subst hbo
            obtain ⟨d0, d1⟩ := hcell wr _ (K0.out.later HR.out.2)
            have hbl : b < wr.heap.size := World.block_lt_of_cell? wr _ d0
            have hsn := insL_snoc [] (q.take k) q[k]
            rw [← List.take_succ_eq_append_getElem hlt] at hsn
            have hso := insL_sorted (l := []) List.Pairwise.nil (q.take k)
            have hil := insL_len [] (q.take k)
            rw [List.length_take] at hil
            simp only [List.length_nil] at hil
            generalize insL [] (q.take k) = out at HR hsn hso hil
            obtain ⟨x, hx⟩ : ∃ x, q[k] = x := ⟨_, rfl⟩
            rw [hx] at hsn d0 d1
            clear hx hcell
            obtain ⟨xk, xv⟩ := x
            simp only [] at d0 d1
            have B4 := Lib.hid (HR.out.2.alloc hz (.cells #[.int .i64 xk, .int .i64 xv] 37))
            have cw := with_any (wr.alloc (.cells #[.int .i64 xk, .int .i64 xv] 37)) (HR.out.1.alloc (.cells #[.int .i64 xk, .int .i64 xv] 37)).pin (by omega) (xk, xv)
            rw [withP_ins _ _ hso, ← hsn] at cw
            have CW := Lib.hid cw; clear cw hsn hso hil
            have fr : ∀ b, F53 b → b < wr.heap.size := fun b hb => by have := S0.out.arena.lt _ hb; omega
            have FR := Lib.hid fr; clear fr
            go_wp2_with fail
            refine CW.out.mono ?_
            rintro e w2 ⟨adL, cL, rfl, pp, np, b2⟩
            have V2 := Lib.hid (PK.mk (F := F53) pp (fun _ x hx hf => by have := np x hx; simp at this; have := FR.out _ hf; omega))
            have B2 := Lib.hid (B4.out.trans (b2.mono B4.out.size))
            clear pp np b2
            go_wp2_with fail
            go_roundw
            case rel => exact ⟨k + 1, by omega, by go_num, adL, cL, rfl, Lib.hid ⟨V2.out, B2.out⟩⟩
            case measure => simp [intOf]; omega
          · have hkl : k = q.length := by omega
            subst hkl
            rw [List.take_length] at HR ⊢
            have S9 := Lib.hid (S0.out.later HR.out.2)
            have V9 := Lib.hid HR.out.1
            clear HR hlt hk
            have hml : (insL [] q).length ≤ 1000000 := by have := FQ.out; simp at this; omega
            generalize insL [] q = m at *
            have HS := Lib.hid (says_any _ _ _ _ _ t _ _ m (Nat.le_refl _) (by omega) S9.out.arena V9.out tt)
            go_wp2_with fail
            refine (HS.out).mono ?_
            rintro e w10 ⟨rfl, b10⟩
            have S10 := Lib.hid (S9.out.later b10)
            have V10 := Lib.hid (V9.out.later b10)
            clear b10
            clear HS
            have HS := Lib.hid (says_any _ _ _ _ _ u _ _ m (Nat.le_refl _) (by omega) S10.out.arena V10.out tu)
            go_wp2_with fail
            refine (HS.out).mono ?_
            rintro e w11 ⟨rfl, b11⟩
            have S11 := Lib.hid (S10.out.later b11)
            have V11 := Lib.hid (V10.out.later b11)
            clear b11
            clear HS
            have HS := Lib.hid (says_any _ _ _ _ _ v _ _ m (Nat.le_refl _) (by omega) S11.out.arena V11.out t5)
            go_wp2_with fail
            refine (HS.out).mono ?_
            rintro e w12 ⟨rfl, b12⟩
            have S12 := Lib.hid (S11.out.later b12)
            have V12 := Lib.hid (V11.out.later b12)
            clear b12
            clear HS
            go_wp2_with (go_at_call 33; refine (awake5_any W _ S12.out.below).mono ?_; rintro e wz ⟨rfl, bz⟩)
            go_ret
            exact ⟨rfl, bz⟩

end Go.Proofs.Ytakgknoldkfekaa
