/- The walk of the law NodeMakes. -/
import Derived.Test.YtbndhaocohomjaaAwake3
import Derived.Test.YtbndhaocohomjaaOpen5
import Derived.Test.YtbndhaocohomjaaNrelW
import Derived.Test.YtbndhaocohomjaaWMore
namespace Go.Proofs.Ytbndhaocohomjaa
set_option maxRecDepth 100000
open Go.RowKit Go.Proofs.YtbndhaocohomjaaW.PrintWords Go.Proofs.YtbndhaocohomjaaW.PrintLast
set_option linter.unusedSimpArgs false
set_option linter.unusedVariables false

theorem ck_free5 {w : World} {b : Nat} {k v l r s g : Int} (h : w.heap[b]? = some (wbO k v l r s g)) (i : Nat) : w.frozen? ⟨b, i, none⟩ = false := by simp [World.frozen?, h]
set_option maxRecDepth 100000 in
set_option maxHeartbeats 20000000 in
theorem nodeMakes_walk (W : World) (room : Int) (hroom : -9223372036854775808 ≤ room ∧ room ≤ 9223372036854775807) {ad : Option Addr} {c : Nat} {l : List Sp} (hl : SpIn W ad c l) :
    Calls Try.prog 3 #[.int .i64 room, .slice ad l.length c] W fun e w' => e = .returned (.bool true) ∧ Below W.heap.size W w' := by
  by_cases h100 : 100 < (l.length : Int)
  · go_enter Try.func3, Try.ntmps3
    go_wp2_with (go_at_call 7; refine (awake3_any W _ (Below.refl _ _)).mono ?_; rintro e wz ⟨rfl, bz⟩)
    go_ret
    exact ⟨rfl, bz⟩
  obtain ⟨r, hr, hrlt⟩ := rem_len5 room 150 (by omega) (by omega)
  rw [show ((150 : Nat) : Int) = 150 from rfl] at hr
  have hl100 : l.length ≤ 100 := by omega
  have HL := Lib.hid hl; clear hl
  go_enter Try.func3, Try.ntmps3
  go_wp2_with fail
  refine (new_any (r : Int) W).mono ?_
  rintro e w2 ⟨rfl, o2, b2⟩
  have S2 := Lib.hid (St.begin (Below.refl _ _) o2 b2)
  clear o2 b2 hr
  have HBEG := Lib.hid (And.intro S2.out (And.intro (Mk.begin (room := (r : Int)) (by omega) (by omega)) (And.intro (NRel.start w2.heap.size w2 (Nat.le_refl _)) (show ∀ b, Value.ownBlock (.slice none 0 0) = some b → ¬ (b = W.heap.size) by intro b hb; cases hb))))
  go_wp2_with fail
  go_loopw [6, 33] (fun v i wr => ∃ k : Nat, k ≤ l.length ∧ i = .int .i64 k ∧ ∃ ms A F, ms.length ≤ k ∧ Hid (St W wr (some ⟨W.heap.size, 0, none⟩) (some A) F ∧ Mk (r : Int) ms A ∧ NRel w2.heap.size wr v ms ∧ (∀ b, v.ownBlock = some b → ¬ F b))) (fun _ i _ => l.length - (intOf i).toNat)
  case atStart => exact ⟨0, Nat.zero_le _, rfl, [], _, _, Nat.le_refl _, HBEG⟩
  case round =>
    obtain ⟨k, hk, rfl, ms, A, F, hml, HR⟩ := hrel
    obtain ⟨hS, hM, hN, hO⟩ := HR.out
    obtain ⟨adm, cm, rfl, hcm⟩ := hN.gives
    obtain ⟨wo, rfl⟩ : ∃ wo : World, wo = wr := ⟨_, rfl⟩
    have S9 := Lib.hid hS; have M9 := Lib.hid hM; have N9 := Lib.hid hN; have O9 := Lib.hid hO
    clear hS hM hN hO HR
    by_cases hlt : k < l.length
    · obtain ⟨b, off, hbo, hb, hcells⟩ := HL.out.cell hlt
      subst hbo
      obtain ⟨c0, c1, c2, c3, c4⟩ := hcells wo S9.out.below
      obtain ⟨d, hd⟩ : ∃ d, l[k] = d := ⟨_, rfl⟩
      rw [hd] at c0 c1 c2 c3 c4
      have hz := S9.out.size
      have hbw : b < wo.heap.size := by omega
      clear hcells hd
      obtain ⟨pk, pv, L0, R0, raw⟩ := d
      simp only [] at c0 c1 c2 c3 c4
      have hml100 : ms.length ≤ 100 := by omega
      cases raw with
      | false =>
        obtain ⟨rl, hrl, hrl2⟩ := rem_len5 L0 (ms.length + 1) (by omega) (by omega)
        obtain ⟨rr, hrr, hrr2⟩ := rem_len5 R0 (ms.length + 1) (by omega) (by omega)
        rw [show ((ms.length + 1 : Nat) : Int) = (ms.length : Int) + 1 by omega] at hrl hrr
        have wn : IntKind.i64.wrap ((ms.length : Int) + 1) = (ms.length : Int) + 1 := IntWalk.i64_in _ (by omega)
        have un : IntKind.u64.wrap ((ms.length : Int) + 1) = (ms.length : Int) + 1 := by rw [IntKind.wrap_u64]; omega
        have X0 := Lib.hid (heap_alloc_new wo (.cells #[.int .i64 pk, .int .i64 pv, .int .i64 L0, .int .i64 R0, .bool false] 31))
        have hnz : ¬ ((ms.length : Int) + 1 = 0) := by omega
        go_wp2_with fail
        refine start_ (n := 20) (S := fun w' => w'.cell? ⟨wo.heap.size, 2, none⟩ = some (.int .i64 L0) ∧ w'.cell? ⟨wo.heap.size, 3, none⟩ = some (.int .i64 R0)) (ds := [17, 19]) #[false, false, false, false, false, false, false, false, false, false, false, false, false, false, false, false, false, false, false, false] (by kernel_rfl) rfl rfl ⟨(cell_blk (i := 2) (w := (wo.alloc (.cells #[.int .i64 pk, .int .i64 pv, .int .i64 L0, .int .i64 R0, .bool false] 31)).drew) X0.out rfl), (cell_blk (i := 3) (w := (wo.alloc (.cells #[.int .i64 pk, .int .i64 pv, .int .i64 L0, .int .i64 R0, .bool false] 31)).drew) X0.out rfl)⟩ (fun hHeld => ?_)
        refine pure_ (i := 0) (N := some 42) (v := ?_) (a' := ?_) #[true, false, false, false, false, false, false, false, false, false, false, false, false, false, false, false, false, false, false, false] rfl rfl (by kernel_rfl) (fun _ _ _ h => h) (Or.inl ⟨by rfl, ?_⟩) ?_ ?_
        rotate_left
        · intro w'
          go_simp
          with_reducible rfl
        rotate_left
        · simp only [Act.put, List.setIfInBounds_toArray, List.set_cons_zero, List.set_cons_succ, i64_w, i32_w]
          rfl
        refine pure_ (i := 3) (N := some 45) (v := ?_) (a' := ?_) #[true, false, false, true, false, false, false, false, false, false, false, false, false, false, false, false, false, false, false, false] rfl rfl (by kernel_rfl) (fun _ _ _ h => h) (Or.inl ⟨by rfl, ?_⟩) ?_ ?_
        rotate_left
        · intro w'
          go_simp
          with_reducible rfl
        rotate_left
        · simp only [Act.put, List.setIfInBounds_toArray, List.set_cons_zero, List.set_cons_succ, i64_w, i32_w]
          rfl
        refine pure_ (i := 4) (N := some 46) (v := ?_) (a' := ?_) #[true, false, false, true, true, false, false, false, false, false, false, false, false, false, false, false, false, false, false, false] rfl rfl (by kernel_rfl) (fun _ _ _ h => h) (Or.inl ⟨by rfl, ?_⟩) ?_ ?_
        rotate_left
        · intro w'
          go_simp
          with_reducible rfl
        rotate_left
        · simp only [Act.put, List.setIfInBounds_toArray, List.set_cons_zero, List.set_cons_succ, i64_w, i32_w]
          rfl
        refine pure_ (i := 5) (N := some 47) (v := ?_) (a' := ?_) #[true, false, false, true, true, true, false, false, false, false, false, false, false, false, false, false, false, false, false, false] rfl rfl (by kernel_rfl) (fun _ _ _ h => h) (Or.inl ⟨by rfl, ?_⟩) ?_ ?_
        rotate_left
        · intro w'
          go_simp
          with_reducible rfl
        rotate_left
        · simp only [Act.put, List.setIfInBounds_toArray, List.set_cons_zero, List.set_cons_succ, i64_w, i32_w]
          rfl
        refine pure_ (i := 8) (N := some 50) (v := ?_) (a' := ?_) #[true, false, false, true, true, true, false, false, true, false, false, false, false, false, false, false, false, false, false, false] rfl rfl (by kernel_rfl) (fun _ _ _ h => h) (Or.inl ⟨by rfl, ?_⟩) ?_ ?_
        rotate_left
        · intro w'
          go_simp
          with_reducible rfl
        rotate_left
        · simp only [Act.put, List.setIfInBounds_toArray, List.set_cons_zero, List.set_cons_succ, i64_w, i32_w]
          rfl
        refine pure_ (i := 11) (N := some 53) (v := ?_) (a' := ?_) #[true, false, false, true, true, true, false, false, true, false, false, true, false, false, false, false, false, false, false, false] rfl rfl (by kernel_rfl) (fun _ _ _ h => h) (Or.inl ⟨by rfl, ?_⟩) ?_ ?_
        rotate_left
        · intro w'
          go_simp
          with_reducible rfl
        rotate_left
        · simp only [Act.put, List.setIfInBounds_toArray, List.set_cons_zero, List.set_cons_succ, i64_w, i32_w]
          rfl
        refine pure_ (i := 12) (N := some 54) (v := ?_) (a' := ?_) #[true, false, false, true, true, true, false, false, true, false, false, true, true, false, false, false, false, false, false, false] rfl rfl (by kernel_rfl) (fun _ _ _ h => h) (Or.inl ⟨by rfl, ?_⟩) ?_ ?_
        rotate_left
        · intro w'
          go_simp
          with_reducible rfl
        rotate_left
        · simp only [Act.put, List.setIfInBounds_toArray, List.set_cons_zero, List.set_cons_succ, i64_w, i32_w]
          rfl
        refine pure_ (i := 13) (N := some 55) (v := ?_) (a' := ?_) #[true, false, false, true, true, true, false, false, true, false, false, true, true, true, false, false, false, false, false, false] rfl rfl (by kernel_rfl) (fun _ _ _ h => h) (Or.inl ⟨by rfl, ?_⟩) ?_ ?_
        rotate_left
        · intro w'
          go_simp
          with_reducible rfl
        rotate_left
        · simp only [Act.put, List.setIfInBounds_toArray, List.set_cons_zero, List.set_cons_succ, i64_w, i32_w]
          rfl
        refine take_ (i := 1) (N := some 43) (v := ?_) (a' := ?_) #[true, true, false, true, true, true, false, false, true, false, false, true, true, true, false, false, false, false, false, false] rfl rfl (by kernel_rfl) (fun _ _ _ h => h) (Or.inl ⟨by rfl, ?_⟩) hHeld ?_ ?_
        rotate_left
        · rintro w' ⟨s0, s1⟩
          go_simp
          with_reducible rfl
        rotate_left
        · simp only [Act.put, List.setIfInBounds_toArray, List.set_cons_zero, List.set_cons_succ, i64_w, i32_w]
          rfl
        refine pure_ (i := 2) (N := some 44) (v := ?_) (a' := ?_) #[true, true, true, true, true, true, false, false, true, false, false, true, true, true, false, false, false, false, false, false] rfl rfl (by kernel_rfl) (fun _ _ _ h => h) (Or.inl ⟨by rfl, ?_⟩) ?_ ?_
        rotate_left
        · intro w'
          go_simp
          with_reducible rfl
        rotate_left
        · simp only [Act.put, List.setIfInBounds_toArray, List.set_cons_zero, List.set_cons_succ, i64_w, i32_w]
          rfl
        refine pure_ (i := 6) (N := some 48) (v := ?_) (a' := ?_) #[true, true, true, true, true, true, true, false, true, false, false, true, true, true, false, false, false, false, false, false] rfl rfl (by kernel_rfl) (fun _ _ _ h => h) (Or.inl ⟨by rfl, ?_⟩) ?_ ?_
        rotate_left
        · intro w'
          go_simp
          with_reducible rfl
        rotate_left
        · simp only [Act.put, List.setIfInBounds_toArray, List.set_cons_zero, List.set_cons_succ, i64_w, i32_w]
          rfl
        refine pure_ (i := 7) (N := some 49) (v := ?_) (a' := ?_) #[true, true, true, true, true, true, true, true, true, false, false, true, true, true, false, false, false, false, false, false] rfl rfl (by kernel_rfl) (fun _ _ _ h => h) (Or.inl ⟨by rfl, ?_⟩) ?_ ?_
        rotate_left
        · intro w'
          go_simp
          with_reducible rfl
        rotate_left
        · simp only [Act.put, List.setIfInBounds_toArray, List.set_cons_zero, List.set_cons_succ, i64_w, i32_w]
          rfl
        refine take_ (i := 9) (N := some 51) (v := ?_) (a' := ?_) #[true, true, true, true, true, true, true, true, true, true, false, true, true, true, false, false, false, false, false, false] rfl rfl (by kernel_rfl) (fun _ _ _ h => h) (Or.inl ⟨by rfl, ?_⟩) hHeld ?_ ?_
        rotate_left
        · rintro w' ⟨s0, s1⟩
          go_simp
          with_reducible rfl
        rotate_left
        · simp only [Act.put, List.setIfInBounds_toArray, List.set_cons_zero, List.set_cons_succ, i64_w, i32_w]
          rfl
        refine pure_ (i := 10) (N := some 52) (v := ?_) (a' := ?_) #[true, true, true, true, true, true, true, true, true, true, true, true, true, true, false, false, false, false, false, false] rfl rfl (by kernel_rfl) (fun _ _ _ h => h) (Or.inl ⟨by rfl, ?_⟩) ?_ ?_
        rotate_left
        · intro w'
          go_simp
          with_reducible rfl
        rotate_left
        · simp only [Act.put, List.setIfInBounds_toArray, List.set_cons_zero, List.set_cons_succ, i64_w, i32_w]
          rfl
        refine pure_ (i := 14) (N := some 56) (v := ?_) (a' := ?_) #[true, true, true, true, true, true, true, true, true, true, true, true, true, true, true, false, false, false, false, false] rfl rfl (by kernel_rfl) (fun _ _ _ h => h) (Or.inl ⟨by rfl, ?_⟩) ?_ ?_
        rotate_left
        · intro w'
          go_simp
          with_reducible rfl
        rotate_left
        · simp only [Act.put, List.setIfInBounds_toArray, List.set_cons_zero, List.set_cons_succ, i64_w, i32_w]
          rfl
        refine pure_ (i := 15) (N := some 57) (v := ?_) (a' := ?_) #[true, true, true, true, true, true, true, true, true, true, true, true, true, true, true, true, false, false, false, false] rfl rfl (by kernel_rfl) (fun _ _ _ h => h) (Or.inl ⟨by rfl, ?_⟩) ?_ ?_
        rotate_left
        · intro w'
          go_simp
          with_reducible rfl
        rotate_left
        · simp only [Act.put, List.setIfInBounds_toArray, List.set_cons_zero, List.set_cons_succ, i64_w, i32_w]
          rfl
        refine pure_ (i := 16) (N := some 58) (v := ?_) (a' := ?_) #[true, true, true, true, true, true, true, true, true, true, true, true, true, true, true, true, true, false, false, false] rfl rfl (by kernel_rfl) (fun _ _ _ h => h) (Or.inl ⟨by rfl, ?_⟩) ?_ ?_
        rotate_left
        · intro w'
          go_simp
          with_reducible rfl
        rotate_left
        · simp only [Act.put, List.setIfInBounds_toArray, List.set_cons_zero, List.set_cons_succ, i64_w, i32_w]
          rfl
        refine last_ (i := 17) (N := none) #[true, true, true, true, true, true, true, true, true, true, true, true, true, true, true, true, true, true, false, false] rfl rfl (by kernel_rfl) (by decide) (fun K hK => ?_)
        refine skip_ (w1 := ?_) (by rfl) rfl ?_ ?_
        rotate_left
        · go_simp
          rfl
        refine hK.out _ _ ?_
        clear hK K
        refine pure_ (i := 18) (N := some 59) (v := ?_) (a' := ?_) #[true, true, true, true, true, true, true, true, true, true, true, true, true, true, true, true, true, true, true, false] rfl rfl (by kernel_rfl) (fun _ _ _ h => h) (Or.inl ⟨by rfl, ?_⟩) ?_ ?_
        rotate_left
        · intro w'
          go_simp
          with_reducible rfl
        rotate_left
        · simp only [Act.put, List.setIfInBounds_toArray, List.set_cons_zero, List.set_cons_succ, i64_w, i32_w]
          rfl
        refine last_ (i := 19) (N := none) #[true, true, true, true, true, true, true, true, true, true, true, true, true, true, true, true, true, true, true, true] rfl rfl (by kernel_rfl) (by decide) (fun K hK => ?_)
        refine skip_ (w1 := ?_) (by rfl) rfl ?_ ?_
        rotate_left
        · go_simp
          rfl
        refine hK.out _ _ ?_
        clear hK K
        refine done_ (by kernel_rfl) ?_
        clear hrl hrr wn un hnz
        obtain ⟨sl, gl, hlh⟩ := hang_of (ms := ms) (t := (rl : Int)) (by omega) (by omega)
        obtain ⟨sr, gr, hrh⟩ := hang_of (ms := ms) (t := (rr : Int)) (by omega) (by omega)
        have HLH := Lib.hid hlh; have HRH := Lib.hid hrh; clear hlh hrh X0
        have BE := Lib.hid (show Below wo.heap.size wo (wo.alloc (.cells #[.int .i64 pk, .int .i64 pv, .int .i64 rl, .int .i64 rr, .bool false] 31)).drew from ((Below.refl _ _).alloc (Nat.le_refl _) _).drew)
        have X4 := Lib.hid (show ((wo.alloc (.cells #[.int .i64 pk, .int .i64 pv, .int .i64 rl, .int .i64 rr, .bool false] 31)).drew).heap[wo.heap.size]? = some (.cells #[.int .i64 pk, .int .i64 pv, .int .i64 (rl : Int), .int .i64 (rr : Int), .bool false] 31 (0, 0)) from heap_alloc_new wo (.cells #[.int .i64 pk, .int .i64 pv, .int .i64 (rl : Int), .int .i64 (rr : Int), .bool false] 31))
        have S4 := Lib.hid (S9.out.later BE.out)
        have N4 := Lib.hid (N9.out.later BE.out)
        have qL0 : ¬ ((rl : Int) < 0) := by have := HLH.out.inb; omega
        have qLn : ¬ ((ms.length : Int) < (rl : Int)) := by have := HLH.out.inb; omega
        have qR0 : ¬ ((rr : Int) < 0) := by have := HRH.out.inb; omega
        have qRn : ¬ ((ms.length : Int) < (rr : Int)) := by have := HRH.out.inb; omega
        by_cases hfull : (ms.length : Int) < (r : Int)
        · have qf : ¬ ((r : Int) ≤ (ms.length : Int)) := by omega
          obtain ⟨A5, e5, mk5⟩ := M9.out.good HLH.out HRH.out pk pv (show (ms.length : Int) < (r : Int) by omega)
          have E5 := Lib.hid e5; have MK5 := Lib.hid mk5; clear e5 mk5
          have HL5 := Lib.hid (HLH.out.bd M9.out); have HR5 := Lib.hid (HRH.out.bd M9.out)
          have cc := nmake_any S4.out.arena pk pv (rl : Int) (rr : Int)
          rw [E5.out] at cc
          have CC := Lib.hid cc; clear cc
          have y0 := cell_blk (i := 0) X4.out rfl
          have y1 := cell_blk (i := 1) X4.out rfl
          have y2 := cell_blk (i := 2) X4.out rfl
          have y3 := cell_blk (i := 3) X4.out rfl
          go_wp2_with fail
          refine CC.out.mono ?_
          rintro e w5 ⟨rfl, m5⟩
          clear CC y0 y1 y2 y3
          obtain ⟨F5, o5, g5⟩ := Made.out m5
          have hbx : ¬ F wo.heap.size := fun hf => by have := S9.out.arena.lt _ hf; omega
          have X5 := Lib.hid ((g5.1.block wo.heap.size (Array.getElem?_eq_some_iff.1 X4.out).1 hbx).trans X4.out)
          have S5 := Lib.hid (S4.out.grow g5 o5)
          have N5 := Lib.hid (N4.out.grow g5 O9.out)
          have O5 := Lib.hid (fun b hb hf => (g5.2 b hf).elim (O9.out b hb) (fun h => by have := (N4.out.own.lt b hb).2; omega) : ∀ b, Value.ownBlock (.slice adm ms.length cm) = some b → ¬ F5 b)
          clear m5 o5 g5 hbx
          have x0 := cell_blk (i := 0) X5.out rfl
          have x1 := cell_blk (i := 1) X5.out rfl
          have x2 := cell_blk (i := 2) X5.out rfl
          have x3 := cell_blk (i := 3) X5.out rfl
          have hlt5 : wo.heap.size < w5.heap.size := (Array.getElem?_eq_some_iff.1 X5.out).1
          have i0 : ∀ w, (Instr.index 37 (.agg #[.int .i64 ((rl : Int)), .int .i64 ((rr : Int))]) (.int .i64 0)).run Try.prog w = .ok (.int .i64 ((rl : Int))) w := fun _ => by kernel_rfl
          have i1 : ∀ w, (Instr.index 37 (.agg #[.int .i64 ((rl : Int)), .int .i64 ((rr : Int))]) (.int .i64 1)).run Try.prog w = .ok (.int .i64 ((rr : Int))) w := fun _ => by kernel_rfl
          have W6 := Lib.hid (show (w5.alloc (.cells #[.int .i64 pk, .int .i64 pv, .int .i64 ((rl : Int)), .int .i64 ((rr : Int)), .int .i64 1, .int .i64 1] 36)).heap[w5.heap.size]? = some (wbO pk pv (rl : Int) (rr : Int) 1 1) from heap_alloc_new w5 (.cells #[.int .i64 pk, .int .i64 pv, .int .i64 ((rl : Int)), .int .i64 ((rr : Int)), .int .i64 1, .int .i64 1] 36))
          have B6 := Lib.hid ((Below.refl w5.heap.size w5).alloc (Nat.le_refl _) (.cells #[.int .i64 pk, .int .i64 pv, .int .i64 ((rl : Int)), .int .i64 ((rr : Int)), .int .i64 1, .int .i64 1] 36))
          have N6 := Lib.hid (N5.out.alloc (.cells #[.int .i64 pk, .int .i64 pv, .int .i64 ((rl : Int)), .int .i64 ((rr : Int)), .int .i64 1, .int .i64 1] 36))
          have S6 := Lib.hid (S5.out.alloc (.cells #[.int .i64 pk, .int .i64 pv, .int .i64 ((rl : Int)), .int .i64 ((rr : Int)), .int .i64 1, .int .i64 1] 36))
          have NW : ∀ (w' : World), Frame (fun z => z = w5.heap.size) (w5.alloc (.cells #[.int .i64 pk, .int .i64 pv, .int .i64 ((rl : Int)), .int .i64 ((rr : Int)), .int .i64 1, .int .i64 1] 36)) w' → ∀ (m : Nat) (hm : m < ms.length) (i : Nat) (v : Value), (cellsN ms[m])[i]? = some v → ∀ g0, adm = some ⟨g0, 0, none⟩ → w'.cell? ⟨g0, m * 6 + i, none⟩ = some v := by
            intro w' hf m hm i v hv g0 hg
            subst hg
            obtain ⟨g1, e, _, hlt1, hc⟩ := N5.out.cells hm
            simp only [Option.some.injEq, Addr.mk.injEq, and_true] at e
            subst e
            have hne : g0 ≠ w5.heap.size := by omega
            have e1 := hf.block g0 (by simp; omega) hne
            have e2 := B6.out.block g0 hlt1
            rw [← hc i v hv]
            simp [World.cell?, e1, e2]
          have NW0 := Lib.hid NW; clear NW
          go_wp2_with fail
          go_loopw [120] (fun i wr => ∃ j : Nat, j ≤ 2 ∧ i = .int .i64 j ∧ Hid (WbAt wr w5.heap.size pk pv (rl : Int) (rr : Int) (szJ sl sr j) (hgJ gl gr j) ∧ Frame (fun z => z = w5.heap.size) (w5.alloc (.cells #[.int .i64 pk, .int .i64 pv, .int .i64 ((rl : Int)), .int .i64 ((rr : Int)), .int .i64 1, .int .i64 1] 36)) wr)) (fun i _ => 2 - (intOf i).toNat)
          case atStart => exact ⟨0, by omega, rfl, Lib.hid ⟨W6.out, Frame.refl _ _⟩⟩
          case round =>
            obtain ⟨j, hj, rfl, HW⟩ := hrel
            rcases (show j = 0 ∨ j = 1 ∨ j = 2 by omega) with rfl | rfl | rfl
            · as_aux_lemma =>
                have hw := HW.out.1
                have hfr := HW.out.2
                have HWB := Lib.hid (show wr.heap[w5.heap.size]? = some (wbO pk pv (rl : Int) (rr : Int) (1) (1)) from hw)
                have HFR := Lib.hid hfr; clear hw hfr HW
                rcases HLH.out.or_ with ⟨h0, h1, h2⟩ | ⟨m, hm, h0, h1, h2⟩
                · have hcc : (rl : Int) = 0 := h0
                  have hz1 : sl = 0 := h1
                  have hz2 : gl = 0 := h2
                  clear h0 h1 h2
                  have q1 : ¬ (0 < (rl : Int)) := by omega
                  have FIN := Lib.hid (show wr.heap[w5.heap.size]? = some (wbO pk pv (rl : Int) (rr : Int) (szJ sl sr 1) (hgJ gl gr 1)) by have h := HWB.out; rw [show szJ sl sr 1 = 1 by show 1 + sl = _; omega, show hgJ gl gr 1 = 1 by show 1 + gl = _; omega]; exact h)
                  clear hcc hz1 hz2
                  go_wp2_with fail
                  go_roundw
                  case rel => exact ⟨1, by omega, by go_num, Lib.hid ⟨FIN.out, HFR.out⟩⟩
                  case measure => simp [intOf]
                · have HMS := Lib.hid h1; have HMG := Lib.hid h2; have H0 := Lib.hid h0
                  clear h0 h1 h2
                  obtain ⟨g0, hg0, hgB, hglt, hgc⟩ := N9.out.cells hm
                  subst hg0
                  have hbd := HL5.out
                  have hbd1 : 0 ≤ sl ∧ sl ≤ 1099511627776 ∧ 0 ≤ gl ∧ gl ≤ sl := ⟨hbd.1, hbd.2.1, hbd.2.2.1, hbd.2.2.2.1⟩
                  have hbe := HR5.out
                  have hbe1 : 0 ≤ sr ∧ sr ≤ 1099511627776 ∧ 0 ≤ gr ∧ gr ≤ sr := ⟨hbe.1, hbe.2.1, hbe.2.2.1, hbe.2.2.2.1⟩
                  have hpos : 1 ≤ gl := hbd.2.2.2.2.2 (by have := H0.out; omega)
                  clear hbd hbe
                  have hne : g0 ≠ w5.heap.size := by have := (N5.out.own.lt g0 rfl).2; omega
                  have hgl5 : g0 < wr.heap.size := by have := (N6.out.own.lt g0 rfl).2; have := HFR.out.size; omega
                  have D4 := Lib.hid (show (wr.drew).cell? ⟨g0, m * 6 + 4, none⟩ = some (.int .i64 sl) by have h := NW0.out wr HFR.out m hm 4 (.int .i64 sl) (by have := HMS.out; simp [cellsN, valsN, this]) g0 rfl; exact h)
                  have D5 := Lib.hid (show ((wr.drew.setCell ⟨w5.heap.size, 4, none⟩ (.int .i64 (1 + sl))).drew).cell? ⟨g0, m * 6 + 5, none⟩ = some (.int .i64 gl) by have h := NW0.out wr HFR.out m hm 5 (.int .i64 gl) (by have := HMG.out; simp [cellsN, valsN, this]) g0 rfl; have e : ((wr.drew.setCell ⟨w5.heap.size, 4, none⟩ (.int .i64 (1 + sl))).drew).cell? ⟨g0, m * 6 + 5, none⟩ = wr.cell? ⟨g0, m * 6 + 5, none⟩ := World.cell?_setCell_other _ _ _ _ (by intro e; exact hne (congrArg Addr.block e).symm); exact e.trans h)
                  have HWB4 := Lib.hid (show ((wr.drew.setCell ⟨w5.heap.size, 4, none⟩ (.int .i64 (1 + sl))).drew).heap[w5.heap.size]? = some (wbO pk pv (rl : Int) (rr : Int) (1 + sl) (1)) by have h := heap_setCell_same wr w5.heap.size 4 _ _ (.int .i64 (1 + sl)) HWB.out; exact h)
                  have h0 := H0.out
                  have q1 : 0 < (rl : Int) := by omega
                  have wm0 : IntKind.i64.wrap ((rl : Int) - 1) = (m : Int) := by rw [h0]; exact (IntWalk.i64_in _ (by omega)).trans (by omega)
                  have wm1 : IntKind.i64.wrap (m : Int) = (m : Int) := IntWalk.i64_in _ (by omega)
                  have ws1 : IntKind.i64.wrap (1 + sl) = 1 + sl := IntWalk.i64_in _ (by omega)
                  have ws2 : IntKind.i64.wrap (1 + gl) = 1 + gl := IntWalk.i64_in _ (by omega)
                  have hm0 : (0 : Int) ≤ (m : Int) := by omega
                  have hm1 : (m : Int) < (ms.length : Int) := by omega
                  have hwlt : w5.heap.size < wr.heap.size := (Array.getElem?_eq_some_iff.1 HWB.out).1
                  have hfw := ck_free5 HWB.out 4
                  have hfw5 := ck_free5 HWB.out 5
                  clear h0
                  have hmx : decide ((1 : Int) < 1 + gl) = true := decide_eq_true (by omega)
                  have hmx2 : (1 : Int) < 1 + gl := by omega
                  have FIN := Lib.hid (show ((wr.setCell ⟨w5.heap.size, 4, none⟩ (.int .i64 (1 + sl))).setCell ⟨w5.heap.size, 5, none⟩ (.int .i64 (1 + gl))).heap[w5.heap.size]? = some (wbO pk pv (rl : Int) (rr : Int) (szJ sl sr 1) (hgJ gl gr 1)) by have h := wb_set HWB.out (1 + sl) (1 + gl); rw [show hgJ gl gr 1 = 1 + gl by rfl]; exact h)
                  have FRM := Lib.hid (HFR.out.trans (wb_frame wr w5.heap.size (.int .i64 (1 + sl)) (.int .i64 (1 + gl))) fun _ _ h => h)
                  go_wp2_with fail
                  refine start_ (n := 11) (S := fun w' => w'.cell? ⟨w5.heap.size, 4, none⟩ = some (.int .i64 (1)) ∧ w'.cell? ⟨g0, m * 6 + 4, none⟩ = some (.int .i64 sl)) (ds := [10]) #[false, false, false, false, false, false, false, false, false, false, false] (by kernel_rfl) rfl rfl ⟨(cell_blk (i := 4) (w := wr.drew) HWB.out rfl), D4.out⟩ (fun hHeld => ?_)
                  refine pure_ (i := 0) (N := some 125) (v := ?_) (a' := ?_) #[true, false, false, false, false, false, false, false, false, false, false] rfl rfl (by kernel_rfl) (fun _ _ _ h => h) (Or.inl ⟨by rfl, ?_⟩) ?_ ?_
                  rotate_left
                  · intro w'
                    go_simp
                    with_reducible rfl
                  rotate_left
                  · simp only [Act.put, List.setIfInBounds_toArray, List.set_cons_zero, List.set_cons_succ, i64_w, i32_w]
                    rfl
                  refine pure_ (i := 2) (N := some 127) (v := ?_) (a' := ?_) #[true, false, true, false, false, false, false, false, false, false, false] rfl rfl (by kernel_rfl) (fun _ _ _ h => h) (Or.inl ⟨by rfl, ?_⟩) ?_ ?_
                  rotate_left
                  · intro w'
                    go_simp
                    with_reducible rfl
                  rotate_left
                  · simp only [Act.put, List.setIfInBounds_toArray, List.set_cons_zero, List.set_cons_succ, i64_w, i32_w]
                    rfl
                  refine pure_ (i := 3) (N := some 128) (v := ?_) (a' := ?_) #[true, false, true, true, false, false, false, false, false, false, false] rfl rfl (by kernel_rfl) (fun _ _ _ h => h) (Or.inl ⟨by rfl, ?_⟩) ?_ ?_
                  rotate_left
                  · intro w'
                    go_simp
                    with_reducible rfl
                  rotate_left
                  · simp only [Act.put, List.setIfInBounds_toArray, List.set_cons_zero, List.set_cons_succ, i64_w, i32_w]
                    rfl
                  refine pure_ (i := 4) (N := some 129) (v := ?_) (a' := ?_) #[true, false, true, true, true, false, false, false, false, false, false] rfl rfl (by kernel_rfl) (fun _ _ _ h => h) (Or.inl ⟨by rfl, ?_⟩) ?_ ?_
                  rotate_left
                  · intro w'
                    go_simp
                    with_reducible rfl
                  rotate_left
                  · simp only [Act.put, List.setIfInBounds_toArray, List.set_cons_zero, List.set_cons_succ, i64_w, i32_w]
                    rfl
                  refine pure_ (i := 5) (N := some 130) (v := ?_) (a' := ?_) #[true, false, true, true, true, true, false, false, false, false, false] rfl rfl (by kernel_rfl) (fun _ _ _ h => h) (Or.inl ⟨by rfl, ?_⟩) ?_ ?_
                  rotate_left
                  · intro w'
                    go_simp
                    with_reducible rfl
                  rotate_left
                  · simp only [Act.put, List.setIfInBounds_toArray, List.set_cons_zero, List.set_cons_succ, i64_w, i32_w]
                    rfl
                  refine pure_ (i := 6) (N := some 131) (v := ?_) (a' := ?_) #[true, false, true, true, true, true, true, false, false, false, false] rfl rfl (by kernel_rfl) (fun _ _ _ h => h) (Or.inl ⟨by rfl, ?_⟩) ?_ ?_
                  rotate_left
                  · intro w'
                    go_simp
                    with_reducible rfl
                  rotate_left
                  · simp only [Act.put, List.setIfInBounds_toArray, List.set_cons_zero, List.set_cons_succ, i64_w, i32_w]
                    rfl
                  refine take_ (i := 1) (N := some 126) (v := ?_) (a' := ?_) #[true, true, true, true, true, true, true, false, false, false, false] rfl rfl (by kernel_rfl) (fun _ _ _ h => h) (Or.inl ⟨by rfl, ?_⟩) hHeld ?_ ?_
                  rotate_left
                  · rintro w' ⟨s0, s1⟩
                    go_simp
                    with_reducible rfl
                  rotate_left
                  · simp only [Act.put, List.setIfInBounds_toArray, List.set_cons_zero, List.set_cons_succ, i64_w, i32_w]
                    rfl
                  refine take_ (i := 7) (N := some 132) (v := ?_) (a' := ?_) #[true, true, true, true, true, true, true, true, false, false, false] rfl rfl (by kernel_rfl) (fun _ _ _ h => h) (Or.inl ⟨by rfl, ?_⟩) hHeld ?_ ?_
                  rotate_left
                  · rintro w' ⟨s0, s1⟩
                    go_simp
                    with_reducible rfl
                  rotate_left
                  · simp only [Act.put, List.setIfInBounds_toArray, List.set_cons_zero, List.set_cons_succ, i64_w, i32_w]
                    rfl
                  refine pure_ (i := 8) (N := some 133) (v := ?_) (a' := ?_) #[true, true, true, true, true, true, true, true, true, false, false] rfl rfl (by kernel_rfl) (fun _ _ _ h => h) (Or.inl ⟨by rfl, ?_⟩) ?_ ?_
                  rotate_left
                  · intro w'
                    go_simp
                    with_reducible rfl
                  rotate_left
                  · simp only [Act.put, List.setIfInBounds_toArray, List.set_cons_zero, List.set_cons_succ, i64_w, i32_w]
                    rfl
                  refine pure_ (i := 9) (N := some 134) (v := ?_) (a' := ?_) #[true, true, true, true, true, true, true, true, true, true, false] rfl rfl (by kernel_rfl) (fun _ _ _ h => h) (Or.inl ⟨by rfl, ?_⟩) ?_ ?_
                  rotate_left
                  · intro w'
                    go_simp
                    with_reducible rfl
                  rotate_left
                  · simp only [Act.put, List.setIfInBounds_toArray, List.set_cons_zero, List.set_cons_succ, i64_w, i32_w]
                    rfl
                  refine last_ (i := 10) (N := none) #[true, true, true, true, true, true, true, true, true, true, true] rfl rfl (by kernel_rfl) (by decide) (fun K hK => ?_)
                  refine skip_ (w1 := ?_) (by rfl) rfl ?_ ?_
                  rotate_left
                  · go_simp
                    rfl
                  refine hK.out _ _ ?_
                  clear hK K
                  refine done_ (by kernel_rfl) ?_
                  go_wp2_with fail
                  refine start_ (n := 12) (S := fun w' => w'.cell? ⟨w5.heap.size, 5, none⟩ = some (.int .i64 (1)) ∧ w'.cell? ⟨g0, m * 6 + 5, none⟩ = some (.int .i64 gl)) (ds := [11]) #[false, false, false, false, false, false, false, false, false, false, false, false] (by kernel_rfl) rfl rfl ⟨(cell_blk (i := 5) (w := (wr.drew.setCell ⟨w5.heap.size, 4, none⟩ (.int .i64 (1 + sl))).drew) HWB4.out rfl), D5.out⟩ (fun hHeld => ?_)
                  refine pure_ (i := 0) (N := some 135) (v := ?_) (a' := ?_) #[true, false, false, false, false, false, false, false, false, false, false, false] rfl rfl (by kernel_rfl) (fun _ _ _ h => h) (Or.inl ⟨by rfl, ?_⟩) ?_ ?_
                  rotate_left
                  · intro w'
                    go_simp
                    with_reducible rfl
                  rotate_left
                  · simp only [Act.put, List.setIfInBounds_toArray, List.set_cons_zero, List.set_cons_succ, i64_w, i32_w]
                    rfl
                  refine pure_ (i := 2) (N := some 137) (v := ?_) (a' := ?_) #[true, false, true, false, false, false, false, false, false, false, false, false] rfl rfl (by kernel_rfl) (fun _ _ _ h => h) (Or.inl ⟨by rfl, ?_⟩) ?_ ?_
                  rotate_left
                  · intro w'
                    go_simp
                    with_reducible rfl
                  rotate_left
                  · simp only [Act.put, List.setIfInBounds_toArray, List.set_cons_zero, List.set_cons_succ, i64_w, i32_w]
                    rfl
                  refine pure_ (i := 3) (N := some 138) (v := ?_) (a' := ?_) #[true, false, true, true, false, false, false, false, false, false, false, false] rfl rfl (by kernel_rfl) (fun _ _ _ h => h) (Or.inl ⟨by rfl, ?_⟩) ?_ ?_
                  rotate_left
                  · intro w'
                    go_simp
                    with_reducible rfl
                  rotate_left
                  · simp only [Act.put, List.setIfInBounds_toArray, List.set_cons_zero, List.set_cons_succ, i64_w, i32_w]
                    rfl
                  refine pure_ (i := 4) (N := some 139) (v := ?_) (a' := ?_) #[true, false, true, true, true, false, false, false, false, false, false, false] rfl rfl (by kernel_rfl) (fun _ _ _ h => h) (Or.inl ⟨by rfl, ?_⟩) ?_ ?_
                  rotate_left
                  · intro w'
                    go_simp
                    with_reducible rfl
                  rotate_left
                  · simp only [Act.put, List.setIfInBounds_toArray, List.set_cons_zero, List.set_cons_succ, i64_w, i32_w]
                    rfl
                  refine pure_ (i := 5) (N := some 140) (v := ?_) (a' := ?_) #[true, false, true, true, true, true, false, false, false, false, false, false] rfl rfl (by kernel_rfl) (fun _ _ _ h => h) (Or.inl ⟨by rfl, ?_⟩) ?_ ?_
                  rotate_left
                  · intro w'
                    go_simp
                    with_reducible rfl
                  rotate_left
                  · simp only [Act.put, List.setIfInBounds_toArray, List.set_cons_zero, List.set_cons_succ, i64_w, i32_w]
                    rfl
                  refine pure_ (i := 6) (N := some 141) (v := ?_) (a' := ?_) #[true, false, true, true, true, true, true, false, false, false, false, false] rfl rfl (by kernel_rfl) (fun _ _ _ h => h) (Or.inl ⟨by rfl, ?_⟩) ?_ ?_
                  rotate_left
                  · intro w'
                    go_simp
                    with_reducible rfl
                  rotate_left
                  · simp only [Act.put, List.setIfInBounds_toArray, List.set_cons_zero, List.set_cons_succ, i64_w, i32_w]
                    rfl
                  refine take_ (i := 1) (N := some 136) (v := ?_) (a' := ?_) #[true, true, true, true, true, true, true, false, false, false, false, false] rfl rfl (by kernel_rfl) (fun _ _ _ h => h) (Or.inl ⟨by rfl, ?_⟩) hHeld ?_ ?_
                  rotate_left
                  · rintro w' ⟨s0, s1⟩
                    go_simp
                    with_reducible rfl
                  rotate_left
                  · simp only [Act.put, List.setIfInBounds_toArray, List.set_cons_zero, List.set_cons_succ, i64_w, i32_w]
                    rfl
                  refine take_ (i := 7) (N := some 142) (v := ?_) (a' := ?_) #[true, true, true, true, true, true, true, true, false, false, false, false] rfl rfl (by kernel_rfl) (fun _ _ _ h => h) (Or.inl ⟨by rfl, ?_⟩) hHeld ?_ ?_
                  rotate_left
                  · rintro w' ⟨s0, s1⟩
                    go_simp
                    with_reducible rfl
                  rotate_left
                  · simp only [Act.put, List.setIfInBounds_toArray, List.set_cons_zero, List.set_cons_succ, i64_w, i32_w]
                    rfl
                  refine pure_ (i := 8) (N := some 143) (v := ?_) (a' := ?_) #[true, true, true, true, true, true, true, true, true, false, false, false] rfl rfl (by kernel_rfl) (fun _ _ _ h => h) (Or.inl ⟨by rfl, ?_⟩) ?_ ?_
                  rotate_left
                  · intro w'
                    go_simp
                    with_reducible rfl
                  rotate_left
                  · simp only [Act.put, List.setIfInBounds_toArray, List.set_cons_zero, List.set_cons_succ, i64_w, i32_w]
                    rfl
                  refine pure_ (i := 9) (N := some 144) (v := ?_) (a' := ?_) #[true, true, true, true, true, true, true, true, true, true, false, false] rfl rfl (by kernel_rfl) (fun _ _ _ h => h) (Or.inl ⟨by rfl, ?_⟩) ?_ ?_
                  rotate_left
                  · intro w'
                    go_simp
                    with_reducible rfl
                  rotate_left
                  · simp only [Act.put, List.setIfInBounds_toArray, List.set_cons_zero, List.set_cons_succ, i64_w, i32_w]
                    rfl
                  refine pure_ (i := 10) (N := some 145) (v := ?_) (a' := ?_) #[true, true, true, true, true, true, true, true, true, true, true, false] rfl rfl (by kernel_rfl) (fun _ _ _ h => h) (Or.inl ⟨by rfl, ?_⟩) ?_ ?_
                  rotate_left
                  · intro w'
                    go_simp
                    with_reducible rfl
                  rotate_left
                  · simp only [Act.put, List.setIfInBounds_toArray, List.set_cons_zero, List.set_cons_succ, i64_w, i32_w]
                    rfl
                  refine last_ (i := 11) (N := none) #[true, true, true, true, true, true, true, true, true, true, true, true] rfl rfl (by kernel_rfl) (by decide) (fun K hK => ?_)
                  refine skip_ (w1 := ?_) (by rfl) rfl ?_ ?_
                  rotate_left
                  · go_simp
                    rfl
                  refine hK.out _ _ ?_
                  clear hK K
                  refine done_ (by kernel_rfl) ?_
                  go_wp2_with fail
                  go_roundw
                  case rel => exact ⟨1, by omega, by go_num, Lib.hid ⟨FIN.out, Frame.drawn FRM.out rfl rfl rfl rfl⟩⟩
                  case measure => simp [intOf]
            · as_aux_lemma =>
                have hw := HW.out.1
                have hfr := HW.out.2
                have HWB := Lib.hid (show wr.heap[w5.heap.size]? = some (wbO pk pv (rl : Int) (rr : Int) (1 + sl) (1 + gl)) from hw)
                have HFR := Lib.hid hfr; clear hw hfr HW
                rcases HRH.out.or_ with ⟨h0, h1, h2⟩ | ⟨m, hm, h0, h1, h2⟩
                · have hcc : (rr : Int) = 0 := h0
                  have hz1 : sr = 0 := h1
                  have hz2 : gr = 0 := h2
                  clear h0 h1 h2
                  have q1 : ¬ (0 < (rr : Int)) := by omega
                  have FIN := Lib.hid (show wr.heap[w5.heap.size]? = some (wbO pk pv (rl : Int) (rr : Int) (szJ sl sr 2) (hgJ gl gr 2)) by have h := HWB.out; rw [show szJ sl sr 2 = 1 + sl by show 1 + sl + sr = _; omega, show hgJ gl gr 2 = 1 + gl by show topH gl gr = _; unfold topH; rw [if_neg (by have := (HLH.out.bd M9.out); omega)]]; exact h)
                  clear hcc hz1 hz2
                  go_wp2_with fail
                  go_roundw
                  case rel => exact ⟨2, by omega, by go_num, Lib.hid ⟨FIN.out, HFR.out⟩⟩
                  case measure => simp [intOf]
                · have HMS := Lib.hid h1; have HMG := Lib.hid h2; have H0 := Lib.hid h0
                  clear h0 h1 h2
                  obtain ⟨g0, hg0, hgB, hglt, hgc⟩ := N9.out.cells hm
                  subst hg0
                  have hbd := HL5.out
                  have hbd1 : 0 ≤ sl ∧ sl ≤ 1099511627776 ∧ 0 ≤ gl ∧ gl ≤ sl := ⟨hbd.1, hbd.2.1, hbd.2.2.1, hbd.2.2.2.1⟩
                  have hbe := HR5.out
                  have hbe1 : 0 ≤ sr ∧ sr ≤ 1099511627776 ∧ 0 ≤ gr ∧ gr ≤ sr := ⟨hbe.1, hbe.2.1, hbe.2.2.1, hbe.2.2.2.1⟩
                  have hpos : 1 ≤ gr := hbe.2.2.2.2.2 (by have := H0.out; omega)
                  clear hbd hbe
                  have hne : g0 ≠ w5.heap.size := by have := (N5.out.own.lt g0 rfl).2; omega
                  have hgl5 : g0 < wr.heap.size := by have := (N6.out.own.lt g0 rfl).2; have := HFR.out.size; omega
                  have D4 := Lib.hid (show (wr.drew).cell? ⟨g0, m * 6 + 4, none⟩ = some (.int .i64 sr) by have h := NW0.out wr HFR.out m hm 4 (.int .i64 sr) (by have := HMS.out; simp [cellsN, valsN, this]) g0 rfl; exact h)
                  have D5 := Lib.hid (show ((wr.drew.setCell ⟨w5.heap.size, 4, none⟩ (.int .i64 (1 + sl + sr))).drew).cell? ⟨g0, m * 6 + 5, none⟩ = some (.int .i64 gr) by have h := NW0.out wr HFR.out m hm 5 (.int .i64 gr) (by have := HMG.out; simp [cellsN, valsN, this]) g0 rfl; have e : ((wr.drew.setCell ⟨w5.heap.size, 4, none⟩ (.int .i64 (1 + sl + sr))).drew).cell? ⟨g0, m * 6 + 5, none⟩ = wr.cell? ⟨g0, m * 6 + 5, none⟩ := World.cell?_setCell_other _ _ _ _ (by intro e; exact hne (congrArg Addr.block e).symm); exact e.trans h)
                  have HWB4 := Lib.hid (show ((wr.drew.setCell ⟨w5.heap.size, 4, none⟩ (.int .i64 (1 + sl + sr))).drew).heap[w5.heap.size]? = some (wbO pk pv (rl : Int) (rr : Int) (1 + sl + sr) (1 + gl)) by have h := heap_setCell_same wr w5.heap.size 4 _ _ (.int .i64 (1 + sl + sr)) HWB.out; exact h)
                  have h0 := H0.out
                  have q1 : 0 < (rr : Int) := by omega
                  have wm0 : IntKind.i64.wrap ((rr : Int) - 1) = (m : Int) := by rw [h0]; exact (IntWalk.i64_in _ (by omega)).trans (by omega)
                  have wm1 : IntKind.i64.wrap (m : Int) = (m : Int) := IntWalk.i64_in _ (by omega)
                  have ws1 : IntKind.i64.wrap (1 + sl + sr) = 1 + sl + sr := IntWalk.i64_in _ (by omega)
                  have ws2 : IntKind.i64.wrap (1 + gr) = 1 + gr := IntWalk.i64_in _ (by omega)
                  have hm0 : (0 : Int) ≤ (m : Int) := by omega
                  have hm1 : (m : Int) < (ms.length : Int) := by omega
                  have hwlt : w5.heap.size < wr.heap.size := (Array.getElem?_eq_some_iff.1 HWB.out).1
                  have hfw := ck_free5 HWB.out 4
                  have hfw5 := ck_free5 HWB.out 5
                  clear h0
                  by_cases hmm : 1 + gl < 1 + gr
                  · have hmx : decide (1 + gl < 1 + gr) = true := decide_eq_true hmm
                    have hmx2 : 1 + gl < 1 + gr := hmm
                    have FIN := Lib.hid (show ((wr.setCell ⟨w5.heap.size, 4, none⟩ (.int .i64 (1 + sl + sr))).setCell ⟨w5.heap.size, 5, none⟩ (.int .i64 (1 + gr))).heap[w5.heap.size]? = some (wbO pk pv (rl : Int) (rr : Int) (szJ sl sr 2) (hgJ gl gr 2)) by have h := wb_set HWB.out (1 + sl + sr) (1 + gr); rw [show hgJ gl gr 2 = 1 + gr by show topH gl gr = _; unfold topH; rw [if_pos hmm]]; exact h)
                    have FRM := Lib.hid (HFR.out.trans (wb_frame wr w5.heap.size (.int .i64 (1 + sl + sr)) (.int .i64 (1 + gr))) fun _ _ h => h)
                    go_wp2_with fail
                    refine start_ (n := 11) (S := fun w' => w'.cell? ⟨w5.heap.size, 4, none⟩ = some (.int .i64 (1 + sl)) ∧ w'.cell? ⟨g0, m * 6 + 4, none⟩ = some (.int .i64 sr)) (ds := [10]) #[false, false, false, false, false, false, false, false, false, false, false] (by kernel_rfl) rfl rfl ⟨(cell_blk (i := 4) (w := wr.drew) HWB.out rfl), D4.out⟩ (fun hHeld => ?_)
                    refine pure_ (i := 0) (N := some 125) (v := ?_) (a' := ?_) #[true, false, false, false, false, false, false, false, false, false, false] rfl rfl (by kernel_rfl) (fun _ _ _ h => h) (Or.inl ⟨by rfl, ?_⟩) ?_ ?_
                    rotate_left
                    · intro w'
                      go_simp
                      with_reducible rfl
                    rotate_left
                    · simp only [Act.put, List.setIfInBounds_toArray, List.set_cons_zero, List.set_cons_succ, i64_w, i32_w]
                      rfl
                    refine pure_ (i := 2) (N := some 127) (v := ?_) (a' := ?_) #[true, false, true, false, false, false, false, false, false, false, false] rfl rfl (by kernel_rfl) (fun _ _ _ h => h) (Or.inl ⟨by rfl, ?_⟩) ?_ ?_
                    rotate_left
                    · intro w'
                      go_simp
                      with_reducible rfl
                    rotate_left
                    · simp only [Act.put, List.setIfInBounds_toArray, List.set_cons_zero, List.set_cons_succ, i64_w, i32_w]
                      rfl
                    refine pure_ (i := 3) (N := some 128) (v := ?_) (a' := ?_) #[true, false, true, true, false, false, false, false, false, false, false] rfl rfl (by kernel_rfl) (fun _ _ _ h => h) (Or.inl ⟨by rfl, ?_⟩) ?_ ?_
                    rotate_left
                    · intro w'
                      go_simp
                      with_reducible rfl
                    rotate_left
                    · simp only [Act.put, List.setIfInBounds_toArray, List.set_cons_zero, List.set_cons_succ, i64_w, i32_w]
                      rfl
                    refine pure_ (i := 4) (N := some 129) (v := ?_) (a' := ?_) #[true, false, true, true, true, false, false, false, false, false, false] rfl rfl (by kernel_rfl) (fun _ _ _ h => h) (Or.inl ⟨by rfl, ?_⟩) ?_ ?_
                    rotate_left
                    · intro w'
                      go_simp
                      with_reducible rfl
                    rotate_left
                    · simp only [Act.put, List.setIfInBounds_toArray, List.set_cons_zero, List.set_cons_succ, i64_w, i32_w]
                      rfl
                    refine pure_ (i := 5) (N := some 130) (v := ?_) (a' := ?_) #[true, false, true, true, true, true, false, false, false, false, false] rfl rfl (by kernel_rfl) (fun _ _ _ h => h) (Or.inl ⟨by rfl, ?_⟩) ?_ ?_
                    rotate_left
                    · intro w'
                      go_simp
                      with_reducible rfl
                    rotate_left
                    · simp only [Act.put, List.setIfInBounds_toArray, List.set_cons_zero, List.set_cons_succ, i64_w, i32_w]
                      rfl
                    refine pure_ (i := 6) (N := some 131) (v := ?_) (a' := ?_) #[true, false, true, true, true, true, true, false, false, false, false] rfl rfl (by kernel_rfl) (fun _ _ _ h => h) (Or.inl ⟨by rfl, ?_⟩) ?_ ?_
                    rotate_left
                    · intro w'
                      go_simp
                      with_reducible rfl
                    rotate_left
                    · simp only [Act.put, List.setIfInBounds_toArray, List.set_cons_zero, List.set_cons_succ, i64_w, i32_w]
                      rfl
                    refine take_ (i := 1) (N := some 126) (v := ?_) (a' := ?_) #[true, true, true, true, true, true, true, false, false, false, false] rfl rfl (by kernel_rfl) (fun _ _ _ h => h) (Or.inl ⟨by rfl, ?_⟩) hHeld ?_ ?_
                    rotate_left
                    · rintro w' ⟨s0, s1⟩
                      go_simp
                      with_reducible rfl
                    rotate_left
                    · simp only [Act.put, List.setIfInBounds_toArray, List.set_cons_zero, List.set_cons_succ, i64_w, i32_w]
                      rfl
                    refine take_ (i := 7) (N := some 132) (v := ?_) (a' := ?_) #[true, true, true, true, true, true, true, true, false, false, false] rfl rfl (by kernel_rfl) (fun _ _ _ h => h) (Or.inl ⟨by rfl, ?_⟩) hHeld ?_ ?_
                    rotate_left
                    · rintro w' ⟨s0, s1⟩
                      go_simp
                      with_reducible rfl
                    rotate_left
                    · simp only [Act.put, List.setIfInBounds_toArray, List.set_cons_zero, List.set_cons_succ, i64_w, i32_w]
                      rfl
                    refine pure_ (i := 8) (N := some 133) (v := ?_) (a' := ?_) #[true, true, true, true, true, true, true, true, true, false, false] rfl rfl (by kernel_rfl) (fun _ _ _ h => h) (Or.inl ⟨by rfl, ?_⟩) ?_ ?_
                    rotate_left
                    · intro w'
                      go_simp
                      with_reducible rfl
                    rotate_left
                    · simp only [Act.put, List.setIfInBounds_toArray, List.set_cons_zero, List.set_cons_succ, i64_w, i32_w]
                      rfl
                    refine pure_ (i := 9) (N := some 134) (v := ?_) (a' := ?_) #[true, true, true, true, true, true, true, true, true, true, false] rfl rfl (by kernel_rfl) (fun _ _ _ h => h) (Or.inl ⟨by rfl, ?_⟩) ?_ ?_
                    rotate_left
                    · intro w'
                      go_simp
                      with_reducible rfl
                    rotate_left
                    · simp only [Act.put, List.setIfInBounds_toArray, List.set_cons_zero, List.set_cons_succ, i64_w, i32_w]
                      rfl
                    refine last_ (i := 10) (N := none) #[true, true, true, true, true, true, true, true, true, true, true] rfl rfl (by kernel_rfl) (by decide) (fun K hK => ?_)
                    refine skip_ (w1 := ?_) (by rfl) rfl ?_ ?_
                    rotate_left
                    · go_simp
                      rfl
                    refine hK.out _ _ ?_
                    clear hK K
                    refine done_ (by kernel_rfl) ?_
                    go_wp2_with fail
                    refine start_ (n := 12) (S := fun w' => w'.cell? ⟨w5.heap.size, 5, none⟩ = some (.int .i64 (1 + gl)) ∧ w'.cell? ⟨g0, m * 6 + 5, none⟩ = some (.int .i64 gr)) (ds := [11]) #[false, false, false, false, false, false, false, false, false, false, false, false] (by kernel_rfl) rfl rfl ⟨(cell_blk (i := 5) (w := (wr.drew.setCell ⟨w5.heap.size, 4, none⟩ (.int .i64 (1 + sl + sr))).drew) HWB4.out rfl), D5.out⟩ (fun hHeld => ?_)
                    refine pure_ (i := 0) (N := some 135) (v := ?_) (a' := ?_) #[true, false, false, false, false, false, false, false, false, false, false, false] rfl rfl (by kernel_rfl) (fun _ _ _ h => h) (Or.inl ⟨by rfl, ?_⟩) ?_ ?_
                    rotate_left
                    · intro w'
                      go_simp
                      with_reducible rfl
                    rotate_left
                    · simp only [Act.put, List.setIfInBounds_toArray, List.set_cons_zero, List.set_cons_succ, i64_w, i32_w]
                      rfl
                    refine pure_ (i := 2) (N := some 137) (v := ?_) (a' := ?_) #[true, false, true, false, false, false, false, false, false, false, false, false] rfl rfl (by kernel_rfl) (fun _ _ _ h => h) (Or.inl ⟨by rfl, ?_⟩) ?_ ?_
                    rotate_left
                    · intro w'
                      go_simp
                      with_reducible rfl
                    rotate_left
                    · simp only [Act.put, List.setIfInBounds_toArray, List.set_cons_zero, List.set_cons_succ, i64_w, i32_w]
                      rfl
                    refine pure_ (i := 3) (N := some 138) (v := ?_) (a' := ?_) #[true, false, true, true, false, false, false, false, false, false, false, false] rfl rfl (by kernel_rfl) (fun _ _ _ h => h) (Or.inl ⟨by rfl, ?_⟩) ?_ ?_
                    rotate_left
                    · intro w'
                      go_simp
                      with_reducible rfl
                    rotate_left
                    · simp only [Act.put, List.setIfInBounds_toArray, List.set_cons_zero, List.set_cons_succ, i64_w, i32_w]
                      rfl
                    refine pure_ (i := 4) (N := some 139) (v := ?_) (a' := ?_) #[true, false, true, true, true, false, false, false, false, false, false, false] rfl rfl (by kernel_rfl) (fun _ _ _ h => h) (Or.inl ⟨by rfl, ?_⟩) ?_ ?_
                    rotate_left
                    · intro w'
                      go_simp
                      with_reducible rfl
                    rotate_left
                    · simp only [Act.put, List.setIfInBounds_toArray, List.set_cons_zero, List.set_cons_succ, i64_w, i32_w]
                      rfl
                    refine pure_ (i := 5) (N := some 140) (v := ?_) (a' := ?_) #[true, false, true, true, true, true, false, false, false, false, false, false] rfl rfl (by kernel_rfl) (fun _ _ _ h => h) (Or.inl ⟨by rfl, ?_⟩) ?_ ?_
                    rotate_left
                    · intro w'
                      go_simp
                      with_reducible rfl
                    rotate_left
                    · simp only [Act.put, List.setIfInBounds_toArray, List.set_cons_zero, List.set_cons_succ, i64_w, i32_w]
                      rfl
                    refine pure_ (i := 6) (N := some 141) (v := ?_) (a' := ?_) #[true, false, true, true, true, true, true, false, false, false, false, false] rfl rfl (by kernel_rfl) (fun _ _ _ h => h) (Or.inl ⟨by rfl, ?_⟩) ?_ ?_
                    rotate_left
                    · intro w'
                      go_simp
                      with_reducible rfl
                    rotate_left
                    · simp only [Act.put, List.setIfInBounds_toArray, List.set_cons_zero, List.set_cons_succ, i64_w, i32_w]
                      rfl
                    refine take_ (i := 1) (N := some 136) (v := ?_) (a' := ?_) #[true, true, true, true, true, true, true, false, false, false, false, false] rfl rfl (by kernel_rfl) (fun _ _ _ h => h) (Or.inl ⟨by rfl, ?_⟩) hHeld ?_ ?_
                    rotate_left
                    · rintro w' ⟨s0, s1⟩
                      go_simp
                      with_reducible rfl
                    rotate_left
                    · simp only [Act.put, List.setIfInBounds_toArray, List.set_cons_zero, List.set_cons_succ, i64_w, i32_w]
                      rfl
                    refine take_ (i := 7) (N := some 142) (v := ?_) (a' := ?_) #[true, true, true, true, true, true, true, true, false, false, false, false] rfl rfl (by kernel_rfl) (fun _ _ _ h => h) (Or.inl ⟨by rfl, ?_⟩) hHeld ?_ ?_
                    rotate_left
                    · rintro w' ⟨s0, s1⟩
                      go_simp
                      with_reducible rfl
                    rotate_left
                    · simp only [Act.put, List.setIfInBounds_toArray, List.set_cons_zero, List.set_cons_succ, i64_w, i32_w]
                      rfl
                    refine pure_ (i := 8) (N := some 143) (v := ?_) (a' := ?_) #[true, true, true, true, true, true, true, true, true, false, false, false] rfl rfl (by kernel_rfl) (fun _ _ _ h => h) (Or.inl ⟨by rfl, ?_⟩) ?_ ?_
                    rotate_left
                    · intro w'
                      go_simp
                      with_reducible rfl
                    rotate_left
                    · simp only [Act.put, List.setIfInBounds_toArray, List.set_cons_zero, List.set_cons_succ, i64_w, i32_w]
                      rfl
                    refine pure_ (i := 9) (N := some 144) (v := ?_) (a' := ?_) #[true, true, true, true, true, true, true, true, true, true, false, false] rfl rfl (by kernel_rfl) (fun _ _ _ h => h) (Or.inl ⟨by rfl, ?_⟩) ?_ ?_
                    rotate_left
                    · intro w'
                      go_simp
                      with_reducible rfl
                    rotate_left
                    · simp only [Act.put, List.setIfInBounds_toArray, List.set_cons_zero, List.set_cons_succ, i64_w, i32_w]
                      rfl
                    refine pure_ (i := 10) (N := some 145) (v := ?_) (a' := ?_) #[true, true, true, true, true, true, true, true, true, true, true, false] rfl rfl (by kernel_rfl) (fun _ _ _ h => h) (Or.inl ⟨by rfl, ?_⟩) ?_ ?_
                    rotate_left
                    · intro w'
                      go_simp
                      with_reducible rfl
                    rotate_left
                    · simp only [Act.put, List.setIfInBounds_toArray, List.set_cons_zero, List.set_cons_succ, i64_w, i32_w]
                      rfl
                    refine last_ (i := 11) (N := none) #[true, true, true, true, true, true, true, true, true, true, true, true] rfl rfl (by kernel_rfl) (by decide) (fun K hK => ?_)
                    refine skip_ (w1 := ?_) (by rfl) rfl ?_ ?_
                    rotate_left
                    · go_simp
                      rfl
                    refine hK.out _ _ ?_
                    clear hK K
                    refine done_ (by kernel_rfl) ?_
                    go_wp2_with fail
                    go_roundw
                    case rel => exact ⟨2, by omega, by go_num, Lib.hid ⟨FIN.out, Frame.drawn FRM.out rfl rfl rfl rfl⟩⟩
                    case measure => simp [intOf]
                  · have hmx : decide (1 + gl < 1 + gr) = false := decide_eq_false hmm
                    have hmx2 : ¬ (1 + gl < 1 + gr) := hmm
                    have FIN := Lib.hid (show ((wr.setCell ⟨w5.heap.size, 4, none⟩ (.int .i64 (1 + sl + sr))).setCell ⟨w5.heap.size, 5, none⟩ (.int .i64 (1 + gl))).heap[w5.heap.size]? = some (wbO pk pv (rl : Int) (rr : Int) (szJ sl sr 2) (hgJ gl gr 2)) by have h := wb_set HWB.out (1 + sl + sr) (1 + gl); rw [show hgJ gl gr 2 = 1 + gl by show topH gl gr = _; unfold topH; rw [if_neg hmm]]; exact h)
                    have FRM := Lib.hid (HFR.out.trans (wb_frame wr w5.heap.size (.int .i64 (1 + sl + sr)) (.int .i64 (1 + gl))) fun _ _ h => h)
                    go_wp2_with fail
                    refine start_ (n := 11) (S := fun w' => w'.cell? ⟨w5.heap.size, 4, none⟩ = some (.int .i64 (1 + sl)) ∧ w'.cell? ⟨g0, m * 6 + 4, none⟩ = some (.int .i64 sr)) (ds := [10]) #[false, false, false, false, false, false, false, false, false, false, false] (by kernel_rfl) rfl rfl ⟨(cell_blk (i := 4) (w := wr.drew) HWB.out rfl), D4.out⟩ (fun hHeld => ?_)
                    refine pure_ (i := 0) (N := some 125) (v := ?_) (a' := ?_) #[true, false, false, false, false, false, false, false, false, false, false] rfl rfl (by kernel_rfl) (fun _ _ _ h => h) (Or.inl ⟨by rfl, ?_⟩) ?_ ?_
                    rotate_left
                    · intro w'
                      go_simp
                      with_reducible rfl
                    rotate_left
                    · simp only [Act.put, List.setIfInBounds_toArray, List.set_cons_zero, List.set_cons_succ, i64_w, i32_w]
                      rfl
                    refine pure_ (i := 2) (N := some 127) (v := ?_) (a' := ?_) #[true, false, true, false, false, false, false, false, false, false, false] rfl rfl (by kernel_rfl) (fun _ _ _ h => h) (Or.inl ⟨by rfl, ?_⟩) ?_ ?_
                    rotate_left
                    · intro w'
                      go_simp
                      with_reducible rfl
                    rotate_left
                    · simp only [Act.put, List.setIfInBounds_toArray, List.set_cons_zero, List.set_cons_succ, i64_w, i32_w]
                      rfl
                    refine pure_ (i := 3) (N := some 128) (v := ?_) (a' := ?_) #[true, false, true, true, false, false, false, false, false, false, false] rfl rfl (by kernel_rfl) (fun _ _ _ h => h) (Or.inl ⟨by rfl, ?_⟩) ?_ ?_
                    rotate_left
                    · intro w'
                      go_simp
                      with_reducible rfl
                    rotate_left
                    · simp only [Act.put, List.setIfInBounds_toArray, List.set_cons_zero, List.set_cons_succ, i64_w, i32_w]
                      rfl
                    refine pure_ (i := 4) (N := some 129) (v := ?_) (a' := ?_) #[true, false, true, true, true, false, false, false, false, false, false] rfl rfl (by kernel_rfl) (fun _ _ _ h => h) (Or.inl ⟨by rfl, ?_⟩) ?_ ?_
                    rotate_left
                    · intro w'
                      go_simp
                      with_reducible rfl
                    rotate_left
                    · simp only [Act.put, List.setIfInBounds_toArray, List.set_cons_zero, List.set_cons_succ, i64_w, i32_w]
                      rfl
                    refine pure_ (i := 5) (N := some 130) (v := ?_) (a' := ?_) #[true, false, true, true, true, true, false, false, false, false, false] rfl rfl (by kernel_rfl) (fun _ _ _ h => h) (Or.inl ⟨by rfl, ?_⟩) ?_ ?_
                    rotate_left
                    · intro w'
                      go_simp
                      with_reducible rfl
                    rotate_left
                    · simp only [Act.put, List.setIfInBounds_toArray, List.set_cons_zero, List.set_cons_succ, i64_w, i32_w]
                      rfl
                    refine pure_ (i := 6) (N := some 131) (v := ?_) (a' := ?_) #[true, false, true, true, true, true, true, false, false, false, false] rfl rfl (by kernel_rfl) (fun _ _ _ h => h) (Or.inl ⟨by rfl, ?_⟩) ?_ ?_
                    rotate_left
                    · intro w'
                      go_simp
                      with_reducible rfl
                    rotate_left
                    · simp only [Act.put, List.setIfInBounds_toArray, List.set_cons_zero, List.set_cons_succ, i64_w, i32_w]
                      rfl
                    refine take_ (i := 1) (N := some 126) (v := ?_) (a' := ?_) #[true, true, true, true, true, true, true, false, false, false, false] rfl rfl (by kernel_rfl) (fun _ _ _ h => h) (Or.inl ⟨by rfl, ?_⟩) hHeld ?_ ?_
                    rotate_left
                    · rintro w' ⟨s0, s1⟩
                      go_simp
                      with_reducible rfl
                    rotate_left
                    · simp only [Act.put, List.setIfInBounds_toArray, List.set_cons_zero, List.set_cons_succ, i64_w, i32_w]
                      rfl
                    refine take_ (i := 7) (N := some 132) (v := ?_) (a' := ?_) #[true, true, true, true, true, true, true, true, false, false, false] rfl rfl (by kernel_rfl) (fun _ _ _ h => h) (Or.inl ⟨by rfl, ?_⟩) hHeld ?_ ?_
                    rotate_left
                    · rintro w' ⟨s0, s1⟩
                      go_simp
                      with_reducible rfl
                    rotate_left
                    · simp only [Act.put, List.setIfInBounds_toArray, List.set_cons_zero, List.set_cons_succ, i64_w, i32_w]
                      rfl
                    refine pure_ (i := 8) (N := some 133) (v := ?_) (a' := ?_) #[true, true, true, true, true, true, true, true, true, false, false] rfl rfl (by kernel_rfl) (fun _ _ _ h => h) (Or.inl ⟨by rfl, ?_⟩) ?_ ?_
                    rotate_left
                    · intro w'
                      go_simp
                      with_reducible rfl
                    rotate_left
                    · simp only [Act.put, List.setIfInBounds_toArray, List.set_cons_zero, List.set_cons_succ, i64_w, i32_w]
                      rfl
                    refine pure_ (i := 9) (N := some 134) (v := ?_) (a' := ?_) #[true, true, true, true, true, true, true, true, true, true, false] rfl rfl (by kernel_rfl) (fun _ _ _ h => h) (Or.inl ⟨by rfl, ?_⟩) ?_ ?_
                    rotate_left
                    · intro w'
                      go_simp
                      with_reducible rfl
                    rotate_left
                    · simp only [Act.put, List.setIfInBounds_toArray, List.set_cons_zero, List.set_cons_succ, i64_w, i32_w]
                      rfl
                    refine last_ (i := 10) (N := none) #[true, true, true, true, true, true, true, true, true, true, true] rfl rfl (by kernel_rfl) (by decide) (fun K hK => ?_)
                    refine skip_ (w1 := ?_) (by rfl) rfl ?_ ?_
                    rotate_left
                    · go_simp
                      rfl
                    refine hK.out _ _ ?_
                    clear hK K
                    refine done_ (by kernel_rfl) ?_
                    go_wp2_with fail
                    refine start_ (n := 12) (S := fun w' => w'.cell? ⟨w5.heap.size, 5, none⟩ = some (.int .i64 (1 + gl)) ∧ w'.cell? ⟨g0, m * 6 + 5, none⟩ = some (.int .i64 gr)) (ds := [11]) #[false, false, false, false, false, false, false, false, false, false, false, false] (by kernel_rfl) rfl rfl ⟨(cell_blk (i := 5) (w := (wr.drew.setCell ⟨w5.heap.size, 4, none⟩ (.int .i64 (1 + sl + sr))).drew) HWB4.out rfl), D5.out⟩ (fun hHeld => ?_)
                    refine pure_ (i := 0) (N := some 135) (v := ?_) (a' := ?_) #[true, false, false, false, false, false, false, false, false, false, false, false] rfl rfl (by kernel_rfl) (fun _ _ _ h => h) (Or.inl ⟨by rfl, ?_⟩) ?_ ?_
                    rotate_left
                    · intro w'
                      go_simp
                      with_reducible rfl
                    rotate_left
                    · simp only [Act.put, List.setIfInBounds_toArray, List.set_cons_zero, List.set_cons_succ, i64_w, i32_w]
                      rfl
                    refine pure_ (i := 2) (N := some 137) (v := ?_) (a' := ?_) #[true, false, true, false, false, false, false, false, false, false, false, false] rfl rfl (by kernel_rfl) (fun _ _ _ h => h) (Or.inl ⟨by rfl, ?_⟩) ?_ ?_
                    rotate_left
                    · intro w'
                      go_simp
                      with_reducible rfl
                    rotate_left
                    · simp only [Act.put, List.setIfInBounds_toArray, List.set_cons_zero, List.set_cons_succ, i64_w, i32_w]
                      rfl
                    refine pure_ (i := 3) (N := some 138) (v := ?_) (a' := ?_) #[true, false, true, true, false, false, false, false, false, false, false, false] rfl rfl (by kernel_rfl) (fun _ _ _ h => h) (Or.inl ⟨by rfl, ?_⟩) ?_ ?_
                    rotate_left
                    · intro w'
                      go_simp
                      with_reducible rfl
                    rotate_left
                    · simp only [Act.put, List.setIfInBounds_toArray, List.set_cons_zero, List.set_cons_succ, i64_w, i32_w]
                      rfl
                    refine pure_ (i := 4) (N := some 139) (v := ?_) (a' := ?_) #[true, false, true, true, true, false, false, false, false, false, false, false] rfl rfl (by kernel_rfl) (fun _ _ _ h => h) (Or.inl ⟨by rfl, ?_⟩) ?_ ?_
                    rotate_left
                    · intro w'
                      go_simp
                      with_reducible rfl
                    rotate_left
                    · simp only [Act.put, List.setIfInBounds_toArray, List.set_cons_zero, List.set_cons_succ, i64_w, i32_w]
                      rfl
                    refine pure_ (i := 5) (N := some 140) (v := ?_) (a' := ?_) #[true, false, true, true, true, true, false, false, false, false, false, false] rfl rfl (by kernel_rfl) (fun _ _ _ h => h) (Or.inl ⟨by rfl, ?_⟩) ?_ ?_
                    rotate_left
                    · intro w'
                      go_simp
                      with_reducible rfl
                    rotate_left
                    · simp only [Act.put, List.setIfInBounds_toArray, List.set_cons_zero, List.set_cons_succ, i64_w, i32_w]
                      rfl
                    refine pure_ (i := 6) (N := some 141) (v := ?_) (a' := ?_) #[true, false, true, true, true, true, true, false, false, false, false, false] rfl rfl (by kernel_rfl) (fun _ _ _ h => h) (Or.inl ⟨by rfl, ?_⟩) ?_ ?_
                    rotate_left
                    · intro w'
                      go_simp
                      with_reducible rfl
                    rotate_left
                    · simp only [Act.put, List.setIfInBounds_toArray, List.set_cons_zero, List.set_cons_succ, i64_w, i32_w]
                      rfl
                    refine take_ (i := 1) (N := some 136) (v := ?_) (a' := ?_) #[true, true, true, true, true, true, true, false, false, false, false, false] rfl rfl (by kernel_rfl) (fun _ _ _ h => h) (Or.inl ⟨by rfl, ?_⟩) hHeld ?_ ?_
                    rotate_left
                    · rintro w' ⟨s0, s1⟩
                      go_simp
                      with_reducible rfl
                    rotate_left
                    · simp only [Act.put, List.setIfInBounds_toArray, List.set_cons_zero, List.set_cons_succ, i64_w, i32_w]
                      rfl
                    refine take_ (i := 7) (N := some 142) (v := ?_) (a' := ?_) #[true, true, true, true, true, true, true, true, false, false, false, false] rfl rfl (by kernel_rfl) (fun _ _ _ h => h) (Or.inl ⟨by rfl, ?_⟩) hHeld ?_ ?_
                    rotate_left
                    · rintro w' ⟨s0, s1⟩
                      go_simp
                      with_reducible rfl
                    rotate_left
                    · simp only [Act.put, List.setIfInBounds_toArray, List.set_cons_zero, List.set_cons_succ, i64_w, i32_w]
                      rfl
                    refine pure_ (i := 8) (N := some 143) (v := ?_) (a' := ?_) #[true, true, true, true, true, true, true, true, true, false, false, false] rfl rfl (by kernel_rfl) (fun _ _ _ h => h) (Or.inl ⟨by rfl, ?_⟩) ?_ ?_
                    rotate_left
                    · intro w'
                      go_simp
                      with_reducible rfl
                    rotate_left
                    · simp only [Act.put, List.setIfInBounds_toArray, List.set_cons_zero, List.set_cons_succ, i64_w, i32_w]
                      rfl
                    refine pure_ (i := 9) (N := some 144) (v := ?_) (a' := ?_) #[true, true, true, true, true, true, true, true, true, true, false, false] rfl rfl (by kernel_rfl) (fun _ _ _ h => h) (Or.inl ⟨by rfl, ?_⟩) ?_ ?_
                    rotate_left
                    · intro w'
                      go_simp
                      with_reducible rfl
                    rotate_left
                    · simp only [Act.put, List.setIfInBounds_toArray, List.set_cons_zero, List.set_cons_succ, i64_w, i32_w]
                      rfl
                    refine pure_ (i := 10) (N := some 145) (v := ?_) (a' := ?_) #[true, true, true, true, true, true, true, true, true, true, true, false] rfl rfl (by kernel_rfl) (fun _ _ _ h => h) (Or.inl ⟨by rfl, ?_⟩) ?_ ?_
                    rotate_left
                    · intro w'
                      go_simp
                      with_reducible rfl
                    rotate_left
                    · simp only [Act.put, List.setIfInBounds_toArray, List.set_cons_zero, List.set_cons_succ, i64_w, i32_w]
                      rfl
                    refine last_ (i := 11) (N := none) #[true, true, true, true, true, true, true, true, true, true, true, true] rfl rfl (by kernel_rfl) (by decide) (fun K hK => ?_)
                    refine skip_ (w1 := ?_) (by rfl) rfl ?_ ?_
                    rotate_left
                    · go_simp
                      rfl
                    refine hK.out _ _ ?_
                    clear hK K
                    refine done_ (by kernel_rfl) ?_
                    go_wp2_with fail
                    go_roundw
                    case rel => exact ⟨2, by omega, by go_num, Lib.hid ⟨FIN.out, Frame.drawn FRM.out rfl rfl rfl rfl⟩⟩
                    case measure => simp [intOf]
            · have hw := HW.out.1
              have HWB := Lib.hid (show wr.heap[w5.heap.size]? = some (wbO pk pv (rl : Int) (rr : Int) (1 + sl + sr) (topH gl gr)) from hw)
              have HFR := Lib.hid HW.out.2; clear hw HW
              have hF5 : ¬ F5 w5.heap.size := fun hf => by have := S5.out.arena.lt _ hf; omega
              have S7 := Lib.hid (S6.out.only HFR.out hF5 S5.out.size)
              have N7 := Lib.hid (N6.out.only HFR.out (fun e => by have := (N5.out.own.lt _ e).2; omega))
              have hwlt : w5.heap.size < wr.heap.size := (Array.getElem?_eq_some_iff.1 HWB.out).1
              have z0 := cell_blk (i := 0) HWB.out rfl
              have z1 := cell_blk (i := 1) HWB.out rfl
              have z2 := cell_blk (i := 2) HWB.out rfl
              have z3 := cell_blk (i := 3) HWB.out rfl
              have z4 := cell_blk (i := 4) HWB.out rfl
              have z5 := cell_blk (i := 5) HWB.out rfl
              clear hF5
              by_cases hbig : 1099511627776 < 1 + sl + sr
              · go_wp2_with (go_at_call 7; refine (awake3_any W _ S7.out.below).mono ?_; rintro e wz ⟨rfl, bz⟩)
                go_ret
                exact ⟨rfl, bz⟩
              · have hml2 : ms.length ≤ 100 := by omega
                have MK6 := Lib.hid (MK5.out (by omega))
                have qn : (((ms.length : Int) + 1) != ((ms.length : Int) + 1)) = false := by simp
                have N20 := Lib.hid (N7.out.alloc (.cells #[.int .i64 pk, .int .i64 pv, .int .i64 ((rl : Int)), .int .i64 ((rr : Int)), .int .i64 (1 + sl + sr), .int .i64 (topH gl gr)] 36))
                have G20 := Lib.hid (show (wr.alloc (.cells #[.int .i64 pk, .int .i64 pv, .int .i64 ((rl : Int)), .int .i64 ((rr : Int)), .int .i64 (1 + sl + sr), .int .i64 (topH gl gr)] 36)).heap[wr.heap.size]? = some (.cells (cellsN ⟨pk, pv, (rl : Int), (rr : Int), 1 + sl + sr, topH gl gr⟩).toArray 36 (0, 0)) from heap_alloc_new wr (.cells #[.int .i64 pk, .int .i64 pv, .int .i64 ((rl : Int)), .int .i64 ((rr : Int)), .int .i64 (1 + sl + sr), .int .i64 (topH gl gr)] 36))
                have S20 := Lib.hid (S7.out.alloc (.cells #[.int .i64 pk, .int .i64 pv, .int .i64 ((rl : Int)), .int .i64 ((rr : Int)), .int .i64 (1 + sl + sr), .int .i64 (topH gl gr)] 36))
                have wn : IntKind.i64.wrap ((ms.length : Int) + 1) = (ms.length : Int) + 1 := IntWalk.i64_in _ (by omega)
                have hsb := S2.out.size
                go_wp2_with (at_builtin; refine wp_app1N (y := ⟨pk, pv, (rl : Int), (rr : Int), 1 + sl + sr, topH gl gr⟩) rfl (.tmp 151) (.tmp 153) rfl rfl rfl N20.out G20.out (by omega) ?_; intro v21 w21 n21 g21 l21; have N21 := Lib.hid n21; have S21 := Lib.hid (S20.out.apart g21 (fun b hb => ⟨O5.out b hb, by have := (N20.out.own.lt b hb).1; omega⟩)); have O21 := Lib.hid (show ∀ b, v21.ownBlock = some b → ¬ F5 b from fun b hb hf => (l21 b hb).elim (fun h => O5.out b h hf) (fun h => by have := S20.out.arena.lt b hf; omega)); clear n21 g21 l21)
                go_roundw
                case rel => exact ⟨k + 1, by omega, by go_num, ms ++ [⟨pk, pv, (rl : Int), (rr : Int), 1 + sl + sr, topH gl gr⟩], A5, F5, by rw [List.length_append]; simp; omega, Lib.hid ⟨S21.out, MK6.out, N21.out, O21.out⟩⟩
                case measure => simp [intOf]; omega
        · have qf : (r : Int) ≤ (ms.length : Int) := by omega
          have hlen9 : (ms.length : Int) ≤ (r : Int) := by have h1 := S9.out.fits; have h2 := M9.out.len; have h3 := M9.out.room; omega
          as_aux_lemma =>
            have cc := nmake_any S4.out.arena pk pv (rl : Int) (rr : Int)
            rw [M9.out.full HLH.out HRH.out pk pv (by omega)] at cc
            have CC := Lib.hid cc; clear cc
            have y0 := cell_blk (i := 0) X4.out rfl
            have y1 := cell_blk (i := 1) X4.out rfl
            have y2 := cell_blk (i := 2) X4.out rfl
            have y3 := cell_blk (i := 3) X4.out rfl
            go_wp2_with fail
            refine CC.out.mono ?_
            rintro e w5 ⟨rfl, m5⟩
            clear CC y0 y1 y2 y3
            obtain ⟨F5, o5, g5⟩ := Made.out m5
            have hbx : ¬ F wo.heap.size := fun hf => by have := S9.out.arena.lt _ hf; omega
            have X5 := Lib.hid ((g5.1.block wo.heap.size (Array.getElem?_eq_some_iff.1 X4.out).1 hbx).trans X4.out)
            have S5 := Lib.hid (S4.out.grow g5 o5)
            have N5 := Lib.hid (N4.out.grow g5 O9.out)
            have O5 := Lib.hid (fun b hb hf => (g5.2 b hf).elim (O9.out b hb) (fun h => by have := (N4.out.own.lt b hb).2; omega) : ∀ b, Value.ownBlock (.slice adm ms.length cm) = some b → ¬ F5 b)
            clear m5 o5 g5 hbx
            have x0 := cell_blk (i := 0) X5.out rfl
            have x1 := cell_blk (i := 1) X5.out rfl
            have x2 := cell_blk (i := 2) X5.out rfl
            have x3 := cell_blk (i := 3) X5.out rfl
            have hlt5 : wo.heap.size < w5.heap.size := (Array.getElem?_eq_some_iff.1 X5.out).1
            go_wp2_with fail
            go_roundw
            case rel => exact ⟨k + 1, by omega, by go_num, ms, A, F5, by omega, Lib.hid ⟨S5.out, M9.out, N5.out, O5.out⟩⟩
            case measure => simp [intOf]; omega
      | true =>
        by_cases hL : L0 < 0
        · as_aux_lemma =>
            have BE := Lib.hid (show Below wo.heap.size wo (wo.alloc (.cells #[.int .i64 pk, .int .i64 pv, .int .i64 L0, .int .i64 R0, .bool true] 31)) from (Below.refl _ _).alloc (Nat.le_refl _) _)
            have X4 := Lib.hid (show ((wo.alloc (.cells #[.int .i64 pk, .int .i64 pv, .int .i64 L0, .int .i64 R0, .bool true] 31))).heap[wo.heap.size]? = some (.cells #[.int .i64 pk, .int .i64 pv, .int .i64 L0, .int .i64 R0, .bool true] 31 (0, 0)) from heap_alloc_new wo (.cells #[.int .i64 pk, .int .i64 pv, .int .i64 L0, .int .i64 R0, .bool true] 31))
            have S4 := Lib.hid (S9.out.later BE.out)
            have N4 := Lib.hid (N9.out.later BE.out)
            have cc := nmake_any S4.out.arena pk pv L0 R0
            rw [M9.out.bad pk pv (.inl (.inl hL))] at cc
            have CC := Lib.hid cc; clear cc
            have y0 := cell_blk (i := 0) X4.out rfl
            have y1 := cell_blk (i := 1) X4.out rfl
            have y2 := cell_blk (i := 2) X4.out rfl
            have y3 := cell_blk (i := 3) X4.out rfl
            go_wp2_with fail
            refine CC.out.mono ?_
            rintro e w5 ⟨rfl, m5⟩
            clear CC y0 y1 y2 y3
            obtain ⟨F5, o5, g5⟩ := Made.out m5
            have hbx : ¬ F wo.heap.size := fun hf => by have := S9.out.arena.lt _ hf; omega
            have X5 := Lib.hid ((g5.1.block wo.heap.size (Array.getElem?_eq_some_iff.1 X4.out).1 hbx).trans X4.out)
            have S5 := Lib.hid (S4.out.grow g5 o5)
            have N5 := Lib.hid (N4.out.grow g5 O9.out)
            have O5 := Lib.hid (fun b hb hf => (g5.2 b hf).elim (O9.out b hb) (fun h => by have := (N4.out.own.lt b hb).2; omega) : ∀ b, Value.ownBlock (.slice adm ms.length cm) = some b → ¬ F5 b)
            clear m5 o5 g5 hbx
            have x0 := cell_blk (i := 0) X5.out rfl
            have x1 := cell_blk (i := 1) X5.out rfl
            have x2 := cell_blk (i := 2) X5.out rfl
            have x3 := cell_blk (i := 3) X5.out rfl
            have hlt5 : wo.heap.size < w5.heap.size := (Array.getElem?_eq_some_iff.1 X5.out).1
            go_wp2_with fail
            go_roundw
            case rel => exact ⟨k + 1, by omega, by go_num, ms, A, F5, by omega, Lib.hid ⟨S5.out, M9.out, N5.out, O5.out⟩⟩
            case measure => simp [intOf]; omega
        by_cases hLn : (ms.length : Int) < L0
        · as_aux_lemma =>
            have hL2 : ¬ (L0 < 0) := hL
            have BE := Lib.hid (show Below wo.heap.size wo (wo.alloc (.cells #[.int .i64 pk, .int .i64 pv, .int .i64 L0, .int .i64 R0, .bool true] 31)) from (Below.refl _ _).alloc (Nat.le_refl _) _)
            have X4 := Lib.hid (show ((wo.alloc (.cells #[.int .i64 pk, .int .i64 pv, .int .i64 L0, .int .i64 R0, .bool true] 31))).heap[wo.heap.size]? = some (.cells #[.int .i64 pk, .int .i64 pv, .int .i64 L0, .int .i64 R0, .bool true] 31 (0, 0)) from heap_alloc_new wo (.cells #[.int .i64 pk, .int .i64 pv, .int .i64 L0, .int .i64 R0, .bool true] 31))
            have S4 := Lib.hid (S9.out.later BE.out)
            have N4 := Lib.hid (N9.out.later BE.out)
            have cc := nmake_any S4.out.arena pk pv L0 R0
            rw [M9.out.bad pk pv (.inl (.inr hLn))] at cc
            have CC := Lib.hid cc; clear cc
            have y0 := cell_blk (i := 0) X4.out rfl
            have y1 := cell_blk (i := 1) X4.out rfl
            have y2 := cell_blk (i := 2) X4.out rfl
            have y3 := cell_blk (i := 3) X4.out rfl
            go_wp2_with fail
            refine CC.out.mono ?_
            rintro e w5 ⟨rfl, m5⟩
            clear CC y0 y1 y2 y3
            obtain ⟨F5, o5, g5⟩ := Made.out m5
            have hbx : ¬ F wo.heap.size := fun hf => by have := S9.out.arena.lt _ hf; omega
            have X5 := Lib.hid ((g5.1.block wo.heap.size (Array.getElem?_eq_some_iff.1 X4.out).1 hbx).trans X4.out)
            have S5 := Lib.hid (S4.out.grow g5 o5)
            have N5 := Lib.hid (N4.out.grow g5 O9.out)
            have O5 := Lib.hid (fun b hb hf => (g5.2 b hf).elim (O9.out b hb) (fun h => by have := (N4.out.own.lt b hb).2; omega) : ∀ b, Value.ownBlock (.slice adm ms.length cm) = some b → ¬ F5 b)
            clear m5 o5 g5 hbx
            have x0 := cell_blk (i := 0) X5.out rfl
            have x1 := cell_blk (i := 1) X5.out rfl
            have x2 := cell_blk (i := 2) X5.out rfl
            have x3 := cell_blk (i := 3) X5.out rfl
            have hlt5 : wo.heap.size < w5.heap.size := (Array.getElem?_eq_some_iff.1 X5.out).1
            go_wp2_with fail
            go_roundw
            case rel => exact ⟨k + 1, by omega, by go_num, ms, A, F5, by omega, Lib.hid ⟨S5.out, M9.out, N5.out, O5.out⟩⟩
            case measure => simp [intOf]; omega
        by_cases hR : R0 < 0
        · as_aux_lemma =>
            have hL2 : ¬ (L0 < 0) := hL
            have hLn2 : ¬ ((ms.length : Int) < L0) := hLn
            have BE := Lib.hid (show Below wo.heap.size wo (wo.alloc (.cells #[.int .i64 pk, .int .i64 pv, .int .i64 L0, .int .i64 R0, .bool true] 31)) from (Below.refl _ _).alloc (Nat.le_refl _) _)
            have X4 := Lib.hid (show ((wo.alloc (.cells #[.int .i64 pk, .int .i64 pv, .int .i64 L0, .int .i64 R0, .bool true] 31))).heap[wo.heap.size]? = some (.cells #[.int .i64 pk, .int .i64 pv, .int .i64 L0, .int .i64 R0, .bool true] 31 (0, 0)) from heap_alloc_new wo (.cells #[.int .i64 pk, .int .i64 pv, .int .i64 L0, .int .i64 R0, .bool true] 31))
            have S4 := Lib.hid (S9.out.later BE.out)
            have N4 := Lib.hid (N9.out.later BE.out)
            have cc := nmake_any S4.out.arena pk pv L0 R0
            rw [M9.out.bad pk pv (.inr (.inl hR))] at cc
            have CC := Lib.hid cc; clear cc
            have y0 := cell_blk (i := 0) X4.out rfl
            have y1 := cell_blk (i := 1) X4.out rfl
            have y2 := cell_blk (i := 2) X4.out rfl
            have y3 := cell_blk (i := 3) X4.out rfl
            go_wp2_with fail
            refine CC.out.mono ?_
            rintro e w5 ⟨rfl, m5⟩
            clear CC y0 y1 y2 y3
            obtain ⟨F5, o5, g5⟩ := Made.out m5
            have hbx : ¬ F wo.heap.size := fun hf => by have := S9.out.arena.lt _ hf; omega
            have X5 := Lib.hid ((g5.1.block wo.heap.size (Array.getElem?_eq_some_iff.1 X4.out).1 hbx).trans X4.out)
            have S5 := Lib.hid (S4.out.grow g5 o5)
            have N5 := Lib.hid (N4.out.grow g5 O9.out)
            have O5 := Lib.hid (fun b hb hf => (g5.2 b hf).elim (O9.out b hb) (fun h => by have := (N4.out.own.lt b hb).2; omega) : ∀ b, Value.ownBlock (.slice adm ms.length cm) = some b → ¬ F5 b)
            clear m5 o5 g5 hbx
            have x0 := cell_blk (i := 0) X5.out rfl
            have x1 := cell_blk (i := 1) X5.out rfl
            have x2 := cell_blk (i := 2) X5.out rfl
            have x3 := cell_blk (i := 3) X5.out rfl
            have hlt5 : wo.heap.size < w5.heap.size := (Array.getElem?_eq_some_iff.1 X5.out).1
            go_wp2_with fail
            go_roundw
            case rel => exact ⟨k + 1, by omega, by go_num, ms, A, F5, by omega, Lib.hid ⟨S5.out, M9.out, N5.out, O5.out⟩⟩
            case measure => simp [intOf]; omega
        by_cases hRn : (ms.length : Int) < R0
        · as_aux_lemma =>
            have hL2 : ¬ (L0 < 0) := hL
            have hLn2 : ¬ ((ms.length : Int) < L0) := hLn
            have hR2 : ¬ (R0 < 0) := hR
            have BE := Lib.hid (show Below wo.heap.size wo (wo.alloc (.cells #[.int .i64 pk, .int .i64 pv, .int .i64 L0, .int .i64 R0, .bool true] 31)) from (Below.refl _ _).alloc (Nat.le_refl _) _)
            have X4 := Lib.hid (show ((wo.alloc (.cells #[.int .i64 pk, .int .i64 pv, .int .i64 L0, .int .i64 R0, .bool true] 31))).heap[wo.heap.size]? = some (.cells #[.int .i64 pk, .int .i64 pv, .int .i64 L0, .int .i64 R0, .bool true] 31 (0, 0)) from heap_alloc_new wo (.cells #[.int .i64 pk, .int .i64 pv, .int .i64 L0, .int .i64 R0, .bool true] 31))
            have S4 := Lib.hid (S9.out.later BE.out)
            have N4 := Lib.hid (N9.out.later BE.out)
            have cc := nmake_any S4.out.arena pk pv L0 R0
            rw [M9.out.bad pk pv (.inr (.inr hRn))] at cc
            have CC := Lib.hid cc; clear cc
            have y0 := cell_blk (i := 0) X4.out rfl
            have y1 := cell_blk (i := 1) X4.out rfl
            have y2 := cell_blk (i := 2) X4.out rfl
            have y3 := cell_blk (i := 3) X4.out rfl
            go_wp2_with fail
            refine CC.out.mono ?_
            rintro e w5 ⟨rfl, m5⟩
            clear CC y0 y1 y2 y3
            obtain ⟨F5, o5, g5⟩ := Made.out m5
            have hbx : ¬ F wo.heap.size := fun hf => by have := S9.out.arena.lt _ hf; omega
            have X5 := Lib.hid ((g5.1.block wo.heap.size (Array.getElem?_eq_some_iff.1 X4.out).1 hbx).trans X4.out)
            have S5 := Lib.hid (S4.out.grow g5 o5)
            have N5 := Lib.hid (N4.out.grow g5 O9.out)
            have O5 := Lib.hid (fun b hb hf => (g5.2 b hf).elim (O9.out b hb) (fun h => by have := (N4.out.own.lt b hb).2; omega) : ∀ b, Value.ownBlock (.slice adm ms.length cm) = some b → ¬ F5 b)
            clear m5 o5 g5 hbx
            have x0 := cell_blk (i := 0) X5.out rfl
            have x1 := cell_blk (i := 1) X5.out rfl
            have x2 := cell_blk (i := 2) X5.out rfl
            have x3 := cell_blk (i := 3) X5.out rfl
            have hlt5 : wo.heap.size < w5.heap.size := (Array.getElem?_eq_some_iff.1 X5.out).1
            go_wp2_with fail
            go_roundw
            case rel => exact ⟨k + 1, by omega, by go_num, ms, A, F5, by omega, Lib.hid ⟨S5.out, M9.out, N5.out, O5.out⟩⟩
            case measure => simp [intOf]; omega
        obtain ⟨sl, gl, hlh⟩ := hang_of (ms := ms) (t := L0) (by omega) (by omega)
        obtain ⟨sr, gr, hrh⟩ := hang_of (ms := ms) (t := R0) (by omega) (by omega)
        have HLH := Lib.hid hlh; have HRH := Lib.hid hrh; clear hlh hrh hL hLn hR hRn
        have BE := Lib.hid (show Below wo.heap.size wo (wo.alloc (.cells #[.int .i64 pk, .int .i64 pv, .int .i64 L0, .int .i64 R0, .bool true] 31)) from (Below.refl _ _).alloc (Nat.le_refl _) _)
        have X4 := Lib.hid (show ((wo.alloc (.cells #[.int .i64 pk, .int .i64 pv, .int .i64 L0, .int .i64 R0, .bool true] 31))).heap[wo.heap.size]? = some (.cells #[.int .i64 pk, .int .i64 pv, .int .i64 L0, .int .i64 R0, .bool true] 31 (0, 0)) from heap_alloc_new wo (.cells #[.int .i64 pk, .int .i64 pv, .int .i64 L0, .int .i64 R0, .bool true] 31))
        have S4 := Lib.hid (S9.out.later BE.out)
        have N4 := Lib.hid (N9.out.later BE.out)
        have qL0 : ¬ (L0 < 0) := by have := HLH.out.inb; omega
        have qLn : ¬ ((ms.length : Int) < L0) := by have := HLH.out.inb; omega
        have qR0 : ¬ (R0 < 0) := by have := HRH.out.inb; omega
        have qRn : ¬ ((ms.length : Int) < R0) := by have := HRH.out.inb; omega
        by_cases hfull : (ms.length : Int) < (r : Int)
        · have qf : ¬ ((r : Int) ≤ (ms.length : Int)) := by omega
          obtain ⟨A5, e5, mk5⟩ := M9.out.good HLH.out HRH.out pk pv (show (ms.length : Int) < (r : Int) by omega)
          have E5 := Lib.hid e5; have MK5 := Lib.hid mk5; clear e5 mk5
          have HL5 := Lib.hid (HLH.out.bd M9.out); have HR5 := Lib.hid (HRH.out.bd M9.out)
          have cc := nmake_any S4.out.arena pk pv L0 R0
          rw [E5.out] at cc
          have CC := Lib.hid cc; clear cc
          have y0 := cell_blk (i := 0) X4.out rfl
          have y1 := cell_blk (i := 1) X4.out rfl
          have y2 := cell_blk (i := 2) X4.out rfl
          have y3 := cell_blk (i := 3) X4.out rfl
          go_wp2_with fail
          refine CC.out.mono ?_
          rintro e w5 ⟨rfl, m5⟩
          clear CC y0 y1 y2 y3
          obtain ⟨F5, o5, g5⟩ := Made.out m5
          have hbx : ¬ F wo.heap.size := fun hf => by have := S9.out.arena.lt _ hf; omega
          have X5 := Lib.hid ((g5.1.block wo.heap.size (Array.getElem?_eq_some_iff.1 X4.out).1 hbx).trans X4.out)
          have S5 := Lib.hid (S4.out.grow g5 o5)
          have N5 := Lib.hid (N4.out.grow g5 O9.out)
          have O5 := Lib.hid (fun b hb hf => (g5.2 b hf).elim (O9.out b hb) (fun h => by have := (N4.out.own.lt b hb).2; omega) : ∀ b, Value.ownBlock (.slice adm ms.length cm) = some b → ¬ F5 b)
          clear m5 o5 g5 hbx
          have x0 := cell_blk (i := 0) X5.out rfl
          have x1 := cell_blk (i := 1) X5.out rfl
          have x2 := cell_blk (i := 2) X5.out rfl
          have x3 := cell_blk (i := 3) X5.out rfl
          have hlt5 : wo.heap.size < w5.heap.size := (Array.getElem?_eq_some_iff.1 X5.out).1
          have i0 : ∀ w, (Instr.index 37 (.agg #[.int .i64 (L0), .int .i64 (R0)]) (.int .i64 0)).run Try.prog w = .ok (.int .i64 (L0)) w := fun _ => by kernel_rfl
          have i1 : ∀ w, (Instr.index 37 (.agg #[.int .i64 (L0), .int .i64 (R0)]) (.int .i64 1)).run Try.prog w = .ok (.int .i64 (R0)) w := fun _ => by kernel_rfl
          have W6 := Lib.hid (show (w5.alloc (.cells #[.int .i64 pk, .int .i64 pv, .int .i64 (L0), .int .i64 (R0), .int .i64 1, .int .i64 1] 36)).heap[w5.heap.size]? = some (wbO pk pv L0 R0 1 1) from heap_alloc_new w5 (.cells #[.int .i64 pk, .int .i64 pv, .int .i64 (L0), .int .i64 (R0), .int .i64 1, .int .i64 1] 36))
          have B6 := Lib.hid ((Below.refl w5.heap.size w5).alloc (Nat.le_refl _) (.cells #[.int .i64 pk, .int .i64 pv, .int .i64 (L0), .int .i64 (R0), .int .i64 1, .int .i64 1] 36))
          have N6 := Lib.hid (N5.out.alloc (.cells #[.int .i64 pk, .int .i64 pv, .int .i64 (L0), .int .i64 (R0), .int .i64 1, .int .i64 1] 36))
          have S6 := Lib.hid (S5.out.alloc (.cells #[.int .i64 pk, .int .i64 pv, .int .i64 (L0), .int .i64 (R0), .int .i64 1, .int .i64 1] 36))
          have NW : ∀ (w' : World), Frame (fun z => z = w5.heap.size) (w5.alloc (.cells #[.int .i64 pk, .int .i64 pv, .int .i64 (L0), .int .i64 (R0), .int .i64 1, .int .i64 1] 36)) w' → ∀ (m : Nat) (hm : m < ms.length) (i : Nat) (v : Value), (cellsN ms[m])[i]? = some v → ∀ g0, adm = some ⟨g0, 0, none⟩ → w'.cell? ⟨g0, m * 6 + i, none⟩ = some v := by
            intro w' hf m hm i v hv g0 hg
            subst hg
            obtain ⟨g1, e, _, hlt1, hc⟩ := N5.out.cells hm
            simp only [Option.some.injEq, Addr.mk.injEq, and_true] at e
            subst e
            have hne : g0 ≠ w5.heap.size := by omega
            have e1 := hf.block g0 (by simp; omega) hne
            have e2 := B6.out.block g0 hlt1
            rw [← hc i v hv]
            simp [World.cell?, e1, e2]
          have NW0 := Lib.hid NW; clear NW
          go_wp2_with fail
          go_loopw [120] (fun i wr => ∃ j : Nat, j ≤ 2 ∧ i = .int .i64 j ∧ Hid (WbAt wr w5.heap.size pk pv L0 R0 (szJ sl sr j) (hgJ gl gr j) ∧ Frame (fun z => z = w5.heap.size) (w5.alloc (.cells #[.int .i64 pk, .int .i64 pv, .int .i64 (L0), .int .i64 (R0), .int .i64 1, .int .i64 1] 36)) wr)) (fun i _ => 2 - (intOf i).toNat)
          case atStart => exact ⟨0, by omega, rfl, Lib.hid ⟨W6.out, Frame.refl _ _⟩⟩
          case round =>
            obtain ⟨j, hj, rfl, HW⟩ := hrel
            rcases (show j = 0 ∨ j = 1 ∨ j = 2 by omega) with rfl | rfl | rfl
            · as_aux_lemma =>
                have hw := HW.out.1
                have hfr := HW.out.2
                have HWB := Lib.hid (show wr.heap[w5.heap.size]? = some (wbO pk pv L0 R0 (1) (1)) from hw)
                have HFR := Lib.hid hfr; clear hw hfr HW
                rcases HLH.out.or_ with ⟨h0, h1, h2⟩ | ⟨m, hm, h0, h1, h2⟩
                · have hcc : L0 = 0 := h0
                  have hz1 : sl = 0 := h1
                  have hz2 : gl = 0 := h2
                  clear h0 h1 h2
                  have q1 : ¬ (0 < L0) := by omega
                  have FIN := Lib.hid (show wr.heap[w5.heap.size]? = some (wbO pk pv L0 R0 (szJ sl sr 1) (hgJ gl gr 1)) by have h := HWB.out; rw [show szJ sl sr 1 = 1 by show 1 + sl = _; omega, show hgJ gl gr 1 = 1 by show 1 + gl = _; omega]; exact h)
                  clear hcc hz1 hz2
                  go_wp2_with fail
                  go_roundw
                  case rel => exact ⟨1, by omega, by go_num, Lib.hid ⟨FIN.out, HFR.out⟩⟩
                  case measure => simp [intOf]
                · have HMS := Lib.hid h1; have HMG := Lib.hid h2; have H0 := Lib.hid h0
                  clear h0 h1 h2
                  obtain ⟨g0, hg0, hgB, hglt, hgc⟩ := N9.out.cells hm
                  subst hg0
                  have hbd := HL5.out
                  have hbd1 : 0 ≤ sl ∧ sl ≤ 1099511627776 ∧ 0 ≤ gl ∧ gl ≤ sl := ⟨hbd.1, hbd.2.1, hbd.2.2.1, hbd.2.2.2.1⟩
                  have hbe := HR5.out
                  have hbe1 : 0 ≤ sr ∧ sr ≤ 1099511627776 ∧ 0 ≤ gr ∧ gr ≤ sr := ⟨hbe.1, hbe.2.1, hbe.2.2.1, hbe.2.2.2.1⟩
                  have hpos : 1 ≤ gl := hbd.2.2.2.2.2 (by have := H0.out; omega)
                  clear hbd hbe
                  have hne : g0 ≠ w5.heap.size := by have := (N5.out.own.lt g0 rfl).2; omega
                  have hgl5 : g0 < wr.heap.size := by have := (N6.out.own.lt g0 rfl).2; have := HFR.out.size; omega
                  have D4 := Lib.hid (show (wr.drew).cell? ⟨g0, m * 6 + 4, none⟩ = some (.int .i64 sl) by have h := NW0.out wr HFR.out m hm 4 (.int .i64 sl) (by have := HMS.out; simp [cellsN, valsN, this]) g0 rfl; exact h)
                  have D5 := Lib.hid (show ((wr.drew.setCell ⟨w5.heap.size, 4, none⟩ (.int .i64 (1 + sl))).drew).cell? ⟨g0, m * 6 + 5, none⟩ = some (.int .i64 gl) by have h := NW0.out wr HFR.out m hm 5 (.int .i64 gl) (by have := HMG.out; simp [cellsN, valsN, this]) g0 rfl; have e : ((wr.drew.setCell ⟨w5.heap.size, 4, none⟩ (.int .i64 (1 + sl))).drew).cell? ⟨g0, m * 6 + 5, none⟩ = wr.cell? ⟨g0, m * 6 + 5, none⟩ := World.cell?_setCell_other _ _ _ _ (by intro e; exact hne (congrArg Addr.block e).symm); exact e.trans h)
                  have HWB4 := Lib.hid (show ((wr.drew.setCell ⟨w5.heap.size, 4, none⟩ (.int .i64 (1 + sl))).drew).heap[w5.heap.size]? = some (wbO pk pv L0 R0 (1 + sl) (1)) by have h := heap_setCell_same wr w5.heap.size 4 _ _ (.int .i64 (1 + sl)) HWB.out; exact h)
                  have h0 := H0.out
                  have q1 : 0 < L0 := by omega
                  have wm0 : IntKind.i64.wrap (L0 - 1) = (m : Int) := by rw [h0]; exact (IntWalk.i64_in _ (by omega)).trans (by omega)
                  have wm1 : IntKind.i64.wrap (m : Int) = (m : Int) := IntWalk.i64_in _ (by omega)
                  have ws1 : IntKind.i64.wrap (1 + sl) = 1 + sl := IntWalk.i64_in _ (by omega)
                  have ws2 : IntKind.i64.wrap (1 + gl) = 1 + gl := IntWalk.i64_in _ (by omega)
                  have hm0 : (0 : Int) ≤ (m : Int) := by omega
                  have hm1 : (m : Int) < (ms.length : Int) := by omega
                  have hwlt : w5.heap.size < wr.heap.size := (Array.getElem?_eq_some_iff.1 HWB.out).1
                  have hfw := ck_free5 HWB.out 4
                  have hfw5 := ck_free5 HWB.out 5
                  clear h0
                  have hmx : decide ((1 : Int) < 1 + gl) = true := decide_eq_true (by omega)
                  have hmx2 : (1 : Int) < 1 + gl := by omega
                  have FIN := Lib.hid (show ((wr.setCell ⟨w5.heap.size, 4, none⟩ (.int .i64 (1 + sl))).setCell ⟨w5.heap.size, 5, none⟩ (.int .i64 (1 + gl))).heap[w5.heap.size]? = some (wbO pk pv L0 R0 (szJ sl sr 1) (hgJ gl gr 1)) by have h := wb_set HWB.out (1 + sl) (1 + gl); rw [show hgJ gl gr 1 = 1 + gl by rfl]; exact h)
                  have FRM := Lib.hid (HFR.out.trans (wb_frame wr w5.heap.size (.int .i64 (1 + sl)) (.int .i64 (1 + gl))) fun _ _ h => h)
                  go_wp2_with fail
                  refine start_ (n := 11) (S := fun w' => w'.cell? ⟨w5.heap.size, 4, none⟩ = some (.int .i64 (1)) ∧ w'.cell? ⟨g0, m * 6 + 4, none⟩ = some (.int .i64 sl)) (ds := [10]) #[false, false, false, false, false, false, false, false, false, false, false] (by kernel_rfl) rfl rfl ⟨(cell_blk (i := 4) (w := wr.drew) HWB.out rfl), D4.out⟩ (fun hHeld => ?_)
                  refine pure_ (i := 0) (N := some 125) (v := ?_) (a' := ?_) #[true, false, false, false, false, false, false, false, false, false, false] rfl rfl (by kernel_rfl) (fun _ _ _ h => h) (Or.inl ⟨by rfl, ?_⟩) ?_ ?_
                  rotate_left
                  · intro w'
                    go_simp
                    with_reducible rfl
                  rotate_left
                  · simp only [Act.put, List.setIfInBounds_toArray, List.set_cons_zero, List.set_cons_succ, i64_w, i32_w]
                    rfl
                  refine pure_ (i := 2) (N := some 127) (v := ?_) (a' := ?_) #[true, false, true, false, false, false, false, false, false, false, false] rfl rfl (by kernel_rfl) (fun _ _ _ h => h) (Or.inl ⟨by rfl, ?_⟩) ?_ ?_
                  rotate_left
                  · intro w'
                    go_simp
                    with_reducible rfl
                  rotate_left
                  · simp only [Act.put, List.setIfInBounds_toArray, List.set_cons_zero, List.set_cons_succ, i64_w, i32_w]
                    rfl
                  refine pure_ (i := 3) (N := some 128) (v := ?_) (a' := ?_) #[true, false, true, true, false, false, false, false, false, false, false] rfl rfl (by kernel_rfl) (fun _ _ _ h => h) (Or.inl ⟨by rfl, ?_⟩) ?_ ?_
                  rotate_left
                  · intro w'
                    go_simp
                    with_reducible rfl
                  rotate_left
                  · simp only [Act.put, List.setIfInBounds_toArray, List.set_cons_zero, List.set_cons_succ, i64_w, i32_w]
                    rfl
                  refine pure_ (i := 4) (N := some 129) (v := ?_) (a' := ?_) #[true, false, true, true, true, false, false, false, false, false, false] rfl rfl (by kernel_rfl) (fun _ _ _ h => h) (Or.inl ⟨by rfl, ?_⟩) ?_ ?_
                  rotate_left
                  · intro w'
                    go_simp
                    with_reducible rfl
                  rotate_left
                  · simp only [Act.put, List.setIfInBounds_toArray, List.set_cons_zero, List.set_cons_succ, i64_w, i32_w]
                    rfl
                  refine pure_ (i := 5) (N := some 130) (v := ?_) (a' := ?_) #[true, false, true, true, true, true, false, false, false, false, false] rfl rfl (by kernel_rfl) (fun _ _ _ h => h) (Or.inl ⟨by rfl, ?_⟩) ?_ ?_
                  rotate_left
                  · intro w'
                    go_simp
                    with_reducible rfl
                  rotate_left
                  · simp only [Act.put, List.setIfInBounds_toArray, List.set_cons_zero, List.set_cons_succ, i64_w, i32_w]
                    rfl
                  refine pure_ (i := 6) (N := some 131) (v := ?_) (a' := ?_) #[true, false, true, true, true, true, true, false, false, false, false] rfl rfl (by kernel_rfl) (fun _ _ _ h => h) (Or.inl ⟨by rfl, ?_⟩) ?_ ?_
                  rotate_left
                  · intro w'
                    go_simp
                    with_reducible rfl
                  rotate_left
                  · simp only [Act.put, List.setIfInBounds_toArray, List.set_cons_zero, List.set_cons_succ, i64_w, i32_w]
                    rfl
                  refine take_ (i := 1) (N := some 126) (v := ?_) (a' := ?_) #[true, true, true, true, true, true, true, false, false, false, false] rfl rfl (by kernel_rfl) (fun _ _ _ h => h) (Or.inl ⟨by rfl, ?_⟩) hHeld ?_ ?_
                  rotate_left
                  · rintro w' ⟨s0, s1⟩
                    go_simp
                    with_reducible rfl
                  rotate_left
                  · simp only [Act.put, List.setIfInBounds_toArray, List.set_cons_zero, List.set_cons_succ, i64_w, i32_w]
                    rfl
                  refine take_ (i := 7) (N := some 132) (v := ?_) (a' := ?_) #[true, true, true, true, true, true, true, true, false, false, false] rfl rfl (by kernel_rfl) (fun _ _ _ h => h) (Or.inl ⟨by rfl, ?_⟩) hHeld ?_ ?_
                  rotate_left
                  · rintro w' ⟨s0, s1⟩
                    go_simp
                    with_reducible rfl
                  rotate_left
                  · simp only [Act.put, List.setIfInBounds_toArray, List.set_cons_zero, List.set_cons_succ, i64_w, i32_w]
                    rfl
                  refine pure_ (i := 8) (N := some 133) (v := ?_) (a' := ?_) #[true, true, true, true, true, true, true, true, true, false, false] rfl rfl (by kernel_rfl) (fun _ _ _ h => h) (Or.inl ⟨by rfl, ?_⟩) ?_ ?_
                  rotate_left
                  · intro w'
                    go_simp
                    with_reducible rfl
                  rotate_left
                  · simp only [Act.put, List.setIfInBounds_toArray, List.set_cons_zero, List.set_cons_succ, i64_w, i32_w]
                    rfl
                  refine pure_ (i := 9) (N := some 134) (v := ?_) (a' := ?_) #[true, true, true, true, true, true, true, true, true, true, false] rfl rfl (by kernel_rfl) (fun _ _ _ h => h) (Or.inl ⟨by rfl, ?_⟩) ?_ ?_
                  rotate_left
                  · intro w'
                    go_simp
                    with_reducible rfl
                  rotate_left
                  · simp only [Act.put, List.setIfInBounds_toArray, List.set_cons_zero, List.set_cons_succ, i64_w, i32_w]
                    rfl
                  refine last_ (i := 10) (N := none) #[true, true, true, true, true, true, true, true, true, true, true] rfl rfl (by kernel_rfl) (by decide) (fun K hK => ?_)
                  refine skip_ (w1 := ?_) (by rfl) rfl ?_ ?_
                  rotate_left
                  · go_simp
                    rfl
                  refine hK.out _ _ ?_
                  clear hK K
                  refine done_ (by kernel_rfl) ?_
                  go_wp2_with fail
                  refine start_ (n := 12) (S := fun w' => w'.cell? ⟨w5.heap.size, 5, none⟩ = some (.int .i64 (1)) ∧ w'.cell? ⟨g0, m * 6 + 5, none⟩ = some (.int .i64 gl)) (ds := [11]) #[false, false, false, false, false, false, false, false, false, false, false, false] (by kernel_rfl) rfl rfl ⟨(cell_blk (i := 5) (w := (wr.drew.setCell ⟨w5.heap.size, 4, none⟩ (.int .i64 (1 + sl))).drew) HWB4.out rfl), D5.out⟩ (fun hHeld => ?_)
                  refine pure_ (i := 0) (N := some 135) (v := ?_) (a' := ?_) #[true, false, false, false, false, false, false, false, false, false, false, false] rfl rfl (by kernel_rfl) (fun _ _ _ h => h) (Or.inl ⟨by rfl, ?_⟩) ?_ ?_
                  rotate_left
                  · intro w'
                    go_simp
                    with_reducible rfl
                  rotate_left
                  · simp only [Act.put, List.setIfInBounds_toArray, List.set_cons_zero, List.set_cons_succ, i64_w, i32_w]
                    rfl
                  refine pure_ (i := 2) (N := some 137) (v := ?_) (a' := ?_) #[true, false, true, false, false, false, false, false, false, false, false, false] rfl rfl (by kernel_rfl) (fun _ _ _ h => h) (Or.inl ⟨by rfl, ?_⟩) ?_ ?_
                  rotate_left
                  · intro w'
                    go_simp
                    with_reducible rfl
                  rotate_left
                  · simp only [Act.put, List.setIfInBounds_toArray, List.set_cons_zero, List.set_cons_succ, i64_w, i32_w]
                    rfl
                  refine pure_ (i := 3) (N := some 138) (v := ?_) (a' := ?_) #[true, false, true, true, false, false, false, false, false, false, false, false] rfl rfl (by kernel_rfl) (fun _ _ _ h => h) (Or.inl ⟨by rfl, ?_⟩) ?_ ?_
                  rotate_left
                  · intro w'
                    go_simp
                    with_reducible rfl
                  rotate_left
                  · simp only [Act.put, List.setIfInBounds_toArray, List.set_cons_zero, List.set_cons_succ, i64_w, i32_w]
                    rfl
                  refine pure_ (i := 4) (N := some 139) (v := ?_) (a' := ?_) #[true, false, true, true, true, false, false, false, false, false, false, false] rfl rfl (by kernel_rfl) (fun _ _ _ h => h) (Or.inl ⟨by rfl, ?_⟩) ?_ ?_
                  rotate_left
                  · intro w'
                    go_simp
                    with_reducible rfl
                  rotate_left
                  · simp only [Act.put, List.setIfInBounds_toArray, List.set_cons_zero, List.set_cons_succ, i64_w, i32_w]
                    rfl
                  refine pure_ (i := 5) (N := some 140) (v := ?_) (a' := ?_) #[true, false, true, true, true, true, false, false, false, false, false, false] rfl rfl (by kernel_rfl) (fun _ _ _ h => h) (Or.inl ⟨by rfl, ?_⟩) ?_ ?_
                  rotate_left
                  · intro w'
                    go_simp
                    with_reducible rfl
                  rotate_left
                  · simp only [Act.put, List.setIfInBounds_toArray, List.set_cons_zero, List.set_cons_succ, i64_w, i32_w]
                    rfl
                  refine pure_ (i := 6) (N := some 141) (v := ?_) (a' := ?_) #[true, false, true, true, true, true, true, false, false, false, false, false] rfl rfl (by kernel_rfl) (fun _ _ _ h => h) (Or.inl ⟨by rfl, ?_⟩) ?_ ?_
                  rotate_left
                  · intro w'
                    go_simp
                    with_reducible rfl
                  rotate_left
                  · simp only [Act.put, List.setIfInBounds_toArray, List.set_cons_zero, List.set_cons_succ, i64_w, i32_w]
                    rfl
                  refine take_ (i := 1) (N := some 136) (v := ?_) (a' := ?_) #[true, true, true, true, true, true, true, false, false, false, false, false] rfl rfl (by kernel_rfl) (fun _ _ _ h => h) (Or.inl ⟨by rfl, ?_⟩) hHeld ?_ ?_
                  rotate_left
                  · rintro w' ⟨s0, s1⟩
                    go_simp
                    with_reducible rfl
                  rotate_left
                  · simp only [Act.put, List.setIfInBounds_toArray, List.set_cons_zero, List.set_cons_succ, i64_w, i32_w]
                    rfl
                  refine take_ (i := 7) (N := some 142) (v := ?_) (a' := ?_) #[true, true, true, true, true, true, true, true, false, false, false, false] rfl rfl (by kernel_rfl) (fun _ _ _ h => h) (Or.inl ⟨by rfl, ?_⟩) hHeld ?_ ?_
                  rotate_left
                  · rintro w' ⟨s0, s1⟩
                    go_simp
                    with_reducible rfl
                  rotate_left
                  · simp only [Act.put, List.setIfInBounds_toArray, List.set_cons_zero, List.set_cons_succ, i64_w, i32_w]
                    rfl
                  refine pure_ (i := 8) (N := some 143) (v := ?_) (a' := ?_) #[true, true, true, true, true, true, true, true, true, false, false, false] rfl rfl (by kernel_rfl) (fun _ _ _ h => h) (Or.inl ⟨by rfl, ?_⟩) ?_ ?_
                  rotate_left
                  · intro w'
                    go_simp
                    with_reducible rfl
                  rotate_left
                  · simp only [Act.put, List.setIfInBounds_toArray, List.set_cons_zero, List.set_cons_succ, i64_w, i32_w]
                    rfl
                  refine pure_ (i := 9) (N := some 144) (v := ?_) (a' := ?_) #[true, true, true, true, true, true, true, true, true, true, false, false] rfl rfl (by kernel_rfl) (fun _ _ _ h => h) (Or.inl ⟨by rfl, ?_⟩) ?_ ?_
                  rotate_left
                  · intro w'
                    go_simp
                    with_reducible rfl
                  rotate_left
                  · simp only [Act.put, List.setIfInBounds_toArray, List.set_cons_zero, List.set_cons_succ, i64_w, i32_w]
                    rfl
                  refine pure_ (i := 10) (N := some 145) (v := ?_) (a' := ?_) #[true, true, true, true, true, true, true, true, true, true, true, false] rfl rfl (by kernel_rfl) (fun _ _ _ h => h) (Or.inl ⟨by rfl, ?_⟩) ?_ ?_
                  rotate_left
                  · intro w'
                    go_simp
                    with_reducible rfl
                  rotate_left
                  · simp only [Act.put, List.setIfInBounds_toArray, List.set_cons_zero, List.set_cons_succ, i64_w, i32_w]
                    rfl
                  refine last_ (i := 11) (N := none) #[true, true, true, true, true, true, true, true, true, true, true, true] rfl rfl (by kernel_rfl) (by decide) (fun K hK => ?_)
                  refine skip_ (w1 := ?_) (by rfl) rfl ?_ ?_
                  rotate_left
                  · go_simp
                    rfl
                  refine hK.out _ _ ?_
                  clear hK K
                  refine done_ (by kernel_rfl) ?_
                  go_wp2_with fail
                  go_roundw
                  case rel => exact ⟨1, by omega, by go_num, Lib.hid ⟨FIN.out, Frame.drawn FRM.out rfl rfl rfl rfl⟩⟩
                  case measure => simp [intOf]
            · as_aux_lemma =>
                have hw := HW.out.1
                have hfr := HW.out.2
                have HWB := Lib.hid (show wr.heap[w5.heap.size]? = some (wbO pk pv L0 R0 (1 + sl) (1 + gl)) from hw)
                have HFR := Lib.hid hfr; clear hw hfr HW
                rcases HRH.out.or_ with ⟨h0, h1, h2⟩ | ⟨m, hm, h0, h1, h2⟩
                · have hcc : R0 = 0 := h0
                  have hz1 : sr = 0 := h1
                  have hz2 : gr = 0 := h2
                  clear h0 h1 h2
                  have q1 : ¬ (0 < R0) := by omega
                  have FIN := Lib.hid (show wr.heap[w5.heap.size]? = some (wbO pk pv L0 R0 (szJ sl sr 2) (hgJ gl gr 2)) by have h := HWB.out; rw [show szJ sl sr 2 = 1 + sl by show 1 + sl + sr = _; omega, show hgJ gl gr 2 = 1 + gl by show topH gl gr = _; unfold topH; rw [if_neg (by have := (HLH.out.bd M9.out); omega)]]; exact h)
                  clear hcc hz1 hz2
                  go_wp2_with fail
                  go_roundw
                  case rel => exact ⟨2, by omega, by go_num, Lib.hid ⟨FIN.out, HFR.out⟩⟩
                  case measure => simp [intOf]
                · have HMS := Lib.hid h1; have HMG := Lib.hid h2; have H0 := Lib.hid h0
                  clear h0 h1 h2
                  obtain ⟨g0, hg0, hgB, hglt, hgc⟩ := N9.out.cells hm
                  subst hg0
                  have hbd := HL5.out
                  have hbd1 : 0 ≤ sl ∧ sl ≤ 1099511627776 ∧ 0 ≤ gl ∧ gl ≤ sl := ⟨hbd.1, hbd.2.1, hbd.2.2.1, hbd.2.2.2.1⟩
                  have hbe := HR5.out
                  have hbe1 : 0 ≤ sr ∧ sr ≤ 1099511627776 ∧ 0 ≤ gr ∧ gr ≤ sr := ⟨hbe.1, hbe.2.1, hbe.2.2.1, hbe.2.2.2.1⟩
                  have hpos : 1 ≤ gr := hbe.2.2.2.2.2 (by have := H0.out; omega)
                  clear hbd hbe
                  have hne : g0 ≠ w5.heap.size := by have := (N5.out.own.lt g0 rfl).2; omega
                  have hgl5 : g0 < wr.heap.size := by have := (N6.out.own.lt g0 rfl).2; have := HFR.out.size; omega
                  have D4 := Lib.hid (show (wr.drew).cell? ⟨g0, m * 6 + 4, none⟩ = some (.int .i64 sr) by have h := NW0.out wr HFR.out m hm 4 (.int .i64 sr) (by have := HMS.out; simp [cellsN, valsN, this]) g0 rfl; exact h)
                  have D5 := Lib.hid (show ((wr.drew.setCell ⟨w5.heap.size, 4, none⟩ (.int .i64 (1 + sl + sr))).drew).cell? ⟨g0, m * 6 + 5, none⟩ = some (.int .i64 gr) by have h := NW0.out wr HFR.out m hm 5 (.int .i64 gr) (by have := HMG.out; simp [cellsN, valsN, this]) g0 rfl; have e : ((wr.drew.setCell ⟨w5.heap.size, 4, none⟩ (.int .i64 (1 + sl + sr))).drew).cell? ⟨g0, m * 6 + 5, none⟩ = wr.cell? ⟨g0, m * 6 + 5, none⟩ := World.cell?_setCell_other _ _ _ _ (by intro e; exact hne (congrArg Addr.block e).symm); exact e.trans h)
                  have HWB4 := Lib.hid (show ((wr.drew.setCell ⟨w5.heap.size, 4, none⟩ (.int .i64 (1 + sl + sr))).drew).heap[w5.heap.size]? = some (wbO pk pv L0 R0 (1 + sl + sr) (1 + gl)) by have h := heap_setCell_same wr w5.heap.size 4 _ _ (.int .i64 (1 + sl + sr)) HWB.out; exact h)
                  have h0 := H0.out
                  have q1 : 0 < R0 := by omega
                  have wm0 : IntKind.i64.wrap (R0 - 1) = (m : Int) := by rw [h0]; exact (IntWalk.i64_in _ (by omega)).trans (by omega)
                  have wm1 : IntKind.i64.wrap (m : Int) = (m : Int) := IntWalk.i64_in _ (by omega)
                  have ws1 : IntKind.i64.wrap (1 + sl + sr) = 1 + sl + sr := IntWalk.i64_in _ (by omega)
                  have ws2 : IntKind.i64.wrap (1 + gr) = 1 + gr := IntWalk.i64_in _ (by omega)
                  have hm0 : (0 : Int) ≤ (m : Int) := by omega
                  have hm1 : (m : Int) < (ms.length : Int) := by omega
                  have hwlt : w5.heap.size < wr.heap.size := (Array.getElem?_eq_some_iff.1 HWB.out).1
                  have hfw := ck_free5 HWB.out 4
                  have hfw5 := ck_free5 HWB.out 5
                  clear h0
                  by_cases hmm : 1 + gl < 1 + gr
                  · have hmx : decide (1 + gl < 1 + gr) = true := decide_eq_true hmm
                    have hmx2 : 1 + gl < 1 + gr := hmm
                    have FIN := Lib.hid (show ((wr.setCell ⟨w5.heap.size, 4, none⟩ (.int .i64 (1 + sl + sr))).setCell ⟨w5.heap.size, 5, none⟩ (.int .i64 (1 + gr))).heap[w5.heap.size]? = some (wbO pk pv L0 R0 (szJ sl sr 2) (hgJ gl gr 2)) by have h := wb_set HWB.out (1 + sl + sr) (1 + gr); rw [show hgJ gl gr 2 = 1 + gr by show topH gl gr = _; unfold topH; rw [if_pos hmm]]; exact h)
                    have FRM := Lib.hid (HFR.out.trans (wb_frame wr w5.heap.size (.int .i64 (1 + sl + sr)) (.int .i64 (1 + gr))) fun _ _ h => h)
                    go_wp2_with fail
                    refine start_ (n := 11) (S := fun w' => w'.cell? ⟨w5.heap.size, 4, none⟩ = some (.int .i64 (1 + sl)) ∧ w'.cell? ⟨g0, m * 6 + 4, none⟩ = some (.int .i64 sr)) (ds := [10]) #[false, false, false, false, false, false, false, false, false, false, false] (by kernel_rfl) rfl rfl ⟨(cell_blk (i := 4) (w := wr.drew) HWB.out rfl), D4.out⟩ (fun hHeld => ?_)
                    refine pure_ (i := 0) (N := some 125) (v := ?_) (a' := ?_) #[true, false, false, false, false, false, false, false, false, false, false] rfl rfl (by kernel_rfl) (fun _ _ _ h => h) (Or.inl ⟨by rfl, ?_⟩) ?_ ?_
                    rotate_left
                    · intro w'
                      go_simp
                      with_reducible rfl
                    rotate_left
                    · simp only [Act.put, List.setIfInBounds_toArray, List.set_cons_zero, List.set_cons_succ, i64_w, i32_w]
                      rfl
                    refine pure_ (i := 2) (N := some 127) (v := ?_) (a' := ?_) #[true, false, true, false, false, false, false, false, false, false, false] rfl rfl (by kernel_rfl) (fun _ _ _ h => h) (Or.inl ⟨by rfl, ?_⟩) ?_ ?_
                    rotate_left
                    · intro w'
                      go_simp
                      with_reducible rfl
                    rotate_left
                    · simp only [Act.put, List.setIfInBounds_toArray, List.set_cons_zero, List.set_cons_succ, i64_w, i32_w]
                      rfl
                    refine pure_ (i := 3) (N := some 128) (v := ?_) (a' := ?_) #[true, false, true, true, false, false, false, false, false, false, false] rfl rfl (by kernel_rfl) (fun _ _ _ h => h) (Or.inl ⟨by rfl, ?_⟩) ?_ ?_
                    rotate_left
                    · intro w'
                      go_simp
                      with_reducible rfl
                    rotate_left
                    · simp only [Act.put, List.setIfInBounds_toArray, List.set_cons_zero, List.set_cons_succ, i64_w, i32_w]
                      rfl
                    refine pure_ (i := 4) (N := some 129) (v := ?_) (a' := ?_) #[true, false, true, true, true, false, false, false, false, false, false] rfl rfl (by kernel_rfl) (fun _ _ _ h => h) (Or.inl ⟨by rfl, ?_⟩) ?_ ?_
                    rotate_left
                    · intro w'
                      go_simp
                      with_reducible rfl
                    rotate_left
                    · simp only [Act.put, List.setIfInBounds_toArray, List.set_cons_zero, List.set_cons_succ, i64_w, i32_w]
                      rfl
                    refine pure_ (i := 5) (N := some 130) (v := ?_) (a' := ?_) #[true, false, true, true, true, true, false, false, false, false, false] rfl rfl (by kernel_rfl) (fun _ _ _ h => h) (Or.inl ⟨by rfl, ?_⟩) ?_ ?_
                    rotate_left
                    · intro w'
                      go_simp
                      with_reducible rfl
                    rotate_left
                    · simp only [Act.put, List.setIfInBounds_toArray, List.set_cons_zero, List.set_cons_succ, i64_w, i32_w]
                      rfl
                    refine pure_ (i := 6) (N := some 131) (v := ?_) (a' := ?_) #[true, false, true, true, true, true, true, false, false, false, false] rfl rfl (by kernel_rfl) (fun _ _ _ h => h) (Or.inl ⟨by rfl, ?_⟩) ?_ ?_
                    rotate_left
                    · intro w'
                      go_simp
                      with_reducible rfl
                    rotate_left
                    · simp only [Act.put, List.setIfInBounds_toArray, List.set_cons_zero, List.set_cons_succ, i64_w, i32_w]
                      rfl
                    refine take_ (i := 1) (N := some 126) (v := ?_) (a' := ?_) #[true, true, true, true, true, true, true, false, false, false, false] rfl rfl (by kernel_rfl) (fun _ _ _ h => h) (Or.inl ⟨by rfl, ?_⟩) hHeld ?_ ?_
                    rotate_left
                    · rintro w' ⟨s0, s1⟩
                      go_simp
                      with_reducible rfl
                    rotate_left
                    · simp only [Act.put, List.setIfInBounds_toArray, List.set_cons_zero, List.set_cons_succ, i64_w, i32_w]
                      rfl
                    refine take_ (i := 7) (N := some 132) (v := ?_) (a' := ?_) #[true, true, true, true, true, true, true, true, false, false, false] rfl rfl (by kernel_rfl) (fun _ _ _ h => h) (Or.inl ⟨by rfl, ?_⟩) hHeld ?_ ?_
                    rotate_left
                    · rintro w' ⟨s0, s1⟩
                      go_simp
                      with_reducible rfl
                    rotate_left
                    · simp only [Act.put, List.setIfInBounds_toArray, List.set_cons_zero, List.set_cons_succ, i64_w, i32_w]
                      rfl
                    refine pure_ (i := 8) (N := some 133) (v := ?_) (a' := ?_) #[true, true, true, true, true, true, true, true, true, false, false] rfl rfl (by kernel_rfl) (fun _ _ _ h => h) (Or.inl ⟨by rfl, ?_⟩) ?_ ?_
                    rotate_left
                    · intro w'
                      go_simp
                      with_reducible rfl
                    rotate_left
                    · simp only [Act.put, List.setIfInBounds_toArray, List.set_cons_zero, List.set_cons_succ, i64_w, i32_w]
                      rfl
                    refine pure_ (i := 9) (N := some 134) (v := ?_) (a' := ?_) #[true, true, true, true, true, true, true, true, true, true, false] rfl rfl (by kernel_rfl) (fun _ _ _ h => h) (Or.inl ⟨by rfl, ?_⟩) ?_ ?_
                    rotate_left
                    · intro w'
                      go_simp
                      with_reducible rfl
                    rotate_left
                    · simp only [Act.put, List.setIfInBounds_toArray, List.set_cons_zero, List.set_cons_succ, i64_w, i32_w]
                      rfl
                    refine last_ (i := 10) (N := none) #[true, true, true, true, true, true, true, true, true, true, true] rfl rfl (by kernel_rfl) (by decide) (fun K hK => ?_)
                    refine skip_ (w1 := ?_) (by rfl) rfl ?_ ?_
                    rotate_left
                    · go_simp
                      rfl
                    refine hK.out _ _ ?_
                    clear hK K
                    refine done_ (by kernel_rfl) ?_
                    go_wp2_with fail
                    refine start_ (n := 12) (S := fun w' => w'.cell? ⟨w5.heap.size, 5, none⟩ = some (.int .i64 (1 + gl)) ∧ w'.cell? ⟨g0, m * 6 + 5, none⟩ = some (.int .i64 gr)) (ds := [11]) #[false, false, false, false, false, false, false, false, false, false, false, false] (by kernel_rfl) rfl rfl ⟨(cell_blk (i := 5) (w := (wr.drew.setCell ⟨w5.heap.size, 4, none⟩ (.int .i64 (1 + sl + sr))).drew) HWB4.out rfl), D5.out⟩ (fun hHeld => ?_)
                    refine pure_ (i := 0) (N := some 135) (v := ?_) (a' := ?_) #[true, false, false, false, false, false, false, false, false, false, false, false] rfl rfl (by kernel_rfl) (fun _ _ _ h => h) (Or.inl ⟨by rfl, ?_⟩) ?_ ?_
                    rotate_left
                    · intro w'
                      go_simp
                      with_reducible rfl
                    rotate_left
                    · simp only [Act.put, List.setIfInBounds_toArray, List.set_cons_zero, List.set_cons_succ, i64_w, i32_w]
                      rfl
                    refine pure_ (i := 2) (N := some 137) (v := ?_) (a' := ?_) #[true, false, true, false, false, false, false, false, false, false, false, false] rfl rfl (by kernel_rfl) (fun _ _ _ h => h) (Or.inl ⟨by rfl, ?_⟩) ?_ ?_
                    rotate_left
                    · intro w'
                      go_simp
                      with_reducible rfl
                    rotate_left
                    · simp only [Act.put, List.setIfInBounds_toArray, List.set_cons_zero, List.set_cons_succ, i64_w, i32_w]
                      rfl
                    refine pure_ (i := 3) (N := some 138) (v := ?_) (a' := ?_) #[true, false, true, true, false, false, false, false, false, false, false, false] rfl rfl (by kernel_rfl) (fun _ _ _ h => h) (Or.inl ⟨by rfl, ?_⟩) ?_ ?_
                    rotate_left
                    · intro w'
                      go_simp
                      with_reducible rfl
                    rotate_left
                    · simp only [Act.put, List.setIfInBounds_toArray, List.set_cons_zero, List.set_cons_succ, i64_w, i32_w]
                      rfl
                    refine pure_ (i := 4) (N := some 139) (v := ?_) (a' := ?_) #[true, false, true, true, true, false, false, false, false, false, false, false] rfl rfl (by kernel_rfl) (fun _ _ _ h => h) (Or.inl ⟨by rfl, ?_⟩) ?_ ?_
                    rotate_left
                    · intro w'
                      go_simp
                      with_reducible rfl
                    rotate_left
                    · simp only [Act.put, List.setIfInBounds_toArray, List.set_cons_zero, List.set_cons_succ, i64_w, i32_w]
                      rfl
                    refine pure_ (i := 5) (N := some 140) (v := ?_) (a' := ?_) #[true, false, true, true, true, true, false, false, false, false, false, false] rfl rfl (by kernel_rfl) (fun _ _ _ h => h) (Or.inl ⟨by rfl, ?_⟩) ?_ ?_
                    rotate_left
                    · intro w'
                      go_simp
                      with_reducible rfl
                    rotate_left
                    · simp only [Act.put, List.setIfInBounds_toArray, List.set_cons_zero, List.set_cons_succ, i64_w, i32_w]
                      rfl
                    refine pure_ (i := 6) (N := some 141) (v := ?_) (a' := ?_) #[true, false, true, true, true, true, true, false, false, false, false, false] rfl rfl (by kernel_rfl) (fun _ _ _ h => h) (Or.inl ⟨by rfl, ?_⟩) ?_ ?_
                    rotate_left
                    · intro w'
                      go_simp
                      with_reducible rfl
                    rotate_left
                    · simp only [Act.put, List.setIfInBounds_toArray, List.set_cons_zero, List.set_cons_succ, i64_w, i32_w]
                      rfl
                    refine take_ (i := 1) (N := some 136) (v := ?_) (a' := ?_) #[true, true, true, true, true, true, true, false, false, false, false, false] rfl rfl (by kernel_rfl) (fun _ _ _ h => h) (Or.inl ⟨by rfl, ?_⟩) hHeld ?_ ?_
                    rotate_left
                    · rintro w' ⟨s0, s1⟩
                      go_simp
                      with_reducible rfl
                    rotate_left
                    · simp only [Act.put, List.setIfInBounds_toArray, List.set_cons_zero, List.set_cons_succ, i64_w, i32_w]
                      rfl
                    refine take_ (i := 7) (N := some 142) (v := ?_) (a' := ?_) #[true, true, true, true, true, true, true, true, false, false, false, false] rfl rfl (by kernel_rfl) (fun _ _ _ h => h) (Or.inl ⟨by rfl, ?_⟩) hHeld ?_ ?_
                    rotate_left
                    · rintro w' ⟨s0, s1⟩
                      go_simp
                      with_reducible rfl
                    rotate_left
                    · simp only [Act.put, List.setIfInBounds_toArray, List.set_cons_zero, List.set_cons_succ, i64_w, i32_w]
                      rfl
                    refine pure_ (i := 8) (N := some 143) (v := ?_) (a' := ?_) #[true, true, true, true, true, true, true, true, true, false, false, false] rfl rfl (by kernel_rfl) (fun _ _ _ h => h) (Or.inl ⟨by rfl, ?_⟩) ?_ ?_
                    rotate_left
                    · intro w'
                      go_simp
                      with_reducible rfl
                    rotate_left
                    · simp only [Act.put, List.setIfInBounds_toArray, List.set_cons_zero, List.set_cons_succ, i64_w, i32_w]
                      rfl
                    refine pure_ (i := 9) (N := some 144) (v := ?_) (a' := ?_) #[true, true, true, true, true, true, true, true, true, true, false, false] rfl rfl (by kernel_rfl) (fun _ _ _ h => h) (Or.inl ⟨by rfl, ?_⟩) ?_ ?_
                    rotate_left
                    · intro w'
                      go_simp
                      with_reducible rfl
                    rotate_left
                    · simp only [Act.put, List.setIfInBounds_toArray, List.set_cons_zero, List.set_cons_succ, i64_w, i32_w]
                      rfl
                    refine pure_ (i := 10) (N := some 145) (v := ?_) (a' := ?_) #[true, true, true, true, true, true, true, true, true, true, true, false] rfl rfl (by kernel_rfl) (fun _ _ _ h => h) (Or.inl ⟨by rfl, ?_⟩) ?_ ?_
                    rotate_left
                    · intro w'
                      go_simp
                      with_reducible rfl
                    rotate_left
                    · simp only [Act.put, List.setIfInBounds_toArray, List.set_cons_zero, List.set_cons_succ, i64_w, i32_w]
                      rfl
                    refine last_ (i := 11) (N := none) #[true, true, true, true, true, true, true, true, true, true, true, true] rfl rfl (by kernel_rfl) (by decide) (fun K hK => ?_)
                    refine skip_ (w1 := ?_) (by rfl) rfl ?_ ?_
                    rotate_left
                    · go_simp
                      rfl
                    refine hK.out _ _ ?_
                    clear hK K
                    refine done_ (by kernel_rfl) ?_
                    go_wp2_with fail
                    go_roundw
                    case rel => exact ⟨2, by omega, by go_num, Lib.hid ⟨FIN.out, Frame.drawn FRM.out rfl rfl rfl rfl⟩⟩
                    case measure => simp [intOf]
                  · have hmx : decide (1 + gl < 1 + gr) = false := decide_eq_false hmm
                    have hmx2 : ¬ (1 + gl < 1 + gr) := hmm
                    have FIN := Lib.hid (show ((wr.setCell ⟨w5.heap.size, 4, none⟩ (.int .i64 (1 + sl + sr))).setCell ⟨w5.heap.size, 5, none⟩ (.int .i64 (1 + gl))).heap[w5.heap.size]? = some (wbO pk pv L0 R0 (szJ sl sr 2) (hgJ gl gr 2)) by have h := wb_set HWB.out (1 + sl + sr) (1 + gl); rw [show hgJ gl gr 2 = 1 + gl by show topH gl gr = _; unfold topH; rw [if_neg hmm]]; exact h)
                    have FRM := Lib.hid (HFR.out.trans (wb_frame wr w5.heap.size (.int .i64 (1 + sl + sr)) (.int .i64 (1 + gl))) fun _ _ h => h)
                    go_wp2_with fail
                    refine start_ (n := 11) (S := fun w' => w'.cell? ⟨w5.heap.size, 4, none⟩ = some (.int .i64 (1 + sl)) ∧ w'.cell? ⟨g0, m * 6 + 4, none⟩ = some (.int .i64 sr)) (ds := [10]) #[false, false, false, false, false, false, false, false, false, false, false] (by kernel_rfl) rfl rfl ⟨(cell_blk (i := 4) (w := wr.drew) HWB.out rfl), D4.out⟩ (fun hHeld => ?_)
                    refine pure_ (i := 0) (N := some 125) (v := ?_) (a' := ?_) #[true, false, false, false, false, false, false, false, false, false, false] rfl rfl (by kernel_rfl) (fun _ _ _ h => h) (Or.inl ⟨by rfl, ?_⟩) ?_ ?_
                    rotate_left
                    · intro w'
                      go_simp
                      with_reducible rfl
                    rotate_left
                    · simp only [Act.put, List.setIfInBounds_toArray, List.set_cons_zero, List.set_cons_succ, i64_w, i32_w]
                      rfl
                    refine pure_ (i := 2) (N := some 127) (v := ?_) (a' := ?_) #[true, false, true, false, false, false, false, false, false, false, false] rfl rfl (by kernel_rfl) (fun _ _ _ h => h) (Or.inl ⟨by rfl, ?_⟩) ?_ ?_
                    rotate_left
                    · intro w'
                      go_simp
                      with_reducible rfl
                    rotate_left
                    · simp only [Act.put, List.setIfInBounds_toArray, List.set_cons_zero, List.set_cons_succ, i64_w, i32_w]
                      rfl
                    refine pure_ (i := 3) (N := some 128) (v := ?_) (a' := ?_) #[true, false, true, true, false, false, false, false, false, false, false] rfl rfl (by kernel_rfl) (fun _ _ _ h => h) (Or.inl ⟨by rfl, ?_⟩) ?_ ?_
                    rotate_left
                    · intro w'
                      go_simp
                      with_reducible rfl
                    rotate_left
                    · simp only [Act.put, List.setIfInBounds_toArray, List.set_cons_zero, List.set_cons_succ, i64_w, i32_w]
                      rfl
                    refine pure_ (i := 4) (N := some 129) (v := ?_) (a' := ?_) #[true, false, true, true, true, false, false, false, false, false, false] rfl rfl (by kernel_rfl) (fun _ _ _ h => h) (Or.inl ⟨by rfl, ?_⟩) ?_ ?_
                    rotate_left
                    · intro w'
                      go_simp
                      with_reducible rfl
                    rotate_left
                    · simp only [Act.put, List.setIfInBounds_toArray, List.set_cons_zero, List.set_cons_succ, i64_w, i32_w]
                      rfl
                    refine pure_ (i := 5) (N := some 130) (v := ?_) (a' := ?_) #[true, false, true, true, true, true, false, false, false, false, false] rfl rfl (by kernel_rfl) (fun _ _ _ h => h) (Or.inl ⟨by rfl, ?_⟩) ?_ ?_
                    rotate_left
                    · intro w'
                      go_simp
                      with_reducible rfl
                    rotate_left
                    · simp only [Act.put, List.setIfInBounds_toArray, List.set_cons_zero, List.set_cons_succ, i64_w, i32_w]
                      rfl
                    refine pure_ (i := 6) (N := some 131) (v := ?_) (a' := ?_) #[true, false, true, true, true, true, true, false, false, false, false] rfl rfl (by kernel_rfl) (fun _ _ _ h => h) (Or.inl ⟨by rfl, ?_⟩) ?_ ?_
                    rotate_left
                    · intro w'
                      go_simp
                      with_reducible rfl
                    rotate_left
                    · simp only [Act.put, List.setIfInBounds_toArray, List.set_cons_zero, List.set_cons_succ, i64_w, i32_w]
                      rfl
                    refine take_ (i := 1) (N := some 126) (v := ?_) (a' := ?_) #[true, true, true, true, true, true, true, false, false, false, false] rfl rfl (by kernel_rfl) (fun _ _ _ h => h) (Or.inl ⟨by rfl, ?_⟩) hHeld ?_ ?_
                    rotate_left
                    · rintro w' ⟨s0, s1⟩
                      go_simp
                      with_reducible rfl
                    rotate_left
                    · simp only [Act.put, List.setIfInBounds_toArray, List.set_cons_zero, List.set_cons_succ, i64_w, i32_w]
                      rfl
                    refine take_ (i := 7) (N := some 132) (v := ?_) (a' := ?_) #[true, true, true, true, true, true, true, true, false, false, false] rfl rfl (by kernel_rfl) (fun _ _ _ h => h) (Or.inl ⟨by rfl, ?_⟩) hHeld ?_ ?_
                    rotate_left
                    · rintro w' ⟨s0, s1⟩
                      go_simp
                      with_reducible rfl
                    rotate_left
                    · simp only [Act.put, List.setIfInBounds_toArray, List.set_cons_zero, List.set_cons_succ, i64_w, i32_w]
                      rfl
                    refine pure_ (i := 8) (N := some 133) (v := ?_) (a' := ?_) #[true, true, true, true, true, true, true, true, true, false, false] rfl rfl (by kernel_rfl) (fun _ _ _ h => h) (Or.inl ⟨by rfl, ?_⟩) ?_ ?_
                    rotate_left
                    · intro w'
                      go_simp
                      with_reducible rfl
                    rotate_left
                    · simp only [Act.put, List.setIfInBounds_toArray, List.set_cons_zero, List.set_cons_succ, i64_w, i32_w]
                      rfl
                    refine pure_ (i := 9) (N := some 134) (v := ?_) (a' := ?_) #[true, true, true, true, true, true, true, true, true, true, false] rfl rfl (by kernel_rfl) (fun _ _ _ h => h) (Or.inl ⟨by rfl, ?_⟩) ?_ ?_
                    rotate_left
                    · intro w'
                      go_simp
                      with_reducible rfl
                    rotate_left
                    · simp only [Act.put, List.setIfInBounds_toArray, List.set_cons_zero, List.set_cons_succ, i64_w, i32_w]
                      rfl
                    refine last_ (i := 10) (N := none) #[true, true, true, true, true, true, true, true, true, true, true] rfl rfl (by kernel_rfl) (by decide) (fun K hK => ?_)
                    refine skip_ (w1 := ?_) (by rfl) rfl ?_ ?_
                    rotate_left
                    · go_simp
                      rfl
                    refine hK.out _ _ ?_
                    clear hK K
                    refine done_ (by kernel_rfl) ?_
                    go_wp2_with fail
                    refine start_ (n := 12) (S := fun w' => w'.cell? ⟨w5.heap.size, 5, none⟩ = some (.int .i64 (1 + gl)) ∧ w'.cell? ⟨g0, m * 6 + 5, none⟩ = some (.int .i64 gr)) (ds := [11]) #[false, false, false, false, false, false, false, false, false, false, false, false] (by kernel_rfl) rfl rfl ⟨(cell_blk (i := 5) (w := (wr.drew.setCell ⟨w5.heap.size, 4, none⟩ (.int .i64 (1 + sl + sr))).drew) HWB4.out rfl), D5.out⟩ (fun hHeld => ?_)
                    refine pure_ (i := 0) (N := some 135) (v := ?_) (a' := ?_) #[true, false, false, false, false, false, false, false, false, false, false, false] rfl rfl (by kernel_rfl) (fun _ _ _ h => h) (Or.inl ⟨by rfl, ?_⟩) ?_ ?_
                    rotate_left
                    · intro w'
                      go_simp
                      with_reducible rfl
                    rotate_left
                    · simp only [Act.put, List.setIfInBounds_toArray, List.set_cons_zero, List.set_cons_succ, i64_w, i32_w]
                      rfl
                    refine pure_ (i := 2) (N := some 137) (v := ?_) (a' := ?_) #[true, false, true, false, false, false, false, false, false, false, false, false] rfl rfl (by kernel_rfl) (fun _ _ _ h => h) (Or.inl ⟨by rfl, ?_⟩) ?_ ?_
                    rotate_left
                    · intro w'
                      go_simp
                      with_reducible rfl
                    rotate_left
                    · simp only [Act.put, List.setIfInBounds_toArray, List.set_cons_zero, List.set_cons_succ, i64_w, i32_w]
                      rfl
                    refine pure_ (i := 3) (N := some 138) (v := ?_) (a' := ?_) #[true, false, true, true, false, false, false, false, false, false, false, false] rfl rfl (by kernel_rfl) (fun _ _ _ h => h) (Or.inl ⟨by rfl, ?_⟩) ?_ ?_
                    rotate_left
                    · intro w'
                      go_simp
                      with_reducible rfl
                    rotate_left
                    · simp only [Act.put, List.setIfInBounds_toArray, List.set_cons_zero, List.set_cons_succ, i64_w, i32_w]
                      rfl
                    refine pure_ (i := 4) (N := some 139) (v := ?_) (a' := ?_) #[true, false, true, true, true, false, false, false, false, false, false, false] rfl rfl (by kernel_rfl) (fun _ _ _ h => h) (Or.inl ⟨by rfl, ?_⟩) ?_ ?_
                    rotate_left
                    · intro w'
                      go_simp
                      with_reducible rfl
                    rotate_left
                    · simp only [Act.put, List.setIfInBounds_toArray, List.set_cons_zero, List.set_cons_succ, i64_w, i32_w]
                      rfl
                    refine pure_ (i := 5) (N := some 140) (v := ?_) (a' := ?_) #[true, false, true, true, true, true, false, false, false, false, false, false] rfl rfl (by kernel_rfl) (fun _ _ _ h => h) (Or.inl ⟨by rfl, ?_⟩) ?_ ?_
                    rotate_left
                    · intro w'
                      go_simp
                      with_reducible rfl
                    rotate_left
                    · simp only [Act.put, List.setIfInBounds_toArray, List.set_cons_zero, List.set_cons_succ, i64_w, i32_w]
                      rfl
                    refine pure_ (i := 6) (N := some 141) (v := ?_) (a' := ?_) #[true, false, true, true, true, true, true, false, false, false, false, false] rfl rfl (by kernel_rfl) (fun _ _ _ h => h) (Or.inl ⟨by rfl, ?_⟩) ?_ ?_
                    rotate_left
                    · intro w'
                      go_simp
                      with_reducible rfl
                    rotate_left
                    · simp only [Act.put, List.setIfInBounds_toArray, List.set_cons_zero, List.set_cons_succ, i64_w, i32_w]
                      rfl
                    refine take_ (i := 1) (N := some 136) (v := ?_) (a' := ?_) #[true, true, true, true, true, true, true, false, false, false, false, false] rfl rfl (by kernel_rfl) (fun _ _ _ h => h) (Or.inl ⟨by rfl, ?_⟩) hHeld ?_ ?_
                    rotate_left
                    · rintro w' ⟨s0, s1⟩
                      go_simp
                      with_reducible rfl
                    rotate_left
                    · simp only [Act.put, List.setIfInBounds_toArray, List.set_cons_zero, List.set_cons_succ, i64_w, i32_w]
                      rfl
                    refine take_ (i := 7) (N := some 142) (v := ?_) (a' := ?_) #[true, true, true, true, true, true, true, true, false, false, false, false] rfl rfl (by kernel_rfl) (fun _ _ _ h => h) (Or.inl ⟨by rfl, ?_⟩) hHeld ?_ ?_
                    rotate_left
                    · rintro w' ⟨s0, s1⟩
                      go_simp
                      with_reducible rfl
                    rotate_left
                    · simp only [Act.put, List.setIfInBounds_toArray, List.set_cons_zero, List.set_cons_succ, i64_w, i32_w]
                      rfl
                    refine pure_ (i := 8) (N := some 143) (v := ?_) (a' := ?_) #[true, true, true, true, true, true, true, true, true, false, false, false] rfl rfl (by kernel_rfl) (fun _ _ _ h => h) (Or.inl ⟨by rfl, ?_⟩) ?_ ?_
                    rotate_left
                    · intro w'
                      go_simp
                      with_reducible rfl
                    rotate_left
                    · simp only [Act.put, List.setIfInBounds_toArray, List.set_cons_zero, List.set_cons_succ, i64_w, i32_w]
                      rfl
                    refine pure_ (i := 9) (N := some 144) (v := ?_) (a' := ?_) #[true, true, true, true, true, true, true, true, true, true, false, false] rfl rfl (by kernel_rfl) (fun _ _ _ h => h) (Or.inl ⟨by rfl, ?_⟩) ?_ ?_
                    rotate_left
                    · intro w'
                      go_simp
                      with_reducible rfl
                    rotate_left
                    · simp only [Act.put, List.setIfInBounds_toArray, List.set_cons_zero, List.set_cons_succ, i64_w, i32_w]
                      rfl
                    refine pure_ (i := 10) (N := some 145) (v := ?_) (a' := ?_) #[true, true, true, true, true, true, true, true, true, true, true, false] rfl rfl (by kernel_rfl) (fun _ _ _ h => h) (Or.inl ⟨by rfl, ?_⟩) ?_ ?_
                    rotate_left
                    · intro w'
                      go_simp
                      with_reducible rfl
                    rotate_left
                    · simp only [Act.put, List.setIfInBounds_toArray, List.set_cons_zero, List.set_cons_succ, i64_w, i32_w]
                      rfl
                    refine last_ (i := 11) (N := none) #[true, true, true, true, true, true, true, true, true, true, true, true] rfl rfl (by kernel_rfl) (by decide) (fun K hK => ?_)
                    refine skip_ (w1 := ?_) (by rfl) rfl ?_ ?_
                    rotate_left
                    · go_simp
                      rfl
                    refine hK.out _ _ ?_
                    clear hK K
                    refine done_ (by kernel_rfl) ?_
                    go_wp2_with fail
                    go_roundw
                    case rel => exact ⟨2, by omega, by go_num, Lib.hid ⟨FIN.out, Frame.drawn FRM.out rfl rfl rfl rfl⟩⟩
                    case measure => simp [intOf]
            · have hw := HW.out.1
              have HWB := Lib.hid (show wr.heap[w5.heap.size]? = some (wbO pk pv L0 R0 (1 + sl + sr) (topH gl gr)) from hw)
              have HFR := Lib.hid HW.out.2; clear hw HW
              have hF5 : ¬ F5 w5.heap.size := fun hf => by have := S5.out.arena.lt _ hf; omega
              have S7 := Lib.hid (S6.out.only HFR.out hF5 S5.out.size)
              have N7 := Lib.hid (N6.out.only HFR.out (fun e => by have := (N5.out.own.lt _ e).2; omega))
              have hwlt : w5.heap.size < wr.heap.size := (Array.getElem?_eq_some_iff.1 HWB.out).1
              have z0 := cell_blk (i := 0) HWB.out rfl
              have z1 := cell_blk (i := 1) HWB.out rfl
              have z2 := cell_blk (i := 2) HWB.out rfl
              have z3 := cell_blk (i := 3) HWB.out rfl
              have z4 := cell_blk (i := 4) HWB.out rfl
              have z5 := cell_blk (i := 5) HWB.out rfl
              clear hF5
              by_cases hbig : 1099511627776 < 1 + sl + sr
              · go_wp2_with (go_at_call 7; refine (awake3_any W _ S7.out.below).mono ?_; rintro e wz ⟨rfl, bz⟩)
                go_ret
                exact ⟨rfl, bz⟩
              · have hml2 : ms.length ≤ 100 := by omega
                have MK6 := Lib.hid (MK5.out (by omega))
                have qn : (((ms.length : Int) + 1) != ((ms.length : Int) + 1)) = false := by simp
                have N20 := Lib.hid (N7.out.alloc (.cells #[.int .i64 pk, .int .i64 pv, .int .i64 (L0), .int .i64 (R0), .int .i64 (1 + sl + sr), .int .i64 (topH gl gr)] 36))
                have G20 := Lib.hid (show (wr.alloc (.cells #[.int .i64 pk, .int .i64 pv, .int .i64 (L0), .int .i64 (R0), .int .i64 (1 + sl + sr), .int .i64 (topH gl gr)] 36)).heap[wr.heap.size]? = some (.cells (cellsN ⟨pk, pv, L0, R0, 1 + sl + sr, topH gl gr⟩).toArray 36 (0, 0)) from heap_alloc_new wr (.cells #[.int .i64 pk, .int .i64 pv, .int .i64 (L0), .int .i64 (R0), .int .i64 (1 + sl + sr), .int .i64 (topH gl gr)] 36))
                have S20 := Lib.hid (S7.out.alloc (.cells #[.int .i64 pk, .int .i64 pv, .int .i64 (L0), .int .i64 (R0), .int .i64 (1 + sl + sr), .int .i64 (topH gl gr)] 36))
                have wn : IntKind.i64.wrap ((ms.length : Int) + 1) = (ms.length : Int) + 1 := IntWalk.i64_in _ (by omega)
                have hsb := S2.out.size
                go_wp2_with (at_builtin; refine wp_app1N (y := ⟨pk, pv, L0, R0, 1 + sl + sr, topH gl gr⟩) rfl (.tmp 151) (.tmp 153) rfl rfl rfl N20.out G20.out (by omega) ?_; intro v21 w21 n21 g21 l21; have N21 := Lib.hid n21; have S21 := Lib.hid (S20.out.apart g21 (fun b hb => ⟨O5.out b hb, by have := (N20.out.own.lt b hb).1; omega⟩)); have O21 := Lib.hid (show ∀ b, v21.ownBlock = some b → ¬ F5 b from fun b hb hf => (l21 b hb).elim (fun h => O5.out b h hf) (fun h => by have := S20.out.arena.lt b hf; omega)); clear n21 g21 l21)
                go_roundw
                case rel => exact ⟨k + 1, by omega, by go_num, ms ++ [⟨pk, pv, L0, R0, 1 + sl + sr, topH gl gr⟩], A5, F5, by rw [List.length_append]; simp; omega, Lib.hid ⟨S21.out, MK6.out, N21.out, O21.out⟩⟩
                case measure => simp [intOf]; omega
        · have qf : (r : Int) ≤ (ms.length : Int) := by omega
          have hlen9 : (ms.length : Int) ≤ (r : Int) := by have h1 := S9.out.fits; have h2 := M9.out.len; have h3 := M9.out.room; omega
          as_aux_lemma =>
            have cc := nmake_any S4.out.arena pk pv L0 R0
            rw [M9.out.full HLH.out HRH.out pk pv (by omega)] at cc
            have CC := Lib.hid cc; clear cc
            have y0 := cell_blk (i := 0) X4.out rfl
            have y1 := cell_blk (i := 1) X4.out rfl
            have y2 := cell_blk (i := 2) X4.out rfl
            have y3 := cell_blk (i := 3) X4.out rfl
            go_wp2_with fail
            refine CC.out.mono ?_
            rintro e w5 ⟨rfl, m5⟩
            clear CC y0 y1 y2 y3
            obtain ⟨F5, o5, g5⟩ := Made.out m5
            have hbx : ¬ F wo.heap.size := fun hf => by have := S9.out.arena.lt _ hf; omega
            have X5 := Lib.hid ((g5.1.block wo.heap.size (Array.getElem?_eq_some_iff.1 X4.out).1 hbx).trans X4.out)
            have S5 := Lib.hid (S4.out.grow g5 o5)
            have N5 := Lib.hid (N4.out.grow g5 O9.out)
            have O5 := Lib.hid (fun b hb hf => (g5.2 b hf).elim (O9.out b hb) (fun h => by have := (N4.out.own.lt b hb).2; omega) : ∀ b, Value.ownBlock (.slice adm ms.length cm) = some b → ¬ F5 b)
            clear m5 o5 g5 hbx
            have x0 := cell_blk (i := 0) X5.out rfl
            have x1 := cell_blk (i := 1) X5.out rfl
            have x2 := cell_blk (i := 2) X5.out rfl
            have x3 := cell_blk (i := 3) X5.out rfl
            have hlt5 : wo.heap.size < w5.heap.size := (Array.getElem?_eq_some_iff.1 X5.out).1
            go_wp2_with fail
            go_roundw
            case rel => exact ⟨k + 1, by omega, by go_num, ms, A, F5, by omega, Lib.hid ⟨S5.out, M9.out, N5.out, O5.out⟩⟩
            case measure => simp [intOf]; omega
    · as_aux_lemma =>
        have hkl : k = l.length := by omega
        subst hkl
        have hml2 : ms.length ≤ 100 := by omega
        clear hlt hk hml
        go_wp2_with fail
        go_loopw [166] (fun i wr => ∃ j : Nat, j ≤ ms.length ∧ i = .int .i64 j ∧ Hid (Below wo.heap.size wo wr)) (fun i _ => ms.length - (intOf i).toNat)
        case atStart => exact ⟨0, Nat.zero_le _, rfl, Lib.hid (Below.refl _ _)⟩
        case round =>
          obtain ⟨j, hj, rfl, HB⟩ := hrel
          by_cases hjl : j < ms.length
          · obtain ⟨g, hg, hgB, hglt, hgc⟩ := N9.out.cells hjl
            subst hg
            have hz := HB.out.size
            have CW := fun i v (h : (cellsN ms[j])[i]? = some v) => (HB.out.cell (p := ⟨g, j * 6 + i, none⟩) hglt).trans (hgc i v h)
            have d0 : wr.cell? ⟨g, j * 6, none⟩ = some (.int .i64 (ms[j]).key) := CW 0 _ rfl
            have d1 : wr.cell? ⟨g, j * 6 + 1, none⟩ = some (.int .i64 (ms[j]).val) := CW 1 _ rfl
            have d2 : wr.cell? ⟨g, j * 6 + 2, none⟩ = some (.int .i64 (ms[j]).left) := CW 2 _ rfl
            have d3 : wr.cell? ⟨g, j * 6 + 3, none⟩ = some (.int .i64 (ms[j]).right) := CW 3 _ rfl
            have d4 : wr.cell? ⟨g, j * 6 + 4, none⟩ = some (.int .i64 (ms[j]).size) := CW 4 _ rfl
            have d5 : wr.cell? ⟨g, j * 6 + 5, none⟩ = some (.int .i64 (ms[j]).high) := CW 5 _ rfl
            clear CW hgc
            obtain ⟨hy1, hy2⟩ := M9.out.yes hjl
            have hg1 := get_any ((S9.out.later HB.out).alloc (.cells (cellsN ms[j]).toArray 36)).arena ((j : Int) + 1)
            rw [hy1, hy2] at hg1
            have hgw : g < wr.heap.size := by omega
            clear hy1 hy2
            generalize ms[j] = nd at d0 d1 d2 d3 d4 d5 hg1
            obtain ⟨nk, nv, nl, nr, ns, ng⟩ := nd
            simp only [] at d0 d1 d2 d3 d4 d5 hg1
            have G1 := Lib.hid (show Calls Try.prog 10 #[.pointer (some ⟨W.heap.size, 0, none⟩), .int .i64 ((j : Int) + 1)] (wr.alloc (.cells #[.int .i64 nk, .int .i64 nv, .int .i64 nl, .int .i64 nr, .int .i64 ns, .int .i64 ng] 36)) (fun e w' => e = .returned (.tuple #[.agg #[.int .i64 nk, .int .i64 nv, .int .i64 nl, .int .i64 nr, .int .i64 ns, .int .i64 ng], .bool true]) ∧ Below (wr.alloc (.cells #[.int .i64 nk, .int .i64 nv, .int .i64 nl, .int .i64 nr, .int .i64 ns, .int .i64 ng] 36)).heap.size (wr.alloc (.cells #[.int .i64 nk, .int .i64 nv, .int .i64 nl, .int .i64 nr, .int .i64 ns, .int .i64 ng] 36)) w') from hg1)
            clear hg1
            have wj : IntKind.i64.wrap ((j : Int) + 1) = (j : Int) + 1 := IntWalk.i64_in _ (by omega)
            go_wp2_with fail
            refine G1.out.mono ?_
            rintro e w5 ⟨rfl, b5⟩
            have z5 := b5.size
            simp at z5
            have T16x := Lib.hid ((b5.block wr.heap.size (by simp)).trans (heap_alloc_new wr (.cells #[.int .i64 nk, .int .i64 nv, .int .i64 nl, .int .i64 nr, .int .i64 ns, .int .i64 ng] 36)))
            have T17 := Lib.hid (heap_alloc_new w5 (.cells #[.int .i64 nk, .int .i64 nv, .int .i64 nl, .int .i64 nr, .int .i64 ns, .int .i64 ng] 36))
            have T16 := Lib.hid ((((Below.refl w5.heap.size w5).alloc (Nat.le_refl _) (.cells #[.int .i64 nk, .int .i64 nv, .int .i64 nl, .int .i64 nr, .int .i64 ns, .int .i64 ng] 36)).block wr.heap.size (by omega)).trans T16x.out)
            have BD := Lib.hid (show Below wr.heap.size wr (w5.alloc (.cells #[.int .i64 nk, .int .i64 nv, .int .i64 nl, .int .i64 nr, .int .i64 ns, .int .i64 ng] 36)).drew from ((((Below.refl wr.heap.size wr).alloc (Nat.le_refl _) (.cells #[.int .i64 nk, .int .i64 nv, .int .i64 nl, .int .i64 nr, .int .i64 ns, .int .i64 ng] 36)).trans (b5.mono (by simp))).alloc (by omega) (.cells #[.int .i64 nk, .int .i64 nv, .int .i64 nl, .int .i64 nr, .int .i64 ns, .int .i64 ng] 36)).drew)
            clear b5 d0 d1 d2 d3 d4 d5 T16x
            have e0 := beq_self_eq_true nk
            have e1 := beq_self_eq_true nv
            have e2 := beq_self_eq_true nl
            have e3 := beq_self_eq_true nr
            have e4 := beq_self_eq_true ns
            have e5 := beq_self_eq_true ng
            by_cases hl0 : nl = 0
            · by_cases hr0 : nr = 0
              · have cl := fun w' => leaf_any nk nv nl nr ns ng w'
                rw [show (decide (nl = 0) && decide (nr = 0)) = true by simp [hl0, hr0]] at cl
                have CL := Lib.hid cl; clear cl
                have ch := fun w' => holds_any nk nv nl nr ns ng nk w'
                rw [beq_self_eq_true] at ch
                have CH := Lib.hid ch; clear ch
                have ql : (nl == 0) = true := beq_iff_eq.2 hl0
                have qr : (nr == 0) = true := beq_iff_eq.2 hr0
                clear hr0
                clear hl0
                go_wp2_with fail
                refine start_ (n := 28) (S := fun w' => w'.cell? ⟨w5.heap.size, 0, none⟩ = some (.int .i64 nk) ∧ w'.cell? ⟨w5.heap.size, 1, none⟩ = some (.int .i64 nv) ∧ w'.cell? ⟨w5.heap.size, 2, none⟩ = some (.int .i64 nl) ∧ w'.cell? ⟨w5.heap.size, 3, none⟩ = some (.int .i64 nr) ∧ w'.cell? ⟨w5.heap.size, 4, none⟩ = some (.int .i64 ns) ∧ w'.cell? ⟨w5.heap.size, 5, none⟩ = some (.int .i64 ng) ∧ w'.cell? ⟨wr.heap.size, 0, none⟩ = some (.int .i64 nk) ∧ w'.cell? ⟨wr.heap.size, 1, none⟩ = some (.int .i64 nv) ∧ w'.cell? ⟨wr.heap.size, 2, none⟩ = some (.int .i64 nl) ∧ w'.cell? ⟨wr.heap.size, 3, none⟩ = some (.int .i64 nr) ∧ w'.cell? ⟨wr.heap.size, 4, none⟩ = some (.int .i64 ns) ∧ w'.cell? ⟨wr.heap.size, 5, none⟩ = some (.int .i64 ng)) (ds := []) #[false, false, false, false, false, false, false, false, false, false, false, false, false, false, false, false, false, false, false, false, false, false, false, false, false, false, false, false] (by kernel_rfl) rfl rfl ⟨(cell_blk (i := 0) (w := (w5.alloc (.cells #[.int .i64 nk, .int .i64 nv, .int .i64 nl, .int .i64 nr, .int .i64 ns, .int .i64 ng] 36)).drew) T17.out rfl), (cell_blk (i := 1) (w := (w5.alloc (.cells #[.int .i64 nk, .int .i64 nv, .int .i64 nl, .int .i64 nr, .int .i64 ns, .int .i64 ng] 36)).drew) T17.out rfl), (cell_blk (i := 2) (w := (w5.alloc (.cells #[.int .i64 nk, .int .i64 nv, .int .i64 nl, .int .i64 nr, .int .i64 ns, .int .i64 ng] 36)).drew) T17.out rfl), (cell_blk (i := 3) (w := (w5.alloc (.cells #[.int .i64 nk, .int .i64 nv, .int .i64 nl, .int .i64 nr, .int .i64 ns, .int .i64 ng] 36)).drew) T17.out rfl), (cell_blk (i := 4) (w := (w5.alloc (.cells #[.int .i64 nk, .int .i64 nv, .int .i64 nl, .int .i64 nr, .int .i64 ns, .int .i64 ng] 36)).drew) T17.out rfl), (cell_blk (i := 5) (w := (w5.alloc (.cells #[.int .i64 nk, .int .i64 nv, .int .i64 nl, .int .i64 nr, .int .i64 ns, .int .i64 ng] 36)).drew) T17.out rfl), (cell_blk (i := 0) (w := (w5.alloc (.cells #[.int .i64 nk, .int .i64 nv, .int .i64 nl, .int .i64 nr, .int .i64 ns, .int .i64 ng] 36)).drew) T16.out rfl), (cell_blk (i := 1) (w := (w5.alloc (.cells #[.int .i64 nk, .int .i64 nv, .int .i64 nl, .int .i64 nr, .int .i64 ns, .int .i64 ng] 36)).drew) T16.out rfl), (cell_blk (i := 2) (w := (w5.alloc (.cells #[.int .i64 nk, .int .i64 nv, .int .i64 nl, .int .i64 nr, .int .i64 ns, .int .i64 ng] 36)).drew) T16.out rfl), (cell_blk (i := 3) (w := (w5.alloc (.cells #[.int .i64 nk, .int .i64 nv, .int .i64 nl, .int .i64 nr, .int .i64 ns, .int .i64 ng] 36)).drew) T16.out rfl), (cell_blk (i := 4) (w := (w5.alloc (.cells #[.int .i64 nk, .int .i64 nv, .int .i64 nl, .int .i64 nr, .int .i64 ns, .int .i64 ng] 36)).drew) T16.out rfl), (cell_blk (i := 5) (w := (w5.alloc (.cells #[.int .i64 nk, .int .i64 nv, .int .i64 nl, .int .i64 nr, .int .i64 ns, .int .i64 ng] 36)).drew) T16.out rfl)⟩ (fun hHeld => ?_)
                refine pure_ (i := 0) (N := some 178) (v := ?_) (a' := ?_) #[true, false, false, false, false, false, false, false, false, false, false, false, false, false, false, false, false, false, false, false, false, false, false, false, false, false, false, false] rfl rfl (by kernel_rfl) (fun _ _ _ h => h) (Or.inl ⟨by rfl, ?_⟩) ?_ ?_
                rotate_left
                · intro w'
                  go_simp
                  with_reducible rfl
                rotate_left
                · simp only [Act.put, List.setIfInBounds_toArray, List.set_cons_zero, List.set_cons_succ, i64_w, i32_w]
                  rfl
                refine pure_ (i := 1) (N := some 179) (v := ?_) (a' := ?_) #[true, true, false, false, false, false, false, false, false, false, false, false, false, false, false, false, false, false, false, false, false, false, false, false, false, false, false, false] rfl rfl (by kernel_rfl) (fun _ _ _ h => h) (Or.inl ⟨by rfl, ?_⟩) ?_ ?_
                rotate_left
                · intro w'
                  go_simp
                  with_reducible rfl
                rotate_left
                · simp only [Act.put, List.setIfInBounds_toArray, List.set_cons_zero, List.set_cons_succ, i64_w, i32_w]
                  rfl
                refine pure_ (i := 2) (N := some 180) (v := ?_) (a' := ?_) #[true, true, true, false, false, false, false, false, false, false, false, false, false, false, false, false, false, false, false, false, false, false, false, false, false, false, false, false] rfl rfl (by kernel_rfl) (fun _ _ _ h => h) (Or.inl ⟨by rfl, ?_⟩) ?_ ?_
                rotate_left
                · intro w'
                  go_simp
                  with_reducible rfl
                rotate_left
                · simp only [Act.put, List.setIfInBounds_toArray, List.set_cons_zero, List.set_cons_succ, i64_w, i32_w]
                  rfl
                refine take_ (i := 3) (N := some 181) (v := ?_) (a' := ?_) #[true, true, true, true, false, false, false, false, false, false, false, false, false, false, false, false, false, false, false, false, false, false, false, false, false, false, false, false] rfl rfl (by kernel_rfl) (fun _ _ _ h => h) (Or.inl ⟨by rfl, ?_⟩) hHeld ?_ ?_
                rotate_left
                · rintro w' ⟨s0, s1, s2, s3, s4, s5, s6, s7, s8, s9, s10, s11⟩
                  go_simp
                  with_reducible rfl
                rotate_left
                · simp only [Act.put, List.setIfInBounds_toArray, List.set_cons_zero, List.set_cons_succ, i64_w, i32_w]
                  rfl
                refine take_ (i := 4) (N := some 182) (v := ?_) (a' := ?_) #[true, true, true, true, true, false, false, false, false, false, false, false, false, false, false, false, false, false, false, false, false, false, false, false, false, false, false, false] rfl rfl (by kernel_rfl) (fun _ _ _ h => h) (Or.inl ⟨by rfl, ?_⟩) hHeld ?_ ?_
                rotate_left
                · rintro w' ⟨s0, s1, s2, s3, s4, s5, s6, s7, s8, s9, s10, s11⟩
                  go_simp
                  with_reducible rfl
                rotate_left
                · simp only [Act.put, List.setIfInBounds_toArray, List.set_cons_zero, List.set_cons_succ, i64_w, i32_w]
                  rfl
                refine pure_ (i := 5) (N := some 183) (v := ?_) (a' := ?_) #[true, true, true, true, true, true, false, false, false, false, false, false, false, false, false, false, false, false, false, false, false, false, false, false, false, false, false, false] rfl rfl (by kernel_rfl) (fun _ _ _ h => h) (Or.inl ⟨by rfl, ?_⟩) ?_ ?_
                rotate_left
                · intro w'
                  go_simp
                  with_reducible rfl
                rotate_left
                · simp only [Act.put, List.setIfInBounds_toArray, List.set_cons_zero, List.set_cons_succ, i64_w, i32_w]
                  rfl
                refine pure_ (i := 6) (N := some 184) (v := ?_) (a' := ?_) #[true, true, true, true, true, true, true, false, false, false, false, false, false, false, false, false, false, false, false, false, false, false, false, false, false, false, false, false] rfl rfl (by kernel_rfl) (fun _ _ _ h => h) (Or.inl ⟨by rfl, ?_⟩) ?_ ?_
                rotate_left
                · intro w'
                  go_simp
                  with_reducible rfl
                rotate_left
                · simp only [Act.put, List.setIfInBounds_toArray, List.set_cons_zero, List.set_cons_succ, i64_w, i32_w]
                  rfl
                refine pure_ (i := 7) (N := some 185) (v := ?_) (a' := ?_) #[true, true, true, true, true, true, true, true, false, false, false, false, false, false, false, false, false, false, false, false, false, false, false, false, false, false, false, false] rfl rfl (by kernel_rfl) (fun _ _ _ h => h) (Or.inl ⟨by rfl, ?_⟩) ?_ ?_
                rotate_left
                · intro w'
                  go_simp
                  with_reducible rfl
                rotate_left
                · simp only [Act.put, List.setIfInBounds_toArray, List.set_cons_zero, List.set_cons_succ, i64_w, i32_w]
                  rfl
                refine pure_ (i := 10) (N := some 188) (v := ?_) (a' := ?_) #[true, true, true, true, true, true, true, true, false, false, true, false, false, false, false, false, false, false, false, false, false, false, false, false, false, false, false, false] rfl rfl (by kernel_rfl) (fun _ _ _ h => h) (Or.inl ⟨by rfl, ?_⟩) ?_ ?_
                rotate_left
                · intro w'
                  go_simp
                  with_reducible rfl
                rotate_left
                · simp only [Act.put, List.setIfInBounds_toArray, List.set_cons_zero, List.set_cons_succ, i64_w, i32_w]
                  rfl
                refine take_ (i := 8) (N := some 186) (v := ?_) (a' := ?_) #[true, true, true, true, true, true, true, true, true, false, true, false, false, false, false, false, false, false, false, false, false, false, false, false, false, false, false, false] rfl rfl (by kernel_rfl) (fun _ _ _ h => h) (Or.inl ⟨by rfl, ?_⟩) hHeld ?_ ?_
                rotate_left
                · rintro w' ⟨s0, s1, s2, s3, s4, s5, s6, s7, s8, s9, s10, s11⟩
                  go_simp
                  with_reducible rfl
                rotate_left
                · simp only [Act.put, List.setIfInBounds_toArray, List.set_cons_zero, List.set_cons_succ, i64_w, i32_w]
                  rfl
                refine take_ (i := 11) (N := some 189) (v := ?_) (a' := ?_) #[true, true, true, true, true, true, true, true, true, false, true, true, false, false, false, false, false, false, false, false, false, false, false, false, false, false, false, false] rfl rfl (by kernel_rfl) (fun _ _ _ h => h) (Or.inl ⟨by rfl, ?_⟩) hHeld ?_ ?_
                rotate_left
                · rintro w' ⟨s0, s1, s2, s3, s4, s5, s6, s7, s8, s9, s10, s11⟩
                  go_simp
                  with_reducible rfl
                rotate_left
                · simp only [Act.put, List.setIfInBounds_toArray, List.set_cons_zero, List.set_cons_succ, i64_w, i32_w]
                  rfl
                refine pure_ (i := 12) (N := some 190) (v := ?_) (a' := ?_) #[true, true, true, true, true, true, true, true, true, false, true, true, true, false, false, false, false, false, false, false, false, false, false, false, false, false, false, false] rfl rfl (by kernel_rfl) (fun _ _ _ h => h) (Or.inl ⟨by rfl, ?_⟩) ?_ ?_
                rotate_left
                · intro w'
                  go_simp
                  with_reducible rfl
                rotate_left
                · simp only [Act.put, List.setIfInBounds_toArray, List.set_cons_zero, List.set_cons_succ, i64_w, i32_w]
                  rfl
                refine one_ (i := 9) (N := some 187) #[true, true, true, true, true, true, true, true, true, true, true, true, true, false, false, false, false, false, false, false, false, false, false, false, false, false, false, false] rfl rfl (by kernel_rfl) (by decide) (fun K hK => ?_)
                refine goes_ Try.func11 (by kernel_rfl) rfl #[.agg #[.int .i64 nk, .int .i64 nv, .int .i64 nl, .int .i64 nr, .int .i64 ns, .int .i64 ng]] (by rfl) rfl rfl (by simp only [List.map_toArray, List.map_cons, List.map_nil]; rfl) ?_
                with_reducible refine (CL.out _).mono ?_
                rintro e w6 ⟨rfl, b6⟩
                refine ⟨_, rfl, ?_⟩
                have z6 := b6.size
                try simp at z6
                have B6 := Lib.hid (BD.out.trans (b6.mono BD.out.size))
                refine hK.out _ _ ⟨((b6.cell (by first | omega | (simp; done) | (simp; omega))).trans hHeld.1), ((b6.cell (by first | omega | (simp; done) | (simp; omega))).trans hHeld.2.1), ((b6.cell (by first | omega | (simp; done) | (simp; omega))).trans hHeld.2.2.1), ((b6.cell (by first | omega | (simp; done) | (simp; omega))).trans hHeld.2.2.2.1), ((b6.cell (by first | omega | (simp; done) | (simp; omega))).trans hHeld.2.2.2.2.1), ((b6.cell (by first | omega | (simp; done) | (simp; omega))).trans hHeld.2.2.2.2.2.1), ((b6.cell (by first | omega | (simp; done) | (simp; omega))).trans hHeld.2.2.2.2.2.2.1), ((b6.cell (by first | omega | (simp; done) | (simp; omega))).trans hHeld.2.2.2.2.2.2.2.1), ((b6.cell (by first | omega | (simp; done) | (simp; omega))).trans hHeld.2.2.2.2.2.2.2.2.1), ((b6.cell (by first | omega | (simp; done) | (simp; omega))).trans hHeld.2.2.2.2.2.2.2.2.2.1), ((b6.cell (by first | omega | (simp; done) | (simp; omega))).trans hHeld.2.2.2.2.2.2.2.2.2.2.1), ((b6.cell (by first | omega | (simp; done) | (simp; omega))).trans hHeld.2.2.2.2.2.2.2.2.2.2.2)⟩ (fun hHeld => ?_)
                clear hK K
                refine norm_ (a' := ?_) ?_ ?_
                rotate_left
                · show Act.put _ (some 187) _ = _
                  simp only [Act.put, List.setIfInBounds_toArray, List.set_cons_zero, List.set_cons_succ, i64_w, i32_w]
                  rfl
                refine pure_ (i := 13) (N := some 191) (v := ?_) (a' := ?_) #[true, true, true, true, true, true, true, true, true, true, true, true, true, true, false, false, false, false, false, false, false, false, false, false, false, false, false, false] rfl rfl (by kernel_rfl) (fun _ _ _ h => h) (Or.inl ⟨by rfl, ?_⟩) ?_ ?_
                rotate_left
                · intro w'
                  go_simp
                  with_reducible rfl
                rotate_left
                · simp only [Act.put, List.setIfInBounds_toArray, List.set_cons_zero, List.set_cons_succ, i64_w, i32_w]
                  rfl
                refine pure_ (i := 14) (N := some 192) (v := ?_) (a' := ?_) #[true, true, true, true, true, true, true, true, true, true, true, true, true, true, true, false, false, false, false, false, false, false, false, false, false, false, false, false] rfl rfl (by kernel_rfl) (fun _ _ _ h => h) (Or.inl ⟨by rfl, ?_⟩) ?_ ?_
                rotate_left
                · intro w'
                  go_simp
                  with_reducible rfl
                rotate_left
                · simp only [Act.put, List.setIfInBounds_toArray, List.set_cons_zero, List.set_cons_succ, i64_w, i32_w]
                  rfl
                refine take_ (i := 15) (N := some 193) (v := ?_) (a' := ?_) #[true, true, true, true, true, true, true, true, true, true, true, true, true, true, true, true, false, false, false, false, false, false, false, false, false, false, false, false] rfl rfl (by kernel_rfl) (fun _ _ _ h => h) (Or.inl ⟨by rfl, ?_⟩) hHeld ?_ ?_
                rotate_left
                · rintro w' ⟨s0, s1, s2, s3, s4, s5, s6, s7, s8, s9, s10, s11⟩
                  go_simp
                  with_reducible rfl
                rotate_left
                · simp only [Act.put, List.setIfInBounds_toArray, List.set_cons_zero, List.set_cons_succ, i64_w, i32_w]
                  rfl
                refine pure_ (i := 16) (N := some 194) (v := ?_) (a' := ?_) #[true, true, true, true, true, true, true, true, true, true, true, true, true, true, true, true, true, false, false, false, false, false, false, false, false, false, false, false] rfl rfl (by kernel_rfl) (fun _ _ _ h => h) (Or.inl ⟨by rfl, ?_⟩) ?_ ?_
                rotate_left
                · intro w'
                  go_simp
                  with_reducible rfl
                rotate_left
                · simp only [Act.put, List.setIfInBounds_toArray, List.set_cons_zero, List.set_cons_succ, i64_w, i32_w]
                  rfl
                refine pure_ (i := 17) (N := some 195) (v := ?_) (a' := ?_) #[true, true, true, true, true, true, true, true, true, true, true, true, true, true, true, true, true, true, false, false, false, false, false, false, false, false, false, false] rfl rfl (by kernel_rfl) (fun _ _ _ h => h) (Or.inl ⟨by rfl, ?_⟩) ?_ ?_
                rotate_left
                · intro w'
                  go_simp
                  with_reducible rfl
                rotate_left
                · simp only [Act.put, List.setIfInBounds_toArray, List.set_cons_zero, List.set_cons_succ, i64_w, i32_w]
                  rfl
                refine pure_ (i := 18) (N := some 196) (v := ?_) (a' := ?_) #[true, true, true, true, true, true, true, true, true, true, true, true, true, true, true, true, true, true, true, false, false, false, false, false, false, false, false, false] rfl rfl (by kernel_rfl) (fun _ _ _ h => h) (Or.inl ⟨by rfl, ?_⟩) ?_ ?_
                rotate_left
                · intro w'
                  go_simp
                  with_reducible rfl
                rotate_left
                · simp only [Act.put, List.setIfInBounds_toArray, List.set_cons_zero, List.set_cons_succ, i64_w, i32_w]
                  rfl
                refine pure_ (i := 19) (N := some 197) (v := ?_) (a' := ?_) #[true, true, true, true, true, true, true, true, true, true, true, true, true, true, true, true, true, true, true, true, false, false, false, false, false, false, false, false] rfl rfl (by kernel_rfl) (fun _ _ _ h => h) (Or.inl ⟨by rfl, ?_⟩) ?_ ?_
                rotate_left
                · intro w'
                  go_simp
                  with_reducible rfl
                rotate_left
                · simp only [Act.put, List.setIfInBounds_toArray, List.set_cons_zero, List.set_cons_succ, i64_w, i32_w]
                  rfl
                refine pure_ (i := 20) (N := some 198) (v := ?_) (a' := ?_) #[true, true, true, true, true, true, true, true, true, true, true, true, true, true, true, true, true, true, true, true, true, false, false, false, false, false, false, false] rfl rfl (by kernel_rfl) (fun _ _ _ h => h) (Or.inl ⟨by rfl, ?_⟩) ?_ ?_
                rotate_left
                · intro w'
                  go_simp
                  with_reducible rfl
                rotate_left
                · simp only [Act.put, List.setIfInBounds_toArray, List.set_cons_zero, List.set_cons_succ, i64_w, i32_w]
                  rfl
                refine pure_ (i := 22) (N := some 200) (v := ?_) (a' := ?_) #[true, true, true, true, true, true, true, true, true, true, true, true, true, true, true, true, true, true, true, true, true, false, true, false, false, false, false, false] rfl rfl (by kernel_rfl) (fun _ _ _ h => h) (Or.inl ⟨by rfl, ?_⟩) ?_ ?_
                rotate_left
                · intro w'
                  go_simp
                  with_reducible rfl
                rotate_left
                · simp only [Act.put, List.setIfInBounds_toArray, List.set_cons_zero, List.set_cons_succ, i64_w, i32_w]
                  rfl
                refine pure_ (i := 23) (N := some 201) (v := ?_) (a' := ?_) #[true, true, true, true, true, true, true, true, true, true, true, true, true, true, true, true, true, true, true, true, true, false, true, true, false, false, false, false] rfl rfl (by kernel_rfl) (fun _ _ _ h => h) (Or.inl ⟨by rfl, ?_⟩) ?_ ?_
                rotate_left
                · intro w'
                  go_simp
                  with_reducible rfl
                rotate_left
                · simp only [Act.put, List.setIfInBounds_toArray, List.set_cons_zero, List.set_cons_succ, i64_w, i32_w]
                  rfl
                refine take_ (i := 21) (N := some 199) (v := ?_) (a' := ?_) #[true, true, true, true, true, true, true, true, true, true, true, true, true, true, true, true, true, true, true, true, true, true, true, true, false, false, false, false] rfl rfl (by kernel_rfl) (fun _ _ _ h => h) (Or.inl ⟨by rfl, ?_⟩) hHeld ?_ ?_
                rotate_left
                · rintro w' ⟨s0, s1, s2, s3, s4, s5, s6, s7, s8, s9, s10, s11⟩
                  go_simp
                  with_reducible rfl
                rotate_left
                · simp only [Act.put, List.setIfInBounds_toArray, List.set_cons_zero, List.set_cons_succ, i64_w, i32_w]
                  rfl
                refine take_ (i := 24) (N := some 202) (v := ?_) (a' := ?_) #[true, true, true, true, true, true, true, true, true, true, true, true, true, true, true, true, true, true, true, true, true, true, true, true, true, false, false, false] rfl rfl (by kernel_rfl) (fun _ _ _ h => h) (Or.inl ⟨by rfl, ?_⟩) hHeld ?_ ?_
                rotate_left
                · rintro w' ⟨s0, s1, s2, s3, s4, s5, s6, s7, s8, s9, s10, s11⟩
                  go_simp
                  with_reducible rfl
                rotate_left
                · simp only [Act.put, List.setIfInBounds_toArray, List.set_cons_zero, List.set_cons_succ, i64_w, i32_w]
                  rfl
                refine one_ (i := 25) (N := some 203) #[true, true, true, true, true, true, true, true, true, true, true, true, true, true, true, true, true, true, true, true, true, true, true, true, true, true, false, false] rfl rfl (by kernel_rfl) (by decide) (fun K hK => ?_)
                refine goes_ Try.func12 (by kernel_rfl) rfl #[.agg #[.int .i64 nk, .int .i64 nv, .int .i64 nl, .int .i64 nr, .int .i64 ns, .int .i64 ng], .int .i64 nk] (by rfl) rfl rfl (by simp only [List.map_toArray, List.map_cons, List.map_nil]; rfl) ?_
                with_reducible refine (CH.out _).mono ?_
                rintro e w7 ⟨rfl, b7⟩
                refine ⟨_, rfl, ?_⟩
                have z7 := b7.size
                have B7 := Lib.hid (B6.out.trans (b7.mono B6.out.size))
                refine hK.out _ _ ⟨((b7.cell (by first | omega | (simp; done) | (simp; omega))).trans hHeld.1), ((b7.cell (by first | omega | (simp; done) | (simp; omega))).trans hHeld.2.1), ((b7.cell (by first | omega | (simp; done) | (simp; omega))).trans hHeld.2.2.1), ((b7.cell (by first | omega | (simp; done) | (simp; omega))).trans hHeld.2.2.2.1), ((b7.cell (by first | omega | (simp; done) | (simp; omega))).trans hHeld.2.2.2.2.1), ((b7.cell (by first | omega | (simp; done) | (simp; omega))).trans hHeld.2.2.2.2.2.1), ((b7.cell (by first | omega | (simp; done) | (simp; omega))).trans hHeld.2.2.2.2.2.2.1), ((b7.cell (by first | omega | (simp; done) | (simp; omega))).trans hHeld.2.2.2.2.2.2.2.1), ((b7.cell (by first | omega | (simp; done) | (simp; omega))).trans hHeld.2.2.2.2.2.2.2.2.1), ((b7.cell (by first | omega | (simp; done) | (simp; omega))).trans hHeld.2.2.2.2.2.2.2.2.2.1), ((b7.cell (by first | omega | (simp; done) | (simp; omega))).trans hHeld.2.2.2.2.2.2.2.2.2.2.1), ((b7.cell (by first | omega | (simp; done) | (simp; omega))).trans hHeld.2.2.2.2.2.2.2.2.2.2.2)⟩ (fun hHeld => ?_)
                clear hK K
                refine norm_ (a' := ?_) ?_ ?_
                rotate_left
                · show Act.put _ (some 203) _ = _
                  simp only [Act.put, List.setIfInBounds_toArray, List.set_cons_zero, List.set_cons_succ, i64_w, i32_w]
                  rfl
                refine pure_ (i := 26) (N := some 204) (v := ?_) (a' := ?_) #[true, true, true, true, true, true, true, true, true, true, true, true, true, true, true, true, true, true, true, true, true, true, true, true, true, true, true, false] rfl rfl (by kernel_rfl) (fun _ _ _ h => h) (Or.inl ⟨by rfl, ?_⟩) ?_ ?_
                rotate_left
                · intro w'
                  go_simp
                  with_reducible rfl
                rotate_left
                · simp only [Act.put, List.setIfInBounds_toArray, List.set_cons_zero, List.set_cons_succ, i64_w, i32_w]
                  rfl
                refine pure_ (i := 27) (N := some 205) (v := ?_) (a' := ?_) #[true, true, true, true, true, true, true, true, true, true, true, true, true, true, true, true, true, true, true, true, true, true, true, true, true, true, true, true] rfl rfl (by kernel_rfl) (fun _ _ _ h => h) (Or.inl ⟨by rfl, ?_⟩) ?_ ?_
                rotate_left
                · intro w'
                  go_simp
                  with_reducible rfl
                rotate_left
                · simp only [Act.put, List.setIfInBounds_toArray, List.set_cons_zero, List.set_cons_succ, i64_w, i32_w]
                  rfl
                refine done_ (by kernel_rfl) ?_
                go_wp2_with fail
                go_roundw
                case rel => exact ⟨j + 1, by omega, by go_num, Lib.hid (HB.out.trans (B7.out.mono HB.out.size))⟩
                case measure => simp [intOf]; omega
              · have cl := fun w' => leaf_any nk nv nl nr ns ng w'
                rw [show (decide (nl = 0) && decide (nr = 0)) = false by simp [hl0, hr0]] at cl
                have CL := Lib.hid cl; clear cl
                have ch := fun w' => holds_any nk nv nl nr ns ng nk w'
                rw [beq_self_eq_true] at ch
                have CH := Lib.hid ch; clear ch
                have ql : (nl == 0) = true := beq_iff_eq.2 hl0
                have qr : (nr == 0) = false := beq_eq_false_iff_ne.2 hr0
                clear hr0
                clear hl0
                go_wp2_with fail
                refine start_ (n := 28) (S := fun w' => w'.cell? ⟨w5.heap.size, 0, none⟩ = some (.int .i64 nk) ∧ w'.cell? ⟨w5.heap.size, 1, none⟩ = some (.int .i64 nv) ∧ w'.cell? ⟨w5.heap.size, 2, none⟩ = some (.int .i64 nl) ∧ w'.cell? ⟨w5.heap.size, 3, none⟩ = some (.int .i64 nr) ∧ w'.cell? ⟨w5.heap.size, 4, none⟩ = some (.int .i64 ns) ∧ w'.cell? ⟨w5.heap.size, 5, none⟩ = some (.int .i64 ng) ∧ w'.cell? ⟨wr.heap.size, 0, none⟩ = some (.int .i64 nk) ∧ w'.cell? ⟨wr.heap.size, 1, none⟩ = some (.int .i64 nv) ∧ w'.cell? ⟨wr.heap.size, 2, none⟩ = some (.int .i64 nl) ∧ w'.cell? ⟨wr.heap.size, 3, none⟩ = some (.int .i64 nr) ∧ w'.cell? ⟨wr.heap.size, 4, none⟩ = some (.int .i64 ns) ∧ w'.cell? ⟨wr.heap.size, 5, none⟩ = some (.int .i64 ng)) (ds := []) #[false, false, false, false, false, false, false, false, false, false, false, false, false, false, false, false, false, false, false, false, false, false, false, false, false, false, false, false] (by kernel_rfl) rfl rfl ⟨(cell_blk (i := 0) (w := (w5.alloc (.cells #[.int .i64 nk, .int .i64 nv, .int .i64 nl, .int .i64 nr, .int .i64 ns, .int .i64 ng] 36)).drew) T17.out rfl), (cell_blk (i := 1) (w := (w5.alloc (.cells #[.int .i64 nk, .int .i64 nv, .int .i64 nl, .int .i64 nr, .int .i64 ns, .int .i64 ng] 36)).drew) T17.out rfl), (cell_blk (i := 2) (w := (w5.alloc (.cells #[.int .i64 nk, .int .i64 nv, .int .i64 nl, .int .i64 nr, .int .i64 ns, .int .i64 ng] 36)).drew) T17.out rfl), (cell_blk (i := 3) (w := (w5.alloc (.cells #[.int .i64 nk, .int .i64 nv, .int .i64 nl, .int .i64 nr, .int .i64 ns, .int .i64 ng] 36)).drew) T17.out rfl), (cell_blk (i := 4) (w := (w5.alloc (.cells #[.int .i64 nk, .int .i64 nv, .int .i64 nl, .int .i64 nr, .int .i64 ns, .int .i64 ng] 36)).drew) T17.out rfl), (cell_blk (i := 5) (w := (w5.alloc (.cells #[.int .i64 nk, .int .i64 nv, .int .i64 nl, .int .i64 nr, .int .i64 ns, .int .i64 ng] 36)).drew) T17.out rfl), (cell_blk (i := 0) (w := (w5.alloc (.cells #[.int .i64 nk, .int .i64 nv, .int .i64 nl, .int .i64 nr, .int .i64 ns, .int .i64 ng] 36)).drew) T16.out rfl), (cell_blk (i := 1) (w := (w5.alloc (.cells #[.int .i64 nk, .int .i64 nv, .int .i64 nl, .int .i64 nr, .int .i64 ns, .int .i64 ng] 36)).drew) T16.out rfl), (cell_blk (i := 2) (w := (w5.alloc (.cells #[.int .i64 nk, .int .i64 nv, .int .i64 nl, .int .i64 nr, .int .i64 ns, .int .i64 ng] 36)).drew) T16.out rfl), (cell_blk (i := 3) (w := (w5.alloc (.cells #[.int .i64 nk, .int .i64 nv, .int .i64 nl, .int .i64 nr, .int .i64 ns, .int .i64 ng] 36)).drew) T16.out rfl), (cell_blk (i := 4) (w := (w5.alloc (.cells #[.int .i64 nk, .int .i64 nv, .int .i64 nl, .int .i64 nr, .int .i64 ns, .int .i64 ng] 36)).drew) T16.out rfl), (cell_blk (i := 5) (w := (w5.alloc (.cells #[.int .i64 nk, .int .i64 nv, .int .i64 nl, .int .i64 nr, .int .i64 ns, .int .i64 ng] 36)).drew) T16.out rfl)⟩ (fun hHeld => ?_)
                refine pure_ (i := 0) (N := some 178) (v := ?_) (a' := ?_) #[true, false, false, false, false, false, false, false, false, false, false, false, false, false, false, false, false, false, false, false, false, false, false, false, false, false, false, false] rfl rfl (by kernel_rfl) (fun _ _ _ h => h) (Or.inl ⟨by rfl, ?_⟩) ?_ ?_
                rotate_left
                · intro w'
                  go_simp
                  with_reducible rfl
                rotate_left
                · simp only [Act.put, List.setIfInBounds_toArray, List.set_cons_zero, List.set_cons_succ, i64_w, i32_w]
                  rfl
                refine pure_ (i := 1) (N := some 179) (v := ?_) (a' := ?_) #[true, true, false, false, false, false, false, false, false, false, false, false, false, false, false, false, false, false, false, false, false, false, false, false, false, false, false, false] rfl rfl (by kernel_rfl) (fun _ _ _ h => h) (Or.inl ⟨by rfl, ?_⟩) ?_ ?_
                rotate_left
                · intro w'
                  go_simp
                  with_reducible rfl
                rotate_left
                · simp only [Act.put, List.setIfInBounds_toArray, List.set_cons_zero, List.set_cons_succ, i64_w, i32_w]
                  rfl
                refine pure_ (i := 2) (N := some 180) (v := ?_) (a' := ?_) #[true, true, true, false, false, false, false, false, false, false, false, false, false, false, false, false, false, false, false, false, false, false, false, false, false, false, false, false] rfl rfl (by kernel_rfl) (fun _ _ _ h => h) (Or.inl ⟨by rfl, ?_⟩) ?_ ?_
                rotate_left
                · intro w'
                  go_simp
                  with_reducible rfl
                rotate_left
                · simp only [Act.put, List.setIfInBounds_toArray, List.set_cons_zero, List.set_cons_succ, i64_w, i32_w]
                  rfl
                refine take_ (i := 3) (N := some 181) (v := ?_) (a' := ?_) #[true, true, true, true, false, false, false, false, false, false, false, false, false, false, false, false, false, false, false, false, false, false, false, false, false, false, false, false] rfl rfl (by kernel_rfl) (fun _ _ _ h => h) (Or.inl ⟨by rfl, ?_⟩) hHeld ?_ ?_
                rotate_left
                · rintro w' ⟨s0, s1, s2, s3, s4, s5, s6, s7, s8, s9, s10, s11⟩
                  go_simp
                  with_reducible rfl
                rotate_left
                · simp only [Act.put, List.setIfInBounds_toArray, List.set_cons_zero, List.set_cons_succ, i64_w, i32_w]
                  rfl
                refine take_ (i := 4) (N := some 182) (v := ?_) (a' := ?_) #[true, true, true, true, true, false, false, false, false, false, false, false, false, false, false, false, false, false, false, false, false, false, false, false, false, false, false, false] rfl rfl (by kernel_rfl) (fun _ _ _ h => h) (Or.inl ⟨by rfl, ?_⟩) hHeld ?_ ?_
                rotate_left
                · rintro w' ⟨s0, s1, s2, s3, s4, s5, s6, s7, s8, s9, s10, s11⟩
                  go_simp
                  with_reducible rfl
                rotate_left
                · simp only [Act.put, List.setIfInBounds_toArray, List.set_cons_zero, List.set_cons_succ, i64_w, i32_w]
                  rfl
                refine pure_ (i := 5) (N := some 183) (v := ?_) (a' := ?_) #[true, true, true, true, true, true, false, false, false, false, false, false, false, false, false, false, false, false, false, false, false, false, false, false, false, false, false, false] rfl rfl (by kernel_rfl) (fun _ _ _ h => h) (Or.inl ⟨by rfl, ?_⟩) ?_ ?_
                rotate_left
                · intro w'
                  go_simp
                  with_reducible rfl
                rotate_left
                · simp only [Act.put, List.setIfInBounds_toArray, List.set_cons_zero, List.set_cons_succ, i64_w, i32_w]
                  rfl
                refine pure_ (i := 6) (N := some 184) (v := ?_) (a' := ?_) #[true, true, true, true, true, true, true, false, false, false, false, false, false, false, false, false, false, false, false, false, false, false, false, false, false, false, false, false] rfl rfl (by kernel_rfl) (fun _ _ _ h => h) (Or.inl ⟨by rfl, ?_⟩) ?_ ?_
                rotate_left
                · intro w'
                  go_simp
                  with_reducible rfl
                rotate_left
                · simp only [Act.put, List.setIfInBounds_toArray, List.set_cons_zero, List.set_cons_succ, i64_w, i32_w]
                  rfl
                refine pure_ (i := 7) (N := some 185) (v := ?_) (a' := ?_) #[true, true, true, true, true, true, true, true, false, false, false, false, false, false, false, false, false, false, false, false, false, false, false, false, false, false, false, false] rfl rfl (by kernel_rfl) (fun _ _ _ h => h) (Or.inl ⟨by rfl, ?_⟩) ?_ ?_
                rotate_left
                · intro w'
                  go_simp
                  with_reducible rfl
                rotate_left
                · simp only [Act.put, List.setIfInBounds_toArray, List.set_cons_zero, List.set_cons_succ, i64_w, i32_w]
                  rfl
                refine pure_ (i := 10) (N := some 188) (v := ?_) (a' := ?_) #[true, true, true, true, true, true, true, true, false, false, true, false, false, false, false, false, false, false, false, false, false, false, false, false, false, false, false, false] rfl rfl (by kernel_rfl) (fun _ _ _ h => h) (Or.inl ⟨by rfl, ?_⟩) ?_ ?_
                rotate_left
                · intro w'
                  go_simp
                  with_reducible rfl
                rotate_left
                · simp only [Act.put, List.setIfInBounds_toArray, List.set_cons_zero, List.set_cons_succ, i64_w, i32_w]
                  rfl
                refine take_ (i := 8) (N := some 186) (v := ?_) (a' := ?_) #[true, true, true, true, true, true, true, true, true, false, true, false, false, false, false, false, false, false, false, false, false, false, false, false, false, false, false, false] rfl rfl (by kernel_rfl) (fun _ _ _ h => h) (Or.inl ⟨by rfl, ?_⟩) hHeld ?_ ?_
                rotate_left
                · rintro w' ⟨s0, s1, s2, s3, s4, s5, s6, s7, s8, s9, s10, s11⟩
                  go_simp
                  with_reducible rfl
                rotate_left
                · simp only [Act.put, List.setIfInBounds_toArray, List.set_cons_zero, List.set_cons_succ, i64_w, i32_w]
                  rfl
                refine take_ (i := 11) (N := some 189) (v := ?_) (a' := ?_) #[true, true, true, true, true, true, true, true, true, false, true, true, false, false, false, false, false, false, false, false, false, false, false, false, false, false, false, false] rfl rfl (by kernel_rfl) (fun _ _ _ h => h) (Or.inl ⟨by rfl, ?_⟩) hHeld ?_ ?_
                rotate_left
                · rintro w' ⟨s0, s1, s2, s3, s4, s5, s6, s7, s8, s9, s10, s11⟩
                  go_simp
                  with_reducible rfl
                rotate_left
                · simp only [Act.put, List.setIfInBounds_toArray, List.set_cons_zero, List.set_cons_succ, i64_w, i32_w]
                  rfl
                refine pure_ (i := 12) (N := some 190) (v := ?_) (a' := ?_) #[true, true, true, true, true, true, true, true, true, false, true, true, true, false, false, false, false, false, false, false, false, false, false, false, false, false, false, false] rfl rfl (by kernel_rfl) (fun _ _ _ h => h) (Or.inl ⟨by rfl, ?_⟩) ?_ ?_
                rotate_left
                · intro w'
                  go_simp
                  with_reducible rfl
                rotate_left
                · simp only [Act.put, List.setIfInBounds_toArray, List.set_cons_zero, List.set_cons_succ, i64_w, i32_w]
                  rfl
                refine one_ (i := 9) (N := some 187) #[true, true, true, true, true, true, true, true, true, true, true, true, true, false, false, false, false, false, false, false, false, false, false, false, false, false, false, false] rfl rfl (by kernel_rfl) (by decide) (fun K hK => ?_)
                refine goes_ Try.func11 (by kernel_rfl) rfl #[.agg #[.int .i64 nk, .int .i64 nv, .int .i64 nl, .int .i64 nr, .int .i64 ns, .int .i64 ng]] (by rfl) rfl rfl (by simp only [List.map_toArray, List.map_cons, List.map_nil]; rfl) ?_
                with_reducible refine (CL.out _).mono ?_
                rintro e w6 ⟨rfl, b6⟩
                refine ⟨_, rfl, ?_⟩
                have z6 := b6.size
                try simp at z6
                have B6 := Lib.hid (BD.out.trans (b6.mono BD.out.size))
                refine hK.out _ _ ⟨((b6.cell (by first | omega | (simp; done) | (simp; omega))).trans hHeld.1), ((b6.cell (by first | omega | (simp; done) | (simp; omega))).trans hHeld.2.1), ((b6.cell (by first | omega | (simp; done) | (simp; omega))).trans hHeld.2.2.1), ((b6.cell (by first | omega | (simp; done) | (simp; omega))).trans hHeld.2.2.2.1), ((b6.cell (by first | omega | (simp; done) | (simp; omega))).trans hHeld.2.2.2.2.1), ((b6.cell (by first | omega | (simp; done) | (simp; omega))).trans hHeld.2.2.2.2.2.1), ((b6.cell (by first | omega | (simp; done) | (simp; omega))).trans hHeld.2.2.2.2.2.2.1), ((b6.cell (by first | omega | (simp; done) | (simp; omega))).trans hHeld.2.2.2.2.2.2.2.1), ((b6.cell (by first | omega | (simp; done) | (simp; omega))).trans hHeld.2.2.2.2.2.2.2.2.1), ((b6.cell (by first | omega | (simp; done) | (simp; omega))).trans hHeld.2.2.2.2.2.2.2.2.2.1), ((b6.cell (by first | omega | (simp; done) | (simp; omega))).trans hHeld.2.2.2.2.2.2.2.2.2.2.1), ((b6.cell (by first | omega | (simp; done) | (simp; omega))).trans hHeld.2.2.2.2.2.2.2.2.2.2.2)⟩ (fun hHeld => ?_)
                clear hK K
                refine norm_ (a' := ?_) ?_ ?_
                rotate_left
                · show Act.put _ (some 187) _ = _
                  simp only [Act.put, List.setIfInBounds_toArray, List.set_cons_zero, List.set_cons_succ, i64_w, i32_w]
                  rfl
                refine pure_ (i := 13) (N := some 191) (v := ?_) (a' := ?_) #[true, true, true, true, true, true, true, true, true, true, true, true, true, true, false, false, false, false, false, false, false, false, false, false, false, false, false, false] rfl rfl (by kernel_rfl) (fun _ _ _ h => h) (Or.inl ⟨by rfl, ?_⟩) ?_ ?_
                rotate_left
                · intro w'
                  go_simp
                  with_reducible rfl
                rotate_left
                · simp only [Act.put, List.setIfInBounds_toArray, List.set_cons_zero, List.set_cons_succ, i64_w, i32_w]
                  rfl
                refine pure_ (i := 14) (N := some 192) (v := ?_) (a' := ?_) #[true, true, true, true, true, true, true, true, true, true, true, true, true, true, true, false, false, false, false, false, false, false, false, false, false, false, false, false] rfl rfl (by kernel_rfl) (fun _ _ _ h => h) (Or.inl ⟨by rfl, ?_⟩) ?_ ?_
                rotate_left
                · intro w'
                  go_simp
                  with_reducible rfl
                rotate_left
                · simp only [Act.put, List.setIfInBounds_toArray, List.set_cons_zero, List.set_cons_succ, i64_w, i32_w]
                  rfl
                refine take_ (i := 15) (N := some 193) (v := ?_) (a' := ?_) #[true, true, true, true, true, true, true, true, true, true, true, true, true, true, true, true, false, false, false, false, false, false, false, false, false, false, false, false] rfl rfl (by kernel_rfl) (fun _ _ _ h => h) (Or.inl ⟨by rfl, ?_⟩) hHeld ?_ ?_
                rotate_left
                · rintro w' ⟨s0, s1, s2, s3, s4, s5, s6, s7, s8, s9, s10, s11⟩
                  go_simp
                  with_reducible rfl
                rotate_left
                · simp only [Act.put, List.setIfInBounds_toArray, List.set_cons_zero, List.set_cons_succ, i64_w, i32_w]
                  rfl
                refine pure_ (i := 16) (N := some 194) (v := ?_) (a' := ?_) #[true, true, true, true, true, true, true, true, true, true, true, true, true, true, true, true, true, false, false, false, false, false, false, false, false, false, false, false] rfl rfl (by kernel_rfl) (fun _ _ _ h => h) (Or.inl ⟨by rfl, ?_⟩) ?_ ?_
                rotate_left
                · intro w'
                  go_simp
                  with_reducible rfl
                rotate_left
                · simp only [Act.put, List.setIfInBounds_toArray, List.set_cons_zero, List.set_cons_succ, i64_w, i32_w]
                  rfl
                refine pure_ (i := 17) (N := some 195) (v := ?_) (a' := ?_) #[true, true, true, true, true, true, true, true, true, true, true, true, true, true, true, true, true, true, false, false, false, false, false, false, false, false, false, false] rfl rfl (by kernel_rfl) (fun _ _ _ h => h) (Or.inl ⟨by rfl, ?_⟩) ?_ ?_
                rotate_left
                · intro w'
                  go_simp
                  with_reducible rfl
                rotate_left
                · simp only [Act.put, List.setIfInBounds_toArray, List.set_cons_zero, List.set_cons_succ, i64_w, i32_w]
                  rfl
                refine pure_ (i := 18) (N := some 196) (v := ?_) (a' := ?_) #[true, true, true, true, true, true, true, true, true, true, true, true, true, true, true, true, true, true, true, false, false, false, false, false, false, false, false, false] rfl rfl (by kernel_rfl) (fun _ _ _ h => h) (Or.inl ⟨by rfl, ?_⟩) ?_ ?_
                rotate_left
                · intro w'
                  go_simp
                  with_reducible rfl
                rotate_left
                · simp only [Act.put, List.setIfInBounds_toArray, List.set_cons_zero, List.set_cons_succ, i64_w, i32_w]
                  rfl
                refine pure_ (i := 19) (N := some 197) (v := ?_) (a' := ?_) #[true, true, true, true, true, true, true, true, true, true, true, true, true, true, true, true, true, true, true, true, false, false, false, false, false, false, false, false] rfl rfl (by kernel_rfl) (fun _ _ _ h => h) (Or.inl ⟨by rfl, ?_⟩) ?_ ?_
                rotate_left
                · intro w'
                  go_simp
                  with_reducible rfl
                rotate_left
                · simp only [Act.put, List.setIfInBounds_toArray, List.set_cons_zero, List.set_cons_succ, i64_w, i32_w]
                  rfl
                refine pure_ (i := 20) (N := some 198) (v := ?_) (a' := ?_) #[true, true, true, true, true, true, true, true, true, true, true, true, true, true, true, true, true, true, true, true, true, false, false, false, false, false, false, false] rfl rfl (by kernel_rfl) (fun _ _ _ h => h) (Or.inl ⟨by rfl, ?_⟩) ?_ ?_
                rotate_left
                · intro w'
                  go_simp
                  with_reducible rfl
                rotate_left
                · simp only [Act.put, List.setIfInBounds_toArray, List.set_cons_zero, List.set_cons_succ, i64_w, i32_w]
                  rfl
                refine pure_ (i := 22) (N := some 200) (v := ?_) (a' := ?_) #[true, true, true, true, true, true, true, true, true, true, true, true, true, true, true, true, true, true, true, true, true, false, true, false, false, false, false, false] rfl rfl (by kernel_rfl) (fun _ _ _ h => h) (Or.inl ⟨by rfl, ?_⟩) ?_ ?_
                rotate_left
                · intro w'
                  go_simp
                  with_reducible rfl
                rotate_left
                · simp only [Act.put, List.setIfInBounds_toArray, List.set_cons_zero, List.set_cons_succ, i64_w, i32_w]
                  rfl
                refine pure_ (i := 23) (N := some 201) (v := ?_) (a' := ?_) #[true, true, true, true, true, true, true, true, true, true, true, true, true, true, true, true, true, true, true, true, true, false, true, true, false, false, false, false] rfl rfl (by kernel_rfl) (fun _ _ _ h => h) (Or.inl ⟨by rfl, ?_⟩) ?_ ?_
                rotate_left
                · intro w'
                  go_simp
                  with_reducible rfl
                rotate_left
                · simp only [Act.put, List.setIfInBounds_toArray, List.set_cons_zero, List.set_cons_succ, i64_w, i32_w]
                  rfl
                refine take_ (i := 21) (N := some 199) (v := ?_) (a' := ?_) #[true, true, true, true, true, true, true, true, true, true, true, true, true, true, true, true, true, true, true, true, true, true, true, true, false, false, false, false] rfl rfl (by kernel_rfl) (fun _ _ _ h => h) (Or.inl ⟨by rfl, ?_⟩) hHeld ?_ ?_
                rotate_left
                · rintro w' ⟨s0, s1, s2, s3, s4, s5, s6, s7, s8, s9, s10, s11⟩
                  go_simp
                  with_reducible rfl
                rotate_left
                · simp only [Act.put, List.setIfInBounds_toArray, List.set_cons_zero, List.set_cons_succ, i64_w, i32_w]
                  rfl
                refine take_ (i := 24) (N := some 202) (v := ?_) (a' := ?_) #[true, true, true, true, true, true, true, true, true, true, true, true, true, true, true, true, true, true, true, true, true, true, true, true, true, false, false, false] rfl rfl (by kernel_rfl) (fun _ _ _ h => h) (Or.inl ⟨by rfl, ?_⟩) hHeld ?_ ?_
                rotate_left
                · rintro w' ⟨s0, s1, s2, s3, s4, s5, s6, s7, s8, s9, s10, s11⟩
                  go_simp
                  with_reducible rfl
                rotate_left
                · simp only [Act.put, List.setIfInBounds_toArray, List.set_cons_zero, List.set_cons_succ, i64_w, i32_w]
                  rfl
                refine one_ (i := 25) (N := some 203) #[true, true, true, true, true, true, true, true, true, true, true, true, true, true, true, true, true, true, true, true, true, true, true, true, true, true, false, false] rfl rfl (by kernel_rfl) (by decide) (fun K hK => ?_)
                refine goes_ Try.func12 (by kernel_rfl) rfl #[.agg #[.int .i64 nk, .int .i64 nv, .int .i64 nl, .int .i64 nr, .int .i64 ns, .int .i64 ng], .int .i64 nk] (by rfl) rfl rfl (by simp only [List.map_toArray, List.map_cons, List.map_nil]; rfl) ?_
                with_reducible refine (CH.out _).mono ?_
                rintro e w7 ⟨rfl, b7⟩
                refine ⟨_, rfl, ?_⟩
                have z7 := b7.size
                have B7 := Lib.hid (B6.out.trans (b7.mono B6.out.size))
                refine hK.out _ _ ⟨((b7.cell (by first | omega | (simp; done) | (simp; omega))).trans hHeld.1), ((b7.cell (by first | omega | (simp; done) | (simp; omega))).trans hHeld.2.1), ((b7.cell (by first | omega | (simp; done) | (simp; omega))).trans hHeld.2.2.1), ((b7.cell (by first | omega | (simp; done) | (simp; omega))).trans hHeld.2.2.2.1), ((b7.cell (by first | omega | (simp; done) | (simp; omega))).trans hHeld.2.2.2.2.1), ((b7.cell (by first | omega | (simp; done) | (simp; omega))).trans hHeld.2.2.2.2.2.1), ((b7.cell (by first | omega | (simp; done) | (simp; omega))).trans hHeld.2.2.2.2.2.2.1), ((b7.cell (by first | omega | (simp; done) | (simp; omega))).trans hHeld.2.2.2.2.2.2.2.1), ((b7.cell (by first | omega | (simp; done) | (simp; omega))).trans hHeld.2.2.2.2.2.2.2.2.1), ((b7.cell (by first | omega | (simp; done) | (simp; omega))).trans hHeld.2.2.2.2.2.2.2.2.2.1), ((b7.cell (by first | omega | (simp; done) | (simp; omega))).trans hHeld.2.2.2.2.2.2.2.2.2.2.1), ((b7.cell (by first | omega | (simp; done) | (simp; omega))).trans hHeld.2.2.2.2.2.2.2.2.2.2.2)⟩ (fun hHeld => ?_)
                clear hK K
                refine norm_ (a' := ?_) ?_ ?_
                rotate_left
                · show Act.put _ (some 203) _ = _
                  simp only [Act.put, List.setIfInBounds_toArray, List.set_cons_zero, List.set_cons_succ, i64_w, i32_w]
                  rfl
                refine pure_ (i := 26) (N := some 204) (v := ?_) (a' := ?_) #[true, true, true, true, true, true, true, true, true, true, true, true, true, true, true, true, true, true, true, true, true, true, true, true, true, true, true, false] rfl rfl (by kernel_rfl) (fun _ _ _ h => h) (Or.inl ⟨by rfl, ?_⟩) ?_ ?_
                rotate_left
                · intro w'
                  go_simp
                  with_reducible rfl
                rotate_left
                · simp only [Act.put, List.setIfInBounds_toArray, List.set_cons_zero, List.set_cons_succ, i64_w, i32_w]
                  rfl
                refine pure_ (i := 27) (N := some 205) (v := ?_) (a' := ?_) #[true, true, true, true, true, true, true, true, true, true, true, true, true, true, true, true, true, true, true, true, true, true, true, true, true, true, true, true] rfl rfl (by kernel_rfl) (fun _ _ _ h => h) (Or.inl ⟨by rfl, ?_⟩) ?_ ?_
                rotate_left
                · intro w'
                  go_simp
                  with_reducible rfl
                rotate_left
                · simp only [Act.put, List.setIfInBounds_toArray, List.set_cons_zero, List.set_cons_succ, i64_w, i32_w]
                  rfl
                refine done_ (by kernel_rfl) ?_
                go_wp2_with fail
                go_roundw
                case rel => exact ⟨j + 1, by omega, by go_num, Lib.hid (HB.out.trans (B7.out.mono HB.out.size))⟩
                case measure => simp [intOf]; omega
            · have cl := fun w' => leaf_any nk nv nl nr ns ng w'
              rw [show (decide (nl = 0) && decide (nr = 0)) = false by simp [hl0]] at cl
              have CL := Lib.hid cl; clear cl
              have ch := fun w' => holds_any nk nv nl nr ns ng nk w'
              rw [beq_self_eq_true] at ch
              have CH := Lib.hid ch; clear ch
              have ql : (nl == 0) = false := beq_eq_false_iff_ne.2 hl0
              clear hl0
              go_wp2_with fail
              refine start_ (n := 28) (S := fun w' => w'.cell? ⟨w5.heap.size, 0, none⟩ = some (.int .i64 nk) ∧ w'.cell? ⟨w5.heap.size, 1, none⟩ = some (.int .i64 nv) ∧ w'.cell? ⟨w5.heap.size, 2, none⟩ = some (.int .i64 nl) ∧ w'.cell? ⟨w5.heap.size, 3, none⟩ = some (.int .i64 nr) ∧ w'.cell? ⟨w5.heap.size, 4, none⟩ = some (.int .i64 ns) ∧ w'.cell? ⟨w5.heap.size, 5, none⟩ = some (.int .i64 ng) ∧ w'.cell? ⟨wr.heap.size, 0, none⟩ = some (.int .i64 nk) ∧ w'.cell? ⟨wr.heap.size, 1, none⟩ = some (.int .i64 nv) ∧ w'.cell? ⟨wr.heap.size, 2, none⟩ = some (.int .i64 nl) ∧ w'.cell? ⟨wr.heap.size, 3, none⟩ = some (.int .i64 nr) ∧ w'.cell? ⟨wr.heap.size, 4, none⟩ = some (.int .i64 ns) ∧ w'.cell? ⟨wr.heap.size, 5, none⟩ = some (.int .i64 ng)) (ds := []) #[false, false, false, false, false, false, false, false, false, false, false, false, false, false, false, false, false, false, false, false, false, false, false, false, false, false, false, false] (by kernel_rfl) rfl rfl ⟨(cell_blk (i := 0) (w := (w5.alloc (.cells #[.int .i64 nk, .int .i64 nv, .int .i64 nl, .int .i64 nr, .int .i64 ns, .int .i64 ng] 36)).drew) T17.out rfl), (cell_blk (i := 1) (w := (w5.alloc (.cells #[.int .i64 nk, .int .i64 nv, .int .i64 nl, .int .i64 nr, .int .i64 ns, .int .i64 ng] 36)).drew) T17.out rfl), (cell_blk (i := 2) (w := (w5.alloc (.cells #[.int .i64 nk, .int .i64 nv, .int .i64 nl, .int .i64 nr, .int .i64 ns, .int .i64 ng] 36)).drew) T17.out rfl), (cell_blk (i := 3) (w := (w5.alloc (.cells #[.int .i64 nk, .int .i64 nv, .int .i64 nl, .int .i64 nr, .int .i64 ns, .int .i64 ng] 36)).drew) T17.out rfl), (cell_blk (i := 4) (w := (w5.alloc (.cells #[.int .i64 nk, .int .i64 nv, .int .i64 nl, .int .i64 nr, .int .i64 ns, .int .i64 ng] 36)).drew) T17.out rfl), (cell_blk (i := 5) (w := (w5.alloc (.cells #[.int .i64 nk, .int .i64 nv, .int .i64 nl, .int .i64 nr, .int .i64 ns, .int .i64 ng] 36)).drew) T17.out rfl), (cell_blk (i := 0) (w := (w5.alloc (.cells #[.int .i64 nk, .int .i64 nv, .int .i64 nl, .int .i64 nr, .int .i64 ns, .int .i64 ng] 36)).drew) T16.out rfl), (cell_blk (i := 1) (w := (w5.alloc (.cells #[.int .i64 nk, .int .i64 nv, .int .i64 nl, .int .i64 nr, .int .i64 ns, .int .i64 ng] 36)).drew) T16.out rfl), (cell_blk (i := 2) (w := (w5.alloc (.cells #[.int .i64 nk, .int .i64 nv, .int .i64 nl, .int .i64 nr, .int .i64 ns, .int .i64 ng] 36)).drew) T16.out rfl), (cell_blk (i := 3) (w := (w5.alloc (.cells #[.int .i64 nk, .int .i64 nv, .int .i64 nl, .int .i64 nr, .int .i64 ns, .int .i64 ng] 36)).drew) T16.out rfl), (cell_blk (i := 4) (w := (w5.alloc (.cells #[.int .i64 nk, .int .i64 nv, .int .i64 nl, .int .i64 nr, .int .i64 ns, .int .i64 ng] 36)).drew) T16.out rfl), (cell_blk (i := 5) (w := (w5.alloc (.cells #[.int .i64 nk, .int .i64 nv, .int .i64 nl, .int .i64 nr, .int .i64 ns, .int .i64 ng] 36)).drew) T16.out rfl)⟩ (fun hHeld => ?_)
              refine pure_ (i := 0) (N := some 178) (v := ?_) (a' := ?_) #[true, false, false, false, false, false, false, false, false, false, false, false, false, false, false, false, false, false, false, false, false, false, false, false, false, false, false, false] rfl rfl (by kernel_rfl) (fun _ _ _ h => h) (Or.inl ⟨by rfl, ?_⟩) ?_ ?_
              rotate_left
              · intro w'
                go_simp
                with_reducible rfl
              rotate_left
              · simp only [Act.put, List.setIfInBounds_toArray, List.set_cons_zero, List.set_cons_succ, i64_w, i32_w]
                rfl
              refine pure_ (i := 1) (N := some 179) (v := ?_) (a' := ?_) #[true, true, false, false, false, false, false, false, false, false, false, false, false, false, false, false, false, false, false, false, false, false, false, false, false, false, false, false] rfl rfl (by kernel_rfl) (fun _ _ _ h => h) (Or.inl ⟨by rfl, ?_⟩) ?_ ?_
              rotate_left
              · intro w'
                go_simp
                with_reducible rfl
              rotate_left
              · simp only [Act.put, List.setIfInBounds_toArray, List.set_cons_zero, List.set_cons_succ, i64_w, i32_w]
                rfl
              refine pure_ (i := 2) (N := some 180) (v := ?_) (a' := ?_) #[true, true, true, false, false, false, false, false, false, false, false, false, false, false, false, false, false, false, false, false, false, false, false, false, false, false, false, false] rfl rfl (by kernel_rfl) (fun _ _ _ h => h) (Or.inl ⟨by rfl, ?_⟩) ?_ ?_
              rotate_left
              · intro w'
                go_simp
                with_reducible rfl
              rotate_left
              · simp only [Act.put, List.setIfInBounds_toArray, List.set_cons_zero, List.set_cons_succ, i64_w, i32_w]
                rfl
              refine take_ (i := 3) (N := some 181) (v := ?_) (a' := ?_) #[true, true, true, true, false, false, false, false, false, false, false, false, false, false, false, false, false, false, false, false, false, false, false, false, false, false, false, false] rfl rfl (by kernel_rfl) (fun _ _ _ h => h) (Or.inl ⟨by rfl, ?_⟩) hHeld ?_ ?_
              rotate_left
              · rintro w' ⟨s0, s1, s2, s3, s4, s5, s6, s7, s8, s9, s10, s11⟩
                go_simp
                with_reducible rfl
              rotate_left
              · simp only [Act.put, List.setIfInBounds_toArray, List.set_cons_zero, List.set_cons_succ, i64_w, i32_w]
                rfl
              refine take_ (i := 4) (N := some 182) (v := ?_) (a' := ?_) #[true, true, true, true, true, false, false, false, false, false, false, false, false, false, false, false, false, false, false, false, false, false, false, false, false, false, false, false] rfl rfl (by kernel_rfl) (fun _ _ _ h => h) (Or.inl ⟨by rfl, ?_⟩) hHeld ?_ ?_
              rotate_left
              · rintro w' ⟨s0, s1, s2, s3, s4, s5, s6, s7, s8, s9, s10, s11⟩
                go_simp
                with_reducible rfl
              rotate_left
              · simp only [Act.put, List.setIfInBounds_toArray, List.set_cons_zero, List.set_cons_succ, i64_w, i32_w]
                rfl
              refine pure_ (i := 5) (N := some 183) (v := ?_) (a' := ?_) #[true, true, true, true, true, true, false, false, false, false, false, false, false, false, false, false, false, false, false, false, false, false, false, false, false, false, false, false] rfl rfl (by kernel_rfl) (fun _ _ _ h => h) (Or.inl ⟨by rfl, ?_⟩) ?_ ?_
              rotate_left
              · intro w'
                go_simp
                with_reducible rfl
              rotate_left
              · simp only [Act.put, List.setIfInBounds_toArray, List.set_cons_zero, List.set_cons_succ, i64_w, i32_w]
                rfl
              refine pure_ (i := 6) (N := some 184) (v := ?_) (a' := ?_) #[true, true, true, true, true, true, true, false, false, false, false, false, false, false, false, false, false, false, false, false, false, false, false, false, false, false, false, false] rfl rfl (by kernel_rfl) (fun _ _ _ h => h) (Or.inl ⟨by rfl, ?_⟩) ?_ ?_
              rotate_left
              · intro w'
                go_simp
                with_reducible rfl
              rotate_left
              · simp only [Act.put, List.setIfInBounds_toArray, List.set_cons_zero, List.set_cons_succ, i64_w, i32_w]
                rfl
              refine pure_ (i := 7) (N := some 185) (v := ?_) (a' := ?_) #[true, true, true, true, true, true, true, true, false, false, false, false, false, false, false, false, false, false, false, false, false, false, false, false, false, false, false, false] rfl rfl (by kernel_rfl) (fun _ _ _ h => h) (Or.inl ⟨by rfl, ?_⟩) ?_ ?_
              rotate_left
              · intro w'
                go_simp
                with_reducible rfl
              rotate_left
              · simp only [Act.put, List.setIfInBounds_toArray, List.set_cons_zero, List.set_cons_succ, i64_w, i32_w]
                rfl
              refine pure_ (i := 10) (N := some 188) (v := ?_) (a' := ?_) #[true, true, true, true, true, true, true, true, false, false, true, false, false, false, false, false, false, false, false, false, false, false, false, false, false, false, false, false] rfl rfl (by kernel_rfl) (fun _ _ _ h => h) (Or.inl ⟨by rfl, ?_⟩) ?_ ?_
              rotate_left
              · intro w'
                go_simp
                with_reducible rfl
              rotate_left
              · simp only [Act.put, List.setIfInBounds_toArray, List.set_cons_zero, List.set_cons_succ, i64_w, i32_w]
                rfl
              refine take_ (i := 8) (N := some 186) (v := ?_) (a' := ?_) #[true, true, true, true, true, true, true, true, true, false, true, false, false, false, false, false, false, false, false, false, false, false, false, false, false, false, false, false] rfl rfl (by kernel_rfl) (fun _ _ _ h => h) (Or.inl ⟨by rfl, ?_⟩) hHeld ?_ ?_
              rotate_left
              · rintro w' ⟨s0, s1, s2, s3, s4, s5, s6, s7, s8, s9, s10, s11⟩
                go_simp
                with_reducible rfl
              rotate_left
              · simp only [Act.put, List.setIfInBounds_toArray, List.set_cons_zero, List.set_cons_succ, i64_w, i32_w]
                rfl
              refine take_ (i := 11) (N := some 189) (v := ?_) (a' := ?_) #[true, true, true, true, true, true, true, true, true, false, true, true, false, false, false, false, false, false, false, false, false, false, false, false, false, false, false, false] rfl rfl (by kernel_rfl) (fun _ _ _ h => h) (Or.inl ⟨by rfl, ?_⟩) hHeld ?_ ?_
              rotate_left
              · rintro w' ⟨s0, s1, s2, s3, s4, s5, s6, s7, s8, s9, s10, s11⟩
                go_simp
                with_reducible rfl
              rotate_left
              · simp only [Act.put, List.setIfInBounds_toArray, List.set_cons_zero, List.set_cons_succ, i64_w, i32_w]
                rfl
              refine pure_ (i := 12) (N := some 190) (v := ?_) (a' := ?_) #[true, true, true, true, true, true, true, true, true, false, true, true, true, false, false, false, false, false, false, false, false, false, false, false, false, false, false, false] rfl rfl (by kernel_rfl) (fun _ _ _ h => h) (Or.inl ⟨by rfl, ?_⟩) ?_ ?_
              rotate_left
              · intro w'
                go_simp
                with_reducible rfl
              rotate_left
              · simp only [Act.put, List.setIfInBounds_toArray, List.set_cons_zero, List.set_cons_succ, i64_w, i32_w]
                rfl
              refine one_ (i := 9) (N := some 187) #[true, true, true, true, true, true, true, true, true, true, true, true, true, false, false, false, false, false, false, false, false, false, false, false, false, false, false, false] rfl rfl (by kernel_rfl) (by decide) (fun K hK => ?_)
              refine goes_ Try.func11 (by kernel_rfl) rfl #[.agg #[.int .i64 nk, .int .i64 nv, .int .i64 nl, .int .i64 nr, .int .i64 ns, .int .i64 ng]] (by rfl) rfl rfl (by simp only [List.map_toArray, List.map_cons, List.map_nil]; rfl) ?_
              with_reducible refine (CL.out _).mono ?_
              rintro e w6 ⟨rfl, b6⟩
              refine ⟨_, rfl, ?_⟩
              have z6 := b6.size
              try simp at z6
              have B6 := Lib.hid (BD.out.trans (b6.mono BD.out.size))
              refine hK.out _ _ ⟨((b6.cell (by first | omega | (simp; done) | (simp; omega))).trans hHeld.1), ((b6.cell (by first | omega | (simp; done) | (simp; omega))).trans hHeld.2.1), ((b6.cell (by first | omega | (simp; done) | (simp; omega))).trans hHeld.2.2.1), ((b6.cell (by first | omega | (simp; done) | (simp; omega))).trans hHeld.2.2.2.1), ((b6.cell (by first | omega | (simp; done) | (simp; omega))).trans hHeld.2.2.2.2.1), ((b6.cell (by first | omega | (simp; done) | (simp; omega))).trans hHeld.2.2.2.2.2.1), ((b6.cell (by first | omega | (simp; done) | (simp; omega))).trans hHeld.2.2.2.2.2.2.1), ((b6.cell (by first | omega | (simp; done) | (simp; omega))).trans hHeld.2.2.2.2.2.2.2.1), ((b6.cell (by first | omega | (simp; done) | (simp; omega))).trans hHeld.2.2.2.2.2.2.2.2.1), ((b6.cell (by first | omega | (simp; done) | (simp; omega))).trans hHeld.2.2.2.2.2.2.2.2.2.1), ((b6.cell (by first | omega | (simp; done) | (simp; omega))).trans hHeld.2.2.2.2.2.2.2.2.2.2.1), ((b6.cell (by first | omega | (simp; done) | (simp; omega))).trans hHeld.2.2.2.2.2.2.2.2.2.2.2)⟩ (fun hHeld => ?_)
              clear hK K
              refine norm_ (a' := ?_) ?_ ?_
              rotate_left
              · show Act.put _ (some 187) _ = _
                simp only [Act.put, List.setIfInBounds_toArray, List.set_cons_zero, List.set_cons_succ, i64_w, i32_w]
                rfl
              refine pure_ (i := 13) (N := some 191) (v := ?_) (a' := ?_) #[true, true, true, true, true, true, true, true, true, true, true, true, true, true, false, false, false, false, false, false, false, false, false, false, false, false, false, false] rfl rfl (by kernel_rfl) (fun _ _ _ h => h) (Or.inl ⟨by rfl, ?_⟩) ?_ ?_
              rotate_left
              · intro w'
                go_simp
                with_reducible rfl
              rotate_left
              · simp only [Act.put, List.setIfInBounds_toArray, List.set_cons_zero, List.set_cons_succ, i64_w, i32_w]
                rfl
              refine pure_ (i := 14) (N := some 192) (v := undef) (a' := ?_) #[true, true, true, true, true, true, true, true, true, true, true, true, true, true, true, false, false, false, false, false, false, false, false, false, false, false, false, false] rfl rfl (by kernel_rfl) (fun _ _ _ h => h) (Or.inr ⟨by rfl, rfl⟩) ?_ ?_
              rotate_left
              · simp only [Act.put, List.setIfInBounds_toArray, List.set_cons_zero, List.set_cons_succ, i64_w, i32_w]
                rfl
              refine pure_ (i := 15) (N := some 193) (v := undef) (a' := ?_) #[true, true, true, true, true, true, true, true, true, true, true, true, true, true, true, true, false, false, false, false, false, false, false, false, false, false, false, false] rfl rfl (by kernel_rfl) (fun _ _ _ h => h) (Or.inr ⟨by rfl, rfl⟩) ?_ ?_
              rotate_left
              · simp only [Act.put, List.setIfInBounds_toArray, List.set_cons_zero, List.set_cons_succ, i64_w, i32_w]
                rfl
              refine pure_ (i := 16) (N := some 194) (v := undef) (a' := ?_) #[true, true, true, true, true, true, true, true, true, true, true, true, true, true, true, true, true, false, false, false, false, false, false, false, false, false, false, false] rfl rfl (by kernel_rfl) (fun _ _ _ h => h) (Or.inr ⟨by rfl, rfl⟩) ?_ ?_
              rotate_left
              · simp only [Act.put, List.setIfInBounds_toArray, List.set_cons_zero, List.set_cons_succ, i64_w, i32_w]
                rfl
              refine pure_ (i := 17) (N := some 195) (v := ?_) (a' := ?_) #[true, true, true, true, true, true, true, true, true, true, true, true, true, true, true, true, true, true, false, false, false, false, false, false, false, false, false, false] rfl rfl (by kernel_rfl) (fun _ _ _ h => h) (Or.inl ⟨by rfl, ?_⟩) ?_ ?_
              rotate_left
              · intro w'
                go_simp
                with_reducible rfl
              rotate_left
              · simp only [Act.put, List.setIfInBounds_toArray, List.set_cons_zero, List.set_cons_succ, i64_w, i32_w]
                rfl
              refine pure_ (i := 18) (N := some 196) (v := ?_) (a' := ?_) #[true, true, true, true, true, true, true, true, true, true, true, true, true, true, true, true, true, true, true, false, false, false, false, false, false, false, false, false] rfl rfl (by kernel_rfl) (fun _ _ _ h => h) (Or.inl ⟨by rfl, ?_⟩) ?_ ?_
              rotate_left
              · intro w'
                go_simp
                with_reducible rfl
              rotate_left
              · simp only [Act.put, List.setIfInBounds_toArray, List.set_cons_zero, List.set_cons_succ, i64_w, i32_w]
                rfl
              refine pure_ (i := 19) (N := some 197) (v := ?_) (a' := ?_) #[true, true, true, true, true, true, true, true, true, true, true, true, true, true, true, true, true, true, true, true, false, false, false, false, false, false, false, false] rfl rfl (by kernel_rfl) (fun _ _ _ h => h) (Or.inl ⟨by rfl, ?_⟩) ?_ ?_
              rotate_left
              · intro w'
                go_simp
                with_reducible rfl
              rotate_left
              · simp only [Act.put, List.setIfInBounds_toArray, List.set_cons_zero, List.set_cons_succ, i64_w, i32_w]
                rfl
              refine pure_ (i := 20) (N := some 198) (v := ?_) (a' := ?_) #[true, true, true, true, true, true, true, true, true, true, true, true, true, true, true, true, true, true, true, true, true, false, false, false, false, false, false, false] rfl rfl (by kernel_rfl) (fun _ _ _ h => h) (Or.inl ⟨by rfl, ?_⟩) ?_ ?_
              rotate_left
              · intro w'
                go_simp
                with_reducible rfl
              rotate_left
              · simp only [Act.put, List.setIfInBounds_toArray, List.set_cons_zero, List.set_cons_succ, i64_w, i32_w]
                rfl
              refine pure_ (i := 22) (N := some 200) (v := ?_) (a' := ?_) #[true, true, true, true, true, true, true, true, true, true, true, true, true, true, true, true, true, true, true, true, true, false, true, false, false, false, false, false] rfl rfl (by kernel_rfl) (fun _ _ _ h => h) (Or.inl ⟨by rfl, ?_⟩) ?_ ?_
              rotate_left
              · intro w'
                go_simp
                with_reducible rfl
              rotate_left
              · simp only [Act.put, List.setIfInBounds_toArray, List.set_cons_zero, List.set_cons_succ, i64_w, i32_w]
                rfl
              refine pure_ (i := 23) (N := some 201) (v := ?_) (a' := ?_) #[true, true, true, true, true, true, true, true, true, true, true, true, true, true, true, true, true, true, true, true, true, false, true, true, false, false, false, false] rfl rfl (by kernel_rfl) (fun _ _ _ h => h) (Or.inl ⟨by rfl, ?_⟩) ?_ ?_
              rotate_left
              · intro w'
                go_simp
                with_reducible rfl
              rotate_left
              · simp only [Act.put, List.setIfInBounds_toArray, List.set_cons_zero, List.set_cons_succ, i64_w, i32_w]
                rfl
              refine take_ (i := 21) (N := some 199) (v := ?_) (a' := ?_) #[true, true, true, true, true, true, true, true, true, true, true, true, true, true, true, true, true, true, true, true, true, true, true, true, false, false, false, false] rfl rfl (by kernel_rfl) (fun _ _ _ h => h) (Or.inl ⟨by rfl, ?_⟩) hHeld ?_ ?_
              rotate_left
              · rintro w' ⟨s0, s1, s2, s3, s4, s5, s6, s7, s8, s9, s10, s11⟩
                go_simp
                with_reducible rfl
              rotate_left
              · simp only [Act.put, List.setIfInBounds_toArray, List.set_cons_zero, List.set_cons_succ, i64_w, i32_w]
                rfl
              refine take_ (i := 24) (N := some 202) (v := ?_) (a' := ?_) #[true, true, true, true, true, true, true, true, true, true, true, true, true, true, true, true, true, true, true, true, true, true, true, true, true, false, false, false] rfl rfl (by kernel_rfl) (fun _ _ _ h => h) (Or.inl ⟨by rfl, ?_⟩) hHeld ?_ ?_
              rotate_left
              · rintro w' ⟨s0, s1, s2, s3, s4, s5, s6, s7, s8, s9, s10, s11⟩
                go_simp
                with_reducible rfl
              rotate_left
              · simp only [Act.put, List.setIfInBounds_toArray, List.set_cons_zero, List.set_cons_succ, i64_w, i32_w]
                rfl
              refine one_ (i := 25) (N := some 203) #[true, true, true, true, true, true, true, true, true, true, true, true, true, true, true, true, true, true, true, true, true, true, true, true, true, true, false, false] rfl rfl (by kernel_rfl) (by decide) (fun K hK => ?_)
              refine goes_ Try.func12 (by kernel_rfl) rfl #[.agg #[.int .i64 nk, .int .i64 nv, .int .i64 nl, .int .i64 nr, .int .i64 ns, .int .i64 ng], .int .i64 nk] (by rfl) rfl rfl (by simp only [List.map_toArray, List.map_cons, List.map_nil]; rfl) ?_
              with_reducible refine (CH.out _).mono ?_
              rintro e w7 ⟨rfl, b7⟩
              refine ⟨_, rfl, ?_⟩
              have z7 := b7.size
              have B7 := Lib.hid (B6.out.trans (b7.mono B6.out.size))
              refine hK.out _ _ ⟨((b7.cell (by first | omega | (simp; done) | (simp; omega))).trans hHeld.1), ((b7.cell (by first | omega | (simp; done) | (simp; omega))).trans hHeld.2.1), ((b7.cell (by first | omega | (simp; done) | (simp; omega))).trans hHeld.2.2.1), ((b7.cell (by first | omega | (simp; done) | (simp; omega))).trans hHeld.2.2.2.1), ((b7.cell (by first | omega | (simp; done) | (simp; omega))).trans hHeld.2.2.2.2.1), ((b7.cell (by first | omega | (simp; done) | (simp; omega))).trans hHeld.2.2.2.2.2.1), ((b7.cell (by first | omega | (simp; done) | (simp; omega))).trans hHeld.2.2.2.2.2.2.1), ((b7.cell (by first | omega | (simp; done) | (simp; omega))).trans hHeld.2.2.2.2.2.2.2.1), ((b7.cell (by first | omega | (simp; done) | (simp; omega))).trans hHeld.2.2.2.2.2.2.2.2.1), ((b7.cell (by first | omega | (simp; done) | (simp; omega))).trans hHeld.2.2.2.2.2.2.2.2.2.1), ((b7.cell (by first | omega | (simp; done) | (simp; omega))).trans hHeld.2.2.2.2.2.2.2.2.2.2.1), ((b7.cell (by first | omega | (simp; done) | (simp; omega))).trans hHeld.2.2.2.2.2.2.2.2.2.2.2)⟩ (fun hHeld => ?_)
              clear hK K
              refine norm_ (a' := ?_) ?_ ?_
              rotate_left
              · show Act.put _ (some 203) _ = _
                simp only [Act.put, List.setIfInBounds_toArray, List.set_cons_zero, List.set_cons_succ, i64_w, i32_w]
                rfl
              refine pure_ (i := 26) (N := some 204) (v := ?_) (a' := ?_) #[true, true, true, true, true, true, true, true, true, true, true, true, true, true, true, true, true, true, true, true, true, true, true, true, true, true, true, false] rfl rfl (by kernel_rfl) (fun _ _ _ h => h) (Or.inl ⟨by rfl, ?_⟩) ?_ ?_
              rotate_left
              · intro w'
                go_simp
                with_reducible rfl
              rotate_left
              · simp only [Act.put, List.setIfInBounds_toArray, List.set_cons_zero, List.set_cons_succ, i64_w, i32_w]
                rfl
              refine pure_ (i := 27) (N := some 205) (v := ?_) (a' := ?_) #[true, true, true, true, true, true, true, true, true, true, true, true, true, true, true, true, true, true, true, true, true, true, true, true, true, true, true, true] rfl rfl (by kernel_rfl) (fun _ _ _ h => h) (Or.inl ⟨by rfl, ?_⟩) ?_ ?_
              rotate_left
              · intro w'
                go_simp
                with_reducible rfl
              rotate_left
              · simp only [Act.put, List.setIfInBounds_toArray, List.set_cons_zero, List.set_cons_succ, i64_w, i32_w]
                rfl
              refine done_ (by kernel_rfl) ?_
              go_wp2_with fail
              go_roundw
              case rel => exact ⟨j + 1, by omega, by go_num, Lib.hid (HB.out.trans (B7.out.mono HB.out.size))⟩
              case measure => simp [intOf]; omega
          · have hjk : j = ms.length := by omega
            subst hjk
            have S10 := Lib.hid (S9.out.later HB.out)
            have hn := M9.out.no (t := (ms.length : Int) + 1) (.inr (by omega))
            have hg1 := get_any S10.out.arena ((ms.length : Int) + 1)
            rw [hn.1, hn.2] at hg1
            have G1 := Lib.hid hg1
            clear hn hg1
            go_wp2_with fail
            refine G1.out.mono ?_
            rintro e w5 ⟨rfl, b5⟩
            have S11 := Lib.hid ((S10.out.later b5).alloc (.cells #[.int .i64 0, .int .i64 0, .int .i64 0, .int .i64 0, .int .i64 0, .int .i64 0] 36))
            clear b5
            go_wp2_with (go_at_call 7; refine (awake3_any W _ S11.out.below).mono ?_; rintro e wz ⟨rfl, bz⟩)
            go_ret
            exact ⟨rfl, bz⟩

end Go.Proofs.Ytbndhaocohomjaa
