/- The walk of the law JoinParts. -/
import Derived.Test.YtkcfkanfdbejiaaAwake8
import Derived.Test.YtkcfkanfdbejiaaRefW
import Derived.Test.YtkcfkanfdbejiaaSaysW
import Derived.Test.YtkcfkanfdbejiaaPartW
import Derived.Test.YtkcfkanfdbejiaaIrelQ
import Derived.Test.YtkcfkanfdbejiaaJoinP
import Derived.Test.YtkcfkanfdbejiaaWMore
namespace Go.Proofs.Ytkcfkanfdbejiaa
set_option maxRecDepth 100000
open Go.RowKit Go.Proofs.YtkcfkanfdbejiaaW.PrintWords Go.Proofs.YtkcfkanfdbejiaaW.PrintLast
set_option linter.unusedSimpArgs false
set_option linter.unusedVariables false

set_option maxRecDepth 100000 in
set_option maxHeartbeats 4000000 in
theorem joinParts_walk (W : World) {ad : Option Addr} {c : Nat} {l : List Pr} (hl : PIn W ad c l) (hokl : okP l) {ad2 : Option Addr} {c2 : Nat} {keys : List Int} (hk2 : IntsArg W ad2 c2 keys) :
    Calls Try.prog 10 #[.slice ad l.length c, .slice ad2 keys.length c2] W fun e w' => e = .returned (.bool true) ∧ Below W.heap.size W w' := by
  have hp := pairs_any W hl 40 (by decide) (by decide)
  have hpl := (pairsB_len l 40 (by decide) l.length).1
  have hs := pairs_sorted l 40
  have hok := pairs_ok 40 hokl
  rw [show pairsB l 40 l.length = pairs l 40 from rfl] at hpl
  generalize pairs l 40 = q at hp hpl hs hok
  have HP := Lib.hid hp; clear hp hl
  have HQ := Lib.hid hs; clear hs
  have HOK := Lib.hid hok; clear hok hokl
  have HKEYS := Lib.hid hk2; clear hk2
  have hq40 : q.length ≤ 40 := by omega
  go_enter Try.func10, Try.ntmps10
  go_wp2_with fail
  refine HP.out.mono ?_
  rintro e w1 ⟨ad1, c1, rfl, p1, n1, b1⟩
  have P1 := Lib.hid p1; clear p1 n1
  have B1 := Lib.hid b1; clear b1
  by_cases h6 : 6 < (keys.length : Int)
  · go_wp2_with (go_at_call 29; refine (awake8_any W _ B1.out).mono ?_; rintro e wz ⟨rfl, bz⟩)
    go_ret
    exact ⟨rfl, bz⟩
  have hk6 : keys.length ≤ 6 := by omega
  go_wp2_with fail
  refine (new_any 60000 w1).mono ?_
  rintro e w2 ⟨rfl, o2, b2⟩
  have S2 := Lib.hid (St.begin B1.out o2 b2)
  have K2 := Lib.hid (PK.begin P1.out b2)
  clear o2 b2
  have la := laid_any q.length w2 w1.heap.size _ _ ad1 c1 q (Nat.le_refl _) (by omega) S2.out.arena K2.out (by rw [newA_room (by omega) (by omega), newA_slots]; simp; omega)
  have LA := Lib.hid la; clear la
  go_wp2_with fail
  refine LA.out.mono ?_
  rintro e w3 ⟨t, a3, rfl, ⟨F3, o3, g3⟩, x3, l3, t3, al3⟩
  have H3 := Lib.hid (Has.mk (S2.out.grow g3 o3) t3 (x3.1.trans (newA_room (by omega) (by omega))) (by rw [l3, newA_slots]; simp) x3.2.1 : Has W w3 w1.heap.size a3 F3 t q (60000))
  have K3 := Lib.hid (K2.out.grow g3)
  clear o3 g3 x3 l3 t3 al3
  have hlen64 : q.length ≤ 1000 := by omega
  have S3 := Lib.hid H3.out.st
  have HBEG := Lib.hid (And.intro S3.out (And.intro K3.out (And.intro (IK.nil w3 F3) (And.intro H3.out.tr (And.intro H3.out.room (show a3.slots.length ≤ 1000 + 120 * 0 by have := H3.out.used; omega))))))
  go_wp2_with fail
  go_loopw [9, 46] (fun v i wr => ∃ k : Nat, k ≤ keys.length ∧ i = .int .i64 k ∧ ∃ cs adc cc, v = .slice adc cs.length cc ∧ cs.length = k ∧ ∃ A F, Hid (St W wr (some ⟨w1.heap.size, 0, none⟩) (some A) F ∧ PK wr F ad1 c1 q ∧ IK wr F adc cc cs ∧ Tr A t q ∧ A.room = 60000 ∧ A.slots.length ≤ 1000 + 120 * k)) (fun _ i _ => keys.length - (intOf i).toNat)
  case atStart => exact ⟨0, Nat.zero_le _, rfl, [], none, 0, rfl, rfl, _, _, HBEG⟩
  case round =>
    obtain ⟨k, hk, rfl, cs, adc, cc, rfl, hcl, A, F, HR⟩ := hrel
    obtain ⟨hS, hK, hC, hT, hroom, hused⟩ := HR.out
    have S9 := Lib.hid hS; have K9 := Lib.hid hK; have C9 := Lib.hid hC; have T9 := Lib.hid hT
    have hc6 : cs.length ≤ 6 := by omega
    have HCL := Lib.hid hcl; clear hS hK hC hT HR hcl
    have hfit := S9.out.fits
    by_cases hlt : k < keys.length
    · obtain ⟨b, off, hbo, hcell⟩ := ints_cell HKEYS.out S9.out.below hlt
      subst hbo
      have hbl : b < wr.heap.size := World.block_lt_of_cell? wr _ hcell
      generalize keys[k] = x at hcell
      have hgl := hgt_le q
      obtain ⟨A4, X, Y, e4, tX, tY, x4, f4, l4⟩ := partO_room T9.out HQ.out (by omega) hfit x (by omega)
      have r4 := x4.1
      have hlh := lo_hi HQ.out x
      have hg1 := hgt_le (lo x q)
      have hg2 := hgt_le (hi x q)
      have hll := congrArg List.length hlh
      rw [List.length_append] at hll
      obtain ⟨A5, u, e5, tu, x5, f5, l5⟩ := twoO_room tX tY (by rw [hlh]; exact HQ.out) (by rw [hlh]; omega) f4 (by omega)
      rw [hlh] at tu
      have r5 := x5.1
      have T5 := Lib.hid ((T9.out.ext x4).ext x5)
      have hr5 : A5.room = 60000 := by omega
      have hu5 : A5.slots.length ≤ 1000 + 120 * (k + 1) := by omega
      have H2 := Lib.hid (And.intro T5.out (And.intro hr5 hu5))
      have TU := Lib.hid tu; have E4 := Lib.hid e4; have E5 := Lib.hid e5
      clear hgl tX tY x4 f4 l4 r4 hlh hg1 hg2 hll tu x5 f5 l5 r5 hr5 hu5 e4 e5 hroom hused hfit
      have dd := hcell
      have cc := partO_any S9.out.arena t x
      rw [E4.out] at cc
      have CC := Lib.hid cc; clear cc
      go_wp2_with fail
      refine CC.out.mono ?_
      rintro e w10 ⟨rfl, m10⟩
      clear CC
      obtain ⟨F10, o10, g10⟩ := Made.out m10
      have S10 := Lib.hid (S9.out.grow g10 o10)
      have K10 := Lib.hid (K9.out.grow g10)
      have C10 := Lib.hid (C9.out.grow g10)
      clear m10 o10 g10
      have cc := twoO_any S10.out.arena X Y
      rw [E5.out] at cc
      have CC := Lib.hid cc; clear cc
      go_wp2_with fail
      refine CC.out.mono ?_
      rintro e w11 ⟨rfl, m11⟩
      clear CC
      obtain ⟨F11, o11, g11⟩ := Made.out m11
      have S11 := Lib.hid (S10.out.grow g11 o11)
      have K11 := Lib.hid (K10.out.grow g11)
      have C11 := Lib.hid (C10.out.grow g11)
      clear m11 o11 g11
      have HS := Lib.hid (says_any _ _ _ _ _ u _ _ q (Nat.le_refl _) (by omega) S11.out.arena K11.out TU.out)
      go_wp2_with fail
      refine (HS.out).mono ?_
      rintro e w12 ⟨rfl, b12⟩
      have S12 := Lib.hid (S11.out.later b12)
      have K12 := Lib.hid (K11.out.later b12)
      have C12 := Lib.hid (C11.out.later b12)
      clear b12
      clear HS
      have SI := S12; have KI := K12; have CI := C12
      go_wp2_with fail
      go_loop [17] (fun i => ∃ j : Nat, j ≤ cs.length ∧ i = .int .i64 j) (fun i => cs.length - (intOf i).toNat)
      case atStart => exact ⟨0, Nat.zero_le _, rfl⟩
      case round =>
        obtain ⟨j, hj, rfl⟩ := hrel
        by_cases hjl : j < cs.length
        · obtain ⟨bc, oc, hbc, hcc⟩ := C12.out.cells hjl
          subst hbc
          have e0 := hcc _ _ C12.out
          generalize cs[j] = y at e0
          clear hcc
          by_cases hyx : y < x
          · go_wp2_with fail
            go_round
            case rel => exact ⟨j + 1, by omega, by go_num⟩
            case measure => simp [intOf]; omega
          · obtain ⟨A2, c2b, n2, hn2, hcutB, hPB⟩ := subI_from (ad := some ⟨bc, oc, none⟩) (c := cc) (l := cs) j hj
            have hcutA := cutI_to (some ⟨bc, oc, none⟩) cs.length cc j hj C12.out.room
            have HPB := Lib.hid hPB; have HN2 := Lib.hid hn2; clear hPB hn2
            have HTK := Lib.hid (show (cs.take j).length = j by rw [List.length_take]; omega)
            have HTD := Lib.hid (show (cs.drop j).length = cs.length - j from List.length_drop)
            have BD := Lib.hid ((Below.refl w12.heap.size w12).drew)
            have BE := Lib.hid ((BD.out.alloc (Nat.le_refl _) (.cells #[] 3)).alloc (by simp) (.cells #[.int .i64 x] 3))
            have BK := Lib.hid ((BD.out.alloc (Nat.le_refl _) (.cells #[.int .i64 x] 3)).alloc (by simp) (.cells #[] 3))
            have BE0 := Lib.hid (BD.out.alloc (Nat.le_refl _) (.cells #[] 3))
            have R0 := Lib.hid (show IRel w12.heap.size (w12.drew.alloc (.cells #[] 3)) (.slice (some ⟨w12.heap.size, 0, none⟩) 0 0) [] from IRel.empty _ w12.drew (Nat.le_refl _))
            have R06 := Lib.hid (show IRel w12.heap.size ((w12.drew.alloc (.cells #[] 3)).alloc (.cells #[.int .i64 x] 3)) (.slice (some ⟨w12.heap.size, 0, none⟩) 0 0) [] from R0.out.alloc _)
            have R60 := Lib.hid (show IRel w12.heap.size ((w12.drew.alloc (.cells #[.int .i64 x] 3)).alloc (.cells #[] 3)) (.slice (some ⟨w12.heap.size + 1, 0, none⟩) 0 0) [] by have h := IRel.empty w12.heap.size (w12.drew.alloc (.cells #[.int .i64 x] 3)) (by simp); simpa using h)
            have G06 := Lib.hid (show ((w12.drew.alloc (.cells #[] 3)).alloc (.cells #[.int .i64 x] 3)).heap[w12.heap.size + 1]? = some (.cells #[.int .i64 x] 3 (0, 0)) by have h := heap_alloc_new (w12.drew.alloc (.cells #[] 3)) (.cells #[.int .i64 x] 3); simpa using h)
            have G60 := Lib.hid (show ((w12.drew.alloc (.cells #[.int .i64 x] 3)).alloc (.cells #[] 3)).heap[w12.heap.size]? = some (.cells #[.int .i64 x] 3 (0, 0)) by have h := ((Below.refl (w12.drew.alloc (.cells #[.int .i64 x] 3)).heap.size (w12.drew.alloc (.cells #[.int .i64 x] 3))).alloc (Nat.le_refl _) (.cells #[] 3)).block w12.heap.size (by simp); exact h.trans (heap_alloc_new w12.drew (.cells #[.int .i64 x] 3)))
            have PT0 := Lib.hid ((C12.out.later BE0.out).take j)
            have PT1 := Lib.hid ((C12.out.later BE.out).take j)
            have PT2 := Lib.hid ((C12.out.later BK.out).take j)
            go_wp2_with fail
            refine start_ (n := 13) (S := fun w' => True) (ds := []) #[false, false, false, false, false, false, false, false, false, false, false, false, false] (by kernel_rfl) rfl rfl trivial (fun hHeld => ?_)
            refine pure_ (i := 1) (N := some 93) (v := ?_) (a' := ?_) #[false, true, false, false, false, false, false, false, false, false, false, false, false] rfl rfl (by kernel_rfl) (fun _ _ _ h => h) (Or.inl ⟨by rfl, ?_⟩) ?_ ?_
            rotate_left
            · intro w'
              go_simp
              with_reducible rfl
            rotate_left
            · simp only [Act.put, List.setIfInBounds_toArray, List.set_cons_zero, List.set_cons_succ, i64_w, i32_w]
              rfl
            refine pure_ (i := 2) (N := some 94) (v := ?_) (a' := ?_) #[false, true, true, false, false, false, false, false, false, false, false, false, false] rfl rfl (by kernel_rfl) (fun _ _ _ h => h) (Or.inl ⟨by rfl, ?_⟩) ?_ ?_
            rotate_left
            · intro w'
              go_simp
              with_reducible rfl
            rotate_left
            · simp only [Act.put, List.setIfInBounds_toArray, List.set_cons_zero, List.set_cons_succ, i64_w, i32_w]
              rfl
            refine pure_ (i := 3) (N := some 95) (v := ?_) (a' := ?_) #[false, true, true, true, false, false, false, false, false, false, false, false, false] rfl rfl (by kernel_rfl) (fun _ _ _ h => h) (Or.inl ⟨by rfl, ?_⟩) ?_ ?_
            rotate_left
            · intro w'
              go_simp
              with_reducible rfl
            rotate_left
            · simp only [Act.put, List.setIfInBounds_toArray, List.set_cons_zero, List.set_cons_succ, i64_w, i32_w]
              rfl
            refine pure_ (i := 5) (N := some 97) (v := ?_) (a' := ?_) #[false, true, true, true, false, true, false, false, false, false, false, false, false] rfl rfl (by kernel_rfl) (fun _ _ _ h => h) (Or.inl ⟨by rfl, ?_⟩) ?_ ?_
            rotate_left
            · intro w'
              go_simp
              with_reducible rfl
            rotate_left
            · simp only [Act.put, List.setIfInBounds_toArray, List.set_cons_zero, List.set_cons_succ, i64_w, i32_w]
              rfl
            refine pure_ (i := 8) (N := some 100) (v := ?_) (a' := ?_) #[false, true, true, true, false, true, false, false, true, false, false, false, false] rfl rfl (by kernel_rfl) (fun _ _ _ h => h) (Or.inl ⟨by rfl, ?_⟩) ?_ ?_
            rotate_left
            · intro w'
              go_simp
              with_reducible rfl
            rotate_left
            · simp only [Act.put, List.setIfInBounds_toArray, List.set_cons_zero, List.set_cons_succ, i64_w, i32_w]
              rfl
            refine pure_ (i := 9) (N := some 101) (v := ?_) (a' := ?_) #[false, true, true, true, false, true, false, false, true, true, false, false, false] rfl rfl (by kernel_rfl) (fun _ _ _ h => h) (Or.inl ⟨by rfl, ?_⟩) ?_ ?_
            rotate_left
            · intro w'
              go_simp
              with_reducible rfl
            rotate_left
            · simp only [Act.put, List.setIfInBounds_toArray, List.set_cons_zero, List.set_cons_succ, i64_w, i32_w]
              rfl
            refine pure_ (i := 10) (N := some 102) (v := ?_) (a' := ?_) #[false, true, true, true, false, true, false, false, true, true, true, false, false] rfl rfl (by kernel_rfl) (fun _ _ _ h => h) (Or.inl ⟨by rfl, ?_⟩) ?_ ?_
            rotate_left
            · intro w'
              go_simp
              with_reducible rfl
            rotate_left
            · simp only [Act.put, List.setIfInBounds_toArray, List.set_cons_zero, List.set_cons_succ, i64_w, i32_w]
              rfl
            refine join_ (σ := Nat × Value × Nat) 3 #[true, true, true, true, true, true, true, false, true, true, true, false, false] (fun s => [(92, .slice (some ⟨s.1, 0, none⟩) 0 0), (96, s.2.1), (98, .slice (some ⟨s.2.2, 0, none⟩) 1 1)]) (fun s w' => IRel w12.heap.size w' s.2.1 (cs.take j) ∧ w'.heap[s.2.2]? = some (.cells #[.int .i64 x] 3 (0, 0)) ∧ Below w12.heap.size w12 w') ?_ ?_
            rotate_left
            · intro hCont
              refine two_ (i := 0) (j := 6) (Ni := some 92) (Nj := some 98) #[true, true, true, true, false, true, false, false, true, true, true, false, false] #[false, true, true, true, false, true, true, false, true, true, true, false, false] rfl rfl rfl rfl (by kernel_rfl) (by decide) (by decide) (fun K hK => ?_) (fun K hK => ?_)
              · skip
                refine value_ (w1 := ?_) (v := ?_) (by rfl) rfl ?_ ?_
                rotate_left 2
                · go_simp
                  constructor
                  · rfl
                  · rfl
                refine hK.out _ _ trivial (fun hHeld => ?_)
                clear hK K
                refine norm_ (a' := ?_) ?_ ?_
                rotate_left
                · show Act.put _ (some 92) _ = _
                  simp only [Act.put, List.setIfInBounds_toArray, List.set_cons_zero, List.set_cons_succ, i64_w, i32_w]
                  rfl
                refine two_ (i := 4) (j := 6) (Ni := some 96) (Nj := some 98) #[true, true, true, true, true, true, false, false, true, true, true, false, false] #[true, true, true, true, false, true, true, false, true, true, true, false, false] rfl rfl rfl rfl (by kernel_rfl) (by decide) (by decide) (fun K hK => ?_) (fun K hK => ?_)
                · skip
                  refine step_appI (v := .slice (some ⟨w12.heap.size, 0, none⟩) 0 0) (ys := cs.take j) (by rfl) rfl (.tmp 92) (.tmp 95) rfl rfl (by rw [HTK.out]; rfl) R0.out PT0.out (by rw [HTK.out]; simp; omega) ?_
                  intro v1 w41 r1x g1
                  have r1 : IRel _ w41 v1 (cs.take j) := r1x
                  have R1 := Lib.hid r1
                  have B1y := Lib.hid (Below.growI BE0.out R0.out g1)
                  clear r1x r1
                  refine hK.out _ _ trivial (fun hHeld => ?_)
                  clear hK K
                  refine norm_ (a' := ?_) ?_ ?_
                  rotate_left
                  · show Act.put _ (some 96) _ = _
                    simp only [Act.put, List.setIfInBounds_toArray, List.set_cons_zero, List.set_cons_succ, i64_w, i32_w]
                    rfl
                  refine one_ (i := 6) (N := some 98) #[true, true, true, true, true, true, true, false, true, true, true, false, false] rfl rfl (by kernel_rfl) (by decide) (fun K hK => ?_)
                  refine value_ (w1 := ?_) (v := ?_) (by rfl) rfl ?_ ?_
                  rotate_left 2
                  · go_simp
                    constructor
                    · rfl
                    · rfl
                  refine hK.out _ _ trivial (fun hHeld => ?_)
                  clear hK K
                  refine norm_ (a' := ?_) ?_ ?_
                  rotate_left
                  · show Act.put _ (some 98) _ = _
                    simp only [Act.put, List.setIfInBounds_toArray, List.set_cons_zero, List.set_cons_succ, i64_w, i32_w]
                    rfl
                  exact norm_ (by first | (simp only [putAll, Act.put, List.setIfInBounds_toArray, List.set_cons_zero, List.set_cons_succ]; done) | (simp only [putAll, Act.put, List.setIfInBounds_toArray, List.set_cons_zero, List.set_cons_succ]; rfl)) (hCont (w12.heap.size, v1, w41.heap.size) _ ⟨R1.out.alloc _, heap_alloc_new _ _, B1y.out.alloc B1y.out.size _⟩)
                · skip
                  refine value_ (w1 := ?_) (v := ?_) (by rfl) rfl ?_ ?_
                  rotate_left 2
                  · go_simp
                    constructor
                    · rfl
                    · rfl
                  refine hK.out _ _ trivial (fun hHeld => ?_)
                  clear hK K
                  refine norm_ (a' := ?_) ?_ ?_
                  rotate_left
                  · show Act.put _ (some 98) _ = _
                    simp only [Act.put, List.setIfInBounds_toArray, List.set_cons_zero, List.set_cons_succ, i64_w, i32_w]
                    rfl
                  refine one_ (i := 4) (N := some 96) #[true, true, true, true, true, true, true, false, true, true, true, false, false] rfl rfl (by kernel_rfl) (by decide) (fun K hK => ?_)
                  refine step_appI (v := .slice (some ⟨w12.heap.size, 0, none⟩) 0 0) (ys := cs.take j) (by rfl) rfl (.tmp 92) (.tmp 95) rfl rfl (by rw [HTK.out]; rfl) R06.out PT1.out (by rw [HTK.out]; simp; omega) ?_
                  intro v1 w41 r1x g1
                  have r1 : IRel _ w41 v1 (cs.take j) := r1x
                  have R1 := Lib.hid r1
                  have B1y := Lib.hid (Below.growI BE.out R06.out g1)
                  clear r1x r1
                  refine hK.out _ _ trivial (fun hHeld => ?_)
                  clear hK K
                  refine norm_ (a' := ?_) ?_ ?_
                  rotate_left
                  · show Act.put _ (some 96) _ = _
                    simp only [Act.put, List.setIfInBounds_toArray, List.set_cons_zero, List.set_cons_succ, i64_w, i32_w]
                    rfl
                  exact norm_ (by first | (simp only [putAll, Act.put, List.setIfInBounds_toArray, List.set_cons_zero, List.set_cons_succ]; done) | (simp only [putAll, Act.put, List.setIfInBounds_toArray, List.set_cons_zero, List.set_cons_succ]; rfl)) (hCont (w12.heap.size, v1, w12.heap.size + 1) _ ⟨R1.out, (g1.block _ (by first | (simp; done) | (simp; omega)) (by simp [Value.ownBlock])).trans G06.out, B1y.out⟩)
              · skip
                refine value_ (w1 := ?_) (v := ?_) (by rfl) rfl ?_ ?_
                rotate_left 2
                · go_simp
                  constructor
                  · rfl
                  · rfl
                refine hK.out _ _ trivial (fun hHeld => ?_)
                clear hK K
                refine norm_ (a' := ?_) ?_ ?_
                rotate_left
                · show Act.put _ (some 98) _ = _
                  simp only [Act.put, List.setIfInBounds_toArray, List.set_cons_zero, List.set_cons_succ, i64_w, i32_w]
                  rfl
                refine one_ (i := 0) (N := some 92) #[true, true, true, true, false, true, true, false, true, true, true, false, false] rfl rfl (by kernel_rfl) (by decide) (fun K hK => ?_)
                refine value_ (w1 := ?_) (v := ?_) (by rfl) rfl ?_ ?_
                rotate_left 2
                · go_simp
                  constructor
                  · rfl
                  · rfl
                refine hK.out _ _ trivial (fun hHeld => ?_)
                clear hK K
                refine norm_ (a' := ?_) ?_ ?_
                rotate_left
                · show Act.put _ (some 92) _ = _
                  simp only [Act.put, List.setIfInBounds_toArray, List.set_cons_zero, List.set_cons_succ, i64_w, i32_w]
                  rfl
                refine one_ (i := 4) (N := some 96) #[true, true, true, true, true, true, true, false, true, true, true, false, false] rfl rfl (by kernel_rfl) (by decide) (fun K hK => ?_)
                refine step_appI (v := .slice (some ⟨w12.heap.size + 1, 0, none⟩) 0 0) (ys := cs.take j) (by rfl) rfl (.tmp 92) (.tmp 95) rfl rfl (by rw [HTK.out]; rfl) R60.out PT2.out (by rw [HTK.out]; simp; omega) ?_
                intro v1 w41 r1x g1
                have r1 : IRel _ w41 v1 (cs.take j) := r1x
                have R1 := Lib.hid r1
                have B1y := Lib.hid (Below.growI BK.out R60.out g1)
                clear r1x r1
                refine hK.out _ _ trivial (fun hHeld => ?_)
                clear hK K
                refine norm_ (a' := ?_) ?_ ?_
                rotate_left
                · show Act.put _ (some 96) _ = _
                  simp only [Act.put, List.setIfInBounds_toArray, List.set_cons_zero, List.set_cons_succ, i64_w, i32_w]
                  rfl
                exact norm_ (by first | (simp only [putAll, Act.put, List.setIfInBounds_toArray, List.set_cons_zero, List.set_cons_succ]; done) | (simp only [putAll, Act.put, List.setIfInBounds_toArray, List.set_cons_zero, List.set_cons_succ]; rfl)) (hCont (w12.heap.size + 1, v1, w12.heap.size) _ ⟨R1.out, (g1.block _ (by first | (simp; done) | (simp; omega)) (by simp [Value.ownBlock])).trans G60.out, B1y.out⟩)
            rintro ⟨g0, v1, g6⟩ w44 ⟨r1, hg6, b44⟩
            have hHeld : True := trivial
            have R1 := Lib.hid r1
            have G6 := Lib.hid hg6
            have B44 := Lib.hid b44
            clear r1 hg6 b44
            refine norm_ (a' := ?_) ?_ ?_
            rotate_left
            · simp only [putAll, Act.put, List.setIfInBounds_toArray, List.set_cons_zero, List.set_cons_succ]
              rfl
            refine one_ (i := 7) (N := some 99) #[true, true, true, true, true, true, true, true, true, true, true, false, false] rfl rfl (by kernel_rfl) (by decide) (fun K hK => ?_)
            refine step_appI (ys := [x]) (by rfl) rfl (.tmp 96) (.tmp 98) rfl rfl rfl R1.out (IK.one G6.out) (by rw [HTK.out]; simp; omega) ?_
            intro v2 w45 r2 g2
            have R2 := Lib.hid r2
            have B45 := Lib.hid (Below.growI B44.out R1.out g2)
            clear r2 g2
            have PD := Lib.hid (HPB.out _ _ (C12.out.later B45.out))
            refine hK.out _ _ trivial (fun hHeld => ?_)
            clear hK K
            refine norm_ (a' := ?_) ?_ ?_
            rotate_left
            · show Act.put _ (some 99) _ = _
              simp only [Act.put, List.setIfInBounds_toArray, List.set_cons_zero, List.set_cons_succ, i64_w, i32_w]
              rfl
            refine one_ (i := 11) (N := some 103) #[true, true, true, true, true, true, true, true, true, true, true, true, false] rfl rfl (by kernel_rfl) (by decide) (fun K hK => ?_)
            refine step_appI (ys := cs.drop j) (by rfl) rfl (.tmp 99) (.tmp 102) rfl rfl (by rw [← HN2.out]; rfl) R2.out PD.out (by rw [List.length_append, HTK.out, HTD.out]; simp; omega) ?_
            intro v3 w46 r3 g3
            have B46 := Lib.hid (Below.growI B45.out R2.out g3)
            have hcl : (cs.take j ++ [x] ++ cs.drop j).length = cs.length + 1 := by rw [List.length_append, List.length_append, HTK.out, HTD.out]; simp; omega
            generalize cs.take j ++ [x] ++ cs.drop j = cs2 at r3 hcl
            obtain ⟨adn, cn, hv3, pn, nn⟩ := r3.gives
            have HC2 := Lib.hid hcl
            have N46 := Lib.hid (IK.side (F := F11) pn (fun x hx hf => by have := nn x hx; have := S12.out.arena.lt _ hf; omega))
            subst hv3
            clear g3 hcl pn nn r3
            refine hK.out _ _ trivial (fun hHeld => ?_)
            clear hK K
            refine norm_ (a' := ?_) ?_ ?_
            rotate_left
            · show Act.put _ (some 103) _ = _
              simp only [Act.put, List.setIfInBounds_toArray, List.set_cons_zero, List.set_cons_succ, i64_w, i32_w]
              rfl
            refine pure_ (i := 12) (N := some 9) (v := ?_) (a' := ?_) #[true, true, true, true, true, true, true, true, true, true, true, true, true] rfl rfl (by kernel_rfl) (fun _ _ _ h => h) (Or.inl ⟨by rfl, ?_⟩) ?_ ?_
            rotate_left
            · intro w'
              go_simp
              with_reducible rfl
            rotate_left
            · simp only [Act.put, List.setIfInBounds_toArray, List.set_cons_zero, List.set_cons_succ, i64_w, i32_w]
              rfl
            refine done_ (by kernel_rfl) ?_
            have S46 := Lib.hid (S12.out.later B46.out)
            have K46 := Lib.hid (K12.out.later B46.out)
            clear hcutA hcutB
            go_wp2_with fail
            go_roundw
            case rel => exact ⟨k + 1, by omega, by go_num, cs2, adn, cn, rfl, by rw [HC2.out, HCL.out], _, _, Lib.hid ⟨S46.out, K46.out, N46.out, H2.out.1, H2.out.2.1, H2.out.2.2⟩⟩
            case measure => simp [intOf]; omega
        · obtain ⟨A2, c2b, n2, hn2, hcutB, hPB⟩ := subI_from (ad := adc) (c := cc) (l := cs) j hj
          have hcutA := cutI_to adc cs.length cc j hj C12.out.room
          have HPB := Lib.hid hPB; have HN2 := Lib.hid hn2; clear hPB hn2
          have HTK := Lib.hid (show (cs.take j).length = j by rw [List.length_take]; omega)
          have HTD := Lib.hid (show (cs.drop j).length = cs.length - j from List.length_drop)
          have BD := Lib.hid ((Below.refl w12.heap.size w12).drew)
          have BE := Lib.hid ((BD.out.alloc (Nat.le_refl _) (.cells #[] 3)).alloc (by simp) (.cells #[.int .i64 x] 3))
          have BK := Lib.hid ((BD.out.alloc (Nat.le_refl _) (.cells #[.int .i64 x] 3)).alloc (by simp) (.cells #[] 3))
          have BE0 := Lib.hid (BD.out.alloc (Nat.le_refl _) (.cells #[] 3))
          have R0 := Lib.hid (show IRel w12.heap.size (w12.drew.alloc (.cells #[] 3)) (.slice (some ⟨w12.heap.size, 0, none⟩) 0 0) [] from IRel.empty _ w12.drew (Nat.le_refl _))
          have R06 := Lib.hid (show IRel w12.heap.size ((w12.drew.alloc (.cells #[] 3)).alloc (.cells #[.int .i64 x] 3)) (.slice (some ⟨w12.heap.size, 0, none⟩) 0 0) [] from R0.out.alloc _)
          have R60 := Lib.hid (show IRel w12.heap.size ((w12.drew.alloc (.cells #[.int .i64 x] 3)).alloc (.cells #[] 3)) (.slice (some ⟨w12.heap.size + 1, 0, none⟩) 0 0) [] by have h := IRel.empty w12.heap.size (w12.drew.alloc (.cells #[.int .i64 x] 3)) (by simp); simpa using h)
          have G06 := Lib.hid (show ((w12.drew.alloc (.cells #[] 3)).alloc (.cells #[.int .i64 x] 3)).heap[w12.heap.size + 1]? = some (.cells #[.int .i64 x] 3 (0, 0)) by have h := heap_alloc_new (w12.drew.alloc (.cells #[] 3)) (.cells #[.int .i64 x] 3); simpa using h)
          have G60 := Lib.hid (show ((w12.drew.alloc (.cells #[.int .i64 x] 3)).alloc (.cells #[] 3)).heap[w12.heap.size]? = some (.cells #[.int .i64 x] 3 (0, 0)) by have h := ((Below.refl (w12.drew.alloc (.cells #[.int .i64 x] 3)).heap.size (w12.drew.alloc (.cells #[.int .i64 x] 3))).alloc (Nat.le_refl _) (.cells #[] 3)).block w12.heap.size (by simp); exact h.trans (heap_alloc_new w12.drew (.cells #[.int .i64 x] 3)))
          have PT0 := Lib.hid ((C12.out.later BE0.out).take j)
          have PT1 := Lib.hid ((C12.out.later BE.out).take j)
          have PT2 := Lib.hid ((C12.out.later BK.out).take j)
          go_wp2_with fail
          refine start_ (n := 13) (S := fun w' => True) (ds := []) #[false, false, false, false, false, false, false, false, false, false, false, false, false] (by kernel_rfl) rfl rfl trivial (fun hHeld => ?_)
          refine pure_ (i := 1) (N := some 93) (v := ?_) (a' := ?_) #[false, true, false, false, false, false, false, false, false, false, false, false, false] rfl rfl (by kernel_rfl) (fun _ _ _ h => h) (Or.inl ⟨by rfl, ?_⟩) ?_ ?_
          rotate_left
          · intro w'
            go_simp
            with_reducible rfl
          rotate_left
          · simp only [Act.put, List.setIfInBounds_toArray, List.set_cons_zero, List.set_cons_succ, i64_w, i32_w]
            rfl
          refine pure_ (i := 2) (N := some 94) (v := ?_) (a' := ?_) #[false, true, true, false, false, false, false, false, false, false, false, false, false] rfl rfl (by kernel_rfl) (fun _ _ _ h => h) (Or.inl ⟨by rfl, ?_⟩) ?_ ?_
          rotate_left
          · intro w'
            go_simp
            with_reducible rfl
          rotate_left
          · simp only [Act.put, List.setIfInBounds_toArray, List.set_cons_zero, List.set_cons_succ, i64_w, i32_w]
            rfl
          refine pure_ (i := 3) (N := some 95) (v := ?_) (a' := ?_) #[false, true, true, true, false, false, false, false, false, false, false, false, false] rfl rfl (by kernel_rfl) (fun _ _ _ h => h) (Or.inl ⟨by rfl, ?_⟩) ?_ ?_
          rotate_left
          · intro w'
            go_simp
            with_reducible rfl
          rotate_left
          · simp only [Act.put, List.setIfInBounds_toArray, List.set_cons_zero, List.set_cons_succ, i64_w, i32_w]
            rfl
          refine pure_ (i := 5) (N := some 97) (v := ?_) (a' := ?_) #[false, true, true, true, false, true, false, false, false, false, false, false, false] rfl rfl (by kernel_rfl) (fun _ _ _ h => h) (Or.inl ⟨by rfl, ?_⟩) ?_ ?_
          rotate_left
          · intro w'
            go_simp
            with_reducible rfl
          rotate_left
          · simp only [Act.put, List.setIfInBounds_toArray, List.set_cons_zero, List.set_cons_succ, i64_w, i32_w]
            rfl
          refine pure_ (i := 8) (N := some 100) (v := ?_) (a' := ?_) #[false, true, true, true, false, true, false, false, true, false, false, false, false] rfl rfl (by kernel_rfl) (fun _ _ _ h => h) (Or.inl ⟨by rfl, ?_⟩) ?_ ?_
          rotate_left
          · intro w'
            go_simp
            with_reducible rfl
          rotate_left
          · simp only [Act.put, List.setIfInBounds_toArray, List.set_cons_zero, List.set_cons_succ, i64_w, i32_w]
            rfl
          refine pure_ (i := 9) (N := some 101) (v := ?_) (a' := ?_) #[false, true, true, true, false, true, false, false, true, true, false, false, false] rfl rfl (by kernel_rfl) (fun _ _ _ h => h) (Or.inl ⟨by rfl, ?_⟩) ?_ ?_
          rotate_left
          · intro w'
            go_simp
            with_reducible rfl
          rotate_left
          · simp only [Act.put, List.setIfInBounds_toArray, List.set_cons_zero, List.set_cons_succ, i64_w, i32_w]
            rfl
          refine pure_ (i := 10) (N := some 102) (v := ?_) (a' := ?_) #[false, true, true, true, false, true, false, false, true, true, true, false, false] rfl rfl (by kernel_rfl) (fun _ _ _ h => h) (Or.inl ⟨by rfl, ?_⟩) ?_ ?_
          rotate_left
          · intro w'
            go_simp
            with_reducible rfl
          rotate_left
          · simp only [Act.put, List.setIfInBounds_toArray, List.set_cons_zero, List.set_cons_succ, i64_w, i32_w]
            rfl
          refine join_ (σ := Nat × Value × Nat) 3 #[true, true, true, true, true, true, true, false, true, true, true, false, false] (fun s => [(92, .slice (some ⟨s.1, 0, none⟩) 0 0), (96, s.2.1), (98, .slice (some ⟨s.2.2, 0, none⟩) 1 1)]) (fun s w' => IRel w12.heap.size w' s.2.1 (cs.take j) ∧ w'.heap[s.2.2]? = some (.cells #[.int .i64 x] 3 (0, 0)) ∧ Below w12.heap.size w12 w') ?_ ?_
          rotate_left
          · intro hCont
            refine two_ (i := 0) (j := 6) (Ni := some 92) (Nj := some 98) #[true, true, true, true, false, true, false, false, true, true, true, false, false] #[false, true, true, true, false, true, true, false, true, true, true, false, false] rfl rfl rfl rfl (by kernel_rfl) (by decide) (by decide) (fun K hK => ?_) (fun K hK => ?_)
            · skip
              refine value_ (w1 := ?_) (v := ?_) (by rfl) rfl ?_ ?_
              rotate_left 2
              · go_simp
                constructor
                · rfl
                · rfl
              refine hK.out _ _ trivial (fun hHeld => ?_)
              clear hK K
              refine norm_ (a' := ?_) ?_ ?_
              rotate_left
              · show Act.put _ (some 92) _ = _
                simp only [Act.put, List.setIfInBounds_toArray, List.set_cons_zero, List.set_cons_succ, i64_w, i32_w]
                rfl
              refine two_ (i := 4) (j := 6) (Ni := some 96) (Nj := some 98) #[true, true, true, true, true, true, false, false, true, true, true, false, false] #[true, true, true, true, false, true, true, false, true, true, true, false, false] rfl rfl rfl rfl (by kernel_rfl) (by decide) (by decide) (fun K hK => ?_) (fun K hK => ?_)
              · skip
                refine step_appI (v := .slice (some ⟨w12.heap.size, 0, none⟩) 0 0) (ys := cs.take j) (by rfl) rfl (.tmp 92) (.tmp 95) rfl rfl (by rw [HTK.out]; rfl) R0.out PT0.out (by rw [HTK.out]; simp; omega) ?_
                intro v1 w41 r1x g1
                have r1 : IRel _ w41 v1 (cs.take j) := r1x
                have R1 := Lib.hid r1
                have B1y := Lib.hid (Below.growI BE0.out R0.out g1)
                clear r1x r1
                refine hK.out _ _ trivial (fun hHeld => ?_)
                clear hK K
                refine norm_ (a' := ?_) ?_ ?_
                rotate_left
                · show Act.put _ (some 96) _ = _
                  simp only [Act.put, List.setIfInBounds_toArray, List.set_cons_zero, List.set_cons_succ, i64_w, i32_w]
                  rfl
                refine one_ (i := 6) (N := some 98) #[true, true, true, true, true, true, true, false, true, true, true, false, false] rfl rfl (by kernel_rfl) (by decide) (fun K hK => ?_)
                refine value_ (w1 := ?_) (v := ?_) (by rfl) rfl ?_ ?_
                rotate_left 2
                · go_simp
                  constructor
                  · rfl
                  · rfl
                refine hK.out _ _ trivial (fun hHeld => ?_)
                clear hK K
                refine norm_ (a' := ?_) ?_ ?_
                rotate_left
                · show Act.put _ (some 98) _ = _
                  simp only [Act.put, List.setIfInBounds_toArray, List.set_cons_zero, List.set_cons_succ, i64_w, i32_w]
                  rfl
                exact norm_ (by first | (simp only [putAll, Act.put, List.setIfInBounds_toArray, List.set_cons_zero, List.set_cons_succ]; done) | (simp only [putAll, Act.put, List.setIfInBounds_toArray, List.set_cons_zero, List.set_cons_succ]; rfl)) (hCont (w12.heap.size, v1, w41.heap.size) _ ⟨R1.out.alloc _, heap_alloc_new _ _, B1y.out.alloc B1y.out.size _⟩)
              · skip
                refine value_ (w1 := ?_) (v := ?_) (by rfl) rfl ?_ ?_
                rotate_left 2
                · go_simp
                  constructor
                  · rfl
                  · rfl
                refine hK.out _ _ trivial (fun hHeld => ?_)
                clear hK K
                refine norm_ (a' := ?_) ?_ ?_
                rotate_left
                · show Act.put _ (some 98) _ = _
                  simp only [Act.put, List.setIfInBounds_toArray, List.set_cons_zero, List.set_cons_succ, i64_w, i32_w]
                  rfl
                refine one_ (i := 4) (N := some 96) #[true, true, true, true, true, true, true, false, true, true, true, false, false] rfl rfl (by kernel_rfl) (by decide) (fun K hK => ?_)
                refine step_appI (v := .slice (some ⟨w12.heap.size, 0, none⟩) 0 0) (ys := cs.take j) (by rfl) rfl (.tmp 92) (.tmp 95) rfl rfl (by rw [HTK.out]; rfl) R06.out PT1.out (by rw [HTK.out]; simp; omega) ?_
                intro v1 w41 r1x g1
                have r1 : IRel _ w41 v1 (cs.take j) := r1x
                have R1 := Lib.hid r1
                have B1y := Lib.hid (Below.growI BE.out R06.out g1)
                clear r1x r1
                refine hK.out _ _ trivial (fun hHeld => ?_)
                clear hK K
                refine norm_ (a' := ?_) ?_ ?_
                rotate_left
                · show Act.put _ (some 96) _ = _
                  simp only [Act.put, List.setIfInBounds_toArray, List.set_cons_zero, List.set_cons_succ, i64_w, i32_w]
                  rfl
                exact norm_ (by first | (simp only [putAll, Act.put, List.setIfInBounds_toArray, List.set_cons_zero, List.set_cons_succ]; done) | (simp only [putAll, Act.put, List.setIfInBounds_toArray, List.set_cons_zero, List.set_cons_succ]; rfl)) (hCont (w12.heap.size, v1, w12.heap.size + 1) _ ⟨R1.out, (g1.block _ (by first | (simp; done) | (simp; omega)) (by simp [Value.ownBlock])).trans G06.out, B1y.out⟩)
            · skip
              refine value_ (w1 := ?_) (v := ?_) (by rfl) rfl ?_ ?_
              rotate_left 2
              · go_simp
                constructor
                · rfl
                · rfl
              refine hK.out _ _ trivial (fun hHeld => ?_)
              clear hK K
              refine norm_ (a' := ?_) ?_ ?_
              rotate_left
              · show Act.put _ (some 98) _ = _
                simp only [Act.put, List.setIfInBounds_toArray, List.set_cons_zero, List.set_cons_succ, i64_w, i32_w]
                rfl
              refine one_ (i := 0) (N := some 92) #[true, true, true, true, false, true, true, false, true, true, true, false, false] rfl rfl (by kernel_rfl) (by decide) (fun K hK => ?_)
              refine value_ (w1 := ?_) (v := ?_) (by rfl) rfl ?_ ?_
              rotate_left 2
              · go_simp
                constructor
                · rfl
                · rfl
              refine hK.out _ _ trivial (fun hHeld => ?_)
              clear hK K
              refine norm_ (a' := ?_) ?_ ?_
              rotate_left
              · show Act.put _ (some 92) _ = _
                simp only [Act.put, List.setIfInBounds_toArray, List.set_cons_zero, List.set_cons_succ, i64_w, i32_w]
                rfl
              refine one_ (i := 4) (N := some 96) #[true, true, true, true, true, true, true, false, true, true, true, false, false] rfl rfl (by kernel_rfl) (by decide) (fun K hK => ?_)
              refine step_appI (v := .slice (some ⟨w12.heap.size + 1, 0, none⟩) 0 0) (ys := cs.take j) (by rfl) rfl (.tmp 92) (.tmp 95) rfl rfl (by rw [HTK.out]; rfl) R60.out PT2.out (by rw [HTK.out]; simp; omega) ?_
              intro v1 w41 r1x g1
              have r1 : IRel _ w41 v1 (cs.take j) := r1x
              have R1 := Lib.hid r1
              have B1y := Lib.hid (Below.growI BK.out R60.out g1)
              clear r1x r1
              refine hK.out _ _ trivial (fun hHeld => ?_)
              clear hK K
              refine norm_ (a' := ?_) ?_ ?_
              rotate_left
              · show Act.put _ (some 96) _ = _
                simp only [Act.put, List.setIfInBounds_toArray, List.set_cons_zero, List.set_cons_succ, i64_w, i32_w]
                rfl
              exact norm_ (by first | (simp only [putAll, Act.put, List.setIfInBounds_toArray, List.set_cons_zero, List.set_cons_succ]; done) | (simp only [putAll, Act.put, List.setIfInBounds_toArray, List.set_cons_zero, List.set_cons_succ]; rfl)) (hCont (w12.heap.size + 1, v1, w12.heap.size) _ ⟨R1.out, (g1.block _ (by first | (simp; done) | (simp; omega)) (by simp [Value.ownBlock])).trans G60.out, B1y.out⟩)
          rintro ⟨g0, v1, g6⟩ w44 ⟨r1, hg6, b44⟩
          have hHeld : True := trivial
          have R1 := Lib.hid r1
          have G6 := Lib.hid hg6
          have B44 := Lib.hid b44
          clear r1 hg6 b44
          refine norm_ (a' := ?_) ?_ ?_
          rotate_left
          · simp only [putAll, Act.put, List.setIfInBounds_toArray, List.set_cons_zero, List.set_cons_succ]
            rfl
          refine one_ (i := 7) (N := some 99) #[true, true, true, true, true, true, true, true, true, true, true, false, false] rfl rfl (by kernel_rfl) (by decide) (fun K hK => ?_)
          refine step_appI (ys := [x]) (by rfl) rfl (.tmp 96) (.tmp 98) rfl rfl rfl R1.out (IK.one G6.out) (by rw [HTK.out]; simp; omega) ?_
          intro v2 w45 r2 g2
          have R2 := Lib.hid r2
          have B45 := Lib.hid (Below.growI B44.out R1.out g2)
          clear r2 g2
          have PD := Lib.hid (HPB.out _ _ (C12.out.later B45.out))
          refine hK.out _ _ trivial (fun hHeld => ?_)
          clear hK K
          refine norm_ (a' := ?_) ?_ ?_
          rotate_left
          · show Act.put _ (some 99) _ = _
            simp only [Act.put, List.setIfInBounds_toArray, List.set_cons_zero, List.set_cons_succ, i64_w, i32_w]
            rfl
          refine one_ (i := 11) (N := some 103) #[true, true, true, true, true, true, true, true, true, true, true, true, false] rfl rfl (by kernel_rfl) (by decide) (fun K hK => ?_)
          refine step_appI (ys := cs.drop j) (by rfl) rfl (.tmp 99) (.tmp 102) rfl rfl (by rw [← HN2.out]; rfl) R2.out PD.out (by rw [List.length_append, HTK.out, HTD.out]; simp; omega) ?_
          intro v3 w46 r3 g3
          have B46 := Lib.hid (Below.growI B45.out R2.out g3)
          have hcl : (cs.take j ++ [x] ++ cs.drop j).length = cs.length + 1 := by rw [List.length_append, List.length_append, HTK.out, HTD.out]; simp; omega
          generalize cs.take j ++ [x] ++ cs.drop j = cs2 at r3 hcl
          obtain ⟨adn, cn, hv3, pn, nn⟩ := r3.gives
          have HC2 := Lib.hid hcl
          have N46 := Lib.hid (IK.side (F := F11) pn (fun x hx hf => by have := nn x hx; have := S12.out.arena.lt _ hf; omega))
          subst hv3
          clear g3 hcl pn nn r3
          refine hK.out _ _ trivial (fun hHeld => ?_)
          clear hK K
          refine norm_ (a' := ?_) ?_ ?_
          rotate_left
          · show Act.put _ (some 103) _ = _
            simp only [Act.put, List.setIfInBounds_toArray, List.set_cons_zero, List.set_cons_succ, i64_w, i32_w]
            rfl
          refine pure_ (i := 12) (N := some 9) (v := ?_) (a' := ?_) #[true, true, true, true, true, true, true, true, true, true, true, true, true] rfl rfl (by kernel_rfl) (fun _ _ _ h => h) (Or.inl ⟨by rfl, ?_⟩) ?_ ?_
          rotate_left
          · intro w'
            go_simp
            with_reducible rfl
          rotate_left
          · simp only [Act.put, List.setIfInBounds_toArray, List.set_cons_zero, List.set_cons_succ, i64_w, i32_w]
            rfl
          refine done_ (by kernel_rfl) ?_
          have S46 := Lib.hid (S12.out.later B46.out)
          have K46 := Lib.hid (K12.out.later B46.out)
          clear hcutA hcutB
          go_wp2_with fail
          go_roundw
          case rel => exact ⟨k + 1, by omega, by go_num, cs2, adn, cn, rfl, by rw [HC2.out, HCL.out], _, _, Lib.hid ⟨S46.out, K46.out, N46.out, H2.out.1, H2.out.2.1, H2.out.2.2⟩⟩
          case measure => simp [intOf]; omega
    · have hkl : k = keys.length := by omega
      subst hkl
      have hc6b : cs.length ≤ 6 := hc6
      obtain ⟨wb, rfl⟩ : ∃ wb : World, wb = wr := ⟨_, rfl⟩
      have LTK := Lib.hid K9.out.pin.lt
      have LTC := Lib.hid C9.out.lt
      have hsb : W.heap.size ≤ wb.heap.size := S9.out.size
      have HB2 := Lib.hid (And.intro S9.out (And.intro K9.out (And.intro C9.out (And.intro (IRel.startB wb.heap.size wb (Nat.le_refl _)) (And.intro (show ∀ b, Value.ownBlock (.slice none 0 0) = some b → ¬ F b by intro b hb; cases hb) (And.intro (Trs.nil : Trs A [] []) (And.intro T9.out (And.intro (show ([] : List (List Pr)).flatten ++ q = q from rfl) (And.intro hroom (show A.slots.length ≤ 3000 + 40 * 0 by omega))))))))))
      clear S9 K9 C9 T9 hroom hused hfit hlt hk HCL hc6
      go_wp2_with fail
      go_loopw [18, 19, 108] (fun v zv i wr => ∃ k : Nat, k ≤ cs.length ∧ i = .int .i64 k ∧ ∃ z : Int, zv = .int .i64 z ∧ ∃ ps ls rs A2 F2, ps.length = k ∧ Hid (St W wr (some ⟨w1.heap.size, 0, none⟩) (some A2) F2 ∧ PK wr F2 ad1 c1 q ∧ IK wr F2 adc cc cs ∧ IRel wb.heap.size wr v ps ∧ (∀ b, v.ownBlock = some b → ¬ F2 b) ∧ Trs A2 ps ls ∧ Tr A2 z rs ∧ ls.flatten ++ rs = q ∧ A2.room = 60000 ∧ A2.slots.length ≤ 3000 + 40 * k)) (fun _ _ i _ => cs.length - (intOf i).toNat)
      case atStart => exact ⟨0, Nat.zero_le _, rfl, t, rfl, [], [], q, A, F, rfl, HB2⟩
      case round =>
        obtain ⟨k, hk, rfl, z, rfl, ps, ls, rs, A2, F2, hpl, HR⟩ := hrel
        obtain ⟨hS, hK, hC, hI, hO, hTs, hT, hfl, hroom, hused⟩ := HR.out
        have S9 := Lib.hid hS; have K9 := Lib.hid hK; have C9 := Lib.hid hC; have I9 := Lib.hid hI; have O9 := Lib.hid hO; have TS9 := Lib.hid hTs; have T9 := Lib.hid hT; have FL9 := Lib.hid hfl
        have hps : ps.length ≤ 6 := by omega
        have HPL := Lib.hid hpl; clear hS hK hC hI hO hTs hT HR hpl hfl
        have hfit := S9.out.fits
        have hsr : Sorted rs := (List.pairwise_append.1 (show Sorted (ls.flatten ++ rs) by rw [FL9.out]; exact HQ.out)).2.1
        have hlr : rs.length ≤ 40 := by have h := congrArg List.length FL9.out; rw [List.length_append] at h; omega
        have hgr := hgt_le rs
        by_cases hlt : k < cs.length
        · obtain ⟨bc, oc, hbc, hcc⟩ := C9.out.cells hlt
          subst hbc
          have e0 := hcc _ _ C9.out
          have hbl := World.block_lt_of_cell? _ _ e0
          simp only [] at hbl
          generalize cs[k] = x at e0
          clear hcc
          obtain ⟨A4, X, Y, e4, tX, tY, x4, f4, l4⟩ := partO_room T9.out hsr (by omega) hfit x (by omega)
          have r4 := x4.1
          have hlh := lo_hi hsr x
          have H2 := Lib.hid (show Trs A4 (ps ++ [X]) (ls ++ [lo x rs]) ∧ Tr A4 Y (hi x rs) ∧ (ls ++ [lo x rs]).flatten ++ hi x rs = q ∧ A4.room = 60000 ∧ A4.slots.length ≤ 3000 + 40 * (k + 1) from ⟨(TS9.out.ext x4).snoc tX, tY, by rw [List.flatten_append, List.flatten_singleton, List.append_assoc, hlh]; exact FL9.out, by omega, by omega⟩)
          have E4 := Lib.hid e4; clear e4 tX tY x4 f4 l4 r4 hlh hroom hused hsr hlr hgr hfit
          have cc4 := partO_any S9.out.arena z x
          rw [E4.out] at cc4
          have CC := Lib.hid cc4; clear cc4
          go_wp2_with fail
          refine CC.out.mono ?_
          rintro e w10 ⟨rfl, m10⟩
          clear CC e0
          obtain ⟨F10, o10, g10⟩ := Made.out m10
          have S10 := Lib.hid (S9.out.grow g10 o10)
          have K10 := Lib.hid (K9.out.grow g10)
          have C10 := Lib.hid (C9.out.grow g10)
          have I10 := Lib.hid (I9.out.grow g10 O9.out)
          have O10 := Lib.hid (fun b hb hf => (g10.2 b hf).elim (O9.out b hb) (fun h => by have := (I9.out.own.lt b hb).2; omega) : ∀ b, Value.ownBlock _ = some b → ¬ F10 b)
          clear m10 o10 g10
          have I20 := Lib.hid (I10.out.alloc (.cells #[.int .i64 X] 3))
          have G20 := Lib.hid (heap_alloc_new w10 (.cells #[.int .i64 X] 3))
          have S20 := Lib.hid (S10.out.alloc (.cells #[.int .i64 X] 3))
          have K20 := Lib.hid (K10.out.alloc (.cells #[.int .i64 X] 3))
          have C20 := Lib.hid (C10.out.alloc (.cells #[.int .i64 X] 3))
          go_wp2_with (at_builtin; refine wp_app1I (y := X) rfl (.tmp 122) (.tmp 124) rfl rfl rfl I20.out G20.out (by omega) ?_; intro v21 w21 i21 g21 l21; have I21 := Lib.hid i21; have G21 := Lib.hid g21; have L21 := Lib.hid l21; clear i21 g21 l21; have S21 := Lib.hid (S20.out.apart G21.out (fun b hb => ⟨O10.out b hb, by have := (I20.out.own.lt b hb).1; omega⟩)); have K21 := Lib.hid (K20.out.apart G21.out (fun x b hx hq hb e => by have := LTK.out x hx hq; have := (I20.out.own.lt b hb).1; omega)); have C21 := Lib.hid (C20.out.apart G21.out (fun x b hx hq hb e => by have := LTC.out x hx hq; have := (I20.out.own.lt b hb).1; omega)); have O21 := Lib.hid (show ∀ b, v21.ownBlock = some b → ¬ F10 b from fun b hb hf => (L21.out b hb).elim (fun h => O10.out b h hf) (fun h => by have := S20.out.arena.lt b hf; omega)))
          go_roundw
          case rel => exact ⟨k + 1, by omega, by go_num, Y, rfl, ps ++ [X], ls ++ [lo x rs], hi x rs, A4, F10, by rw [List.length_append, HPL.out]; rfl, Lib.hid ⟨S21.out, K21.out, C21.out, I21.out, O21.out, H2.out⟩⟩
          case measure => simp [intOf]; omega
        · have hkl : k = cs.length := by omega
          subst hkl
          obtain ⟨A5, u, e5, tu, x5, f5, l5⟩ := allL_room 40 (by omega) (ps ++ [z]) (a := A2) (t := 0) (l := []) .nil (TS9.out.snoc T9.out) (by rw [List.nil_append, List.flatten_append, List.flatten_singleton, FL9.out]; exact HQ.out) (by rw [List.nil_append, List.flatten_append, List.flatten_singleton, FL9.out]; omega) hfit (by rw [List.length_append, HPL.out]; simp only [List.length_singleton]; omega)
          rw [List.nil_append, List.flatten_append, List.flatten_singleton, FL9.out] at tu
          have E5 := Lib.hid (show allO (some A2) (ps ++ [z]) = (u, 0, some A5) by unfold allO; rw [if_pos (show (some A2).isSome = true from rfl)]; exact e5)
          have TU := Lib.hid tu; have T2 := x5
          clear e5 tu x5 f5 l5 T2 hfit hsr hlr hgr hroom hused hlt hk
          have I20 := Lib.hid (I9.out.alloc (.cells #[.int .i64 z] 3))
          have G20 := Lib.hid (heap_alloc_new wr (.cells #[.int .i64 z] 3))
          have S20 := Lib.hid (S9.out.alloc (.cells #[.int .i64 z] 3))
          have K20 := Lib.hid (K9.out.alloc (.cells #[.int .i64 z] 3))
          have C20 := Lib.hid (C9.out.alloc (.cells #[.int .i64 z] 3))
          go_wp2_with (at_builtin; refine wp_app1I (y := z) rfl (.tmp 130) (.tmp 132) rfl rfl rfl I20.out G20.out (by omega) ?_; intro v21 w21 i21 g21 l21; have I21 := Lib.hid i21; have G21 := Lib.hid g21; have L21 := Lib.hid l21; clear i21 g21 l21; have S21 := Lib.hid (S20.out.apart G21.out (fun b hb => ⟨O9.out b hb, by have := (I20.out.own.lt b hb).1; omega⟩)); have K21 := Lib.hid (K20.out.apart G21.out (fun x b hx hq hb e => by have := LTK.out x hx hq; have := (I20.out.own.lt b hb).1; omega)); have C21 := Lib.hid (C20.out.apart G21.out (fun x b hx hq hb e => by have := LTC.out x hx hq; have := (I20.out.own.lt b hb).1; omega)); have O21 := Lib.hid (show ∀ b, v21.ownBlock = some b → ¬ F2 b from fun b hb hf => (L21.out b hb).elim (fun h => O9.out b h hf) (fun h => by have := S20.out.arena.lt b hf; omega)); obtain ⟨ps2, hps2⟩ : ∃ ps2, ps ++ [z] = ps2 := ⟨_, rfl⟩; have i21 := I21.out; rw [hps2] at i21; have e5 := E5.out; rw [hps2] at e5; have E5b := Lib.hid e5; obtain ⟨adx, cx, hvx, ikx⟩ := i21.givesF O21.out; have IKX := Lib.hid ikx; subst hvx; clear i21 e5 hps2 ikx)
          have cc := all_any S21.out.arena IKX.out
          rw [E5b.out] at cc
          have CC := Lib.hid cc; clear cc
          go_wp2_with fail
          refine CC.out.mono ?_
          rintro e w22 ⟨rfl, m22⟩
          clear CC
          obtain ⟨F22, o22, g22⟩ := Made.out m22
          have S22 := Lib.hid (S21.out.grow g22 o22)
          have K22 := Lib.hid (K21.out.grow g22)
          clear m22 o22 g22
          have cc := all_any S22.out.arena (IK.nil _ _)
          rw [allO_nil, List.length_nil] at cc
          have CC := Lib.hid cc; clear cc
          go_wp2_with fail
          refine CC.out.mono ?_
          rintro e w23 ⟨rfl, m23⟩
          clear CC
          obtain ⟨F23, o23, g23⟩ := Made.out m23
          have S23 := Lib.hid (S22.out.grow g23 o23)
          have K23 := Lib.hid (K22.out.grow g23)
          clear m23 o23 g23
          have HS := Lib.hid (says_any _ _ _ _ _ u _ _ q (Nat.le_refl _) (by omega) S23.out.arena K23.out TU.out)
          go_wp2_with fail
          refine (HS.out).mono ?_
          rintro e w24 ⟨rfl, b24⟩
          have S24 := Lib.hid (S23.out.later b24)
          have K24 := Lib.hid (K23.out.later b24)
          clear b24
          clear HS
          go_wp2_with (go_at_call 29; refine (awake8_any W _ S24.out.below).mono ?_; rintro e wz ⟨rfl, bz⟩)
          go_ret
          exact ⟨rfl, bz⟩

end Go.Proofs.Ytkcfkanfdbejiaa
