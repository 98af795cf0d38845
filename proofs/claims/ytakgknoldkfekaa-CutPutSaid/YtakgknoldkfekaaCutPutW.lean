/- The walk of the law CutPut. -/
import Derived.Test.YtakgknoldkfekaaAwake6
import Derived.Test.YtakgknoldkfekaaRefW
import Derived.Test.YtakgknoldkfekaaSaysW
import Derived.Test.YtakgknoldkfekaaFrelQ
import Derived.Test.YtakgknoldkfekaaPutP
import Derived.Test.YtakgknoldkfekaaPutW2
import Derived.Test.YtakgknoldkfekaaWMore
namespace Go.Proofs.Ytakgknoldkfekaa
set_option maxRecDepth 100000
open Go.RowKit Go.Proofs.YtakgknoldkfekaaW.PrintWords Go.Proofs.YtakgknoldkfekaaW.PrintLast
set_option linter.unusedSimpArgs false
set_option linter.unusedVariables false

/-- What is left when some keys have been cut. -/
def rest (S q : List Pr) : List Pr := q.filter (fun p => decide (∀ s ∈ S, s.1 ≠ p.1))
theorem rest_nil (q : List Pr) : rest [] q = q := List.filter_eq_self.2 fun p _ => by simp
theorem rest_snoc (S q : List Pr) (x : Pr) : rest (S ++ [x]) q = less x.1 (rest S q) := by
  unfold rest less
  rw [List.filter_filter]
  congr 1
  funext p
  rw [Bool.eq_iff_iff]
  simp only [decide_eq_true_eq, Bool.and_eq_true, List.mem_append, List.mem_singleton]
  constructor
  · intro h
    exact ⟨fun e => h x (.inr rfl) e.symm, fun s hs => h s (.inl hs)⟩
  · rintro ⟨h1, h2⟩ s (hs | rfl)
    · exact h2 s hs
    · exact fun e => h1 e.symm
theorem rest_sub (S q : List Pr) : (rest S q).Sublist q := List.filter_sublist
theorem rest_all {S q : List Pr} (h : ∀ p ∈ q, p ∈ S) : rest S q = [] := List.filter_eq_nil_iff.2 fun p hp => by
  simp only [decide_eq_true_eq]
  exact fun hh => hh p (h p hp) rfl
theorem turn_ne {q : List Pr} (hs : Sorted q) (r : Nat) : (q.drop r ++ q.take r).Pairwise (fun x y => x.1 ≠ y.1) := by
  have h : Sorted (q.take r ++ q.drop r) := by rw [List.take_append_drop]; exact hs
  obtain ⟨h1, h2, h3⟩ := List.pairwise_append.1 h
  exact List.pairwise_append.2 ⟨h2.imp (fun h => by omega), h1.imp (fun h => by omega), fun x hx y hy => by have := h3 y hy x hx; omega⟩
theorem turn_mem {q : List Pr} (r : Nat) (p : Pr) : p ∈ q.drop r ++ q.take r ↔ p ∈ q := by
  have e := List.take_append_drop r q
  constructor
  · intro hx
    rw [← e]
    rcases List.mem_append.1 hx with h1 | h1
    · exact List.mem_append.2 (.inr h1)
    · exact List.mem_append.2 (.inl h1)
  · intro hx
    rw [← e] at hx
    rcases List.mem_append.1 hx with h1 | h1
    · exact List.mem_append.2 (.inr h1)
    · exact List.mem_append.2 (.inl h1)
theorem rest_has {q L : List Pr} (hL : L.Pairwise (fun x y => x.1 ≠ y.1)) (hm : ∀ p, p ∈ L ↔ p ∈ q) {k : Nat} (hk : k < L.length) : (gotP (rest (L.take k) q) (L[k]).1).2 = true := by
  refine gotP_iff.2 ⟨L[k], List.mem_filter.2 ⟨(hm _).1 (List.getElem_mem _), ?_⟩, rfl⟩
  simp only [decide_eq_true_eq]
  intro s hs
  obtain ⟨j, hj, rfl⟩ := List.getElem_of_mem hs
  rw [List.length_take] at hj
  rw [List.getElem_take]
  exact List.pairwise_iff_getElem.1 hL j k (by omega) hk (by omega)

set_option maxRecDepth 100000 in
set_option maxHeartbeats 4000000 in
theorem cutPut_walk (W : World) {ad : Option Addr} {c : Nat} {l : List Pr} (hl : PIn W ad c l) (hokl : okP l) (pk pv : Int) (hpk : -9223372036854775808 ≤ pk ∧ pk ≤ 9223372036854775807) (hpv : -9223372036854775808 ≤ pv ∧ pv ≤ 9223372036854775807) (turn : Int) (hturn : -9223372036854775808 ≤ turn ∧ turn ≤ 9223372036854775807) :
    Calls Try.prog 13 #[.slice ad l.length c, .agg #[.int .i64 pk, .int .i64 pv], .int .i64 turn] W fun e w' => e = .returned (.bool true) ∧ Below W.heap.size W w' := by
  have hb0 : Below W.heap.size W (W.alloc (.cells #[.int .i64 pk, .int .i64 pv] 37)) := (Below.refl _ _).alloc (Nat.le_refl _) _
  have hp := pairs_any (W.alloc (.cells #[.int .i64 pk, .int .i64 pv] 37)) (hl.later hb0) 30 (by decide) (by decide)
  have hpl := (pairsB_len l 30 (by decide) l.length).1
  have hs := pairs_sorted l 30
  have hok := pairs_ok 30 hokl
  rw [show pairsB l 30 l.length = pairs l 30 from rfl] at hpl
  generalize pairs l 30 = q at hp hpl hs hok
  have HP := Lib.hid hp; clear hp hl
  have HQ := Lib.hid hs; clear hs
  have HOK := Lib.hid hok; clear hok hokl
  have HB0 := Lib.hid hb0; clear hb0
  have E0 := Lib.hid (heap_alloc_new W (.cells #[.int .i64 pk, .int .i64 pv] 37))
  obtain ⟨r, hr, hrlt⟩ := rem_len turn (q.length + 1) (by omega) (by omega)
  rw [show ((q.length + 1 : Nat) : Int) = (q.length : Int) + 1 by omega] at hr
  have HRR := Lib.hid hr; clear hr
  have hrq : r ≤ q.length := by omega
  have hq30 : q.length ≤ 30 := by omega
  have HTK := Lib.hid (show (q.take r).length = r by rw [List.length_take]; omega)
  have HDT := Lib.hid (show (q.drop r ++ q.take r).length = q.length by rw [List.length_append, List.length_drop, List.length_take]; omega)
  go_enter Try.func13, Try.ntmps13
  go_wp2_with fail
  refine HP.out.mono ?_
  rintro e w1 ⟨ad1, c1, rfl, p1, n1, b1⟩
  have P1 := Lib.hid p1; clear p1 n1
  have E1 := Lib.hid ((b1.block W.heap.size (by simp)).trans E0.out)
  have B1 := Lib.hid (HB0.out.trans (b1.mono (by simp))); clear b1
  go_wp2_with fail
  refine (new_any 60000 w1).mono ?_
  rintro e w2 ⟨rfl, o2, b2⟩
  have S2 := Lib.hid (St.begin B1.out o2 b2)
  have K2 := Lib.hid (PK.begin P1.out b2)
  have Q2 := Lib.hid (Kp.mk ((b2.block W.heap.size (Array.getElem?_eq_some_iff.1 E1.out).1).trans E1.out) (fun hf => by have := (Array.getElem?_eq_some_iff.1 E1.out).1; have hf2 : W.heap.size = w1.heap.size := hf; omega) : Kp w2 (fun b => b = w1.heap.size) W.heap.size (.cells #[.int .i64 pk, .int .i64 pv] 37 (0, 0)))
  clear o2 b2
  have la := laid_any q.length w2 w1.heap.size _ _ ad1 c1 q (Nat.le_refl _) (by omega) S2.out.arena K2.out (by rw [newA_room (by omega) (by omega), newA_slots]; simp; omega)
  have LA := Lib.hid la; clear la
  go_wp2_with fail
  refine LA.out.mono ?_
  rintro e w3 ⟨t, a3, rfl, ⟨F3, o3, g3⟩, x3, l3, t3, al3⟩
  have H3 := Lib.hid (Has.mk (S2.out.grow g3 o3) t3 (x3.1.trans (newA_room (by omega) (by omega))) (by rw [l3, newA_slots]; simp) x3.2.1 : Has W w3 w1.heap.size a3 F3 t q (60000))
  have K3 := Lib.hid (K2.out.grow g3)
  have Q3 := Lib.hid (Q2.out.grow g3)
  clear o3 g3 x3 l3 t3 al3
  have hlen64 : q.length ≤ 1000 := by omega
  have tr3 := H3.out.tr
  have rm3 := H3.out.room
  have us3 := H3.out.used
  have S3 := Lib.hid H3.out.st
  have hgq := hgt_le q
  have hil := ins_len q (pk, pv)
  rcases find_cases HQ.out pk with ⟨k0, hk0, _, h1, _⟩ | ⟨h1, h2, h3⟩
  · have q3c0_3 := cell_blk (i := 0) Q3.out.at_ rfl
    have q3c1_3 := cell_blk (i := 1) Q3.out.at_ rfl
    have hk00 : (0 : Int) ≤ (k0 : Int) := by omega
    have c := find_any _ K3.out.pin pk
    rw [h1] at c
    have C := Lib.hid c; clear c
    go_wp2_with fail
    refine (C.out).mono ?_
    rintro e w4 ⟨rfl, b4⟩
    clear q3c0_3 q3c1_3
    have S4 := Lib.hid (S3.out.later b4)
    have K4 := Lib.hid (K3.out.later b4)
    have Q4 := Lib.hid (Q3.out.below b4)
    clear b4
    clear C
    go_wp2_with (go_at_call 26; refine (awake6_any W _ S4.out.below).mono ?_; rintro e wz ⟨rfl, bz⟩)
    go_ret
    exact ⟨rfl, bz⟩
  · obtain ⟨a4, u, e4, tu, x4, f4, l4⟩ := putO_room tr3 HQ.out (by omega) S3.out.fits pk pv (by omega)
    rw [h2] at e4
    simp only [] at e4
    have hsi := ins_sorted (p := (pk, pv)) HQ.out
    have hgi := hgt_le (ins q (pk, pv))
    have rm4 := x4.1
    have gi := gotP_ins q (pk, pv) pk
    rw [if_pos rfl] at gi
    simp only [] at gi
    obtain ⟨a5, z, e5, tz, x5, f5, l5⟩ := cutO_room tu hsi (by omega) f4 pk (by rw [gi]) (by omega)
    rw [gi] at e5
    rw [less_ins (pk, pv) h3] at tz
    simp only [] at e5
    have rm5 := x5.1
    have tr5 := (tr3.ext x4).ext x5
    have hu5 : a5.slots.length ≤ 1000 := by omega
    have hr5 : a5.room = 60000 := by omega
    have qv : (pv != pv) = false := by simp
    have E4 := Lib.hid e4; have E5 := Lib.hid e5; have TZ := Lib.hid tz; have T5 := Lib.hid tr5; have HU := Lib.hid (And.intro hr5 hu5); have H1 := Lib.hid h1
    clear e4 e5 tz tr5 gi hsi hgi h3 h2 hil hgq tu x4 x5 f4 f5 l4 l5 rm4 rm5 hu5 hr5 h1 tr3 rm3 us3
    have q3c0_3 := cell_blk (i := 0) Q3.out.at_ rfl
    have q3c1_3 := cell_blk (i := 1) Q3.out.at_ rfl
    have c := find_any _ K3.out.pin pk
    rw [H1.out] at c
    have C := Lib.hid c; clear c
    go_wp2_with fail
    refine (C.out).mono ?_
    rintro e w4 ⟨rfl, b4⟩
    clear q3c0_3 q3c1_3
    have S4 := Lib.hid (S3.out.later b4)
    have K4 := Lib.hid (K3.out.later b4)
    have Q4 := Lib.hid (Q3.out.below b4)
    clear b4
    clear C
    have q4c0_4 := cell_blk (i := 0) Q4.out.at_ rfl
    have q4c1_4 := cell_blk (i := 1) Q4.out.at_ rfl
    have cc := putO_any S4.out.arena t pk pv
    rw [E4.out] at cc
    have CC := Lib.hid cc; clear cc
    go_wp2_with fail
    refine CC.out.mono ?_
    rintro e w5 ⟨rfl, m5⟩
    clear CC
    clear q4c0_4 q4c1_4
    obtain ⟨F5, o5, g5⟩ := Made.out m5
    have S5 := Lib.hid (S4.out.grow g5 o5)
    have K5 := Lib.hid (K4.out.grow g5)
    have Q5 := Lib.hid (Q4.out.grow g5)
    clear m5 o5 g5
    have q5c0_5 := cell_blk (i := 0) Q5.out.at_ rfl
    have q5c1_5 := cell_blk (i := 1) Q5.out.at_ rfl
    have cc := cutO_any S5.out.arena u pk
    rw [E5.out] at cc
    have CC := Lib.hid cc; clear cc
    go_wp2_with fail
    refine CC.out.mono ?_
    rintro e w6 ⟨rfl, m6⟩
    clear CC
    clear q5c0_5 q5c1_5
    obtain ⟨F6, o6, g6⟩ := Made.out m6
    have S6 := Lib.hid (S5.out.grow g6 o6)
    have K6 := Lib.hid (K5.out.grow g6)
    have Q6 := Lib.hid (Q5.out.grow g6)
    clear m6 o6 g6
    have q6c0_6 := cell_blk (i := 0) Q6.out.at_ rfl
    have q6c1_6 := cell_blk (i := 1) Q6.out.at_ rfl
    have HS := Lib.hid (says_any _ _ _ _ _ z _ _ q (Nat.le_refl _) (by omega) S6.out.arena K6.out TZ.out)
    go_wp2_with fail
    refine (HS.out).mono ?_
    rintro e w7 ⟨rfl, b7⟩
    clear q6c0_6 q6c1_6
    have S7 := Lib.hid (S6.out.later b7)
    have K7 := Lib.hid (K6.out.later b7)
    have Q7 := Lib.hid (Q6.out.below b7)
    clear b7
    clear HS
    have hr := HRR.out
    obtain ⟨A2, c2, n2, hn2, hcut2, hP2⟩ := subK_from (ad := ad1) (c := c1) (l := q) r hrq
    have hcut1 := cutP_to ad1 q.length c1 r hrq K7.out.pin.room
    have HP2 := Lib.hid hP2; have HNE := Lib.hid hn2; clear hP2 hn2
    have BD := Lib.hid ((Below.refl w7.heap.size w7).drew)
    have R0 := Lib.hid (show FRel w7.heap.size (w7.drew.alloc (.cells #[] 37)) (.slice (some ⟨w7.heap.size, 0, none⟩) 0 0) [] from FRel.empty w7.drew)
    have BA := Lib.hid (BD.out.alloc (Nat.le_refl _) (.cells #[] 37))
    have PD := Lib.hid (HP2.out _ _ (K7.out.later BA.out)).pin
    have hdl : (q.drop r).length ≤ 40 := by rw [List.length_drop]; omega
    have HD2 := Lib.hid (show (q.drop r).length + (q.take r).length = q.length by rw [← List.length_append]; exact HDT.out)
    have q7c0_7 := cell_blk (i := 0) Q7.out.at_ rfl
    have q7c1_7 := cell_blk (i := 1) Q7.out.at_ rfl
    go_wp2_with fail
    refine start_ (n := 11) (S := fun w' => True) (ds := []) #[false, false, false, false, false, false, false, false, false, false, false] (by kernel_rfl) rfl rfl trivial (fun hHeld => ?_)
    refine pure_ (i := 1) (N := some 99) (v := ?_) (a' := ?_) #[false, true, false, false, false, false, false, false, false, false, false] rfl rfl (by kernel_rfl) (fun _ _ _ h => h) (Or.inl ⟨by rfl, ?_⟩) ?_ ?_
    rotate_left
    · intro w'
      go_simp
      with_reducible rfl
    rotate_left
    · simp only [Act.put, List.setIfInBounds_toArray, List.set_cons_zero, List.set_cons_succ, i64_w, i32_w]
      rfl
    refine pure_ (i := 2) (N := some 100) (v := ?_) (a' := ?_) #[false, true, true, false, false, false, false, false, false, false, false] rfl rfl (by kernel_rfl) (fun _ _ _ h => h) (Or.inl ⟨by rfl, ?_⟩) ?_ ?_
    rotate_left
    · intro w'
      go_simp
      with_reducible rfl
    rotate_left
    · simp only [Act.put, List.setIfInBounds_toArray, List.set_cons_zero, List.set_cons_succ, i64_w, i32_w]
      rfl
    refine pure_ (i := 3) (N := some 101) (v := ?_) (a' := ?_) #[false, true, true, true, false, false, false, false, false, false, false] rfl rfl (by kernel_rfl) (fun _ _ _ h => h) (Or.inl ⟨by rfl, ?_⟩) ?_ ?_
    rotate_left
    · intro w'
      go_simp
      with_reducible rfl
    rotate_left
    · simp only [Act.put, List.setIfInBounds_toArray, List.set_cons_zero, List.set_cons_succ, i64_w, i32_w]
      rfl
    refine pure_ (i := 5) (N := some 103) (v := ?_) (a' := ?_) #[false, true, true, true, false, true, false, false, false, false, false] rfl rfl (by kernel_rfl) (fun _ _ _ h => h) (Or.inl ⟨by rfl, ?_⟩) ?_ ?_
    rotate_left
    · intro w'
      go_simp
      with_reducible rfl
    rotate_left
    · simp only [Act.put, List.setIfInBounds_toArray, List.set_cons_zero, List.set_cons_succ, i64_w, i32_w]
      rfl
    refine pure_ (i := 6) (N := some 104) (v := ?_) (a' := ?_) #[false, true, true, true, false, true, true, false, false, false, false] rfl rfl (by kernel_rfl) (fun _ _ _ h => h) (Or.inl ⟨by rfl, ?_⟩) ?_ ?_
    rotate_left
    · intro w'
      go_simp
      with_reducible rfl
    rotate_left
    · simp only [Act.put, List.setIfInBounds_toArray, List.set_cons_zero, List.set_cons_succ, i64_w, i32_w]
      rfl
    refine pure_ (i := 7) (N := some 105) (v := ?_) (a' := ?_) #[false, true, true, true, false, true, true, true, false, false, false] rfl rfl (by kernel_rfl) (fun _ _ _ h => h) (Or.inl ⟨by rfl, ?_⟩) ?_ ?_
    rotate_left
    · intro w'
      go_simp
      with_reducible rfl
    rotate_left
    · simp only [Act.put, List.setIfInBounds_toArray, List.set_cons_zero, List.set_cons_succ, i64_w, i32_w]
      rfl
    refine pure_ (i := 10) (N := some 108) (v := ?_) (a' := ?_) #[false, true, true, true, false, true, true, true, false, false, true] rfl rfl (by kernel_rfl) (fun _ _ _ h => h) (Or.inl ⟨by rfl, ?_⟩) ?_ ?_
    rotate_left
    · intro w'
      go_simp
      with_reducible rfl
    rotate_left
    · simp only [Act.put, List.setIfInBounds_toArray, List.set_cons_zero, List.set_cons_succ, i64_w, i32_w]
      rfl
    refine one_ (i := 0) (N := some 98) #[true, true, true, true, false, true, true, true, false, false, true] rfl rfl (by kernel_rfl) (by decide) (fun K hK => ?_)
    refine value_ (w1 := ?_) (v := ?_) (by rfl) rfl ?_ ?_
    rotate_left 2
    · go_simp
      constructor
      · rfl
      · rfl
    refine hK.out _ _ trivial (fun hHeld => ?_)
    clear hK K
    refine norm_ (a' := ?_) ?_ ?_
    rotate_left
    · show Act.put _ (some 98) _ = _
      simp only [Act.put, List.setIfInBounds_toArray, List.set_cons_zero, List.set_cons_succ, i64_w, i32_w]
      rfl
    refine one_ (i := 4) (N := some 102) #[true, true, true, true, true, true, true, true, false, false, true] rfl rfl (by kernel_rfl) (by decide) (fun K hK => ?_)
    refine step_appn (ys := q.drop r) (by rfl) rfl (.tmp 98) (.tmp 101) rfl rfl (by rw [← HNE.out]; rfl) R0.out PD.out (by simp; omega) ?_
    intro v1 w41 r1x g1
    have r1 : FRel _ w41 v1 (q.drop r) := r1x
    have R1 := Lib.hid r1
    have B1y := Lib.hid (Below.growB BA.out R0.out g1)
    clear r1x r1 g1
    have PT := Lib.hid ((K7.out.later B1y.out).take r).pin
    refine hK.out _ _ trivial (fun hHeld => ?_)
    clear hK K
    refine norm_ (a' := ?_) ?_ ?_
    rotate_left
    · show Act.put _ (some 102) _ = _
      simp only [Act.put, List.setIfInBounds_toArray, List.set_cons_zero, List.set_cons_succ, i64_w, i32_w]
      rfl
    refine one_ (i := 8) (N := some 106) #[true, true, true, true, true, true, true, true, true, false, true] rfl rfl (by kernel_rfl) (by decide) (fun K hK => ?_)
    refine step_appn (ys := q.take r) (by rfl) rfl (.tmp 102) (.tmp 105) rfl rfl (by rw [HTK.out]; rfl) R1.out PT.out (by have := HD2.out; omega) ?_
    intro v2 w42 r2 g2
    have R2 := Lib.hid r2
    have B2y := Lib.hid (Below.growB B1y.out R1.out g2)
    clear r2 g2
    obtain ⟨adV, cV, hv2, pv2, nv⟩ := R2.out.gives
    rw [HDT.out] at hv2
    subst hv2
    have S42 := Lib.hid (S7.out.later B2y.out)
    have K42 := Lib.hid (K7.out.later B2y.out)
    have V42 := Lib.hid (PK.mk (F := F6) pv2 (fun _ x hx hf => by have := nv x hx; have := S7.out.arena.lt _ hf; omega))
    clear pv2 nv R2
    refine hK.out _ _ trivial (fun hHeld => ?_)
    clear hK K
    refine norm_ (a' := ?_) ?_ ?_
    rotate_left
    · show Act.put _ (some 106) _ = _
      simp only [Act.put, List.setIfInBounds_toArray, List.set_cons_zero, List.set_cons_succ, i64_w, i32_w]
      rfl
    refine pure_ (i := 9) (N := some 107) (v := ?_) (a' := ?_) #[true, true, true, true, true, true, true, true, true, true, true] rfl rfl (by kernel_rfl) (fun _ _ _ h => h) (Or.inl ⟨by rfl, ?_⟩) ?_ ?_
    rotate_left
    · intro w'
      go_simp
      with_reducible rfl
    rotate_left
    · simp only [Act.put, List.setIfInBounds_toArray, List.set_cons_zero, List.set_cons_succ, i64_w, i32_w]
      rfl
    refine done_ (by kernel_rfl) ?_
    clear hcut1 hcut2 hr hdl
    obtain ⟨L, hL⟩ : ∃ L, q.drop r ++ q.take r = L := ⟨_, rfl⟩
    have HPW := Lib.hid (show L.Pairwise (fun x y => x.1 ≠ y.1) by rw [← hL]; exact turn_ne HQ.out r)
    have HPM := Lib.hid (show ∀ p, p ∈ L ↔ p ∈ q by rw [← hL]; exact turn_mem r)
    have HLL := Lib.hid (show L.length = q.length by rw [← hL]; exact HDT.out)
    have hv42 := V42.out
    rw [hL] at hv42
    have HBEG := Lib.hid (And.intro S42.out (And.intro hv42 (And.intro K42.out (And.intro (show Tr a5 z (rest (L.take 0) q) by rw [List.take_zero, rest_nil]; exact TZ.out) (And.intro T5.out (And.intro HU.out.1 (show a5.slots.length ≤ 1000 + 60 * 0 from HU.out.2)))))))
    clear hL hv42
    go_wp2_with fail
    go_loopw [15, 108] (fun v i wr => ∃ k : Nat, k ≤ q.length ∧ i = .int .i64 k ∧ ∃ z : Int, v = .int .i64 z ∧ ∃ A F, Hid (St W wr (some ⟨w1.heap.size, 0, none⟩) (some A) F ∧ PK wr F adV cV L ∧ PK wr F ad1 c1 q ∧ Tr A z (rest (L.take k) q) ∧ Tr A t q ∧ A.room = 60000 ∧ A.slots.length ≤ 1000 + 60 * k)) (fun _ i _ => q.length - (intOf i).toNat)
    case atStart => exact ⟨0, Nat.zero_le _, rfl, z, rfl, _, _, HBEG⟩
    case round =>
      obtain ⟨k, hk, rfl, z', rfl, A, F, HR⟩ := hrel
      obtain ⟨hS, hV, hK, hT, hTt, hroom, hused⟩ := HR.out
      have S9 := Lib.hid hS; have V9 := Lib.hid hV; have K9 := Lib.hid hK; have T9 := Lib.hid hT; have TT9 := Lib.hid hTt
      clear hS hV hK hT hTt HR
      have hfit := S9.out.fits
      by_cases hlt : k < q.length
      · have hlL : k < L.length := by have := HLL.out; omega
        obtain ⟨b, off, hbo, hcell⟩ := V9.out.cells hlL
        subst hbo
        obtain ⟨d0, d1⟩ := hcell wr _ V9.out
        have hbl : b < wr.heap.size := World.block_lt_of_cell? wr _ d0
        have hin := rest_has HPW.out HPM.out hlL
        have hsn := rest_snoc (L.take k) q L[k]
        rw [← List.take_succ_eq_append_getElem hlL] at hsn
        obtain ⟨x, hx⟩ : ∃ x, L[k] = x := ⟨_, rfl⟩
        rw [hx] at hsn d0 d1 hin
        clear hx hcell
        obtain ⟨xk, xv⟩ := x
        simp only [] at d0 d1 hin hsn
        have hsub := rest_sub (L.take k) q
        have hlen := hsub.length_le
        have hso := HQ.out.sub hsub
        have hgl := hgt_le (rest (L.take k) q)
        obtain ⟨A2, z2, e2, T2, X2, f2, u2⟩ := cutO_room T9.out hso (by omega) hfit xk hin (by omega)
        rw [← hsn] at T2
        have r2 := X2.1
        have TT2 := TT9.out.ext X2
        have hu2 : A2.slots.length ≤ 1000 + 60 * (k + 1) := by omega
        have hr2 : A2.room = 60000 := by omega
        generalize (gotP (rest (L.take k) q) xk).1 = vv at e2
        have H2 := Lib.hid (And.intro T2 (And.intro TT2 (And.intro hr2 hu2)))
        clear hsn hin hso hsub hlen hgl T2 X2 f2 u2 r2 TT2 hu2 hr2
        have E2 := Lib.hid e2; clear e2
        have S10 := Lib.hid (S9.out.alloc (.cells #[.int .i64 xk, .int .i64 xv] 37))
        have V10 := Lib.hid (V9.out.alloc (.cells #[.int .i64 xk, .int .i64 xv] 37))
        have K10 := Lib.hid (K9.out.alloc (.cells #[.int .i64 xk, .int .i64 xv] 37))
        have N10 := Lib.hid (S9.out.new (.cells #[.int .i64 xk, .int .i64 xv] 37))
        have n10c0_10 := cell_blk (i := 0) N10.out.at_ rfl
        have n10c1_10 := cell_blk (i := 1) N10.out.at_ rfl
        have cc := cutO_any S10.out.arena z' xk
        rw [E2.out] at cc
        have CC := Lib.hid cc; clear cc
        go_wp2_with fail
        refine CC.out.mono ?_
        rintro e w11 ⟨rfl, m11⟩
        clear CC
        clear n10c0_10 n10c1_10
        obtain ⟨F11, o11, g11⟩ := Made.out m11
        have S11 := Lib.hid (S10.out.grow g11 o11)
        have V11 := Lib.hid (V10.out.grow g11)
        have K11 := Lib.hid (K10.out.grow g11)
        have N11 := Lib.hid (N10.out.grow g11)
        clear m11 o11 g11
        have R9 := Lib.hid (And.intro S11.out (And.intro V11.out (And.intro K11.out H2.out)))
        clear d0 d1
        go_wp2_with fail
        go_roundw
        case rel => exact ⟨k + 1, by omega, by go_num, _, rfl, A2, _, Lib.hid R9.out⟩
        case measure => simp [intOf]; omega
      · have hkl : k = q.length := by omega
        subst hkl
        have hnil : rest (L.take q.length) q = [] := by rw [← HLL.out, List.take_length]; exact rest_all fun p hp => (HPM.out p).2 hp
        have ht9 := T9.out
        rw [hnil] at ht9
        obtain rfl := ht9.none_
        clear ht9 hnil T9 hfit hlt hk hroom hused
        have HS := Lib.hid (says_any _ _ _ _ _ t _ _ q (Nat.le_refl _) (by omega) S9.out.arena K9.out TT9.out)
        go_wp2_with fail
        refine (HS.out).mono ?_
        rintro e w10 ⟨rfl, b10⟩
        have S10 := Lib.hid (S9.out.later b10)
        have V10 := Lib.hid (V9.out.later b10)
        have K10 := Lib.hid (K9.out.later b10)
        clear b10
        clear HS
        go_wp2_with (go_at_call 26; refine (awake6_any W _ S10.out.below).mono ?_; rintro e wz ⟨rfl, bz⟩)
        go_ret
        exact ⟨rfl, bz⟩

end Go.Proofs.Ytakgknoldkfekaa
