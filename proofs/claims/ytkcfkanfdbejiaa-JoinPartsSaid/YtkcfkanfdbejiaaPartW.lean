/- The walks of package part's At, Middle and Half. -/
import Derived.Test.YtkcfkanfdbejiaaPartsW
import Derived.Test.YtkcfkanfdbejiaaIsW
namespace Go.Proofs.Ytkcfkanfdbejiaa
set_option maxRecDepth 100000
open Go.RowKit
set_option linter.unusedSimpArgs false
set_option linter.unusedVariables false

set_option maxRecDepth 100000 in
set_option maxHeartbeats 4000000 in
theorem partO_any {w : World} {po : Option Addr} {A : OA} {F : Nat → Prop} (h : OAt w po A F) (t key : Int) :
    Calls Try.prog 33 #[.pointer po, .int .i64 t, .int .i64 key] w fun e w' => e = .returned (.tuple #[.int .i64 (partO A t key).1, .int .i64 (partO A t key).2.1, .int .i64 (partO A t key).2.2.1]) ∧ Made F w po (partO A t key).2.2.2 w' := by
  have HH := Lib.hid h
  have HLT := Lib.hid h.lt
  have his := is_part h t
  clear h
  by_cases hi : isT A t = false
  · rw [show partO A t key = (0, 0, 1, A) by unfold partO; rw [if_pos hi]]
    rw [hi] at his
    have HI := Lib.hid his; clear his hi
    go_enter Try.func33, Try.ntmps33
    go_wp2_with fail
    refine HI.out.mono ?_
    rintro e w1 ⟨rfl, b1⟩
    have B1 := Lib.hid b1; clear b1
    go_wp2_with fail
    go_ret3
    exact ⟨rfl, Made.of_below HH.out B1.out⟩
  · have hi2 : isT A t = true := by simpa using hi
    rw [hi2] at his
    have HI := Lib.hid his; clear his
    obtain ⟨Q, hQ⟩ : ∃ Q, Q = partO A t key := ⟨_, rfl⟩
    rw [← hQ]
    unfold partO at hQ
    rw [if_neg hi] at hQ
    have hc := fun w' (hb : Below w.heap.size w w') => parts_any (fuel t) (HH.out.below hb) t key (lt_fuel t)
    generalize partsF (fuel t) A t key = P at hc hQ
    obtain ⟨x, y, pe, PA⟩ := P
    simp only [] at hc hQ
    have HC := Lib.hid hc
    have HQ := Lib.hid hQ
    clear hc hQ hi hi2
    go_enter Try.func33, Try.ntmps33
    go_wp2_with fail
    refine HI.out.mono ?_
    rintro e w1 ⟨rfl, b1⟩
    have B1 := Lib.hid b1; clear b1
    go_wp2_with fail
    refine (HC.out _ B1.out).mono ?_
    rintro e w2 ⟨rfl, m2⟩
    obtain ⟨F2, o2, g2⟩ := Made.out m2
    have G2 := Lib.hid ((Grow.of_below (F := F) B1.out).trans g2)
    have O2 := Lib.hid o2
    clear g2 o2 m2
    have hq := HQ.out
    by_cases h0 : pe = 0
    · subst h0
      rw [if_pos rfl] at hq
      subst hq
      go_wp2_with fail
      go_ret3
      exact ⟨rfl, Made.of_grow G2.out O2.out⟩
    · rw [if_neg h0] at hq
      subst hq
      have q0 : (pe == 0) = false := beq_eq_false_iff_ne.2 h0
      have q1 : (pe != 0) = true := by rw [bne, q0]; rfl
      clear h0
      go_wp2_with fail
      go_ret3
      exact ⟨rfl, Made.of_grow G2.out O2.out⟩

set_option maxRecDepth 100000 in
set_option maxHeartbeats 4000000 in
theorem middle_any {w : World} {po : Option Addr} {A : OA} {F : Nat → Prop} (h : OAt w po A F) (t : Int) :
    Calls Try.prog 60 #[.pointer po, .int .i64 t] w fun e w' => e = .returned (.tuple #[.int .i64 (midO A t).1, .bool (midO A t).2]) ∧ Below w.heap.size w w' := by
  obtain ⟨Q, hQ⟩ : ∃ Q, Q = midO A t := ⟨_, rfl⟩
  rw [← hQ]
  unfold midO at hQ
  have hs := lsize_any h t
  rw [show (getN A t).size = sizeO A t from rfl] at hs
  have hc := fun w' (hb : Below w.heap.size w w') => lookNth_any (h.below hb) (fuel t) t (wrap64 ((sizeO A t).tdiv 2)) (lt_fuel t)
  generalize nthO (fuel t) A t (wrap64 ((sizeO A t).tdiv 2)) = N at hc hQ
  generalize sizeO A t = s at hs hc hQ
  obtain ⟨k, v, ok⟩ := N
  simp only [] at hc hQ
  have HS := Lib.hid hs
  have HC := Lib.hid hc
  have HQ := Lib.hid hQ
  clear hs hc hQ h
  go_enter Try.func60, Try.ntmps60
  go_wp2_with fail
  refine HS.out.mono ?_
  rintro e w1 ⟨rfl, b1⟩
  have B1 := Lib.hid b1; clear b1
  have hq := HQ.out
  by_cases h2 : s < 2
  · rw [if_pos h2] at hq
    subst hq
    clear HQ
    go_wp2_with fail
    go_ret2
    exact ⟨rfl, B1.out⟩
  · rw [if_neg h2] at hq
    subst hq
    clear HQ
    go_wp2_with fail
    refine (HC.out _ B1.out).mono ?_
    rintro e w2 ⟨rfl, b2⟩
    have B2 := Lib.hid (B1.out.trans (b2.mono B1.out.size)); clear b2
    have E2 := Lib.hid (heap_alloc_new w2 (.cells #[.int .i64 k, .int .i64 v] 24))
    have p0 := cell_blk (i := 0) E2.out rfl
    have p1 := cell_blk (i := 1) E2.out rfl
    go_wp2_with fail
    go_ret2
    exact ⟨rfl, B2.out.alloc B2.out.size _⟩

set_option maxRecDepth 100000 in
set_option maxHeartbeats 4000000 in
theorem halfO_any {w : World} {po : Option Addr} {A : OA} {F : Nat → Prop} (h : OAt w po A F) (t : Int) :
    Calls Try.prog 40 #[.pointer po, .int .i64 t] w fun e w' => e = .returned (.tuple #[.int .i64 (halfO A t).1, .int .i64 (halfO A t).2.1, .int .i64 (halfO A t).2.2.1, .int .i64 (halfO A t).2.2.2.1]) ∧ Made F w po (halfO A t).2.2.2.2 w' := by
  have HH := Lib.hid h
  have HLT := Lib.hid h.lt
  have his := is_part h t
  clear h
  by_cases hi : isT A t = false
  · rw [show halfO A t = (0, 0, 0, 1, A) by unfold halfO; rw [if_pos hi]]
    rw [hi] at his
    have HI := Lib.hid his; clear his hi
    go_enter Try.func40, Try.ntmps40
    go_wp2_with fail
    refine HI.out.mono ?_
    rintro e w1 ⟨rfl, b1⟩
    have B1 := Lib.hid b1; clear b1
    go_wp2_with fail
    refine bodyPost_ret (v := .tuple #[.int .i64 0, .int .i64 0, .int .i64 0, .int .i64 1]) (by simp [results, Try.results40, go_sem]) rfl ⟨rfl, Made.of_below HH.out B1.out⟩
  · have hi2 : isT A t = true := by simpa using hi
    rw [hi2] at his
    have HI := Lib.hid his; clear his
    obtain ⟨Q, hQ⟩ : ∃ Q, Q = halfO A t := ⟨_, rfl⟩
    rw [← hQ]
    unfold halfO at hQ
    rw [if_neg hi] at hQ
    have hm := fun w' (hb : Below w.heap.size w w') => middle_any (HH.out.below hb) t
    generalize midO A t = M at hm hQ
    obtain ⟨key, ok⟩ := M
    simp only [] at hm hQ
    have hc := fun w' (hb : Below w.heap.size w w') => partO_any (HH.out.below hb) t key
    generalize partO A t key = P at hc hQ
    obtain ⟨x, y, pe, PA⟩ := P
    simp only [] at hc hQ
    have HM := Lib.hid hm
    have HC := Lib.hid hc
    have HQ := Lib.hid hQ
    clear hm hc hQ hi hi2
    go_enter Try.func40, Try.ntmps40
    go_wp2_with fail
    refine HI.out.mono ?_
    rintro e w1 ⟨rfl, b1⟩
    have B1 := Lib.hid b1; clear b1
    go_wp2_with fail
    refine (HM.out _ B1.out).mono ?_
    rintro e w2 ⟨rfl, b2⟩
    have B2 := Lib.hid (B1.out.trans (b2.mono B1.out.size)); clear b2
    have hq := HQ.out
    cases ok with
    | false =>
      rw [if_pos rfl] at hq
      subst hq
      go_wp2_with fail
      refine bodyPost_ret (v := .tuple #[.int .i64 0, .int .i64 0, .int .i64 0, .int .i64 3]) (by simp [results, Try.results40, go_sem]) rfl ⟨rfl, Made.of_below HH.out B2.out⟩
    | true =>
      rw [if_neg (by decide)] at hq
      have HQ2 := Lib.hid hq; clear hq HQ
      go_wp2_with fail
      refine (HC.out _ B2.out).mono ?_
      rintro e w3 ⟨rfl, m3⟩
      obtain ⟨F3, o3, g3⟩ := Made.out m3
      have G3 := Lib.hid ((Grow.of_below (F := F) B2.out).trans g3)
      have O3 := Lib.hid o3
      clear g3 o3 m3
      have hq := HQ2.out
      by_cases h0 : pe = 0
      · subst h0
        rw [if_pos rfl] at hq
        subst hq
        go_wp2_with fail
        refine bodyPost_ret (v := .tuple #[.int .i64 key, .int .i64 x, .int .i64 y, .int .i64 0]) (by simp [results, Try.results40, go_sem]) rfl ⟨rfl, Made.of_grow G3.out O3.out⟩
      · rw [if_neg h0] at hq
        subst hq
        have q0 : (pe == 0) = false := beq_eq_false_iff_ne.2 h0
        have q1 : (pe != 0) = true := by rw [bne, q0]; rfl
        clear h0
        go_wp2_with fail
        refine bodyPost_ret (v := .tuple #[.int .i64 0, .int .i64 0, .int .i64 0, .int .i64 pe]) (by simp [results, Try.results40, go_sem]) rfl ⟨rfl, Made.of_grow G3.out O3.out⟩

end Go.Proofs.Ytkcfkanfdbejiaa
