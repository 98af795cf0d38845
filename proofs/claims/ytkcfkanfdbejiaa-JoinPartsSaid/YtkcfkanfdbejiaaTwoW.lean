/- The walks of package join's is and Two. -/
import Derived.Test.YtkcfkanfdbejiaaMergeW
namespace Go.Proofs.Ytkcfkanfdbejiaa
set_option maxRecDepth 100000
open Go.RowKit
set_option linter.unusedSimpArgs false
set_option linter.unusedVariables false

def isJ (A : OA) (t : Int) : Bool := decide (t = 0) || isN A t
set_option maxHeartbeats 1000000 in
theorem is_join {w : World} {po : Option Addr} {A : OA} {F : Nat → Prop} (h : OAt w po A F) (t : Int) :
    Calls Try.prog 51 #[.pointer po, .int .i64 t] w fun e w' => e = .returned (.bool (isJ A t)) ∧ Below w.heap.size w w' := by
  have HG := Lib.hid (get_any h t)
  by_cases h0 : t = 0
  · subst h0
    rw [show isJ A 0 = true from rfl]
    go_enter Try.func51, Try.ntmps51
    go_wp2_with fail
    refine HG.out.mono ?_
    rintro e w1 ⟨rfl, b1⟩
    have B1 := Lib.hid b1; clear b1
    go_wp2_with fail
    go_ret
    exact ⟨rfl, B1.out.alloc B1.out.size _⟩
  · have q0 : (t == 0) = false := beq_eq_false_iff_ne.2 h0
    rw [show isJ A t = isN A t by unfold isJ; simp [h0]]
    clear h0 h
    go_enter Try.func51, Try.ntmps51
    go_wp2_with fail
    refine HG.out.mono ?_
    rintro e w1 ⟨rfl, b1⟩
    have B1 := Lib.hid b1; clear b1
    go_wp2_with fail
    go_ret
    exact ⟨rfl, B1.out.alloc B1.out.size _⟩

set_option maxRecDepth 100000 in
set_option maxHeartbeats 8000000 in
theorem twoO_any {w : World} {po : Option Addr} {A : OA} {F : Nat → Prop} (h : OAt w po A F) (l r : Int) :
    Calls Try.prog 27 #[.pointer po, .int .i64 l, .int .i64 r] w fun e w' => e = .returned (.tuple #[.int .i64 (twoO A l r).1, .int .i64 (twoO A l r).2.1]) ∧ Made F w po (twoO A l r).2.2 w' := by
  have HH := Lib.hid h
  obtain ⟨Q, hQ⟩ : ∃ Q, Q = twoO A l r := ⟨_, rfl⟩
  rw [← hQ]
  unfold twoO at hQ
  have hm := fun w' (hb : Below w.heap.size w w') => lookMax_any (h.below hb) (fuel l) l (lt_fuel l)
  have hn := fun w' (hb : Below w.heap.size w w') => lookMin_any (h.below hb) (fuel r) r (lt_fuel r)
  have hil := fun w' (hb : Below w.heap.size w w') => is_join (h.below hb) l
  have hir := fun w' (hb : Below w.heap.size w w') => is_join (h.below hb) r
  have hc := fun w' (hb : Below w.heap.size w w') => merge_any (l.toNat + r.toNat + 1) (h.below hb) l r (by omega)
  generalize maxF (fuel l) A l = M at hm hQ
  generalize minF (fuel r) A r = N at hn hQ
  generalize mergeF (l.toNat + r.toNat + 1) A l r = C at hc hQ
  obtain ⟨mk, mv, ml⟩ := M
  obtain ⟨nk, nv, nr⟩ := N
  obtain ⟨cu, ce, CA⟩ := C
  simp only [] at hm hn hc hQ
  have HM := Lib.hid hm
  have HN := Lib.hid hn
  clear hm hn
  rcases h with ⟨rfl, rfl, _⟩ | ⟨a, p, sv, row, rfl, rfl, _⟩
  · rw [if_pos (.inl rfl)] at hQ
    subst hQ
    clear hil hir hc
    go_enter Try.func27, Try.ntmps27
    go_wp2_with fail
    refine (HM.out _ (Below.refl _ _)).mono ?_
    rintro e w1 ⟨rfl, b1⟩
    have z1 := b1.size
    have B1 := Lib.hid (b1.alloc z1 (.cells #[.int .i64 mk, .int .i64 mv] 24))
    have H1 := Lib.hid (heap_alloc_new w1 (.cells #[.int .i64 mk, .int .i64 mv] 24))
    clear b1
    go_wp2_with fail
    refine (HN.out _ B1.out).mono ?_
    rintro e w2 ⟨rfl, b2⟩
    have z2 := b2.size
    simp at z2
    have lt2 : w1.heap.size < w2.heap.size := by omega
    have H2 := Lib.hid ((heap_alloc_old w2 (.cells #[.int .i64 nk, .int .i64 nv] 24) lt2).trans ((b2.block w1.heap.size (by simp)).trans H1.out))
    have D2 := Lib.hid (heap_alloc_new w2 (.cells #[.int .i64 nk, .int .i64 nv] 24))
    have B2 := Lib.hid ((B1.out.trans (b2.mono B1.out.size)).alloc (by omega) (.cells #[.int .i64 nk, .int .i64 nv] 24))
    clear b2
    go_wp2_with fail
    go_ret2
    exact ⟨rfl, Made.of_below HH.out B2.out⟩
  · by_cases hl : isJ (some a) l = true
    · by_cases hr : isJ (some a) r = true
      · rw [hl] at hil
        rw [hr] at hir
        have HIL := Lib.hid hil
        have HIR := Lib.hid hir
        by_cases hb : ml = true ∧ nr = true ∧ nk ≤ mk
        · obtain ⟨rfl, rfl, hle⟩ := hb
          rw [if_pos (.inr (.inr (.inr ⟨rfl, rfl, hle⟩)))] at hQ
          subst hQ
          clear hil hir hc hl hr
          go_enter Try.func27, Try.ntmps27
          go_wp2_with fail
          refine (HM.out _ (Below.refl _ _)).mono ?_
          rintro e w1 ⟨rfl, b1⟩
          have z1 := b1.size
          have B1 := Lib.hid (b1.alloc z1 (.cells #[.int .i64 mk, .int .i64 mv] 24))
          have H1 := Lib.hid (heap_alloc_new w1 (.cells #[.int .i64 mk, .int .i64 mv] 24))
          clear b1
          go_wp2_with fail
          refine (HN.out _ B1.out).mono ?_
          rintro e w2 ⟨rfl, b2⟩
          have z2 := b2.size
          simp at z2
          have lt2 : w1.heap.size < w2.heap.size := by omega
          have H2 := Lib.hid ((heap_alloc_old w2 (.cells #[.int .i64 nk, .int .i64 nv] 24) lt2).trans ((b2.block w1.heap.size (by simp)).trans H1.out))
          have D2 := Lib.hid (heap_alloc_new w2 (.cells #[.int .i64 nk, .int .i64 nv] 24))
          have B2 := Lib.hid ((B1.out.trans (b2.mono B1.out.size)).alloc (by omega) (.cells #[.int .i64 nk, .int .i64 nv] 24))
          clear b2
          go_wp2_with fail
          refine (HIL.out _ B2.out).mono ?_
          rintro e w3 ⟨rfl, b3⟩
          have H3 := Lib.hid ((b3.block w1.heap.size (by have := (Array.getElem?_eq_some_iff.1 H2.out).1; omega)).trans H2.out)
          have D3 := Lib.hid ((b3.block w2.heap.size (by have := (Array.getElem?_eq_some_iff.1 D2.out).1; omega)).trans D2.out)
          have B3 := Lib.hid (B2.out.trans (b3.mono B2.out.size)); clear b3
          go_wp2_with fail
          refine (HIR.out _ B3.out).mono ?_
          rintro e w4 ⟨rfl, b4⟩
          have H4 := Lib.hid ((b4.block w1.heap.size (by have := (Array.getElem?_eq_some_iff.1 H3.out).1; omega)).trans H3.out)
          have D4 := Lib.hid ((b4.block w2.heap.size (by have := (Array.getElem?_eq_some_iff.1 D3.out).1; omega)).trans D3.out)
          have B4 := Lib.hid (B3.out.trans (b4.mono B3.out.size)); clear b4
          have c0 := cell_blk (i := 0) H4.out rfl
          have d0 := cell_blk (i := 0) D4.out rfl
          go_wp2_with fail
          go_ret2
          exact ⟨rfl, Made.of_below HH.out B4.out⟩
        · rw [if_neg (by rintro (h | ⟨h, h2⟩ | ⟨h, h2⟩ | h); (exact absurd h (by simp)); (unfold isJ at hl; simp [h, h2] at hl); (unfold isJ at hr; simp [h, h2] at hr); exact hb h)] at hQ
          subst hQ
          have HC := Lib.hid hc
          clear hil hir hc hl hr
          cases ml with
          | false =>
            clear hb
            go_enter Try.func27, Try.ntmps27
            go_wp2_with fail
            refine (HM.out _ (Below.refl _ _)).mono ?_
            rintro e w1 ⟨rfl, b1⟩
            have z1 := b1.size
            have B1 := Lib.hid (b1.alloc z1 (.cells #[.int .i64 mk, .int .i64 mv] 24))
            have H1 := Lib.hid (heap_alloc_new w1 (.cells #[.int .i64 mk, .int .i64 mv] 24))
            clear b1
            go_wp2_with fail
            refine (HN.out _ B1.out).mono ?_
            rintro e w2 ⟨rfl, b2⟩
            have z2 := b2.size
            simp at z2
            have lt2 : w1.heap.size < w2.heap.size := by omega
            have H2 := Lib.hid ((heap_alloc_old w2 (.cells #[.int .i64 nk, .int .i64 nv] 24) lt2).trans ((b2.block w1.heap.size (by simp)).trans H1.out))
            have D2 := Lib.hid (heap_alloc_new w2 (.cells #[.int .i64 nk, .int .i64 nv] 24))
            have B2 := Lib.hid ((B1.out.trans (b2.mono B1.out.size)).alloc (by omega) (.cells #[.int .i64 nk, .int .i64 nv] 24))
            clear b2
            go_wp2_with fail
            refine (HIL.out _ B2.out).mono ?_
            rintro e w3 ⟨rfl, b3⟩
            have H3 := Lib.hid ((b3.block w1.heap.size (by have := (Array.getElem?_eq_some_iff.1 H2.out).1; omega)).trans H2.out)
            have D3 := Lib.hid ((b3.block w2.heap.size (by have := (Array.getElem?_eq_some_iff.1 D2.out).1; omega)).trans D2.out)
            have B3 := Lib.hid (B2.out.trans (b3.mono B2.out.size)); clear b3
            go_wp2_with fail
            refine (HIR.out _ B3.out).mono ?_
            rintro e w4 ⟨rfl, b4⟩
            have H4 := Lib.hid ((b4.block w1.heap.size (by have := (Array.getElem?_eq_some_iff.1 H3.out).1; omega)).trans H3.out)
            have D4 := Lib.hid ((b4.block w2.heap.size (by have := (Array.getElem?_eq_some_iff.1 D3.out).1; omega)).trans D3.out)
            have B4 := Lib.hid (B3.out.trans (b4.mono B3.out.size)); clear b4
            go_wp2_with fail
            refine (HC.out _ B4.out).mono ?_
            rintro e w9 ⟨rfl, m9⟩
            obtain ⟨F9, o9, g9⟩ := Made.out m9
            have G9 := Lib.hid ((Grow.of_below (F := F) B4.out).trans g9)
            have O9 := Lib.hid o9
            clear m9 o9 g9
            go_wp2_with fail
            go_ret2
            exact ⟨rfl, Made.of_grow G9.out O9.out⟩
          | true =>
            cases nr with
            | false =>
              clear hb
              go_enter Try.func27, Try.ntmps27
              go_wp2_with fail
              refine (HM.out _ (Below.refl _ _)).mono ?_
              rintro e w1 ⟨rfl, b1⟩
              have z1 := b1.size
              have B1 := Lib.hid (b1.alloc z1 (.cells #[.int .i64 mk, .int .i64 mv] 24))
              have H1 := Lib.hid (heap_alloc_new w1 (.cells #[.int .i64 mk, .int .i64 mv] 24))
              clear b1
              go_wp2_with fail
              refine (HN.out _ B1.out).mono ?_
              rintro e w2 ⟨rfl, b2⟩
              have z2 := b2.size
              simp at z2
              have lt2 : w1.heap.size < w2.heap.size := by omega
              have H2 := Lib.hid ((heap_alloc_old w2 (.cells #[.int .i64 nk, .int .i64 nv] 24) lt2).trans ((b2.block w1.heap.size (by simp)).trans H1.out))
              have D2 := Lib.hid (heap_alloc_new w2 (.cells #[.int .i64 nk, .int .i64 nv] 24))
              have B2 := Lib.hid ((B1.out.trans (b2.mono B1.out.size)).alloc (by omega) (.cells #[.int .i64 nk, .int .i64 nv] 24))
              clear b2
              go_wp2_with fail
              refine (HIL.out _ B2.out).mono ?_
              rintro e w3 ⟨rfl, b3⟩
              have H3 := Lib.hid ((b3.block w1.heap.size (by have := (Array.getElem?_eq_some_iff.1 H2.out).1; omega)).trans H2.out)
              have D3 := Lib.hid ((b3.block w2.heap.size (by have := (Array.getElem?_eq_some_iff.1 D2.out).1; omega)).trans D2.out)
              have B3 := Lib.hid (B2.out.trans (b3.mono B2.out.size)); clear b3
              go_wp2_with fail
              refine (HIR.out _ B3.out).mono ?_
              rintro e w4 ⟨rfl, b4⟩
              have H4 := Lib.hid ((b4.block w1.heap.size (by have := (Array.getElem?_eq_some_iff.1 H3.out).1; omega)).trans H3.out)
              have D4 := Lib.hid ((b4.block w2.heap.size (by have := (Array.getElem?_eq_some_iff.1 D3.out).1; omega)).trans D3.out)
              have B4 := Lib.hid (B3.out.trans (b4.mono B3.out.size)); clear b4
              go_wp2_with fail
              refine (HC.out _ B4.out).mono ?_
              rintro e w9 ⟨rfl, m9⟩
              obtain ⟨F9, o9, g9⟩ := Made.out m9
              have G9 := Lib.hid ((Grow.of_below (F := F) B4.out).trans g9)
              have O9 := Lib.hid o9
              clear m9 o9 g9
              go_wp2_with fail
              go_ret2
              exact ⟨rfl, Made.of_grow G9.out O9.out⟩
            | true =>
              have hle : ¬ (nk ≤ mk) := fun h => hb ⟨rfl, rfl, h⟩
              clear hb
              go_enter Try.func27, Try.ntmps27
              go_wp2_with fail
              refine (HM.out _ (Below.refl _ _)).mono ?_
              rintro e w1 ⟨rfl, b1⟩
              have z1 := b1.size
              have B1 := Lib.hid (b1.alloc z1 (.cells #[.int .i64 mk, .int .i64 mv] 24))
              have H1 := Lib.hid (heap_alloc_new w1 (.cells #[.int .i64 mk, .int .i64 mv] 24))
              clear b1
              go_wp2_with fail
              refine (HN.out _ B1.out).mono ?_
              rintro e w2 ⟨rfl, b2⟩
              have z2 := b2.size
              simp at z2
              have lt2 : w1.heap.size < w2.heap.size := by omega
              have H2 := Lib.hid ((heap_alloc_old w2 (.cells #[.int .i64 nk, .int .i64 nv] 24) lt2).trans ((b2.block w1.heap.size (by simp)).trans H1.out))
              have D2 := Lib.hid (heap_alloc_new w2 (.cells #[.int .i64 nk, .int .i64 nv] 24))
              have B2 := Lib.hid ((B1.out.trans (b2.mono B1.out.size)).alloc (by omega) (.cells #[.int .i64 nk, .int .i64 nv] 24))
              clear b2
              go_wp2_with fail
              refine (HIL.out _ B2.out).mono ?_
              rintro e w3 ⟨rfl, b3⟩
              have H3 := Lib.hid ((b3.block w1.heap.size (by have := (Array.getElem?_eq_some_iff.1 H2.out).1; omega)).trans H2.out)
              have D3 := Lib.hid ((b3.block w2.heap.size (by have := (Array.getElem?_eq_some_iff.1 D2.out).1; omega)).trans D2.out)
              have B3 := Lib.hid (B2.out.trans (b3.mono B2.out.size)); clear b3
              go_wp2_with fail
              refine (HIR.out _ B3.out).mono ?_
              rintro e w4 ⟨rfl, b4⟩
              have H4 := Lib.hid ((b4.block w1.heap.size (by have := (Array.getElem?_eq_some_iff.1 H3.out).1; omega)).trans H3.out)
              have D4 := Lib.hid ((b4.block w2.heap.size (by have := (Array.getElem?_eq_some_iff.1 D3.out).1; omega)).trans D3.out)
              have B4 := Lib.hid (B3.out.trans (b4.mono B3.out.size)); clear b4
              have hlt2 : mk < nk := by omega
              have c0 := cell_blk (i := 0) H4.out rfl
              have d0 := cell_blk (i := 0) D4.out rfl
              go_wp2_with fail
              refine (HC.out _ B4.out).mono ?_
              rintro e w9 ⟨rfl, m9⟩
              obtain ⟨F9, o9, g9⟩ := Made.out m9
              have G9 := Lib.hid ((Grow.of_below (F := F) B4.out).trans g9)
              have O9 := Lib.hid o9
              clear m9 o9 g9
              go_wp2_with fail
              go_ret2
              exact ⟨rfl, Made.of_grow G9.out O9.out⟩
      · have hr2 : isJ (some a) r = false := by simpa using hr
        rw [hl] at hil
        rw [hr2] at hir
        have HIL := Lib.hid hil
        have HIR := Lib.hid hir
        rw [if_pos (.inr (.inr (.inl (by unfold isJ at hr2; simpa using hr2))))] at hQ
        subst hQ
        clear hil hir hc hl hr hr2
        go_enter Try.func27, Try.ntmps27
        go_wp2_with fail
        refine (HM.out _ (Below.refl _ _)).mono ?_
        rintro e w1 ⟨rfl, b1⟩
        have z1 := b1.size
        have B1 := Lib.hid (b1.alloc z1 (.cells #[.int .i64 mk, .int .i64 mv] 24))
        have H1 := Lib.hid (heap_alloc_new w1 (.cells #[.int .i64 mk, .int .i64 mv] 24))
        clear b1
        go_wp2_with fail
        refine (HN.out _ B1.out).mono ?_
        rintro e w2 ⟨rfl, b2⟩
        have z2 := b2.size
        simp at z2
        have lt2 : w1.heap.size < w2.heap.size := by omega
        have H2 := Lib.hid ((heap_alloc_old w2 (.cells #[.int .i64 nk, .int .i64 nv] 24) lt2).trans ((b2.block w1.heap.size (by simp)).trans H1.out))
        have D2 := Lib.hid (heap_alloc_new w2 (.cells #[.int .i64 nk, .int .i64 nv] 24))
        have B2 := Lib.hid ((B1.out.trans (b2.mono B1.out.size)).alloc (by omega) (.cells #[.int .i64 nk, .int .i64 nv] 24))
        clear b2
        go_wp2_with fail
        refine (HIL.out _ B2.out).mono ?_
        rintro e w3 ⟨rfl, b3⟩
        have H3 := Lib.hid ((b3.block w1.heap.size (by have := (Array.getElem?_eq_some_iff.1 H2.out).1; omega)).trans H2.out)
        have D3 := Lib.hid ((b3.block w2.heap.size (by have := (Array.getElem?_eq_some_iff.1 D2.out).1; omega)).trans D2.out)
        have B3 := Lib.hid (B2.out.trans (b3.mono B2.out.size)); clear b3
        go_wp2_with fail
        refine (HIR.out _ B3.out).mono ?_
        rintro e w4 ⟨rfl, b4⟩
        have H4 := Lib.hid ((b4.block w1.heap.size (by have := (Array.getElem?_eq_some_iff.1 H3.out).1; omega)).trans H3.out)
        have D4 := Lib.hid ((b4.block w2.heap.size (by have := (Array.getElem?_eq_some_iff.1 D3.out).1; omega)).trans D3.out)
        have B4 := Lib.hid (B3.out.trans (b4.mono B3.out.size)); clear b4
        go_wp2_with fail
        go_ret2
        exact ⟨rfl, Made.of_below HH.out B4.out⟩
    · have hl2 : isJ (some a) l = false := by simpa using hl
      rw [hl2] at hil
      have HIL := Lib.hid hil
      rw [if_pos (.inr (.inl (by unfold isJ at hl2; simpa using hl2)))] at hQ
      subst hQ
      clear hil hir hc hl hl2
      go_enter Try.func27, Try.ntmps27
      go_wp2_with fail
      refine (HM.out _ (Below.refl _ _)).mono ?_
      rintro e w1 ⟨rfl, b1⟩
      have z1 := b1.size
      have B1 := Lib.hid (b1.alloc z1 (.cells #[.int .i64 mk, .int .i64 mv] 24))
      have H1 := Lib.hid (heap_alloc_new w1 (.cells #[.int .i64 mk, .int .i64 mv] 24))
      clear b1
      go_wp2_with fail
      refine (HN.out _ B1.out).mono ?_
      rintro e w2 ⟨rfl, b2⟩
      have z2 := b2.size
      simp at z2
      have lt2 : w1.heap.size < w2.heap.size := by omega
      have H2 := Lib.hid ((heap_alloc_old w2 (.cells #[.int .i64 nk, .int .i64 nv] 24) lt2).trans ((b2.block w1.heap.size (by simp)).trans H1.out))
      have D2 := Lib.hid (heap_alloc_new w2 (.cells #[.int .i64 nk, .int .i64 nv] 24))
      have B2 := Lib.hid ((B1.out.trans (b2.mono B1.out.size)).alloc (by omega) (.cells #[.int .i64 nk, .int .i64 nv] 24))
      clear b2
      go_wp2_with fail
      refine (HIL.out _ B2.out).mono ?_
      rintro e w3 ⟨rfl, b3⟩
      have H3 := Lib.hid ((b3.block w1.heap.size (by have := (Array.getElem?_eq_some_iff.1 H2.out).1; omega)).trans H2.out)
      have D3 := Lib.hid ((b3.block w2.heap.size (by have := (Array.getElem?_eq_some_iff.1 D2.out).1; omega)).trans D2.out)
      have B3 := Lib.hid (B2.out.trans (b3.mono B2.out.size)); clear b3
      go_wp2_with fail
      go_ret2
      exact ⟨rfl, Made.of_below HH.out B3.out⟩

end Go.Proofs.Ytkcfkanfdbejiaa
