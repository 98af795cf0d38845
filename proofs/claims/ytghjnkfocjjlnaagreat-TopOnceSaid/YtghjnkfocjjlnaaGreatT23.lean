/- The walk of walk.goes. -/
/- The walks of walk.Range, All and Count. -/
import Derived.Test.YtghjnkfocjjlnaaGreatT22
import Derived.Test.YtghjnkfocjjlnaaGreatT06
import Derived.StillTailTactics
set_option linter.unusedSimpArgs false
set_option linter.unusedVariables false
section
namespace Go.Proofs.YtghjnkfocjjlnaaGreat
set_option maxRecDepth 100000
open Go.RowKit Go.Proofs.YtghjnkfocjjlnaaGreatW.PrintWords Go.Proofs.YtghjnkfocjjlnaaGreatW.PrintLast
set_option linter.unusedSimpArgs false
set_option linter.unusedVariables false
theorem region_tail {P : Program} {id : Nat} {Q : Exit → Act → World → Prop} {a : Act} {w : World} {l : List Oper} (n : Nat) (hm : P.follows .mixedOrders = true) (hB : Region.lexTailB .any l.toArray n = true)
    (h : ∀ wd, wd = w.drew → wpStill P l.toArray wd (fun a' => wpList P l.toArray Q (l.drop n) a' wd) (l.take n) a) : (Code.region id l.toArray true).wp P Q a w := wp_region_still_tail n hm hB (h _ rfl)
theorem betw_nil_lo {lo hi : Int} {l : List Pr} (h : ∀ p ∈ l, p.1 < lo) : betw lo hi l = [] := List.filter_eq_nil_iff.2 fun p hp => by have := h p hp; simp; omega
theorem betw_nil_hi {lo hi : Int} {l : List Pr} (h : ∀ p ∈ l, hi < p.1) : betw lo hi l = [] := List.filter_eq_nil_iff.2 fun p hp => by have := h p hp; simp; omega
theorem betw_mid (lo hi : Int) (l1 l2 : List Pr) (x : Pr) : betw lo hi (l1 ++ x :: l2) = betw lo hi l1 ++ ((if lo ≤ x.1 ∧ x.1 ≤ hi then [x] else []) ++ betw lo hi l2) := by
  unfold betw
  rw [List.filter_append, List.filter_cons]
  by_cases h : lo ≤ x.1 <;> by_cases h2 : x.1 ≤ hi <;> simp [h, h2]
set_option maxRecDepth 100000 in
set_option maxHeartbeats 4000000 in
theorem goesR_any {W0 : World} {po : Option Addr} {a : Ar} {F : Nat → Prop} {p g : Nat} {lo hi : Int} (hlh : lo ≤ hi) {t : Int} {l : List Pr} (ht : Tr a t l) : Sorted l → ∀ {w : World} {L bd : Int} {out : List Pr}, OAt W0 po (some a) F → GR W0.heap.size W0 w p g po lo hi L out → t < bd → (l.length : Int) ≤ L → L ≤ 60000 → t < 1000000 → out.length + l.length ≤ 1000000 →
    Calls Tryz.prog 176 #[.pointer (some ⟨p, 0, none⟩), .int .i64 t, .int .i64 bd] w fun e w' => e = .returned (.tuple #[]) ∧ ∃ L', L - l.length ≤ L' ∧ L' ≤ L ∧ GR W0.heap.size W0 w' p g po lo hi L' (out ++ betw lo hi l) ∧ NK w w' := by
  induction ht with
  | nil =>
    intro hs w L bd out h gr hbd hL hL6 ht6 hout
    have hg := get_any (h.below gr.below) 0
    rw [getN_no (isN_zero a), isN_zero a] at hg
    have x0 := cell_blk (i := 0) gr.walker rfl
    have hlp := gr.size
    have HG := Lib.hid hg; clear hg
    have GR := Lib.hid gr; clear gr
    have HH := Lib.hid h; clear h
    go_enter Tryz.func176, Tryz.ntmps176
    go_wp2_with fail
    refine HG.out.mono ?_
    rintro e w1 ⟨rfl, b1⟩
    have B1 := Lib.hid (b1.alloc b1.size (.cells #[.int .i64 0, .int .i64 0, .int .i64 0, .int .i64 0, .int .i64 0, .int .i64 0] 177)); clear b1
    go_wp2_with fail
    first | go_end0 | refine bodyPost_ret (results_none rfl _ _ _) rfl ?_
    exact ⟨rfl, L, by simp, by omega, by rw [show betw lo hi [] = [] from rfl, List.append_nil]; exact GR.out.later B1.out, NK.of_below B1.out⟩
  | node t k v x y l1 l2 hn hgt' htop hx hy h1 h2 i1 i2 =>
    intro hs w L bd out h gr hbd hL hL6 ht6 hout
    obtain ⟨s1, s2, m1, m2, _⟩ := sorted_mid.1 hs
    have hlen : (l1 ++ (k, v) :: l2).length = l1.length + l2.length + 1 := by simp; omega
    rw [hlen] at hL hout ⊢
    have hp := isN_pos hn
    have hg := get_any (h.below gr.below) t
    rw [hgt', hn] at hg
    clear htop hgt' hn hs h1 h2
    generalize (((l1 ++ (k, v) :: l2).length : Nat) : Int) = s at hg
    generalize ((hgt (l1 ++ (k, v) :: l2) : Nat) : Int) = gg at hg
    have x0 := cell_blk (i := 0) gr.walker rfl
    have hlp0 := gr.size
    have hbl1 := betw_len lo hi l1
    have h0 : (L == 0) = false := beq_eq_false_iff_ne.2 (by omega)
    have wl : IntKind.i64.wrap (L - 1) = L - 1 := IntWalk.i64_in _ (by omega)
    have HG := Lib.hid hg; clear hg
    have GR := Lib.hid gr; clear gr
    have HH := Lib.hid h; clear h
    have Z1 := Lib.hid s1; clear s1
    have Z2 := Lib.hid s2; clear s2
    have HX := Lib.hid (show x < t ∧ y < t from ⟨hx, hy⟩)
    rcases (show (k < lo) ∨ (k ≤ lo ∧ lo ≤ k ∧ lo < hi) ∨ (k ≤ lo ∧ lo ≤ k ∧ hi ≤ lo) ∨ (lo < k ∧ k < hi) ∨ (lo < k ∧ k ≤ hi ∧ hi ≤ k) ∨ (hi < k) by omega) with hc | hc | hc | hc | hc | hc
    · have HE := Lib.hid (show betw lo hi (l1 ++ (k, v) :: l2) = betw lo hi l2 by rw [betw_mid, betw_nil_lo (l := l1) (fun p hp => by have := m1 p hp; simp only [] at this; omega), if_neg (by simp only []; omega)]; simp)
      clear m1 m2
      go_enter Tryz.func176, Tryz.ntmps176
      go_wp2_with fail
      refine HG.out.mono ?_
      rintro e w1 ⟨rfl, b1⟩
      have G1 := Lib.hid (GR.out.later b1)
      have K1 := Lib.hid (NK.of_below b1); clear b1
      have y0 := cell_blk (i := 0) G1.out.walker rfl
      have y1 := cell_blk (i := 1) G1.out.walker rfl
      have y2 := cell_blk (i := 2) G1.out.walker rfl
      have y3 := cell_blk (i := 3) G1.out.walker rfl
      have y4 := cell_blk (i := 4) G1.out.walker rfl
      have f3 := free_blk (i := 3) G1.out.walker
      have zs : (w1.setCell ⟨p, 3, none⟩ (.int .i64 (L - 1))).heap.size = w1.heap.size := by simp
      have n2 := heap_alloc_new (w1.setCell ⟨p, 3, none⟩ (.int .i64 (L - 1))) (.cells #[.int .i64 k, .int .i64 v, .int .i64 x, .int .i64 y, .int .i64 s, .int .i64 gg] 177)
      rw [zs] at n2
      have N2 := Lib.hid n2; clear n2
      have G2 := Lib.hid ((G1.out.left (L - 1)).later ((Below.refl _ _).alloc (Nat.le_refl _) (.cells #[.int .i64 k, .int .i64 v, .int .i64 x, .int .i64 y, .int .i64 s, .int .i64 gg] 177)))
      have K2 := Lib.hid ((K1.out.trans (NK.set (i := 3) G1.out.walker (by decide) (.int .i64 (L - 1)))).trans (NK.of_below ((Below.refl _ _).alloc (Nat.le_refl _) (.cells #[.int .i64 k, .int .i64 v, .int .i64 x, .int .i64 y, .int .i64 s, .int .i64 gg] 177))))
      have hlp := G1.out.size
      clear zs
      go_wp2_with fail
      go_quiet (fail)
      go_wp2_with fail
      have dlo : decide (lo ≤ k) = false := decide_eq_false (by omega)
      have dhi : decide (k ≤ hi) = true := decide_eq_true (by omega)
      go_quiet (fail)
      go_wp2_with fail
      clear dlo dhi
      go_quiet (fail)
      go_wp2_with fail
      have cq := fun w' (hb : Below ((w1.setCell ⟨p, 3, none⟩ (.int .i64 (L - 1))).alloc (.cells #[.int .i64 k, .int .i64 v, .int .i64 x, .int .i64 y, .int .i64 s, .int .i64 gg] 177)).heap.size ((w1.setCell ⟨p, 3, none⟩ (.int .i64 (L - 1))).alloc (.cells #[.int .i64 k, .int .i64 v, .int .i64 x, .int .i64 y, .int .i64 s, .int .i64 gg] 177)) w') => i2 Z2.out HH.out (G2.out.later hb) HX.out.2 (by omega) (by omega) (by omega) (by have := hbl1; first | omega | (simp only [List.length_append, List.length_singleton]; omega))
      have CQ := Lib.hid cq; clear cq
      refine (CQ.out _ (by exact ⟨rfl, rfl, rfl, Nat.le_refl _, fun _ _ => rfl⟩)).mono ?_
      rintro e w5 ⟨rfl, L5, hl5, hm5, g5, k5⟩
      have G5 := Lib.hid g5; have K5 := Lib.hid (NK.trans K2.out k5); clear g5 k5 CQ
      go_wp2_with fail
      go_end0
      exact ⟨rfl, L5, by omega, by omega, by rw [HE.out]; simpa using G5.out, K5.out⟩
    · have HE := Lib.hid (show betw lo hi (l1 ++ (k, v) :: l2) = [(k, v)] ++ betw lo hi l2 by rw [betw_mid, betw_nil_lo (l := l1) (fun p hp => by have := m1 p hp; simp only [] at this; omega), if_pos (by simp only []; omega)]; simp)
      clear m1 m2
      go_enter Tryz.func176, Tryz.ntmps176
      go_wp2_with fail
      refine HG.out.mono ?_
      rintro e w1 ⟨rfl, b1⟩
      have G1 := Lib.hid (GR.out.later b1)
      have K1 := Lib.hid (NK.of_below b1); clear b1
      have y0 := cell_blk (i := 0) G1.out.walker rfl
      have y1 := cell_blk (i := 1) G1.out.walker rfl
      have y2 := cell_blk (i := 2) G1.out.walker rfl
      have y3 := cell_blk (i := 3) G1.out.walker rfl
      have y4 := cell_blk (i := 4) G1.out.walker rfl
      have f3 := free_blk (i := 3) G1.out.walker
      have zs : (w1.setCell ⟨p, 3, none⟩ (.int .i64 (L - 1))).heap.size = w1.heap.size := by simp
      have n2 := heap_alloc_new (w1.setCell ⟨p, 3, none⟩ (.int .i64 (L - 1))) (.cells #[.int .i64 k, .int .i64 v, .int .i64 x, .int .i64 y, .int .i64 s, .int .i64 gg] 177)
      rw [zs] at n2
      have N2 := Lib.hid n2; clear n2
      have G2 := Lib.hid ((G1.out.left (L - 1)).later ((Below.refl _ _).alloc (Nat.le_refl _) (.cells #[.int .i64 k, .int .i64 v, .int .i64 x, .int .i64 y, .int .i64 s, .int .i64 gg] 177)))
      have K2 := Lib.hid ((K1.out.trans (NK.set (i := 3) G1.out.walker (by decide) (.int .i64 (L - 1)))).trans (NK.of_below ((Below.refl _ _).alloc (Nat.le_refl _) (.cells #[.int .i64 k, .int .i64 v, .int .i64 x, .int .i64 y, .int .i64 s, .int .i64 gg] 177))))
      have hlp := G1.out.size
      clear zs
      go_wp2_with fail
      go_quiet (fail)
      go_wp2_with fail
      have dlo : decide (lo ≤ k) = true := decide_eq_true (by omega)
      have dhi : decide (k ≤ hi) = true := decide_eq_true (by omega)
      go_quiet (fail)
      go_wp2_with fail
      clear dlo dhi
      refine region_tail 6 (by kernel_rfl) (by kernel_rfl) (fun wd hwd => ?_)
      have hbd2 : Below ((w1.setCell ⟨p, 3, none⟩ (.int .i64 (L - 1))).alloc (.cells #[.int .i64 k, .int .i64 v, .int .i64 x, .int .i64 y, .int .i64 s, .int .i64 gg] 177)).heap.size ((w1.setCell ⟨p, 3, none⟩ (.int .i64 (L - 1))).alloc (.cells #[.int .i64 k, .int .i64 v, .int .i64 x, .int .i64 y, .int .i64 s, .int .i64 gg] 177)) wd := by rw [hwd]; exact ⟨rfl, rfl, rfl, Nat.le_refl _, fun _ _ => rfl⟩
      have G31 := Lib.hid (G2.out.later hbd2)
      have N31 := Lib.hid ((NK.of_below hbd2) _ _ _ N2.out)
      have K31 := Lib.hid (NK.trans K2.out (NK.of_below hbd2))
      clear hwd hbd2
      have n31_0 := cell_blk (i := 0) N31.out rfl
      have n31_1 := cell_blk (i := 1) N31.out rfl
      have n31_2 := cell_blk (i := 2) N31.out rfl
      have n31_3 := cell_blk (i := 3) N31.out rfl
      have q31_1 := cell_blk (i := 1) G31.out.walker rfl
      have q31_2 := cell_blk (i := 2) G31.out.walker rfl
      have q31_4 := cell_blk (i := 4) G31.out.walker rfl
      have hln31 := (Array.getElem?_eq_some_iff.1 N31.out).1
      have hlq31 := G31.out.size
      simp only [List.take_succ_cons, List.take_zero, List.drop_succ_cons, List.drop_zero]
      repeat still_step
      refine wpStill_nil ?_
      have ct := tell_any G31.out k v (by have := hbl1; first | omega | (simp only [List.length_append]; omega))
      have CT := Lib.hid ct; clear ct
      go_wp2_with (go_at_call 147; go_loud (refine CT.out.mono ?_; rintro e w4 ⟨rfl, g4, k4⟩; have G4 := Lib.hid g4; have K4 := Lib.hid (NK.trans K31.out k4); have N4 := Lib.hid (k4 _ _ _ N31.out); clear g4 k4 CT))
      have n4_0 := cell_blk (i := 0) N4.out rfl
      have n4_1 := cell_blk (i := 1) N4.out rfl
      have n4_2 := cell_blk (i := 2) N4.out rfl
      have n4_3 := cell_blk (i := 3) N4.out rfl
      have q4_1 := cell_blk (i := 1) G4.out.walker rfl
      have q4_2 := cell_blk (i := 2) G4.out.walker rfl
      have q4_4 := cell_blk (i := 4) G4.out.walker rfl
      have hln4 := (Array.getElem?_eq_some_iff.1 N4.out).1
      have hlq4 := G4.out.size
      go_quiet (fail)
      go_wp2_with fail
      have cq := fun w' (hb : Below w4.heap.size w4 w') => i2 Z2.out HH.out (G4.out.later hb) HX.out.2 (by omega) (by omega) (by omega) (by have := hbl1; first | omega | (simp only [List.length_append, List.length_singleton]; omega))
      have CQ := Lib.hid cq; clear cq
      refine (CQ.out _ (by exact ⟨rfl, rfl, rfl, Nat.le_refl _, fun _ _ => rfl⟩)).mono ?_
      rintro e w5 ⟨rfl, L5, hl5, hm5, g5, k5⟩
      have G5 := Lib.hid g5; have K5 := Lib.hid (NK.trans K4.out k5); clear g5 k5 CQ
      go_wp2_with fail
      go_end0
      exact ⟨rfl, L5, by omega, by omega, by rw [HE.out]; simpa using G5.out, K5.out⟩
    · have HE := Lib.hid (show betw lo hi (l1 ++ (k, v) :: l2) = [(k, v)] by rw [betw_mid, betw_nil_lo (l := l1) (fun p hp => by have := m1 p hp; simp only [] at this; omega), betw_nil_hi (l := l2) (fun p hp => by have := m2 p hp; simp only [] at this; omega), if_pos (by simp only []; omega)]; simp)
      clear m1 m2
      go_enter Tryz.func176, Tryz.ntmps176
      go_wp2_with fail
      refine HG.out.mono ?_
      rintro e w1 ⟨rfl, b1⟩
      have G1 := Lib.hid (GR.out.later b1)
      have K1 := Lib.hid (NK.of_below b1); clear b1
      have y0 := cell_blk (i := 0) G1.out.walker rfl
      have y1 := cell_blk (i := 1) G1.out.walker rfl
      have y2 := cell_blk (i := 2) G1.out.walker rfl
      have y3 := cell_blk (i := 3) G1.out.walker rfl
      have y4 := cell_blk (i := 4) G1.out.walker rfl
      have f3 := free_blk (i := 3) G1.out.walker
      have zs : (w1.setCell ⟨p, 3, none⟩ (.int .i64 (L - 1))).heap.size = w1.heap.size := by simp
      have n2 := heap_alloc_new (w1.setCell ⟨p, 3, none⟩ (.int .i64 (L - 1))) (.cells #[.int .i64 k, .int .i64 v, .int .i64 x, .int .i64 y, .int .i64 s, .int .i64 gg] 177)
      rw [zs] at n2
      have N2 := Lib.hid n2; clear n2
      have G2 := Lib.hid ((G1.out.left (L - 1)).later ((Below.refl _ _).alloc (Nat.le_refl _) (.cells #[.int .i64 k, .int .i64 v, .int .i64 x, .int .i64 y, .int .i64 s, .int .i64 gg] 177)))
      have K2 := Lib.hid ((K1.out.trans (NK.set (i := 3) G1.out.walker (by decide) (.int .i64 (L - 1)))).trans (NK.of_below ((Below.refl _ _).alloc (Nat.le_refl _) (.cells #[.int .i64 k, .int .i64 v, .int .i64 x, .int .i64 y, .int .i64 s, .int .i64 gg] 177))))
      have hlp := G1.out.size
      clear zs
      go_wp2_with fail
      go_quiet (fail)
      go_wp2_with fail
      have dlo : decide (lo ≤ k) = true := decide_eq_true (by omega)
      have dhi : decide (k ≤ hi) = true := decide_eq_true (by omega)
      go_quiet (fail)
      go_wp2_with fail
      clear dlo dhi
      refine region_tail 6 (by kernel_rfl) (by kernel_rfl) (fun wd hwd => ?_)
      have hbd2 : Below ((w1.setCell ⟨p, 3, none⟩ (.int .i64 (L - 1))).alloc (.cells #[.int .i64 k, .int .i64 v, .int .i64 x, .int .i64 y, .int .i64 s, .int .i64 gg] 177)).heap.size ((w1.setCell ⟨p, 3, none⟩ (.int .i64 (L - 1))).alloc (.cells #[.int .i64 k, .int .i64 v, .int .i64 x, .int .i64 y, .int .i64 s, .int .i64 gg] 177)) wd := by rw [hwd]; exact ⟨rfl, rfl, rfl, Nat.le_refl _, fun _ _ => rfl⟩
      have G31 := Lib.hid (G2.out.later hbd2)
      have N31 := Lib.hid ((NK.of_below hbd2) _ _ _ N2.out)
      have K31 := Lib.hid (NK.trans K2.out (NK.of_below hbd2))
      clear hwd hbd2
      have n31_0 := cell_blk (i := 0) N31.out rfl
      have n31_1 := cell_blk (i := 1) N31.out rfl
      have n31_2 := cell_blk (i := 2) N31.out rfl
      have n31_3 := cell_blk (i := 3) N31.out rfl
      have q31_1 := cell_blk (i := 1) G31.out.walker rfl
      have q31_2 := cell_blk (i := 2) G31.out.walker rfl
      have q31_4 := cell_blk (i := 4) G31.out.walker rfl
      have hln31 := (Array.getElem?_eq_some_iff.1 N31.out).1
      have hlq31 := G31.out.size
      simp only [List.take_succ_cons, List.take_zero, List.drop_succ_cons, List.drop_zero]
      repeat still_step
      refine wpStill_nil ?_
      have ct := tell_any G31.out k v (by have := hbl1; first | omega | (simp only [List.length_append]; omega))
      have CT := Lib.hid ct; clear ct
      go_wp2_with (go_at_call 147; go_loud (refine CT.out.mono ?_; rintro e w4 ⟨rfl, g4, k4⟩; have G4 := Lib.hid g4; have K4 := Lib.hid (NK.trans K31.out k4); have N4 := Lib.hid (k4 _ _ _ N31.out); clear g4 k4 CT))
      have n4_0 := cell_blk (i := 0) N4.out rfl
      have n4_1 := cell_blk (i := 1) N4.out rfl
      have n4_2 := cell_blk (i := 2) N4.out rfl
      have n4_3 := cell_blk (i := 3) N4.out rfl
      have q4_1 := cell_blk (i := 1) G4.out.walker rfl
      have q4_2 := cell_blk (i := 2) G4.out.walker rfl
      have q4_4 := cell_blk (i := 4) G4.out.walker rfl
      have hln4 := (Array.getElem?_eq_some_iff.1 N4.out).1
      have hlq4 := G4.out.size
      go_quiet (fail)
      go_wp2_with fail
      go_end0
      exact ⟨rfl, L - 1, by omega, by omega, by rw [HE.out]; simpa using (G4.out.later (by exact ⟨rfl, rfl, rfl, Nat.le_refl _, fun _ _ => rfl⟩)), K4.out⟩
    · have HE := Lib.hid (show betw lo hi (l1 ++ (k, v) :: l2) = betw lo hi l1 ++ [(k, v)] ++ betw lo hi l2 by rw [betw_mid, if_pos (by simp only []; omega)]; simp)
      clear m1 m2
      go_enter Tryz.func176, Tryz.ntmps176
      go_wp2_with fail
      refine HG.out.mono ?_
      rintro e w1 ⟨rfl, b1⟩
      have G1 := Lib.hid (GR.out.later b1)
      have K1 := Lib.hid (NK.of_below b1); clear b1
      have y0 := cell_blk (i := 0) G1.out.walker rfl
      have y1 := cell_blk (i := 1) G1.out.walker rfl
      have y2 := cell_blk (i := 2) G1.out.walker rfl
      have y3 := cell_blk (i := 3) G1.out.walker rfl
      have y4 := cell_blk (i := 4) G1.out.walker rfl
      have f3 := free_blk (i := 3) G1.out.walker
      have zs : (w1.setCell ⟨p, 3, none⟩ (.int .i64 (L - 1))).heap.size = w1.heap.size := by simp
      have n2 := heap_alloc_new (w1.setCell ⟨p, 3, none⟩ (.int .i64 (L - 1))) (.cells #[.int .i64 k, .int .i64 v, .int .i64 x, .int .i64 y, .int .i64 s, .int .i64 gg] 177)
      rw [zs] at n2
      have N2 := Lib.hid n2; clear n2
      have G2 := Lib.hid ((G1.out.left (L - 1)).later ((Below.refl _ _).alloc (Nat.le_refl _) (.cells #[.int .i64 k, .int .i64 v, .int .i64 x, .int .i64 y, .int .i64 s, .int .i64 gg] 177)))
      have K2 := Lib.hid ((K1.out.trans (NK.set (i := 3) G1.out.walker (by decide) (.int .i64 (L - 1)))).trans (NK.of_below ((Below.refl _ _).alloc (Nat.le_refl _) (.cells #[.int .i64 k, .int .i64 v, .int .i64 x, .int .i64 y, .int .i64 s, .int .i64 gg] 177))))
      have hlp := G1.out.size
      clear zs
      go_wp2_with fail
      go_quiet (fail)
      go_wp2_with fail
      have cq := fun w' (hb : Below ((w1.setCell ⟨p, 3, none⟩ (.int .i64 (L - 1))).alloc (.cells #[.int .i64 k, .int .i64 v, .int .i64 x, .int .i64 y, .int .i64 s, .int .i64 gg] 177)).heap.size ((w1.setCell ⟨p, 3, none⟩ (.int .i64 (L - 1))).alloc (.cells #[.int .i64 k, .int .i64 v, .int .i64 x, .int .i64 y, .int .i64 s, .int .i64 gg] 177)) w') => i1 Z1.out HH.out (G2.out.later hb) HX.out.1 (by omega) (by omega) (by omega) (by omega)
      have CQ := Lib.hid cq; clear cq
      refine (CQ.out _ (by exact ⟨rfl, rfl, rfl, Nat.le_refl _, fun _ _ => rfl⟩)).mono ?_
      rintro e w3 ⟨rfl, L3, hl3, hm3, g3, k3⟩
      have G3 := Lib.hid g3; have K3 := Lib.hid (NK.trans K2.out k3); have N3 := Lib.hid (k3 _ _ _ N2.out); clear g3 k3 CQ
      have n3_0 := cell_blk (i := 0) N3.out rfl
      have n3_1 := cell_blk (i := 1) N3.out rfl
      have n3_2 := cell_blk (i := 2) N3.out rfl
      have n3_3 := cell_blk (i := 3) N3.out rfl
      have q3_1 := cell_blk (i := 1) G3.out.walker rfl
      have q3_2 := cell_blk (i := 2) G3.out.walker rfl
      have q3_4 := cell_blk (i := 4) G3.out.walker rfl
      have hln3 := (Array.getElem?_eq_some_iff.1 N3.out).1
      have hlq3 := G3.out.size
      clear y0 y1 y2 y3 y4 f3
      go_wp2_with fail
      have dlo : decide (lo ≤ k) = true := decide_eq_true (by omega)
      have dhi : decide (k ≤ hi) = true := decide_eq_true (by omega)
      go_quiet (fail)
      go_wp2_with fail
      clear dlo dhi
      refine region_tail 6 (by kernel_rfl) (by kernel_rfl) (fun wd hwd => ?_)
      have hbd2 : Below w3.heap.size w3 wd := by rw [hwd]; exact ⟨rfl, rfl, rfl, Nat.le_refl _, fun _ _ => rfl⟩
      have G31 := Lib.hid (G3.out.later hbd2)
      have N31 := Lib.hid ((NK.of_below hbd2) _ _ _ N3.out)
      have K31 := Lib.hid (NK.trans K3.out (NK.of_below hbd2))
      clear hwd hbd2
      have n31_0 := cell_blk (i := 0) N31.out rfl
      have n31_1 := cell_blk (i := 1) N31.out rfl
      have n31_2 := cell_blk (i := 2) N31.out rfl
      have n31_3 := cell_blk (i := 3) N31.out rfl
      have q31_1 := cell_blk (i := 1) G31.out.walker rfl
      have q31_2 := cell_blk (i := 2) G31.out.walker rfl
      have q31_4 := cell_blk (i := 4) G31.out.walker rfl
      have hln31 := (Array.getElem?_eq_some_iff.1 N31.out).1
      have hlq31 := G31.out.size
      simp only [List.take_succ_cons, List.take_zero, List.drop_succ_cons, List.drop_zero]
      repeat still_step
      refine wpStill_nil ?_
      have ct := tell_any G31.out k v (by have := hbl1; first | omega | (simp only [List.length_append]; omega))
      have CT := Lib.hid ct; clear ct
      go_wp2_with (go_at_call 147; go_loud (refine CT.out.mono ?_; rintro e w4 ⟨rfl, g4, k4⟩; have G4 := Lib.hid g4; have K4 := Lib.hid (NK.trans K31.out k4); have N4 := Lib.hid (k4 _ _ _ N31.out); clear g4 k4 CT))
      have n4_0 := cell_blk (i := 0) N4.out rfl
      have n4_1 := cell_blk (i := 1) N4.out rfl
      have n4_2 := cell_blk (i := 2) N4.out rfl
      have n4_3 := cell_blk (i := 3) N4.out rfl
      have q4_1 := cell_blk (i := 1) G4.out.walker rfl
      have q4_2 := cell_blk (i := 2) G4.out.walker rfl
      have q4_4 := cell_blk (i := 4) G4.out.walker rfl
      have hln4 := (Array.getElem?_eq_some_iff.1 N4.out).1
      have hlq4 := G4.out.size
      go_quiet (fail)
      go_wp2_with fail
      have cq := fun w' (hb : Below w4.heap.size w4 w') => i2 Z2.out HH.out (G4.out.later hb) HX.out.2 (by omega) (by omega) (by omega) (by have := hbl1; first | omega | (simp only [List.length_append, List.length_singleton]; omega))
      have CQ := Lib.hid cq; clear cq
      refine (CQ.out _ (by exact ⟨rfl, rfl, rfl, Nat.le_refl _, fun _ _ => rfl⟩)).mono ?_
      rintro e w5 ⟨rfl, L5, hl5, hm5, g5, k5⟩
      have G5 := Lib.hid g5; have K5 := Lib.hid (NK.trans K4.out k5); clear g5 k5 CQ
      go_wp2_with fail
      go_end0
      exact ⟨rfl, L5, by omega, by omega, by rw [HE.out]; simpa using G5.out, K5.out⟩
    · have HE := Lib.hid (show betw lo hi (l1 ++ (k, v) :: l2) = betw lo hi l1 ++ [(k, v)] by rw [betw_mid, betw_nil_hi (l := l2) (fun p hp => by have := m2 p hp; simp only [] at this; omega), if_pos (by simp only []; omega)]; simp)
      clear m1 m2
      go_enter Tryz.func176, Tryz.ntmps176
      go_wp2_with fail
      refine HG.out.mono ?_
      rintro e w1 ⟨rfl, b1⟩
      have G1 := Lib.hid (GR.out.later b1)
      have K1 := Lib.hid (NK.of_below b1); clear b1
      have y0 := cell_blk (i := 0) G1.out.walker rfl
      have y1 := cell_blk (i := 1) G1.out.walker rfl
      have y2 := cell_blk (i := 2) G1.out.walker rfl
      have y3 := cell_blk (i := 3) G1.out.walker rfl
      have y4 := cell_blk (i := 4) G1.out.walker rfl
      have f3 := free_blk (i := 3) G1.out.walker
      have zs : (w1.setCell ⟨p, 3, none⟩ (.int .i64 (L - 1))).heap.size = w1.heap.size := by simp
      have n2 := heap_alloc_new (w1.setCell ⟨p, 3, none⟩ (.int .i64 (L - 1))) (.cells #[.int .i64 k, .int .i64 v, .int .i64 x, .int .i64 y, .int .i64 s, .int .i64 gg] 177)
      rw [zs] at n2
      have N2 := Lib.hid n2; clear n2
      have G2 := Lib.hid ((G1.out.left (L - 1)).later ((Below.refl _ _).alloc (Nat.le_refl _) (.cells #[.int .i64 k, .int .i64 v, .int .i64 x, .int .i64 y, .int .i64 s, .int .i64 gg] 177)))
      have K2 := Lib.hid ((K1.out.trans (NK.set (i := 3) G1.out.walker (by decide) (.int .i64 (L - 1)))).trans (NK.of_below ((Below.refl _ _).alloc (Nat.le_refl _) (.cells #[.int .i64 k, .int .i64 v, .int .i64 x, .int .i64 y, .int .i64 s, .int .i64 gg] 177))))
      have hlp := G1.out.size
      clear zs
      go_wp2_with fail
      go_quiet (fail)
      go_wp2_with fail
      have cq := fun w' (hb : Below ((w1.setCell ⟨p, 3, none⟩ (.int .i64 (L - 1))).alloc (.cells #[.int .i64 k, .int .i64 v, .int .i64 x, .int .i64 y, .int .i64 s, .int .i64 gg] 177)).heap.size ((w1.setCell ⟨p, 3, none⟩ (.int .i64 (L - 1))).alloc (.cells #[.int .i64 k, .int .i64 v, .int .i64 x, .int .i64 y, .int .i64 s, .int .i64 gg] 177)) w') => i1 Z1.out HH.out (G2.out.later hb) HX.out.1 (by omega) (by omega) (by omega) (by omega)
      have CQ := Lib.hid cq; clear cq
      refine (CQ.out _ (by exact ⟨rfl, rfl, rfl, Nat.le_refl _, fun _ _ => rfl⟩)).mono ?_
      rintro e w3 ⟨rfl, L3, hl3, hm3, g3, k3⟩
      have G3 := Lib.hid g3; have K3 := Lib.hid (NK.trans K2.out k3); have N3 := Lib.hid (k3 _ _ _ N2.out); clear g3 k3 CQ
      have n3_0 := cell_blk (i := 0) N3.out rfl
      have n3_1 := cell_blk (i := 1) N3.out rfl
      have n3_2 := cell_blk (i := 2) N3.out rfl
      have n3_3 := cell_blk (i := 3) N3.out rfl
      have q3_1 := cell_blk (i := 1) G3.out.walker rfl
      have q3_2 := cell_blk (i := 2) G3.out.walker rfl
      have q3_4 := cell_blk (i := 4) G3.out.walker rfl
      have hln3 := (Array.getElem?_eq_some_iff.1 N3.out).1
      have hlq3 := G3.out.size
      clear y0 y1 y2 y3 y4 f3
      go_wp2_with fail
      have dlo : decide (lo ≤ k) = true := decide_eq_true (by omega)
      have dhi : decide (k ≤ hi) = true := decide_eq_true (by omega)
      go_quiet (fail)
      go_wp2_with fail
      clear dlo dhi
      refine region_tail 6 (by kernel_rfl) (by kernel_rfl) (fun wd hwd => ?_)
      have hbd2 : Below w3.heap.size w3 wd := by rw [hwd]; exact ⟨rfl, rfl, rfl, Nat.le_refl _, fun _ _ => rfl⟩
      have G31 := Lib.hid (G3.out.later hbd2)
      have N31 := Lib.hid ((NK.of_below hbd2) _ _ _ N3.out)
      have K31 := Lib.hid (NK.trans K3.out (NK.of_below hbd2))
      clear hwd hbd2
      have n31_0 := cell_blk (i := 0) N31.out rfl
      have n31_1 := cell_blk (i := 1) N31.out rfl
      have n31_2 := cell_blk (i := 2) N31.out rfl
      have n31_3 := cell_blk (i := 3) N31.out rfl
      have q31_1 := cell_blk (i := 1) G31.out.walker rfl
      have q31_2 := cell_blk (i := 2) G31.out.walker rfl
      have q31_4 := cell_blk (i := 4) G31.out.walker rfl
      have hln31 := (Array.getElem?_eq_some_iff.1 N31.out).1
      have hlq31 := G31.out.size
      simp only [List.take_succ_cons, List.take_zero, List.drop_succ_cons, List.drop_zero]
      repeat still_step
      refine wpStill_nil ?_
      have ct := tell_any G31.out k v (by have := hbl1; first | omega | (simp only [List.length_append]; omega))
      have CT := Lib.hid ct; clear ct
      go_wp2_with (go_at_call 147; go_loud (refine CT.out.mono ?_; rintro e w4 ⟨rfl, g4, k4⟩; have G4 := Lib.hid g4; have K4 := Lib.hid (NK.trans K31.out k4); have N4 := Lib.hid (k4 _ _ _ N31.out); clear g4 k4 CT))
      have n4_0 := cell_blk (i := 0) N4.out rfl
      have n4_1 := cell_blk (i := 1) N4.out rfl
      have n4_2 := cell_blk (i := 2) N4.out rfl
      have n4_3 := cell_blk (i := 3) N4.out rfl
      have q4_1 := cell_blk (i := 1) G4.out.walker rfl
      have q4_2 := cell_blk (i := 2) G4.out.walker rfl
      have q4_4 := cell_blk (i := 4) G4.out.walker rfl
      have hln4 := (Array.getElem?_eq_some_iff.1 N4.out).1
      have hlq4 := G4.out.size
      go_quiet (fail)
      go_wp2_with fail
      go_end0
      exact ⟨rfl, L3, by omega, by omega, by rw [HE.out]; simpa using (G4.out.later (by exact ⟨rfl, rfl, rfl, Nat.le_refl _, fun _ _ => rfl⟩)), K4.out⟩
    · have HE := Lib.hid (show betw lo hi (l1 ++ (k, v) :: l2) = betw lo hi l1 by rw [betw_mid, betw_nil_hi (l := l2) (fun p hp => by have := m2 p hp; simp only [] at this; omega), if_neg (by simp only []; omega)]; simp)
      clear m1 m2
      go_enter Tryz.func176, Tryz.ntmps176
      go_wp2_with fail
      refine HG.out.mono ?_
      rintro e w1 ⟨rfl, b1⟩
      have G1 := Lib.hid (GR.out.later b1)
      have K1 := Lib.hid (NK.of_below b1); clear b1
      have y0 := cell_blk (i := 0) G1.out.walker rfl
      have y1 := cell_blk (i := 1) G1.out.walker rfl
      have y2 := cell_blk (i := 2) G1.out.walker rfl
      have y3 := cell_blk (i := 3) G1.out.walker rfl
      have y4 := cell_blk (i := 4) G1.out.walker rfl
      have f3 := free_blk (i := 3) G1.out.walker
      have zs : (w1.setCell ⟨p, 3, none⟩ (.int .i64 (L - 1))).heap.size = w1.heap.size := by simp
      have n2 := heap_alloc_new (w1.setCell ⟨p, 3, none⟩ (.int .i64 (L - 1))) (.cells #[.int .i64 k, .int .i64 v, .int .i64 x, .int .i64 y, .int .i64 s, .int .i64 gg] 177)
      rw [zs] at n2
      have N2 := Lib.hid n2; clear n2
      have G2 := Lib.hid ((G1.out.left (L - 1)).later ((Below.refl _ _).alloc (Nat.le_refl _) (.cells #[.int .i64 k, .int .i64 v, .int .i64 x, .int .i64 y, .int .i64 s, .int .i64 gg] 177)))
      have K2 := Lib.hid ((K1.out.trans (NK.set (i := 3) G1.out.walker (by decide) (.int .i64 (L - 1)))).trans (NK.of_below ((Below.refl _ _).alloc (Nat.le_refl _) (.cells #[.int .i64 k, .int .i64 v, .int .i64 x, .int .i64 y, .int .i64 s, .int .i64 gg] 177))))
      have hlp := G1.out.size
      clear zs
      go_wp2_with fail
      go_quiet (fail)
      go_wp2_with fail
      have cq := fun w' (hb : Below ((w1.setCell ⟨p, 3, none⟩ (.int .i64 (L - 1))).alloc (.cells #[.int .i64 k, .int .i64 v, .int .i64 x, .int .i64 y, .int .i64 s, .int .i64 gg] 177)).heap.size ((w1.setCell ⟨p, 3, none⟩ (.int .i64 (L - 1))).alloc (.cells #[.int .i64 k, .int .i64 v, .int .i64 x, .int .i64 y, .int .i64 s, .int .i64 gg] 177)) w') => i1 Z1.out HH.out (G2.out.later hb) HX.out.1 (by omega) (by omega) (by omega) (by omega)
      have CQ := Lib.hid cq; clear cq
      refine (CQ.out _ (by exact ⟨rfl, rfl, rfl, Nat.le_refl _, fun _ _ => rfl⟩)).mono ?_
      rintro e w3 ⟨rfl, L3, hl3, hm3, g3, k3⟩
      have G3 := Lib.hid g3; have K3 := Lib.hid (NK.trans K2.out k3); have N3 := Lib.hid (k3 _ _ _ N2.out); clear g3 k3 CQ
      have n3_0 := cell_blk (i := 0) N3.out rfl
      have n3_1 := cell_blk (i := 1) N3.out rfl
      have n3_2 := cell_blk (i := 2) N3.out rfl
      have n3_3 := cell_blk (i := 3) N3.out rfl
      have q3_1 := cell_blk (i := 1) G3.out.walker rfl
      have q3_2 := cell_blk (i := 2) G3.out.walker rfl
      have q3_4 := cell_blk (i := 4) G3.out.walker rfl
      have hln3 := (Array.getElem?_eq_some_iff.1 N3.out).1
      have hlq3 := G3.out.size
      clear y0 y1 y2 y3 y4 f3
      go_wp2_with fail
      have dlo : decide (lo ≤ k) = true := decide_eq_true (by omega)
      have dhi : decide (k ≤ hi) = false := decide_eq_false (by omega)
      go_quiet (fail)
      go_wp2_with fail
      clear dlo dhi
      go_quiet (fail)
      go_wp2_with fail
      go_end0
      exact ⟨rfl, L3, by omega, by omega, by rw [HE.out]; simpa using (G3.out.later (by exact ⟨rfl, rfl, rfl, Nat.le_refl _, fun _ _ => rfl⟩)), K3.out⟩
end Go.Proofs.YtghjnkfocjjlnaaGreat
end
section
namespace Go.Proofs.YtghjnkfocjjlnaaGreat
set_option maxRecDepth 100000
open Go.RowKit Go.Proofs.YtghjnkfocjjlnaaGreatW.PrintWords Go.Proofs.YtghjnkfocjjlnaaGreatW.PrintLast
set_option linter.unusedSimpArgs false
set_option linter.unusedVariables false
set_option maxRecDepth 100000 in
set_option maxHeartbeats 4000000 in
theorem eachR_any {W0 w : World} {po : Option Addr} {a : Ar} {F : Nat → Prop} {g : Nat} {t : Int} {l : List Pr} (h : OAt W0 po (some a) F) (ht : Tr a t l) (hs : Sorted l) (hlt : t < 1000000) (hlen : l.length ≤ 60000) (lo hi : Int) (hb : Below W0.heap.size W0 w) (hg : W0.heap.size ≤ g) (hc : (∃ v, w.heap[g]? = some (.cells #[v] 28 (0, 0)) ∧ FRel W0.heap.size w v [])) :
    Calls Tryz.prog 146 #[.pointer po, .int .i64 t, .int .i64 lo, .int .i64 hi, .func (.func 147) #[] #[.pointer (some ⟨g, 0, none⟩)]] w fun e w' => e = .returned (.tuple #[]) ∧ Below W0.heap.size W0 w' ∧ (∃ v, w'.heap[g]? = some (.cells #[v] 28 (0, 0)) ∧ FRel W0.heap.size w' v (betw lo hi l)) := by
  have hz := hb.size
  by_cases hlh : lo ≤ hi
  · obtain ⟨v, hc0, hf⟩ := hc
    have hgl : g < w.heap.size := (Array.getElem?_eq_some_iff.1 hc0).1
    have gr : GR W0.heap.size W0 (w.alloc (.cells #[.pointer po, .int .i64 lo, .int .i64 hi, .int .i64 60000, .func (.func 147) #[] #[.pointer (some ⟨g, 0, none⟩)]] 225)) w.heap.size g po lo hi 60000 [] := ⟨hb.alloc hz (.cells #[.pointer po, .int .i64 lo, .int .i64 hi, .int .i64 60000, .func (.func 147) #[] #[.pointer (some ⟨g, 0, none⟩)]] 225), heap_alloc_new w _, ⟨v, (heap_alloc_old w _ hgl).trans hc0, hf.alloc _⟩, by omega, by omega, hg⟩
    have cq := goesR_any hlh ht hs (bd := 9223372036854775807) h gr (by omega) (by omega) (by omega) hlt (by simp; omega)
    have CQ := Lib.hid cq; clear cq gr
    clear hs ht h hb hc0
    clear hf
    go_enter Tryz.func146, Tryz.ntmps146
    go_wp2_with fail
    refine CQ.out.mono ?_
    rintro e w2 ⟨rfl, L2, _, _, g2, _⟩
    have G2 := Lib.hid g2; clear g2
    go_wp2_with fail
    go_end0
    have g2 := G2.out
    rw [List.nil_append] at g2
    exact ⟨rfl, g2.below, g2.told⟩
  · have hn : betw lo hi l = [] := List.filter_eq_nil_iff.2 fun p _ => by simp; omega
    rw [hn]
    have HB := Lib.hid hb; have HC := Lib.hid hc
    clear hs ht h hb hc hn
    go_enter Tryz.func146, Tryz.ntmps146
    go_wp2_with fail
    go_end0
    exact ⟨rfl, HB.out, HC.out⟩
set_option maxRecDepth 100000 in
set_option maxHeartbeats 4000000 in
theorem range_any {w : World} {po : Option Addr} {a : Ar} {F : Nat → Prop} {t : Int} {l : List Pr} (h : OAt w po (some a) F) (ht : Tr a t l) (hs : Sorted l) (hlt : t < 1000000) (hlen : l.length ≤ 60000) (lo hi : Int) :
    Calls Tryz.prog 108 #[.pointer po, .int .i64 t, .int .i64 lo, .int .i64 hi] w fun e w' => ∃ ad' c', e = .returned (.slice ad' (betw lo hi l).length c') ∧ PIn w' ad' c' (betw lo hi l) ∧ (∀ x, ad' = some x → w.heap.size ≤ x.block) ∧ Below w.heap.size w w' := by
  have cq := eachR_any h ht hs hlt hlen lo hi ((Below.refl _ _).alloc (Nat.le_refl _) (.cells #[.slice none 0 0] 28)) (Nat.le_refl _) ⟨_, heap_alloc_new w _, (FRel.start w).alloc _⟩
  have CQ := Lib.hid cq; clear cq h ht hs
  have hmf : ∀ (fn : Fn) (first cap : Array Value) (w : World), (Instr.makeFunc fn first cap).run Tryz.prog w = .ok (.func fn first cap) w := fun _ _ _ _ => rfl
  go_enter Tryz.func108, Tryz.ntmps108
  go_wp2_with fail
  refine CQ.out.mono ?_
  rintro e w2 ⟨rfl, b2, v, hg, hf⟩
  have x0 := cell_blk (i := 0) hg rfl
  obtain ⟨ad', c', rfl, h1, h2⟩ := hf.gives
  have H1 := Lib.hid h1; have H2 := Lib.hid h2; have B2 := Lib.hid b2
  clear h1 h2 b2 hg hf
  go_wp2_with fail
  go_ret
  exact ⟨ad', c', rfl, H1.out, H2.out, B2.out⟩
set_option maxRecDepth 100000 in
set_option maxHeartbeats 4000000 in
theorem all_any {w : World} {po : Option Addr} {a : Ar} {F : Nat → Prop} {t : Int} {l : List Pr} (h : OAt w po (some a) F) (ht : Tr a t l) (hs : Sorted l) (hlt : t < 1000000) (hlen : l.length ≤ 60000) :
    Calls Tryz.prog 61 #[.pointer po, .int .i64 t] w fun e w' => ∃ ad' c', e = .returned (.slice ad' (betw (-9223372036854775808) 9223372036854775807 l).length c') ∧ PIn w' ad' c' (betw (-9223372036854775808) 9223372036854775807 l) ∧ (∀ x, ad' = some x → w.heap.size ≤ x.block) ∧ Below w.heap.size w w' := by
  have CQ := Lib.hid (range_any h ht hs hlt hlen (-9223372036854775808) 9223372036854775807); clear h ht hs
  go_enter Tryz.func61, Tryz.ntmps61
  go_wp2_with fail
  refine CQ.out.mono ?_
  rintro e w2 ⟨ad', c', rfl, h1, h2, h3⟩
  have H1 := Lib.hid h1; have H2 := Lib.hid h2; have B2 := Lib.hid h3
  clear h1 h2 h3
  go_wp2_with fail
  go_ret
  exact ⟨ad', c', rfl, H1.out, H2.out, B2.out⟩
end Go.Proofs.YtghjnkfocjjlnaaGreat
end
