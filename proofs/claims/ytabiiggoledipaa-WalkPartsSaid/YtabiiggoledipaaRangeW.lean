/- The walks of walk.Range, All and Count. -/
import Derived.Test.YtabiiggoledipaaGoesW
import Derived.Test.YtabiiggoledipaaGoesCW
namespace Go.Proofs.Ytabiiggoledipaa
set_option maxRecDepth 100000
open Go.RowKit Go.Proofs.YtabiiggoledipaaW.PrintWords Go.Proofs.YtabiiggoledipaaW.PrintLast
set_option linter.unusedSimpArgs false
set_option linter.unusedVariables false

set_option maxRecDepth 100000 in
set_option maxHeartbeats 4000000 in
theorem eachR_any {W0 w : World} {po : Option Addr} {a : Ar} {F : Nat → Prop} {g : Nat} {t : Int} {l : List Pr} (h : OAt W0 po (some a) F) (ht : Tr a t l) (hs : Sorted l) (hlt : t < 1000000) (hlen : l.length ≤ 60000) (lo hi : Int) (hb : Below W0.heap.size W0 w) (hg : W0.heap.size ≤ g) (hc : (∃ v, w.heap[g]? = some (.cells #[v] 22 (0, 0)) ∧ FRel W0.heap.size w v [])) :
    Calls Try.prog 43 #[.pointer po, .int .i64 t, .int .i64 lo, .int .i64 hi, .func (.func 44) #[] #[.pointer (some ⟨g, 0, none⟩)]] w fun e w' => e = .returned (.tuple #[]) ∧ Below W0.heap.size W0 w' ∧ (∃ v, w'.heap[g]? = some (.cells #[v] 22 (0, 0)) ∧ FRel W0.heap.size w' v (betw lo hi l)) := by
  have hz := hb.size
  by_cases hlh : lo ≤ hi
  · obtain ⟨v, hc0, hf⟩ := hc
    have hgl : g < w.heap.size := (Array.getElem?_eq_some_iff.1 hc0).1
    have gr : GR W0.heap.size W0 (w.alloc (.cells #[.pointer po, .int .i64 lo, .int .i64 hi, .int .i64 60000, .func (.func 44) #[] #[.pointer (some ⟨g, 0, none⟩)]] 79)) w.heap.size g po lo hi 60000 [] := ⟨hb.alloc hz (.cells #[.pointer po, .int .i64 lo, .int .i64 hi, .int .i64 60000, .func (.func 44) #[] #[.pointer (some ⟨g, 0, none⟩)]] 79), heap_alloc_new w _, ⟨v, (heap_alloc_old w _ hgl).trans hc0, hf.alloc _⟩, by omega, by omega, hg⟩
    have cq := goesR_any hlh ht hs (bd := 9223372036854775807) h gr (by omega) (by omega) (by omega) hlt (by simp; omega)
    have CQ := Lib.hid cq; clear cq gr
    clear hs ht h hb hc0
    clear hf
    go_enter Try.func43, Try.ntmps43
    go_wp2_with fail
    refine CQ.out.mono ?_
    rintro e w2 ⟨rfl, L2, _, _, g2, _⟩
    have G2 := Lib.hid g2; clear g2
    go_wp2_with fail
    go_end0
    have g2 := G2.out
    rw [List.nil_append] at g2
    exact ⟨rfl, g2.below, g2.told⟩
  · have hn : betw lo hi l = [] := List.filter_eq_nil_iff.2 fun p _ => by simp; omega
    rw [hn]
    have HB := Lib.hid hb; have HC := Lib.hid hc
    clear hs ht h hb hc hn
    go_enter Try.func43, Try.ntmps43
    go_wp2_with fail
    go_end0
    exact ⟨rfl, HB.out, HC.out⟩
set_option maxRecDepth 100000 in
set_option maxHeartbeats 4000000 in
theorem eachC_any {W0 w : World} {po : Option Addr} {a : Ar} {F : Nat → Prop} {g : Nat} {t : Int} {l : List Pr} (h : OAt W0 po (some a) F) (ht : Tr a t l) (hs : Sorted l) (hlt : t < 1000000) (hlen : l.length ≤ 60000) (lo hi : Int) (hb : Below W0.heap.size W0 w) (hg : W0.heap.size ≤ g) (hc : w.heap[g]? = some (.cells #[.int .i64 ((([] : List Pr)).length : Int)] 3 (0, 0))) :
    Calls Try.prog 43 #[.pointer po, .int .i64 t, .int .i64 lo, .int .i64 hi, .func (.func 45) #[] #[.pointer (some ⟨g, 0, none⟩)]] w fun e w' => e = .returned (.tuple #[]) ∧ Below W0.heap.size W0 w' ∧ w'.heap[g]? = some (.cells #[.int .i64 ((betw lo hi l).length : Int)] 3 (0, 0)) := by
  have hz := hb.size
  by_cases hlh : lo ≤ hi
  · have hc0 := hc
    have hgl : g < w.heap.size := (Array.getElem?_eq_some_iff.1 hc0).1
    have gr : CR W0.heap.size W0 (w.alloc (.cells #[.pointer po, .int .i64 lo, .int .i64 hi, .int .i64 60000, .func (.func 45) #[] #[.pointer (some ⟨g, 0, none⟩)]] 79)) w.heap.size g po lo hi 60000 [] := ⟨hb.alloc hz (.cells #[.pointer po, .int .i64 lo, .int .i64 hi, .int .i64 60000, .func (.func 45) #[] #[.pointer (some ⟨g, 0, none⟩)]] 79), heap_alloc_new w _, (heap_alloc_old w _ hgl).trans hc0, by omega, by omega, hg⟩
    have cq := goesC_any hlh ht hs (bd := 9223372036854775807) h gr (by omega) (by omega) (by omega) hlt (by simp; omega)
    have CQ := Lib.hid cq; clear cq gr
    clear hs ht h hb hc hc0
    go_enter Try.func43, Try.ntmps43
    go_wp2_with fail
    refine CQ.out.mono ?_
    rintro e w2 ⟨rfl, L2, _, _, g2, _⟩
    have G2 := Lib.hid g2; clear g2
    go_wp2_with fail
    go_end0
    have g2 := G2.out
    rw [List.nil_append] at g2
    exact ⟨rfl, g2.below, g2.told⟩
  · have hn : betw lo hi l = [] := List.filter_eq_nil_iff.2 fun p _ => by simp; omega
    rw [hn]
    have HB := Lib.hid hb; have HC := Lib.hid hc
    clear hs ht h hb hc hn
    go_enter Try.func43, Try.ntmps43
    go_wp2_with fail
    go_end0
    exact ⟨rfl, HB.out, HC.out⟩
set_option maxRecDepth 100000 in
set_option maxHeartbeats 4000000 in
theorem range_any {w : World} {po : Option Addr} {a : Ar} {F : Nat → Prop} {t : Int} {l : List Pr} (h : OAt w po (some a) F) (ht : Tr a t l) (hs : Sorted l) (hlt : t < 1000000) (hlen : l.length ≤ 60000) (lo hi : Int) :
    Calls Try.prog 19 #[.pointer po, .int .i64 t, .int .i64 lo, .int .i64 hi] w fun e w' => ∃ ad' c', e = .returned (.slice ad' (betw lo hi l).length c') ∧ PIn w' ad' c' (betw lo hi l) ∧ (∀ x, ad' = some x → w.heap.size ≤ x.block) ∧ Below w.heap.size w w' := by
  have cq := eachR_any h ht hs hlt hlen lo hi ((Below.refl _ _).alloc (Nat.le_refl _) (.cells #[.slice none 0 0] 22)) (Nat.le_refl _) ⟨_, heap_alloc_new w _, (FRel.start w).alloc _⟩
  have CQ := Lib.hid cq; clear cq h ht hs
  have hmf : ∀ (fn : Fn) (first cap : Array Value) (w : World), (Instr.makeFunc fn first cap).run Try.prog w = .ok (.func fn first cap) w := fun _ _ _ _ => rfl
  go_enter Try.func19, Try.ntmps19
  go_wp2_with fail
  refine CQ.out.mono ?_
  rintro e w2 ⟨rfl, b2, v, hg, hf⟩
  have x0 := cell_blk (i := 0) hg rfl
  obtain ⟨ad', c', rfl, h1, h2⟩ := hf.gives
  have H1 := Lib.hid h1; have H2 := Lib.hid h2; have B2 := Lib.hid b2
  clear h1 h2 b2 hg hf
  go_wp2_with fail
  go_ret
  exact ⟨ad', c', rfl, H1.out, H2.out, B2.out⟩
set_option maxRecDepth 100000 in
set_option maxHeartbeats 4000000 in
theorem count_any {w : World} {po : Option Addr} {a : Ar} {F : Nat → Prop} {t : Int} {l : List Pr} (h : OAt w po (some a) F) (ht : Tr a t l) (hs : Sorted l) (hlt : t < 1000000) (hlen : l.length ≤ 60000) (lo hi : Int) :
    Calls Try.prog 21 #[.pointer po, .int .i64 t, .int .i64 lo, .int .i64 hi] w fun e w' => e = .returned (.int .i64 (betw lo hi l).length) ∧ Below w.heap.size w w' := by
  have cq := eachC_any h ht hs hlt hlen lo hi ((Below.refl _ _).alloc (Nat.le_refl _) (.cells #[.int .i64 0] 3)) (Nat.le_refl _) (heap_alloc_new w _)
  have CQ := Lib.hid cq; clear cq h ht hs
  have hmf : ∀ (fn : Fn) (first cap : Array Value) (w : World), (Instr.makeFunc fn first cap).run Try.prog w = .ok (.func fn first cap) w := fun _ _ _ _ => rfl
  go_enter Try.func21, Try.ntmps21
  go_wp2_with fail
  refine CQ.out.mono ?_
  rintro e w2 ⟨rfl, b2, hg⟩
  have x0 := cell_blk (i := 0) hg rfl
  have B2 := Lib.hid b2
  clear b2 hg
  go_wp2_with fail
  go_ret
  exact ⟨rfl, B2.out⟩
theorem betw_all {l : List Pr} (h : okP l) : betw (-9223372036854775808) 9223372036854775807 l = l := List.filter_eq_self.2 fun p hp => by have := (h p hp).1; simp; omega
set_option maxRecDepth 100000 in
set_option maxHeartbeats 4000000 in
theorem all_any {w : World} {po : Option Addr} {a : Ar} {F : Nat → Prop} {t : Int} {l : List Pr} (h : OAt w po (some a) F) (ht : Tr a t l) (hs : Sorted l) (hlt : t < 1000000) (hlen : l.length ≤ 60000) :
    Calls Try.prog 24 #[.pointer po, .int .i64 t] w fun e w' => ∃ ad' c', e = .returned (.slice ad' (betw (-9223372036854775808) 9223372036854775807 l).length c') ∧ PIn w' ad' c' (betw (-9223372036854775808) 9223372036854775807 l) ∧ (∀ x, ad' = some x → w.heap.size ≤ x.block) ∧ Below w.heap.size w w' := by
  have CQ := Lib.hid (range_any h ht hs hlt hlen (-9223372036854775808) 9223372036854775807); clear h ht hs
  go_enter Try.func24, Try.ntmps24
  go_wp2_with fail
  refine CQ.out.mono ?_
  rintro e w2 ⟨ad', c', rfl, h1, h2, h3⟩
  have H1 := Lib.hid h1; have H2 := Lib.hid h2; have B2 := Lib.hid h3
  clear h1 h2 h3
  go_wp2_with fail
  go_ret
  exact ⟨ad', c', rfl, H1.out, H2.out, B2.out⟩

end Go.Proofs.Ytabiiggoledipaa
