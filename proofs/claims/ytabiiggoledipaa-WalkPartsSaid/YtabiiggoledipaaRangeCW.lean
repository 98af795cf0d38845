/- The walk of walk.Range, once more: a nil slice has no room. -/
import Derived.Test.YtabiiggoledipaaRangeW
import Derived.Test.YtabiiggoledipaaAppsW
namespace Go.Proofs.Ytabiiggoledipaa
set_option maxRecDepth 100000
open Go.RowKit Go.Proofs.YtabiiggoledipaaW.PrintWords Go.Proofs.YtabiiggoledipaaW.PrintLast
set_option linter.unusedSimpArgs false
set_option linter.unusedVariables false

theorem betw_none {lo hi : Int} (h : hi < lo) {q : List Pr} : betw lo hi q = [] := List.filter_eq_nil_iff.2 fun p _ => by simp; omega
set_option maxRecDepth 100000 in
set_option maxHeartbeats 4000000 in
theorem rangeC_any {w : World} {po : Option Addr} {a : Ar} {F : Nat → Prop} {t : Int} {l : List Pr} (h : OAt w po (some a) F) (ht : Tr a t l) (hs : Sorted l) (hlt : t < 1000000) (hlen : l.length ≤ 60000) (lo hi : Int) :
    Calls Try.prog 19 #[.pointer po, .int .i64 t, .int .i64 lo, .int .i64 hi] w fun e w' => ∃ ad' c', e = .returned (.slice ad' (betw lo hi l).length c') ∧ PIn w' ad' c' (betw lo hi l) ∧ (∀ x, ad' = some x → w.heap.size ≤ x.block) ∧ Below w.heap.size w w' ∧ (ad' = none → c' = 0) := by
  have cq := eachR_any h ht hs hlt hlen lo hi ((Below.refl _ _).alloc (Nat.le_refl _) (.cells #[.slice none 0 0] 22)) (Nat.le_refl _) ⟨_, heap_alloc_new w _, (FRel.start w).alloc _⟩
  have CQ := Lib.hid cq; clear cq h ht hs
  have hmf : ∀ (fn : Fn) (first cap : Array Value) (w : World), (Instr.makeFunc fn first cap).run Try.prog w = .ok (.func fn first cap) w := fun _ _ _ _ => rfl
  go_enter Try.func19, Try.ntmps19
  go_wp2_with fail
  refine CQ.out.mono ?_
  rintro e w2 ⟨rfl, b2, v, hg, hf⟩
  have x0 := cell_blk (i := 0) hg rfl
  obtain ⟨ad', c', rfl, h1, h2, h3⟩ := hf.givesC
  have H1 := Lib.hid h1; have H2 := Lib.hid h2; have H3 := Lib.hid h3; have B2 := Lib.hid b2
  clear h1 h2 h3 b2 hg hf
  go_wp2_with fail
  go_ret
  exact ⟨ad', c', rfl, H1.out, H2.out, B2.out, H3.out⟩

end Go.Proofs.Ytabiiggoledipaa
