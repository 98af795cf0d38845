/- The walk of the law MixTop, out of the printed contract and the plain law. -/
import Derived.Test.YtjfmhablfcpkmaaPureMixTop
import Derived.Test.YtjfmhablfcpkmaaOpen
namespace Go.Proofs.Ytjfmhablfcpkmaa
open Go.RowKit Go.Proofs.YtjfmhablfcpkmaaW.PrintWords Go.Proofs.YtjfmhablfcpkmaaW.PrintLast

theorem top_walk (W : World) {ad : Option Addr} {c : Nat} {l : List Int} (hl : IntsArg W ad c l) :
    Calls Try.prog 5 #[.slice ad l.length c] W fun e w' => e = .returned (.bool true) ∧ Below W.heap.size W w' := by
  obtain ⟨k, hk⟩ := Pure.MixTop_all l
  have hr : ReadsInt W .i64 ad l.length l := by
    refine ⟨rfl, ?_, fun hn => ?_⟩
    · have := hl.room; have := hl.most; unfold maxLen at this; omega
    · rcases hl.reads with ⟨_, _, rfl⟩ | ⟨x, rfl, hc⟩
      · simp at hn
      · refine ⟨x, rfl, fun j hj => ?_⟩
        rw [hc j hj, List.getD_eq_getElem?_getD, List.getElem?_eq_getElem hj, Option.getD_some]
  refine (PMixTop.osierlaw1_MixTop.calls k ad c l true W (Kd.C_of_reads (d := (0 : Int)) (h1 := fun _ => rfl) hr) hl.room hk).mono ?_
  rintro e w' ⟨rfl, hd⟩
  exact ⟨rfl, hd.below⟩

end Go.Proofs.Ytjfmhablfcpkmaa
