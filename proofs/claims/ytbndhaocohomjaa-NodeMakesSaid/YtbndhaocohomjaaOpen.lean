/- A law's arguments, opened into what its walk is told. -/
import Derived.Test.YtbndhaocohomjaaWA2
import Derived.Test.YtbndhaocohomjaaAbs
import Derived.ProofKit
import Derived.OpenShut
import Derived.ChangeOld
import Derived.SizedLaws
import Derived.Lib.SmallJoins
import Derived.Deep.SlicePairs
import Derived.Deep.Matrix
namespace Go.Proofs.Ytbndhaocohomjaa
set_option maxRecDepth 100000
open Go.ChangeShapes Go.WideShapes Go.ChangeAt Go.RowKit Go.Deep

/-- A slice of numbers that came in. -/
structure IntsArg (w : World) (ad : Option Addr) (c : Nat) (l : List Int) : Prop where
  reads : IntsIn w ad c l
  room : l.length ≤ c
  most : c ≤ maxLen
  wf : ∀ x ∈ l, -9223372036854775808 ≤ x ∧ x ≤ 9223372036854775807

theorem wf_bd {x : Int} (h : (Lit.int .i64 x).wf = true) : -9223372036854775808 ≤ x ∧ x ≤ 9223372036854775807 := by
  simp [Lit.wf, IntKind.min, IntKind.max, IntKind.bits, IntKind.signed] at h; exact h

theorem open_intsArg {H : Type} {enc : TypeId × Value → H} {W : World} {r : Reach} {base : Nat} {v : Value} {d : DataW H} {p : List MemPlace} (hv : Value.okWide Try.prog W r base 42 v)
    (h : DataW.Trod enc Try.prog W 0 (fun _ => true) true 42 v d p) : ∃ a c l, v = .slice a l.length c ∧ IntsArg W a c l := by
  obtain ⟨a0, len, cap, rfl⟩ := okWide_slice Try.underlying42 hv
  obtain ⟨fuel, hf⟩ := h
  rcases open_ints Try.underlying42 Try.underlying3 (by kernel_rfl) hf with ⟨hcs, _⟩ | ⟨x, l, c, zs, hcs, _, hl, hm, hz, _, hcell, hwz⟩
  · simp [Value.cells] at hcs
    obtain ⟨rfl, rfl, rfl⟩ := hcs
    exact ⟨none, 0, [], rfl, .inl ⟨rfl, rfl, rfl⟩, Nat.le_refl _, by decide, by simp⟩
  · simp [Value.cells] at hcs
    obtain ⟨rfl, rfl, rfl⟩ := hcs
    have hz' : zs.length = cap := by simpa using hz
    have hlen : (zs.take len).length = len := by rw [List.length_take]; omega
    refine ⟨some x, cap, zs.take len, by rw [hlen], .inr ⟨x, rfl, fun j hj => ?_⟩, by omega, hm, fun y hy => wf_bd (hwz y (List.mem_of_mem_take hy))⟩
    rw [hcell j (by omega), List.getD_eq_getElem?_getD, List.getElem?_eq_getElem (by omega), Option.getD_some, List.getElem_take]

/-- A slice of pairs: how it lies. -/
structure PIn (w : World) (ad : Option Addr) (c : Nat) (l : List Pr) : Prop where
  at_ : l = [] ∨ ∃ b off, ad = some ⟨b, off, none⟩ ∧ ∀ j (hj : j < l.length), w.cell? ⟨b, off + j * 2, none⟩ = some (.int .i64 (l[j]).1) ∧ w.cell? ⟨b, off + j * 2 + 1, none⟩ = some (.int .i64 (l[j]).2)
  room : l.length ≤ c
  most : c ≤ maxLen

theorem open_pairArg {H : Type} {enc : TypeId × Value → H} {W : World} {r : Reach} {base : Nat} {v : Value} {d : DataW H} {p : List MemPlace} (hv : Value.okWide Try.prog W r base 29 v)
    (h : DataW.Trod enc Try.prog W 0 (fun _ => true) true 29 v d p) : ∃ x y : Int, v = .agg #[.int .i64 x, .int .i64 y] ∧ (-9223372036854775808 ≤ x ∧ x ≤ 9223372036854775807) ∧ -9223372036854775808 ≤ y ∧ y ≤ 9223372036854775807 := by
  obtain ⟨v0, v1, y0, y1, n, rfl, _, _, h1, h2⟩ := Go.Joins.open_agg2 Try.underlying29 (by kernel_rfl) (by kernel_rfl) hv h
  obtain ⟨y, e0, _, wy⟩ := DataW.trod_int Try.underlying3 h1
  obtain ⟨z, e1, _, wz⟩ := DataW.trod_int Try.underlying3 h2
  simp at e0 e1
  subst e0; subst e1
  exact ⟨y, z, rfl, wf_bd wy, wf_bd wz⟩

theorem open_intArg {H : Type} {enc : TypeId × Value → H} {W : World} {r : Reach} {base : Nat} {v : Value} {d : DataW H} {p : List MemPlace} (hv : Value.okWide Try.prog W r base 3 v)
    (h : DataW.Trod enc Try.prog W 0 (fun _ => true) true 3 v d p) : ∃ x : Int, v = .int .i64 x ∧ (-9223372036854775808 ≤ x ∧ x ≤ 9223372036854775807) := by
  obtain ⟨x, rfl, _, _, wx⟩ := open_int Try.underlying3 hv h
  exact ⟨x, rfl, wf_bd wx⟩
theorem open_boolArg {H : Type} {enc : TypeId × Value → H} {W : World} {r : Reach} {base : Nat} {v : Value} {d : DataW H} {p : List MemPlace} (hv : Value.okWide Try.prog W r base 4 v)
    (h : DataW.Trod enc Try.prog W 0 (fun _ => true) true 4 v d p) : ∃ x : Bool, v = .bool x := by
  obtain ⟨x, rfl, _, _⟩ := open_bool Try.underlying4 hv h
  exact ⟨x, rfl⟩

end Go.Proofs.Ytbndhaocohomjaa
