/- A law's argument of rows of numbers; an arena that was made of rows. -/
import Derived.Test.YtakgknoldkfekaaOpen
import Derived.Test.YtakgknoldkfekaaListW3
import Derived.Test.YtakgknoldkfekaaTree
namespace Go.Proofs.Ytakgknoldkfekaa
set_option maxRecDepth 100000
open Go.ChangeShapes Go.WideShapes Go.ChangeAt Go.RowKit Go.Deep

/-- Rows of numbers, how they lie. -/
structure RowsIn (w : World) (ad : Option Addr) (c : Nat) (l : List (List Int)) : Prop where
  at_ : l = [] ∨ ∃ b off, ad = some ⟨b, off, none⟩ ∧ ∀ j (hj : j < l.length), ∃ a cc, w.cell? ⟨b, off + j, none⟩ = some (.slice a (l[j]).length cc) ∧ IntsArg w a cc l[j]
  room : l.length ≤ c
  most : c ≤ maxLen

theorem open_rowsArg {H : Type} {enc : TypeId × Value → H} {W : World} {r : Reach} {base : Nat} {v : Value} {d : DataW H} {p : List MemPlace} (hv : Value.okWide Try.prog W r base 47 v)
    (h : DataW.Trod enc Try.prog W 0 (fun _ => true) true 47 v d p) : ∃ a c l, v = .slice a l.length c ∧ RowsIn W a c l := by
  obtain ⟨a0, len, cap, rfl⟩ := okWide_slice Try.underlying47 hv
  obtain ⟨fuel, hf⟩ := h
  rcases open_int_rows Try.underlying47 Try.underlying48 Try.underlying3 (by kernel_rfl) (by kernel_rfl) hf with ⟨hcs, _⟩ | ⟨x, l, c, A, L, C, Z, hcs, _, hl, hm, _, hx⟩
  · simp [Value.cells] at hcs
    obtain ⟨rfl, rfl, rfl⟩ := hcs
    exact ⟨none, 0, [], rfl, .inl rfl, Nat.le_refl _, by decide⟩
  · simp [Value.cells] at hcs
    obtain ⟨rfl, rfl, rfl⟩ := hcs
    have hlen : ((List.range len).map (fun r => (Z r).take (L r))).length = len := by simp
    refine ⟨some x, cap, (List.range len).map (fun r => (Z r).take (L r)), by rw [hlen], ?_, by omega, hm⟩
    by_cases h0 : len = 0
    · subst h0; exact .inl rfl
    · obtain ⟨b, off, spot⟩ := x
      have hspot : spot = none := by simpa [Addr.add] using World.cell?_spot (hx 0 (by omega)).1
      subst hspot
      refine .inr ⟨b, off, rfl, fun j hj => ?_⟩
      rw [hlen] at hj
      obtain ⟨h1, h2, h3, h4, h5, h6, h7⟩ := hx j (by omega)
      rw [add_plain] at h1
      have hzl : ((Z j).take (L j)).length = L j := by rw [List.length_take]; omega
      simp only [List.getElem_map, List.getElem_range]
      refine ⟨A j, C j, by rw [hzl]; exact h1, ?_, by rw [hzl]; exact h2, h3, fun y hy => wf_bd (h5 y (List.mem_of_mem_take hy))⟩
      cases ha : A j with
      | none =>
        have := h6 ha
        refine .inl ⟨rfl, this, List.eq_nil_of_length_eq_zero (by rw [hzl]; omega)⟩
      | some a' =>
        obtain ⟨_, hc⟩ := h7 a' ha
        refine .inr ⟨a', rfl, fun i hi => ?_⟩
        rw [hzl] at hi
        rw [hc i (by omega), List.getD_eq_getElem?_getD, List.getElem?_eq_getElem (by omega), Option.getD_some, List.getElem_take]

theorem IntsIn.later {W w : World} {ad : Option Addr} {c : Nat} {l : List Int} (h : IntsIn W ad c l) (hb : Below W.heap.size W w) : IntsIn w ad c l := by
  rcases h with h | ⟨x, rfl, hc⟩
  · exact .inl h
  · exact .inr ⟨x, rfl, fun j hj => (hb.cell (World.block_lt_of_cell? W _ (hc j hj))).trans (hc j hj)⟩
theorem RowsIn.row {W w : World} {ad : Option Addr} {c : Nat} {l : List (List Int)} (h : RowsIn W ad c l) (hb : Below W.heap.size W w) {k : Nat} (hk : k < l.length) :
    ∃ b off a cc, ad = some ⟨b, off, none⟩ ∧ b < W.heap.size ∧ w.cell? ⟨b, off + k, none⟩ = some (.slice a (l[k]).length cc) ∧ IntsArg W a cc l[k] ∧ IntsIn w a cc l[k] := by
  rcases h.at_ with rfl | ⟨b, off, rfl, hc⟩
  · simp at hk
  · obtain ⟨a, cc, h1, h2⟩ := hc k hk
    have hlt : b < W.heap.size := World.block_lt_of_cell? W _ h1
    exact ⟨b, off, a, cc, rfl, hlt, (hb.cell (p := ⟨b, off + k, none⟩) hlt).trans h1, h2, h2.reads.later hb⟩

/-- An arena of records of kind one. -/
def rowsA (room : Int) (l : List (List Int)) : Ar := ⟨room, l.map (fun r => ⟨1, r⟩), 0⟩
theorem rowsA_len (room : Int) (l : List (List Int)) : (rowsA room l).slots.length = l.length := by simp [rowsA]
theorem rowsA_make {room : Int} {l : List (List Int)} {r : List Int} (hl : (l.length : Int) < room) (hr : r.length ≤ 12) : makeO (some (rowsA room l)) 1 r = ((l.length : Int) + 1, 0, some (rowsA room (l ++ [r]))) := by
  rw [makeO_some _ _ _ (by omega), add_ok (by rw [rowsA_len]; exact hl)]
  simp [rowsA]
theorem rowsA_val {room : Int} {l : List (List Int)} {a : Ar} (h : Ext (rowsA room l) a) {j i : Nat} (hj : j < l.length) (hi : i < (l[j]).length) : valO (some a) ((j : Int) + 1) (i : Int) = (l[j])[i] := by
  have hs : slotAt a ((j : Int) + 1) = ⟨1, l[j]⟩ := by
    rw [h.slot (by omega) (by rw [rowsA_len]; omega)]
    unfold slotAt rowsA
    rw [show ((j : Int) + 1 - 1).toNat = j by omega, List.getD_eq_getElem?_getD]
    simp [hj]
  have hlen := h.len
  rw [rowsA_len] at hlen
  rw [val_some, if_pos ⟨by omega, by omega, by rw [hs]; simp, by omega, by rw [hs]; simpa using hi⟩, hs]
  simp [hi]

end Go.Proofs.Ytakgknoldkfekaa
