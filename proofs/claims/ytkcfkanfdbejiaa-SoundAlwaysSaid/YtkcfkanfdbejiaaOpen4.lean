/- A law's argument of layer 10: operations on a treap. -/
import Derived.Test.YtkcfkanfdbejiaaOpen
namespace Go.Proofs.Ytkcfkanfdbejiaa
set_option maxRecDepth 100000
open Go.ChangeShapes Go.WideShapes Go.ChangeAt Go.RowKit Go.Deep

def bd4 (x : Int) : Prop := -9223372036854775808 ≤ x ∧ x ≤ 9223372036854775807
theorem open_intCell4 {H : Type} {enc : TypeId × Value → H} {W : World} {fuel : Nat} {v : Value} {y : DataW H × List MemPlace} (hf : DataW.trod enc Try.prog W 0 (fun _ => true) true fuel 3 [v] = some y) : ∃ x : Int, v = .int .i64 x ∧ bd4 x := by
  obtain ⟨x, e0, _, wx⟩ := DataW.trod_int Try.underlying3 hf
  simp at e0
  exact ⟨x, e0, wf_bd wx⟩
theorem pair_cells4 {H : Type} {enc : TypeId × Value → H} {W : World} {fuel : Nat} {cs : List Value} {y : DataW H × List MemPlace} (h : DataW.trod enc Try.prog W 0 (fun _ => true) true fuel 24 cs = some y) :
    ∃ k v, cs = [.int .i64 k, .int .i64 v] ∧ bd4 k ∧ bd4 v := by
  obtain ⟨xs, n, _, _, hl, hlen, hf⟩ := DataW.trod_struct Try.underlying24 h
  have hl2 : cs.length = 2 := hl.trans (by kernel_rfl)
  have hint : Try.prog.cellsOf 3 = 1 := by kernel_rfl
  match cs, hl2, xs, hlen with
  | [v0, v1], _, [y0, y1], _ =>
    have g0 := hf 0 _ rfl
    have g1 := hf 1 _ rfl
    simp [hint] at g0 g1
    obtain ⟨x0, rfl, b0⟩ := open_intCell4 g0
    obtain ⟨x1, rfl, b1⟩ := open_intCell4 g1
    exact ⟨x0, x1, rfl, b0, b1⟩
/-- An operation: what, key, value. -/
structure Dd where
  doo : Int
  key : Int
  val : Int
instance : Inhabited Dd := ⟨⟨0, 0, 0⟩⟩
theorem do_cells {H : Type} {enc : TypeId × Value → H} {W : World} {fuel : Nat} {cs : List Value} {y : DataW H × List MemPlace} (h : DataW.trod enc Try.prog W 0 (fun _ => true) true fuel 61 cs = some y) :
    ∃ k : Dd, cs = [.int .i64 k.doo, .int .i64 k.key, .int .i64 k.val] ∧ bd4 k.doo ∧ bd4 k.key ∧ bd4 k.val := by
  obtain ⟨xs, n, _, _, hl, hlen, hf⟩ := DataW.trod_struct Try.underlying61 h
  have hl3 : cs.length = 3 := hl.trans (by kernel_rfl)
  have hint : Try.prog.cellsOf 3 = 1 := by kernel_rfl
  have hpair : Try.prog.cellsOf 24 = 2 := by kernel_rfl
  match cs, hl3, xs, hlen with
  | [v0, v1, v2], _, [y0, y1], _ =>
    have g0 := hf 0 _ rfl
    have g1 := hf 1 _ rfl
    simp [hint, hpair] at g0 g1
    obtain ⟨x0, rfl, b0⟩ := open_intCell4 g0
    obtain ⟨x1, x2, e, b1, b2⟩ := pair_cells4 g1
    simp only [List.cons.injEq, and_true] at e
    obtain ⟨rfl, rfl⟩ := e
    exact ⟨⟨x0, x1, x2⟩, rfl, b0, b1, b2⟩
/-- Operations, how they lie. -/
structure DsIn (w : World) (ad : Option Addr) (c : Nat) (l : List Dd) : Prop where
  at_ : l = [] ∨ ∃ b off, ad = some ⟨b, off, none⟩ ∧ ∀ j (hj : j < l.length), w.cell? ⟨b, off + j * 3, none⟩ = some (.int .i64 (l[j]).doo) ∧ w.cell? ⟨b, off + j * 3 + 1, none⟩ = some (.int .i64 (l[j]).key) ∧ w.cell? ⟨b, off + j * 3 + 2, none⟩ = some (.int .i64 (l[j]).val)
  room : l.length ≤ c
  most : c ≤ maxLen
  bds : ∀ d ∈ l, bd4 d.doo ∧ bd4 d.key ∧ bd4 d.val
theorem open_dosArg {H : Type} {enc : TypeId × Value → H} {W : World} {r : Reach} {base : Nat} {v : Value} {d : DataW H} {p : List MemPlace} (hv : Value.okWide Try.prog W r base 59 v)
    (h : DataW.Trod enc Try.prog W 0 (fun _ => true) true 59 v d p) : ∃ a c l, v = .slice a l.length c ∧ DsIn W a c l := by
  obtain ⟨a0, len, cap, rfl⟩ := okWide_slice Try.underlying59 hv
  obtain ⟨fuel, hf⟩ := h
  have h3 : Try.prog.cellsOf 61 = 3 := by kernel_rfl
  rcases open_slice Try.underlying59 hf with ⟨hcs, _⟩ | ⟨x, l, c, m, n, D, Pl, hcs, _, hl, hm, hmm, _, hx⟩
  · simp [Value.cells] at hcs
    obtain ⟨rfl, rfl, rfl⟩ := hcs
    exact ⟨none, 0, [], rfl, .inl rfl, Nat.le_refl _, by decide, by simp⟩
  · simp [Value.cells] at hcs
    obtain ⟨rfl, rfl, rfl⟩ := hcs
    simp only [if_true] at hmm
    rw [h3] at hx
    have e : ∀ i, i < m → ∃ q : Dd, (bd4 q.doo ∧ bd4 q.key ∧ bd4 q.val) ∧ ∀ j u, [Value.int .i64 q.doo, .int .i64 q.key, .int .i64 q.val][j]? = some u → W.cell? ((x.add (i * 3)).add j) = some u := by
      intro i hi
      obtain ⟨cs', h1, h2⟩ := hx i hi
      obtain ⟨_, hlen, hcell⟩ := World.cells?_some h1
      obtain ⟨k, rfl, hk⟩ := do_cells h2
      refine ⟨k, hk, fun j u hu => ?_⟩
      have hj : j < 3 := by
        have := (List.getElem?_eq_some_iff.1 hu).1
        simpa using this
      rw [hcell j hj, hu]
    obtain ⟨q, hq⟩ := choose_lt e
    have hlen : ((List.range len).map q).length = len := by simp
    refine ⟨some x, cap, (List.range len).map q, by rw [hlen], ?_, by omega, hm, ?_⟩
    · by_cases h0 : len = 0
      · subst h0; exact .inl rfl
      · obtain ⟨b, off, spot⟩ := x
        have hspot : spot = none := by
          obtain ⟨_, hc⟩ := hq 0 (by omega)
          have := World.cell?_spot (hc 0 _ rfl)
          simpa [Addr.add] using this
        subst hspot
        refine .inr ⟨b, off, rfl, fun j hj => ?_⟩
        rw [hlen] at hj
        obtain ⟨hk, hc⟩ := hq j (by omega)
        rw [add_plain] at hc
        simp only [List.getElem_map, List.getElem_range]
        have c0 := hc 0 _ rfl
        have c1 := hc 1 _ rfl
        have c2 := hc 2 _ rfl
        rw [add_plain] at c0 c1 c2
        exact ⟨c0, c1, c2⟩
    · intro d hd
      obtain ⟨i, hi, rfl⟩ := List.mem_map.1 hd
      exact (hq i (by have := List.mem_range.1 hi; omega)).1
theorem DsIn.cell {W : World} {ad : Option Addr} {c : Nat} {l : List Dd} (h : DsIn W ad c l) {k : Nat} (hk : k < l.length) :
    ∃ b off, ad = some ⟨b, off, none⟩ ∧ b < W.heap.size ∧ ∀ w, Below W.heap.size W w → w.cell? ⟨b, off + k * 3, none⟩ = some (.int .i64 (l[k]).doo) ∧ w.cell? ⟨b, off + k * 3 + 1, none⟩ = some (.int .i64 (l[k]).key) ∧ w.cell? ⟨b, off + k * 3 + 2, none⟩ = some (.int .i64 (l[k]).val) := by
  rcases h.at_ with rfl | ⟨b, off, rfl, hc⟩
  · simp at hk
  · obtain ⟨c0, c1, c2⟩ := hc k hk
    have hb := World.block_lt_of_cell? W _ c0
    refine ⟨b, off, rfl, hb, fun w hB => ?_⟩
    have hcc : ∀ o v, W.cell? ⟨b, o, none⟩ = some v → w.cell? ⟨b, o, none⟩ = some v := fun o v h => (hB.cell (p := ⟨b, o, none⟩) hb).trans h
    exact ⟨hcc _ _ c0, hcc _ _ c1, hcc _ _ c2⟩

end Go.Proofs.Ytkcfkanfdbejiaa
