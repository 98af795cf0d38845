/- A law's argument of layer 3: nodes to be made. -/
import Derived.Test.YtbndhaocohomjaaOpen
namespace Go.Proofs.Ytbndhaocohomjaa
set_option maxRecDepth 100000
open Go.ChangeShapes Go.WideShapes Go.ChangeAt Go.RowKit Go.Deep

def bd5 (x : Int) : Prop := -9223372036854775808 ≤ x ∧ x ≤ 9223372036854775807
theorem open_intCell5 {H : Type} {enc : TypeId × Value → H} {W : World} {fuel : Nat} {v : Value} {y : DataW H × List MemPlace} (hf : DataW.trod enc Try.prog W 0 (fun _ => true) true fuel 3 [v] = some y) : ∃ x : Int, v = .int .i64 x ∧ bd5 x := by
  obtain ⟨x, e0, _, wx⟩ := DataW.trod_int Try.underlying3 hf
  simp at e0
  exact ⟨x, e0, wf_bd wx⟩
theorem pair_cells5 {H : Type} {enc : TypeId × Value → H} {W : World} {fuel : Nat} {cs : List Value} {y : DataW H × List MemPlace} (h : DataW.trod enc Try.prog W 0 (fun _ => true) true fuel 29 cs = some y) :
    ∃ k v, cs = [.int .i64 k, .int .i64 v] ∧ bd5 k ∧ bd5 v := by
  obtain ⟨xs, n, _, _, hl, hlen, hf⟩ := DataW.trod_struct Try.underlying29 h
  have hl2 : cs.length = 2 := hl.trans (by kernel_rfl)
  have hint : Try.prog.cellsOf 3 = 1 := by kernel_rfl
  match cs, hl2, xs, hlen with
  | [v0, v1], _, [y0, y1], _ =>
    have g0 := hf 0 _ rfl
    have g1 := hf 1 _ rfl
    simp [hint] at g0 g1
    obtain ⟨x0, rfl, b0⟩ := open_intCell5 g0
    obtain ⟨x1, rfl, b1⟩ := open_intCell5 g1
    exact ⟨x0, x1, rfl, b0, b1⟩
theorem open_boolCell5 {H : Type} {enc : TypeId × Value → H} {W : World} {fuel : Nat} {v : Value} {y : DataW H × List MemPlace} (hf : DataW.trod enc Try.prog W 0 (fun _ => true) true fuel 4 [v] = some y) : ∃ x : Bool, v = .bool x := by
  obtain ⟨x, e0, _⟩ := DataW.trod_bool Try.underlying4 hf
  simp at e0
  exact ⟨x, e0⟩
/-- A node to be made: key, value, left, right, are these raw. -/
structure Sp where
  key : Int
  val : Int
  left : Int
  right : Int
  raw : Bool
instance : Inhabited Sp := ⟨⟨0, 0, 0, 0, false⟩⟩
def Sp.bds (d : Sp) : Prop := bd5 d.key ∧ bd5 d.val ∧ bd5 d.left ∧ bd5 d.right
def Sp.cells (d : Sp) : List Value := [.int .i64 d.key, .int .i64 d.val, .int .i64 d.left, .int .i64 d.right, .bool d.raw]
theorem step_cells {H : Type} {enc : TypeId × Value → H} {W : World} {fuel : Nat} {cs : List Value} {y : DataW H × List MemPlace} (h : DataW.trod enc Try.prog W 0 (fun _ => true) true fuel 31 cs = some y) :
    ∃ k : Sp, cs = k.cells ∧ k.bds := by
  obtain ⟨xs, n, _, _, hl, hlen, hf⟩ := DataW.trod_struct Try.underlying31 h
  have hl5 : cs.length = 5 := hl.trans (by kernel_rfl)
  have hint : Try.prog.cellsOf 3 = 1 := by kernel_rfl
  have hbool : Try.prog.cellsOf 4 = 1 := by kernel_rfl
  have hpair : Try.prog.cellsOf 29 = 2 := by kernel_rfl
  match cs, hl5, xs, hlen with
  | [v0, v1, v2, v3, v4], _, [y0, y1, y2, y3], _ =>
    have g0 := hf 0 _ rfl
    have g1 := hf 1 _ rfl
    have g2 := hf 2 _ rfl
    have g3 := hf 3 _ rfl
    simp [hint, hpair, hbool] at g0 g1 g2 g3
    obtain ⟨x0, x1, e, b0, b1⟩ := pair_cells5 g0
    simp only [List.cons.injEq, and_true] at e
    obtain ⟨rfl, rfl⟩ := e
    obtain ⟨x2, rfl, b2⟩ := open_intCell5 g1
    obtain ⟨x3, rfl, b3⟩ := open_intCell5 g2
    obtain ⟨x4, rfl⟩ := open_boolCell5 g3
    exact ⟨⟨x0, x1, x2, x3, x4⟩, rfl, b0, b1, b2, b3⟩
/-- Nodes to be made, how they lie. -/
structure SpIn (w : World) (ad : Option Addr) (c : Nat) (l : List Sp) : Prop where
  at_ : l = [] ∨ ∃ b off, ad = some ⟨b, off, none⟩ ∧ ∀ j (hj : j < l.length), ∀ i v, (l[j]).cells[i]? = some v → w.cell? ⟨b, off + j * 5 + i, none⟩ = some v
  room : l.length ≤ c
  most : c ≤ maxLen
  bds : ∀ d ∈ l, d.bds
theorem open_stepsArg {H : Type} {enc : TypeId × Value → H} {W : World} {r : Reach} {base : Nat} {v : Value} {d : DataW H} {p : List MemPlace} (hv : Value.okWide Try.prog W r base 22 v)
    (h : DataW.Trod enc Try.prog W 0 (fun _ => true) true 22 v d p) : ∃ a c l, v = .slice a l.length c ∧ SpIn W a c l := by
  obtain ⟨a0, len, cap, rfl⟩ := okWide_slice Try.underlying22 hv
  obtain ⟨fuel, hf⟩ := h
  have h3 : Try.prog.cellsOf 31 = 5 := by kernel_rfl
  rcases open_slice Try.underlying22 hf with ⟨hcs, _⟩ | ⟨x, l, c, m, n, D, Pl, hcs, _, hl, hm, hmm, _, hx⟩
  · simp [Value.cells] at hcs
    obtain ⟨rfl, rfl, rfl⟩ := hcs
    exact ⟨none, 0, [], rfl, .inl rfl, Nat.le_refl _, by decide, by simp⟩
  · simp [Value.cells] at hcs
    obtain ⟨rfl, rfl, rfl⟩ := hcs
    simp only [if_true] at hmm
    rw [h3] at hx
    have e : ∀ i, i < m → ∃ q : Sp, q.bds ∧ ∀ j u, q.cells[j]? = some u → W.cell? ((x.add (i * 5)).add j) = some u := by
      intro i hi
      obtain ⟨cs', h1, h2⟩ := hx i hi
      obtain ⟨_, hlen, hcell⟩ := World.cells?_some h1
      obtain ⟨k, rfl, hk⟩ := step_cells h2
      refine ⟨k, hk, fun j u hu => ?_⟩
      have hj : j < 5 := by
        have := (List.getElem?_eq_some_iff.1 hu).1
        simpa [Sp.cells] using this
      rw [hcell j hj, hu]
    obtain ⟨q, hq⟩ := choose_lt e
    have hlen : ((List.range len).map q).length = len := by simp
    refine ⟨some x, cap, (List.range len).map q, by rw [hlen], ?_, by omega, hm, ?_⟩
    · by_cases h0 : len = 0
      · subst h0; exact .inl rfl
      · obtain ⟨b, off, spot⟩ := x
        have hspot : spot = none := by
          obtain ⟨_, hc⟩ := hq 0 (by omega)
          have := World.cell?_spot (hc 0 _ rfl)
          simpa [Addr.add] using this
        subst hspot
        refine .inr ⟨b, off, rfl, fun j hj i v hv => ?_⟩
        rw [hlen] at hj
        obtain ⟨hk, hc⟩ := hq j (by omega)
        rw [add_plain] at hc
        simp only [List.getElem_map, List.getElem_range] at hv
        have c0 := hc i v hv
        rw [add_plain] at c0
        exact c0
    · intro d hd
      obtain ⟨i, hi, rfl⟩ := List.mem_map.1 hd
      exact (hq i (by have := List.mem_range.1 hi; omega)).1
theorem SpIn.cell {W : World} {ad : Option Addr} {c : Nat} {l : List Sp} (h : SpIn W ad c l) {k : Nat} (hk : k < l.length) :
    ∃ b off, ad = some ⟨b, off, none⟩ ∧ b < W.heap.size ∧ ∀ w, Below W.heap.size W w → w.cell? ⟨b, off + k * 5, none⟩ = some (.int .i64 (l[k]).key) ∧ w.cell? ⟨b, off + k * 5 + 1, none⟩ = some (.int .i64 (l[k]).val) ∧ w.cell? ⟨b, off + k * 5 + 2, none⟩ = some (.int .i64 (l[k]).left) ∧ w.cell? ⟨b, off + k * 5 + 3, none⟩ = some (.int .i64 (l[k]).right) ∧ w.cell? ⟨b, off + k * 5 + 4, none⟩ = some (.bool (l[k]).raw) := by
  rcases h.at_ with rfl | ⟨b, off, rfl, hc⟩
  · simp at hk
  · have hh := hc k hk
    have hb := World.block_lt_of_cell? W _ (hh 0 _ rfl)
    refine ⟨b, off, rfl, hb, fun w hB => ?_⟩
    have hcc : ∀ o v, W.cell? ⟨b, o, none⟩ = some v → w.cell? ⟨b, o, none⟩ = some v := fun o v h => (hB.cell (p := ⟨b, o, none⟩) hb).trans h
    exact ⟨hcc _ _ (hh 0 _ rfl), hcc _ _ (hh 1 _ rfl), hcc _ _ (hh 2 _ rfl), hcc _ _ (hh 3 _ rfl), hcc _ _ (hh 4 _ rfl)⟩

end Go.Proofs.Ytbndhaocohomjaa
