/- A law's arguments of layers 2 and 3: calls, steps. -/
import Derived.Test.YtbndhaocohomjaaOpen
namespace Go.Proofs.Ytbndhaocohomjaa
set_option maxRecDepth 100000
open Go.ChangeShapes Go.WideShapes Go.ChangeAt Go.RowKit Go.Deep

def bd (x : Int) : Prop := -9223372036854775808 ≤ x ∧ x ≤ 9223372036854775807

theorem open_intsCell {H : Type} {enc : TypeId × Value → H} {W : World} {fuel : Nat} {v : Value} {y : DataW H × List MemPlace} (hf : DataW.trod enc Try.prog W 0 (fun _ => true) true fuel 42 [v] = some y) : ∃ a c l, v = .slice a l.length c ∧ IntsArg W a c l := by
  rcases open_ints Try.underlying42 Try.underlying3 (by kernel_rfl) hf with ⟨hcs, _⟩ | ⟨x, l, c, zs, hcs, _, hl, hm, hz, _, hcell, hwz⟩
  · simp at hcs
    subst hcs
    exact ⟨none, 0, [], rfl, .inl ⟨rfl, rfl, rfl⟩, Nat.le_refl _, by decide, by simp⟩
  · simp at hcs
    subst hcs
    have hz' : zs.length = c := by simpa using hz
    have hlen : (zs.take l).length = l := by rw [List.length_take]; omega
    refine ⟨some x, c, zs.take l, by rw [hlen], .inr ⟨x, rfl, fun j hj => ?_⟩, by omega, hm, fun y hy => wf_bd (hwz y (List.mem_of_mem_take hy))⟩
    rw [hcell j (by omega), List.getD_eq_getElem?_getD, List.getElem?_eq_getElem (by omega), Option.getD_some, List.getElem_take]
theorem open_intCell {H : Type} {enc : TypeId × Value → H} {W : World} {fuel : Nat} {v : Value} {y : DataW H × List MemPlace} (hf : DataW.trod enc Try.prog W 0 (fun _ => true) true fuel 3 [v] = some y) : ∃ x : Int, v = .int .i64 x ∧ bd x := by
  obtain ⟨x, e0, _, wx⟩ := DataW.trod_int Try.underlying3 hf
  simp at e0
  exact ⟨x, e0, wf_bd wx⟩
theorem open_boolCell {H : Type} {enc : TypeId × Value → H} {W : World} {fuel : Nat} {v : Value} {y : DataW H × List MemPlace} (hf : DataW.trod enc Try.prog W 0 (fun _ => true) true fuel 4 [v] = some y) : ∃ x : Bool, v = .bool x := by
  obtain ⟨x, e0, _⟩ := DataW.trod_bool Try.underlying4 hf
  simp at e0
  exact ⟨x, e0⟩

/-- A call: what, kind, number, old, now, values. -/
structure Cl where
  doo : Int
  kind : Int
  id : Int
  old : Int
  now : Int
  vals : List Int
structure ClIn (W : World) (k : Cl) (a : Option Addr) (c : Nat) : Prop where
  vals : IntsArg W a c k.vals
  bdo : bd k.doo
  bkind : bd k.kind
  bid : bd k.id
  bold : bd k.old
  bnow : bd k.now
theorem call_cells {H : Type} {enc : TypeId × Value → H} {W : World} {fuel : Nat} {cs : List Value} {y : DataW H × List MemPlace} (h : DataW.trod enc Try.prog W 0 (fun _ => true) true fuel 51 cs = some y) :
    ∃ (k : Cl) (a : Option Addr) (c : Nat), cs = [.int .i64 k.doo, .int .i64 k.kind, .int .i64 k.id, .int .i64 k.old, .int .i64 k.now, .slice a k.vals.length c] ∧ ClIn W k a c := by
  obtain ⟨xs, n, _, _, hl, hlen, hf⟩ := DataW.trod_struct Try.underlying51 h
  have hl6 : cs.length = 6 := hl.trans (by kernel_rfl)
  have hint : Try.prog.cellsOf 3 = 1 := by kernel_rfl
  have hints : Try.prog.cellsOf 42 = 1 := by kernel_rfl
  match cs, hl6, xs, hlen with
  | [v0, v1, v2, v3, v4, v5], _, [y0, y1, y2, y3, y4, y5], _ =>
    have g0 := hf 0 _ rfl
    have g1 := hf 1 _ rfl
    have g2 := hf 2 _ rfl
    have g3 := hf 3 _ rfl
    have g4 := hf 4 _ rfl
    have g5 := hf 5 _ rfl
    simp [hint, hints] at g0 g1 g2 g3 g4 g5
    obtain ⟨x0, rfl, b0⟩ := open_intCell g0
    obtain ⟨x1, rfl, b1⟩ := open_intCell g1
    obtain ⟨x2, rfl, b2⟩ := open_intCell g2
    obtain ⟨x3, rfl, b3⟩ := open_intCell g3
    obtain ⟨x4, rfl, b4⟩ := open_intCell g4
    obtain ⟨a, c, l, rfl, hi⟩ := open_intsCell g5
    exact ⟨⟨x0, x1, x2, x3, x4, l⟩, a, c, rfl, hi, b0, b1, b2, b3, b4⟩
theorem open_callArg {H : Type} {enc : TypeId × Value → H} {W : World} {r : Reach} {base : Nat} {v : Value} {d : DataW H} {p : List MemPlace} (hv : Value.okWide Try.prog W r base 51 v)
    (h : DataW.Trod enc Try.prog W 0 (fun _ => true) true 51 v d p) : ∃ (k : Cl) (a : Option Addr) (c : Nat), v = .agg #[.int .i64 k.doo, .int .i64 k.kind, .int .i64 k.id, .int .i64 k.old, .int .i64 k.now, .slice a k.vals.length c] ∧ ClIn W k a c := by
  obtain ⟨cs, rfl, _⟩ := okWide_struct Try.underlying51 hv
  obtain ⟨fuel, hf⟩ := h
  obtain ⟨k, a, c, e, hk⟩ := call_cells hf
  refine ⟨k, a, c, ?_, hk⟩
  obtain ⟨l⟩ := cs
  simp [Value.cells] at e
  rw [e]

/-- Calls, how they lie. -/
structure CsIn (w : World) (ad : Option Addr) (c : Nat) (l : List Cl) : Prop where
  at_ : l = [] ∨ ∃ b off, ad = some ⟨b, off, none⟩ ∧ ∀ j (hj : j < l.length), w.cell? ⟨b, off + j * 6, none⟩ = some (.int .i64 (l[j]).doo) ∧ w.cell? ⟨b, off + j * 6 + 1, none⟩ = some (.int .i64 (l[j]).kind) ∧ w.cell? ⟨b, off + j * 6 + 2, none⟩ = some (.int .i64 (l[j]).id) ∧
    w.cell? ⟨b, off + j * 6 + 3, none⟩ = some (.int .i64 (l[j]).old) ∧ w.cell? ⟨b, off + j * 6 + 4, none⟩ = some (.int .i64 (l[j]).now) ∧ ∃ a cc, w.cell? ⟨b, off + j * 6 + 5, none⟩ = some (.slice a (l[j]).vals.length cc) ∧ ClIn w l[j] a cc
  room : l.length ≤ c
  most : c ≤ maxLen

instance : Inhabited Cl := ⟨⟨0, 0, 0, 0, 0, []⟩⟩

theorem open_callsArg {H : Type} {enc : TypeId × Value → H} {W : World} {r : Reach} {base : Nat} {v : Value} {d : DataW H} {p : List MemPlace} (hv : Value.okWide Try.prog W r base 46 v)
    (h : DataW.Trod enc Try.prog W 0 (fun _ => true) true 46 v d p) : ∃ a c l, v = .slice a l.length c ∧ CsIn W a c l := by
  obtain ⟨a0, len, cap, rfl⟩ := okWide_slice Try.underlying46 hv
  obtain ⟨fuel, hf⟩ := h
  have h6 : Try.prog.cellsOf 51 = 6 := by kernel_rfl
  rcases open_slice Try.underlying46 hf with ⟨hcs, _⟩ | ⟨x, l, c, m, n, D, Pl, hcs, _, hl, hm, hmm, _, hx⟩
  · simp [Value.cells] at hcs
    obtain ⟨rfl, rfl, rfl⟩ := hcs
    exact ⟨none, 0, [], rfl, .inl rfl, Nat.le_refl _, by decide⟩
  · simp [Value.cells] at hcs
    obtain ⟨rfl, rfl, rfl⟩ := hcs
    simp only [if_true] at hmm
    rw [h6] at hx
    have e : ∀ i, i < m → ∃ q : Cl, ∃ a cc, ClIn W q a cc ∧ ∀ j u, [Value.int .i64 q.doo, .int .i64 q.kind, .int .i64 q.id, .int .i64 q.old, .int .i64 q.now, .slice a q.vals.length cc][j]? = some u → W.cell? ((x.add (i * 6)).add j) = some u := by
      intro i hi
      obtain ⟨cs', h1, h2⟩ := hx i hi
      obtain ⟨_, hlen, hcell⟩ := World.cells?_some h1
      obtain ⟨k, a, cc, rfl, hk⟩ := call_cells h2
      refine ⟨k, a, cc, hk, fun j u hu => ?_⟩
      have hj : j < 6 := by
        have := (List.getElem?_eq_some_iff.1 hu).1
        simpa using this
      rw [hcell j hj, hu]
    obtain ⟨q, hq⟩ := choose_lt e
    have hlen : ((List.range len).map q).length = len := by simp
    refine ⟨some x, cap, (List.range len).map q, by rw [hlen], ?_, by omega, hm⟩
    by_cases h0 : len = 0
    · subst h0; exact .inl rfl
    · obtain ⟨b, off, spot⟩ := x
      have hspot : spot = none := by
        obtain ⟨a, cc, _, hc⟩ := hq 0 (by omega)
        have := World.cell?_spot (hc 0 _ rfl)
        simpa [Addr.add] using this
      subst hspot
      refine .inr ⟨b, off, rfl, fun j hj => ?_⟩
      rw [hlen] at hj
      obtain ⟨a, cc, hk, hc⟩ := hq j (by omega)
      rw [add_plain] at hc
      simp only [List.getElem_map, List.getElem_range]
      have c0 := hc 0 _ rfl
      have c1 := hc 1 _ rfl
      have c2 := hc 2 _ rfl
      have c3 := hc 3 _ rfl
      have c4 := hc 4 _ rfl
      have c5 := hc 5 _ rfl
      rw [add_plain] at c0 c1 c2 c3 c4 c5
      exact ⟨c0, c1, c2, c3, c4, a, cc, c5, hk⟩

end Go.Proofs.Ytbndhaocohomjaa
