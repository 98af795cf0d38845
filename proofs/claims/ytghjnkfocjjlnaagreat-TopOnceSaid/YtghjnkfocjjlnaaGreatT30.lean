/- What came of a script: a player's report. -/
import Derived.Test.YtghjnkfocjjlnaaGreatT00
import Derived.Test.YtghjnkfocjjlnaaGreatT29
set_option linter.unusedSimpArgs false
set_option linter.unusedVariables false
namespace Go.Proofs.YtghjnkfocjjlnaaGreat
set_option maxRecDepth 100000
open Go.RowKit Go.Proofs.YtghjnkfocjjlnaaGreatW.PrintWords Go.Proofs.YtghjnkfocjjlnaaGreatW.PrintLast
set_option linter.unusedVariables false
set_option linter.unusedSimpArgs false
/-- How many of the first k threads are at work. -/
def pendN (S : Ix) : Nat → Nat
  | 0 => 0
  | k + 1 => pendN S k + if (S.th k).busy = true then 1 else 0
theorem pendN_le (S : Ix) : ∀ k, pendN S k ≤ k
  | 0 => Nat.le_refl _
  | k + 1 => by have := pendN_le S k; unfold pendN; split <;> omega
theorem ownsRow_later {w w' : World} {B : Nat} {e : TypeId} {size : Nat} {v : Value} {n : Nat} {xs : List Value} (h : w.ownsRow B e size v n xs) (hb : Below w.heap.size w w') : w'.ownsRow B e size v n xs :=
  ownsRow_same h (fun b e => hb.block b (h.lt b e).2)
/-- What the index's Tree does: TQ is what is known of the tree that it tells, which lies in the blocks TB, all new. -/
structure TreeC (W : World) (P : Pl) (S S1 : Ix) (TQ : World → Nat → Nat → Nat → (Nat → Prop) → Prop) : Prop where
  call : ∀ w own, IS W w P own S → Calls Tryz.prog 29 #[pt_ P.px] w fun e w' => ∃ own' g nn cap TB, e = .returned (.agg #[.int .i64 0, .slice (some ⟨g, 0, none⟩) nn cap]) ∧ IS W w' P own' S1 ∧ FK w own w' own' ∧ TQ w' g nn cap TB ∧ ∀ b, TB b → w.heap.size ≤ b ∧ b < w'.heap.size
  same : ∀ w w' g nn cap TB, TQ w g nn cap TB → (∀ b, TB b → w'.heap[b]? = w.heap[b]?) → TQ w' g nn cap TB
  order : S1.order = S.order
/-- What a report has told so far: in which order, the tree; its own block. -/
structure RS (W w0 : World) (P : Pl) (own0 : Own) (q : Pq) (o2 : Nat → Option Po) (Y : Py) (TQ : World → Nat → Nat → Nat → (Nat → Prop) → Prop) (lcs ocs : Array Value) (lcap ocap : Nat) (hv : Value) (hs : List Value) (rb : Nat) (tvo : Option Value) (tro : Option (Nat × Nat × Nat)) (b3o : Option Nat) (w : World) (own : Own) : Prop where
  pi : PI W w P own q o2 Y
  py : PyAt w P.px P.pts.length q o2 Y lcs ocs lcap ocap hv hs
  fp : FP w0 own0 o2 w own o2
  t2 : own rb = none ∧ o2 rb = none ∧ w.heap[rb]? = some (.cells #[.int .i64 0, .slice none 0 0, .slice none 0 0, .int .i64 0, .slice none 0 0, .int .i64 0, .int .i64 0, .int .i64 0, .int .i64 0, .int .i64 0] 40 (0, 0)) ∧ w0.heap.size ≤ rb
  tv : ∀ v, tvo = some v → w.ownsRow 0 3 1 v Y.S.order.length (intsV Y.S.order) ∧ ∀ b, v.ownBlock = some b → own b = none ∧ w0.heap.size ≤ b ∧ b ≠ rb ∧ ∀ x, b3o = some x → b ≠ x
  tr : ∀ g nn cap, tro = some (g, nn, cap) → ∃ TB, TQ w g nn cap TB ∧ ∀ b, TB b → b < w.heap.size ∧ w0.heap.size ≤ b ∧ b ≠ rb ∧ ∀ x, b3o = some x → b ≠ x
  b3 : ∀ x, b3o = some x → own x = none ∧ o2 x = none ∧ x ≠ rb ∧ w0.heap.size ≤ x ∧ w.heap[x]? = some (.cells #[.int .i64 0, .slice none 0 0, .slice none 0 0, .int .i64 0, .slice none 0 0, .int .i64 0, .int .i64 0, .int .i64 0, .int .i64 0, .int .i64 0] 40 (0, 0))
theorem PI.o2_none {W w : World} {P : Pl} {own : Own} {q : Pq} {o2 : Nat → Option Po} {Y : Py} (h : PI W w P own q o2 Y) {b : Nat} (hb : w.heap.size ≤ b) : o2 b = none := by
  cases ho : o2 b with
  | none => rfl
  | some o => have := (h.free b o ho).2.2; omega
theorem lt_of_some {w : World} {b : Nat} {o : Obj} (h : w.heap[b]? = some o) : b < w.heap.size := (Array.getElem?_eq_some_iff.1 h).1
theorem RS.later {W w0 : World} {P : Pl} {own0 : Own} {q : Pq} {o2 : Nat → Option Po} {Y : Py} {TQ : World → Nat → Nat → Nat → (Nat → Prop) → Prop} {lcs ocs : Array Value} {lcap ocap : Nat} {hv : Value} {hs : List Value} {rb : Nat} {tvo : Option Value} {tro : Option (Nat × Nat × Nat)} {b3o : Option Nat} {w w' : World} {own : Own} {S S1 : Ix}
    (hT : TreeC W P S S1 TQ) (h : RS W w0 P own0 q o2 Y TQ lcs ocs lcap ocap hv hs rb tvo tro b3o w own) (hb : Below w.heap.size w w') : RS W w0 P own0 q o2 Y TQ lcs ocs lcap ocap hv hs rb tvo tro b3o w' own where
  pi := h.pi.later hb
  py := h.py.keep Y.S (fun b o ho => hb.block b (h.pi.free b o ho).2.2)
  fp := h.fp.trans (FP.below hb)
  t2 := ⟨h.t2.1, h.t2.2.1, (hb.block rb (lt_of_some h.t2.2.2.1)).trans h.t2.2.2.1, h.t2.2.2.2⟩
  tv := fun v hv => ⟨ownsRow_later (h.tv v hv).1 hb, (h.tv v hv).2⟩
  tr := fun g nn cap e => by
    obtain ⟨TB, h1, h2⟩ := h.tr g nn cap e
    exact ⟨TB, hT.same _ _ _ _ _ _ h1 (fun b hB => hb.block b (h2 b hB).1), fun b hB => ⟨Nat.lt_of_lt_of_le (h2 b hB).1 hb.size, (h2 b hB).2⟩⟩
  b3 := fun x hx => by
    obtain ⟨k1, k2, k3, k4, k5⟩ := h.b3 x hx
    exact ⟨k1, k2, k3, k4, (hb.block x (lt_of_some k5)).trans k5⟩
theorem RS.own_new {W w0 : World} {P : Pl} {own0 : Own} {q : Pq} {o2 : Nat → Option Po} {Y : Py} {TQ : World → Nat → Nat → Nat → (Nat → Prop) → Prop} {lcs ocs : Array Value} {lcap ocap : Nat} {hv : Value} {hs : List Value} {rb : Nat} {tvo : Option Value} {tro : Option (Nat × Nat × Nat)} {b3o : Option Nat} {w : World} {own : Own}
    (h : RS W w0 P own0 q o2 Y TQ lcs ocs lcap ocap hv hs rb tvo tro b3o w own) {b : Nat} (hb : w.heap.size ≤ b) : own b = none ∧ o2 b = none ∧ w0.heap.size ≤ b ∧ b ≠ rb ∧ ∀ x, b3o = some x → b ≠ x := by
  refine ⟨h.pi.is.none_new hb, ?_, Nat.le_trans h.fp.1 hb, ?_, fun x hx => ?_⟩
  · cases ho : o2 b with
    | none => rfl
    | some o => have := (h.pi.free b o ho).2.2; omega
  · have := lt_of_some h.t2.2.2.1; omega
  · have := lt_of_some (h.b3 x hx).2.2.2.2; omega
/-- The order is told. -/
theorem RS.order_ {W w0 : World} {P : Pl} {own0 : Own} {q : Pq} {o2 : Nat → Option Po} {Y : Py} {TQ : World → Nat → Nat → Nat → (Nat → Prop) → Prop} {lcs ocs : Array Value} {lcap ocap : Nat} {hv : Value} {hs : List Value} {rb : Nat} {tro : Option (Nat × Nat × Nat)} {b3o : Option Nat} {w : World} {own : Own} {S S1 : Ix} {no : Nat}
    (h : RS W w0 P own0 q o2 Y TQ lcs ocs lcap ocap hv hs rb none tro b3o w own) (hT : TreeC W P S S1 TQ) (hn : no = Y.S.order.length) (hlen : Y.S.order.length ≤ 1000000) :
    Calls Tryz.prog 28 #[pt_ P.px] w fun e w' => ∃ ad c, e = .returned (.slice ad no c) ∧ RS W w0 P own0 q o2 Y TQ lcs ocs lcap ocap hv hs rb (some (.slice ad no c)) tro b3o w' own := by
  refine (xorder_any h.pi.is hlen).mono ?_
  rintro e w' ⟨v, rfl, ho, hf, hb⟩
  have hfm : ∃ ad c, v = .slice ad no c := by
    rcases ho.2 with ⟨rfl, h2⟩ | ⟨g, cap, cur, rfl, _⟩
    · exact ⟨none, 0, by rw [hn, h2]⟩
    · exact ⟨_, _, by rw [hn]⟩
  obtain ⟨ad, c, rfl⟩ := hfm
  have k := h.later hT hb
  refine ⟨ad, c, rfl, k.pi, k.py, k.fp, k.t2, fun v hv => ?_, k.tr, k.b3⟩
  injection hv with hv
  subst hv
  exact ⟨ho, fun b e => by
    obtain ⟨x1, x2, x3, x4, x5⟩ := h.own_new (hf b e)
    exact ⟨x1, x3, x4, x5⟩⟩
/-- The tree is told. -/
theorem RS.tree_ {W w0 : World} {P : Pl} {own0 : Own} {q : Pq} {o2 : Nat → Option Po} {Y : Py} {TQ : World → Nat → Nat → Nat → (Nat → Prop) → Prop} {lcs ocs : Array Value} {lcap ocap : Nat} {hv : Value} {hs : List Value} {rb : Nat} {tvo : Option Value} {b3o : Option Nat} {w : World} {own : Own} {S1 : Ix}
    (h : RS W w0 P own0 q o2 Y TQ lcs ocs lcap ocap hv hs rb tvo none b3o w own) (hT : TreeC W P Y.S S1 TQ) :
    Calls Tryz.prog 29 #[pt_ P.px] w fun e w' => ∃ g nn cap own', e = .returned (.agg #[.int .i64 0, .slice (some ⟨g, 0, none⟩) nn cap]) ∧ RS W w0 P own0 q o2 { Y with S := S1 } TQ lcs ocs lcap ocap hv hs rb tvo (some (g, nn, cap)) b3o w' own' := by
  refine (hT.call w own h.pi.is).mono ?_
  rintro e w' ⟨own', g, nn, cap, TB, rfl, is', fk', htq, hTB⟩
  have hk : ∀ b, own b = none → b < w.heap.size → own' b = none ∧ w'.heap[b]? = w.heap[b]? := fun b h1 h2 => fk'.2 b h2 h1
  refine ⟨g, nn, cap, own', rfl, h.pi.ends2 is' fk', h.py.keep S1 (fun b o ho => (fk'.2 b (h.pi.free b o ho).2.2 (h.pi.free b o ho).1).2), h.fp.trans (FP.fk fk'), ?_, fun v hv => ?_, fun g' nn' cap' e => ?_, fun x hx => ?_⟩
  · obtain ⟨k1, k2, k3, k4⟩ := h.t2
    exact ⟨(hk _ k1 (lt_of_some k3)).1, k2, (hk _ k1 (lt_of_some k3)).2.trans k3, k4⟩
  · obtain ⟨k1, k2⟩ := h.tv v hv
    rw [show ({ Y with S := S1 } : Py).S.order = Y.S.order from hT.order]
    exact ⟨ownsRow_same k1 (fun b e => (hk b (k2 b e).1 (k1.lt b e).2).2), fun b e => ⟨(hk b (k2 b e).1 (k1.lt b e).2).1, (k2 b e).2⟩⟩
  · injection e with e
    injection e with e1 e
    injection e with e2 e3
    subst e1; subst e2; subst e3
    exact ⟨TB, htq, fun b hB => ⟨(hTB b hB).2, by
      obtain ⟨x1, x2, x3, x4, x5⟩ := h.own_new (hTB b hB).1
      exact ⟨x3, x4, x5⟩⟩⟩
  · obtain ⟨k1, k2, k3, k4, k5⟩ := h.b3 x hx
    exact ⟨(hk _ k1 (lt_of_some k5)).1, k2, k3, k4, (hk _ k1 (lt_of_some k5)).2.trans k5⟩
/-- The report's own block. -/
theorem RS.alloc_ {W w0 : World} {P : Pl} {own0 : Own} {q : Pq} {o2 : Nat → Option Po} {Y : Py} {TQ : World → Nat → Nat → Nat → (Nat → Prop) → Prop} {lcs ocs : Array Value} {lcap ocap : Nat} {hv : Value} {hs : List Value} {rb : Nat} {tvo : Option Value} {tro : Option (Nat × Nat × Nat)} {w : World} {own : Own} {S S1 : Ix}
    (h : RS W w0 P own0 q o2 Y TQ lcs ocs lcap ocap hv hs rb tvo tro none w own) (hT : TreeC W P S S1 TQ) : RS W w0 P own0 q o2 Y TQ lcs ocs lcap ocap hv hs rb tvo tro (some w.heap.size) (w.alloc (.cells #[.int .i64 0, .slice none 0 0, .slice none 0 0, .int .i64 0, .slice none 0 0, .int .i64 0, .int .i64 0, .int .i64 0, .int .i64 0, .int .i64 0] 40)) own := by
  have hn := h.own_new (Nat.le_refl _)
  have k := h.later hT ((Below.refl _ _).alloc (Nat.le_refl _) (.cells #[.int .i64 0, .slice none 0 0, .slice none 0 0, .int .i64 0, .slice none 0 0, .int .i64 0, .int .i64 0, .int .i64 0, .int .i64 0, .int .i64 0] 40))
  refine ⟨k.pi, k.py, k.fp, k.t2, fun v hv => ⟨(k.tv v hv).1, fun b e => ?_⟩, fun g nn cap e => ?_, fun x hx => ?_⟩
  · obtain ⟨k1, k2, k3, _⟩ := (h.tv v hv).2 b e
    refine ⟨k1, k2, k3, fun x hx => ?_⟩
    injection hx with hx
    have := ((h.tv v hv).1.lt b e).2
    omega
  · obtain ⟨TB, h1, h2⟩ := k.tr g nn cap e
    obtain ⟨TB0, g1, g2⟩ := h.tr g nn cap e
    exact ⟨TB0, hT.same _ _ _ _ _ _ g1 (fun b hB => ((Below.refl _ _).alloc (Nat.le_refl _) _).block b (g2 b hB).1), fun b hB => by
      obtain ⟨y1, y2, y3, _⟩ := g2 b hB
      refine ⟨by simp; omega, y2, y3, fun x hx => ?_⟩
      injection hx with hx
      omega⟩
  · injection hx with hx
    subst hx
    exact ⟨hn.1, hn.2.1, hn.2.2.2.1, hn.2.2.1, heap_alloc_new w _⟩
def set10 (w : World) (b : Nat) (v0 v1 v2 v3 v4 v5 v6 v7 v8 v9 : Value) : World := ((((((((((w.setCell ⟨b, 0, none⟩ v0).setCell ⟨b, 1, none⟩ v1).setCell ⟨b, 2, none⟩ v2).setCell ⟨b, 3, none⟩ v3).setCell ⟨b, 4, none⟩ v4).setCell ⟨b, 5, none⟩ v5).setCell ⟨b, 6, none⟩ v6).setCell ⟨b, 7, none⟩ v7).setCell ⟨b, 8, none⟩ v8).setCell ⟨b, 9, none⟩ v9)
theorem set10_heap {w : World} {b : Nat} {c0 c1 c2 c3 c4 c5 c6 c7 c8 c9 : Value} {t : TypeId} (v0 v1 v2 v3 v4 v5 v6 v7 v8 v9 : Value) (h : w.heap[b]? = some (.cells #[c0, c1, c2, c3, c4, c5, c6, c7, c8, c9] t (0, 0))) : (set10 w b v0 v1 v2 v3 v4 v5 v6 v7 v8 v9).heap[b]? = some (.cells #[v0, v1, v2, v3, v4, v5, v6, v7, v8, v9] t (0, 0)) := by
  unfold set10
  have h0 := heap_setCell_same _ b 0 _ _ v0 h
  simp only [sqA, sqZ, sqS] at h0
  have h1 := heap_setCell_same _ b 1 _ _ v1 h0
  simp only [sqA, sqZ, sqS] at h1
  have h2 := heap_setCell_same _ b 2 _ _ v2 h1
  simp only [sqA, sqZ, sqS] at h2
  have h3 := heap_setCell_same _ b 3 _ _ v3 h2
  simp only [sqA, sqZ, sqS] at h3
  have h4 := heap_setCell_same _ b 4 _ _ v4 h3
  simp only [sqA, sqZ, sqS] at h4
  have h5 := heap_setCell_same _ b 5 _ _ v5 h4
  simp only [sqA, sqZ, sqS] at h5
  have h6 := heap_setCell_same _ b 6 _ _ v6 h5
  simp only [sqA, sqZ, sqS] at h6
  have h7 := heap_setCell_same _ b 7 _ _ v7 h6
  simp only [sqA, sqZ, sqS] at h7
  have h8 := heap_setCell_same _ b 8 _ _ v8 h7
  simp only [sqA, sqZ, sqS] at h8
  have h9 := heap_setCell_same _ b 9 _ _ v9 h8
  exact h9
theorem set10_other {w : World} {b k : Nat} (v0 v1 v2 v3 v4 v5 v6 v7 v8 v9 : Value) (h : k ≠ b) : (set10 w b v0 v1 v2 v3 v4 v5 v6 v7 v8 v9).heap[k]? = w.heap[k]? := by
  unfold set10
  iterate 10 rw [setCell_other _ h]
theorem set10_size (w : World) (b : Nat) (v0 v1 v2 v3 v4 v5 v6 v7 v8 v9 : Value) : (set10 w b v0 v1 v2 v3 v4 v5 v6 v7 v8 v9).heap.size = w.heap.size := by
  unfold set10; simp [World.setCell]
theorem set10_below {B : Nat} {a w : World} (h : Below B a w) {b : Nat} (hb : B ≤ b) (v0 v1 v2 v3 v4 v5 v6 v7 v8 v9 : Value) : Below B a (set10 w b v0 v1 v2 v3 v4 v5 v6 v7 v8 v9) := by
  unfold set10
  exact ((((((((((h.setCell (p := ⟨b, 0, none⟩) hb _).setCell (p := ⟨b, 1, none⟩) hb _).setCell (p := ⟨b, 2, none⟩) hb _).setCell (p := ⟨b, 3, none⟩) hb _).setCell (p := ⟨b, 4, none⟩) hb _).setCell (p := ⟨b, 5, none⟩) hb _).setCell (p := ⟨b, 6, none⟩) hb _).setCell (p := ⟨b, 7, none⟩) hb _).setCell (p := ⟨b, 8, none⟩) hb _).setCell (p := ⟨b, 9, none⟩) hb _)
/-- The same, behind the stores into the report's blocks. -/
structure RT (W w0 : World) (P : Pl) (own0 : Own) (q : Pq) (o2 : Nat → Option Po) (Y : Py) (TQ : World → Nat → Nat → Nat → (Nat → Prop) → Prop) (lcs ocs : Array Value) (lcap ocap : Nat) (hv : Value) (hs : List Value) (rb : Nat) (tv : Value) (g nn cap : Nat) (b3 : Nat) (c2 c3 : Array Value) (w : World) (own : Own) : Prop where
  pi : PI W w P own q o2 Y
  py : PyAt w P.px P.pts.length q o2 Y lcs ocs lcap ocap hv hs
  fp : FP w0 own0 o2 w own o2
  t2 : own rb = none ∧ o2 rb = none ∧ w.heap[rb]? = some (.cells c2 40 (0, 0)) ∧ w0.heap.size ≤ rb
  t3 : own b3 = none ∧ o2 b3 = none ∧ w.heap[b3]? = some (.cells c3 40 (0, 0)) ∧ w0.heap.size ≤ b3 ∧ b3 ≠ rb
  tv : w.ownsRow 0 3 1 tv Y.S.order.length (intsV Y.S.order) ∧ ∀ b, tv.ownBlock = some b → w0.heap.size ≤ b ∧ b ≠ rb ∧ b ≠ b3
  tr : ∃ TB, TQ w g nn cap TB ∧ ∀ b, TB b → b < w.heap.size ∧ w0.heap.size ≤ b ∧ b ≠ rb ∧ b ≠ b3
theorem RT.turn {W w0 : World} {P : Pl} {own0 : Own} {q : Pq} {o2 : Nat → Option Po} {Y : Py} {TQ : World → Nat → Nat → Nat → (Nat → Prop) → Prop} {lcs ocs : Array Value} {lcap ocap : Nat} {hv : Value} {hs : List Value} {rb : Nat} {tv : Value} {g nn cap b3 : Nat} {c2 c3 d2 d3 : Array Value} {w w' : World} {own : Own} {S S1 : Ix}
    (h : RT W w0 P own0 q o2 Y TQ lcs ocs lcap ocap hv hs rb tv g nn cap b3 c2 c3 w own) (hT : TreeC W P S S1 TQ) (hb : Below W.heap.size W w') (hz : w'.heap.size = w.heap.size) (hoth : ∀ b, b ≠ rb → b ≠ b3 → w'.heap[b]? = w.heap[b]?) (h2 : w'.heap[rb]? = some (.cells d2 40 (0, 0))) (h3 : w'.heap[b3]? = some (.cells d3 40 (0, 0))) :
    RT W w0 P own0 q o2 Y TQ lcs ocs lcap ocap hv hs rb tv g nn cap b3 d2 d3 w' own where
  pi := ⟨h.pi.is.free hb (Nat.le_of_eq hz.symm) (fun b o ho => hoth b (by rintro rfl; rw [h.t2.1] at ho; cases ho) (by rintro rfl; rw [h.t3.1] at ho; cases ho)), fun b o ho => by rw [hz]; exact h.pi.free b o ho, lcs, ocs, lcap, ocap, hv, hs, h.py.keep Y.S (fun b o ho => hoth b (by rintro rfl; rw [h.t2.2.1] at ho; cases ho) (by rintro rfl; rw [h.t3.2.1] at ho; cases ho))⟩
  py := h.py.keep Y.S (fun b o ho => hoth b (by rintro rfl; rw [h.t2.2.1] at ho; cases ho) (by rintro rfl; rw [h.t3.2.1] at ho; cases ho))
  fp := ⟨by rw [hz]; exact h.fp.1, fun b hlt k1 k2 => by
    obtain ⟨x1, x2, x3⟩ := h.fp.2 b hlt k1 k2
    exact ⟨x1, x2, (hoth b (by have := h.t2.2.2.2; omega) (by have := h.t3.2.2.2.1; omega)).trans x3⟩⟩
  t2 := ⟨h.t2.1, h.t2.2.1, h2, h.t2.2.2.2⟩
  t3 := ⟨h.t3.1, h.t3.2.1, h3, h.t3.2.2.2⟩
  tv := ⟨ownsRow_same h.tv.1 (fun b e => hoth b (h.tv.2 b e).2.1 (h.tv.2 b e).2.2), h.tv.2⟩
  tr := by
    obtain ⟨TB, k1, k2⟩ := h.tr
    exact ⟨TB, hT.same _ _ _ _ _ _ k1 (fun b hB => hoth b (k2 b hB).2.2.1 (k2 b hB).2.2.2), fun b hB => by rw [hz]; exact k2 b hB⟩
theorem RS.rt {W w0 : World} {P : Pl} {own0 : Own} {q : Pq} {o2 : Nat → Option Po} {Y : Py} {TQ : World → Nat → Nat → Nat → (Nat → Prop) → Prop} {lcs ocs : Array Value} {lcap ocap : Nat} {hv : Value} {hs : List Value} {rb : Nat} {tv : Value} {g nn cap b3 : Nat} {w : World} {own : Own}
    (h : RS W w0 P own0 q o2 Y TQ lcs ocs lcap ocap hv hs rb (some tv) (some (g, nn, cap)) (some b3) w own) : RT W w0 P own0 q o2 Y TQ lcs ocs lcap ocap hv hs rb tv g nn cap b3 #[.int .i64 0, .slice none 0 0, .slice none 0 0, .int .i64 0, .slice none 0 0, .int .i64 0, .int .i64 0, .int .i64 0, .int .i64 0, .int .i64 0] #[.int .i64 0, .slice none 0 0, .slice none 0 0, .int .i64 0, .slice none 0 0, .int .i64 0, .int .i64 0, .int .i64 0, .int .i64 0, .int .i64 0] w own where
  pi := h.pi
  py := h.py
  fp := h.fp
  t2 := h.t2
  t3 := by obtain ⟨k1, k2, k3, k4, k5⟩ := h.b3 b3 rfl; exact ⟨k1, k2, k5, k4, k3⟩
  tv := ⟨(h.tv tv rfl).1, fun b e => by obtain ⟨k1, k2, k3, k4⟩ := (h.tv tv rfl).2 b e; exact ⟨k2, k3, k4 b3 rfl⟩⟩
  tr := by
    obtain ⟨TB, k1, k2⟩ := h.tr g nn cap rfl
    exact ⟨TB, k1, fun b hB => by obtain ⟨x1, x2, x3, x4⟩ := k2 b hB; exact ⟨x1, x2, x3, x4 b3 rfl⟩⟩
/-- What is behind a report. -/
def RepP (W w : World) (P : Pl) (own : Own) (q : Pq) (o2 : Nat → Option Po) (Y1 : Py) (TQ : World → Nat → Nat → Nat → (Nat → Prop) → Prop) (e : Ending) (w' : World) : Prop :=
  ∃ own' lcs ocs lcap ocap had hn hc hs tad no tc g nn cap TB, e = .returned (.agg #[.int .i64 0, .slice had hn hc, .slice tad no tc, .int .i64 0, .slice (some ⟨g, 0, none⟩) nn cap, .int .i64 (pendN Y1.S P.pts.length : Nat), .int .i64 Y1.S.steps, .int .i64 (usedO (some Y1.S.a)), .int .i64 Y1.S.splits, .int .i64 Y1.S.joins]) ∧
    hn = Y1.h.length ∧ no = Y1.S.order.length ∧ PI W w' P own' q o2 Y1 ∧ PyAt w' P.px P.pts.length q o2 Y1 lcs ocs lcap ocap (.slice had hn hc) hs ∧ FP w own o2 w' own' o2 ∧ w'.ownsRow 0 3 1 (.slice tad no tc) no (intsV Y1.S.order) ∧ (∀ b, (Value.slice tad no tc).ownBlock = some b → w.heap.size ≤ b) ∧ TQ w' g nn cap TB ∧ ∀ b, TB b → w.heap.size ≤ b ∧ b < w'.heap.size
set_option maxRecDepth 100000 in
set_option maxHeartbeats 4000000 in
theorem report_any {W w : World} {P : Pl} {own : Own} {q : Pq} {o2 : Nat → Option Po} {Y : Py} (h : PI W w P own q o2 Y) {S1 : Ix} {TQ : World → Nat → Nat → Nat → (Nat → Prop) → Prop} (hT : TreeC W P Y.S S1 TQ) (ho : Y.S.order.length ≤ 1000000) (hn : P.pts.length ≤ 1000) :
    Calls Tryz.prog 11 #[pt_ q.pp] w fun e w' => RepP W w P own q o2 { Y with S := S1 } TQ e w' := by
  have HT := Lib.hid hT
  have HO := Lib.hid ho
  have HN := Lib.hid hn
  have H0 := Lib.hid h
  clear h hT ho hn
  have SZ1 : w.heap.size < (w.alloc (.cells #[.int .i64 0, .slice none 0 0, .slice none 0 0, .int .i64 0, .slice none 0 0, .int .i64 0, .int .i64 0, .int .i64 0, .int .i64 0, .int .i64 0] 40)).heap.size := by simp
  obtain ⟨lcs, ocs, lcap, ocap, hv0, hs, py0⟩ := H0.out.at_
  obtain ⟨had, hc, hhv⟩ := ownsRow_form py0.hrow
  obtain ⟨hn, hhn⟩ : ∃ hn, hn = Y.h.length := ⟨_, rfl⟩
  rw [← hhn] at hhv
  subst hhv
  have HHN := Lib.hid hhn
  have PY0 := Lib.hid py0
  clear py0 hhn
  obtain ⟨no, hno⟩ : ∃ no, no = Y.S.order.length := ⟨_, rfl⟩
  have HNO := Lib.hid hno
  clear hno
  have hb1 : Below w.heap.size w ((w.alloc (.cells #[.int .i64 0, .slice none 0 0, .slice none 0 0, .int .i64 0, .slice none 0 0, .int .i64 0, .int .i64 0, .int .i64 0, .int .i64 0, .int .i64 0] 40)).drew) := ((Below.refl w.heap.size w).alloc (Nat.le_refl _) (.cells #[.int .i64 0, .slice none 0 0, .slice none 0 0, .int .i64 0, .slice none 0 0, .int .i64 0, .int .i64 0, .int .i64 0, .int .i64 0, .int .i64 0] 40)).drew
  have RSs := Lib.hid (show RS W w P own q o2 Y TQ lcs ocs lcap ocap (.slice had hn hc) hs w.heap.size none none none ((w.alloc (.cells #[.int .i64 0, .slice none 0 0, .slice none 0 0, .int .i64 0, .slice none 0 0, .int .i64 0, .int .i64 0, .int .i64 0, .int .i64 0, .int .i64 0] 40)).drew) own from ⟨H0.out.later hb1, PY0.out.keep Y.S (fun b o ho => hb1.block b (H0.out.free b o ho).2.2), FP.below hb1, ⟨H0.out.is.none_new (Nat.le_refl _), H0.out.o2_none (Nat.le_refl _), heap_alloc_new w _, Nat.le_refl _⟩, fun v e => (by cases e), fun _ _ _ e => (by cases e), fun _ e => (by cases e)⟩)
  clear hb1
  go_enter Tryz.func11, Tryz.ntmps11
  go_wp2_with fail
  generalize w.alloc (.cells #[.int .i64 0, .slice none 0 0, .slice none 0 0, .int .i64 0, .slice none 0 0, .int .i64 0, .int .i64 0, .int .i64 0, .int .i64 0, .int .i64 0] 40) = w1 at RSs SZ1 ⊢
  refine start_ (n := 37) (S := fun w' => w'.cell? ⟨q.pp, 0, none⟩ = some (pt_ P.px) ∧ w'.cell? ⟨q.pp, 3, none⟩ = some (.slice had hn hc)) (ds := [36]) (bz 37 0).toArray (by kernel_rfl) rfl rfl ⟨(cell_blk (i := 0) RSs.out.py.blk rfl), (cell_blk (i := 3) RSs.out.py.blk rfl)⟩ (fun hHeld => ?_)
  refine pure_ (i := 0) (N := some 5) (v := ?_) (a' := ?_) (bz 37 1).toArray rfl rfl (by kernel_rfl) (fun _ _ _ h => h) (Or.inl ⟨by rfl, ?_⟩) ?_ ?_
  rotate_left
  · intro w'
    go_simp
    with_reducible rfl
  rotate_left
  · simp only [Act.put, sqA, sqZ, sqS, i64_w, i32_w]
    rfl
  refine pure_ (i := 1) (N := some 6) (v := ?_) (a' := ?_) (bz 37 3).toArray rfl rfl (by kernel_rfl) (fun _ _ _ h => h) (Or.inl ⟨by rfl, ?_⟩) ?_ ?_
  rotate_left
  · intro w'
    go_simp
    with_reducible rfl
  rotate_left
  · simp only [Act.put, sqA, sqZ, sqS, i64_w, i32_w]
    rfl
  refine pure_ (i := 2) (N := some 7) (v := ?_) (a' := ?_) (bz 37 7).toArray rfl rfl (by kernel_rfl) (fun _ _ _ h => h) (Or.inl ⟨by rfl, ?_⟩) ?_ ?_
  rotate_left
  · intro w'
    go_simp
    with_reducible rfl
  rotate_left
  · simp only [Act.put, sqA, sqZ, sqS, i64_w, i32_w]
    rfl
  refine pure_ (i := 4) (N := some 9) (v := ?_) (a' := ?_) (bz 37 23).toArray rfl rfl (by kernel_rfl) (fun _ _ _ h => h) (Or.inl ⟨by rfl, ?_⟩) ?_ ?_
  rotate_left
  · intro w'
    go_simp
    with_reducible rfl
  rotate_left
  · simp only [Act.put, sqA, sqZ, sqS, i64_w, i32_w]
    rfl
  refine pure_ (i := 5) (N := some 10) (v := ?_) (a' := ?_) (bz 37 55).toArray rfl rfl (by kernel_rfl) (fun _ _ _ h => h) (Or.inl ⟨by rfl, ?_⟩) ?_ ?_
  rotate_left
  · intro w'
    go_simp
    with_reducible rfl
  rotate_left
  · simp only [Act.put, sqA, sqZ, sqS, i64_w, i32_w]
    rfl
  refine pure_ (i := 6) (N := some 11) (v := ?_) (a' := ?_) (bz 37 119).toArray rfl rfl (by kernel_rfl) (fun _ _ _ h => h) (Or.inl ⟨by rfl, ?_⟩) ?_ ?_
  rotate_left
  · intro w'
    go_simp
    with_reducible rfl
  rotate_left
  · simp only [Act.put, sqA, sqZ, sqS, i64_w, i32_w]
    rfl
  refine pure_ (i := 9) (N := some 14) (v := ?_) (a' := ?_) (bz 37 631).toArray rfl rfl (by kernel_rfl) (fun _ _ _ h => h) (Or.inl ⟨by rfl, ?_⟩) ?_ ?_
  rotate_left
  · intro w'
    go_simp
    with_reducible rfl
  rotate_left
  · simp only [Act.put, sqA, sqZ, sqS, i64_w, i32_w]
    rfl
  refine pure_ (i := 10) (N := some 15) (v := ?_) (a' := ?_) (bz 37 1655).toArray rfl rfl (by kernel_rfl) (fun _ _ _ h => h) (Or.inl ⟨by rfl, ?_⟩) ?_ ?_
  rotate_left
  · intro w'
    go_simp
    with_reducible rfl
  rotate_left
  · simp only [Act.put, sqA, sqZ, sqS, i64_w, i32_w]
    rfl
  refine pure_ (i := 11) (N := some 16) (v := ?_) (a' := ?_) (bz 37 3703).toArray rfl rfl (by kernel_rfl) (fun _ _ _ h => h) (Or.inl ⟨by rfl, ?_⟩) ?_ ?_
  rotate_left
  · intro w'
    go_simp
    with_reducible rfl
  rotate_left
  · simp only [Act.put, sqA, sqZ, sqS, i64_w, i32_w]
    rfl
  refine pure_ (i := 14) (N := some 19) (v := ?_) (a' := ?_) (bz 37 20087).toArray rfl rfl (by kernel_rfl) (fun _ _ _ h => h) (Or.inl ⟨by rfl, ?_⟩) ?_ ?_
  rotate_left
  · intro w'
    go_simp
    with_reducible rfl
  rotate_left
  · simp only [Act.put, sqA, sqZ, sqS, i64_w, i32_w]
    rfl
  refine pure_ (i := 15) (N := some 20) (v := ?_) (a' := ?_) (bz 37 52855).toArray rfl rfl (by kernel_rfl) (fun _ _ _ h => h) (Or.inl ⟨by rfl, ?_⟩) ?_ ?_
  rotate_left
  · intro w'
    go_simp
    with_reducible rfl
  rotate_left
  · simp only [Act.put, sqA, sqZ, sqS, i64_w, i32_w]
    rfl
  refine pure_ (i := 16) (N := some 21) (v := ?_) (a' := ?_) (bz 37 118391).toArray rfl rfl (by kernel_rfl) (fun _ _ _ h => h) (Or.inl ⟨by rfl, ?_⟩) ?_ ?_
  rotate_left
  · intro w'
    go_simp
    with_reducible rfl
  rotate_left
  · simp only [Act.put, sqA, sqZ, sqS, i64_w, i32_w]
    rfl
  refine pure_ (i := 19) (N := some 24) (v := ?_) (a' := ?_) (bz 37 642679).toArray rfl rfl (by kernel_rfl) (fun _ _ _ h => h) (Or.inl ⟨by rfl, ?_⟩) ?_ ?_
  rotate_left
  · intro w'
    go_simp
    with_reducible rfl
  rotate_left
  · simp only [Act.put, sqA, sqZ, sqS, i64_w, i32_w]
    rfl
  refine pure_ (i := 20) (N := some 25) (v := ?_) (a' := ?_) (bz 37 1691255).toArray rfl rfl (by kernel_rfl) (fun _ _ _ h => h) (Or.inl ⟨by rfl, ?_⟩) ?_ ?_
  rotate_left
  · intro w'
    go_simp
    with_reducible rfl
  rotate_left
  · simp only [Act.put, sqA, sqZ, sqS, i64_w, i32_w]
    rfl
  refine pure_ (i := 21) (N := some 26) (v := ?_) (a' := ?_) (bz 37 3788407).toArray rfl rfl (by kernel_rfl) (fun _ _ _ h => h) (Or.inl ⟨by rfl, ?_⟩) ?_ ?_
  rotate_left
  · intro w'
    go_simp
    with_reducible rfl
  rotate_left
  · simp only [Act.put, sqA, sqZ, sqS, i64_w, i32_w]
    rfl
  refine pure_ (i := 24) (N := some 29) (v := ?_) (a' := ?_) (bz 37 20565623).toArray rfl rfl (by kernel_rfl) (fun _ _ _ h => h) (Or.inl ⟨by rfl, ?_⟩) ?_ ?_
  rotate_left
  · intro w'
    go_simp
    with_reducible rfl
  rotate_left
  · simp only [Act.put, sqA, sqZ, sqS, i64_w, i32_w]
    rfl
  refine pure_ (i := 25) (N := some 30) (v := ?_) (a' := ?_) (bz 37 54120055).toArray rfl rfl (by kernel_rfl) (fun _ _ _ h => h) (Or.inl ⟨by rfl, ?_⟩) ?_ ?_
  rotate_left
  · intro w'
    go_simp
    with_reducible rfl
  rotate_left
  · simp only [Act.put, sqA, sqZ, sqS, i64_w, i32_w]
    rfl
  refine pure_ (i := 26) (N := some 31) (v := ?_) (a' := ?_) (bz 37 121228919).toArray rfl rfl (by kernel_rfl) (fun _ _ _ h => h) (Or.inl ⟨by rfl, ?_⟩) ?_ ?_
  rotate_left
  · intro w'
    go_simp
    with_reducible rfl
  rotate_left
  · simp only [Act.put, sqA, sqZ, sqS, i64_w, i32_w]
    rfl
  refine pure_ (i := 29) (N := some 34) (v := ?_) (a' := ?_) (bz 37 658099831).toArray rfl rfl (by kernel_rfl) (fun _ _ _ h => h) (Or.inl ⟨by rfl, ?_⟩) ?_ ?_
  rotate_left
  · intro w'
    go_simp
    with_reducible rfl
  rotate_left
  · simp only [Act.put, sqA, sqZ, sqS, i64_w, i32_w]
    rfl
  refine pure_ (i := 30) (N := some 35) (v := ?_) (a' := ?_) (bz 37 1731841655).toArray rfl rfl (by kernel_rfl) (fun _ _ _ h => h) (Or.inl ⟨by rfl, ?_⟩) ?_ ?_
  rotate_left
  · intro w'
    go_simp
    with_reducible rfl
  rotate_left
  · simp only [Act.put, sqA, sqZ, sqS, i64_w, i32_w]
    rfl
  refine pure_ (i := 31) (N := some 36) (v := ?_) (a' := ?_) (bz 37 3879325303).toArray rfl rfl (by kernel_rfl) (fun _ _ _ h => h) (Or.inl ⟨by rfl, ?_⟩) ?_ ?_
  rotate_left
  · intro w'
    go_simp
    with_reducible rfl
  rotate_left
  · simp only [Act.put, sqA, sqZ, sqS, i64_w, i32_w]
    rfl
  refine take_ (i := 3) (N := some 8) (v := ?_) (a' := ?_) (bz 37 3879325311).toArray rfl rfl (by kernel_rfl) (fun _ _ _ h => h) (Or.inl ⟨by rfl, ?_⟩) hHeld ?_ ?_
  rotate_left
  · rintro w' ⟨s0, s1⟩
    go_simp
    with_reducible rfl
  rotate_left
  · simp only [Act.put, sqA, sqZ, sqS, i64_w, i32_w]
    rfl
  refine take_ (i := 7) (N := some 12) (v := ?_) (a' := ?_) (bz 37 3879325439).toArray rfl rfl (by kernel_rfl) (fun _ _ _ h => h) (Or.inl ⟨by rfl, ?_⟩) hHeld ?_ ?_
  rotate_left
  · rintro w' ⟨s0, s1⟩
    go_simp
    with_reducible rfl
  rotate_left
  · simp only [Act.put, sqA, sqZ, sqS, i64_w, i32_w]
    rfl
  refine take_ (i := 12) (N := some 17) (v := ?_) (a' := ?_) (bz 37 3879329535).toArray rfl rfl (by kernel_rfl) (fun _ _ _ h => h) (Or.inl ⟨by rfl, ?_⟩) hHeld ?_ ?_
  rotate_left
  · rintro w' ⟨s0, s1⟩
    go_simp
    with_reducible rfl
  rotate_left
  · simp only [Act.put, sqA, sqZ, sqS, i64_w, i32_w]
    rfl
  refine take_ (i := 17) (N := some 22) (v := ?_) (a' := ?_) (bz 37 3879460607).toArray rfl rfl (by kernel_rfl) (fun _ _ _ h => h) (Or.inl ⟨by rfl, ?_⟩) hHeld ?_ ?_
  rotate_left
  · rintro w' ⟨s0, s1⟩
    go_simp
    with_reducible rfl
  rotate_left
  · simp only [Act.put, sqA, sqZ, sqS, i64_w, i32_w]
    rfl
  refine take_ (i := 22) (N := some 27) (v := ?_) (a' := ?_) (bz 37 3883654911).toArray rfl rfl (by kernel_rfl) (fun _ _ _ h => h) (Or.inl ⟨by rfl, ?_⟩) hHeld ?_ ?_
  rotate_left
  · rintro w' ⟨s0, s1⟩
    go_simp
    with_reducible rfl
  rotate_left
  · simp only [Act.put, sqA, sqZ, sqS, i64_w, i32_w]
    rfl
  refine take_ (i := 27) (N := some 32) (v := ?_) (a' := ?_) (bz 37 4017872639).toArray rfl rfl (by kernel_rfl) (fun _ _ _ h => h) (Or.inl ⟨by rfl, ?_⟩) hHeld ?_ ?_
  rotate_left
  · rintro w' ⟨s0, s1⟩
    go_simp
    with_reducible rfl
  rotate_left
  · simp only [Act.put, sqA, sqZ, sqS, i64_w, i32_w]
    rfl
  refine take_ (i := 32) (N := some 37) (v := ?_) (a' := ?_) (bz 37 8312839935).toArray rfl rfl (by kernel_rfl) (fun _ _ _ h => h) (Or.inl ⟨by rfl, ?_⟩) hHeld ?_ ?_
  rotate_left
  · rintro w' ⟨s0, s1⟩
    go_simp
    with_reducible rfl
  rotate_left
  · simp only [Act.put, sqA, sqZ, sqS, i64_w, i32_w]
    rfl
  refine join_ (σ := Option Addr × Nat × Nat × Nat × Nat × Nat) 1 (bz 37 68719476735).toArray (fun s => [(13, .slice s.1 no s.2.1), (18, .agg #[.int .i64 0, .slice (some ⟨s.2.2.1, 0, none⟩) s.2.2.2.1 s.2.2.2.2.1]), (23, .int .i64 S1.steps), (28, .int .i64 (usedO (some S1.a))), (33, .int .i64 S1.splits), (38, .int .i64 S1.joins), (39, .agg #[.int .i64 0, .slice had hn hc, .slice s.1 no s.2.1, .int .i64 0, .slice (some ⟨s.2.2.1, 0, none⟩) s.2.2.2.1 s.2.2.2.2.1, .int .i64 0, .int .i64 S1.steps, .int .i64 (usedO (some S1.a)), .int .i64 S1.splits, .int .i64 S1.joins]), (3, .pointer (some ⟨s.2.2.2.2.2, 0, none⟩))]) (fun s w' => ∃ own', RS W w P own q o2 { Y with S := S1 } TQ lcs ocs lcap ocap (.slice had hn hc) hs w.heap.size (some (.slice s.1 no s.2.1)) (some (s.2.2.1, s.2.2.2.1, s.2.2.2.2.1)) (some s.2.2.2.2.2) w' own') ?_ ?_
  rotate_left
  · intro hCont
    refine two_ (i := 8) (j := 35) (Ni := some 13) (Nj := some 3) (bz 37 8312840191).toArray (bz 37 42672578303).toArray rfl rfl rfl rfl (by kernel_rfl) (by decide) (by decide) (fun K hK => ?_) (fun K hK => ?_)
    · skip
      have OD := Lib.hid (RSs.out.order_ HT.out HNO.out HO.out)
      refine goes_ Tryz.func28 (by kernel_rfl) rfl #[pt_ P.px] (by rfl) rfl rfl (by simp only [List.map_toArray, List.map_cons, List.map_nil]; rfl) ?_
      with_reducible refine (OD.out).mono ?_
      rintro e w8 ⟨tad, tc, rfl, rs8⟩
      have RS8 := Lib.hid rs8
      clear rs8 OD
      refine ⟨_, rfl, ?_⟩
      refine hK.out _ _ ⟨(cell_blk (i := 0) RS8.out.py.blk rfl), (cell_blk (i := 3) RS8.out.py.blk rfl)⟩ (fun hHeld => ?_)
      clear hK K
      refine norm_ (a' := ?_) ?_ ?_
      rotate_left
      · show Act.put _ (some 13) _ = _
        simp only [Act.put, sqA, sqZ, sqS, i64_w, i32_w]
        rfl
      refine two_ (i := 13) (j := 35) (Ni := some 18) (Nj := some 3) (bz 37 8312848383).toArray (bz 37 42672578559).toArray rfl rfl rfl rfl (by kernel_rfl) (by decide) (by decide) (fun K hK => ?_) (fun K hK => ?_)
      · skip
        have TR := Lib.hid (RS8.out.tree_ HT.out)
        refine goes_ Tryz.func29 (by kernel_rfl) rfl #[pt_ P.px] (by rfl) rfl rfl (by simp only [List.map_toArray, List.map_cons, List.map_nil]; rfl) ?_
        with_reducible refine (TR.out).mono ?_
        rintro e w13 ⟨g, nn, cap, own13, rfl, rs13⟩
        have RS13 := Lib.hid rs13
        clear rs13 TR
        refine ⟨_, rfl, ?_⟩
        refine hK.out _ _ ⟨(cell_blk (i := 0) RS13.out.py.blk rfl), (cell_blk (i := 3) RS13.out.py.blk rfl)⟩ (fun hHeld => ?_)
        clear hK K
        refine norm_ (a' := ?_) ?_ ?_
        rotate_left
        · show Act.put _ (some 18) _ = _
          simp only [Act.put, sqA, sqZ, sqS, i64_w, i32_w]
          rfl
        refine two_ (i := 18) (j := 35) (Ni := some 23) (Nj := some 3) (bz 37 8313110527).toArray (bz 37 42672586751).toArray rfl rfl rfl rfl (by kernel_rfl) (by decide) (by decide) (fun K hK => ?_) (fun K hK => ?_)
        · skip
          have CX := Lib.hid (xsteps_any RS13.out.pi.is)
          refine goes_ Tryz.func30 (by kernel_rfl) rfl #[pt_ P.px] (by rfl) rfl rfl (by simp only [List.map_toArray, List.map_cons, List.map_nil]; rfl) ?_
          with_reducible refine (CX.out).mono ?_
          rintro e w9 ⟨rfl, rfl⟩
          clear CX
          refine ⟨_, rfl, ?_⟩
          refine hK.out _ _ ⟨(cell_blk (i := 0) RS13.out.py.blk rfl), (cell_blk (i := 3) RS13.out.py.blk rfl)⟩ (fun hHeld => ?_)
          clear hK K
          refine norm_ (a' := ?_) ?_ ?_
          rotate_left
          · show Act.put _ (some 23) _ = _
            simp only [Act.put, sqA, sqZ, sqS, i64_w, i32_w]
            rfl
          refine two_ (i := 23) (j := 35) (Ni := some 28) (Nj := some 3) (bz 37 8321499135).toArray (bz 37 42672848895).toArray rfl rfl rfl rfl (by kernel_rfl) (by decide) (by decide) (fun K hK => ?_) (fun K hK => ?_)
          · skip
            have CX := Lib.hid (xused_any RS13.out.pi.is)
            refine goes_ Tryz.func31 (by kernel_rfl) rfl #[pt_ P.px] (by rfl) rfl rfl (by simp only [List.map_toArray, List.map_cons, List.map_nil]; rfl) ?_
            with_reducible refine (CX.out).mono ?_
            rintro e w9 ⟨rfl, rfl⟩
            clear CX
            refine ⟨_, rfl, ?_⟩
            refine hK.out _ _ ⟨(cell_blk (i := 0) RS13.out.py.blk rfl), (cell_blk (i := 3) RS13.out.py.blk rfl)⟩ (fun hHeld => ?_)
            clear hK K
            refine norm_ (a' := ?_) ?_ ?_
            rotate_left
            · show Act.put _ (some 28) _ = _
              simp only [Act.put, sqA, sqZ, sqS, i64_w, i32_w]
              rfl
            refine two_ (i := 28) (j := 35) (Ni := some 33) (Nj := some 3) (bz 37 8589934591).toArray (bz 37 42681237503).toArray rfl rfl rfl rfl (by kernel_rfl) (by decide) (by decide) (fun K hK => ?_) (fun K hK => ?_)
            · skip
              have CX := Lib.hid (xsplits_any RS13.out.pi.is)
              refine goes_ Tryz.func32 (by kernel_rfl) rfl #[pt_ P.px] (by rfl) rfl rfl (by simp only [List.map_toArray, List.map_cons, List.map_nil]; rfl) ?_
              with_reducible refine (CX.out).mono ?_
              rintro e w9 ⟨rfl, rfl⟩
              clear CX
              refine ⟨_, rfl, ?_⟩
              refine hK.out _ _ ⟨(cell_blk (i := 0) RS13.out.py.blk rfl), (cell_blk (i := 3) RS13.out.py.blk rfl)⟩ (fun hHeld => ?_)
              clear hK K
              refine norm_ (a' := ?_) ?_ ?_
              rotate_left
              · show Act.put _ (some 33) _ = _
                simp only [Act.put, sqA, sqZ, sqS, i64_w, i32_w]
                rfl
              refine two_ (i := 33) (j := 35) (Ni := some 38) (Nj := some 3) (bz 37 17179869183).toArray (bz 37 42949672959).toArray rfl rfl rfl rfl (by kernel_rfl) (by decide) (by decide) (fun K hK => ?_) (fun K hK => ?_)
              · skip
                have CX := Lib.hid (xjoinsN_any RS13.out.pi.is)
                refine goes_ Tryz.func33 (by kernel_rfl) rfl #[pt_ P.px] (by rfl) rfl rfl (by simp only [List.map_toArray, List.map_cons, List.map_nil]; rfl) ?_
                with_reducible refine (CX.out).mono ?_
                rintro e w9 ⟨rfl, rfl⟩
                clear CX
                refine ⟨_, rfl, ?_⟩
                refine hK.out _ _ ⟨(cell_blk (i := 0) RS13.out.py.blk rfl), (cell_blk (i := 3) RS13.out.py.blk rfl)⟩ (fun hHeld => ?_)
                clear hK K
                refine norm_ (a' := ?_) ?_ ?_
                rotate_left
                · show Act.put _ (some 38) _ = _
                  simp only [Act.put, sqA, sqZ, sqS, i64_w, i32_w]
                  rfl
                refine pure_ (i := 34) (N := some 39) (v := ?_) (a' := ?_) (bz 37 34359738367).toArray rfl rfl (by kernel_rfl) (fun _ _ _ h => h) (Or.inl ⟨by rfl, ?_⟩) ?_ ?_
                rotate_left
                · intro w'
                  go_simp
                  with_reducible rfl
                rotate_left
                · simp only [Act.put, sqA, sqZ, sqS, i64_w, i32_w]
                  rfl
                refine one_ (i := 35) (N := some 3) (bz 37 68719476735).toArray rfl rfl (by kernel_rfl) (by decide) (fun K hK => ?_)
                refine value_ (w1 := ?_) (v := ?_) (by rfl) rfl ?_ ?_
                rotate_left 2
                · go_simp
                  constructor
                  · rfl
                  · rfl
                have RS35 := Lib.hid (RS13.out.alloc_ HT.out)
                refine hK.out _ _ ⟨(cell_blk (i := 0) RS35.out.py.blk rfl), (cell_blk (i := 3) RS35.out.py.blk rfl)⟩ (fun hHeld => ?_)
                clear hK K
                refine norm_ (a' := ?_) ?_ ?_
                rotate_left
                · show Act.put _ (some 3) _ = _
                  simp only [Act.put, sqA, sqZ, sqS, i64_w, i32_w]
                  rfl
                exact norm_ (by first | (simp only [putAll, Act.put, sqA, sqZ, sqS]; done) | (simp only [putAll, Act.put, sqA, sqZ, sqS]; rfl)) (hCont (tad, tc, g, nn, cap, w13.heap.size) _ ⟨own13, RS35.out⟩)
              · skip
                refine value_ (w1 := ?_) (v := ?_) (by rfl) rfl ?_ ?_
                rotate_left 2
                · go_simp
                  constructor
                  · rfl
                  · rfl
                have RS35 := Lib.hid (RS13.out.alloc_ HT.out)
                refine hK.out _ _ ⟨(cell_blk (i := 0) RS35.out.py.blk rfl), (cell_blk (i := 3) RS35.out.py.blk rfl)⟩ (fun hHeld => ?_)
                clear hK K
                refine norm_ (a' := ?_) ?_ ?_
                rotate_left
                · show Act.put _ (some 3) _ = _
                  simp only [Act.put, sqA, sqZ, sqS, i64_w, i32_w]
                  rfl
                refine one_ (i := 33) (N := some 38) (bz 37 51539607551).toArray rfl rfl (by kernel_rfl) (by decide) (fun K hK => ?_)
                have CX := Lib.hid (xjoinsN_any RS35.out.pi.is)
                refine goes_ Tryz.func33 (by kernel_rfl) rfl #[pt_ P.px] (by rfl) rfl rfl (by simp only [List.map_toArray, List.map_cons, List.map_nil]; rfl) ?_
                with_reducible refine (CX.out).mono ?_
                rintro e w9 ⟨rfl, rfl⟩
                clear CX
                refine ⟨_, rfl, ?_⟩
                refine hK.out _ _ ⟨(cell_blk (i := 0) RS35.out.py.blk rfl), (cell_blk (i := 3) RS35.out.py.blk rfl)⟩ (fun hHeld => ?_)
                clear hK K
                refine norm_ (a' := ?_) ?_ ?_
                rotate_left
                · show Act.put _ (some 38) _ = _
                  simp only [Act.put, sqA, sqZ, sqS, i64_w, i32_w]
                  rfl
                refine pure_ (i := 34) (N := some 39) (v := ?_) (a' := ?_) (bz 37 68719476735).toArray rfl rfl (by kernel_rfl) (fun _ _ _ h => h) (Or.inl ⟨by rfl, ?_⟩) ?_ ?_
                rotate_left
                · intro w'
                  go_simp
                  with_reducible rfl
                rotate_left
                · simp only [Act.put, sqA, sqZ, sqS, i64_w, i32_w]
                  rfl
                exact norm_ (by first | (simp only [putAll, Act.put, sqA, sqZ, sqS]; done) | (simp only [putAll, Act.put, sqA, sqZ, sqS]; rfl)) (hCont (tad, tc, g, nn, cap, w13.heap.size) _ ⟨own13, RS35.out⟩)
            · skip
              refine value_ (w1 := ?_) (v := ?_) (by rfl) rfl ?_ ?_
              rotate_left 2
              · go_simp
                constructor
                · rfl
                · rfl
              have RS35 := Lib.hid (RS13.out.alloc_ HT.out)
              refine hK.out _ _ ⟨(cell_blk (i := 0) RS35.out.py.blk rfl), (cell_blk (i := 3) RS35.out.py.blk rfl)⟩ (fun hHeld => ?_)
              clear hK K
              refine norm_ (a' := ?_) ?_ ?_
              rotate_left
              · show Act.put _ (some 3) _ = _
                simp only [Act.put, sqA, sqZ, sqS, i64_w, i32_w]
                rfl
              refine one_ (i := 28) (N := some 33) (bz 37 42949672959).toArray rfl rfl (by kernel_rfl) (by decide) (fun K hK => ?_)
              have CX := Lib.hid (xsplits_any RS35.out.pi.is)
              refine goes_ Tryz.func32 (by kernel_rfl) rfl #[pt_ P.px] (by rfl) rfl rfl (by simp only [List.map_toArray, List.map_cons, List.map_nil]; rfl) ?_
              with_reducible refine (CX.out).mono ?_
              rintro e w9 ⟨rfl, rfl⟩
              clear CX
              refine ⟨_, rfl, ?_⟩
              refine hK.out _ _ ⟨(cell_blk (i := 0) RS35.out.py.blk rfl), (cell_blk (i := 3) RS35.out.py.blk rfl)⟩ (fun hHeld => ?_)
              clear hK K
              refine norm_ (a' := ?_) ?_ ?_
              rotate_left
              · show Act.put _ (some 33) _ = _
                simp only [Act.put, sqA, sqZ, sqS, i64_w, i32_w]
                rfl
              refine one_ (i := 33) (N := some 38) (bz 37 51539607551).toArray rfl rfl (by kernel_rfl) (by decide) (fun K hK => ?_)
              have CX := Lib.hid (xjoinsN_any RS35.out.pi.is)
              refine goes_ Tryz.func33 (by kernel_rfl) rfl #[pt_ P.px] (by rfl) rfl rfl (by simp only [List.map_toArray, List.map_cons, List.map_nil]; rfl) ?_
              with_reducible refine (CX.out).mono ?_
              rintro e w9 ⟨rfl, rfl⟩
              clear CX
              refine ⟨_, rfl, ?_⟩
              refine hK.out _ _ ⟨(cell_blk (i := 0) RS35.out.py.blk rfl), (cell_blk (i := 3) RS35.out.py.blk rfl)⟩ (fun hHeld => ?_)
              clear hK K
              refine norm_ (a' := ?_) ?_ ?_
              rotate_left
              · show Act.put _ (some 38) _ = _
                simp only [Act.put, sqA, sqZ, sqS, i64_w, i32_w]
                rfl
              refine pure_ (i := 34) (N := some 39) (v := ?_) (a' := ?_) (bz 37 68719476735).toArray rfl rfl (by kernel_rfl) (fun _ _ _ h => h) (Or.inl ⟨by rfl, ?_⟩) ?_ ?_
              rotate_left
              · intro w'
                go_simp
                with_reducible rfl
              rotate_left
              · simp only [Act.put, sqA, sqZ, sqS, i64_w, i32_w]
                rfl
              exact norm_ (by first | (simp only [putAll, Act.put, sqA, sqZ, sqS]; done) | (simp only [putAll, Act.put, sqA, sqZ, sqS]; rfl)) (hCont (tad, tc, g, nn, cap, w13.heap.size) _ ⟨own13, RS35.out⟩)
          · skip
            refine value_ (w1 := ?_) (v := ?_) (by rfl) rfl ?_ ?_
            rotate_left 2
            · go_simp
              constructor
              · rfl
              · rfl
            have RS35 := Lib.hid (RS13.out.alloc_ HT.out)
            refine hK.out _ _ ⟨(cell_blk (i := 0) RS35.out.py.blk rfl), (cell_blk (i := 3) RS35.out.py.blk rfl)⟩ (fun hHeld => ?_)
            clear hK K
            refine norm_ (a' := ?_) ?_ ?_
            rotate_left
            · show Act.put _ (some 3) _ = _
              simp only [Act.put, sqA, sqZ, sqS, i64_w, i32_w]
              rfl
            refine one_ (i := 23) (N := some 28) (bz 37 42681237503).toArray rfl rfl (by kernel_rfl) (by decide) (fun K hK => ?_)
            have CX := Lib.hid (xused_any RS35.out.pi.is)
            refine goes_ Tryz.func31 (by kernel_rfl) rfl #[pt_ P.px] (by rfl) rfl rfl (by simp only [List.map_toArray, List.map_cons, List.map_nil]; rfl) ?_
            with_reducible refine (CX.out).mono ?_
            rintro e w9 ⟨rfl, rfl⟩
            clear CX
            refine ⟨_, rfl, ?_⟩
            refine hK.out _ _ ⟨(cell_blk (i := 0) RS35.out.py.blk rfl), (cell_blk (i := 3) RS35.out.py.blk rfl)⟩ (fun hHeld => ?_)
            clear hK K
            refine norm_ (a' := ?_) ?_ ?_
            rotate_left
            · show Act.put _ (some 28) _ = _
              simp only [Act.put, sqA, sqZ, sqS, i64_w, i32_w]
              rfl
            refine one_ (i := 28) (N := some 33) (bz 37 42949672959).toArray rfl rfl (by kernel_rfl) (by decide) (fun K hK => ?_)
            have CX := Lib.hid (xsplits_any RS35.out.pi.is)
            refine goes_ Tryz.func32 (by kernel_rfl) rfl #[pt_ P.px] (by rfl) rfl rfl (by simp only [List.map_toArray, List.map_cons, List.map_nil]; rfl) ?_
            with_reducible refine (CX.out).mono ?_
            rintro e w9 ⟨rfl, rfl⟩
            clear CX
            refine ⟨_, rfl, ?_⟩
            refine hK.out _ _ ⟨(cell_blk (i := 0) RS35.out.py.blk rfl), (cell_blk (i := 3) RS35.out.py.blk rfl)⟩ (fun hHeld => ?_)
            clear hK K
            refine norm_ (a' := ?_) ?_ ?_
            rotate_left
            · show Act.put _ (some 33) _ = _
              simp only [Act.put, sqA, sqZ, sqS, i64_w, i32_w]
              rfl
            refine one_ (i := 33) (N := some 38) (bz 37 51539607551).toArray rfl rfl (by kernel_rfl) (by decide) (fun K hK => ?_)
            have CX := Lib.hid (xjoinsN_any RS35.out.pi.is)
            refine goes_ Tryz.func33 (by kernel_rfl) rfl #[pt_ P.px] (by rfl) rfl rfl (by simp only [List.map_toArray, List.map_cons, List.map_nil]; rfl) ?_
            with_reducible refine (CX.out).mono ?_
            rintro e w9 ⟨rfl, rfl⟩
            clear CX
            refine ⟨_, rfl, ?_⟩
            refine hK.out _ _ ⟨(cell_blk (i := 0) RS35.out.py.blk rfl), (cell_blk (i := 3) RS35.out.py.blk rfl)⟩ (fun hHeld => ?_)
            clear hK K
            refine norm_ (a' := ?_) ?_ ?_
            rotate_left
            · show Act.put _ (some 38) _ = _
              simp only [Act.put, sqA, sqZ, sqS, i64_w, i32_w]
              rfl
            refine pure_ (i := 34) (N := some 39) (v := ?_) (a' := ?_) (bz 37 68719476735).toArray rfl rfl (by kernel_rfl) (fun _ _ _ h => h) (Or.inl ⟨by rfl, ?_⟩) ?_ ?_
            rotate_left
            · intro w'
              go_simp
              with_reducible rfl
            rotate_left
            · simp only [Act.put, sqA, sqZ, sqS, i64_w, i32_w]
              rfl
            exact norm_ (by first | (simp only [putAll, Act.put, sqA, sqZ, sqS]; done) | (simp only [putAll, Act.put, sqA, sqZ, sqS]; rfl)) (hCont (tad, tc, g, nn, cap, w13.heap.size) _ ⟨own13, RS35.out⟩)
        · skip
          refine value_ (w1 := ?_) (v := ?_) (by rfl) rfl ?_ ?_
          rotate_left 2
          · go_simp
            constructor
            · rfl
            · rfl
          have RS35 := Lib.hid (RS13.out.alloc_ HT.out)
          refine hK.out _ _ ⟨(cell_blk (i := 0) RS35.out.py.blk rfl), (cell_blk (i := 3) RS35.out.py.blk rfl)⟩ (fun hHeld => ?_)
          clear hK K
          refine norm_ (a' := ?_) ?_ ?_
          rotate_left
          · show Act.put _ (some 3) _ = _
            simp only [Act.put, sqA, sqZ, sqS, i64_w, i32_w]
            rfl
          refine one_ (i := 18) (N := some 23) (bz 37 42672848895).toArray rfl rfl (by kernel_rfl) (by decide) (fun K hK => ?_)
          have CX := Lib.hid (xsteps_any RS35.out.pi.is)
          refine goes_ Tryz.func30 (by kernel_rfl) rfl #[pt_ P.px] (by rfl) rfl rfl (by simp only [List.map_toArray, List.map_cons, List.map_nil]; rfl) ?_
          with_reducible refine (CX.out).mono ?_
          rintro e w9 ⟨rfl, rfl⟩
          clear CX
          refine ⟨_, rfl, ?_⟩
          refine hK.out _ _ ⟨(cell_blk (i := 0) RS35.out.py.blk rfl), (cell_blk (i := 3) RS35.out.py.blk rfl)⟩ (fun hHeld => ?_)
          clear hK K
          refine norm_ (a' := ?_) ?_ ?_
          rotate_left
          · show Act.put _ (some 23) _ = _
            simp only [Act.put, sqA, sqZ, sqS, i64_w, i32_w]
            rfl
          refine one_ (i := 23) (N := some 28) (bz 37 42681237503).toArray rfl rfl (by kernel_rfl) (by decide) (fun K hK => ?_)
          have CX := Lib.hid (xused_any RS35.out.pi.is)
          refine goes_ Tryz.func31 (by kernel_rfl) rfl #[pt_ P.px] (by rfl) rfl rfl (by simp only [List.map_toArray, List.map_cons, List.map_nil]; rfl) ?_
          with_reducible refine (CX.out).mono ?_
          rintro e w9 ⟨rfl, rfl⟩
          clear CX
          refine ⟨_, rfl, ?_⟩
          refine hK.out _ _ ⟨(cell_blk (i := 0) RS35.out.py.blk rfl), (cell_blk (i := 3) RS35.out.py.blk rfl)⟩ (fun hHeld => ?_)
          clear hK K
          refine norm_ (a' := ?_) ?_ ?_
          rotate_left
          · show Act.put _ (some 28) _ = _
            simp only [Act.put, sqA, sqZ, sqS, i64_w, i32_w]
            rfl
          refine one_ (i := 28) (N := some 33) (bz 37 42949672959).toArray rfl rfl (by kernel_rfl) (by decide) (fun K hK => ?_)
          have CX := Lib.hid (xsplits_any RS35.out.pi.is)
          refine goes_ Tryz.func32 (by kernel_rfl) rfl #[pt_ P.px] (by rfl) rfl rfl (by simp only [List.map_toArray, List.map_cons, List.map_nil]; rfl) ?_
          with_reducible refine (CX.out).mono ?_
          rintro e w9 ⟨rfl, rfl⟩
          clear CX
          refine ⟨_, rfl, ?_⟩
          refine hK.out _ _ ⟨(cell_blk (i := 0) RS35.out.py.blk rfl), (cell_blk (i := 3) RS35.out.py.blk rfl)⟩ (fun hHeld => ?_)
          clear hK K
          refine norm_ (a' := ?_) ?_ ?_
          rotate_left
          · show Act.put _ (some 33) _ = _
            simp only [Act.put, sqA, sqZ, sqS, i64_w, i32_w]
            rfl
          refine one_ (i := 33) (N := some 38) (bz 37 51539607551).toArray rfl rfl (by kernel_rfl) (by decide) (fun K hK => ?_)
          have CX := Lib.hid (xjoinsN_any RS35.out.pi.is)
          refine goes_ Tryz.func33 (by kernel_rfl) rfl #[pt_ P.px] (by rfl) rfl rfl (by simp only [List.map_toArray, List.map_cons, List.map_nil]; rfl) ?_
          with_reducible refine (CX.out).mono ?_
          rintro e w9 ⟨rfl, rfl⟩
          clear CX
          refine ⟨_, rfl, ?_⟩
          refine hK.out _ _ ⟨(cell_blk (i := 0) RS35.out.py.blk rfl), (cell_blk (i := 3) RS35.out.py.blk rfl)⟩ (fun hHeld => ?_)
          clear hK K
          refine norm_ (a' := ?_) ?_ ?_
          rotate_left
          · show Act.put _ (some 38) _ = _
            simp only [Act.put, sqA, sqZ, sqS, i64_w, i32_w]
            rfl
          refine pure_ (i := 34) (N := some 39) (v := ?_) (a' := ?_) (bz 37 68719476735).toArray rfl rfl (by kernel_rfl) (fun _ _ _ h => h) (Or.inl ⟨by rfl, ?_⟩) ?_ ?_
          rotate_left
          · intro w'
            go_simp
            with_reducible rfl
          rotate_left
          · simp only [Act.put, sqA, sqZ, sqS, i64_w, i32_w]
            rfl
          exact norm_ (by first | (simp only [putAll, Act.put, sqA, sqZ, sqS]; done) | (simp only [putAll, Act.put, sqA, sqZ, sqS]; rfl)) (hCont (tad, tc, g, nn, cap, w13.heap.size) _ ⟨own13, RS35.out⟩)
      · skip
        refine value_ (w1 := ?_) (v := ?_) (by rfl) rfl ?_ ?_
        rotate_left 2
        · go_simp
          constructor
          · rfl
          · rfl
        have RS35 := Lib.hid (RS8.out.alloc_ HT.out)
        refine hK.out _ _ ⟨(cell_blk (i := 0) RS35.out.py.blk rfl), (cell_blk (i := 3) RS35.out.py.blk rfl)⟩ (fun hHeld => ?_)
        clear hK K
        refine norm_ (a' := ?_) ?_ ?_
        rotate_left
        · show Act.put _ (some 3) _ = _
          simp only [Act.put, sqA, sqZ, sqS, i64_w, i32_w]
          rfl
        refine one_ (i := 13) (N := some 18) (bz 37 42672586751).toArray rfl rfl (by kernel_rfl) (by decide) (fun K hK => ?_)
        have TR := Lib.hid (RS35.out.tree_ HT.out)
        refine goes_ Tryz.func29 (by kernel_rfl) rfl #[pt_ P.px] (by rfl) rfl rfl (by simp only [List.map_toArray, List.map_cons, List.map_nil]; rfl) ?_
        with_reducible refine (TR.out).mono ?_
        rintro e w13 ⟨g, nn, cap, own13, rfl, rs13⟩
        have RS13 := Lib.hid rs13
        clear rs13 TR
        refine ⟨_, rfl, ?_⟩
        refine hK.out _ _ ⟨(cell_blk (i := 0) RS13.out.py.blk rfl), (cell_blk (i := 3) RS13.out.py.blk rfl)⟩ (fun hHeld => ?_)
        clear hK K
        refine norm_ (a' := ?_) ?_ ?_
        rotate_left
        · show Act.put _ (some 18) _ = _
          simp only [Act.put, sqA, sqZ, sqS, i64_w, i32_w]
          rfl
        refine one_ (i := 18) (N := some 23) (bz 37 42672848895).toArray rfl rfl (by kernel_rfl) (by decide) (fun K hK => ?_)
        have CX := Lib.hid (xsteps_any RS13.out.pi.is)
        refine goes_ Tryz.func30 (by kernel_rfl) rfl #[pt_ P.px] (by rfl) rfl rfl (by simp only [List.map_toArray, List.map_cons, List.map_nil]; rfl) ?_
        with_reducible refine (CX.out).mono ?_
        rintro e w9 ⟨rfl, rfl⟩
        clear CX
        refine ⟨_, rfl, ?_⟩
        refine hK.out _ _ ⟨(cell_blk (i := 0) RS13.out.py.blk rfl), (cell_blk (i := 3) RS13.out.py.blk rfl)⟩ (fun hHeld => ?_)
        clear hK K
        refine norm_ (a' := ?_) ?_ ?_
        rotate_left
        · show Act.put _ (some 23) _ = _
          simp only [Act.put, sqA, sqZ, sqS, i64_w, i32_w]
          rfl
        refine one_ (i := 23) (N := some 28) (bz 37 42681237503).toArray rfl rfl (by kernel_rfl) (by decide) (fun K hK => ?_)
        have CX := Lib.hid (xused_any RS13.out.pi.is)
        refine goes_ Tryz.func31 (by kernel_rfl) rfl #[pt_ P.px] (by rfl) rfl rfl (by simp only [List.map_toArray, List.map_cons, List.map_nil]; rfl) ?_
        with_reducible refine (CX.out).mono ?_
        rintro e w9 ⟨rfl, rfl⟩
        clear CX
        refine ⟨_, rfl, ?_⟩
        refine hK.out _ _ ⟨(cell_blk (i := 0) RS13.out.py.blk rfl), (cell_blk (i := 3) RS13.out.py.blk rfl)⟩ (fun hHeld => ?_)
        clear hK K
        refine norm_ (a' := ?_) ?_ ?_
        rotate_left
        · show Act.put _ (some 28) _ = _
          simp only [Act.put, sqA, sqZ, sqS, i64_w, i32_w]
          rfl
        refine one_ (i := 28) (N := some 33) (bz 37 42949672959).toArray rfl rfl (by kernel_rfl) (by decide) (fun K hK => ?_)
        have CX := Lib.hid (xsplits_any RS13.out.pi.is)
        refine goes_ Tryz.func32 (by kernel_rfl) rfl #[pt_ P.px] (by rfl) rfl rfl (by simp only [List.map_toArray, List.map_cons, List.map_nil]; rfl) ?_
        with_reducible refine (CX.out).mono ?_
        rintro e w9 ⟨rfl, rfl⟩
        clear CX
        refine ⟨_, rfl, ?_⟩
        refine hK.out _ _ ⟨(cell_blk (i := 0) RS13.out.py.blk rfl), (cell_blk (i := 3) RS13.out.py.blk rfl)⟩ (fun hHeld => ?_)
        clear hK K
        refine norm_ (a' := ?_) ?_ ?_
        rotate_left
        · show Act.put _ (some 33) _ = _
          simp only [Act.put, sqA, sqZ, sqS, i64_w, i32_w]
          rfl
        refine one_ (i := 33) (N := some 38) (bz 37 51539607551).toArray rfl rfl (by kernel_rfl) (by decide) (fun K hK => ?_)
        have CX := Lib.hid (xjoinsN_any RS13.out.pi.is)
        refine goes_ Tryz.func33 (by kernel_rfl) rfl #[pt_ P.px] (by rfl) rfl rfl (by simp only [List.map_toArray, List.map_cons, List.map_nil]; rfl) ?_
        with_reducible refine (CX.out).mono ?_
        rintro e w9 ⟨rfl, rfl⟩
        clear CX
        refine ⟨_, rfl, ?_⟩
        refine hK.out _ _ ⟨(cell_blk (i := 0) RS13.out.py.blk rfl), (cell_blk (i := 3) RS13.out.py.blk rfl)⟩ (fun hHeld => ?_)
        clear hK K
        refine norm_ (a' := ?_) ?_ ?_
        rotate_left
        · show Act.put _ (some 38) _ = _
          simp only [Act.put, sqA, sqZ, sqS, i64_w, i32_w]
          rfl
        refine pure_ (i := 34) (N := some 39) (v := ?_) (a' := ?_) (bz 37 68719476735).toArray rfl rfl (by kernel_rfl) (fun _ _ _ h => h) (Or.inl ⟨by rfl, ?_⟩) ?_ ?_
        rotate_left
        · intro w'
          go_simp
          with_reducible rfl
        rotate_left
        · simp only [Act.put, sqA, sqZ, sqS, i64_w, i32_w]
          rfl
        exact norm_ (by first | (simp only [putAll, Act.put, sqA, sqZ, sqS]; done) | (simp only [putAll, Act.put, sqA, sqZ, sqS]; rfl)) (hCont (tad, tc, g, nn, cap, w8.heap.size) _ ⟨own13, RS13.out⟩)
    · skip
      refine value_ (w1 := ?_) (v := ?_) (by rfl) rfl ?_ ?_
      rotate_left 2
      · go_simp
        constructor
        · rfl
        · rfl
      have RS35 := Lib.hid (show RS W w P own q o2 Y TQ lcs ocs lcap ocap (.slice had hn hc) hs w.heap.size none none (some w1.heap.size) ((w1.alloc (.cells #[.int .i64 0, .slice none 0 0, .slice none 0 0, .int .i64 0, .slice none 0 0, .int .i64 0, .int .i64 0, .int .i64 0, .int .i64 0, .int .i64 0] 40)).drew) own from RSs.out.alloc_ HT.out)
      refine hK.out _ _ ⟨(cell_blk (i := 0) RS35.out.py.blk rfl), (cell_blk (i := 3) RS35.out.py.blk rfl)⟩ (fun hHeld => ?_)
      clear hK K
      refine norm_ (a' := ?_) ?_ ?_
      rotate_left
      · show Act.put _ (some 3) _ = _
        simp only [Act.put, sqA, sqZ, sqS, i64_w, i32_w]
        rfl
      refine one_ (i := 8) (N := some 13) (bz 37 42672578559).toArray rfl rfl (by kernel_rfl) (by decide) (fun K hK => ?_)
      have OD := Lib.hid (RS35.out.order_ HT.out HNO.out HO.out)
      refine goes_ Tryz.func28 (by kernel_rfl) rfl #[pt_ P.px] (by rfl) rfl rfl (by simp only [List.map_toArray, List.map_cons, List.map_nil]; rfl) ?_
      with_reducible refine (OD.out).mono ?_
      rintro e w8 ⟨tad, tc, rfl, rs8⟩
      have RS8 := Lib.hid rs8
      clear rs8 OD
      refine ⟨_, rfl, ?_⟩
      refine hK.out _ _ ⟨(cell_blk (i := 0) RS8.out.py.blk rfl), (cell_blk (i := 3) RS8.out.py.blk rfl)⟩ (fun hHeld => ?_)
      clear hK K
      refine norm_ (a' := ?_) ?_ ?_
      rotate_left
      · show Act.put _ (some 13) _ = _
        simp only [Act.put, sqA, sqZ, sqS, i64_w, i32_w]
        rfl
      refine one_ (i := 13) (N := some 18) (bz 37 42672586751).toArray rfl rfl (by kernel_rfl) (by decide) (fun K hK => ?_)
      have TR := Lib.hid (RS8.out.tree_ HT.out)
      refine goes_ Tryz.func29 (by kernel_rfl) rfl #[pt_ P.px] (by rfl) rfl rfl (by simp only [List.map_toArray, List.map_cons, List.map_nil]; rfl) ?_
      with_reducible refine (TR.out).mono ?_
      rintro e w13 ⟨g, nn, cap, own13, rfl, rs13⟩
      have RS13 := Lib.hid rs13
      clear rs13 TR
      refine ⟨_, rfl, ?_⟩
      refine hK.out _ _ ⟨(cell_blk (i := 0) RS13.out.py.blk rfl), (cell_blk (i := 3) RS13.out.py.blk rfl)⟩ (fun hHeld => ?_)
      clear hK K
      refine norm_ (a' := ?_) ?_ ?_
      rotate_left
      · show Act.put _ (some 18) _ = _
        simp only [Act.put, sqA, sqZ, sqS, i64_w, i32_w]
        rfl
      refine one_ (i := 18) (N := some 23) (bz 37 42672848895).toArray rfl rfl (by kernel_rfl) (by decide) (fun K hK => ?_)
      have CX := Lib.hid (xsteps_any RS13.out.pi.is)
      refine goes_ Tryz.func30 (by kernel_rfl) rfl #[pt_ P.px] (by rfl) rfl rfl (by simp only [List.map_toArray, List.map_cons, List.map_nil]; rfl) ?_
      with_reducible refine (CX.out).mono ?_
      rintro e w9 ⟨rfl, rfl⟩
      clear CX
      refine ⟨_, rfl, ?_⟩
      refine hK.out _ _ ⟨(cell_blk (i := 0) RS13.out.py.blk rfl), (cell_blk (i := 3) RS13.out.py.blk rfl)⟩ (fun hHeld => ?_)
      clear hK K
      refine norm_ (a' := ?_) ?_ ?_
      rotate_left
      · show Act.put _ (some 23) _ = _
        simp only [Act.put, sqA, sqZ, sqS, i64_w, i32_w]
        rfl
      refine one_ (i := 23) (N := some 28) (bz 37 42681237503).toArray rfl rfl (by kernel_rfl) (by decide) (fun K hK => ?_)
      have CX := Lib.hid (xused_any RS13.out.pi.is)
      refine goes_ Tryz.func31 (by kernel_rfl) rfl #[pt_ P.px] (by rfl) rfl rfl (by simp only [List.map_toArray, List.map_cons, List.map_nil]; rfl) ?_
      with_reducible refine (CX.out).mono ?_
      rintro e w9 ⟨rfl, rfl⟩
      clear CX
      refine ⟨_, rfl, ?_⟩
      refine hK.out _ _ ⟨(cell_blk (i := 0) RS13.out.py.blk rfl), (cell_blk (i := 3) RS13.out.py.blk rfl)⟩ (fun hHeld => ?_)
      clear hK K
      refine norm_ (a' := ?_) ?_ ?_
      rotate_left
      · show Act.put _ (some 28) _ = _
        simp only [Act.put, sqA, sqZ, sqS, i64_w, i32_w]
        rfl
      refine one_ (i := 28) (N := some 33) (bz 37 42949672959).toArray rfl rfl (by kernel_rfl) (by decide) (fun K hK => ?_)
      have CX := Lib.hid (xsplits_any RS13.out.pi.is)
      refine goes_ Tryz.func32 (by kernel_rfl) rfl #[pt_ P.px] (by rfl) rfl rfl (by simp only [List.map_toArray, List.map_cons, List.map_nil]; rfl) ?_
      with_reducible refine (CX.out).mono ?_
      rintro e w9 ⟨rfl, rfl⟩
      clear CX
      refine ⟨_, rfl, ?_⟩
      refine hK.out _ _ ⟨(cell_blk (i := 0) RS13.out.py.blk rfl), (cell_blk (i := 3) RS13.out.py.blk rfl)⟩ (fun hHeld => ?_)
      clear hK K
      refine norm_ (a' := ?_) ?_ ?_
      rotate_left
      · show Act.put _ (some 33) _ = _
        simp only [Act.put, sqA, sqZ, sqS, i64_w, i32_w]
        rfl
      refine one_ (i := 33) (N := some 38) (bz 37 51539607551).toArray rfl rfl (by kernel_rfl) (by decide) (fun K hK => ?_)
      have CX := Lib.hid (xjoinsN_any RS13.out.pi.is)
      refine goes_ Tryz.func33 (by kernel_rfl) rfl #[pt_ P.px] (by rfl) rfl rfl (by simp only [List.map_toArray, List.map_cons, List.map_nil]; rfl) ?_
      with_reducible refine (CX.out).mono ?_
      rintro e w9 ⟨rfl, rfl⟩
      clear CX
      refine ⟨_, rfl, ?_⟩
      refine hK.out _ _ ⟨(cell_blk (i := 0) RS13.out.py.blk rfl), (cell_blk (i := 3) RS13.out.py.blk rfl)⟩ (fun hHeld => ?_)
      clear hK K
      refine norm_ (a' := ?_) ?_ ?_
      rotate_left
      · show Act.put _ (some 38) _ = _
        simp only [Act.put, sqA, sqZ, sqS, i64_w, i32_w]
        rfl
      refine pure_ (i := 34) (N := some 39) (v := ?_) (a' := ?_) (bz 37 68719476735).toArray rfl rfl (by kernel_rfl) (fun _ _ _ h => h) (Or.inl ⟨by rfl, ?_⟩) ?_ ?_
      rotate_left
      · intro w'
        go_simp
        with_reducible rfl
      rotate_left
      · simp only [Act.put, sqA, sqZ, sqS, i64_w, i32_w]
        rfl
      exact norm_ (by first | (simp only [putAll, Act.put, sqA, sqZ, sqS]; done) | (simp only [putAll, Act.put, sqA, sqZ, sqS]; rfl)) (hCont (tad, tc, g, nn, cap, w1.heap.size) _ ⟨own13, RS13.out⟩)
  rintro ⟨tad, tc, g, nn, cap, b3⟩ w4 ⟨own4, rs4⟩
  have RS4 := Lib.hid rs4
  clear rs4
  have hHeld : w4.cell? ⟨q.pp, 0, none⟩ = some (pt_ P.px) ∧ w4.cell? ⟨q.pp, 3, none⟩ = some (.slice had hn hc) := ⟨(cell_blk (i := 0) RS4.out.py.blk rfl), (cell_blk (i := 3) RS4.out.py.blk rfl)⟩
  have Z4 := Lib.hid (RS4.out.b3 _ rfl).2.2.2.2
  have fz0 := free_blk (i := 0) Z4.out
  have fz1 := free_blk (i := 1) Z4.out
  have fz2 := free_blk (i := 2) Z4.out
  have fz3 := free_blk (i := 3) Z4.out
  have fz4 := free_blk (i := 4) Z4.out
  have fz5 := free_blk (i := 5) Z4.out
  have fz6 := free_blk (i := 6) Z4.out
  have fz7 := free_blk (i := 7) Z4.out
  have fz8 := free_blk (i := 8) Z4.out
  have fz9 := free_blk (i := 9) Z4.out
  have cz0 := cell_blk (i := 0) Z4.out rfl
  have cz1 := cell_blk (i := 1) Z4.out rfl
  have cz2 := cell_blk (i := 2) Z4.out rfl
  have cz3 := cell_blk (i := 3) Z4.out rfl
  have cz4 := cell_blk (i := 4) Z4.out rfl
  have cz5 := cell_blk (i := 5) Z4.out rfl
  have cz6 := cell_blk (i := 6) Z4.out rfl
  have cz7 := cell_blk (i := 7) Z4.out rfl
  have cz8 := cell_blk (i := 8) Z4.out rfl
  have cz9 := cell_blk (i := 9) Z4.out rfl
  have lz := lt_of_some Z4.out
  refine norm_ (a' := ?_) ?_ ?_
  rotate_left
  · simp only [putAll, Act.put, sqA, sqZ, sqS]
    rfl
  refine last_ (i := 36) (N := none) (bz 37 137438953471).toArray rfl rfl (by kernel_rfl) (by decide) (fun K hK => ?_)
  refine skip_ (w1 := ?_) (by rfl) rfl ?_ ?_
  rotate_left
  · go_simp
    rfl
  refine hK.out _ _ ?_
  clear hK K
  refine done_ (by kernel_rfl) ?_
  change Exit.then _ _ _ _ (set10 w4 b3 (.int .i64 0) (.slice had hn hc) (.slice tad no tc) (.int .i64 0) (.slice (some ⟨g, 0, none⟩) nn cap) (.int .i64 0) (.int .i64 S1.steps) (.int .i64 (usedO (some S1.a))) (.int .i64 S1.splits) (.int .i64 S1.joins))
  have BW4 := Lib.hid RS4.out.pi.is.below
  have WB3 := Lib.hid (show W.heap.size ≤ b3 from Nat.le_trans H0.out.is.below.size (RS4.out.b3 _ rfl).2.2.2.1)
  have WRB := Lib.hid (show W.heap.size ≤ w.heap.size from H0.out.is.below.size)
  have NE3 := Lib.hid (RS4.out.b3 _ rfl).2.2.1
  have RT5 := Lib.hid (show RT W w P own q o2 { Y with S := S1 } TQ lcs ocs lcap ocap (.slice had hn hc) hs w.heap.size (.slice tad no tc) g nn cap b3 #[.int .i64 0, .slice none 0 0, .slice none 0 0, .int .i64 0, .slice none 0 0, .int .i64 0, .int .i64 0, .int .i64 0, .int .i64 0, .int .i64 0] #[.int .i64 0, .slice had hn hc, .slice tad no tc, .int .i64 0, .slice (some ⟨g, 0, none⟩) nn cap, .int .i64 ((0 : Nat) : Int), .int .i64 S1.steps, .int .i64 (usedO (some S1.a)), .int .i64 S1.splits, .int .i64 S1.joins] (set10 w4 b3 (.int .i64 0) (.slice had hn hc) (.slice tad no tc) (.int .i64 0) (.slice (some ⟨g, 0, none⟩) nn cap) (.int .i64 0) (.int .i64 S1.steps) (.int .i64 (usedO (some S1.a))) (.int .i64 S1.splits) (.int .i64 S1.joins)) own4 from RS4.out.rt.turn HT.out (set10_below BW4.out WB3.out (.int .i64 0) (.slice had hn hc) (.slice tad no tc) (.int .i64 0) (.slice (some ⟨g, 0, none⟩) nn cap) (.int .i64 0) (.int .i64 S1.steps) (.int .i64 (usedO (some S1.a))) (.int .i64 S1.splits) (.int .i64 S1.joins)) (set10_size _ _ (.int .i64 0) (.slice had hn hc) (.slice tad no tc) (.int .i64 0) (.slice (some ⟨g, 0, none⟩) nn cap) (.int .i64 0) (.int .i64 S1.steps) (.int .i64 (usedO (some S1.a))) (.int .i64 S1.splits) (.int .i64 S1.joins)) (fun b _ hb => set10_other (.int .i64 0) (.slice had hn hc) (.slice tad no tc) (.int .i64 0) (.slice (some ⟨g, 0, none⟩) nn cap) (.int .i64 0) (.int .i64 S1.steps) (.int .i64 (usedO (some S1.a))) (.int .i64 S1.splits) (.int .i64 S1.joins) hb) ((set10_other (.int .i64 0) (.slice had hn hc) (.slice tad no tc) (.int .i64 0) (.slice (some ⟨g, 0, none⟩) nn cap) (.int .i64 0) (.int .i64 S1.steps) (.int .i64 (usedO (some S1.a))) (.int .i64 S1.splits) (.int .i64 S1.joins) (fun e => NE3.out e.symm)).trans RS4.out.t2.2.2.1) (set10_heap (.int .i64 0) (.slice had hn hc) (.slice tad no tc) (.int .i64 0) (.slice (some ⟨g, 0, none⟩) nn cap) (.int .i64 0) (.int .i64 S1.steps) (.int .i64 (usedO (some S1.a))) (.int .i64 S1.splits) (.int .i64 S1.joins) Z4.out))
  generalize set10 w4 b3 (.int .i64 0) (.slice had hn hc) (.slice tad no tc) (.int .i64 0) (.slice (some ⟨g, 0, none⟩) nn cap) (.int .i64 0) (.int .i64 S1.steps) (.int .i64 (usedO (some S1.a))) (.int .i64 S1.splits) (.int .i64 S1.joins) = w5 at RT5 ⊢
  clear fz0 cz0 fz1 cz1 fz2 cz2 fz3 cz3 fz4 cz4 fz5 cz5 fz6 cz6 fz7 cz7 fz8 cz8 fz9 cz9 lz Z4 BW4 RS4
  obtain ⟨n, hn_⟩ : ∃ n, n = P.pts.length := ⟨_, rfl⟩
  have HNP := Lib.hid hn_
  have hn1000 : n ≤ 1000 := by rw [hn_]; exact HN.out
  clear hn_
  have cp2 : w5.cell? ⟨q.pp, 2, none⟩ = some (.slice (some ⟨q.ob, 0, none⟩) n ocap) := by rw [HNP.out]; exact cell_blk (i := 2) RT5.out.py.blk rfl
  go_wp2_with fail
  clear cp2
  go_loopw [45] (fun i wr => ∃ k : Nat, k ≤ n ∧ i = .int .i64 k ∧ Hid (RT W w P own q o2 { Y with S := S1 } TQ lcs ocs lcap ocap (.slice had hn hc) hs w.heap.size (.slice tad no tc) g nn cap b3 #[.int .i64 0, .slice none 0 0, .slice none 0 0, .int .i64 0, .slice none 0 0, .int .i64 0, .int .i64 0, .int .i64 0, .int .i64 0, .int .i64 0] #[.int .i64 0, .slice had hn hc, .slice tad no tc, .int .i64 0, .slice (some ⟨g, 0, none⟩) nn cap, .int .i64 ((pendN S1 k : Nat) : Int), .int .i64 S1.steps, .int .i64 (usedO (some S1.a)), .int .i64 S1.splits, .int .i64 S1.joins] wr own4)) (fun i _ => n - (intOf i).toNat)
  case atStart => exact ⟨0, Nat.zero_le _, rfl, RT5⟩
  case round =>
    obtain ⟨k, hk, rfl, RK⟩ := hrel
    by_cases hlt : k < n
    · obtain ⟨pk, hpk⟩ : ∃ pk, P.pts[k]? = some pk := ⟨_, List.getElem?_eq_getElem (by rw [← HNP.out]; exact hlt)⟩
      have HPK := Lib.hid hpk
      clear hpk
      have ca : wr.cell? ⟨q.pp, 0, none⟩ = some (pt_ P.px) := cell_blk (i := 0) RK.out.py.blk rfl
      go_wp2_with fail
      refine (xbusy_any RK.out.pi.is HPK.out).mono ?_
      rintro e w' ⟨rfl, rfl⟩
      cases hbz : (S1.th k).busy with
      | true =>
        obtain ⟨m, hm⟩ : ∃ m, m = pendN S1 k := ⟨_, rfl⟩
        have hm1 : m ≤ 1000 := by have := pendN_le S1 k; omega
        have HM := Lib.hid hm
        have hz := RK.out.t3.2.2.1
        rw [← hm] at hz
        clear hm
        have HZ := Lib.hid hz
        clear hz
        have cz5 := cell_blk (i := 5) HZ.out rfl
        have fz5 := free_blk (i := 5) HZ.out
        have lz := lt_of_some HZ.out
        go_wp2_with fail
        go_roundw
        case rel =>
          refine ⟨k + 1, by omega, by go_num, Lib.hid ?_⟩
          rw [show pendN S1 (k + 1) = m + 1 by unfold pendN; rw [if_pos hbz, HM.out]]
          refine RK.out.turn HT.out (RK.out.pi.is.below.setCell WB3.out _) (by simp [World.setCell]) (fun b _ hb => setCell_other _ hb) ((setCell_other _ (fun e => NE3.out e.symm)).trans RK.out.t2.2.2.1) ?_
          rw [heap_setCell_same wr b3 5 _ _ _ HZ.out]; rfl
        case measure => simp [intOf]; omega
      | false =>
        go_wp2_with fail
        go_roundw
        case rel => exact ⟨k + 1, by omega, by go_num, Lib.hid (by rw [show pendN S1 (k + 1) = pendN S1 k by show pendN S1 k + _ = _; rw [if_neg (by rw [hbz]; decide)]; rfl]; exact RK.out)⟩
        case measure => simp [intOf]; omega
    · have hkn : k = n := by omega
      subst hkn
      obtain ⟨m, hm⟩ : ∃ m, m = pendN S1 k := ⟨_, rfl⟩
      have HM := Lib.hid hm
      have hz := RK.out.t3.2.2.1
      rw [← hm] at hz
      clear hm
      have HZ := Lib.hid hz
      clear hz
      have H2 := Lib.hid RK.out.t2.2.2.1
      have cz0 := cell_blk (i := 0) HZ.out rfl
      have cz1 := cell_blk (i := 1) HZ.out rfl
      have cz2 := cell_blk (i := 2) HZ.out rfl
      have cz3 := cell_blk (i := 3) HZ.out rfl
      have cz4 := cell_blk (i := 4) HZ.out rfl
      have cz5 := cell_blk (i := 5) HZ.out rfl
      have cz6 := cell_blk (i := 6) HZ.out rfl
      have cz7 := cell_blk (i := 7) HZ.out rfl
      have cz8 := cell_blk (i := 8) HZ.out rfl
      have cz9 := cell_blk (i := 9) HZ.out rfl
      have cy0 := cell_blk (i := 0) H2.out rfl
      have cy1 := cell_blk (i := 1) H2.out rfl
      have cy2 := cell_blk (i := 2) H2.out rfl
      have cy3 := cell_blk (i := 3) H2.out rfl
      have cy4 := cell_blk (i := 4) H2.out rfl
      have cy5 := cell_blk (i := 5) H2.out rfl
      have cy6 := cell_blk (i := 6) H2.out rfl
      have cy7 := cell_blk (i := 7) H2.out rfl
      have cy8 := cell_blk (i := 8) H2.out rfl
      have cy9 := cell_blk (i := 9) H2.out rfl
      have fy0 := free_blk (i := 0) H2.out
      have fy1 := free_blk (i := 1) H2.out
      have fy2 := free_blk (i := 2) H2.out
      have fy3 := free_blk (i := 3) H2.out
      have fy4 := free_blk (i := 4) H2.out
      have fy5 := free_blk (i := 5) H2.out
      have fy6 := free_blk (i := 6) H2.out
      have fy7 := free_blk (i := 7) H2.out
      have fy8 := free_blk (i := 8) H2.out
      have fy9 := free_blk (i := 9) H2.out
      have lz := lt_of_some HZ.out
      have ly := lt_of_some H2.out
      go_wp2_with fail
      refine bodyPost_ret (v := .agg #[.int .i64 0, .slice had hn hc, .slice tad no tc, .int .i64 0, .slice (some ⟨g, 0, none⟩) nn cap, .int .i64 (m : Int), .int .i64 S1.steps, .int .i64 (usedO (some S1.a)), .int .i64 S1.splits, .int .i64 S1.joins]) (by simp [results, Tryz.results11, go_sem, ly, cy0, fy0, cy1, fy1, cy2, fy2, cy3, fy3, cy4, fy4, cy5, fy5, cy6, fy6, cy7, fy7, cy8, fy8, cy9, fy9]) rfl ?_
      have RE := Lib.hid (show RT W w P own q o2 { Y with S := S1 } TQ lcs ocs lcap ocap (.slice had hn hc) hs w.heap.size (.slice tad no tc) g nn cap b3 #[.int .i64 0, .slice had hn hc, .slice tad no tc, .int .i64 0, .slice (some ⟨g, 0, none⟩) nn cap, .int .i64 (m : Int), .int .i64 S1.steps, .int .i64 (usedO (some S1.a)), .int .i64 S1.splits, .int .i64 S1.joins] #[.int .i64 0, .slice had hn hc, .slice tad no tc, .int .i64 0, .slice (some ⟨g, 0, none⟩) nn cap, .int .i64 (m : Int), .int .i64 S1.steps, .int .i64 (usedO (some S1.a)), .int .i64 S1.splits, .int .i64 S1.joins] (set10 wr w.heap.size (.int .i64 0) (.slice had hn hc) (.slice tad no tc) (.int .i64 0) (.slice (some ⟨g, 0, none⟩) nn cap) (.int .i64 (m : Int)) (.int .i64 S1.steps) (.int .i64 (usedO (some S1.a))) (.int .i64 S1.splits) (.int .i64 S1.joins)) own4 from RK.out.turn HT.out (set10_below RK.out.pi.is.below WRB.out (.int .i64 0) (.slice had hn hc) (.slice tad no tc) (.int .i64 0) (.slice (some ⟨g, 0, none⟩) nn cap) (.int .i64 (m : Int)) (.int .i64 S1.steps) (.int .i64 (usedO (some S1.a))) (.int .i64 S1.splits) (.int .i64 S1.joins)) (set10_size _ _ (.int .i64 0) (.slice had hn hc) (.slice tad no tc) (.int .i64 0) (.slice (some ⟨g, 0, none⟩) nn cap) (.int .i64 (m : Int)) (.int .i64 S1.steps) (.int .i64 (usedO (some S1.a))) (.int .i64 S1.splits) (.int .i64 S1.joins)) (fun b hb _ => set10_other (.int .i64 0) (.slice had hn hc) (.slice tad no tc) (.int .i64 0) (.slice (some ⟨g, 0, none⟩) nn cap) (.int .i64 (m : Int)) (.int .i64 S1.steps) (.int .i64 (usedO (some S1.a))) (.int .i64 S1.splits) (.int .i64 S1.joins) hb) (set10_heap (.int .i64 0) (.slice had hn hc) (.slice tad no tc) (.int .i64 0) (.slice (some ⟨g, 0, none⟩) nn cap) (.int .i64 (m : Int)) (.int .i64 S1.steps) (.int .i64 (usedO (some S1.a))) (.int .i64 S1.splits) (.int .i64 S1.joins) H2.out) ((set10_other (.int .i64 0) (.slice had hn hc) (.slice tad no tc) (.int .i64 0) (.slice (some ⟨g, 0, none⟩) nn cap) (.int .i64 (m : Int)) (.int .i64 S1.steps) (.int .i64 (usedO (some S1.a))) (.int .i64 S1.splits) (.int .i64 S1.joins) NE3.out).trans HZ.out))
      obtain ⟨TB, htq, htb⟩ := RE.out.tr
      refine ⟨own4, lcs, ocs, lcap, ocap, had, hn, hc, hs, tad, no, tc, g, nn, cap, TB, by rw [← HNP.out, ← HM.out], HHN.out, ?_, RE.out.pi, RE.out.py, RE.out.fp, ?_, fun b e => (RE.out.tv.2 b e).1, htq, fun b hB => ⟨(htb b hB).2.1, (htb b hB).1⟩⟩
      · rw [HNO.out]; exact congrArg List.length HT.out.order.symm
      · have h1 := RE.out.tv.1; rw [show ({ Y with S := S1 } : Py).S.order.length = no from by rw [HNO.out]; exact congrArg List.length HT.out.order] at h1; exact h1
end Go.Proofs.YtghjnkfocjjlnaaGreat
