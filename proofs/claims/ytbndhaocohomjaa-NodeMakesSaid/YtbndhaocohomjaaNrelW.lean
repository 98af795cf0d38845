/- Rows of nodes of the call's own: one more appended. -/
import Derived.Test.YtbndhaocohomjaaMakesP
namespace Go.Proofs.Ytbndhaocohomjaa
set_option maxRecDepth 100000
set_option linter.unusedVariables false
set_option linter.unusedSimpArgs false
open Go.RowKit

theorem info_node : (Try.prog.info? 36).map (fun i => (i.zero, i.size, i.bytes)) = some (some (.agg #[.int .i64 0, .int .i64 0, .int .i64 0, .int .i64 0, .int .i64 0, .int .i64 0]), 6, 48) := by kernel_rfl
def cellsN (n : Nd) : List Value := (valsN n).map (Value.int .i64)
theorem cellsN_len (n : Nd) : (cellsN n).length = 6 := rfl
def cellsNd (l : List Nd) : List Value := l.flatMap cellsN
theorem cellsNd_snoc (l : List Nd) (x : Nd) : cellsNd (l ++ [x]) = cellsNd l ++ cellsN x := by simp [cellsNd]
theorem cellsNd_at : ∀ (l : List Nd) (j i : Nat) (hj : j < l.length) (v : Value), (cellsN l[j])[i]? = some v → (cellsNd l)[j * 6 + i]? = some v
  | x :: r, 0, i, _, v, h => by
    have e : cellsNd (x :: r) = cellsN x ++ cellsNd r := by simp [cellsNd]
    have hi : i < (cellsN x).length := (List.getElem?_eq_some_iff.1 h).1
    rw [e, Nat.zero_mul, Nat.zero_add, List.getElem?_append_left hi]
    exact h
  | x :: r, j + 1, i, hj, v, h => by
    have e : cellsNd (x :: r) = cellsN x ++ cellsNd r := by simp [cellsNd]
    have h' := cellsNd_at r j i (by simpa using hj) v (by simpa using h)
    rw [e, List.getElem?_append_right (by rw [cellsN_len]; omega), cellsN_len, show (j + 1) * 6 + i - 6 = j * 6 + i by omega]
    exact h'
structure NRel (B : Nat) (wr : World) (v : Value) (out : List Nd) : Prop where
  own : wr.ownsRow B 36 6 v out.length (cellsNd out)
  le : B ≤ wr.heap.size
theorem NRel.alloc {B : Nat} {wr : World} {v : Value} {out : List Nd} (h : NRel B wr v out) (o : Obj) : NRel B (wr.alloc o) v out :=
  ⟨h.own.alloc o, by have := h.le; simp; omega⟩
theorem NRel.later {B : Nat} {wr w' : World} {v : Value} {out : List Nd} (h : NRel B wr v out) (hb : Below wr.heap.size wr w') : NRel B w' v out :=
  ⟨ownsRow_same h.own (fun b hv => hb.block b (h.own.lt b hv).2), Nat.le_trans h.le hb.size⟩
theorem NRel.same {B : Nat} {wr w' : World} {v : Value} {out : List Nd} (h : NRel B wr v out) (hs : ∀ b, v.ownBlock = some b → w'.heap[b]? = wr.heap[b]?) (hz : wr.heap.size ≤ w'.heap.size) : NRel B w' v out :=
  ⟨ownsRow_same h.own hs, Nat.le_trans h.le hz⟩
theorem NRel.grow {B : Nat} {F F' : Nat → Prop} {wr w' : World} {v : Value} {out : List Nd} (h : NRel B wr v out) (hg : Grow F wr F' w') (hF : ∀ b, v.ownBlock = some b → ¬ F b) : NRel B w' v out :=
  h.same (fun b hv => hg.1.block b (h.own.lt b hv).2 (hF b hv)) hg.1.size
theorem NRel.start (B : Nat) (W : World) (h : B ≤ W.heap.size) : NRel B W (.slice none 0 0) [] := ⟨World.ownsRow_nil _ _ _ _, h⟩
/-- What the walk reads of such a row. -/
theorem NRel.gives {B : Nat} {wr : World} {v : Value} {out : List Nd} (h : NRel B wr v out) : ∃ ad c, v = .slice ad out.length c ∧ out.length ≤ c := by
  rcases h.own.2 with ⟨rfl, h2⟩ | ⟨g, cap, cur, rfl, hb, hg, hc, hm, _⟩
  · have : out = [] := List.eq_nil_of_length_eq_zero h2
    subst this
    exact ⟨none, 0, rfl, Nat.le_refl _⟩
  · exact ⟨_, cap, rfl, hc⟩
theorem NRel.cells {B : Nat} {wr : World} {ad : Option Addr} {c : Nat} {out : List Nd} (h : NRel B wr (.slice ad out.length c) out) {j : Nat} (hj : j < out.length) :
    ∃ g, ad = some ⟨g, 0, none⟩ ∧ B ≤ g ∧ g < wr.heap.size ∧ ∀ i v, (cellsN out[j])[i]? = some v → wr.cell? ⟨g, j * 6 + i, none⟩ = some v := by
  rcases h.own.2 with ⟨h1, h2⟩ | ⟨g, cap, cur, h1, hb, hg, hc, hm, _⟩
  · omega
  · have h0 := h1
    simp only [Value.slice.injEq, true_and] at h1
    obtain ⟨rfl, rfl⟩ := h1
    refine ⟨g, rfl, hb, (Array.getElem?_eq_some_iff.1 hg).1, fun i v hv => ?_⟩
    have hi : i < 6 := (List.getElem?_eq_some_iff.1 hv).1
    rw [h.own.cellAt _ (by omega)]
    exact cellsNd_at out j i hj v hv
/-- One node appended: the row lies where it lay, or in the next block. -/
theorem wp_app1N {P' : Array Oper} {rest : List Oper} {o : Oper} {a : Act} {Q : Exit → Act → World → Prop} {B : Nat} {w : World} {y : Nd} {v : Value} {out : List Nd} {g : Nat} (hgd : o.guard = none) (s x : Operand)
    (ho : o.op = .call { callee := .builtin .append, args := #[s, x], argTypes := #[27, 27] }) (hs : a.eval s = v) (hx : a.eval x = .slice (some ⟨g, 0, none⟩) 1 1) (R : NRel B w v out)
    (hg : w.heap[g]? = some (.cells (cellsN y).toArray 36 (0, 0))) (hlen : out.length ≤ 100001)
    (h : ∀ v' w', NRel B w' v' (out ++ [y]) → w.grownBy w' v.ownBlock → (∀ b, v'.ownBlock = some b → v.ownBlock = some b ∨ b = w.heap.size) → wpList Try.prog P' Q rest (a.put o.dst v') w') :
    wpList Try.prog P' Q (o :: rest) a w := by
  obtain ⟨i0, hi, hz0, hz1, hz2⟩ := info_parts info_node
  refine wpList_append_lies (P := Try.prog) w hgd s x 27 ho B 36 i0 _ 6 48 Try.underlying27 hi hz0 hz1 hz2 rfl (by decide) v out.length (cellsNd out) hs R.own ⟨g, 0, none⟩ 1 1 (cellsN y) hx rfl ?_ (fun u hu => by simp [cellsN, valsN] at hu; rcases hu with rfl | rfl | rfl | rfl | rfl | rfl <;> rfl) (by decide) (by unfold maxLen; omega) (by omega) R.le _ rfl ?_
  · intro j u hu
    have hadd : (⟨g, 0, none⟩ : Addr).add j = ⟨g, j, none⟩ := by unfold Addr.add; split <;> simp_all
    rw [hadd]
    exact cell_blk hg (by simpa using hu)
  · intro g' cap w' hown hgrow hlie _
    refine h _ w' ⟨by rw [cellsNd_snoc, List.length_append]; exact hown, Nat.le_trans R.le hgrow.size⟩ hgrow (fun b hb => ?_)
    obtain rfl : g' = b := by simpa [Value.ownBlock] using hb
    exact hlie
theorem St.apart {W w w' : World} {po : Option Addr} {A : OA} {F : Nat → Prop} {r : Option Nat} (h : St W w po A F) (hg : w.grownBy w' r) (hr : ∀ b, r = some b → ¬ F b ∧ W.heap.size ≤ b) : St W w' po A F :=
  ⟨h.arena.same (fun b hb => hg.block b (h.arena.lt b hb) (fun e => (hr b e.symm).1 hb)) hg.size, h.below.grown hg h.size (fun k hk => (hr k hk).2), h.own⟩
/-- Nothing but one block of the law's own has turned. -/
theorem St.only {W w w' : World} {po : Option Addr} {A : OA} {F : Nat → Prop} {x : Nat} (h : St W w po A F) (hf : Frame (fun b => b = x) w w') (hx : ¬ F x) (hW : W.heap.size ≤ x) : St W w' po A F :=
  ⟨h.arena.frame hf (fun b hb e => hx (e ▸ hb)), h.below.trans (hf.below (fun b hb => by rw [hb]; exact hW) h.size), h.own⟩
theorem NRel.only {B : Nat} {wr w' : World} {v : Value} {out : List Nd} {x : Nat} (h : NRel B wr v out) (hf : Frame (fun b => b = x) wr w') (hx : v.ownBlock ≠ some x) : NRel B w' v out :=
  h.same (fun b hv => hf.block b (h.own.lt b hv).2 (fun e => hx (by rw [← e]; exact hv))) hf.size
/-- The block of a node that grows: size and height are stored one after the other. -/
abbrev wbO (k v l r s g : Int) : Obj := .cells #[.int .i64 k, .int .i64 v, .int .i64 l, .int .i64 r, .int .i64 s, .int .i64 g] 36 (0, 0)
theorem wb_set {w : World} {b : Nat} {k v l r s g : Int} (h : w.heap[b]? = some (wbO k v l r s g)) (x y : Int) : ((w.setCell ⟨b, 4, none⟩ (.int .i64 x)).setCell ⟨b, 5, none⟩ (.int .i64 y)).heap[b]? = some (wbO k v l r x y) := by
  have h4 : (w.setCell ⟨b, 4, none⟩ (.int .i64 x)).heap[b]? = some (wbO k v l r x g) := by rw [heap_setCell_same w b 4 _ _ _ h]; rfl
  rw [heap_setCell_same _ b 5 _ _ _ h4]; rfl
theorem wb_frame (w : World) (b : Nat) (x y : Value) : Frame (fun z => z = b) w ((w.setCell ⟨b, 4, none⟩ x).setCell ⟨b, 5, none⟩ y) :=
  (frame_setCell (F := fun z => z = b) (a := ⟨b, 4, none⟩) (show b = b from rfl) x).trans (frame_setCell (F := fun z => z = b) (a := ⟨b, 5, none⟩) (show b = b from rfl) y) fun _ _ h => h
theorem Frame.drawn {F : Nat → Prop} {w w' : World} (h : Frame F w w') {w2 : World} (h1 : w2.os = w'.os) (h2 : w2.tape = w'.tape) (h3 : w2.output = w'.output) (h4 : w2.heap = w'.heap) : Frame F w w2 :=
  ⟨h1.trans h.os, h2.trans h.tape, h3.trans h.output, by rw [h4]; exact h.size, fun b hb hn => by rw [h4]; exact h.block b hb hn⟩
def szJ (a b : Int) : Nat → Int
  | 0 => 1
  | 1 => 1 + a
  | _ => 1 + a + b
def hgJ (a b : Int) : Nat → Int
  | 0 => 1
  | 1 => 1 + a
  | _ => topH a b
def WbAt (w : World) (b : Nat) (k v l r s g : Int) : Prop := w.heap[b]? = some (wbO k v l r s g)

end Go.Proofs.Ytbndhaocohomjaa
