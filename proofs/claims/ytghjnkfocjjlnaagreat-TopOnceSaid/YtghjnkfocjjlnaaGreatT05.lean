/- The walks of High, With and Pairs. -/
/- Treaps in an arena: what is told by a node that is the treap of some pairs. Plain Lean. -/
/- The walks of Pairs, Laid. -/
/- The walks of the packages' own hangs, and look's get. -/
/- Lists of pairs whose keys rise: With puts in, Pairs gives them; the pair above all others. Plain Lean. -/
import Derived.Test.YtghjnkfocjjlnaaGreatT03
import Derived.Test.YtghjnkfocjjlnaaGreatT04
import Derived.Test.YtghjnkfocjjlnaaGreatT00
set_option linter.unusedSimpArgs false
set_option linter.unusedVariables false
section
namespace Go.Proofs.YtghjnkfocjjlnaaGreat
set_option maxRecDepth 100000
open Go.RowKit Go.Proofs.YtghjnkfocjjlnaaGreat.Mix Go.Proofs.YtghjnkfocjjlnaaGreatW.PrintWords Go.Proofs.YtghjnkfocjjlnaaGreatW.PrintLast
set_option linter.unusedSimpArgs false
set_option linter.unusedVariables false
theorem info_pair : (Tryz.prog.info? 43).map (fun i => (i.zero, i.size, i.bytes)) = some (some (.agg #[.int .i64 0, .int .i64 0]), 2, 16) := by kernel_rfl
def cellsP (l : List Pr) : List Value := l.flatMap fun x => [.int .i64 x.1, .int .i64 x.2]
theorem cellsP_snoc (l : List Pr) (x : Pr) : cellsP (l ++ [x]) = cellsP l ++ [.int .i64 x.1, .int .i64 x.2] := by simp [cellsP]
theorem cellsP_at : ∀ (l : List Pr) (j : Nat) (hj : j < l.length), (cellsP l)[j * 2]? = some (.int .i64 (l[j]).1) ∧ (cellsP l)[j * 2 + 1]? = some (.int .i64 (l[j]).2)
  | x :: r, 0, _ => by simp [cellsP]
  | x :: r, j + 1, hj => by
    have h := cellsP_at r j (by simpa using hj)
    have e : cellsP (x :: r) = .int .i64 x.1 :: .int .i64 x.2 :: cellsP r := by simp [cellsP]
    rw [e, show (j + 1) * 2 = j * 2 + 1 + 1 by omega]
    simpa using h
/-- What With's loop keeps: the pairs gathered, in a row of its own; the pair's own box. -/
structure WRel (W wr : World) (p : Pr) (v : Value) (out : List Pr) : Prop where
  own : wr.ownsRow (W.heap.size + 1) 43 2 v out.length (cellsP out)
  box : wr.heap[W.heap.size]? = some (.cells #[.int .i64 p.1, .int .i64 p.2] 43 (0, 0))
  below : Below W.heap.size W wr
theorem WRel.lt {W wr : World} {p : Pr} {v : Value} {out : List Pr} (h : WRel W wr p v out) : W.heap.size < wr.heap.size := (Array.getElem?_eq_some_iff.1 h.box).1
theorem WRel.alloc {W wr : World} {p : Pr} {v : Value} {out : List Pr} (h : WRel W wr p v out) (o : Obj) : WRel W (wr.alloc o) p v out :=
  ⟨h.own.alloc o, (heap_alloc_old wr o h.lt).trans h.box, h.below.alloc (Nat.le_of_lt h.lt) o⟩
theorem WRel.grown {W wr w' : World} {p : Pr} {v v' : Value} {out : List Pr} (x : Pr) (h : WRel W wr p v out) (hg : wr.grownBy w' v.ownBlock)
    (ho : w'.ownsRow (W.heap.size + 1) 43 2 v' (out.length + 1) (cellsP out ++ [.int .i64 x.1, .int .i64 x.2])) : WRel W w' p v' (out ++ [x]) := by
  refine ⟨by rw [cellsP_snoc, List.length_append, List.length_singleton]; exact ho, ?_, h.below.grown hg (Nat.le_of_lt h.lt) (fun k hk => by have := (h.own.lt k hk).1; omega)⟩
  rw [hg.block _ h.lt (fun e => by have := (h.own.lt _ e.symm).1; omega)]
  exact h.box
theorem WRel.start (W : World) (p : Pr) : WRel W (W.alloc (.cells #[.int .i64 p.1, .int .i64 p.2] 43)) p (.slice none 0 0) [] :=
  ⟨World.ownsRow_nil _ _ _ _, heap_alloc_new W _, (Below.refl _ _).alloc (Nat.le_refl _) _⟩
/-- What is gathered, as a slice of pairs in new memory. -/
theorem WRel.gives {W wr : World} {p : Pr} {v : Value} {out : List Pr} (h : WRel W wr p v out) : ∃ ad c, v = .slice ad out.length c ∧ PIn wr ad c out ∧ (∀ x, ad = some x → W.heap.size ≤ x.block) := by
  rcases h.own.2 with ⟨rfl, h2⟩ | ⟨g, cap, cur, rfl, hb, hg, hc, hm, _⟩
  · have : out = [] := List.eq_nil_of_length_eq_zero h2
    subst this
    exact ⟨none, 0, rfl, ⟨.inl rfl, Nat.le_refl _, by decide⟩, by simp⟩
  · refine ⟨_, cap, rfl, ⟨.inr ⟨g, 0, rfl, fun j hj => ?_⟩, hc, hm⟩, fun x hx => by obtain rfl := Option.some.inj hx; show W.heap.size ≤ g; omega⟩
    obtain ⟨h1, h2⟩ := cellsP_at out j hj
    rw [Nat.zero_add, h.own.cellAt _ (by omega), h.own.cellAt _ (by omega)]
    exact ⟨h1, h2⟩
end Go.Proofs.YtghjnkfocjjlnaaGreat
end
section
namespace Go.Proofs.YtghjnkfocjjlnaaGreat
set_option maxRecDepth 100000
open Go.RowKit (wrap64)
/-- As it was, and more records behind. -/
def Ext (a a' : Ar) : Prop := a'.room = a.room ∧ a'.steps = a.steps ∧ ∃ r, a'.slots = a.slots ++ r
theorem Ext.refl (a : Ar) : Ext a a := ⟨rfl, rfl, [], by simp⟩
theorem Ext.trans {a b c : Ar} (h : Ext a b) (k : Ext b c) : Ext a c := by
  obtain ⟨h1, h2, r, h3⟩ := h
  obtain ⟨k1, k2, s, k3⟩ := k
  exact ⟨k1.trans h1, k2.trans h2, r ++ s, by rw [k3, h3, List.append_assoc]⟩
theorem Ext.len {a b : Ar} (h : Ext a b) : a.slots.length ≤ b.slots.length := by
  obtain ⟨_, _, r, h3⟩ := h
  rw [h3, List.length_append]; omega
theorem Ext.slot {a b : Ar} (h : Ext a b) {id : Int} (h1 : 1 ≤ id) (h2 : id ≤ a.slots.length) : slotAt b id = slotAt a id := by
  obtain ⟨_, _, r, h3⟩ := h
  unfold slotAt
  rw [h3, List.getD_eq_getElem?_getD, List.getD_eq_getElem?_getD, List.getElem?_append_left (by omega)]
theorem kind_some (a : Ar) (id : Int) : kindO (some a) id = if 1 ≤ id ∧ id ≤ a.slots.length then (slotAt a id).kind else 0 := rfl
theorem val_some (a : Ar) (id i : Int) : valO (some a) id i = if 1 ≤ id ∧ id ≤ a.slots.length ∧ (slotAt a id).kind ≠ 0 ∧ 0 ≤ i ∧ i < (slotAt a id).vals.length then (slotAt a id).vals.getD i.toNat 0 else 0 := rfl
theorem isN_in {a : Ar} {t : Int} (h : isN (some a) t = true) : 1 ≤ t ∧ t ≤ a.slots.length ∧ (slotAt a t).kind = 1 := by
  unfold isN at h
  have h' := of_decide_eq_true h
  rw [kind_some] at h'
  by_cases hc : 1 ≤ t ∧ t ≤ a.slots.length
  · rw [if_pos hc] at h'; exact ⟨hc.1, hc.2, h'⟩
  · rw [if_neg hc] at h'; omega
theorem isN_of {a : Ar} {t : Int} (h1 : 1 ≤ t) (h2 : t ≤ a.slots.length) (h3 : (slotAt a t).kind = 1) : isN (some a) t = true := by
  unfold isN; rw [kind_some, if_pos ⟨h1, h2⟩, h3]; rfl
theorem getN_of {a : Ar} {t k v x y s g : Int} (h1 : 1 ≤ t) (h2 : t ≤ a.slots.length) (h3 : slotAt a t = ⟨1, [k, v, x, y, s, g]⟩) : getN (some a) t = ⟨k, v, x, y, s, g⟩ := by
  unfold getN
  have hk : kindO (some a) t = 1 := by rw [kind_some, if_pos ⟨h1, h2⟩, h3]
  rw [if_pos hk]
  simp [val_some, h3, h1, h2]
theorem getN_no {a : Ar} {t : Int} (h : isN (some a) t = false) : getN (some a) t = ⟨0, 0, 0, 0, 0, 0⟩ := by
  unfold getN
  unfold isN at h
  rw [if_neg (of_decide_eq_false h)]
theorem isN_zero (a : Ar) : isN (some a) 0 = false := by
  unfold isN; rw [kind_some, if_neg (by omega)]; rfl
theorem Ext.node {a b : Ar} (h : Ext a b) {t : Int} (hn : isN (some a) t = true) : isN (some b) t = true := by
  obtain ⟨h1, h2, h3⟩ := isN_in hn
  have := h.len
  exact isN_of h1 (by omega) (by rw [h.slot h1 h2, h3])
theorem Ext.says {a b : Ar} (h : Ext a b) {t : Int} (hn : isN (some a) t = true) : getN (some b) t = getN (some a) t := by
  obtain ⟨h1, h2, h3⟩ := isN_in hn
  have := h.len
  have hs := h.slot h1 h2
  unfold getN
  simp only [kind_some, val_some, hs, h1, h2, true_and, and_self, if_true, show t ≤ (b.slots.length : Int) by omega]
/-- The treap of some pairs, at a number. -/
inductive Tr (a : Ar) : Int → List Pr → Prop
  | nil : Tr a 0 []
  | node (t k v x y : Int) (l1 l2 : List Pr) (hn : isN (some a) t = true) (hg : getN (some a) t = ⟨k, v, x, y, ((l1 ++ (k, v) :: l2).length : Int), (hgt (l1 ++ (k, v) :: l2) : Int)⟩)
      (ht : top (l1 ++ (k, v) :: l2) = (l1.length : Int)) (hx : x < t) (hy : y < t) (h1 : Tr a x l1) (h2 : Tr a y l2) : Tr a t (l1 ++ (k, v) :: l2)
theorem Tr.ext {a b : Ar} {t : Int} {l : List Pr} (h : Ext a b) (ht : Tr a t l) : Tr b t l := by
  induction ht with
  | nil => exact .nil
  | node t k v x y l1 l2 hn hg ht hx hy h1 h2 i1 i2 => exact .node t k v x y l1 l2 (h.node hn) ((h.says hn).trans hg) ht hx hy i1 i2
theorem Tr.size {a : Ar} {t : Int} {l : List Pr} (ht : Tr a t l) : (getN (some a) t).size = l.length ∧ (getN (some a) t).high = hgt l := by
  cases ht with
  | nil => rw [getN_no (isN_zero a)]; exact ⟨rfl, rfl⟩
  | node t k v x y l1 l2 hn hg => rw [hg]; exact ⟨rfl, rfl⟩
theorem Tr.arg {a : Ar} {t : Int} {l : List Pr} (ht : Tr a t l) : t = 0 ∨ isN (some a) t = true := by
  cases ht with
  | nil => exact .inl rfl
  | node t k v x y l1 l2 hn hg => exact .inr hn
theorem Tr.le {a : Ar} {t : Int} {l : List Pr} (ht : Tr a t l) : 0 ≤ t ∧ t ≤ a.slots.length := by
  rcases ht.arg with rfl | h
  · omega
  · obtain ⟨h1, h2, _⟩ := isN_in h; omega
def pushN (a : Ar) (k v x y s h : Int) : Ar := ⟨a.room, a.slots ++ [⟨1, [k, v, x, y, s, h]⟩], a.steps⟩
theorem pushN_ext (a : Ar) (k v x y s h : Int) : Ext a (pushN a k v x y s h) := ⟨rfl, rfl, _, rfl⟩
theorem pushN_slot (a : Ar) (k v x y s h : Int) : slotAt (pushN a k v x y s h) (a.slots.length + 1) = ⟨1, [k, v, x, y, s, h]⟩ := by
  unfold slotAt pushN
  rw [show ((a.slots.length : Int) + 1 - 1).toNat = a.slots.length by omega, List.getD_eq_getElem?_getD]
  simp
theorem pushN_len (a : Ar) (k v x y s h : Int) : (pushN a k v x y s h).slots.length = a.slots.length + 1 := by simp [pushN]
theorem hgt_at {l : List Pr} {m : Nat} (h : top l = m) : hgt l = 1 + max (hgt (l.take m)) (hgt (l.drop (m + 1))) := by
  rw [hgt_eq, h, if_neg (by omega), Int.toNat_natCast]
theorem wrap_id {x : Int} (h1 : 0 ≤ x) (h2 : x ≤ 9000000) : wrap64 x = x := by unfold wrap64; omega
theorem add_ok {a : Ar} {s : Slot} (h : (a.slots.length : Int) < a.room) : addA a s = ((a.slots.length : Int) + 1, 0, ⟨a.room, a.slots ++ [s], a.steps⟩) := by
  unfold addA; rw [if_neg (by omega)]
theorem add_full {a : Ar} {s : Slot} (h : a.room - (a.slots.length : Int) = 0) : addA a s = (0, 2, a) := by
  unfold addA; rw [if_pos h]
theorem makeO_some (a : Ar) (k : Int) (l : List Int) (h : ¬ (k < 1 ∨ 12 < (l.length : Int))) : makeO (some a) k l = ((addA a ⟨k, l⟩).1, (addA a ⟨k, l⟩).2.1, some (addA a ⟨k, l⟩).2.2) := by
  show (if k < 1 ∨ 12 < (l.length : Int) then _ else _) = _
  rw [if_neg h]
/-- A node made of a pair and two treaps is the treap of all. -/
theorem make_tr {a : Ar} {x y k v : Int} {l1 l2 : List Pr} (h1 : Tr a x l1) (h2 : Tr a y l2) (ht : top (l1 ++ (k, v) :: l2) = (l1.length : Int)) (hlen : (l1 ++ (k, v) :: l2).length ≤ 1000000)
    (hr : (a.slots.length : Int) < a.room) : ∃ a', makeN (some a) k v x y = ((a.slots.length : Int) + 1, 0, some a') ∧ Ext a a' ∧ a'.slots.length = a.slots.length + 1 ∧ Tr a' ((a.slots.length : Int) + 1) (l1 ++ (k, v) :: l2) := by
  have s1 := h1.size
  have s2 := h2.size
  have b1 := hgt_le l1
  have b2 := hgt_le l2
  have e1 := h1.le
  have e2 := h2.le
  have hl : (l1 ++ (k, v) :: l2).length = l1.length + l2.length + 1 := by simp; omega
  have hh : hgt (l1 ++ (k, v) :: l2) = 1 + max (hgt l1) (hgt l2) := by
    rw [hgt_at ht]
    simp
  have hv : nodeVals (some a) k v x y = [k, v, x, y, ((l1 ++ (k, v) :: l2).length : Int), (hgt (l1 ++ (k, v) :: l2) : Int)] := by
    unfold nodeVals
    rw [s1.1, s1.2, s2.1, s2.2]
    rw [wrap_id (x := (l1.length : Int) + l2.length) (by omega) (by omega), wrap_id (x := (l1.length : Int) + l2.length + 1) (by omega) (by omega), hl, hh]
    split
    · rw [wrap_id (by omega) (by omega)]
      have : (hgt l2 : Int) + 1 = ((1 + max (hgt l1) (hgt l2) : Nat) : Int) := by omega
      rw [this]; rfl
    · rw [wrap_id (by omega) (by omega)]
      have : (hgt l1 : Int) + 1 = ((1 + max (hgt l1) (hgt l2) : Nat) : Int) := by omega
      rw [this]; rfl
  have hb : badArg (some a) x y = false := by
    unfold badArg
    rcases h1.arg with r1 | r1 <;> rcases h2.arg with r2 | r2 <;> simp [r1, r2]
  have hm : makeN (some a) k v x y = ((a.slots.length : Int) + 1, 0, some (pushN a k v x y ((l1 ++ (k, v) :: l2).length : Int) (hgt (l1 ++ (k, v) :: l2) : Int))) := by
    unfold makeN
    rw [hb, hv]
    rw [if_neg (by decide), makeO_some _ _ _ (by simp), add_ok hr]
    rfl
  refine ⟨_, hm, pushN_ext _ _ _ _ _ _ _, pushN_len _ _ _ _ _ _ _, ?_⟩
  refine .node _ k v x y l1 l2 (isN_of (by omega) (by rw [pushN_len]; omega) (by rw [pushN_slot])) (getN_of (by omega) (by rw [pushN_len]; omega) (pushN_slot _ _ _ _ _ _ _)) ht (by omega) (by omega)
    (h1.ext (pushN_ext _ _ _ _ _ _ _)) (h2.ext (pushN_ext _ _ _ _ _ _ _))
theorem make_full {a : Ar} {x y k v : Int} {l1 l2 : List Pr} (h1 : Tr a x l1) (h2 : Tr a y l2) (hr : a.room - (a.slots.length : Int) = 0) : makeN (some a) k v x y = (0, 2, some a) := by
  have hb : badArg (some a) x y = false := by
    unfold badArg
    rcases h1.arg with r1 | r1 <;> rcases h2.arg with r2 | r2 <;> simp [r1, r2]
  unfold makeN
  rw [hb]
  unfold nodeVals
  rw [if_neg (by decide), makeO_some _ _ _ (by simp), add_full hr]
/-- All numbers from one on are treaps of some pairs. -/
def AllTr (a : Ar) (n : Nat) : Prop := ∀ id : Int, (n : Int) < id → id ≤ a.slots.length → ∃ l, Tr a id l ∧ l ≠ [] ∧ l.length ≤ 1000000
theorem AllTr.ext {a b : Ar} {n : Nat} (h : AllTr a n) (e : Ext a b) (k : AllTr b a.slots.length) : AllTr b n := fun id h1 h2 => by
  by_cases hi : id ≤ a.slots.length
  · obtain ⟨l, h3, h4⟩ := h id h1 hi
    exact ⟨l, h3.ext e, h4⟩
  · exact k id (by omega) h2
theorem AllTr.refl (a : Ar) : AllTr a a.slots.length := fun id h1 h2 => by omega
end Go.Proofs.YtghjnkfocjjlnaaGreat
end
section
namespace Go.Proofs.YtghjnkfocjjlnaaGreat
set_option maxRecDepth 100000
open Go.RowKit Go.Proofs.YtghjnkfocjjlnaaGreat.Mix
/-- A slice of pairs beside an arena. -/
structure PK (w : World) (F : Nat → Prop) (ad : Option Addr) (c : Nat) (l : List Pr) : Prop where
  pin : PIn w ad c l
  free : l ≠ [] → ∀ x, ad = some x → ¬ F x.block
theorem PK.grow {w w' : World} {F F' : Nat → Prop} {ad : Option Addr} {c : Nat} {l : List Pr} (h : PK w F ad c l) (hg : Grow F w F' w') : PK w' F' ad c l := by
  by_cases h0 : l = []
  · exact ⟨⟨.inl h0, h.pin.room, h.pin.most⟩, fun hn => absurd h0 hn⟩
  · rcases h.pin.at_ with h1 | ⟨b, off, rfl, hc⟩
    · exact absurd h1 h0
    · have hb : b < w.heap.size := World.block_lt_of_cell? w _ (hc 0 (List.length_pos_iff.2 h0)).1
      have hf := h.free h0 _ rfl
      have he := hg.1.block b hb hf
      refine ⟨⟨.inr ⟨b, off, rfl, fun j hj => ?_⟩, h.pin.room, h.pin.most⟩, fun _ x hx => ?_⟩
      · obtain ⟨h1, h2⟩ := hc j hj
        have hcell : ∀ o, w'.cell? ⟨b, o, none⟩ = w.cell? ⟨b, o, none⟩ := fun o => by simp [World.cell?, he]
        rw [hcell, hcell]; exact ⟨h1, h2⟩
      · obtain rfl := Option.some.inj hx
        exact fun hh => (hg.2 b hh).elim hf (fun h => by omega)
theorem PK.later {w w' : World} {F : Nat → Prop} {ad : Option Addr} {c : Nat} {l : List Pr} (h : PK w F ad c l) (hb : Below w.heap.size w w') : PK w' F ad c l := h.grow (.of_below hb)
theorem PK.cells {w : World} {F : Nat → Prop} {ad : Option Addr} {c : Nat} {l : List Pr} (h : PK w F ad c l) {k : Nat} (hk : k < l.length) :
    ∃ b off, ad = some ⟨b, off, none⟩ ∧ ∀ w' F', PK w' F' ad c l → w'.cell? ⟨b, off + k * 2, none⟩ = some (.int .i64 (l[k]).1) ∧ w'.cell? ⟨b, off + k * 2 + 1, none⟩ = some (.int .i64 (l[k]).2) := by
  rcases h.pin.at_ with h0 | ⟨b, off, rfl, hc⟩
  · subst h0; simp at hk
  · refine ⟨b, off, rfl, fun w' F' h' => ?_⟩
    rcases h'.pin.at_ with h0 | ⟨b', off', he, hc'⟩
    · subst h0; simp at hk
    · obtain ⟨rfl, rfl⟩ : b = b' ∧ off = off' := by simpa using he
      exact hc' k hk
end Go.Proofs.YtghjnkfocjjlnaaGreat
end
section
namespace Go.Proofs.YtghjnkfocjjlnaaGreat
set_option maxRecDepth 100000
open Go.RowKit Go.Proofs.YtghjnkfocjjlnaaGreatW.PrintWords Go.Proofs.YtghjnkfocjjlnaaGreatW.PrintLast
set_option linter.unusedSimpArgs false
set_option linter.unusedVariables false
/-- A child's number, if it hangs below. -/
def hangO (A : OA) (x t : Int) : Int := if isN A t = true ∧ t < x then t else 0
set_option maxHeartbeats 1000000 in
theorem hang_look {w : World} {po : Option Addr} {A : OA} {F : Nat → Prop} (h : OAt w po A F) (x t : Int) :
    Calls Tryz.prog 174 #[.pointer po, .int .i64 x, .int .i64 t] w fun e w' => e = .returned (.int .i64 (hangO A x t)) ∧ Below w.heap.size w w' := by
  have hg := get_any h t
  by_cases hn : isN A t = true
  · rw [hn] at hg
    have HG := Lib.hid hg; clear hg
    by_cases hx : t < x
    · rw [show hangO A x t = t by unfold hangO; rw [if_pos ⟨hn, hx⟩]]
      have hx2 : ¬ (x ≤ t) := by omega
      clear hn h
      go_enter Tryz.func174, Tryz.ntmps174
      go_wp2_with fail
      refine HG.out.mono ?_
      rintro e w1 ⟨rfl, b1⟩
      have B1 := Lib.hid b1; clear b1
      go_wp2_with fail
      go_ret
      exact ⟨rfl, B1.out.alloc B1.out.size _⟩
    · rw [show hangO A x t = 0 by unfold hangO; rw [if_neg (fun hh => hx hh.2)]]
      have hx2 : x ≤ t := by omega
      clear hn h hx
      go_enter Tryz.func174, Tryz.ntmps174
      go_wp2_with fail
      refine HG.out.mono ?_
      rintro e w1 ⟨rfl, b1⟩
      have B1 := Lib.hid b1; clear b1
      go_wp2_with fail
      go_ret
      exact ⟨rfl, B1.out.alloc B1.out.size _⟩
  · have hn2 : isN A t = false := by simpa using hn
    rw [hn2] at hg
    have HG := Lib.hid hg; clear hg
    rw [show hangO A x t = 0 by unfold hangO; rw [if_neg (fun hh => hn hh.1)]]
    clear hn hn2 h
    go_enter Tryz.func174, Tryz.ntmps174
    go_wp2_with fail
    refine HG.out.mono ?_
    rintro e w1 ⟨rfl, b1⟩
    have B1 := Lib.hid b1; clear b1
    go_wp2_with fail
    go_ret
    exact ⟨rfl, B1.out.alloc B1.out.size _⟩
set_option maxHeartbeats 1000000 in
theorem hang_put {w : World} {po : Option Addr} {A : OA} {F : Nat → Prop} (h : OAt w po A F) (x t : Int) :
    Calls Tryz.prog 185 #[.pointer po, .int .i64 x, .int .i64 t] w fun e w' => e = .returned (.int .i64 (hangO A x t)) ∧ Below w.heap.size w w' := by
  have hg := get_any h t
  by_cases hn : isN A t = true
  · rw [hn] at hg
    have HG := Lib.hid hg; clear hg
    by_cases hx : t < x
    · rw [show hangO A x t = t by unfold hangO; rw [if_pos ⟨hn, hx⟩]]
      have hx2 : ¬ (x ≤ t) := by omega
      clear hn h
      go_enter Tryz.func185, Tryz.ntmps185
      go_wp2_with fail
      refine HG.out.mono ?_
      rintro e w1 ⟨rfl, b1⟩
      have B1 := Lib.hid b1; clear b1
      go_wp2_with fail
      go_ret
      exact ⟨rfl, B1.out.alloc B1.out.size _⟩
    · rw [show hangO A x t = 0 by unfold hangO; rw [if_neg (fun hh => hx hh.2)]]
      have hx2 : x ≤ t := by omega
      clear hn h hx
      go_enter Tryz.func185, Tryz.ntmps185
      go_wp2_with fail
      refine HG.out.mono ?_
      rintro e w1 ⟨rfl, b1⟩
      have B1 := Lib.hid b1; clear b1
      go_wp2_with fail
      go_ret
      exact ⟨rfl, B1.out.alloc B1.out.size _⟩
  · have hn2 : isN A t = false := by simpa using hn
    rw [hn2] at hg
    have HG := Lib.hid hg; clear hg
    rw [show hangO A x t = 0 by unfold hangO; rw [if_neg (fun hh => hn hh.1)]]
    clear hn hn2 h
    go_enter Tryz.func185, Tryz.ntmps185
    go_wp2_with fail
    refine HG.out.mono ?_
    rintro e w1 ⟨rfl, b1⟩
    have B1 := Lib.hid b1; clear b1
    go_wp2_with fail
    go_ret
    exact ⟨rfl, B1.out.alloc B1.out.size _⟩
set_option maxHeartbeats 1000000 in
theorem hang_cut {w : World} {po : Option Addr} {A : OA} {F : Nat → Prop} (h : OAt w po A F) (x t : Int) :
    Calls Tryz.prog 187 #[.pointer po, .int .i64 x, .int .i64 t] w fun e w' => e = .returned (.int .i64 (hangO A x t)) ∧ Below w.heap.size w w' := by
  have hg := get_any h t
  by_cases hn : isN A t = true
  · rw [hn] at hg
    have HG := Lib.hid hg; clear hg
    by_cases hx : t < x
    · rw [show hangO A x t = t by unfold hangO; rw [if_pos ⟨hn, hx⟩]]
      have hx2 : ¬ (x ≤ t) := by omega
      clear hn h
      go_enter Tryz.func187, Tryz.ntmps187
      go_wp2_with fail
      refine HG.out.mono ?_
      rintro e w1 ⟨rfl, b1⟩
      have B1 := Lib.hid b1; clear b1
      go_wp2_with fail
      go_ret
      exact ⟨rfl, B1.out.alloc B1.out.size _⟩
    · rw [show hangO A x t = 0 by unfold hangO; rw [if_neg (fun hh => hx hh.2)]]
      have hx2 : x ≤ t := by omega
      clear hn h hx
      go_enter Tryz.func187, Tryz.ntmps187
      go_wp2_with fail
      refine HG.out.mono ?_
      rintro e w1 ⟨rfl, b1⟩
      have B1 := Lib.hid b1; clear b1
      go_wp2_with fail
      go_ret
      exact ⟨rfl, B1.out.alloc B1.out.size _⟩
  · have hn2 : isN A t = false := by simpa using hn
    rw [hn2] at hg
    have HG := Lib.hid hg; clear hg
    rw [show hangO A x t = 0 by unfold hangO; rw [if_neg (fun hh => hn hh.1)]]
    clear hn hn2 h
    go_enter Tryz.func187, Tryz.ntmps187
    go_wp2_with fail
    refine HG.out.mono ?_
    rintro e w1 ⟨rfl, b1⟩
    have B1 := Lib.hid b1; clear b1
    go_wp2_with fail
    go_ret
    exact ⟨rfl, B1.out.alloc B1.out.size _⟩
set_option maxHeartbeats 1000000 in
theorem hang_part {w : World} {po : Option Addr} {A : OA} {F : Nat → Prop} (h : OAt w po A F) (x t : Int) :
    Calls Tryz.prog 205 #[.pointer po, .int .i64 x, .int .i64 t] w fun e w' => e = .returned (.int .i64 (hangO A x t)) ∧ Below w.heap.size w w' := by
  have hg := get_any h t
  by_cases hn : isN A t = true
  · rw [hn] at hg
    have HG := Lib.hid hg; clear hg
    by_cases hx : t < x
    · rw [show hangO A x t = t by unfold hangO; rw [if_pos ⟨hn, hx⟩]]
      have hx2 : ¬ (x ≤ t) := by omega
      clear hn h
      go_enter Tryz.func205, Tryz.ntmps205
      go_wp2_with fail
      refine HG.out.mono ?_
      rintro e w1 ⟨rfl, b1⟩
      have B1 := Lib.hid b1; clear b1
      go_wp2_with fail
      go_ret
      exact ⟨rfl, B1.out.alloc B1.out.size _⟩
    · rw [show hangO A x t = 0 by unfold hangO; rw [if_neg (fun hh => hx hh.2)]]
      have hx2 : x ≤ t := by omega
      clear hn h hx
      go_enter Tryz.func205, Tryz.ntmps205
      go_wp2_with fail
      refine HG.out.mono ?_
      rintro e w1 ⟨rfl, b1⟩
      have B1 := Lib.hid b1; clear b1
      go_wp2_with fail
      go_ret
      exact ⟨rfl, B1.out.alloc B1.out.size _⟩
  · have hn2 : isN A t = false := by simpa using hn
    rw [hn2] at hg
    have HG := Lib.hid hg; clear hg
    rw [show hangO A x t = 0 by unfold hangO; rw [if_neg (fun hh => hn hh.1)]]
    clear hn hn2 h
    go_enter Tryz.func205, Tryz.ntmps205
    go_wp2_with fail
    refine HG.out.mono ?_
    rintro e w1 ⟨rfl, b1⟩
    have B1 := Lib.hid b1; clear b1
    go_wp2_with fail
    go_ret
    exact ⟨rfl, B1.out.alloc B1.out.size _⟩
end Go.Proofs.YtghjnkfocjjlnaaGreat
end
section
namespace Go.Proofs.YtghjnkfocjjlnaaGreat
set_option maxRecDepth 100000
open Go.Proofs.YtghjnkfocjjlnaaGreat.Mix
def Sorted (l : List Pr) : Prop := l.Pairwise (fun x y => x.1 < y.1)
def ins : List Pr → Pr → List Pr
  | [], p => [p]
  | x :: r, p => if p.1 < x.1 then p :: x :: r else if p.1 = x.1 then p :: r else x :: ins r p
theorem ins_mem {l : List Pr} {p x : Pr} : x ∈ ins l p → x = p ∨ x ∈ l := by
  induction l with
  | nil => intro h; simpa [ins] using h
  | cons y r ih =>
    intro h
    simp only [ins] at h
    split at h
    · simpa using h
    · split at h
      · rcases List.mem_cons.1 h with rfl | h
        · exact .inl rfl
        · exact .inr (List.mem_cons_of_mem _ h)
      · rcases List.mem_cons.1 h with rfl | h
        · exact .inr (List.mem_cons_self ..)
        · rcases ih h with h | h
          · exact .inl h
          · exact .inr (List.mem_cons_of_mem _ h)
theorem ins_sorted {l : List Pr} {p : Pr} (h : Sorted l) : Sorted (ins l p) := by
  induction l with
  | nil => simp [ins, Sorted]
  | cons y r ih =>
    have h1 := List.pairwise_cons.1 h
    simp only [ins]
    split
    · rename_i hlt
      refine List.pairwise_cons.2 ⟨fun z hz => ?_, h⟩
      rcases List.mem_cons.1 hz with rfl | hz
      · exact hlt
      · have := h1.1 z hz; omega
    · split
      · rename_i he
        exact List.pairwise_cons.2 ⟨fun z hz => by have := h1.1 z hz; omega, h1.2⟩
      · refine List.pairwise_cons.2 ⟨fun z hz => ?_, ih h1.2⟩
        rcases ins_mem hz with rfl | hz
        · omega
        · exact h1.1 z hz
theorem fold_true (p : Pr) (r : List Pr) (h : ∀ x ∈ r, x.1 ≠ p.1) : ∀ out, r.foldl (stepW p) (out, true) = (out ++ r, true) := by
  induction r with
  | nil => intro out; simp
  | cons x r ih =>
    intro out
    rw [List.foldl_cons]
    have hx : stepW p (out, true) x = (out ++ [x], true) := by
      unfold stepW
      rw [if_neg (by simp), if_neg (h x (List.mem_cons_self ..))]
    rw [hx, ih (fun y hy => h y (List.mem_cons_of_mem _ hy))]
    simp
theorem fold_false (p : Pr) (l : List Pr) (h : Sorted l) : ∀ out, (if (l.foldl (stepW p) (out, false)).2 = true then (l.foldl (stepW p) (out, false)).1 else (l.foldl (stepW p) (out, false)).1 ++ [p]) = out ++ ins l p := by
  induction l with
  | nil => intro out; simp [ins]
  | cons x r ih =>
    intro out
    have h1 := List.pairwise_cons.1 h
    rw [List.foldl_cons]
    by_cases hle : p.1 ≤ x.1
    · by_cases he : x.1 = p.1
      · have hx : stepW p (out, false) x = (out ++ [p], true) := by
          unfold stepW; rw [if_pos ⟨rfl, hle⟩, if_pos he]
        rw [hx, fold_true p r (fun y hy => by have := h1.1 y hy; omega), if_pos rfl]
        simp only [ins]
        rw [if_neg (by omega), if_pos he.symm]
        simp
      · have hx : stepW p (out, false) x = (out ++ [p] ++ [x], true) := by
          unfold stepW; rw [if_pos ⟨rfl, hle⟩, if_neg he]
        rw [hx, fold_true p r (fun y hy => by have := h1.1 y hy; omega), if_pos rfl]
        simp only [ins]
        rw [if_pos (by omega)]
        simp
    · have hx : stepW p (out, false) x = (out ++ [x], false) := by
        unfold stepW; rw [if_neg (fun hh => hle hh.2), if_neg (by omega)]
      rw [hx, ih h1.2]
      simp only [ins]
      rw [if_neg (by omega), if_neg (by omega)]
      simp
theorem withP_ins (l : List Pr) (p : Pr) (h : Sorted l) : withP l p = ins l p := by
  have := fold_false p l h []
  rw [List.nil_append] at this
  exact this
theorem pairsB_sorted (raw : List Pr) (most : Int) : ∀ k, Sorted (pairsB raw most k)
  | 0 => List.Pairwise.nil
  | k + 1 => by
    have ih := pairsB_sorted raw most k
    simp only [pairsB]
    split
    · rw [withP_ins _ _ ih]; exact ins_sorted ih
    · exact ih
theorem pairsB_mem (raw : List Pr) (most : Int) : ∀ k, k ≤ raw.length → ∀ x ∈ pairsB raw most k, x ∈ raw
  | 0, _ => by simp [pairsB]
  | k + 1, hk => by
    have ih := pairsB_mem raw most k (by omega)
    simp only [pairsB]
    split
    · rw [withP_ins _ _ (pairsB_sorted raw most k)]
      intro x hx
      rcases ins_mem hx with rfl | hx
      · rw [List.getD_eq_getElem?_getD, List.getElem?_eq_getElem (by omega)]; exact List.getElem_mem _
      · exact ih x hx
    · exact ih
theorem sorted_mid {l1 l2 : List Pr} {x : Pr} : Sorted (l1 ++ x :: l2) ↔ Sorted l1 ∧ Sorted l2 ∧ (∀ y ∈ l1, y.1 < x.1) ∧ (∀ y ∈ l2, x.1 < y.1) ∧ ∀ y ∈ l1, ∀ z ∈ l2, y.1 < z.1 := by
  unfold Sorted
  rw [List.pairwise_append, List.pairwise_cons]
  constructor
  · rintro ⟨h1, ⟨h2, h3⟩, h4⟩
    exact ⟨h1, h3, fun y hy => h4 y hy x (List.mem_cons_self ..), h2, fun y hy z hz => h4 y hy z (List.mem_cons_of_mem _ hz)⟩
  · rintro ⟨h1, h2, h3, h4, h5⟩
    refine ⟨h1, ⟨h4, h2⟩, fun y hy z hz => ?_⟩
    rcases List.mem_cons.1 hz with rfl | hz
    · exact h3 y hy
    · exact h5 y hy z hz
/-- What is told of the place of the pair above all others. -/
theorem topB_max (l : List Pr) (hd : ∀ i j, i < l.length → j < l.length → i ≠ j → keyAt l i ≠ keyAt l j) : ∀ k, 0 < k → k ≤ l.length → ∃ m : Nat, topB l k = m ∧ m < k ∧ ∀ j, j < k → j ≠ m → above (keyAt l m) (keyAt l j) = true
  | 0, h, _ => absurd h (by omega)
  | k + 1, _, hk => by
    by_cases h0 : k = 0
    · subst h0
      exact ⟨0, rfl, by omega, fun j h1 h2 => absurd h1 (by omega)⟩
    · obtain ⟨m, h1, h2, h3⟩ := topB_max l hd k (by omega) (by omega)
      have e : topB l (k + 1) = if above (keyAt l k) (keyAt l m) = true then (k : Int) else (m : Int) := by
        simp only [topB]
        rw [h1, if_neg (by omega), Int.toNat_natCast]
      by_cases ha : above (keyAt l k) (keyAt l m) = true
      · rw [if_pos ha] at e
        refine ⟨k, e, by omega, fun j hj hjk => ?_⟩
        by_cases hm : j = m
        · subst hm; exact ha
        · exact above_trans ha (h3 j (by omega) hm)
      · rw [if_neg ha] at e
        refine ⟨m, e, by omega, fun j hj hjm => ?_⟩
        by_cases hm : j = k
        · subst hm
          rcases above_total (hd m j (by omega) (by omega) (fun e => hjm e.symm)) with h | h
          · exact h
          · exact absurd h ha
        · exact h3 j (by omega) hjm
theorem keyAt_eq {l : List Pr} {i : Nat} (h : i < l.length) : keyAt l i = (l[i]).1 := by
  unfold keyAt; rw [List.getD_eq_getElem?_getD, List.getElem?_eq_getElem h]; rfl
theorem Sorted.lt {l : List Pr} (h : Sorted l) {i j : Nat} (hij : i < j) (hj : j < l.length) : keyAt l i < keyAt l j := by
  rw [keyAt_eq (by omega), keyAt_eq hj]
  exact List.pairwise_iff_getElem.1 h i j (by omega) hj hij
theorem Sorted.ne {l : List Pr} (h : Sorted l) : ∀ i j, i < l.length → j < l.length → i ≠ j → keyAt l i ≠ keyAt l j := by
  intro i j hi hj hij
  rcases Nat.lt_or_ge i j with h1 | h1
  · have := h.lt h1 hj; omega
  · have := h.lt (show j < i by omega) hi; omega
/-- Of pairs whose keys rise: the pair between is above all others, and no other place has one that is. -/
theorem top_above {l1 l2 : List Pr} {x : Pr} (hs : Sorted (l1 ++ x :: l2)) (ht : top (l1 ++ x :: l2) = (l1.length : Int)) : (∀ y ∈ l1, above x.1 y.1 = true) ∧ ∀ y ∈ l2, above x.1 y.1 = true := by
  obtain ⟨m, h1, h2, h3⟩ := topB_max _ hs.ne (l1 ++ x :: l2).length (by simp <;> omega) (Nat.le_refl _)
  have hm : m = l1.length := by unfold top at ht; omega
  subst hm
  have hx : keyAt (l1 ++ x :: l2) l1.length = x.1 := by rw [keyAt_eq h2]; simp
  rw [hx] at h3
  constructor
  · intro y hy
    obtain ⟨i, hi, rfl⟩ := List.getElem_of_mem hy
    have := h3 i (by simp; omega) (by omega)
    rw [keyAt_eq (by simp; omega), List.getElem_append_left hi] at this
    exact this
  · intro y hy
    obtain ⟨i, hi, rfl⟩ := List.getElem_of_mem hy
    have := h3 (l1.length + 1 + i) (by simp; omega) (by omega)
    rw [keyAt_eq (by simp; omega)] at this
    simpa [List.getElem_append_right, Nat.add_assoc, Nat.add_comm 1 i] using this
theorem top_of {l1 l2 : List Pr} {x : Pr} (hs : Sorted (l1 ++ x :: l2)) (ha : ∀ y ∈ l1, above x.1 y.1 = true) (hb : ∀ y ∈ l2, above x.1 y.1 = true) : top (l1 ++ x :: l2) = (l1.length : Int) := by
  obtain ⟨m, h1, h2, h3⟩ := topB_max _ hs.ne (l1 ++ x :: l2).length (by simp <;> omega) (Nat.le_refl _)
  have hx : keyAt (l1 ++ x :: l2) l1.length = x.1 := by rw [keyAt_eq (by simp)]; simp
  by_cases hm : m = l1.length
  · subst hm; exact h1
  · have h4 := h3 l1.length (by simp) (fun e => hm e.symm)
    rw [hx] at h4
    have h5 : above x.1 (keyAt (l1 ++ x :: l2) m) = true := by
      rw [keyAt_eq h2]
      rcases Nat.lt_or_ge m l1.length with h | h
      · rw [List.getElem_append_left h]; exact ha _ (List.getElem_mem _)
      · rw [List.getElem_append_right (by omega)]
        obtain ⟨d, hd⟩ : ∃ d, m - l1.length = d + 1 := ⟨m - l1.length - 1, by omega⟩
        have hdl : d < l2.length := by simp at h2; omega
        have : (x :: l2)[m - l1.length]'(by simp; omega) = l2[d] := by
          simp only [hd, List.getElem_cons_succ]
        rw [this]
        exact hb _ (List.getElem_mem _)
    exact absurd (above_trans h4 h5) (by rw [above_irrefl]; decide)
end Go.Proofs.YtghjnkfocjjlnaaGreat
end
